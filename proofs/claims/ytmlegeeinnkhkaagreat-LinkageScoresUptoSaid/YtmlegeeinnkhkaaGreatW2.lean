/- Each function of the program computes what its Lean function says, where that has a value. -/
import Derived.Test.YtmlegeeinnkhkaaGreatW1
set_option linter.unusedVariables false
set_option linter.unusedSimpArgs false
namespace Go.Proofs.YtmlegeeinnkhkaaGreat
open Go Go.Ab
set_option maxRecDepth 20000 in
set_option maxHeartbeats 4000000 in
theorem linkage_places_con {D:Prop} (d1:List (List Int)) (r2:(List (Int×Int))×Int×Bool) (h:linkage_places d1=some r2):Con D Tryz.prog 68 [(.slc (List.map (encL (PV.int .i64)) d1))] (.tup [(.mapv (encK (PV.int .i64) r2.1) (encW (PV.int .i64) r2.1)),(.int .i64 r2.2.1),(.bool r2.2.2)]):=by
 refine zP Tryz.call68 Tryz.func68 rfl Tryz.ntmps68 fun X w hT=>?_
 simp only [linkage_places] at h
 refine zs (zr ?_)
 refine zU (zl (zn (zs (zr ?_))))
 refine zU (zl (zn (zs (zr ?_))))
 refine zU (zl (zn (zs (zs (zr ?_)))))
 refine zU (zl (zn (zb ?_)))
 obtain ⟨o3,h4,h⟩:=zB h
 refine zO (fun (s:(List (Int×Int))×Int×Int)=>⟨[(5,.mapo 15 1),(6,.p (.int .i64 s.2.1)),(16,.p (.slc (List.map (encL (PV.int .i64)) d1))),(17,.p (.int .i64 (d1.length:Int))),(18,.p (.int .i64 s.2.2))],[(15,.map 1 (List.map AV.p (encK (PV.int .i64) s.1)) (List.map AV.p (encW (PV.int .i64) s.1)))]⟩) (fun (o:((List (Int×Int))×Int) ⊕ ((List (Int×Int))×Int×Bool))=>match o with | .inl o5=>tE (cX Tryz.f68 X w D hT) (.exit 0) ⟨[(5,.mapo 15 1),(6,.p (.int .i64 o5.2))],[(15,.map 1 (List.map AV.p (encK (PV.int .i64) o5.1)) (List.map AV.p (encW (PV.int .i64) o5.1)))]⟩ | .inr o6=>tR Tryz.prog Tryz.f68 (.tup [(.mapv (encK (PV.int .i64) o6.1) (encW (PV.int .i64) o6.1)),(.int .i64 o6.2.1),(.bool o6.2.2)])) h4 ?_ ?_
 clear h h4
 intro s x h
 obtain ⟨o7,p8,t9⟩:=s
 simp only [linkage_places_l4] at h
 dsimp only
 refine zs (zr ?_)
 refine zU (zl (zn (zs ?_)))
 rcases zI h with ⟨h10,h⟩ | ⟨h10,h⟩
 refine zi (zk (zn (zs (zb (zs (zr ?_))))))
 obtain ⟨x11,h12,h12a,h12b,h⟩:=zX h
 refine zU (zl (zn (zs (zs (zr ?_)))))
 refine zU (zl (zn ?_))
 rcases zI h with ⟨h13,h⟩ | ⟨h13,h⟩
 refine zi (zs (zr ?_))
 refine zU (zl (zn (zq (zt (yr (zt ?_))))))
 cases h
 exact ⟨rfl,zT Tryz.results68⟩
 refine zj (zk (zn (zs (zr ?_))))
 refine zU (zl (zn (zs (zs (zr ?_)))))
 refine zU (zl (zn (zb ?_)))
 obtain ⟨o14,h15,h⟩:=zB h
 refine zO (fun (s:(List (Int×Int))×Int×Int)=>⟨[(5,.mapo 15 1),(6,.p (.int .i64 p8)),(7,.p (.int .i64 t9)),(8,.p (.slc (List.map (PV.int .i64) x11))),(9,.p (.int .i64 s.2.1)),(16,.p (.slc (List.map (encL (PV.int .i64)) d1))),(17,.p (.int .i64 (d1.length:Int))),(18,.p (.int .i64 t9)),(26,.p (.slc (List.map (PV.int .i64) x11))),(27,.p (.int .i64 (x11.length:Int))),(28,.p (.int .i64 s.2.2))],[(15,.map 1 (List.map AV.p (encK (PV.int .i64) s.1)) (List.map AV.p (encW (PV.int .i64) s.1)))]⟩) (fun (o:((List (Int×Int))) ⊕ ((List (Int×Int))×Int×Bool))=>match o with | .inl o16=>tE (cX Tryz.f68 X w D hT) (.exit 2) ⟨[(5,.mapo 15 1),(6,.p (.int .i64 p8)),(8,.p (.slc (List.map (PV.int .i64) x11))),(16,.p (.slc (List.map (encL (PV.int .i64)) d1))),(17,.p (.int .i64 (d1.length:Int))),(18,.p (.int .i64 t9))],[(15,.map 1 (List.map AV.p (encK (PV.int .i64) o16)) (List.map AV.p (encW (PV.int .i64) o16)))]⟩ | .inr o17=>tR Tryz.prog Tryz.f68 (.tup [(.mapv (encK (PV.int .i64) o17.1) (encW (PV.int .i64) o17.1)),(.int .i64 o17.2.1),(.bool o17.2.2)])) h15 ?_ ?_
 clear h h10 h12 h12a h12b h13 h15
 intro s x h
 obtain ⟨o18,b19,t20⟩:=s
 simp only [linkage_places_l3] at h
 dsimp only
 refine zs (zr ?_)
 refine zU (zl (zn (zs ?_)))
 rcases zI h with ⟨h21,h⟩ | ⟨h21,h⟩
 refine zi (zk (zn (zs (zb (zs (zr ?_))))))
 obtain ⟨x22,h23,h23a,h23b,h⟩:=zX h
 refine zU (zl (zn (zs (zs (zr ?_)))))
 refine zU (zl (zn (zs (zr ?_))))
 refine zU ?_
 rcases zI h with ⟨h24,h⟩ | ⟨h24,h⟩
 refine zw 39 true ?_
 refine zh ?_
 refine zU (zl (zn ?_))
 refine zi (zs (zr ?_))
 refine zU (zl (zn (zq (zt (yr (zt ?_))))))
 cases h
 exact ⟨rfl,zT Tryz.results68⟩
 refine zw 39 false ?_
 refine zg ?_
 refine zg ?_
 refine zg ?_
 refine zU (zl (zn ?_))
 rcases zI h with ⟨h25,h⟩ | ⟨h25,h⟩
 refine zi (zs (zr ?_))
 refine zU (zl (zn (zq (zt (yr (zt ?_))))))
 cases h
 exact ⟨rfl,zT Tryz.results68⟩
 refine zj (zk (zn (zs (zr ?_))))
 refine zU (zl (zn (zr ?_)))
 refine zU (zl (yn (zn (zr ?_))))
 refine zU (zl ?_)
 cases h
 exact ⟨rfl,zE⟩
 refine zj (zx (ze ?_))
 cases h
 exact ⟨rfl,zE⟩
 rcases o14 with o26 | r27
 try simp only at h
 refine zA (yh (zn (zs (zr ?_))))
 refine zU (zl (zn (zr ?_)))
 refine zU (zl (yn (zn (zr ?_))))
 refine zU (zl ?_)
 cases h
 exact ⟨rfl,zE⟩
 try simp only at h
 refine zZ fun s hq=>?_
 refine yr (zt (yr (zt ?_)))
 cases h
 refine ⟨rfl,?_⟩
 exact hq
 refine zj (zx (ze ?_))
 cases h
 exact ⟨rfl,zE⟩
 rcases o3 with ⟨o28,p29⟩ | r30
 try simp only at h
 refine zA (yh (zn (zs (zr ?_))))
 refine zU (zl (zn (zq ?_)))
 cases h
 exact zT Tryz.results68
 try simp only at h
 refine zZ fun s hq=>?_
 refine yr (zt ?_)
 cases h
 exact hq
set_option maxRecDepth 20000 in
set_option maxHeartbeats 4000000 in
theorem linkage_Precision_con {D:Prop} (f1:List (List Int)) (t2:List (List Int)) (r3:Ratio×Int) (h:linkage_Precision f1 t2=some r3):Con D Tryz.prog 30 [(.slc (List.map (encL (PV.int .i64)) f1)),(.slc (List.map (encL (PV.int .i64)) t2))] (.tup [(encRatio r3.1),(.int .i64 r3.2)]):=by
 refine zP Tryz.call30 Tryz.func30 rfl Tryz.ntmps30 fun X w hT=>?_
 simp only [linkage_Precision] at h
 refine zs (zr ?_)
 refine zU (zl (zn (zs (zr ?_))))
 refine zU ?_
 obtain ⟨r4,h5,h⟩:=zB h
 refine zc (linkage_places_con f1 _ h5) ?_
 refine zU (zl (zn (zs (zr ?_))))
 refine zU ?_
 obtain ⟨r6,h7,h⟩:=zB h
 refine zc (linkage_places_con t2 _ h7) ?_
 refine zU (zl (zn (zs (zs (zr ?_)))))
 refine zU ?_
 rcases zI h with ⟨h8,h⟩ | ⟨h8,h⟩
 refine zw 34 false ?_
 refine zg ?_
 refine zg ?_
 refine zU (zl (zn ?_))
 rcases zI h with ⟨h9,h⟩ | ⟨h9,h⟩
 refine zj (zk (zn (zs (zs (zr ?_)))))
 refine zU (zl (zn ?_))
 rcases zI h with ⟨h10,h⟩ | ⟨h10,h⟩
 refine zi (zs (zr ?_))
 refine zU (zl (zn (zq (zt ?_))))
 cases h
 exact zT Tryz.results30
 refine zj (zk (zn (zs (zr ?_))))
 refine zU (zl (zn (zs (zs (zr ?_)))))
 refine zU (zl (zn (zb ?_)))
 obtain ⟨b11,h12,h⟩:=zB h
 refine zO (fun (s:Int×Int)=>⟨[(4,.loc 4 1 0 0),(7,.p (.int .i64 r4.2.1)),(9,.p (.mapv (encK (PV.int .i64) r6.1) (encW (PV.int .i64) r6.1))),(12,.p (.int .i64 s.1)),(42,.p (.slc (List.map (encL (PV.int .i64)) f1))),(43,.p (.int .i64 (f1.length:Int))),(44,.p (.int .i64 s.2))],[(4,.arr 76 2 1 [.p (.agg [.int .i64 0,.int .i64 0])])]⟩) (fun (o13:Int)=>tE (cX Tryz.f30 X w D hT) (.exit 0) ⟨[(4,.loc 4 1 0 0),(7,.p (.int .i64 r4.2.1)),(12,.p (.int .i64 o13))],[(4,.arr 76 2 1 [.p (.agg [.int .i64 0,.int .i64 0])])]⟩) h12 ?_ ?_
 clear h h5 h7 h8 h9 h10 h12
 intro s x h
 obtain ⟨b14,t15⟩:=s
 simp only [linkage_Precision_l4] at h
 dsimp only
 refine zs (zr ?_)
 refine zU (zl (zn (zs ?_)))
 rcases zI h with ⟨h16,h⟩ | ⟨h16,h⟩
 refine zi (zk (zn (zs (zb (zs (zr ?_))))))
 obtain ⟨x17,h18,h18a,h18b,h⟩:=zX h
 refine zU (zl (zn (zs (zr ?_))))
 refine zU (zl (zn (zs (zr ?_))))
 refine zU (zl (zn (zb ?_)))
 obtain ⟨b19,h20,h⟩:=zB h
 refine zO (fun (s:Int×(List (Int×Int))×Int)=>⟨[(4,.loc 4 1 0 0),(7,.p (.int .i64 r4.2.1)),(9,.p (.mapv (encK (PV.int .i64) r6.1) (encW (PV.int .i64) r6.1))),(12,.p (.int .i64 s.1)),(15,.mapo 48 1),(42,.p (.slc (List.map (encL (PV.int .i64)) f1))),(43,.p (.int .i64 (f1.length:Int))),(44,.p (.int .i64 t15)),(49,.p (.slc (List.map (PV.int .i64) x17))),(50,.p (.int .i64 (x17.length:Int))),(51,.p (.int .i64 s.2.2))],[(4,.arr 76 2 1 [.p (.agg [.int .i64 0,.int .i64 0])]),(48,.map 1 (List.map AV.p (encK (PV.int .i64) s.2.1)) (List.map AV.p (encW (PV.int .i64) s.2.1)))]⟩) (fun (o21:Int)=>tE (cX Tryz.f30 X w D hT) (.exit 2) ⟨[(4,.loc 4 1 0 0),(7,.p (.int .i64 r4.2.1)),(9,.p (.mapv (encK (PV.int .i64) r6.1) (encW (PV.int .i64) r6.1))),(12,.p (.int .i64 o21)),(42,.p (.slc (List.map (encL (PV.int .i64)) f1))),(43,.p (.int .i64 (f1.length:Int))),(44,.p (.int .i64 t15))],[(4,.arr 76 2 1 [.p (.agg [.int .i64 0,.int .i64 0])])]⟩) h20 ?_ ?_
 clear h h16 h18 h18a h18b h20
 intro s x h
 obtain ⟨b22,c23,t24⟩:=s
 simp only [linkage_Precision_l3] at h
 dsimp only
 refine zs (zr ?_)
 refine zU (zl (zn (zs ?_)))
 rcases zI h with ⟨h25,h⟩ | ⟨h25,h⟩
 refine zi (zk (zn (zs (zb (zs (zr ?_))))))
 obtain ⟨x26,h27,h27a,h27b,h⟩:=zX h
 refine zU (zl (zn (zs (zr ?_))))
 refine zU (zl (zn (zs (zr ?_))))
 refine zU (zl (zn ?_))
 rcases zI h with ⟨h28,h⟩ | ⟨h28,h⟩
 refine zi (zs (zr ?_))
 refine zU (zl (zn (zr ?_)))
 refine zU (zl (yn (zn (zr ?_))))
 refine zU (zl ?_)
 cases h
 exact ⟨rfl,zE⟩
 refine zj (zk (yn (zn (zr ?_))))
 refine zU (zl ?_)
 cases h
 exact ⟨rfl,zE⟩
 refine zj (zx (ze ?_))
 cases h
 exact ⟨rfl,zE⟩
 try simp only at h
 refine zA (yh (yn (zn (zr ?_))))
 refine zU (zl ?_)
 cases h
 exact ⟨rfl,zE⟩
 refine zj (zx (ze ?_))
 cases h
 exact ⟨rfl,zE⟩
 try simp only at h
 refine zA (yh (zn (zs (zr ?_))))
 refine zU ?_
 obtain ⟨r29,h30,h⟩:=zB h
 refine zc (ratio_Make_con b11 r4.2.1 _ h30) ?_
 refine zU (zl (zn (zq ?_)))
 cases h
 exact zT Tryz.results30
 refine zi (zs (zr ?_))
 refine zU (zl (zn (zq (zt ?_))))
 cases h
 exact zT Tryz.results30
 refine zw 34 true ?_
 refine zh ?_
 refine zU (zl (zn ?_))
 refine zi (zs (zr ?_))
 refine zU (zl (zn (zq (zt ?_))))
 cases h
 exact zT Tryz.results30
set_option maxHeartbeats 4000000 in
theorem linkage_Recall_con {D:Prop} (f1:List (List Int)) (t2:List (List Int)) (r3:Ratio×Int) (h:linkage_Recall f1 t2=some r3):Con D Tryz.prog 32 [(.slc (List.map (encL (PV.int .i64)) f1)),(.slc (List.map (encL (PV.int .i64)) t2))] (.tup [(encRatio r3.1),(.int .i64 r3.2)]):=by
 refine zP Tryz.call32 Tryz.func32 rfl Tryz.ntmps32 fun X w hT=>?_
 simp only [linkage_Recall] at h
 refine zs (zr ?_)
 refine zU (zl (zn (zs (zr ?_))))
 refine zU ?_
 obtain ⟨r4,h5,h⟩:=zB h
 refine zc (linkage_Precision_con t2 f1 _ h5) ?_
 refine zU (zl (zn (zq ?_)))
 cases h
 exact zT Tryz.results32
set_option maxHeartbeats 4000000 in
theorem drosslaw56_example_con {D:Prop} (r1:Table×Linkage) (h:drosslaw56_example=some r1):Con D Tryz.prog 39 [] (.tup [(encTable r1.1),(encLinkage r1.2)]):=by
 refine zP Tryz.call39 Tryz.func39 rfl Tryz.ntmps39 fun X w hT=>?_
 simp only [drosslaw56_example] at h
 refine zs (zr ?_)
 refine zU (zl (zn (zs (zr ?_))))
 refine zU (zl (zn (zs (zs (zr ?_)))))
 refine zU (zl (zn (zb ?_)))
 refine zL ⟨[(0,.loc 0 1 0 0),(1,.loc 1 1 0 0),(2,.loc 2 1 0 0),(7,.own 7 1 0 4),(8,.p (.int .i64 4)),(9,.p (.int .i64 0))],[(0,.arr 41 3 1 [.agg [.p (.str []),.nils,.nils]]),(1,.arr 25 3 1 [.agg [.nils,.nils,.nils]]),(2,.arr 41 3 1 [.agg [.p (.str [112]),.own 5 1 0 1,.nils]]),(5,.arr 9 1 1 [.p (.str [110,97,109,101])]),(7,.arr 9 1 1 [.p (.str [97,110,110]),.p (.str [97,110,110,101]),.p (.str [97,110,110,101,115]),.p (.str [98,111,98])])]⟩ ?_
 obtain ⟨l2,h3,h⟩:=zB h
 replace h3:=Option.some.inj h3
 refine awp_le (st':=⟨[(0,.loc 0 1 0 0),(1,.loc 1 1 0 0),(2,.loc 2 1 0 0),(7,.own 7 1 0 l2.length),(8,.p (.int .i64 4)),(9,.p (.int .i64 0))],[(0,.arr 41 3 1 [.agg [.p (.str []),.nils,.nils]]),(1,.arr 25 3 1 [.agg [.nils,.nils,.nils]]),(2,.arr 41 3 1 [.agg [.p (.str [112]),.own 5 1 0 1,.nils]]),(5,.arr 9 1 1 [.p (.str [110,97,109,101])]),(7,.arr 9 1 1 (List.map AV.p (List.map PV.str l2)))]⟩) (by simp only [go_sem,seval,←h3];all_goals ((repeat' refine And.intro ?_ ?_) <;> first | rfl | (simp;done) | (simp;rfl) | (simp [*];done) | (simp [*];rfl))) ?_
 have h3n:l2.length=4:=by rw [←h3];rfl
 clear h3
 obtain ⟨t4,h5,h⟩:=zB h
 refine zO (fun (s:List Row×Int)=>⟨[(0,.loc 0 1 0 0),(1,.loc 1 1 0 0),(2,.loc 2 1 0 0),(7,.own 7 1 0 l2.length),(8,.p (.int .i64 4)),(9,.p (.int .i64 s.2))],[(0,.arr 41 3 1 [.agg [.p (.str []),.nils,.nils]]),(1,.arr 25 3 1 [.agg [.nils,.nils,.nils]]),(2,.arr 41 3 1 [.agg [.p (.str [112]),.own 5 1 0 ([[110,97,109,101]]).length,.own 23 1 0 s.1.length]]),(5,.arr 9 1 1 (List.map AV.p (List.map PV.str [[110,97,109,101]]))),(7,.arr 9 1 1 (List.map AV.p (List.map PV.str l2))),(23,.arr 66 2 1 (List.map AV.p (List.map encRow s.1)))]⟩) (fun (o6:List Row)=>tE (cX Tryz.f39 X w D hT) (.exit 0) ⟨[(0,.loc 0 1 0 0),(1,.loc 1 1 0 0),(2,.loc 2 1 0 0)],[(0,.arr 41 3 1 [.agg [.p (.str []),.nils,.nils]]),(1,.arr 25 3 1 [.agg [.nils,.nils,.nils]]),(2,.arr 41 3 1 [.agg [.p (.str [112]),.own 5 1 0 ([[110,97,109,101]]).length,.own 23 1 0 o6.length]]),(5,.arr 9 1 1 (List.map AV.p (List.map PV.str [[110,97,109,101]]))),(23,.arr 66 2 1 (List.map AV.p (List.map encRow o6)))]⟩) h5 ?_ ?_
 clear h h3n h5
 intro s x h
 obtain ⟨t7,t8⟩:=s
 simp only [drosslaw56_example_l1] at h
 dsimp only
 refine zs (zr ?_)
 refine zU (zl (zn (zs ?_)))
 rcases zI h with ⟨h9,h⟩ | ⟨h9,h⟩
 refine zi (zk (zn (zs (zb (zs (zr ?_))))))
 obtain ⟨x10,h11,h11a,h11b,h⟩:=zX h
 refine zU (zl (zn (zr ?_)))
 refine zW 9 ?_
 refine zM ⟨[(0,.loc 0 1 0 0),(1,.loc 1 1 0 0),(2,.loc 2 1 0 0),(7,.own 7 1 0 l2.length),(8,.p (.int .i64 4)),(9,.p (.int .i64 t8)),(15,.own 23 1 0 t7.length),(22,.own 22 1 0 1)],[(0,.arr 41 3 1 [.agg [.p (.str []),.nils,.nils]]),(1,.arr 25 3 1 [.agg [.nils,.nils,.nils]]),(2,.arr 41 3 1 [.agg [.p (.str [112]),.own 5 1 0 ([[110,97,109,101]]).length,.own 23 1 0 t7.length]]),(5,.arr 9 1 1 (List.map AV.p (List.map PV.str [[110,97,109,101]]))),(7,.arr 9 1 1 (List.map AV.p (List.map PV.str l2))),(22,.arr 66 2 1 [.p (.agg [.int .i64 (IntKind.i64.wrap (t8+1)),.slc (List.map encValue [(Value.mk 2 0 x10)])])]),(23,.arr 66 2 1 (List.map AV.p (List.map encRow t7)))]⟩ ?_
 obtain ⟨h12,h⟩:=ite_some h
 refine zU (zl (yn (zn (zr ?_))))
 refine zU (zl ?_)
 cases h
 exact ⟨rfl,zE⟩
 refine zj (zx (ze ?_))
 cases h
 exact ⟨rfl,zE⟩
 try simp only at h
 refine zA (yh (zn (zs (zr ?_))))
 refine zU (zl (zn (zq ?_)))
 cases h
 exact zT Tryz.results39
set_option maxHeartbeats 4000000 in
theorem drossref04_zero_con {D:Prop} (a1:Drossref04_Wide) (r2:Bool) (h:drossref04_zero a1=some r2):Con D Tryz.prog 191 [(encDrossref04_Wide a1)] (.bool r2):=by
 refine zP Tryz.call191 Tryz.func191 rfl Tryz.ntmps191 fun X w hT=>?_
 simp only [drossref04_zero] at h
 refine zs (zr ?_)
 refine zU (zl (zn (zs (zr ?_))))
 refine zU ?_
 rcases zI h with ⟨h3,h⟩ | ⟨h3,h⟩
 replace h:=h.symm
 refine zw 6 true ?_
 refine zg ?_
 refine zg ?_
 refine zg ?_
 refine zU (zl (zn (zq ?_)))
 cases h
 exact zT Tryz.results191
 refine zw 6 false ?_
 refine zh ?_
 refine zU (zl (zn (zq ?_)))
 cases h
 exact zT Tryz.results191
set_option maxRecDepth 20000 in
set_option maxHeartbeats 4000000 in
theorem drossref04_less_con {D:Prop} (a1:Drossref04_Wide) (b2:Drossref04_Wide) (r3:Bool) (h:drossref04_less a1 b2=some r3):Con D Tryz.prog 193 [(encDrossref04_Wide a1),(encDrossref04_Wide b2)] (.bool r3):=by
 refine zP Tryz.call193 Tryz.func193 rfl Tryz.ntmps193 fun X w hT=>?_
 simp only [drossref04_less] at h
 refine zs (zr ?_)
 refine zU (zl (zn (zs (zr ?_))))
 refine zU ?_
 rcases zI h with ⟨h4,h⟩ | ⟨h4,h⟩
 refine zw 10 true ?_
 refine zh ?_
 refine zU (zl (zn (zq ?_)))
 cases h
 exact zT Tryz.results193
 refine zw 10 false ?_
 refine zg ?_
 refine zg ?_
 refine zg ?_
 refine zg ?_
 refine zg ?_
 refine zg ?_
 rcases zI h with ⟨h5,h⟩ | ⟨h5,h⟩
 replace h:=h.symm
 refine zw 16 true ?_
 refine zg ?_
 refine zg ?_
 refine zg ?_
 refine zg ?_
 refine zg ?_
 refine zg ?_
 refine zU (zl (zn (zq ?_)))
 cases h
 exact zT Tryz.results193
 replace h:=h.symm
 refine zw 16 false ?_
 refine zh ?_
 refine zg ?_
 refine zU (zl (zn (zq ?_)))
 cases h
 exact zT Tryz.results193
set_option maxHeartbeats 4000000 in
theorem drossref04_plus_con {D:Prop} (a1:Drossref04_Wide) (b2:Drossref04_Wide) (r3:Drossref04_Wide) (h:drossref04_plus a1 b2=some r3):Con D Tryz.prog 228 [(encDrossref04_Wide a1),(encDrossref04_Wide b2)] (encDrossref04_Wide r3):=by
 refine zP Tryz.call228 Tryz.func228 rfl Tryz.ntmps228 fun X w hT=>?_
 simp only [drossref04_plus] at h
 refine zs (zr ?_)
 refine zU (zl (zn (zs (zr ?_))))
 refine zU ?_
 obtain ⟨r4,h5,h⟩:=zB h
 refine zE3 (add_run ext248 h5) ?_
 refine zU (zl (zn (zs (zr ?_))))
 refine zU ?_
 obtain ⟨r6,h7,h⟩:=zB h
 refine zE3 (add_run ext248 h7) ?_
 refine zU (zl (zn (zs (zr ?_))))
 refine zU (zl (zn (zq ?_)))
 cases h
 exact zT Tryz.results228
set_option maxHeartbeats 4000000 in
theorem drossref04_minus_con {D:Prop} (a1:Drossref04_Wide) (b2:Drossref04_Wide) (r3:Drossref04_Wide) (h:drossref04_minus a1 b2=some r3):Con D Tryz.prog 229 [(encDrossref04_Wide a1),(encDrossref04_Wide b2)] (encDrossref04_Wide r3):=by
 refine zP Tryz.call229 Tryz.func229 rfl Tryz.ntmps229 fun X w hT=>?_
 simp only [drossref04_minus] at h
 refine zs (zr ?_)
 refine zU (zl (zn (zs (zr ?_))))
 refine zU ?_
 obtain ⟨r4,h5,h⟩:=zB h
 refine zE3 (sub_run ext249 h5) ?_
 refine zU (zl (zn (zs (zr ?_))))
 refine zU ?_
 obtain ⟨r6,h7,h⟩:=zB h
 refine zE3 (sub_run ext249 h7) ?_
 refine zU (zl (zn (zs (zr ?_))))
 refine zU (zl (zn (zq ?_)))
 cases h
 exact zT Tryz.results229
set_option maxRecDepth 20000 in
set_option maxHeartbeats 4000000 in
theorem drossref04_parts_con {D:Prop} (a1:Drossref04_Wide) (b2:Drossref04_Wide) (r3:Drossref04_Wide×Drossref04_Wide) (h:drossref04_parts a1 b2=some r3):Con D Tryz.prog 192 [(encDrossref04_Wide a1),(encDrossref04_Wide b2)] (.tup [(encDrossref04_Wide r3.1),(encDrossref04_Wide r3.2)]):=by
 refine zP Tryz.call192 Tryz.func192 rfl Tryz.ntmps192 fun X w hT=>?_
 simp only [drossref04_parts] at h
 refine zs (zr ?_)
 refine zU (zl (zn (zs (zr ?_))))
 refine zU (zl (zn (zs (zs (zr ?_)))))
 refine zU (zl (zn (zb ?_)))
 obtain ⟨o4,h5,h⟩:=zB h
 refine zO (fun (s:Drossref04_Wide×Drossref04_Wide×Int)=>⟨[(2,.loc 2 1 0 0),(3,.loc 3 1 0 0),(4,.loc 4 1 0 0),(5,.loc 5 1 0 0),(6,.loc 6 1 0 0),(7,.loc 7 1 0 0),(8,.p (.int .i64 s.2.2))],[(2,.arr 191 2 1 [.p (encDrossref04_Wide a1)]),(3,.arr 191 2 1 [.p (encDrossref04_Wide b2)]),(4,.arr 191 2 1 [.p (.agg [.int .u64 0,.int .u64 0])]),(5,.arr 191 2 1 [.p (.agg [.int .u64 0,.int .u64 0])]),(6,.arr 191 2 1 [.p (encDrossref04_Wide s.1)]),(7,.arr 191 2 1 [.p (encDrossref04_Wide s.2.1)])]⟩) (fun (o6:Drossref04_Wide×Drossref04_Wide)=>tE (cX Tryz.f192 X w D hT) (.exit 0) ⟨[(4,.loc 4 1 0 0),(5,.loc 5 1 0 0),(6,.loc 6 1 0 0),(7,.loc 7 1 0 0)],[(4,.arr 191 2 1 [.p (.agg [.int .u64 0,.int .u64 0])]),(5,.arr 191 2 1 [.p (.agg [.int .u64 0,.int .u64 0])]),(6,.arr 191 2 1 [.p (encDrossref04_Wide o6.1)]),(7,.arr 191 2 1 [.p (encDrossref04_Wide o6.2)])]⟩) h5 ?_ ?_
 clear h h5
 intro s x h
 obtain ⟨q7,r8,i9⟩:=s
 simp only [drossref04_parts_l1] at h
 dsimp only
 refine zs (zs (zr ?_))
 refine zU (zl (zn ?_))
 rcases zI h with ⟨h10,h⟩ | ⟨h10,h⟩
 refine zi (zk (zn (zs (zb (zs (zr ?_))))))
 refine zU (zl (zn (zs (zs (zr ?_)))))
 refine zU (zl (zn ?_))
 rcases zI h with ⟨h11,h⟩ | ⟨h11,h⟩
 refine zi (zr ?_)
 refine zU (zl (zn (zs (zr ?_))))
 refine zU ?_
 obtain ⟨r12,h13,h⟩:=zB h
 refine zc (drossref04_plus_con r8 r8 _ h13) ?_
 refine zU (zl (zn (zs (zd ?_))))
 obtain ⟨h14,h⟩:=ite_none h
 refine yU ?_
 refine yd (zn (zs (zr ?_)))
 refine zU ?_
 obtain ⟨r15,h16,h⟩:=zB h
 refine zc (drossref04_plus_con q7 q7 _ h16) ?_
 refine zU (zl (zn (zs (zr ?_))))
 refine zU ?_
 obtain ⟨r17,h18,h⟩:=zB h
 refine zc (drossref04_less_con (Drossref04_Wide.mk r12.Hi (IntKind.u64.wrap (r12.Lo+(Int.tmod (Int.fdiv a1.Hi (2 ^ (min ((Int.tmod i9 64)).toNat 64))) 2)))) b2 _ h18) ?_
 refine zU (zl (zn ?_))
 rcases zI h with ⟨h19,h⟩ | ⟨h19,h⟩
 refine zj (zk (yn (zn (zr ?_))))
 refine zU (zl ?_)
 cases h
 exact ⟨rfl,zE⟩
 refine zi (zs (zr ?_))
 refine zU ?_
 obtain ⟨r20,h21,h⟩:=zB h
 refine zc (drossref04_minus_con (Drossref04_Wide.mk r12.Hi (IntKind.u64.wrap (r12.Lo+(Int.tmod (Int.fdiv a1.Hi (2 ^ (min ((Int.tmod i9 64)).toNat 64))) 2)))) b2 _ h21) ?_
 refine zU (zl (zn (zr ?_)))
 refine zU (zl (yn (zn (zr ?_))))
 refine zU (zl ?_)
 cases h
 exact ⟨rfl,zE⟩
 refine zj (zk (zn (zs (zr ?_))))
 refine zU ?_
 obtain ⟨r22,h23,h⟩:=zB h
 refine zc (drossref04_plus_con r8 r8 _ h23) ?_
 refine zU (zl (zn (zs (zd ?_))))
 obtain ⟨h24,h⟩:=ite_none h
 refine yU ?_
 refine yd (zn (zs (zr ?_)))
 refine zU ?_
 obtain ⟨r25,h26,h⟩:=zB h
 refine zc (drossref04_plus_con q7 q7 _ h26) ?_
 refine zU (zl (zn (zs (zr ?_))))
 refine zU ?_
 obtain ⟨r27,h28,h⟩:=zB h
 refine zc (drossref04_less_con (Drossref04_Wide.mk r22.Hi (IntKind.u64.wrap (r22.Lo+(Int.tmod (Int.fdiv a1.Lo (2 ^ (min ((Int.tmod i9 64)).toNat 64))) 2)))) b2 _ h28) ?_
 refine zU (zl (zn ?_))
 rcases zI h with ⟨h29,h⟩ | ⟨h29,h⟩
 refine zj (zk (yn (zn (zr ?_))))
 refine zU (zl ?_)
 cases h
 exact ⟨rfl,zE⟩
 refine zi (zs (zr ?_))
 refine zU ?_
 obtain ⟨r30,h31,h⟩:=zB h
 refine zc (drossref04_minus_con (Drossref04_Wide.mk r22.Hi (IntKind.u64.wrap (r22.Lo+(Int.tmod (Int.fdiv a1.Lo (2 ^ (min ((Int.tmod i9 64)).toNat 64))) 2)))) b2 _ h31) ?_
 refine zU (zl (zn (zr ?_)))
 refine zU (zl (yn (zn (zr ?_))))
 refine zU (zl ?_)
 cases h
 exact ⟨rfl,zE⟩
 refine zj (zx (ze ?_))
 cases h
 exact ⟨rfl,zE⟩
 obtain ⟨q32,r33⟩:=o4
 try simp only at h
 refine zA (yh (zn (zs (zd ?_))))
 refine yU ?_
 refine yd (zn (zq ?_))
 cases h
 exact zT Tryz.results192
set_option maxHeartbeats 4000000 in
theorem drossref04_build_con {D:Prop} (n1:Bool) (n2:Drossref04_Wide) (d3:Drossref04_Wide) (r4:Ratio×Int) (h:drossref04_build n1 n2 d3=some r4):Con D Tryz.prog 132 [(.bool n1),(encDrossref04_Wide n2),(encDrossref04_Wide d3)] (.tup [(encRatio r4.1),(.int .i64 r4.2)]):=by
 refine zP Tryz.call132 Tryz.func132 rfl Tryz.ntmps132 fun X w hT=>?_
 simp only [drossref04_build] at h
 refine zs (zr ?_)
 refine zU (zl (zn (zs (zd ?_))))
 refine yU ?_
 refine yd (zn (zs (zb ?_)))
 obtain ⟨x5,h6,h⟩:=zB h
 refine zO (fun (s:Drossref04_Wide×Drossref04_Wide)=>⟨[(0,.p (.bool n1)),(4,.loc 4 1 0 0),(5,.loc 5 1 0 0),(6,.loc 6 1 0 0),(8,.loc 8 1 0 0),(9,.loc 9 1 0 0)],[(4,.arr 191 2 1 [.p (encDrossref04_Wide n2)]),(5,.arr 191 2 1 [.p (encDrossref04_Wide d3)]),(6,.arr 76 2 1 [.p (.agg [.int .i64 0,.int .i64 0])]),(8,.arr 191 2 1 [.p (encDrossref04_Wide s.1)]),(9,.arr 191 2 1 [.p (encDrossref04_Wide s.2)])]⟩) (fun (o7:Drossref04_Wide)=>tE (cX Tryz.f132 X w D hT) (.exit 0) ⟨[(0,.p (.bool n1)),(4,.loc 4 1 0 0),(5,.loc 5 1 0 0),(6,.loc 6 1 0 0),(8,.loc 8 1 0 0)],[(4,.arr 191 2 1 [.p (encDrossref04_Wide n2)]),(5,.arr 191 2 1 [.p (encDrossref04_Wide d3)]),(6,.arr 76 2 1 [.p (.agg [.int .i64 0,.int .i64 0])]),(8,.arr 191 2 1 [.p (encDrossref04_Wide o7)])]⟩) h6 ?_ ?_
 clear h h6
 intro s x h
 obtain ⟨x8,y9⟩:=s
 simp only [drossref04_build_l1] at h
 dsimp only
 refine zs (zs (zr ?_))
 refine zU ?_
 obtain ⟨r10,h11,h⟩:=zB h
 refine zc (drossref04_zero_con y9 _ h11) ?_
 refine zU (zl (zn ?_))
 rcases zI h with ⟨h12,h⟩ | ⟨h12,h⟩
 refine zj (zx (ze ?_))
 cases h
 exact ⟨rfl,zE⟩
 refine zi (zk (zn (zb (zs (zr ?_)))))
 refine zU ?_
 obtain ⟨r13,h14,h⟩:=zB h
 refine zc (drossref04_parts_con x8 y9 _ h14) ?_
 refine zU (zl (zn (zd ?_)))
 refine yU ?_
 refine yd (yn ?_)
 cases h
 exact ⟨rfl,zE⟩
 try simp only at h
 refine zA (yh (zn (zs (zr ?_))))
 refine zU ?_
 obtain ⟨r15,h16,h⟩:=zB h
 refine zc (drossref04_parts_con n2 x5 _ h16) ?_
 refine zU (zl (zn (zs (zr ?_))))
 refine zU ?_
 obtain ⟨r17,h18,h⟩:=zB h
 refine zc (drossref04_parts_con d3 x5 _ h18) ?_
 refine zU (zl (zn (zs (zr ?_))))
 refine zU (zl (zn (zs (zs (zr ?_)))))
 refine zU ?_
 obtain ⟨r19,h20,h⟩:=zB h
 refine zc (drossref04_less_con (Drossref04_Wide.mk 0 9223372036854775807) r15.1 _ h20) ?_
 refine zU ?_
 rcases zI h with ⟨h21,h⟩ | ⟨h21,h⟩
 refine zw 43 true ?_
 refine zh ?_
 refine zU (zl (zn ?_))
 refine zi (zs (zr ?_))
 refine zU (zl (zn (zq (zt ?_))))
 cases h
 exact zT Tryz.results132
 refine zw 43 false ?_
 refine zg ?_
 refine zg ?_
 obtain ⟨r22,h23,h⟩:=zB h
 refine zc (drossref04_less_con (Drossref04_Wide.mk 0 9223372036854775807) r17.1 _ h23) ?_
 refine zU (zl (zn ?_))
 rcases zI h with ⟨h24,h⟩ | ⟨h24,h⟩
 refine zi (zs (zr ?_))
 refine zU (zl (zn (zq (zt ?_))))
 cases h
 exact zT Tryz.results132
 refine zj (zk (zn (zs (zr ?_))))
 refine zU (zl (zn (zs (zs (zr ?_)))))
 refine zU (zl (zn ?_))
 rcases zI h with ⟨h25,h⟩ | ⟨h25,h⟩
 refine zi (zr ?_)
 refine zU (zl (zn (zs (zr ?_))))
 refine zU (zl (zn (zq ?_)))
 cases h
 exact zT Tryz.results132
 refine zj (zk (zn (zs (zr ?_))))
 refine zU (zl (zn (zq ?_)))
 cases h
 exact zT Tryz.results132
set_option maxHeartbeats 4000000 in
theorem drossref04_size_con {D:Prop} (n1:Int) (r2:Drossref04_Wide) (h:drossref04_size n1=some r2):Con D Tryz.prog 133 [(.int .i64 n1)] (encDrossref04_Wide r2):=by
 refine zP Tryz.call133 Tryz.func133 rfl Tryz.ntmps133 fun X w hT=>?_
 simp only [drossref04_size] at h
 refine zs (zr ?_)
 refine zU (zl (zn (zs (zs (zr ?_)))))
 refine zU (zl (zn ?_))
 rcases zI h with ⟨h3,h⟩ | ⟨h3,h⟩
 refine zi (zs (zr ?_))
 refine zU (zl (zn (zq (zt ?_))))
 cases h
 exact zT Tryz.results133
 refine zj (zk (zn (zs (zr ?_))))
 refine zU (zl (zn (zq ?_)))
 cases h
 exact zT Tryz.results133
set_option maxHeartbeats 4000000 in
theorem drossref04_Make_con {D:Prop} (n1:Int) (d2:Int) (r3:Ratio×Int) (h:drossref04_Make n1 d2=some r3):Con D Tryz.prog 79 [(.int .i64 n1),(.int .i64 d2)] (.tup [(encRatio r3.1),(.int .i64 r3.2)]):=by
 refine zP Tryz.call79 Tryz.func79 rfl Tryz.ntmps79 fun X w hT=>?_
 simp only [drossref04_Make] at h
 refine zs (zr ?_)
 refine zU (zl (zn (zs (zs (zr ?_)))))
 refine zU (zl (zn ?_))
 rcases zI h with ⟨h4,h⟩ | ⟨h4,h⟩
 refine zi (zs (zr ?_))
 refine zU (zl (zn (zq (zt ?_))))
 cases h
 exact zT Tryz.results79
 refine zj (zk (zn (zs (zr ?_))))
 refine zU ?_
 obtain ⟨r5,h6,h⟩:=zB h
 refine zc (drossref04_size_con n1 _ h6) ?_
 refine zU ?_
 obtain ⟨r7,h8,h⟩:=zB h
 refine zc (drossref04_size_con d2 _ h8) ?_
 obtain ⟨r9,h10,h⟩:=zB h
 refine zc (drossref04_build_con (!((decide (n1 < 0)) == (decide (d2 < 0)))) r5 r7 _ h10) ?_
 refine zU (zl (zn (zq ?_)))
 cases h
 exact zT Tryz.results79
set_option maxHeartbeats 4000000 in
theorem drossref04_Of_con {D:Prop} (n1:Int) (d2:Int) (r3:Ratio) (h:drossref04_Of n1 d2=some r3):Con D Tryz.prog 40 [(.int .i64 n1),(.int .i64 d2)] (encRatio r3):=by
 refine zP Tryz.call40 Tryz.func40 rfl Tryz.ntmps40 fun X w hT=>?_
 simp only [drossref04_Of] at h
 refine zs (zr ?_)
 refine zU (zl (zn (zs (zr ?_))))
 refine zU ?_
 obtain ⟨r4,h5,h⟩:=zB h
 refine zc (drossref04_Make_con n1 d2 _ h5) ?_
 refine zU (zl (zn (zs (zs (zr ?_)))))
 refine zU (zl (zn ?_))
 rcases zI h with ⟨h6,h⟩ | ⟨h6,h⟩
 refine zi (zs (zr ?_))
 refine zU (zl (zn (zq (zt ?_))))
 cases h
 exact zT Tryz.results40
 refine zj (zk (zn (zs (zr ?_))))
 refine zU (zl (zn (zq ?_)))
 cases h
 exact zT Tryz.results40
set_option maxRecDepth 20000 in
set_option maxHeartbeats 4000000 in
theorem drosslaw56_awake_con  (r1:Bool) (h:drosslaw56_awake=some r1):Con False Tryz.prog 12 [] (.bool r1):=by
 refine zP Tryz.call12 Tryz.func12 rfl Tryz.ntmps12 fun X w hT=>?_
 simp only [drosslaw56_awake] at h
 refine zs (zr ?_)
 refine zU (zl (zn (zs (zr ?_))))
 obtain ⟨r2,h3,h⟩:=zB h
 refine zc (drosslaw56_example_con  _ h3) ?_
 refine zU (zl (zn (zs (zr ?_))))
 refine zU ?_
 obtain ⟨r4,h5,h⟩:=zB h
 refine zc (linkage_Matches_con r2.1 r2.2 _ h5) ?_
 refine zU (zl (zn (zs (zr ?_))))
 refine zU ?_
 obtain ⟨r6,h7,h⟩:=zB h
 refine zc (linkage_Clusters_con r2.1 r2.2 _ h7) ?_
 refine zU (zl (zn (zs (zr ?_))))
 refine zU ?_
 obtain ⟨r8,h9,h⟩:=zB h
 refine zc (linkage_Precision_con r6.1 [[1,2],[3],[4]] _ h9) ?_
 refine zU (zl (zn (zs (zr ?_))))
 refine zU ?_
 obtain ⟨r10,h11,h⟩:=zB h
 refine zc (linkage_Recall_con r6.1 [[1,2],[3],[4]] _ h11) ?_
 refine zU (zl (zn (zs (zd ?_))))
 refine yU ?_
 rcases zI h with ⟨h12,h⟩ | ⟨h12,h⟩
 refine yw 47 true ?_
 refine yg ?_
 refine yg ?_
 refine yg ?_
 refine yg ?_
 obtain ⟨r13,h14,h⟩:=zB h
 refine yc (drossref56_SamePairs_con r4.1 [(Arr2_int64.mk 1 2),(Arr2_int64.mk 2 3)] _ h14) ?_
 refine yU ?_
 rcases zI h with ⟨h15,h⟩ | ⟨h15,h⟩
 refine yw 54 true ?_
 refine yg ?_
 refine yg ?_
 refine yU ?_
 rcases zI h with ⟨h16,h⟩ | ⟨h16,h⟩
 refine yw 58 true ?_
 refine yg ?_
 refine yg ?_
 refine yg ?_
 refine yg ?_
 obtain ⟨r17,h18,h⟩:=zB h
 refine yc (drossref55_Lists_con r6.1 [[1,2,3],[4]] _ h18) ?_
 refine yU ?_
 rcases zI h with ⟨h19,h⟩ | ⟨h19,h⟩
 refine yw 65 true ?_
 refine yg ?_
 refine yg ?_
 refine yU ?_
 rcases zI h with ⟨h20,h⟩ | ⟨h20,h⟩
 refine yw 69 true ?_
 refine yg ?_
 obtain ⟨r21,h22,h⟩:=zB h
 refine yc (drossref04_Of_con 1 3 _ h22) ?_
 refine yg ?_
 refine yU ?_
 rcases zI h with ⟨h23,h⟩ | ⟨h23,h⟩
 refine yw 74 true ?_
 refine yg ?_
 refine yg ?_
 refine yU ?_
 rcases zI h with ⟨h24,h⟩ | ⟨h24,h⟩
 refine yw 78 true ?_
 refine yg ?_
 obtain ⟨r25,h26,h⟩:=zB h
 replace h:=h.symm
 refine yc (drossref04_Of_con 1 1 _ h26) ?_
 refine yg ?_
 refine yU ?_
 refine yd (zn (zq ?_))
 cases h
 exact zT Tryz.results12
 refine yw 78 false ?_
 refine yk ?_
 refine yU ?_
 refine yd (zn (zq ?_))
 cases h
 exact zT Tryz.results12
 refine yw 74 false ?_
 refine yk ?_
 refine yU ?_
 refine yk ?_
 refine yU ?_
 refine yd (zn (zq ?_))
 cases h
 exact zT Tryz.results12
 refine yw 69 false ?_
 refine yk ?_
 refine yU ?_
 refine yk ?_
 refine yU ?_
 refine yk ?_
 refine yU ?_
 refine yd (zn (zq ?_))
 cases h
 exact zT Tryz.results12
 refine yw 65 false ?_
 refine yk ?_
 refine yU ?_
 refine yk ?_
 refine yU ?_
 refine yk ?_
 refine yU ?_
 refine yk ?_
 refine yU ?_
 refine yd (zn (zq ?_))
 cases h
 exact zT Tryz.results12
 refine yw 58 false ?_
 refine yk ?_
 refine yU ?_
 refine yk ?_
 refine yU ?_
 refine yk ?_
 refine yU ?_
 refine yk ?_
 refine yU ?_
 refine yk ?_
 refine yU ?_
 refine yd (zn (zq ?_))
 cases h
 exact zT Tryz.results12
 refine yw 54 false ?_
 refine yk ?_
 refine yU ?_
 refine yk ?_
 refine yU ?_
 refine yk ?_
 refine yU ?_
 refine yk ?_
 refine yU ?_
 refine yk ?_
 refine yU ?_
 refine yk ?_
 refine yU ?_
 refine yd (zn (zq ?_))
 cases h
 exact zT Tryz.results12
 refine yw 47 false ?_
 refine yk ?_
 refine yU ?_
 refine yk ?_
 refine yU ?_
 refine yk ?_
 refine yU ?_
 refine yk ?_
 refine yU ?_
 refine yk ?_
 refine yU ?_
 refine yk ?_
 refine yU ?_
 refine yk ?_
 refine yU ?_
 refine yd (zn (zq ?_))
 cases h
 exact zT Tryz.results12
set_option maxHeartbeats 4000000 in
theorem drosslaw56_size_con {D:Prop} (l1:List (List Int)) (r2:Int) (h:drosslaw56_size l1=some r2):Con D Tryz.prog 29 [(.slc (List.map (encL (PV.int .i64)) l1))] (.int .i64 r2):=by
 refine zP Tryz.call29 Tryz.func29 rfl Tryz.ntmps29 fun X w hT=>?_
 simp only [drosslaw56_size] at h
 refine zs (zr ?_)
 refine zU (zl (zn (zs (zr ?_))))
 refine zU (zl (zn (zs (zs (zr ?_)))))
 refine zU (zl (zn (zb ?_)))
 obtain ⟨n3,h4,h⟩:=zB h
 refine zO (fun (s:Int×Int)=>⟨[(3,.p (.int .i64 s.1)),(8,.p (.slc (List.map (encL (PV.int .i64)) l1))),(9,.p (.int .i64 (l1.length:Int))),(10,.p (.int .i64 s.2))],[]⟩) (fun (o5:Int)=>tE (cX Tryz.f29 X w D hT) (.exit 0) ⟨[(3,.p (.int .i64 o5))],[]⟩) h4 ?_ ?_
 clear h h4
 intro s x h
 obtain ⟨n6,t7⟩:=s
 simp only [drosslaw56_size_l1] at h
 dsimp only
 refine zs (zr ?_)
 refine zU (zl (zn (zs ?_)))
 rcases zI h with ⟨h8,h⟩ | ⟨h8,h⟩
 refine zi (zk (zn (zs (zb (zs (zr ?_))))))
 obtain ⟨x9,h10,h10a,h10b,h⟩:=zX h
 refine zU (zl (zn (zr ?_)))
 refine zU (zl (yn (zn (zr ?_))))
 refine zU (zl ?_)
 cases h
 exact ⟨rfl,zE⟩
 refine zj (zx (ze ?_))
 cases h
 exact ⟨rfl,zE⟩
 try simp only at h
 refine zA (yh (zn (zs (zr ?_))))
 refine zU (zl (zn (zq ?_)))
 cases h
 exact zT Tryz.results29
set_option maxHeartbeats 4000000 in
theorem drossref03_Has_con {D:Prop} (l1:List Int) (i2:Int) (r3:Bool) (h:drossref03_Has l1 i2=some r3):Con D Tryz.prog 25 [(.slc (List.map (PV.int .i64) l1)),(.int .i64 i2)] (.bool r3):=by
 refine zP Tryz.call25 Tryz.func25 rfl Tryz.ntmps25 fun X w hT=>?_
 simp only [drossref03_Has] at h
 refine zs (zr ?_)
 refine zU (zl (zn (zs (zs (zr ?_)))))
 refine zU (zl (zn (zb ?_)))
 obtain ⟨o4,h5,h⟩:=zB h
 refine zO (fun (s:Int)=>⟨[(0,.p (.slc (List.map (PV.int .i64) l1))),(1,.p (.int .i64 i2)),(5,.p (.int .i64 s))],[]⟩) (fun (o:(Unit) ⊕ (Bool))=>match o with | .inl o6=>tE (cX Tryz.f25 X w D hT) (.exit 0) ⟨[],[]⟩ | .inr o7=>tR Tryz.prog Tryz.f25 (.bool o7)) h5 ?_ ?_
 clear h h5
 intro i8 x h
 simp only [drossref03_Has_l1] at h
 refine zs (zs (zr ?_))
 refine zU (zl (zn ?_))
 rcases zI h with ⟨h9,h⟩ | ⟨h9,h⟩
 refine zi (zk (zn (zs (zb (zs (zr ?_))))))
 obtain ⟨x10,h11,h11a,h11b,h⟩:=zX h
 refine zU (zl (zn ?_))
 rcases zI h with ⟨h12,h⟩ | ⟨h12,h⟩
 refine zi (zs (zr ?_))
 refine zU (zl (zn (zq (yr (zt ?_)))))
 cases h
 exact ⟨rfl,zT Tryz.results25⟩
 refine zj (zk (yn (zn (zr ?_))))
 refine zU (zl ?_)
 cases h
 exact ⟨rfl,zE⟩
 refine zj (zx (ze ?_))
 cases h
 exact ⟨rfl,zE⟩
 rcases o4 with ⟨⟩ | r13
 try simp only at h
 refine zA (yh (zn (zs (zr ?_))))
 refine zU (zl (zn (zq ?_)))
 cases h
 exact zT Tryz.results25
 try simp only at h
 refine zZ fun s hq=>?_
 refine yr (zt ?_)
 cases h
 exact hq
set_option maxRecDepth 20000 in
set_option maxHeartbeats 4000000 in
theorem drossref55_Cluster_con {D:Prop} (l1:List Int) (r2:Bool) (h:drossref55_Cluster l1=some r2):Con D Tryz.prog 102 [(.slc (List.map (PV.int .i64) l1))] (.bool r2):=by
 refine zP Tryz.call102 Tryz.func102 rfl Tryz.ntmps102 fun X w hT=>?_
 simp only [drossref55_Cluster] at h
 refine zs (zr ?_)
 refine zU (zl (zn (zs (zs (zr ?_)))))
 refine zU (zl (zn (zb ?_)))
 obtain ⟨o3,h4,h⟩:=zB h
 refine zO (fun (s:Int)=>⟨[(0,.p (.slc (List.map (PV.int .i64) l1))),(3,.p (.int .i64 s))],[]⟩) (fun (o:(Unit) ⊕ (Bool))=>match o with | .inl o5=>tE (cX Tryz.f102 X w D hT) (.exit 0) ⟨[(0,.p (.slc (List.map (PV.int .i64) l1)))],[]⟩ | .inr o6=>tR Tryz.prog Tryz.f102 (.bool o6)) h4 ?_ ?_
 clear h h4
 intro i7 x h
 simp only [drossref55_Cluster_l1] at h
 refine zs (zs (zr ?_))
 refine zU (zl (zn ?_))
 rcases zI h with ⟨h8,h⟩ | ⟨h8,h⟩
 refine zi (zk (zn (zs (zb (zs (zd ?_))))))
 obtain ⟨x9,h10,h10a,h10b,h⟩:=zX h
 obtain ⟨x11,h12,h12a,h12b,h⟩:=zX h
 refine yU ?_
 refine yd (zn ?_)
 rcases zI h with ⟨h13,h⟩ | ⟨h13,h⟩
 refine zi (zs (zr ?_))
 refine zU (zl (zn (zq (yr (zt ?_)))))
 cases h
 exact ⟨rfl,zT Tryz.results102⟩
 refine zj (zk (yn (zn (zr ?_))))
 refine zU (zl ?_)
 cases h
 exact ⟨rfl,zE⟩
 refine zj (zx (ze ?_))
 cases h
 exact ⟨rfl,zE⟩
 rcases o3 with ⟨⟩ | r14
 try simp only at h
 refine zA (yh (zn (zs (zr ?_))))
 refine zU (zl (zn (zq ?_)))
 cases h
 exact zT Tryz.results102
 try simp only at h
 refine zZ fun s hq=>?_
 refine yr (zt ?_)
 cases h
 exact hq
set_option maxRecDepth 20000 in
set_option maxHeartbeats 4000000 in
theorem drossref56_Division_con {D:Prop} (l1:List (List Int)) (r2:Bool) (h:drossref56_Division l1=some r2):Con D Tryz.prog 70 [(.slc (List.map (encL (PV.int .i64)) l1))] (.bool r2):=by
 refine zP Tryz.call70 Tryz.func70 rfl Tryz.ntmps70 fun X w hT=>?_
 simp only [drossref56_Division] at h
 refine zs (zr ?_)
 refine zU (zl (zn (zs (zr ?_))))
 refine zU (zl (zn (zs (zs (zr ?_)))))
 refine zU (zl (zn (zb ?_)))
 obtain ⟨o3,h4,h⟩:=zB h
 refine zO (fun (s:List Int×Int)=>⟨[(0,.p (.slc (List.map (encL (PV.int .i64)) l1))),(3,.own 60 1 0 s.1.length),(4,.p (.int .i64 s.2))],[(60,.arr 2 1 1 (List.map AV.p (List.map (PV.int .i64) s.1)))]⟩) (fun (o:(Unit) ⊕ (Bool))=>match o with | .inl o5=>tE (cX Tryz.f70 X w D hT) (.exit 0) ⟨[],[]⟩ | .inr o6=>tR Tryz.prog Tryz.f70 (.bool o6)) h4 ?_ ?_
 clear h h4
 intro s x h
 obtain ⟨s7,i8⟩:=s
 simp only [drossref56_Division_l4] at h
 dsimp only
 refine zs (zs (zr ?_))
 refine zU (zl (zn ?_))
 rcases zI h with ⟨h9,h⟩ | ⟨h9,h⟩
 refine zi (zk (zn (zs (zb (zs (zs (zr ?_)))))))
 obtain ⟨x10,h11,h11a,h11b,h⟩:=zX h
 refine zU ?_
 obtain ⟨r12,h13,h⟩:=zB h
 refine zc (drossref55_Cluster_con x10 _ h13) ?_
 refine zU (zl (zn ?_))
 rcases zI h with ⟨h14,h⟩ | ⟨h14,h⟩
 refine zj (zk (zn (zs (zr ?_))))
 refine zU (zl (zn (zb ?_)))
 obtain ⟨o15,h16,h⟩:=zB h
 refine zO (fun (s:List Int×Int)=>⟨[(0,.p (.slc (List.map (encL (PV.int .i64)) l1))),(3,.own 60 1 0 s.1.length),(4,.p (.int .i64 i8)),(5,.p (.int .i64 s.2))],[(60,.arr 2 1 1 (List.map AV.p (List.map (PV.int .i64) s.1)))]⟩) (fun (o:(List Int) ⊕ (Bool))=>match o with | .inl o17=>tE (cX Tryz.f70 X w D hT) (.exit 2) ⟨[(0,.p (.slc (List.map (encL (PV.int .i64)) l1))),(3,.own 60 1 0 o17.length),(4,.p (.int .i64 i8))],[(60,.arr 2 1 1 (List.map AV.p (List.map (PV.int .i64) o17)))]⟩ | .inr o18=>tR Tryz.prog Tryz.f70 (.bool o18)) h16 ?_ ?_
 clear h h9 h11 h11a h11b h13 h14 h16
 intro s x h
 obtain ⟨s19,k20⟩:=s
 simp only [drossref56_Division_l3] at h
 dsimp only
 refine zs (zs (zr ?_))
 obtain ⟨x21,h22,h22a,h22b,h⟩:=zX h
 refine zU (zl (zn ?_))
 rcases zI h with ⟨h23,h⟩ | ⟨h23,h⟩
 refine zi (zk (zn (zs (zb (zs (zs (zr ?_)))))))
 obtain ⟨x24,h25,h25a,h25b,h⟩:=zX h
 refine zU ?_
 rcases zI h with ⟨h26,h⟩ | ⟨h26,h⟩
 refine zw 35 true ?_
 refine zh ?_
 refine zU ?_
 refine zh ?_
 refine zU (zl (zn ?_))
 refine zi (zs (zr ?_))
 refine zU (zl (zn (zq (zt (yr (zt ?_))))))
 cases h
 exact ⟨rfl,zT Tryz.results70⟩
 refine zw 35 false ?_
 refine zg ?_
 refine zg ?_
 refine zg ?_
 refine zg ?_
 refine zg ?_
 refine zg ?_
 refine zg ?_
 refine zg ?_
 obtain ⟨r27,h28,h⟩:=zB h
 refine zc (drossref03_Has_con s19 x24 _ h28) ?_
 refine zU ?_
 rcases zI h with ⟨h29,h⟩ | ⟨h29,h⟩
 refine zw 46 true ?_
 refine zh ?_
 refine zU (zl (zn ?_))
 refine zi (zs (zr ?_))
 refine zU (zl (zn (zq (zt (yr (zt ?_))))))
 cases h
 exact ⟨rfl,zT Tryz.results70⟩
 refine zw 46 false ?_
 refine zg ?_
 refine zg ?_
 refine zg ?_
 refine zU (zl (zn ?_))
 rcases zI h with ⟨h30,h⟩ | ⟨h30,h⟩
 refine zi (zs (zr ?_))
 refine zU (zl (zn (zq (zt (yr (zt ?_))))))
 cases h
 exact ⟨rfl,zT Tryz.results70⟩
 refine zj (zk (zn (zr ?_)))
 obtain ⟨h31,h⟩:=ite_some h
 refine zU (zl (yn (zn (zr ?_))))
 refine zU (zl ?_)
 cases h
 exact ⟨rfl,zE⟩
 refine zj (zx (ze ?_))
 cases h
 exact ⟨rfl,zE⟩
 rcases o15 with s32 | r33
 try simp only at h
 refine zA (yh (yn (zn (zr ?_))))
 refine zU (zl ?_)
 cases h
 exact ⟨rfl,zE⟩
 try simp only at h
 refine zZ fun s hq=>?_
 refine yr (yr (zt ?_))
 cases h
 refine ⟨rfl,?_⟩
 exact hq
 refine zi (zs (zr ?_))
 refine zU (zl (zn (zq (zt (yr (zt ?_))))))
 cases h
 exact ⟨rfl,zT Tryz.results70⟩
 refine zj (zx (ze ?_))
 cases h
 exact ⟨rfl,zE⟩
 rcases o3 with ⟨⟩ | r34
 try simp only at h
 refine zA (yh (zn (zs (zr ?_))))
 refine zU (zl (zn (zq ?_)))
 cases h
 exact zT Tryz.results70
 try simp only at h
 refine zZ fun s hq=>?_
 refine yr (zt ?_)
 cases h
 exact hq
set_option maxRecDepth 20000 in
set_option maxHeartbeats 4000000 in
theorem drossref56_together_con {D:Prop} (l1:List (List Int)) (r2:List Arr2_int64) (h:drossref56_together l1=some r2):Con D Tryz.prog 71 [(.slc (List.map (encL (PV.int .i64)) l1))] (.slc (List.map encArr2_int64 r2)):=by
 refine zP Tryz.call71 Tryz.func71 rfl Tryz.ntmps71 fun X w hT=>?_
 simp only [drossref56_together] at h
 refine zs (zr ?_)
 refine zU (zl (zn (zs (zr ?_))))
 refine zU (zl (zn (zs (zs (zr ?_)))))
 refine zU (zl (zn (zb ?_)))
 obtain ⟨o3,h4,h⟩:=zB h
 refine zO (fun (s:List Arr2_int64×Int)=>⟨[(0,.p (.slc (List.map (encL (PV.int .i64)) l1))),(3,.own 50 1 0 s.1.length),(4,.p (.int .i64 s.2))],[(50,.arr 58 2 1 (List.map AV.p (List.map encArr2_int64 s.1)))]⟩) (fun (o5:List Arr2_int64)=>tE (cX Tryz.f71 X w D hT) (.exit 0) ⟨[(3,.own 50 1 0 o5.length)],[(50,.arr 58 2 1 (List.map AV.p (List.map encArr2_int64 o5)))]⟩) h4 ?_ ?_
 clear h h4
 intro s x h
 obtain ⟨o6,i7⟩:=s
 simp only [drossref56_together_l13] at h
 dsimp only
 refine zs (zs (zr ?_))
 refine zU (zl (zn ?_))
 rcases zI h with ⟨h8,h⟩ | ⟨h8,h⟩
 refine zi (zk (zn (zs (zb (zs (zr ?_))))))
 refine zU (zl (zn (zb ?_)))
 obtain ⟨o9,h10,h⟩:=zB h
 refine zO (fun (s:List Arr2_int64×Int)=>⟨[(0,.p (.slc (List.map (encL (PV.int .i64)) l1))),(3,.own 50 1 0 s.1.length),(4,.p (.int .i64 i7)),(5,.p (.int .i64 s.2))],[(50,.arr 58 2 1 (List.map AV.p (List.map encArr2_int64 s.1)))]⟩) (fun (o11:List Arr2_int64)=>tE (cX Tryz.f71 X w D hT) (.exit 2) ⟨[(0,.p (.slc (List.map (encL (PV.int .i64)) l1))),(3,.own 50 1 0 o11.length),(4,.p (.int .i64 i7))],[(50,.arr 58 2 1 (List.map AV.p (List.map encArr2_int64 o11)))]⟩) h10 ?_ ?_
 clear h h8 h10
 intro s x h
 obtain ⟨o12,k13⟩:=s
 simp only [drossref56_together_l12] at h
 dsimp only
 refine zs (zs (zr ?_))
 obtain ⟨x14,h15,h15a,h15b,h⟩:=zX h
 refine zU (zl (zn ?_))
 rcases zI h with ⟨h16,h⟩ | ⟨h16,h⟩
 refine zi (zk (zn (zs (zb (zs (zr ?_))))))
 refine zU (zl (zn (zb ?_)))
 obtain ⟨o17,h18,h⟩:=zB h
 refine zO (fun (s:List Arr2_int64×Int)=>⟨[(0,.p (.slc (List.map (encL (PV.int .i64)) l1))),(3,.own 50 1 0 s.1.length),(4,.p (.int .i64 i7)),(5,.p (.int .i64 k13)),(6,.p (.int .i64 s.2))],[(50,.arr 58 2 1 (List.map AV.p (List.map encArr2_int64 s.1)))]⟩) (fun (o19:List Arr2_int64)=>tE (cX Tryz.f71 X w D hT) (.exit 4) ⟨[(0,.p (.slc (List.map (encL (PV.int .i64)) l1))),(3,.own 50 1 0 o19.length),(4,.p (.int .i64 i7)),(5,.p (.int .i64 k13))],[(50,.arr 58 2 1 (List.map AV.p (List.map encArr2_int64 o19)))]⟩) h18 ?_ ?_
 clear h h15 h15a h15b h16 h18
 intro s x h
 obtain ⟨o20,j21⟩:=s
 simp only [drossref56_together_l11] at h
 dsimp only
 refine zs (zs (zr ?_))
 obtain ⟨x22,h23,h23a,h23b,h⟩:=zX h
 refine zU (zl (zn ?_))
 rcases zI h with ⟨h24,h⟩ | ⟨h24,h⟩
 refine zi (zk (zn (zs (zb (zd ?_)))))
 obtain ⟨x25,h26,h26a,h26b,h⟩:=zX h
 obtain ⟨x27,h28,h28a,h28b,h⟩:=zX h
 obtain ⟨h29,h⟩:=ite_some h
 refine yU ?_
 refine yd (yn (zn (zr ?_)))
 refine zU (zl ?_)
 cases h
 exact ⟨rfl,zE⟩
 refine zj (zx (ze ?_))
 cases h
 exact ⟨rfl,zE⟩
 try simp only at h
 refine zA (yh (yn (zn (zr ?_))))
 refine zU (zl ?_)
 cases h
 exact ⟨rfl,zE⟩
 refine zj (zx (ze ?_))
 cases h
 exact ⟨rfl,zE⟩
 try simp only at h
 refine zA (yh (yn (zn (zr ?_))))
 refine zU (zl ?_)
 cases h
 exact ⟨rfl,zE⟩
 refine zj (zx (ze ?_))
 cases h
 exact ⟨rfl,zE⟩
 try simp only at h
 refine zA (yh (zn (zs (zr ?_))))
 refine zU (zl (zn (zq ?_)))
 cases h
 exact zT Tryz.results71
set_option maxHeartbeats 4000000 in
theorem drossref56_Precision_con {D:Prop} (f1:List (List Int)) (t2:List (List Int)) (r3:Ratio×Int) (h:drossref56_Precision f1 t2=some r3):Con D Tryz.prog 31 [(.slc (List.map (encL (PV.int .i64)) f1)),(.slc (List.map (encL (PV.int .i64)) t2))] (.tup [(encRatio r3.1),(.int .i64 r3.2)]):=by
 refine zP Tryz.call31 Tryz.func31 rfl Tryz.ntmps31 fun X w hT=>?_
 simp only [drossref56_Precision] at h
 refine zs (zr ?_)
 refine zU (zl (zn (zs (zs (zr ?_)))))
 refine zU ?_
 obtain ⟨r4,h5,h⟩:=zB h
 refine zc (drossref56_Division_con f1 _ h5) ?_
 refine zU ?_
 rcases zI h with ⟨h6,h⟩ | ⟨h6,h⟩
 refine zw 14 false ?_
 refine zg ?_
 obtain ⟨r7,h8,h⟩:=zB h
 refine zc (drossref56_Division_con t2 _ h8) ?_
 refine zg ?_
 refine zU (zl (zn ?_))
 rcases zI h with ⟨h9,h⟩ | ⟨h9,h⟩
 refine zj (zk (zn (zs (zr ?_))))
 refine zU ?_
 obtain ⟨r10,h11,h⟩:=zB h
 refine zc (drossref56_together_con f1 _ h11) ?_
 refine zU ?_
 obtain ⟨r12,h13,h⟩:=zB h
 refine zc (drossref56_together_con t2 _ h13) ?_
 refine zU (zl (zn (zs (zr ?_))))
 refine zU (zl (zn (zs (zs (zr ?_)))))
 refine zU (zl (zn (zb ?_)))
 obtain ⟨n14,h15,h⟩:=zB h
 refine zO (fun (s:Int×Int)=>⟨[(4,.loc 4 1 0 0),(6,.p (.slc (List.map encArr2_int64 r10))),(7,.p (.slc (List.map encArr2_int64 r12))),(8,.p (.int .i64 s.1)),(9,.p (.int .i64 s.2))],[(4,.arr 76 2 1 [.p (.agg [.int .i64 0,.int .i64 0])])]⟩) (fun (o16:Int)=>tE (cX Tryz.f31 X w D hT) (.exit 0) ⟨[(4,.loc 4 1 0 0),(6,.p (.slc (List.map encArr2_int64 r10))),(8,.p (.int .i64 o16))],[(4,.arr 76 2 1 [.p (.agg [.int .i64 0,.int .i64 0])])]⟩) h15 ?_ ?_
 clear h h5 h6 h8 h9 h11 h13 h15
 intro s x h
 obtain ⟨n17,i18⟩:=s
 simp only [drossref56_Precision_l4] at h
 dsimp only
 refine zs (zs (zr ?_))
 refine zU (zl (zn ?_))
 rcases zI h with ⟨h19,h⟩ | ⟨h19,h⟩
 refine zi (zk (zn (zs (zb (zs (zr ?_))))))
 refine zU (zl (zn (zb ?_)))
 obtain ⟨n20,h21,h⟩:=zB h
 refine zO (fun (s:Int×Int)=>⟨[(4,.loc 4 1 0 0),(6,.p (.slc (List.map encArr2_int64 r10))),(7,.p (.slc (List.map encArr2_int64 r12))),(8,.p (.int .i64 s.1)),(9,.p (.int .i64 i18)),(10,.p (.int .i64 s.2))],[(4,.arr 76 2 1 [.p (.agg [.int .i64 0,.int .i64 0])])]⟩) (fun (o22:Int)=>tE (cX Tryz.f31 X w D hT) (.exit 2) ⟨[(4,.loc 4 1 0 0),(6,.p (.slc (List.map encArr2_int64 r10))),(7,.p (.slc (List.map encArr2_int64 r12))),(8,.p (.int .i64 o22)),(9,.p (.int .i64 i18))],[(4,.arr 76 2 1 [.p (.agg [.int .i64 0,.int .i64 0])])]⟩) h21 ?_ ?_
 clear h h19 h21
 intro s x h
 obtain ⟨n23,k24⟩:=s
 simp only [drossref56_Precision_l3] at h
 dsimp only
 refine zs (zs (zr ?_))
 refine zU (zl (zn ?_))
 rcases zI h with ⟨h25,h⟩ | ⟨h25,h⟩
 refine zi (zk (zn (zs (zb (zs (zd ?_))))))
 obtain ⟨x26,h27,h27a,h27b,h⟩:=zX h
 obtain ⟨x28,h29,h29a,h29b,h⟩:=zX h
 refine yU ?_
 refine yd (zn ?_)
 rcases zI h with ⟨h30,h⟩ | ⟨h30,h⟩
 refine zi (zr ?_)
 refine zU (zl (yn (zn (zr ?_))))
 refine zU (zl ?_)
 cases h
 exact ⟨rfl,zE⟩
 refine zj (zk (yn (zn (zr ?_))))
 refine zU (zl ?_)
 cases h
 exact ⟨rfl,zE⟩
 refine zj (zx (ze ?_))
 cases h
 exact ⟨rfl,zE⟩
 try simp only at h
 refine zA (yh (yn (zn (zr ?_))))
 refine zU (zl ?_)
 cases h
 exact ⟨rfl,zE⟩
 refine zj (zx (ze ?_))
 cases h
 exact ⟨rfl,zE⟩
 try simp only at h
 refine zA (yh (zn (zs (zs (zr ?_)))))
 refine zU (zl (zn ?_))
 rcases zI h with ⟨h31,h⟩ | ⟨h31,h⟩
 refine zi (zs (zr ?_))
 obtain ⟨r32,h33,h⟩:=zB h
 refine zc (drossref04_Of_con 1 1 _ h33) ?_
 refine zU (zl (zn (zq (zt ?_))))
 cases h
 exact zT Tryz.results31
 refine zj (zk (zn (zs (zr ?_))))
 refine zU ?_
 obtain ⟨r34,h35,h⟩:=zB h
 refine zc (drossref04_Of_con n14 (r10.length:Int) _ h35) ?_
 refine zU (zl (zn (zq ?_)))
 cases h
 exact zT Tryz.results31
 refine zi (zs (zr ?_))
 refine zU (zl (zn (zq (zt ?_))))
 cases h
 exact zT Tryz.results31
 refine zw 14 true ?_
 refine zh ?_
 refine zU (zl (zn ?_))
 refine zi (zs (zr ?_))
 refine zU (zl (zn (zq (zt ?_))))
 cases h
 exact zT Tryz.results31
set_option maxRecDepth 20000 in
set_option maxHeartbeats 4000000 in
theorem drosslaw56_LinkageScores_con (f1:List (List Int)) (t2:List (List Int)) (r3:Bool) (h:drosslaw56_LinkageScores f1 t2=some r3):Con False Tryz.prog 8 [(.slc (List.map (encL (PV.int .i64)) f1)),(.slc (List.map (encL (PV.int .i64)) t2))] (.bool r3):=by
 refine zP Tryz.call8 Tryz.func8 rfl Tryz.ntmps8 fun X w hT=>?_
 simp only [drosslaw56_LinkageScores] at h
 refine zs (zr ?_)
 refine zU (zl (zn (zs ?_)))
 obtain ⟨t4,h5,h⟩:=zB h
 refine zJ (fun (o6:Bool)=>tE (cX Tryz.f8 X w False hT) .normal ⟨[(0,.p (.slc (List.map (encL (PV.int .i64)) f1))),(1,.p (.slc (List.map (encL (PV.int .i64)) t2))),(24,.p (.bool o6))],[]⟩) t4 ?_ ?_
 replace h:=h5
 clear h5
 refine zr ?_
 obtain ⟨r7,h8,h⟩:=zB h
 refine zc (drosslaw56_awake_con  _ h8) ?_
 refine zU ?_
 rcases zI h with ⟨h9,h⟩ | ⟨h9,h⟩
 refine zw 15 false ?_
 refine zg ?_
 obtain ⟨r10,h11,h⟩:=zB h
 refine zc (drosslaw56_size_con f1 _ h11) ?_
 refine zg ?_
 refine zU ?_
 rcases zI h with ⟨h12,h⟩ | ⟨h12,h⟩
 refine zw 20 true ?_
 refine zh ?_
 refine zU (zl ?_)
 cases h
 exact ⟨rfl,zE⟩
 refine zw 20 false ?_
 refine zg ?_
 obtain ⟨r13,h14,h⟩:=zB h
 replace h:=h.symm
 refine zc (drosslaw56_size_con t2 _ h14) ?_
 refine zg ?_
 refine zU (zl ?_)
 cases h
 exact ⟨rfl,zE⟩
 refine zw 15 true ?_
 refine zh ?_
 refine zU ?_
 refine zh ?_
 refine zU (zl ?_)
 cases h
 exact ⟨rfl,zE⟩
 try simp only at h
 refine zA (zn ?_)
 rcases zI h with ⟨h15,h⟩ | ⟨h15,h⟩
 refine zi (zs (zr ?_))
 obtain ⟨r16,h17,h⟩:=zB h
 refine zc (drosslaw56_awake_con  _ h17) ?_
 refine zU (zl (zn (zq (zt ?_))))
 cases h
 exact zT Tryz.results8
 refine zj (zk (zn (zs (zr ?_))))
 refine zU ?_
 obtain ⟨r18,h19,h⟩:=zB h
 refine zc (linkage_Precision_con f1 t2 _ h19) ?_
 refine zU (zl (zn (zs (zr ?_))))
 refine zU ?_
 obtain ⟨r20,h21,h⟩:=zB h
 refine zc (drossref56_Precision_con f1 t2 _ h21) ?_
 refine zU (zl (zn (zs (zr ?_))))
 refine zU ?_
 obtain ⟨r22,h23,h⟩:=zB h
 refine zc (linkage_Recall_con f1 t2 _ h23) ?_
 refine zU (zl (zn (zs (zr ?_))))
 refine zU ?_
 obtain ⟨r24,h25,h⟩:=zB h
 refine zc (drossref56_Precision_con t2 f1 _ h25) ?_
 refine zU (zl (zn (zs (zr ?_))))
 refine zU ?_
 rcases zI h with ⟨h26,h⟩ | ⟨h26,h⟩
 refine zw 53 true ?_
 refine zg ?_
 refine zg ?_
 refine zg ?_
 refine zU ?_
 rcases zI h with ⟨h27,h⟩ | ⟨h27,h⟩
 refine zw 58 true ?_
 refine zg ?_
 refine zg ?_
 refine zg ?_
 refine zU ?_
 rcases zI h with ⟨h28,h⟩ | ⟨h28,h⟩
 replace h:=h.symm
 refine zw 63 true ?_
 refine zg ?_
 refine zg ?_
 refine zg ?_
 refine zU (zl (zn (zq ?_)))
 cases h
 exact zT Tryz.results8
 refine zw 63 false ?_
 refine zh ?_
 refine zU (zl (zn (zq ?_)))
 cases h
 exact zT Tryz.results8
 refine zw 58 false ?_
 refine zh ?_
 refine zU ?_
 refine zh ?_
 refine zU (zl (zn (zq ?_)))
 cases h
 exact zT Tryz.results8
 refine zw 53 false ?_
 refine zh ?_
 refine zU ?_
 refine zh ?_
 refine zU ?_
 refine zh ?_
 refine zU (zl (zn (zq ?_)))
 cases h
 exact zT Tryz.results8
end Go.Proofs.YtmlegeeinnkhkaaGreat
