/- -/
import Derived.Test.YtmlegeeinnkhkaaGreatW1
set_option linter.unusedVariables false
set_option linter.unusedSimpArgs false
set_option maxHeartbeats 4000000
set_option maxRecDepth 20000
open And renaming intro→v62
open Bool renaming eq_false_iff→v18
open Int renaming fdiv→v30,tmod→v34
open Go.IntKind renaming i64→v4a,u64→v4b
open List renaming length_set→v0m,map→v2v
open Option.some renaming inj→v3q
open Go.Ab.PV renaming int→v65,str→v67
namespace Go.Proofs.YtmlegeeinnkhkaaGreat
open Go Go.Ab Tryz
variable {D:Prop}
theorem qqi (d1:List (List Int)) (r2:(List (Int×Int))×Int×Bool) (h:qf3 d1=some r2):Con D prog 68 [(.slc (v2v (qap (v65 .i64)) d1))] (.tup [(.mapv (qnk (v65 .i64) r2.1) (qn2 (v65 .i64) r2.1)),(.int .i64 r2.2.1),(.bool r2.2.2)]):=by
 refine zP call68 func68 rfl ntmps68 fun X w hT=>?_
 simp only [qf3] at h
 refine Ms ?_
 refine M6 ?_
 refine M6 ?_
 refine M5 ?_
 obtain ⟨o3,h4,h⟩:=zB h
 refine zO (fun (s:(List (Int×Int))×Int×Int)=>⟨[(5,.mapo 15 1),(6,.p (.int .i64 s.2.1)),(16,.p (.slc (v2v (qap (v65 .i64)) d1))),(17,.p (.int .i64 (d1.length:Int))),(18,.p (.int .i64 s.2.2))],[(15,.map 1 (v2v AV.p (qnk (v65 .i64) s.1)) (v2v AV.p (qn2 (v65 .i64) s.1)))]⟩) (fun (o:((List (Int×Int))×Int) ⊕ ((List (Int×Int))×Int×Bool))=>match o with | .inl o5=>tE (cX Tryz.f68 X w D hT) (.exit 0) ⟨[(5,.mapo 15 1),(6,.p (.int .i64 o5.2))],[(15,.map 1 (v2v AV.p (qnk (v65 .i64) o5.1)) (v2v AV.p (qn2 (v65 .i64) o5.1)))]⟩ | .inr o6=>tR prog Tryz.f68 (.tup [(.mapv (qnk (v65 .i64) o6.1) (qn2 (v65 .i64) o6.1)),(.int .i64 o6.2.1),(.bool o6.2.2)])) h4 ?_ ?_
 clear h h4
 intro s x h
 obtain ⟨o7,p8,t9⟩:=s
 simp only [qbp] at h
 refine Mb ?_
 obtain ⟨h10,h⟩|⟨h10,h⟩:=zI h
 refine M9 ?_
 obtain ⟨x11,h12,h12a,h12b,h⟩:=zX h
 refine Mo ?_
 refine M8 ?_
 obtain ⟨h13,h⟩|⟨h13,h⟩:=zI h
 refine Me ?_
 cases h
 exact ⟨rfl,zT results68⟩
 refine Mf ?_
 refine M5 ?_
 obtain ⟨o14,h15,h⟩:=zB h
 refine zO (fun (s:(List (Int×Int))×Int×Int)=>⟨[(5,.mapo 15 1),(6,.p (.int .i64 p8)),(7,.p (.int .i64 t9)),(8,.p (.slc (v2v (v65 .i64) x11))),(9,.p (.int .i64 s.2.1)),(16,.p (.slc (v2v (qap (v65 .i64)) d1))),(17,.p (.int .i64 (d1.length:Int))),(18,.p (.int .i64 t9)),(26,.p (.slc (v2v (v65 .i64) x11))),(27,.p (.int .i64 (x11.length:Int))),(28,.p (.int .i64 s.2.2))],[(15,.map 1 (v2v AV.p (qnk (v65 .i64) s.1)) (v2v AV.p (qn2 (v65 .i64) s.1)))]⟩) (fun (o:((List (Int×Int))) ⊕ ((List (Int×Int))×Int×Bool))=>match o with | .inl o16=>tE (cX Tryz.f68 X w D hT) (.exit 2) ⟨[(5,.mapo 15 1),(6,.p (.int .i64 p8)),(8,.p (.slc (v2v (v65 .i64) x11))),(16,.p (.slc (v2v (qap (v65 .i64)) d1))),(17,.p (.int .i64 (d1.length:Int))),(18,.p (.int .i64 t9))],[(15,.map 1 (v2v AV.p (qnk (v65 .i64) o16)) (v2v AV.p (qn2 (v65 .i64) o16)))]⟩ | .inr o17=>tR prog Tryz.f68 (.tup [(.mapv (qnk (v65 .i64) o17.1) (qn2 (v65 .i64) o17.1)),(.int .i64 o17.2.1),(.bool o17.2.2)])) h15 ?_ ?_
 clear h h10 h12 h12a h12b h13 h15
 intro s x h
 obtain ⟨o18,b19,t20⟩:=s
 simp only [qem] at h
 refine Mb ?_
 obtain ⟨h21,h⟩|⟨h21,h⟩:=zI h
 refine M9 ?_
 obtain ⟨x22,h23,h23a,h23b,h⟩:=zX h
 refine Mo ?_
 refine M6 ?_
 refine zU ?_
 obtain ⟨h24,h⟩|⟨h24,h⟩:=zI h
 refine zw 39 true ?_
 refine zh ?_
 refine M8 ?_
 refine Me ?_
 cases h
 exact ⟨rfl,zT results68⟩
 refine zw 39 false ?_
 refine M4 ?_
 refine M8 ?_
 obtain ⟨h25,h⟩|⟨h25,h⟩:=zI h
 refine Me ?_
 cases h
 exact ⟨rfl,zT results68⟩
 refine Mf ?_
 refine Mx ?_
 refine Mh ?_
 exact M0 h
 exact M2 h
 rcases o14 with o26 | r27
 try simp only at h
 refine Md ?_
 refine Mx ?_
 refine Mh ?_
 exact M0 h
 try simp only at h
 refine zZ fun s hq=>?_
 refine yr<|zt<|yr<|zt ?_
 cases h
 refine ⟨rfl,?_⟩
 exact hq
 exact M2 h
 rcases o3 with ⟨o28,p29⟩ | r30
 try simp only at h
 refine Md ?_
 exact M3 h results68
 exact M7 h
theorem qnu (f1:List (List Int)) (t2:List (List Int)) (r3:Ratio×Int) (h:qdg f1 t2=some r3):Con D prog 30 [(.slc (v2v (qap (v65 .i64)) f1)),(.slc (v2v (qap (v65 .i64)) t2))] (.tup [(qjl r3.1),(.int .i64 r3.2)]):=by
 refine zP call30 func30 rfl ntmps30 fun X w hT=>?_
 simp only [qdg] at h
 refine Ms ?_
 refine M6 ?_
 refine zU ?_
 obtain ⟨r4,h5,h⟩:=zB h
 refine zc (qqi f1 _ h5) ?_
 refine M6 ?_
 refine zU ?_
 obtain ⟨r6,h7,h⟩:=zB h
 refine zc (qqi t2 _ h7) ?_
 refine Mo ?_
 refine zU ?_
 obtain ⟨h8,h⟩|⟨h8,h⟩:=zI h
 refine zw 34 false ?_
 refine Mr ?_
 refine M8 ?_
 obtain ⟨h9,h⟩|⟨h9,h⟩:=zI h
 refine Mm ?_
 refine M8 ?_
 obtain ⟨h10,h⟩|⟨h10,h⟩:=zI h
 exact M1 h results30
 refine Mf ?_
 refine M5 ?_
 obtain ⟨b11,h12,h⟩:=zB h
 refine zO (fun (s:Int×Int)=>⟨[(4,.loc 4 1 0 0),(7,.p (.int .i64 r4.2.1)),(9,.p (.mapv (qnk (v65 .i64) r6.1) (qn2 (v65 .i64) r6.1))),(12,.p (.int .i64 s.1)),(42,.p (.slc (v2v (qap (v65 .i64)) f1))),(43,.p (.int .i64 (f1.length:Int))),(44,.p (.int .i64 s.2))],[(4,.arr 76 2 1 [.p (.agg [.int .i64 0,.int .i64 0])])]⟩) (fun (o13:Int)=>tE (cX Tryz.f30 X w D hT) (.exit 0) ⟨[(4,.loc 4 1 0 0),(7,.p (.int .i64 r4.2.1)),(12,.p (.int .i64 o13))],[(4,.arr 76 2 1 [.p (.agg [.int .i64 0,.int .i64 0])])]⟩) h12 ?_ ?_
 clear h h5 h7 h8 h9 h10 h12
 intro s x h
 obtain ⟨b14,t15⟩:=s
 simp only [qa2] at h
 refine Mb ?_
 obtain ⟨h16,h⟩|⟨h16,h⟩:=zI h
 refine M9 ?_
 obtain ⟨x17,h18,h18a,h18b,h⟩:=zX h
 refine M6 ?_
 refine M6 ?_
 refine Mq ?_
 obtain ⟨b19,h20,h⟩:=zB h
 refine zO (fun (s:Int×(List (Int×Int))×Int)=>⟨[(4,.loc 4 1 0 0),(7,.p (.int .i64 r4.2.1)),(9,.p (.mapv (qnk (v65 .i64) r6.1) (qn2 (v65 .i64) r6.1))),(12,.p (.int .i64 s.1)),(15,.mapo 48 1),(42,.p (.slc (v2v (qap (v65 .i64)) f1))),(43,.p (.int .i64 (f1.length:Int))),(44,.p (.int .i64 t15)),(49,.p (.slc (v2v (v65 .i64) x17))),(50,.p (.int .i64 (x17.length:Int))),(51,.p (.int .i64 s.2.2))],[(4,.arr 76 2 1 [.p (.agg [.int .i64 0,.int .i64 0])]),(48,.map 1 (v2v AV.p (qnk (v65 .i64) s.2.1)) (v2v AV.p (qn2 (v65 .i64) s.2.1)))]⟩) (fun (o21:Int)=>tE (cX Tryz.f30 X w D hT) (.exit 2) ⟨[(4,.loc 4 1 0 0),(7,.p (.int .i64 r4.2.1)),(9,.p (.mapv (qnk (v65 .i64) r6.1) (qn2 (v65 .i64) r6.1))),(12,.p (.int .i64 o21)),(42,.p (.slc (v2v (qap (v65 .i64)) f1))),(43,.p (.int .i64 (f1.length:Int))),(44,.p (.int .i64 t15))],[(4,.arr 76 2 1 [.p (.agg [.int .i64 0,.int .i64 0])])]⟩) h20 ?_ ?_
 clear h h16 h18 h18a h18b h20
 intro s x h
 obtain ⟨b22,c23,t24⟩:=s
 simp only [qcs] at h
 refine Mb ?_
 obtain ⟨h25,h⟩|⟨h25,h⟩:=zI h
 refine M9 ?_
 obtain ⟨x26,h27,h27a,h27b,h⟩:=zX h
 refine M6 ?_
 refine M6 ?_
 refine M8 ?_
 obtain ⟨h28,h⟩|⟨h28,h⟩:=zI h
 refine Tl ?_
 refine Mx ?_
 refine Mh ?_
 exact M0 h
 refine Mj ?_
 exact M0 h
 exact M2 h
 try simp only at h
 refine T1 ?_
 exact M0 h
 exact M2 h
 try simp only at h
 refine Md ?_
 refine zU ?_
 obtain ⟨r29,h30,h⟩:=zB h
 refine zc (qvx b11 r4.2.1 _ h30) ?_
 exact M3 h results30
 exact M1 h results30
 refine zw 34 true ?_
 refine zh ?_
 refine M8 ?_
 exact M1 h results30
theorem qyj (f1:List (List Int)) (t2:List (List Int)) (r3:Ratio×Int) (h:qlp f1 t2=some r3):Con D prog 32 [(.slc (v2v (qap (v65 .i64)) f1)),(.slc (v2v (qap (v65 .i64)) t2))] (.tup [(qjl r3.1),(.int .i64 r3.2)]):=by
 refine zP call32 func32 rfl ntmps32 fun X w hT=>?_
 simp only [qlp] at h
 refine Ms ?_
 refine M6 ?_
 refine zU ?_
 obtain ⟨r4,h5,h⟩:=zB h
 refine zc (qnu t2 f1 _ h5) ?_
 exact M3 h results32
theorem qs1 (r1:Table×Linkage) (h:qhz=some r1):Con D prog 39 [] (.tup [(qaf r1.1),(qak r1.2)]):=by
 refine zP call39 func39 rfl ntmps39 fun X w hT=>?_
 simp only [qhz] at h
 refine Ms ?_
 refine M6 ?_
 refine M5 ?_
 refine zL ⟨[(0,.loc 0 1 0 0),(1,.loc 1 1 0 0),(2,.loc 2 1 0 0),(7,.own 7 1 0 4),(8,.p (.int .i64 4)),(9,.p (.int .i64 0))],[(0,.arr 41 3 1 [.agg [.p (.str []),.nils,.nils]]),(1,.arr 25 3 1 [.agg [.nils,.nils,.nils]]),(2,.arr 41 3 1 [.agg [.p (.str [112]),.own 5 1 0 1,.nils]]),(5,.arr 9 1 1 [.p (.str [110,97,109,101])]),(7,.arr 9 1 1 [.p (.str [97,110,110]),.p (.str [97,110,110,101]),.p (.str [97,110,110,101,115]),.p (.str [98,111,98])])]⟩ ?_
 obtain ⟨l2,h3,h⟩:=zB h
 replace h3:=v3q h3
 refine qq6 (st':=⟨[(0,.loc 0 1 0 0),(1,.loc 1 1 0 0),(2,.loc 2 1 0 0),(7,.own 7 1 0 l2.length),(8,.p (.int .i64 4)),(9,.p (.int .i64 0))],[(0,.arr 41 3 1 [.agg [.p (.str []),.nils,.nils]]),(1,.arr 25 3 1 [.agg [.nils,.nils,.nils]]),(2,.arr 41 3 1 [.agg [.p (.str [112]),.own 5 1 0 1,.nils]]),(5,.arr 9 1 1 [.p (.str [110,97,109,101])]),(7,.arr 9 1 1 (v2v AV.p (v2v v67 l2)))]⟩) (by simp only [go_sem,seval,←h3];all_goals ((repeat' refine v62 ?_ ?_) <;> first | rfl | (simp;done) | (simp;rfl) | (simp [*];done) | (simp [*];rfl))) ?_
 have h3n:l2.length=4:=by rw [←h3];rfl
 clear h3
 obtain ⟨t4,h5,h⟩:=zB h
 refine zO (fun (s:List Row×Int)=>⟨[(0,.loc 0 1 0 0),(1,.loc 1 1 0 0),(2,.loc 2 1 0 0),(7,.own 7 1 0 l2.length),(8,.p (.int .i64 4)),(9,.p (.int .i64 s.2))],[(0,.arr 41 3 1 [.agg [.p (.str []),.nils,.nils]]),(1,.arr 25 3 1 [.agg [.nils,.nils,.nils]]),(2,.arr 41 3 1 [.agg [.p (.str [112]),.own 5 1 0 ([[110,97,109,101]]).length,.own 23 1 0 s.1.length]]),(5,.arr 9 1 1 (v2v AV.p (v2v v67 [[110,97,109,101]]))),(7,.arr 9 1 1 (v2v AV.p (v2v v67 l2))),(23,.arr 66 2 1 (v2v AV.p (v2v qao s.1)))]⟩) (fun (o6:List Row)=>tE (cX Tryz.f39 X w D hT) (.exit 0) ⟨[(0,.loc 0 1 0 0),(1,.loc 1 1 0 0),(2,.loc 2 1 0 0)],[(0,.arr 41 3 1 [.agg [.p (.str []),.nils,.nils]]),(1,.arr 25 3 1 [.agg [.nils,.nils,.nils]]),(2,.arr 41 3 1 [.agg [.p (.str [112]),.own 5 1 0 ([[110,97,109,101]]).length,.own 23 1 0 o6.length]]),(5,.arr 9 1 1 (v2v AV.p (v2v v67 [[110,97,109,101]]))),(23,.arr 66 2 1 (v2v AV.p (v2v qao o6)))]⟩) h5 ?_ ?_
 clear h h3n h5
 intro s x h
 obtain ⟨t7,t8⟩:=s
 simp only [qkm] at h
 refine Mb ?_
 obtain ⟨h9,h⟩|⟨h9,h⟩:=zI h
 refine M9 ?_
 obtain ⟨x10,h11,h11a,h11b,h⟩:=zX h
 refine Mx ?_
 refine zW 9 ?_
 refine zM ⟨[(0,.loc 0 1 0 0),(1,.loc 1 1 0 0),(2,.loc 2 1 0 0),(7,.own 7 1 0 l2.length),(8,.p (.int .i64 4)),(9,.p (.int .i64 t8)),(15,.own 23 1 0 t7.length),(22,.own 22 1 0 1)],[(0,.arr 41 3 1 [.agg [.p (.str []),.nils,.nils]]),(1,.arr 25 3 1 [.agg [.nils,.nils,.nils]]),(2,.arr 41 3 1 [.agg [.p (.str [112]),.own 5 1 0 ([[110,97,109,101]]).length,.own 23 1 0 t7.length]]),(5,.arr 9 1 1 (v2v AV.p (v2v v67 [[110,97,109,101]]))),(7,.arr 9 1 1 (v2v AV.p (v2v v67 l2))),(22,.arr 66 2 1 [.p (.agg [.int .i64 (v4a.wrap (t8+1)),.slc (v2v qaj [(Value.mk 2 0 x10)])])]),(23,.arr 66 2 1 (v2v AV.p (v2v qao t7)))]⟩ ?_
 obtain ⟨h12,h⟩:=qab h
 refine Mh ?_
 exact M0 h
 exact M2 h
 try simp only at h
 refine Md ?_
 exact M3 h results39
theorem qwr (a1:Drossref04_Wide) (r2:Bool) (h:qiy a1=some r2):Con D prog 191 [(qah a1)] (.bool r2):=by
 refine zP call191 func191 rfl ntmps191 fun X w hT=>?_
 simp only [qiy] at h
 refine Ms ?_
 refine M6 ?_
 refine zU ?_
 obtain ⟨h3,h⟩|⟨h3,h⟩:=zI h
 replace h:=h.symm
 refine zw 6 true ?_
 refine M4 ?_
 exact M3 h results191
 refine zw 6 false ?_
 refine zh ?_
 exact M3 h results191
theorem qjm (a1:Drossref04_Wide) (b2:Drossref04_Wide) (r3:Bool) (h:qc6 a1 b2=some r3):Con D prog 193 [(qah a1),(qah b2)] (.bool r3):=by
 refine zP call193 func193 rfl ntmps193 fun X w hT=>?_
 simp only [qc6] at h
 refine Ms ?_
 refine M6 ?_
 refine zU ?_
 obtain ⟨h4,h⟩|⟨h4,h⟩:=zI h
 refine zw 10 true ?_
 refine zh ?_
 exact M3 h results193
 refine zw 10 false ?_
 refine M4 ?_
 refine M4 ?_
 obtain ⟨h5,h⟩|⟨h5,h⟩:=zI h
 replace h:=h.symm
 refine zw 16 true ?_
 refine M4 ?_
 refine M4 ?_
 exact M3 h results193
 replace h:=h.symm
 refine zw 16 false ?_
 refine Tb ?_
 exact M3 h results193
theorem qjn (a1:Drossref04_Wide) (b2:Drossref04_Wide) (r3:Drossref04_Wide) (h:qdq a1 b2=some r3):Con D prog 228 [(qah a1),(qah b2)] (qah r3):=by
 refine zP call228 func228 rfl ntmps228 fun X w hT=>?_
 simp only [qdq] at h
 refine Ms ?_
 refine M6 ?_
 refine zU ?_
 obtain ⟨r4,h5,h⟩:=zB h
 refine zE3 (vi9 vqi h5) ?_
 refine M6 ?_
 refine zU ?_
 obtain ⟨r6,h7,h⟩:=zB h
 refine zE3 (vi9 vqi h7) ?_
 refine M6 ?_
 exact M3 h results228
theorem qoa (a1:Drossref04_Wide) (b2:Drossref04_Wide) (r3:Drossref04_Wide) (h:qhh a1 b2=some r3):Con D prog 229 [(qah a1),(qah b2)] (qah r3):=by
 refine zP call229 func229 rfl ntmps229 fun X w hT=>?_
 simp only [qhh] at h
 refine Ms ?_
 refine M6 ?_
 refine zU ?_
 obtain ⟨r4,h5,h⟩:=zB h
 refine zE3 (vja vqj h5) ?_
 refine M6 ?_
 refine zU ?_
 obtain ⟨r6,h7,h⟩:=zB h
 refine zE3 (vja vqj h7) ?_
 refine M6 ?_
 exact M3 h results229
theorem qle (a1:Drossref04_Wide) (b2:Drossref04_Wide) (r3:Drossref04_Wide×Drossref04_Wide) (h:qfo a1 b2=some r3):Con D prog 192 [(qah a1),(qah b2)] (.tup [(qah r3.1),(qah r3.2)]):=by
 refine zP call192 func192 rfl ntmps192 fun X w hT=>?_
 simp only [qfo] at h
 refine Ms ?_
 refine M6 ?_
 refine M5 ?_
 obtain ⟨o4,h5,h⟩:=zB h
 refine zO (fun (s:Drossref04_Wide×Drossref04_Wide×Int)=>⟨[(2,.loc 2 1 0 0),(3,.loc 3 1 0 0),(4,.loc 4 1 0 0),(5,.loc 5 1 0 0),(6,.loc 6 1 0 0),(7,.loc 7 1 0 0),(8,.p (.int .i64 s.2.2))],[(2,.arr 191 2 1 [.p (qah a1)]),(3,.arr 191 2 1 [.p (qah b2)]),(4,.arr 191 2 1 [.p (.agg [.int .u64 0,.int .u64 0])]),(5,.arr 191 2 1 [.p (.agg [.int .u64 0,.int .u64 0])]),(6,.arr 191 2 1 [.p (qah s.1)]),(7,.arr 191 2 1 [.p (qah s.2.1)])]⟩) (fun (o6:Drossref04_Wide×Drossref04_Wide)=>tE (cX Tryz.f192 X w D hT) (.exit 0) ⟨[(4,.loc 4 1 0 0),(5,.loc 5 1 0 0),(6,.loc 6 1 0 0),(7,.loc 7 1 0 0)],[(4,.arr 191 2 1 [.p (.agg [.int .u64 0,.int .u64 0])]),(5,.arr 191 2 1 [.p (.agg [.int .u64 0,.int .u64 0])]),(6,.arr 191 2 1 [.p (qah o6.1)]),(7,.arr 191 2 1 [.p (qah o6.2)])]⟩) h5 ?_ ?_
 clear h h5
 intro s x h
 obtain ⟨q7,r8,i9⟩:=s
 simp only [qbt] at h
 refine Mi ?_
 refine M8 ?_
 obtain ⟨h10,h⟩|⟨h10,h⟩:=zI h
 refine M9 ?_
 refine Mo ?_
 refine M8 ?_
 obtain ⟨h11,h⟩|⟨h11,h⟩:=zI h
 refine Tc ?_
 refine M6 ?_
 refine zU ?_
 obtain ⟨r12,h13,h⟩:=zB h
 refine zc (qjn r8 r8 _ h13) ?_
 refine Mz ?_
 obtain ⟨h14,h⟩:=qpy h
 refine Ti ?_
 refine zU ?_
 obtain ⟨r15,h16,h⟩:=zB h
 refine zc (qjn q7 q7 _ h16) ?_
 refine M6 ?_
 refine zU ?_
 obtain ⟨r17,h18,h⟩:=zB h
 refine zc (qjm (Drossref04_Wide.mk r12.Hi (v4b.wrap (r12.Lo+(v34 (v30 a1.Hi (2 ^ (min ((v34 i9 64)).toNat 64))) 2)))) b2 _ h18) ?_
 refine M8 ?_
 obtain ⟨h19,h⟩|⟨h19,h⟩:=zI h
 refine Mj ?_
 exact M0 h
 refine Mt ?_
 obtain ⟨r20,h21,h⟩:=zB h
 refine zc (qoa (Drossref04_Wide.mk r12.Hi (v4b.wrap (r12.Lo+(v34 (v30 a1.Hi (2 ^ (min ((v34 i9 64)).toNat 64))) 2)))) b2 _ h21) ?_
 refine Mx ?_
 refine Mh ?_
 exact M0 h
 refine Mf ?_
 refine zU ?_
 obtain ⟨r22,h23,h⟩:=zB h
 refine zc (qjn r8 r8 _ h23) ?_
 refine Mz ?_
 obtain ⟨h24,h⟩:=qpy h
 refine Ti ?_
 refine zU ?_
 obtain ⟨r25,h26,h⟩:=zB h
 refine zc (qjn q7 q7 _ h26) ?_
 refine M6 ?_
 refine zU ?_
 obtain ⟨r27,h28,h⟩:=zB h
 refine zc (qjm (Drossref04_Wide.mk r22.Hi (v4b.wrap (r22.Lo+(v34 (v30 a1.Lo (2 ^ (min ((v34 i9 64)).toNat 64))) 2)))) b2 _ h28) ?_
 refine M8 ?_
 obtain ⟨h29,h⟩|⟨h29,h⟩:=zI h
 refine Mj ?_
 exact M0 h
 refine Mt ?_
 obtain ⟨r30,h31,h⟩:=zB h
 refine zc (qoa (Drossref04_Wide.mk r22.Hi (v4b.wrap (r22.Lo+(v34 (v30 a1.Lo (2 ^ (min ((v34 i9 64)).toNat 64))) 2)))) b2 _ h31) ?_
 refine Mx ?_
 refine Mh ?_
 exact M0 h
 exact M2 h
 obtain ⟨q32,r33⟩:=o4
 try simp only at h
 refine zA<|yh<|zn<|zs<|zd ?_
 exact Mp h results192
theorem qu9 (n1:Bool) (n2:Drossref04_Wide) (d3:Drossref04_Wide) (r4:Ratio×Int) (h:qlx n1 n2 d3=some r4):Con D prog 132 [(.bool n1),(qah n2),(qah d3)] (.tup [(qjl r4.1),(.int .i64 r4.2)]):=by
 refine zP call132 func132 rfl ntmps132 fun X w hT=>?_
 simp only [qlx] at h
 refine Ms ?_
 refine Mz ?_
 refine yU ?_
 refine yd<|zn<|zs<|zb ?_
 obtain ⟨x5,h6,h⟩:=zB h
 refine zO (fun (s:Drossref04_Wide×Drossref04_Wide)=>⟨[(0,.p (.bool n1)),(4,.loc 4 1 0 0),(5,.loc 5 1 0 0),(6,.loc 6 1 0 0),(8,.loc 8 1 0 0),(9,.loc 9 1 0 0)],[(4,.arr 191 2 1 [.p (qah n2)]),(5,.arr 191 2 1 [.p (qah d3)]),(6,.arr 76 2 1 [.p (.agg [.int .i64 0,.int .i64 0])]),(8,.arr 191 2 1 [.p (qah s.1)]),(9,.arr 191 2 1 [.p (qah s.2)])]⟩) (fun (o7:Drossref04_Wide)=>tE (cX Tryz.f132 X w D hT) (.exit 0) ⟨[(0,.p (.bool n1)),(4,.loc 4 1 0 0),(5,.loc 5 1 0 0),(6,.loc 6 1 0 0),(8,.loc 8 1 0 0)],[(4,.arr 191 2 1 [.p (qah n2)]),(5,.arr 191 2 1 [.p (qah d3)]),(6,.arr 76 2 1 [.p (.agg [.int .i64 0,.int .i64 0])]),(8,.arr 191 2 1 [.p (qah o7)])]⟩) h6 ?_ ?_
 clear h h6
 intro s x h
 obtain ⟨x8,y9⟩:=s
 simp only [qgx] at h
 refine Mi ?_
 refine zU ?_
 obtain ⟨r10,h11,h⟩:=zB h
 refine zc (qwr y9 _ h11) ?_
 refine M8 ?_
 obtain ⟨h12,h⟩|⟨h12,h⟩:=zI h
 exact M2 h
 refine zi<|zk<|zn<|zb<|zs<|zr ?_
 refine zU ?_
 obtain ⟨r13,h14,h⟩:=zB h
 refine zc (qle x8 y9 _ h14) ?_
 refine Th ?_
 refine yU ?_
 refine yd<|yn ?_
 exact Mv h
 try simp only at h
 refine Md ?_
 refine zU ?_
 obtain ⟨r15,h16,h⟩:=zB h
 refine zc (qle n2 x5 _ h16) ?_
 refine M6 ?_
 refine zU ?_
 obtain ⟨r17,h18,h⟩:=zB h
 refine zc (qle d3 x5 _ h18) ?_
 refine M6 ?_
 refine Mo ?_
 refine zU ?_
 obtain ⟨r19,h20,h⟩:=zB h
 refine zc (qjm (Drossref04_Wide.mk 0 9223372036854775807) r15.1 _ h20) ?_
 refine zU ?_
 obtain ⟨h21,h⟩|⟨h21,h⟩:=zI h
 refine zw 43 true ?_
 refine zh ?_
 refine M8 ?_
 exact M1 h results132
 refine zw 43 false ?_
 refine Mr ?_
 obtain ⟨r22,h23,h⟩:=zB h
 refine zc (qjm (Drossref04_Wide.mk 0 9223372036854775807) r17.1 _ h23) ?_
 refine M8 ?_
 obtain ⟨h24,h⟩|⟨h24,h⟩:=zI h
 exact M1 h results132
 refine Mf ?_
 refine Mo ?_
 refine M8 ?_
 obtain ⟨h25,h⟩|⟨h25,h⟩:=zI h
 refine Tc ?_
 refine M6 ?_
 exact M3 h results132
 refine Mf ?_
 exact M3 h results132
theorem qpf (n1:Int) (r2:Drossref04_Wide) (h:qiz n1=some r2):Con D prog 133 [(.int .i64 n1)] (qah r2):=by
 refine zP call133 func133 rfl ntmps133 fun X w hT=>?_
 simp only [qiz] at h
 refine Mc ?_
 refine M8 ?_
 obtain ⟨h3,h⟩|⟨h3,h⟩:=zI h
 exact M1 h results133
 refine Mf ?_
 exact M3 h results133
theorem qws (n1:Int) (d2:Int) (r3:Ratio×Int) (h:qkn n1 d2=some r3):Con D prog 79 [(.int .i64 n1),(.int .i64 d2)] (.tup [(qjl r3.1),(.int .i64 r3.2)]):=by
 refine zP call79 func79 rfl ntmps79 fun X w hT=>?_
 simp only [qkn] at h
 refine Mc ?_
 refine M8 ?_
 obtain ⟨h4,h⟩|⟨h4,h⟩:=zI h
 exact M1 h results79
 refine Mf ?_
 refine zU ?_
 obtain ⟨r5,h6,h⟩:=zB h
 refine zc (qpf n1 _ h6) ?_
 refine zU ?_
 obtain ⟨r7,h8,h⟩:=zB h
 refine zc (qpf d2 _ h8) ?_
 obtain ⟨r9,h10,h⟩:=zB h
 refine zc (qu9 (!((decide (n1 < 0)) == (decide (d2 < 0)))) r5 r7 _ h10) ?_
 exact M3 h results79
theorem qla (n1:Int) (d2:Int) (r3:Ratio) (h:qez n1 d2=some r3):Con D prog 40 [(.int .i64 n1),(.int .i64 d2)] (qjl r3):=by
 refine zP call40 func40 rfl ntmps40 fun X w hT=>?_
 simp only [qez] at h
 refine Ms ?_
 refine M6 ?_
 refine zU ?_
 obtain ⟨r4,h5,h⟩:=zB h
 refine zc (qws n1 d2 _ h5) ?_
 refine Mo ?_
 refine M8 ?_
 obtain ⟨h6,h⟩|⟨h6,h⟩:=zI h
 exact M1 h results40
 refine Mf ?_
 exact M3 h results40
theorem qob  (r1:Bool) (h:qhi=some r1):Con False prog 12 [] (.bool r1):=by
 refine zP call12 func12 rfl ntmps12 fun X w hT=>?_
 simp only [qhi] at h
 refine Ms ?_
 refine M6 ?_
 obtain ⟨r2,h3,h⟩:=zB h
 refine zc (qs1  _ h3) ?_
 refine M6 ?_
 refine zU ?_
 obtain ⟨r4,h5,h⟩:=zB h
 refine zc (qwp r2.1 r2.2 _ h5) ?_
 refine M6 ?_
 refine zU ?_
 obtain ⟨r6,h7,h⟩:=zB h
 refine zc (qn9 r2.1 r2.2 _ h7) ?_
 refine M6 ?_
 refine zU ?_
 obtain ⟨r8,h9,h⟩:=zB h
 refine zc (qnu r6.1 [[1,2],[3],[4]] _ h9) ?_
 refine M6 ?_
 refine zU ?_
 obtain ⟨r10,h11,h⟩:=zB h
 refine zc (qyj r6.1 [[1,2],[3],[4]] _ h11) ?_
 refine Mz ?_
 refine yU ?_
 obtain ⟨h12,h⟩|⟨h12,h⟩:=zI h
 refine yw 47 true ?_
 refine Mk ?_
 refine yg ?_
 obtain ⟨r13,h14,h⟩:=zB h
 refine yc (qrt r4.1 [(Arr2_int64.mk 1 2),(Arr2_int64.mk 2 3)] _ h14) ?_
 refine yU ?_
 obtain ⟨h15,h⟩|⟨h15,h⟩:=zI h
 refine yw 54 true ?_
 refine T2 ?_
 refine yU ?_
 obtain ⟨h16,h⟩|⟨h16,h⟩:=zI h
 refine yw 58 true ?_
 refine Mk ?_
 refine yg ?_
 obtain ⟨r17,h18,h⟩:=zB h
 refine yc (qld r6.1 [[1,2,3],[4]] _ h18) ?_
 refine yU ?_
 obtain ⟨h19,h⟩|⟨h19,h⟩:=zI h
 refine yw 65 true ?_
 refine T2 ?_
 refine yU ?_
 obtain ⟨h20,h⟩|⟨h20,h⟩:=zI h
 refine yw 69 true ?_
 refine yg ?_
 obtain ⟨r21,h22,h⟩:=zB h
 refine yc (qla 1 3 _ h22) ?_
 refine yg ?_
 refine yU ?_
 obtain ⟨h23,h⟩|⟨h23,h⟩:=zI h
 refine yw 74 true ?_
 refine T2 ?_
 refine yU ?_
 obtain ⟨h24,h⟩|⟨h24,h⟩:=zI h
 refine yw 78 true ?_
 refine yg ?_
 obtain ⟨r25,h26,h⟩:=zB h
 replace h:=h.symm
 refine yc (qla 1 1 _ h26) ?_
 refine yg ?_
 exact Mp h results12
 refine yw 78 false ?_
 refine yk ?_
 exact Mp h results12
 refine yw 74 false ?_
 refine yk ?_
 refine yU ?_
 refine yk ?_
 exact Mp h results12
 refine yw 69 false ?_
 refine Ml ?_
 refine yd<|zn<|zq ?_
 exact T7 h results12
 refine yw 65 false ?_
 refine Ml ?_
 refine yk ?_
 exact Mp h results12
 refine yw 58 false ?_
 refine Ml ?_
 refine yk ?_
 refine yU ?_
 refine yk ?_
 exact Mp h results12
 refine yw 54 false ?_
 refine Ml ?_
 refine Ml ?_
 refine yd<|zn<|zq ?_
 exact T7 h results12
 refine yw 47 false ?_
 refine Ml ?_
 refine Ml ?_
 refine yk ?_
 exact Mp h results12
theorem qzh (n1:Int) (d2:Drossref56_Draft) (r3:Linkage×Bool) (h:qmp n1 d2=some r3):Con D prog 21 [(.int .i64 n1),(qau d2)] (.tup [(qak r3.1),(.bool r3.2)]):=by
 refine zP call21 func21 rfl ntmps21 fun X w hT=>?_
 simp only [qmp] at h
 refine Ms ?_
 refine M6 ?_
 refine M5 ?_
 obtain ⟨o4,h5,h⟩:=zB h
 refine zO (fun (s:List (List Similar)×Int)=>⟨[(0,.p (.int .i64 n1)),(3,.loc 3 1 0 0),(4,.loc 4 1 0 0),(6,.loc 6 1 0 0),(7,.p (.int .i64 s.2))],[(3,.arr 37 3 1 [.p (qau d2)]),(4,.arr 25 3 1 [.agg [.nils,.nils,.nils]]),(6,.arr 25 3 1 [.agg [.own 91 1 0 s.1.length,.nils,.nils]]),(91,.arr 93 1 1 (v2v AV.p (v2v (qap qaq) s.1)))]⟩) (fun (o:(List (List Similar)) ⊕ (Linkage×Bool))=>match o with | .inl o6=>tE (cX Tryz.f21 X w D hT) (.exit 0) ⟨[(0,.p (.int .i64 n1)),(3,.loc 3 1 0 0),(4,.loc 4 1 0 0),(6,.loc 6 1 0 0)],[(3,.arr 37 3 1 [.p (qau d2)]),(4,.arr 25 3 1 [.agg [.nils,.nils,.nils]]),(6,.arr 25 3 1 [.agg [.own 91 1 0 o6.length,.nils,.nils]]),(91,.arr 93 1 1 (v2v AV.p (v2v (qap qaq) o6)))]⟩ | .inr o7=>tR prog Tryz.f21 (.tup [(qak o7.1),(.bool o7.2)])) h5 ?_ ?_
 clear h h5
 intro s x h
 obtain ⟨l8,i9⟩:=s
 simp only [qd7] at h
 refine Mi ?_
 refine M8 ?_
 obtain ⟨h10,h⟩|⟨h10,h⟩:=zI h
 refine Tk ?_
 obtain ⟨x11,h12,h12a,h12b,h⟩:=zX h
 refine zU ?_
 obtain ⟨h13,h⟩|⟨h13,h⟩:=zI h
 refine zw 28 true ?_
 refine zh ?_
 refine M8 ?_
 refine Me ?_
 cases h
 exact ⟨rfl,zT results21⟩
 refine zw 28 false ?_
 refine M4 ?_
 refine M4 ?_
 refine zg ?_
 refine M8 ?_
 obtain ⟨h14,h⟩|⟨h14,h⟩:=zI h
 refine Me ?_
 cases h
 exact ⟨rfl,zT results21⟩
 refine Mf ?_
 refine M5 ?_
 obtain ⟨r15,h16,h⟩:=zB h
 refine zO (fun (s:List Similar×Int)=>⟨[(0,.p (.int .i64 n1)),(3,.loc 3 1 0 0),(4,.loc 4 1 0 0),(6,.loc 6 1 0 0),(7,.p (.int .i64 i9)),(8,.own 86 1 0 s.1.length),(9,.p (.int .i64 s.2))],[(3,.arr 37 3 1 [.p (qau d2)]),(4,.arr 25 3 1 [.agg [.nils,.nils,.nils]]),(6,.arr 25 3 1 [.agg [.own 91 1 0 l8.length,.nils,.nils]]),(86,.arr 95 3 1 (v2v AV.p (v2v qaq s.1))),(91,.arr 93 1 1 (v2v AV.p (v2v (qap qaq) l8)))]⟩) (fun (o17:List Similar)=>tE (cX Tryz.f21 X w D hT) (.exit 2) ⟨[(0,.p (.int .i64 n1)),(3,.loc 3 1 0 0),(4,.loc 4 1 0 0),(6,.loc 6 1 0 0),(7,.p (.int .i64 i9)),(8,.own 86 1 0 o17.length)],[(3,.arr 37 3 1 [.p (qau d2)]),(4,.arr 25 3 1 [.agg [.nils,.nils,.nils]]),(6,.arr 25 3 1 [.agg [.own 91 1 0 l8.length,.nils,.nils]]),(86,.arr 95 3 1 (v2v AV.p (v2v qaq o17))),(91,.arr 93 1 1 (v2v AV.p (v2v (qap qaq) l8)))]⟩) h16 ?_ ?_
 clear h h10 h12 h12a h12b h13 h14 h16
 intro s x h
 obtain ⟨r18,k19⟩:=s
 simp only [qhj] at h
 refine Mi ?_
 obtain ⟨x20,h21,h21a,h21b,h⟩:=zX h
 refine M8 ?_
 obtain ⟨h22,h⟩|⟨h22,h⟩:=zI h
 refine M9 ?_
 obtain ⟨x23,h24,h24a,h24b,h⟩:=zX h
 refine Mz ?_
 obtain ⟨h25,h⟩:=qpy h
 refine Ta ?_
 refine M8 ?_
 obtain ⟨h26,h⟩|⟨h26,h⟩:=zI h
 refine Tc ?_
 refine Mo ?_
 refine M8 ?_
 obtain ⟨h27,h⟩|⟨h27,h⟩:=zI h
 refine Tc ?_
 refine Mx ?_
 obtain ⟨h28,h⟩:=qab h
 refine Mh ?_
 exact M0 h
 refine Td ?_
 obtain ⟨h29,h⟩:=qab h
 refine Mh ?_
 exact M0 h
 refine Mm ?_
 refine M8 ?_
 obtain ⟨h30,h⟩|⟨h30,h⟩:=zI h
 refine Tc ?_
 refine Mx ?_
 obtain ⟨h31,h⟩:=qab h
 refine Mh ?_
 exact M0 h
 refine Td ?_
 obtain ⟨h32,h⟩:=qab h
 refine Mh ?_
 exact M0 h
 exact M2 h
 try simp only at h
 refine Tn ?_
 refine zW 4 ?_
 refine zM ⟨[(0,.p (.int .i64 n1)),(3,.loc 3 1 0 0),(4,.loc 4 1 0 0),(6,.loc 6 1 0 0),(7,.p (.int .i64 i9)),(88,.own 91 1 0 l8.length),(90,.own 90 1 0 1)],[(3,.arr 37 3 1 [.p (qau d2)]),(4,.arr 25 3 1 [.agg [.nils,.nils,.nils]]),(6,.arr 25 3 1 [.agg [.own 91 1 0 l8.length,.nils,.nils]]),(90,.arr 93 1 1 [.p (.slc (v2v qaq r15))]),(91,.arr 93 1 1 (v2v AV.p (v2v (qap qaq) l8)))]⟩ ?_
 obtain ⟨h33,h⟩:=qab h
 refine Mh ?_
 exact M0 h
 exact M2 h
 rcases o4 with l34 | r35
 try simp only at h
 refine T9 ?_
 refine Mq ?_
 obtain ⟨o36,h37,h⟩:=zB h
 refine zO (fun (s:List Int×List Int×Int)=>⟨[(0,.p (.int .i64 n1)),(3,.loc 3 1 0 0),(4,.loc 4 1 0 0),(6,.loc 6 1 0 0),(12,.p (.int .i64 s.2.2))],[(3,.arr 37 3 1 [.p (qau d2)]),(4,.arr 25 3 1 [.agg [.nils,.nils,.nils]]),(6,.arr 25 3 1 [.agg [.own 91 1 0 l34.length,.own 112 1 0 s.1.length,.own 131 1 0 s.2.1.length]]),(91,.arr 93 1 1 (v2v AV.p (v2v (qap qaq) l34))),(112,.arr 3 1 1 (v2v AV.p (v2v (v65 .i64) s.1))),(131,.arr 3 1 1 (v2v AV.p (v2v (v65 .i64) s.2.1)))]⟩) (fun (o38:List Int×List Int)=>tE (cX Tryz.f21 X w D hT) (.exit 4) ⟨[(3,.loc 3 1 0 0),(4,.loc 4 1 0 0),(6,.loc 6 1 0 0)],[(3,.arr 37 3 1 [.p (qau d2)]),(4,.arr 25 3 1 [.agg [.nils,.nils,.nils]]),(6,.arr 25 3 1 [.agg [.own 91 1 0 l34.length,.own 112 1 0 o38.1.length,.own 131 1 0 o38.2.length]]),(91,.arr 93 1 1 (v2v AV.p (v2v (qap qaq) l34))),(112,.arr 3 1 1 (v2v AV.p (v2v (v65 .i64) o38.1))),(131,.arr 3 1 1 (v2v AV.p (v2v (v65 .i64) o38.2)))]⟩) h37 ?_ ?_
 clear h h5 h37
 intro s x h
 obtain ⟨l39,l40,a41⟩:=s
 simp only [qbx] at h
 refine Mi ?_
 refine M8 ?_
 obtain ⟨h42,h⟩|⟨h42,h⟩:=zI h
 refine zi<|zk<|zn<|zs<|zb<|zs ?_
 obtain ⟨t43,h44,h⟩:=zB h
 refine zJ (fun (o45:Bool)=>tE (cX Tryz.f21 X w D hT) .normal ⟨[(0,.p (.int .i64 n1)),(3,.loc 3 1 0 0),(4,.loc 4 1 0 0),(6,.loc 6 1 0 0),(12,.p (.int .i64 a41)),(107,.p (.bool o45))],[(3,.arr 37 3 1 [.p (qau d2)]),(4,.arr 25 3 1 [.agg [.nils,.nils,.nils]]),(6,.arr 25 3 1 [.agg [.own 91 1 0 l34.length,.own 112 1 0 l39.length,.own 131 1 0 l40.length]]),(91,.arr 93 1 1 (v2v AV.p (v2v (qap qaq) l34))),(112,.arr 3 1 1 (v2v AV.p (v2v (v65 .i64) l39))),(131,.arr 3 1 1 (v2v AV.p (v2v (v65 .i64) l40)))]⟩) t43 ?_ ?_
 replace h:=h44
 clear h44
 refine T6 ?_
 obtain ⟨h46,h⟩|⟨h46,h⟩:=zI h
 refine zw 100 true ?_
 refine M4 ?_
 obtain ⟨h47,h⟩:=qpy h
 replace h:=h.symm
 refine M4 ?_
 exact M0 h
 refine zw 100 false ?_
 refine zh ?_
 exact M0 h
 try simp only at h
 refine zA<|zn ?_
 obtain ⟨h48,h⟩|⟨h48,h⟩:=zI h
 refine Tc ?_
 obtain ⟨h49,h⟩:=qab h
 refine M6 ?_
 refine Mo ?_
 refine M8 ?_
 obtain ⟨h50,h⟩|⟨h50,h⟩:=zI h
 refine Tc ?_
 obtain ⟨x51,h52,h52a,h52b,h⟩:=zX h
 refine Mx ?_
 obtain ⟨h53,h⟩:=qab h
 refine Mh ?_
 exact M0 h
 refine Td ?_
 obtain ⟨h54,h⟩:=qab h
 refine Mh ?_
 exact M0 h
 refine Mf ?_
 refine Mo ?_
 refine M8 ?_
 obtain ⟨h55,h⟩|⟨h55,h⟩:=zI h
 refine Tc ?_
 obtain ⟨x56,h57,h57a,h57b,h⟩:=zX h
 refine Mx ?_
 obtain ⟨h58,h⟩:=qab h
 refine Mh ?_
 exact M0 h
 refine Td ?_
 obtain ⟨h59,h⟩:=qab h
 refine Mh ?_
 exact M0 h
 exact M2 h
 obtain ⟨l60,l61⟩:=o36
 try simp only at h
 refine zA<|yh<|zn<|zs<|zd ?_
 exact Mp h results21
 exact M7 h
theorem qrx (c1:Int) (r2:Value) (h:qe0 c1=some r2):Con D prog 151 [(.int .u8 c1)] (qaj r2):=by
 refine zP call151 func151 rfl ntmps151 fun X w hT=>?_
 simp only [qe0] at h
 refine Mc ?_
 refine Te ?_
 refine M8 ?_
 obtain ⟨h3,h⟩|⟨h3,h⟩:=zI h
 refine Ma ?_
 exact T7 h results151
 refine T5 ?_
 refine M8 ?_
 obtain ⟨h4,h⟩|⟨h4,h⟩:=zI h
 refine Ma ?_
 exact T7 h results151
 refine T5 ?_
 refine M8 ?_
 obtain ⟨h5,h⟩|⟨h5,h⟩:=zI h
 refine Ma ?_
 exact T7 h results151
 refine T5 ?_
 refine M8 ?_
 obtain ⟨h6,h⟩|⟨h6,h⟩:=zI h
 refine Ma ?_
 exact T7 h results151
 refine T5 ?_
 refine M8 ?_
 obtain ⟨h7,h⟩|⟨h7,h⟩:=zI h
 refine Ma ?_
 exact T7 h results151
 refine T5 ?_
 refine M8 ?_
 obtain ⟨h8,h⟩|⟨h8,h⟩:=zI h
 refine Ma ?_
 exact T7 h results151
 refine T5 ?_
 refine M8 ?_
 obtain ⟨h9,h⟩|⟨h9,h⟩:=zI h
 refine Ma ?_
 exact T7 h results151
 refine T5 ?_
 refine M8 ?_
 obtain ⟨h10,h⟩|⟨h10,h⟩:=zI h
 refine Ma ?_
 exact T7 h results151
 refine T5 ?_
 refine M8 ?_
 obtain ⟨h11,h⟩|⟨h11,h⟩:=zI h
 refine Ma ?_
 exact T7 h results151
 refine T5 ?_
 refine M8 ?_
 obtain ⟨h12,h⟩|⟨h12,h⟩:=zI h
 refine Ma ?_
 exact T7 h results151
 refine T5 ?_
 refine M8 ?_
 obtain ⟨h13,h⟩|⟨h13,h⟩:=zI h
 refine Ma ?_
 exact T7 h results151
 refine Tf ?_
 exact M3 h results151
theorem qwt (x1:Drossref03_Recipe) (n2:Int) (r3:Table) (h:qko x1 n2=some r3):Con D prog 88 [(qax x1),(.int .i64 n2)] (qaf r3):=by
 refine zP call88 func88 rfl ntmps88 fun X w hT=>?_
 simp only [qko] at h
 refine Ms ?_
 refine M6 ?_
 obtain ⟨h4,h⟩:=qab h
 obtain ⟨h5,h⟩:=qab h
 refine zW 4 ?_
 obtain ⟨l6,h7,h⟩:=zB h
 replace h7:=v3q h7
 refine vqn (st':=⟨[(1,.p (.int .i64 n2)),(2,.loc 2 1 0 0),(4,.loc 4 1 0 0),(10,.own 10 1 0 0),(13,.own 11 1 0 n2.toNat)],[(2,.arr 33 3 1 [.p (qax x1)]),(4,.arr 41 3 1 [.agg [.p (.str []),.nils,.nils]]),(10,.arr 9 1 1 []),(11,.arr 9 1 1 (v2v AV.p (v2v v67 l6)))]⟩) (by simp only [go_sem,seval,←h7];all_goals ((repeat' refine v62 ?_ ?_) <;> first | rfl | (simp;done) | (simp;rfl) | (simp [*];done) | (simp [*];rfl))) ?_
 have h7n:l6.length=8:=by rw [←h7];rfl
 clear h7
 obtain ⟨h8,h⟩:=qab h
 refine M5 ?_
 obtain ⟨t9,h10,h⟩:=zB h
 refine zO (fun (s:List Row×Int)=>⟨[(1,.p (.int .i64 n2)),(2,.loc 2 1 0 0),(4,.loc 4 1 0 0),(5,.loc 5 1 0 0),(6,.p (.int .i64 s.2))],[(2,.arr 33 3 1 [.p (qax x1)]),(4,.arr 41 3 1 [.agg [.p (.str []),.nils,.nils]]),(5,.arr 41 3 1 [.agg [.p (.str [114]),.own 10 1 0 ((l6.take n2.toNat)).length,.own 64 1 0 s.1.length]]),(10,.arr 9 1 1 (v2v AV.p (v2v v67 (l6.take n2.toNat)))),(64,.arr 66 2 1 (v2v AV.p (v2v qao s.1)))]⟩) (fun (o11:List Row)=>tE (cX Tryz.f88 X w D hT) (.exit 0) ⟨[(4,.loc 4 1 0 0),(5,.loc 5 1 0 0)],[(4,.arr 41 3 1 [.agg [.p (.str []),.nils,.nils]]),(5,.arr 41 3 1 [.agg [.p (.str [114]),.own 10 1 0 ((l6.take n2.toNat)).length,.own 64 1 0 o11.length]]),(10,.arr 9 1 1 (v2v AV.p (v2v v67 (l6.take n2.toNat)))),(64,.arr 66 2 1 (v2v AV.p (v2v qao o11)))]⟩) h10 ?_ ?_
 clear h h4 h5 h7n h8 h10
 intro s x h
 obtain ⟨t12,i13⟩:=s
 simp only [qh1] at h
 refine Mi ?_
 refine M8 ?_
 obtain ⟨h14,h⟩|⟨h14,h⟩:=zI h
 refine M9 ?_
 refine M5 ?_
 obtain ⟨r15,h16,h⟩:=zB h
 refine zO (fun (s:List Value×Int)=>⟨[(1,.p (.int .i64 n2)),(2,.loc 2 1 0 0),(4,.loc 4 1 0 0),(5,.loc 5 1 0 0),(6,.p (.int .i64 i13)),(7,.loc 7 1 0 0),(8,.p (.int .i64 s.2))],[(2,.arr 33 3 1 [.p (qax x1)]),(4,.arr 41 3 1 [.agg [.p (.str []),.nils,.nils]]),(5,.arr 41 3 1 [.agg [.p (.str [114]),.own 10 1 0 ((l6.take n2.toNat)).length,.own 64 1 0 t12.length]]),(7,.arr 66 2 1 [.agg [.p (.int .i64 (v4a.wrap (1+(v4a.wrap (i13 * (v4a.wrap (1+(v4a.wrap (v34 x1.Gap 3))))))))),.own 58 1 0 s.1.length]]),(10,.arr 9 1 1 (v2v AV.p (v2v v67 (l6.take n2.toNat)))),(58,.arr 142 3 1 (v2v AV.p (v2v qaj s.1))),(64,.arr 66 2 1 (v2v AV.p (v2v qao t12)))]⟩) (fun (o17:List Value)=>tE (cX Tryz.f88 X w D hT) (.exit 2) ⟨[(1,.p (.int .i64 n2)),(2,.loc 2 1 0 0),(4,.loc 4 1 0 0),(5,.loc 5 1 0 0),(6,.p (.int .i64 i13)),(7,.loc 7 1 0 0)],[(2,.arr 33 3 1 [.p (qax x1)]),(4,.arr 41 3 1 [.agg [.p (.str []),.nils,.nils]]),(5,.arr 41 3 1 [.agg [.p (.str [114]),.own 10 1 0 ((l6.take n2.toNat)).length,.own 64 1 0 t12.length]]),(7,.arr 66 2 1 [.agg [.p (.int .i64 (v4a.wrap (1+(v4a.wrap (i13 * (v4a.wrap (1+(v4a.wrap (v34 x1.Gap 3))))))))),.own 58 1 0 o17.length]]),(10,.arr 9 1 1 (v2v AV.p (v2v v67 (l6.take n2.toNat)))),(58,.arr 142 3 1 (v2v AV.p (v2v qaj o17))),(64,.arr 66 2 1 (v2v AV.p (v2v qao t12)))]⟩) h16 ?_ ?_
 clear h h14 h16
 intro s x h
 obtain ⟨r18,k19⟩:=s
 simp only [qh0] at h
 refine Mi ?_
 refine M8 ?_
 obtain ⟨h20,h⟩|⟨h20,h⟩:=zI h
 refine M9 ?_
 refine Mo ?_
 obtain ⟨x21,h22,h22a,h22b,h⟩:=zX h
 refine M8 ?_
 obtain ⟨h23,h⟩|⟨h23,h⟩:=zI h
 refine Tc ?_
 obtain ⟨x24,h25,h25a,h25b,h⟩:=zX h
 refine Th ?_
 refine yU ?_
 obtain ⟨r26,h27,h⟩:=zB h
 refine yc (qrx x24 _ h27) ?_
 obtain ⟨h28,h⟩:=qab h
 refine My ?_
 exact M0 h
 refine zj<|zk<|zn<|zd ?_
 refine yU ?_
 obtain ⟨r29,h30,h⟩:=zB h
 refine yc (qrx 0 _ h30) ?_
 obtain ⟨h31,h⟩:=qab h
 refine My ?_
 exact M0 h
 exact M2 h
 try simp only at h
 refine Tn ?_
 refine zW 4 ?_
 refine zM ⟨[(1,.p (.int .i64 n2)),(2,.loc 2 1 0 0),(4,.loc 4 1 0 0),(5,.loc 5 1 0 0),(6,.p (.int .i64 i13)),(61,.own 64 1 0 t12.length),(63,.own 63 1 0 1)],[(2,.arr 33 3 1 [.p (qax x1)]),(4,.arr 41 3 1 [.agg [.p (.str []),.nils,.nils]]),(5,.arr 41 3 1 [.agg [.p (.str [114]),.own 10 1 0 ((l6.take n2.toNat)).length,.own 64 1 0 t12.length]]),(10,.arr 9 1 1 (v2v AV.p (v2v v67 (l6.take n2.toNat)))),(63,.arr 66 2 1 [.p (.agg [.int .i64 (v4a.wrap (1+(v4a.wrap (i13 * (v4a.wrap (1+(v4a.wrap (v34 x1.Gap 3)))))))),.slc (v2v qaj r15)])]),(64,.arr 66 2 1 (v2v AV.p (v2v qao t12)))]⟩ ?_
 obtain ⟨h32,h⟩:=qab h
 refine Mh ?_
 exact M0 h
 exact M2 h
 try simp only at h
 refine Md ?_
 exact M3 h results88
theorem qva (x1:Drossref03_Recipe) (m2:Int) (r3:Table×Bool) (h:qfq x1 m2=some r3):Con D prog 50 [(qax x1),(.int .i64 m2)] (.tup [(qaf r3.1),(.bool r3.2)]):=by
 refine zP call50 func50 rfl ntmps50 fun X w hT=>?_
 simp only [qfq] at h
 refine Mc ?_
 refine M8 ?_
 obtain ⟨h4,h⟩|⟨h4,h⟩:=zI h
 exact M1 h results50
 refine Mf ?_
 refine zU ?_
 obtain ⟨r5,h6,h⟩:=zB h
 refine zc (qwt x1 (v4a.wrap (v34 x1.Attrs 6)) _ h6) ?_
 exact M3 h results50
theorem qzi (x1:Drossref03_Recipe) (d2:Drossref56_Draft) (r3:Table×Linkage×Bool) (h:qe1 x1 d2=some r3):Con D prog 16 [(qax x1),(qau d2)] (.tup [(qaf r3.1),(qak r3.2.1),(.bool r3.2.2)]):=by
 refine zP call16 func16 rfl ntmps16 fun X w hT=>?_
 simp only [qe1] at h
 refine Ms ?_
 refine M6 ?_
 refine zU ?_
 obtain ⟨r4,h5,h⟩:=zB h
 refine zc (qva x1 6 _ h5) ?_
 refine T4 ?_
 obtain ⟨t6,h7,h⟩:=zB h
 refine zJ (fun (o8:Bool)=>tE (cX Tryz.f16 X w D hT) .normal ⟨[(3,.loc 3 1 0 0),(4,.loc 4 1 0 0),(5,.loc 5 1 0 0),(7,.loc 7 1 0 0),(22,.p (.bool o8))],[(3,.arr 37 3 1 [.p (qau d2)]),(4,.arr 41 3 1 [.agg [.p (.str []),.nils,.nils]]),(5,.arr 25 3 1 [.agg [.nils,.nils,.nils]]),(7,.arr 41 3 1 [.p (qaf r4.1)])]⟩) t6 ?_ ?_
 replace h:=h7
 clear h7
 refine T6 ?_
 obtain ⟨h9,h⟩|⟨h9,h⟩:=zI h
 replace h:=h.symm
 refine zw 17 false ?_
 refine M4 ?_
 refine zg ?_
 exact M0 h
 refine zw 17 true ?_
 refine zh ?_
 exact M0 h
 try simp only at h
 refine zA<|zn ?_
 obtain ⟨h10,h⟩|⟨h10,h⟩:=zI h
 exact M1 h results16
 refine Mf ?_
 refine zU ?_
 obtain ⟨r11,h12,h⟩:=zB h
 refine zc (qzh (r4.1.Attrs.length:Int) d2 _ h12) ?_
 refine Mz ?_
 exact Mp h results16
theorem qm5 (r1:Int) (r2:Bool) (h:qfl r1=some r2):Con D prog 117 [(.int .i64 r1)] (.bool r2):=by
 refine zP call117 func117 rfl ntmps117 fun X w hT=>?_
 simp only [qfl] at h
 refine Ms ?_
 refine M6 ?_
 refine zU ?_
 obtain ⟨h3,h⟩|⟨h3,h⟩:=zI h
 replace h:=h.symm
 refine zw 5 true ?_
 refine Mr ?_
 exact M3 h results117
 refine zw 5 false ?_
 refine zh ?_
 exact M3 h results117
theorem qvb (r1:Int) (r2:Bool) (h:qhp r1=some r2):Con D prog 116 [(.int .i64 r1)] (.bool r2):=by
 refine zP call116 func116 rfl ntmps116 fun X w hT=>?_
 simp only [qhp] at h
 refine Ms ?_
 refine M6 ?_
 refine zU ?_
 obtain ⟨r3,h4,h⟩:=zB h
 refine zc (qm5 r1 _ h4) ?_
 exact M3 h results116
theorem qs2 (l1:List Int) (r2:Bool) (h:qh3 l1=some r2):Con D prog 220 [(.slc (v2v (v65 .i64) l1))] (.bool r2):=by
 refine zP call220 func220 rfl ntmps220 fun X w hT=>?_
 simp only [qh3] at h
 refine Ms ?_
 refine M5 ?_
 obtain ⟨o3,h4,h⟩:=zB h
 refine zO (fun (s:Int)=>⟨[(0,.p (.slc (v2v (v65 .i64) l1))),(3,.p (.int .i64 s))],[]⟩) (fun (o:(Unit) ⊕ (Bool))=>match o with | .inl o5=>tE (cX Tryz.f220 X w D hT) (.exit 0) ⟨[(0,.p (.slc (v2v (v65 .i64) l1)))],[]⟩ | .inr o6=>tR prog Tryz.f220 (.bool o6)) h4 ?_ ?_
 clear h h4
 intro i7 x h
 simp only [qcb] at h
 refine T8 ?_
 refine M8 ?_
 obtain ⟨h8,h⟩|⟨h8,h⟩:=zI h
 refine Mw ?_
 obtain ⟨x9,h10,h10a,h10b,h⟩:=zX h
 obtain ⟨x11,h12,h12a,h12b,h⟩:=zX h
 refine Mu ?_
 obtain ⟨h13,h⟩|⟨h13,h⟩:=zI h
 refine Ma ?_
 cases h
 exact ⟨rfl,zT results220⟩
 refine Mj ?_
 exact M0 h
 exact M2 h
 rcases o3 with ⟨⟩ | r14
 try simp only at h
 refine Md ?_
 exact M3 h results220
 exact M7 h
theorem qua (c1:List (List Int)) (r2:(List (Int×Bool))×Bool) (h:qi8 c1=some r2):Con D prog 178 [(.slc (v2v (qap (v65 .i64)) c1))] (.tup [(.mapv (qnk (v65 .i64) r2.1) (qn2 PV.bool r2.1)),(.bool r2.2)]):=by
 refine zP call178 func178 rfl ntmps178 fun X w hT=>?_
 simp only [qi8] at h
 refine Ms ?_
 refine M6 ?_
 refine M5 ?_
 obtain ⟨o3,h4,h⟩:=zB h
 refine zO (fun (s:(List (Int×Bool))×Int)=>⟨[(4,.mapo 9 1),(10,.p (.slc (v2v (qap (v65 .i64)) c1))),(11,.p (.int .i64 (c1.length:Int))),(12,.p (.int .i64 s.2))],[(9,.map 1 (v2v AV.p (qnk (v65 .i64) s.1)) (v2v AV.p (qn2 PV.bool s.1)))]⟩) (fun (o:((List (Int×Bool))) ⊕ ((List (Int×Bool))×Bool))=>match o with | .inl o5=>tE (cX Tryz.f178 X w D hT) (.exit 0) ⟨[(4,.mapo 9 1)],[(9,.map 1 (v2v AV.p (qnk (v65 .i64) o5)) (v2v AV.p (qn2 PV.bool o5)))]⟩ | .inr o6=>tR prog Tryz.f178 (.tup [(.mapv (qnk (v65 .i64) o6.1) (qn2 PV.bool o6.1)),(.bool o6.2)])) h4 ?_ ?_
 clear h h4
 intro s x h
 obtain ⟨s7,t8⟩:=s
 simp only [qcy] at h
 refine Mb ?_
 obtain ⟨h9,h⟩|⟨h9,h⟩:=zI h
 refine M9 ?_
 obtain ⟨x10,h11,h11a,h11b,h⟩:=zX h
 refine Mo ?_
 refine zU ?_
 obtain ⟨r12,h13,h⟩:=zB h
 refine zc (qs2 x10 _ h13) ?_
 refine M8 ?_
 obtain ⟨h14,h⟩|⟨h14,h⟩:=zI h
 refine Mf ?_
 refine Mq ?_
 obtain ⟨o15,h16,h⟩:=zB h
 refine zO (fun (s:(List (Int×Bool))×Int)=>⟨[(4,.mapo 9 1),(10,.p (.slc (v2v (qap (v65 .i64)) c1))),(11,.p (.int .i64 (c1.length:Int))),(12,.p (.int .i64 t8)),(19,.p (.slc (v2v (v65 .i64) x10))),(20,.p (.int .i64 (x10.length:Int))),(21,.p (.int .i64 s.2))],[(9,.map 1 (v2v AV.p (qnk (v65 .i64) s.1)) (v2v AV.p (qn2 PV.bool s.1)))]⟩) (fun (o:((List (Int×Bool))) ⊕ ((List (Int×Bool))×Bool))=>match o with | .inl o17=>tE (cX Tryz.f178 X w D hT) (.exit 2) ⟨[(4,.mapo 9 1),(10,.p (.slc (v2v (qap (v65 .i64)) c1))),(11,.p (.int .i64 (c1.length:Int))),(12,.p (.int .i64 t8))],[(9,.map 1 (v2v AV.p (qnk (v65 .i64) o17)) (v2v AV.p (qn2 PV.bool o17)))]⟩ | .inr o18=>tR prog Tryz.f178 (.tup [(.mapv (qnk (v65 .i64) o18.1) (qn2 PV.bool o18.1)),(.bool o18.2)])) h16 ?_ ?_
 clear h h9 h11 h11a h11b h13 h14 h16
 intro s x h
 obtain ⟨s19,t20⟩:=s
 simp only [qd2] at h
 refine Mb ?_
 obtain ⟨h21,h⟩|⟨h21,h⟩:=zI h
 refine M9 ?_
 obtain ⟨x22,h23,h23a,h23b,h⟩:=zX h
 refine Mo ?_
 refine M8 ?_
 obtain ⟨h24,h⟩|⟨h24,h⟩:=zI h
 refine Me ?_
 cases h
 exact ⟨rfl,zT results178⟩
 refine Td ?_
 refine Mh ?_
 exact M0 h
 exact M2 h
 rcases o15 with s25 | r26
 try simp only at h
 refine T1 ?_
 exact M0 h
 try simp only at h
 refine zZ fun s hq=>?_
 refine yr<|yr<|zt ?_
 cases h
 refine ⟨rfl,?_⟩
 exact hq
 refine Me ?_
 cases h
 exact ⟨rfl,zT results178⟩
 exact M2 h
 rcases o3 with s27 | r28
 try simp only at h
 refine Md ?_
 exact M3 h results178
 exact M7 h
theorem qme (s1:List Row) (f2:Row→Option (Bool)) (f2_k:FuncId) (f2_cs:List PV) (f2_h:∀(y3:Row) (r4:Bool),f2 y3=some r4→Con D prog f2_k ((qao y3) :: f2_cs) (.bool r4)) (r5:Int) (h:qd0 s1 f2=some r5):Con D prog 109 [(.slc (v2v qao s1)),.func (.func f2_k) f2_cs] (.int .i64 r5):=by
 refine zP call109 func109 rfl ntmps109 fun X w hT=>?_
 simp only [qd0] at h
 refine Ms ?_
 refine M5 ?_
 obtain ⟨o6,h7,h⟩:=zB h
 refine zO (fun (s:Int)=>⟨[(0,.p (.slc (v2v qao s1))),(1,.p (.func (.func f2_k) f2_cs)),(7,.p (.int .i64 (s1.length:Int))),(8,.p (.int .i64 s))],[]⟩) (fun (o:(Unit) ⊕ (Int))=>match o with | .inl o8=>tE (cX Tryz.f109 X w D hT) (.exit 0) ⟨[],[]⟩ | .inr o9=>tR prog Tryz.f109 (.int .i64 o9)) h7 ?_ ?_
 clear h h7
 intro t10 x h
 simp only [qcl] at h
 refine Ms ?_
 refine T4 ?_
 obtain ⟨h11,h⟩|⟨h11,h⟩:=zI h
 refine M9 ?_
 refine M6 ?_
 obtain ⟨x12,h13,h13a,h13b,h⟩:=zX h
 refine zU ?_
 obtain ⟨r14,h15,h⟩:=zB h
 refine zc (f2_h x12 _ h15) ?_
 refine Tp ?_
 obtain ⟨h16,h⟩|⟨h16,h⟩:=zI h
 refine Ma ?_
 cases h
 exact ⟨rfl,zT results109⟩
 refine Mj ?_
 exact M0 h
 exact M2 h
 rcases o6 with ⟨⟩ | r17
 try simp only at h
 refine Md ?_
 exact M3 h results109
 exact M7 h
theorem qpg (s1:List Row) (f2:Row→Option (Bool)) (f2_k:FuncId) (f2_cs:List PV) (f2_h:∀(y3:Row) (r4:Bool),f2 y3=some r4→Con D prog f2_k ((qao y3) :: f2_cs) (.bool r4)) (r5:Bool) (h:qdu s1 f2=some r5):Con D prog 179 [(.slc (v2v qao s1)),.func (.func f2_k) f2_cs] (.bool r5):=by
 refine zP call179 func179 rfl ntmps179 fun X w hT=>?_
 simp only [qdu] at h
 refine Ms ?_
 refine M6 ?_
 refine zU ?_
 obtain ⟨r6,h7,h⟩:=zB h
 refine zc (qme s1 f2 f2_k f2_cs f2_h _ h7) ?_
 exact M3 h results179
theorem qs3 (r1:Row) (c2:List (Int×Bool)) (r3:Bool) (h:qfm r1 c2=some r3):Con D prog 180 [(qao r1),.imm [.mapv (qnk (v65 .i64) c2) (qn2 PV.bool c2)]] (.bool r3):=by
 refine zP call180 func180 rfl ntmps180 fun X w hT=>?_
 simp only [qfm] at h
 refine Ms ?_
 refine M6 ?_
 exact M3 h results180
theorem qvc (t1:Table) (c2:List (List Int)) (r3:Bool) (h:qjz t1 c2=some r3):Con D prog 118 [(qaf t1),(.slc (v2v (qap (v65 .i64)) c2))] (.bool r3):=by
 refine zP call118 func118 rfl ntmps118 fun X w hT=>?_
 simp only [qjz] at h
 refine Ms ?_
 refine M6 ?_
 refine zU ?_
 obtain ⟨r4,h5,h⟩:=zB h
 refine zc (qua c2 _ h5) ?_
 refine Mo ?_
 refine zU ?_
 obtain ⟨h6,h⟩|⟨h6,h⟩:=zI h
 refine zw 14 false ?_
 refine M4 ?_
 refine M4 ?_
 refine M8 ?_
 obtain ⟨h7,h⟩|⟨h7,h⟩:=zI h
 exact M1 h results118
 refine Mf ?_
 refine zU ?_
 obtain ⟨r8,h9,h⟩:=zB h
 refine zc (qpg t1.Rows (fun (y10:Row)=>qfm y10 r4.1) 180 [.imm [.mapv (qnk (v65 .i64) r4.1) (qn2 PV.bool r4.1)]] (fun y10 r h=>qs3 y10 r4.1 r h) _ h9) ?_
 exact M3 h results118
 refine zw 14 true ?_
 refine zh ?_
 refine M8 ?_
 exact M1 h results118
theorem qvd (a1:List Int) (b2:List Int) (r3:Int) (h:qa0 a1 b2=some r3):Con D prog 120 [(.slc (v2v (v65 .i64) a1)),(.slc (v2v (v65 .i64) b2))] (.int .i64 r3):=by
 refine zP call120 func120 rfl ntmps120 fun X w hT=>?_
 simp only [qa0] at h
 refine Ms ?_
 refine Mz ?_
 obtain ⟨x4,h5,h5l,h5L,h⟩:=zY 0 h
 obtain ⟨x6,h7,h7l,h7L,h⟩:=zY 0 h
 refine yU ?_
 obtain ⟨r8,h9,h⟩:=zB h
 refine yc (qk0 x4 x6 _ h9) ?_
 exact Mp h results120
theorem qm1 (l:List (List UInt8)) (r:List (List UInt8)) (h:qg4 l=some r):Con D prog 121 [(.slc (v2v v67 l))] (.slc (v2v v67 r)):=by
  obtain ⟨hc,h⟩:=qab h
  cases h
  refine ⟨call121,?_⟩
  refine qr6 func121 rfl ntmps121 (by simp) fun X w hT=>?_
  show AWp _ _ _ ⟨[(0,.p (.slc (v2v v67 l)))],[]⟩
  refine qki ?_
  refine qf6 ?_
  refine qql (by exact rfl) (by simp only [go_sem,seval];exact rfl) ?_
  refine qq5 ?_
  refine ql0 ?_
  refine qki ?_
  refine qki ?_
  refine qf6 ?_
  refine q6c 1 (by simp only [go_sem,seval];exact rfl) ?_
  refine qxi (by simp only [go_sem,seval];exact rfl) (by simp only [go_sem,seval]) underlying38 rfl ?_
  intro b hb
  refine qq5 ?_
  refine ql0 ?_
  cases b
  · refine vdr (by simp only [go_sem,seval]) ?_
    refine q0g ?_
    refine ql0 ?_
    refine qki ?_
    refine qf6 ?_
    refine qql (by exact rfl) (by simp only [go_sem,seval,hc];exact rfl) ?_
    refine qq5 ?_
    refine ql0 ?_
    refine qv5 ?_
    refine qr8 (by simp only [results121];simp only [go_sem,seval];exact rfl) ?_
    simp only [go_sem,seval]
    all_goals ((repeat' refine v62 ?_ ?_) <;> first | rfl | (simp;done) | (simp;rfl) | (simp [*];done) | (simp [*];rfl))
  · refine vdq (by simp only [go_sem,seval]) ?_
    have hl:l=[]:=by
      cases l with
      | nil=>rfl
      | cons x l=>exact absurd (hb (by simp)) (by simp)
    subst hl
    refine qki ?_
    refine qf6 ?_
    refine qql (by exact rfl) (by simp only [go_sem,seval];exact rfl) ?_
    refine qq5 ?_
    refine ql0 ?_
    refine qv5 ?_
    refine q07 ?_
    refine qr8 (by simp only [results121];simp only [go_sem,seval];exact rfl) ?_
    simp only [go_sem,seval]
    all_goals ((repeat' refine v62 ?_ ?_) <;> first | rfl | (simp;done) | (simp;rfl) | (simp [*];done) | (simp [*];rfl))
theorem qs4 (r1:List Row) (r2:Int) (h:qh4 r1=some r2):Con D prog 181 [(.slc (v2v qao r1))] (.int .i64 r2):=by
 refine zP call181 func181 rfl ntmps181 fun X w hT=>?_
 simp only [qh4] at h
 refine Mc ?_
 refine M8 ?_
 obtain ⟨h3,h⟩|⟨h3,h⟩:=zI h
 exact M1 h results181
 refine Mm ?_
 refine Mq ?_
 obtain ⟨o4,h5,h⟩:=zB h
 refine zO (fun (s:Int)=>⟨[(0,.p (.slc (v2v qao r1))),(8,.p (.slc (v2v qao r1))),(9,.p (.int .i64 (r1.length:Int))),(10,.p (.int .i64 s))],[]⟩) (fun (o:(Unit) ⊕ (Int))=>match o with | .inl o6=>tE (cX Tryz.f181 X w D hT) (.exit 0) ⟨[],[]⟩ | .inr o7=>tR prog Tryz.f181 (.int .i64 o7)) h5 ?_ ?_
 clear h h3 h5
 intro t8 x h
 simp only [qdh] at h
 refine Ms ?_
 refine T4 ?_
 obtain ⟨h9,h⟩|⟨h9,h⟩:=zI h
 refine M9 ?_
 obtain ⟨x10,h11,h11a,h11b,h⟩:=zX h
 refine Mz ?_
 obtain ⟨x12,h13,h13l,h13L,h⟩:=zY 0 h
 refine Mu ?_
 obtain ⟨h14,h⟩|⟨h14,h⟩:=zI h
 refine Ma ?_
 cases h
 exact ⟨rfl,zT results181⟩
 refine Mj ?_
 exact M0 h
 exact M2 h
 rcases o4 with ⟨⟩ | r15
 try simp only at h
 refine Md ?_
 exact M3 h results181
 exact M7 h
theorem qpr (v1:Value) (r2:Bool) (h:qc5 v1=some r2):Con D prog 221 [(qaj v1)] (.bool r2):=by
 refine zP call221 func221 rfl ntmps221 fun X w hT=>?_
 simp only [qc5] at h
 refine Ms ?_
 refine M6 ?_
 refine zU ?_
 obtain ⟨r3,h4,h⟩:=zB h
 refine zc (qm0 v1 _ h4) ?_
 exact M3 h results221
theorem qry (r1:List Row) (r2:Int) (h:qfz r1=some r2):Con D prog 182 [(.slc (v2v qao r1))] (.int .i64 r2):=by
 refine zP call182 func182 rfl ntmps182 fun X w hT=>?_
 simp only [qfz] at h
 refine Ms ?_
 refine M6 ?_
 refine M5 ?_
 obtain ⟨o3,h4,h⟩:=zB h
 refine zO (fun (s:Int×Int)=>⟨[(3,.p (.int .i64 s.1)),(6,.p (.slc (v2v qao r1))),(7,.p (.int .i64 (r1.length:Int))),(8,.p (.int .i64 s.2))],[]⟩) (fun (o:(Unit) ⊕ (Int))=>match o with | .inl o5=>tE (cX Tryz.f182 X w D hT) (.exit 0) ⟨[],[]⟩ | .inr o6=>tR prog Tryz.f182 (.int .i64 o6)) h4 ?_ ?_
 clear h h4
 intro s x h
 obtain ⟨l7,t8⟩:=s
 simp only [qcm] at h
 refine Mb ?_
 obtain ⟨h9,h⟩|⟨h9,h⟩:=zI h
 refine M9 ?_
 obtain ⟨x10,h11,h11a,h11b,h⟩:=zX h
 refine Mo ?_
 refine zU ?_
 obtain ⟨h12,h⟩|⟨h12,h⟩:=zI h
 refine zw 16 true ?_
 refine zh ?_
 refine M8 ?_
 refine Me ?_
 cases h
 exact ⟨rfl,zT results182⟩
 refine zw 16 false ?_
 refine Mr ?_
 obtain ⟨r13,h14,h⟩:=zB h
 refine zc (qj4 x10.Values (fun (y15:Value)=>qc5 y15) 221 [] (fun y15 r h=>qpr y15 r h) _ h14) ?_
 refine M8 ?_
 obtain ⟨h16,h⟩|⟨h16,h⟩:=zI h
 refine Me ?_
 cases h
 exact ⟨rfl,zT results182⟩
 refine Td ?_
 refine Mh ?_
 exact M0 h
 exact M2 h
 rcases o3 with ⟨⟩ | r17
 try simp only at h
 refine Md ?_
 exact M3 h results182
 exact M7 h
theorem qve (r1:Int) (r2:Bool) (h:qhq r1=some r2):Con D prog 183 [(.int .i64 r1)] (.bool r2):=by
 refine zP call183 func183 rfl ntmps183 fun X w hT=>?_
 simp only [qhq] at h
 refine Ms ?_
 refine M6 ?_
 refine zU ?_
 obtain ⟨r3,h4,h⟩:=zB h
 refine zc (qm5 r1 _ h4) ?_
 exact M3 h results183
theorem qqj (l1:List Value) (v2:Value) (r3:Int) (h:qka l1 v2=some r3):Con D prog 244 [(.slc (v2v qaj l1)),(qaj v2)] (.int .i64 r3):=by
 refine zP call244 func244 rfl ntmps244 fun X w hT=>?_
 simp only [qka] at h
 refine Ms ?_
 refine M6 ?_
 refine M5 ?_
 obtain ⟨n4,h5,h⟩:=zB h
 refine zO (fun (s:Int×Int)=>⟨[(3,.loc 3 1 0 0),(5,.p (.int .i64 s.1)),(8,.p (.slc (v2v qaj l1))),(9,.p (.int .i64 (l1.length:Int))),(10,.p (.int .i64 s.2))],[(3,.arr 142 3 1 [.p (qaj v2)])]⟩) (fun (o6:Int)=>tE (cX Tryz.f244 X w D hT) (.exit 0) ⟨[(5,.p (.int .i64 o6))],[]⟩) h5 ?_ ?_
 clear h h5
 intro s x h
 obtain ⟨n7,t8⟩:=s
 simp only [qgh] at h
 refine Mb ?_
 obtain ⟨h9,h⟩|⟨h9,h⟩:=zI h
 refine M9 ?_
 obtain ⟨x10,h11,h11a,h11b,h⟩:=zX h
 refine M6 ?_
 refine M8 ?_
 obtain ⟨h12,h⟩|⟨h12,h⟩:=zI h
 refine Tc ?_
 refine Mh ?_
 exact M0 h
 refine Mj ?_
 exact M0 h
 exact M2 h
 try simp only at h
 refine Md ?_
 exact M3 h results244
theorem q37 (v1:List Int) (r2:Int) (h:qrb v1=some r2):Con D prog 263 [(.slc (v2v (v65 .i64) v1))] (.int .i64 r2):=by
 refine zP call263 func263 rfl ntmps263 fun X w hT=>?_
 simp only [qrb] at h
 refine Ms ?_
 refine M6 ?_
 refine M5 ?_
 obtain ⟨o3,h4,h⟩:=zB h
 refine zO (fun (s:Int)=>⟨[(3,.p (.int .i64 0)),(6,.p (.slc (v2v (v65 .i64) v1))),(7,.p (.int .i64 (v1.length:Int))),(8,.p (.int .i64 s))],[]⟩) (fun (o:(Unit) ⊕ (Int))=>match o with | .inl o5=>tE (cX Tryz.f263 X w D hT) (.exit 0) ⟨[(3,.p (.int .i64 0))],[]⟩ | .inr o6=>tR prog Tryz.f263 (.int .i64 o6)) h4 ?_ ?_
 clear h h4
 intro t7 x h
 simp only [qc8] at h
 refine Ms ?_
 refine T4 ?_
 obtain ⟨h8,h⟩|⟨h8,h⟩:=zI h
 refine M9 ?_
 obtain ⟨x9,h10,h10a,h10b,h⟩:=zX h
 refine M6 ?_
 refine M8 ?_
 obtain ⟨h11,h⟩|⟨h11,h⟩:=zI h
 refine Ma ?_
 cases h
 exact ⟨rfl,zT results263⟩
 refine Mj ?_
 exact M0 h
 exact M2 h
 rcases o3 with ⟨⟩ | r12
 try simp only at h
 refine Md ?_
 exact M3 h results263
 exact M7 h
theorem qrz (x1:Int) (r2:Bool) (h:qmk x1=some r2):Con D prog 205 [(.int .i64 x1)] (.bool r2):=by
 refine zP call205 func205 rfl ntmps205 fun X w hT=>?_
 simp only [qmk] at h
 refine Ms ?_
 refine M6 ?_
 exact M3 h results205
theorem qwu (x1:Int) (y2:Int) (r3:Int) (h:qkt x1 y2=some r3):Con D prog 264 [(.int .i64 x1),(.int .i64 y2)] (.int .i64 r3):=by
 refine zP call264 func264 rfl ntmps264 fun X w hT=>?_
 simp only [qkt] at h
 refine Ms ?_
 refine M6 ?_
 refine zU ?_
 obtain ⟨r4,h5,h⟩:=zB h
 refine zc (qrz x1 _ h5) ?_
 refine M6 ?_
 refine zU ?_
 obtain ⟨r6,h7,h⟩:=zB h
 refine zc (qrz y2 _ h7) ?_
 refine Mo ?_
 refine M8 ?_
 obtain ⟨h8,h⟩|⟨h8,h⟩:=zI h
 refine zi<|zs<|zs<|zr ?_
 refine M8 ?_
 obtain ⟨h9,h⟩|⟨h9,h⟩:=zI h
 refine Tl ?_
 refine zU<|zl<|zn<|zq<|zt<|zt ?_
 exact T7 h results264
 refine Mf ?_
 refine T3 ?_
 exact T7 h results264
 refine Mm ?_
 refine M8 ?_
 obtain ⟨h10,h⟩|⟨h10,h⟩:=zI h
 exact M1 h results264
 refine Mm ?_
 refine M8 ?_
 obtain ⟨h11,h⟩|⟨h11,h⟩:=zI h
 exact M1 h results264
 refine Mm ?_
 refine M8 ?_
 obtain ⟨h12,h⟩|⟨h12,h⟩:=zI h
 exact M1 h results264
 refine Mf ?_
 exact M3 h results264
theorem qr0 (a1:Value) (b2:Value) (r3:Int) (h:qk5 a1 b2=some r3):Con D prog 245 [(qaj a1),(qaj b2)] (.int .i64 r3):=by
 refine zP call245 func245 rfl ntmps245 fun X w hT=>?_
 simp only [qk5] at h
 refine Ms ?_
 refine Mz ?_
 refine yU ?_
 obtain ⟨r4,h5,h⟩:=zB h
 refine yc (qwu a1.Kind b2.Kind _ h5) ?_
 refine yU ?_
 obtain ⟨r6,h7,h⟩:=zB h
 refine yc (qk0 a1.Num b2.Num _ h7) ?_
 refine yU ?_
 obtain ⟨r8,h9,h⟩:=zB h
 refine yc (qpc a1.Str b2.Str _ h9) ?_
 refine yU ?_
 obtain ⟨r10,h11,h⟩:=zB h
 refine yc (q37 [r4,r6,r8] _ h11) ?_
 exact Mp h results245
theorem qwv (l1:List Value) (v2:Value) (b3:Value) (r4:Int) (r5:Bool) (h:qi9 l1 v2 b3 r4=some r5):Con D prog 222 [(.slc (v2v qaj l1)),(qaj v2),(qaj b3),(.int .i64 r4)] (.bool r5):=by
 refine zP call222 func222 rfl ntmps222 fun X w hT=>?_
 simp only [qi9] at h
 refine Mc ?_
 refine Te ?_
 refine M8 ?_
 obtain ⟨h6,h⟩|⟨h6,h⟩:=zI h
 refine zi<|zs<|zd ?_
 refine yU ?_
 obtain ⟨r7,h8,h⟩:=zB h
 refine yc (qqj l1 v2 _ h8) ?_
 refine yU ?_
 obtain ⟨r9,h10,h⟩:=zB h
 refine yc (qqj l1 b3 _ h10) ?_
 refine To ?_
 exact T7 h results222
 refine T5 ?_
 refine M8 ?_
 obtain ⟨h11,h⟩|⟨h11,h⟩:=zI h
 refine Mt ?_
 obtain ⟨h12,h⟩|⟨h12,h⟩:=zI h
 refine zw 24 true ?_
 refine M4 ?_
 refine zg ?_
 obtain ⟨h13,h⟩|⟨h13,h⟩:=zI h
 replace h:=h.symm
 refine zw 28 true ?_
 refine Tb ?_
 exact Mg h results222
 replace h:=h.symm
 refine zw 28 false ?_
 refine M4 ?_
 refine M4 ?_
 refine Mr ?_
 exact Mg h results222
 refine zw 24 false ?_
 refine zh ?_
 exact Mg h results222
 refine T5 ?_
 refine M8 ?_
 obtain ⟨h14,h⟩|⟨h14,h⟩:=zI h
 refine Mt ?_
 obtain ⟨r15,h16,h⟩:=zB h
 refine zc (qr0 v2 b3 _ h16) ?_
 exact Mg h results222
 refine T5 ?_
 refine M8 ?_
 obtain ⟨h17,h⟩|⟨h17,h⟩:=zI h
 refine Mt ?_
 obtain ⟨r18,h19,h⟩:=zB h
 refine zc (qr0 v2 b3 _ h19) ?_
 exact Mg h results222
 refine Tf ?_
 exact M3 h results222
theorem qub (r1:Row) (c2:Int) (c3:Value) (r4:Bool) (h:qgi r1 c2 c3=some r4):Con D prog 223 [(qao r1),.imm [.int .i64 c2],.imm [.int .i64 c3.Kind,.int .i64 c3.Num,.str c3.Str]] (.bool r4):=by
 refine zP call223 func223 rfl ntmps223 fun X w hT=>?_
 simp only [qgi] at h
 refine Ms ?_
 refine Mz ?_
 obtain ⟨x5,h6,h6a,h6b,h⟩:=zX h
 exact Mp h results223
theorem qww (r1:List Row) (a2:Int) (r3:Int) (r4:Value×Int) (h:qku r1 a2 r3=some r4):Con D prog 184 [(.slc (v2v qao r1)),(.int .i64 a2),(.int .i64 r3)] (.tup [(qaj r4.1),(.int .i64 r4.2)]):=by
 refine zP call184 func184 rfl ntmps184 fun X w hT=>?_
 simp only [qku] at h
 refine Ms ?_
 refine M6 ?_
 refine M5 ?_
 obtain ⟨l5,h6,h⟩:=zB h
 refine zO (fun (s:List Value×Int)=>⟨[(0,.p (.slc (v2v qao r1))),(2,.p (.int .i64 r3)),(4,.loc 4 1 0 0),(6,.loc 6 1 0 0),(8,.own 33 1 0 s.1.length),(16,.p (.slc (v2v qao r1))),(17,.p (.int .i64 (r1.length:Int))),(18,.p (.int .i64 s.2))],[(4,.arr 3 1 1 [.p (.int .i64 a2)]),(6,.arr 142 3 1 [.p (.agg [.int .i64 0,.int .i64 0,.str []])]),(33,.arr 142 3 1 (v2v AV.p (v2v qaj s.1)))]⟩) (fun (o7:List Value)=>tE (cX Tryz.f184 X w D hT) (.exit 0) ⟨[(0,.p (.slc (v2v qao r1))),(2,.p (.int .i64 r3)),(4,.loc 4 1 0 0),(6,.loc 6 1 0 0),(8,.own 33 1 0 o7.length)],[(4,.arr 3 1 1 [.p (.int .i64 a2)]),(6,.arr 142 3 1 [.p (.agg [.int .i64 0,.int .i64 0,.str []])]),(33,.arr 142 3 1 (v2v AV.p (v2v qaj o7)))]⟩) h6 ?_ ?_
 clear h h6
 intro s x h
 obtain ⟨l8,t9⟩:=s
 simp only [qh5] at h
 refine Mb ?_
 obtain ⟨h10,h⟩|⟨h10,h⟩:=zI h
 refine M9 ?_
 obtain ⟨x11,h12,h12a,h12b,h⟩:=zX h
 refine M6 ?_
 obtain ⟨x13,h14,h14a,h14b,h⟩:=zX h
 refine M6 ?_
 refine M8 ?_
 obtain ⟨h15,h⟩|⟨h15,h⟩:=zI h
 refine Tc ?_
 obtain ⟨h16,h⟩:=qab h
 refine Mh ?_
 exact M0 h
 refine Mj ?_
 exact M0 h
 exact M2 h
 try simp only at h
 refine T9 ?_
 refine M8 ?_
 obtain ⟨h17,h⟩|⟨h17,h⟩:=zI h
 refine zi<|zs<|zd ?_
 obtain ⟨x18,h19,h19l,h19L,h⟩:=zY 0 h
 refine yU ?_
 refine yd<|zn<|zq<|zt ?_
 exact T7 h results184
 refine Mf ?_
 obtain ⟨x20,h21,h21l,h21L,h⟩:=zY 0 h
 refine Mo ?_
 obtain ⟨h22,h⟩:=qab h
 refine Mq ?_
 obtain ⟨b23,h24,h⟩:=zB h
 refine zO (fun (s:Value×Int)=>⟨[(0,.p (.slc (v2v qao r1))),(2,.p (.int .i64 r3)),(4,.loc 4 1 0 0),(6,.loc 6 1 0 0),(8,.own 33 1 0 l5.length),(12,.loc 12 1 0 0),(47,.own 33 1 1 (l5.length - 1)),(48,.p (.int .i64 (((l5.length - 1):Nat):Int))),(49,.p (.int .i64 s.2))],[(4,.arr 3 1 1 [.p (.int .i64 a2)]),(6,.arr 142 3 1 [.p (.agg [.int .i64 0,.int .i64 0,.str []])]),(12,.arr 142 3 1 [.p (qaj s.1)]),(33,.arr 142 3 1 (v2v AV.p (v2v qaj l5)))]⟩) (fun (o25:Value)=>tE (cX Tryz.f184 X w D hT) (.exit 2) ⟨[(0,.p (.slc (v2v qao r1))),(4,.loc 4 1 0 0),(6,.loc 6 1 0 0),(12,.loc 12 1 0 0)],[(4,.arr 3 1 1 [.p (.int .i64 a2)]),(6,.arr 142 3 1 [.p (.agg [.int .i64 0,.int .i64 0,.str []])]),(12,.arr 142 3 1 [.p (qaj o25)])]⟩) h24 ?_ ?_
 clear h h6 h17 h21 h21l h21L h22 h24
 intro s x h
 obtain ⟨b26,t27⟩:=s
 simp only [qh6] at h
 refine Mb ?_
 obtain ⟨h28,h⟩|⟨h28,h⟩:=zI h
 refine M9 ?_
 obtain ⟨x29,h30,h30a,h30b,h⟩:=zX h
 obtain ⟨h31,h31n⟩:=vm6 h30
 have h31N:=eq_true (vrw h31n h30a)
 refine M6 ?_
 refine zU ?_
 obtain ⟨r32,h33,h⟩:=zB h
 refine zc (qwv l5 x29 b26 r3 _ h33) ?_
 refine Tp ?_
 obtain ⟨h34,h⟩|⟨h34,h⟩:=zI h
 refine Tc ?_
 refine Mh ?_
 exact M0 h
 refine Mj ?_
 exact M0 h
 exact M2 h
 try simp only at h
 refine Md ?_
 refine zU ?_
 obtain ⟨r35,h36,h⟩:=zB h
 refine zc (qme r1 (fun (y37:Row)=>qgi y37 a2 b23) 223 [.imm [.int .i64 a2],.imm [.int .i64 b23.Kind,.int .i64 b23.Num,.str b23.Str]] (fun y37 r h=>qub y37 a2 b23 r h) _ h36) ?_
 refine Mz ?_
 obtain ⟨x38,h39,h39a,h39b,h⟩:=zX h
 exact Mp h results184
theorem qyk (r1:List Row) (r2:List Int) (r3:Row×List Int×Int) (h:qkb r1 r2=some r3):Con D prog 122 [(.slc (v2v qao r1)),(.slc (v2v (v65 .i64) r2))] (.tup [(qao r3.1),(.slc (v2v (v65 .i64) r3.2.1)),(.int .i64 r3.2.2)]):=by
 refine zP call122 func122 rfl ntmps122 fun X w hT=>?_
 simp only [qkb] at h
 refine Mc ?_
 refine zU ?_
 obtain ⟨r4,h5,h⟩:=zB h
 refine zc (qs4 r1 _ h5) ?_
 refine M6 ?_
 refine M8 ?_
 obtain ⟨h6,h⟩|⟨h6,h⟩:=zI h
 exact M1 h results122
 refine Mm ?_
 obtain ⟨x7,h8,h8l,h8L,h⟩:=zY 0 h
 refine M8 ?_
 obtain ⟨h9,h⟩|⟨h9,h⟩:=zI h
 exact M1 h results122
 refine Mm ?_
 refine zU ?_
 obtain ⟨r10,h11,h⟩:=zB h
 refine zc (qry r1 _ h11) ?_
 refine M6 ?_
 refine M8 ?_
 obtain ⟨h12,h⟩|⟨h12,h⟩:=zI h
 exact M1 h results122
 refine Mm ?_
 refine zU ?_
 obtain ⟨r13,h14,h⟩:=zB h
 refine zc (qcc r2 (fun (y15:Int)=>qhq y15) 183 [] (fun y15 r h=>qve y15 r h) _ h14) ?_
 refine Tp ?_
 obtain ⟨h16,h⟩|⟨h16,h⟩:=zI h
 exact M1 h results122
 refine Mf ?_
 refine M6 ?_
 refine M5 ?_
 obtain ⟨o17,h18,h⟩:=zB h
 refine zO (fun (s:List Value×List Int×Int)=>⟨[(0,.p (.slc (v2v qao r1))),(4,.loc 4 1 0 0),(9,.loc 9 1 0 0),(10,.own 67 1 0 s.2.1.length),(44,.p (.slc (v2v (v65 .i64) r2))),(45,.p (.int .i64 (r2.length:Int))),(46,.p (.int .i64 s.2.2))],[(4,.arr 66 2 1 [.agg [.p (.int .i64 0),.nils]]),(9,.arr 66 2 1 [.agg [.p (.int .i64 x7.ID),.own 62 1 0 s.1.length]]),(62,.arr 142 3 1 (v2v AV.p (v2v qaj s.1))),(67,.arr 2 1 1 (v2v AV.p (v2v (v65 .i64) s.2.1)))]⟩) (fun (o19:List Value×List Int)=>tE (cX Tryz.f122 X w D hT) (.exit 0) ⟨[(4,.loc 4 1 0 0),(9,.loc 9 1 0 0),(10,.own 67 1 0 o19.2.length)],[(4,.arr 66 2 1 [.agg [.p (.int .i64 0),.nils]]),(9,.arr 66 2 1 [.agg [.p (.int .i64 x7.ID),.own 62 1 0 o19.1.length]]),(62,.arr 142 3 1 (v2v AV.p (v2v qaj o19.1))),(67,.arr 2 1 1 (v2v AV.p (v2v (v65 .i64) o19.2)))]⟩) h18 ?_ ?_
 clear h h5 h6 h8 h8l h8L h9 h11 h12 h14 h16 h18
 intro s x h
 obtain ⟨o20,o21,t22⟩:=s
 simp only [qgj] at h
 refine Mb ?_
 obtain ⟨h23,h⟩|⟨h23,h⟩:=zI h
 refine M9 ?_
 obtain ⟨x24,h25,h25a,h25b,h⟩:=zX h
 refine M6 ?_
 refine zU ?_
 obtain ⟨r26,h27,h⟩:=zB h
 refine zc (qww r1 t22 x24 _ h27) ?_
 refine M6 ?_
 obtain ⟨h28,h⟩:=qab h
 refine Mx ?_
 obtain ⟨h29,h⟩:=qab h
 refine Mh ?_
 exact M0 h
 exact M2 h
 obtain ⟨o30,o31⟩:=o17
 try simp only at h
 refine Md ?_
 exact M3 h results122
theorem qs5 (s1:List Int) (v2:Int) (r3:Int) (h:qh7 s1 v2=some r3):Con D prog 224 [(.slc (v2v (v65 .i64) s1)),(.int .i64 v2)] (.int .i64 r3):=by
 refine zP call224 func224 rfl ntmps224 fun X w hT=>?_
 simp only [qh7] at h
 refine Ms ?_
 refine M5 ?_
 obtain ⟨o4,h5,h⟩:=zB h
 refine zO (fun (s:Int)=>⟨[(0,.p (.slc (v2v (v65 .i64) s1))),(1,.p (.int .i64 v2)),(7,.p (.int .i64 (s1.length:Int))),(8,.p (.int .i64 s))],[]⟩) (fun (o:(Unit) ⊕ (Int))=>match o with | .inl o6=>tE (cX Tryz.f224 X w D hT) (.exit 0) ⟨[],[]⟩ | .inr o7=>tR prog Tryz.f224 (.int .i64 o7)) h5 ?_ ?_
 clear h h5
 intro t8 x h
 simp only [qdi] at h
 refine Ms ?_
 refine T4 ?_
 obtain ⟨h9,h⟩|⟨h9,h⟩:=zI h
 refine M9 ?_
 refine M6 ?_
 obtain ⟨x10,h11,h11a,h11b,h⟩:=zX h
 refine M8 ?_
 obtain ⟨h12,h⟩|⟨h12,h⟩:=zI h
 refine Ma ?_
 cases h
 exact ⟨rfl,zT results224⟩
 refine Mj ?_
 exact M0 h
 exact M2 h
 rcases o4 with ⟨⟩ | r13
 try simp only at h
 refine Md ?_
 exact M3 h results224
 exact M7 h
theorem qqt (s1:List Int) (v2:Int) (r3:Bool) (h:qe5 s1 v2=some r3):Con D prog 185 [(.slc (v2v (v65 .i64) s1)),(.int .i64 v2)] (.bool r3):=by
 refine zP call185 func185 rfl ntmps185 fun X w hT=>?_
 simp only [qe5] at h
 refine Ms ?_
 refine M6 ?_
 refine zU ?_
 obtain ⟨r4,h5,h⟩:=zB h
 refine zc (qs5 s1 v2 _ h5) ?_
 exact M3 h results185
theorem qs6 (l:List Value) (r:List Value) (h:qmv l=some r):Con D prog 246 [(.slc (v2v qaj l))] (.slc (v2v qaj r)):=by
  obtain ⟨hc,h⟩:=qab h
  cases h
  refine ⟨call246,?_⟩
  refine qr6 func246 rfl ntmps246 (by simp) fun X w hT=>?_
  show AWp _ _ _ ⟨[(0,.p (.slc (v2v qaj l)))],[]⟩
  refine qki ?_
  refine qf6 ?_
  refine qql (by exact rfl) (by simp only [go_sem,seval];exact rfl) ?_
  refine qq5 ?_
  refine ql0 ?_
  refine qki ?_
  refine qki ?_
  refine qf6 ?_
  refine q6c 1 (by simp only [go_sem,seval];exact rfl) ?_
  refine qxi (by simp only [go_sem,seval];exact rfl) (by simp only [go_sem,seval]) underlying64 rfl ?_
  intro b hb
  refine qq5 ?_
  refine ql0 ?_
  cases b
  · refine vdr (by simp only [go_sem,seval]) ?_
    refine q0g ?_
    refine ql0 ?_
    refine qki ?_
    refine qf6 ?_
    refine qql (by exact rfl) (by simp only [go_sem,seval,hc];exact rfl) ?_
    refine qq5 ?_
    refine ql0 ?_
    refine qv5 ?_
    refine qr8 (by simp only [results246];simp only [go_sem,seval];exact rfl) ?_
    simp only [go_sem,seval]
    all_goals ((repeat' refine v62 ?_ ?_) <;> first | rfl | (simp;done) | (simp;rfl) | (simp [*];done) | (simp [*];rfl))
  · refine vdq (by simp only [go_sem,seval]) ?_
    have hl:l=[]:=by
      cases l with
      | nil=>rfl
      | cons x l=>exact absurd (hb (by simp)) (by simp)
    subst hl
    refine qki ?_
    refine qf6 ?_
    refine qql (by exact rfl) (by simp only [go_sem,seval];exact rfl) ?_
    refine qq5 ?_
    refine ql0 ?_
    refine qv5 ?_
    refine q07 ?_
    refine qr8 (by simp only [results246];simp only [go_sem,seval];exact rfl) ?_
    simp only [go_sem,seval]
    all_goals ((repeat' refine v62 ?_ ?_) <;> first | rfl | (simp;done) | (simp;rfl) | (simp [*];done) | (simp [*];rfl))
theorem q0b (r1:Row) (r2:Row) (h:qnn r1=some r2):Con D prog 225 [(qao r1)] (qao r2):=by
 refine zP call225 func225 rfl ntmps225 fun X w hT=>?_
 simp only [qnn] at h
 refine Ms ?_
 refine Mz ?_
 refine yU ?_
 obtain ⟨r3,h4,h⟩:=zB h
 refine yc (qs6 r1.Values _ h4) ?_
 exact Mp h results225
theorem q38 (t1:Table) (r2:List Row) (r3:Table) (h:qrc t1 r2=some r3):Con D prog 186 [(qaf t1),(.slc (v2v qao r2))] (qaf r3):=by
 refine zP call186 func186 rfl ntmps186 fun X w hT=>?_
 simp only [qrc] at h
 refine Ms ?_
 refine Mz ?_
 refine yU ?_
 obtain ⟨r4,h5,h⟩:=zB h
 refine yc (qm1 t1.Attrs _ h5) ?_
 refine Ta ?_
 refine Mq ?_
 obtain ⟨o6,h7,h⟩:=zB h
 refine zO (fun (s:List Row×Int)=>⟨[(4,.loc 4 1 0 0),(5,.loc 5 1 0 0),(14,.p (.slc (v2v qao r2))),(15,.p (.int .i64 (r2.length:Int))),(16,.p (.int .i64 s.2))],[(4,.arr 41 3 1 [.agg [.p (.str []),.nils,.nils]]),(5,.arr 41 3 1 [.agg [.p (.str t1.Name),.p (.slc (v2v v67 r4)),.own 25 1 0 s.1.length]]),(25,.arr 66 2 1 (v2v AV.p (v2v qao s.1)))]⟩) (fun (o8:List Row)=>tE (cX Tryz.f186 X w D hT) (.exit 0) ⟨[(4,.loc 4 1 0 0),(5,.loc 5 1 0 0)],[(4,.arr 41 3 1 [.agg [.p (.str []),.nils,.nils]]),(5,.arr 41 3 1 [.agg [.p (.str t1.Name),.p (.slc (v2v v67 r4)),.own 25 1 0 o8.length]]),(25,.arr 66 2 1 (v2v AV.p (v2v qao o8)))]⟩) h7 ?_ ?_
 clear h h5 h7
 intro s x h
 obtain ⟨o9,t10⟩:=s
 simp only [qok] at h
 refine Mb ?_
 obtain ⟨h11,h⟩|⟨h11,h⟩:=zI h
 refine M9 ?_
 obtain ⟨x12,h13,h13a,h13b,h⟩:=zX h
 refine Th ?_
 refine yU ?_
 obtain ⟨r14,h15,h⟩:=zB h
 refine yc (q0b x12 _ h15) ?_
 obtain ⟨h16,h⟩:=qab h
 refine My ?_
 exact M0 h
 exact M2 h
 try simp only at h
 refine Md ?_
 exact M3 h results186
theorem q39 (t1:Table) (i2:List Int) (r3:Table) (h:qrd t1 i2=some r3):Con D prog 123 [(qaf t1),(.slc (v2v (v65 .i64) i2))] (qaf r3):=by
 refine zP call123 func123 rfl ntmps123 fun X w hT=>?_
 simp only [qrd] at h
 refine Ms ?_
 refine M6 ?_
 refine M5 ?_
 obtain ⟨r4,h5,h⟩:=zB h
 refine zO (fun (s:List Row×Int)=>⟨[(1,.p (.slc (v2v (v65 .i64) i2))),(2,.loc 2 1 0 0),(4,.loc 4 1 0 0),(5,.own 22 1 0 s.1.length),(9,.p (.slc (v2v qao t1.Rows))),(10,.p (.int .i64 (t1.Rows.length:Int))),(11,.p (.int .i64 s.2))],[(2,.arr 41 3 1 [.p (qaf t1)]),(4,.arr 41 3 1 [.agg [.p (.str []),.nils,.nils]]),(22,.arr 66 2 1 (v2v AV.p (v2v qao s.1)))]⟩) (fun (o6:List Row)=>tE (cX Tryz.f123 X w D hT) (.exit 0) ⟨[(2,.loc 2 1 0 0),(4,.loc 4 1 0 0),(5,.own 22 1 0 o6.length)],[(2,.arr 41 3 1 [.p (qaf t1)]),(4,.arr 41 3 1 [.agg [.p (.str []),.nils,.nils]]),(22,.arr 66 2 1 (v2v AV.p (v2v qao o6)))]⟩) h5 ?_ ?_
 clear h h5
 intro s x h
 obtain ⟨r7,t8⟩:=s
 simp only [qol] at h
 refine Mb ?_
 obtain ⟨h9,h⟩|⟨h9,h⟩:=zI h
 refine M9 ?_
 obtain ⟨x10,h11,h11a,h11b,h⟩:=zX h
 refine M6 ?_
 refine zU ?_
 obtain ⟨r12,h13,h⟩:=zB h
 refine zc (qqt i2 x10.ID _ h13) ?_
 refine Tp ?_
 obtain ⟨h14,h⟩|⟨h14,h⟩:=zI h
 refine Tc ?_
 obtain ⟨h15,h⟩:=qab h
 refine Mh ?_
 exact M0 h
 refine Mj ?_
 exact M0 h
 exact M2 h
 try simp only at h
 refine Md ?_
 refine zU ?_
 refine zM ⟨[(4,.loc 4 1 0 0),(24,.p (qaf t1)),(25,.p (.slc (v2v qao r4)))],[(4,.arr 41 3 1 [.agg [.p (.str []),.nils,.nils]])]⟩ ?_
 obtain ⟨r16,h17,h⟩:=zB h
 refine zc (q38 t1 r4 _ h17) ?_
 exact M3 h results123
theorem qs7 (l:List Int) (r:List Int) (h:qkh l=some r):Con D prog 124 [(.slc (v2v (v65 .i64) l))] (.slc (v2v (v65 .i64) r)):=by
  obtain ⟨hc,h⟩:=qab h
  cases h
  refine ⟨call124,?_⟩
  refine qr6 func124 rfl ntmps124 (by simp) fun X w hT=>?_
  show AWp _ _ _ ⟨[(0,.p (.slc (v2v (v65 .i64) l)))],[]⟩
  refine qki ?_
  refine qf6 ?_
  refine qql (by exact rfl) (by simp only [go_sem,seval];exact rfl) ?_
  refine qq5 ?_
  refine ql0 ?_
  refine qki ?_
  refine qki ?_
  refine qf6 ?_
  refine q6c 1 (by simp only [go_sem,seval];exact rfl) ?_
  refine qxi (by simp only [go_sem,seval];exact rfl) (by simp only [go_sem,seval]) underlying63 rfl ?_
  intro b hb
  refine qq5 ?_
  refine ql0 ?_
  cases b
  · refine vdr (by simp only [go_sem,seval]) ?_
    refine q0g ?_
    refine ql0 ?_
    refine qki ?_
    refine qf6 ?_
    refine qql (by exact rfl) (by simp only [go_sem,seval,hc];exact rfl) ?_
    refine qq5 ?_
    refine ql0 ?_
    refine qv5 ?_
    refine qr8 (by simp only [results124];simp only [go_sem,seval];exact rfl) ?_
    simp only [go_sem,seval]
    all_goals ((repeat' refine v62 ?_ ?_) <;> first | rfl | (simp;done) | (simp;rfl) | (simp [*];done) | (simp [*];rfl))
  · refine vdq (by simp only [go_sem,seval]) ?_
    have hl:l=[]:=by
      cases l with
      | nil=>rfl
      | cons x l=>exact absurd (hb (by simp)) (by simp)
    subst hl
    refine qki ?_
    refine qf6 ?_
    refine qql (by exact rfl) (by simp only [go_sem,seval];exact rfl) ?_
    refine qq5 ?_
    refine ql0 ?_
    refine qv5 ?_
    refine q07 ?_
    refine qr8 (by simp only [results124];simp only [go_sem,seval];exact rfl) ?_
    simp only [go_sem,seval]
    all_goals ((repeat' refine v62 ?_ ?_) <;> first | rfl | (simp;done) | (simp;rfl) | (simp [*];done) | (simp [*];rfl))
theorem qyl (t1:Table) (c2:List (List Int)) (r3:List Int) (r4:Merged×Int) (h:qkc t1 c2 r3=some r4):Con D prog 75 [(qaf t1),(.slc (v2v (qap (v65 .i64)) c2)),(.slc (v2v (v65 .i64) r3))] (.tup [(qj3 r4.1),(.int .i64 r4.2)]):=by
 refine zP call75 func75 rfl ntmps75 fun X w hT=>?_
 simp only [qkc] at h
 refine Mc ?_
 refine zU ?_
 obtain ⟨r5,h6,h⟩:=zB h
 refine zc (qt8 t1 _ h6) ?_
 refine M6 ?_
 refine M8 ?_
 obtain ⟨h7,h⟩|⟨h7,h⟩:=zI h
 exact M1 h results75
 have h7F:=v18.2 h7
 refine Mm ?_
 refine M8 ?_
 obtain ⟨h8,h⟩|⟨h8,h⟩:=zI h
 exact M1 h results75
 have h8F:=v18.2 h8
 refine Mm ?_
 refine zU ?_
 obtain ⟨r9,h10,h⟩:=zB h
 refine zc (qcc r3 (fun (y11:Int)=>qhp y11) 116 [] (fun y11 r h=>qvb y11 r h) _ h10) ?_
 refine zU ?_
 obtain ⟨h12,h⟩|⟨h12,h⟩:=zI h
 refine zw 31 true ?_
 refine zh ?_
 refine M8 ?_
 exact M1 h results75
 have h12F:=v18.2 h12
 refine zw 31 false ?_
 refine Mr ?_
 obtain ⟨r13,h14,h⟩:=zB h
 refine zc (qvc t1 c2 _ h14) ?_
 refine zg ?_
 refine M8 ?_
 obtain ⟨h15,h⟩|⟨h15,h⟩:=zI h
 refine Mf ?_
 refine zU ?_
 obtain ⟨h16,h⟩:=qab h
 refine zM ⟨[(2,.p (.slc (v2v (v65 .i64) r3))),(3,.loc 3 1 0 0),(6,.loc 6 1 0 0),(38,.p (.slc (v2v (qap (v65 .i64)) c2)))],[(3,.arr 41 3 1 [.p (qaf t1)]),(6,.arr 83 5 1 [.agg [.p (.str []),.nils,.nils,.nils,.nils]])]⟩ ?_
 refine qjq (avs:=[.p (.slc (v2v (qap (v65 .i64)) c2))]) 92 rfl (qbf rfl) rfl func119 rfl call119 ntmps119 (by simp) (by simp only [go_sem,seval,h7F,h8F,h12F,h15,h16];all_goals rfl) ?_
 intro i17 w18 h19
 refine q0i (T:=fun e s'=>(e=.normal∨e=.ret)∧Le ⟨prog,8,92,X,[(3,.arr 41 3 1 [.p (qaf t1)]),(6,.arr 83 5 1 [.agg [.p (.str []),.nils,.nils,.nils,.nils]])],i17,w18,D,h19⟩ s' ⟨[(2,.own 97 1 0 c2.length)],[(3,.arr 41 3 1 [.p (qaf t1)]),(6,.arr 83 5 1 [.agg [.p (.str []),.nils,.nils,.nils,.nils]]),(97,.arr 63 1 1 (v2v AV.p (v2v (qap (v65 .i64)) c2)))]⟩) ?_ ?_
 show AWp _ _ _ ⟨[(0,.p (.slc (v2v (qap (v65 .i64)) c2)))],[(3,.arr 41 3 1 [.p (qaf t1)]),(6,.arr 83 5 1 [.agg [.p (.str []),.nils,.nils,.nils,.nils]])]⟩
 refine Mc ?_
 refine zW 1 ?_
 refine qxi (by simp only [go_sem,seval,h7F,h8F,h12F,h15,h16];exact rfl) (by simp only [go_sem,seval,h7F,h8F,h12F,h15,h16]) underlying52 rfl ?_
 intro b hb
 refine Tp ?_
 cases b
 refine Mf ?_
 refine zU<|zl<|zn<|zq ?_
 refine ⟨.inr rfl,?_⟩
 exact zV
 refine zi ?_
 have h20:c2=[]:=by
   rcases hz:c2 with _ | ⟨x,z⟩
   · rfl
   · rw [hz] at hb;exact absurd (hb (by simp)) (by simp)
 refine Ms ?_
 refine T3 ?_
 refine ⟨.inr rfl,?_⟩
 exact zV
 intro e s' hT
 obtain ⟨he,hle⟩:=hT
 refine Wk.to hle ?_
 refine vdu he (by simp only [results119];simp only [go_sem,seval,h7F,h8F,h12F,h15,h16];exact rfl) ?_
 clear hle he
 refine M6 ?_
 refine zU ?_
 refine zM ⟨[(2,.p (.slc (v2v (v65 .i64) r3))),(3,.loc 3 1 0 0),(6,.loc 6 1 0 0),(9,.own 97 1 0 c2.length),(40,.own 97 1 0 c2.length)],[(3,.arr 41 3 1 [.p (qaf t1)]),(6,.arr 83 5 1 [.agg [.p (.str []),.nils,.nils,.nils,.nils]]),(97,.arr 63 1 1 (v2v AV.p (v2v (qap (v65 .i64)) c2)))]⟩ ?_
 obtain ⟨l21,h22,h⟩:=zB h
 refine zSF srt56 (qap (v65 .i64)) (fun (y23:List Int) (y24:List Int)=>qa0 y23 y24) h22 (fun y23 y24 r h=>qvd y23 y24 r h) ?_
 have h25:=vdw h22
 refine zM ⟨[(2,.p (.slc (v2v (v65 .i64) r3))),(3,.loc 3 1 0 0),(6,.loc 6 1 0 0),(9,.own 97 1 0 l21.length),(41,.p (.tup []))],[(3,.arr 41 3 1 [.p (qaf t1)]),(6,.arr 83 5 1 [.agg [.p (.str []),.nils,.nils,.nils,.nils]]),(97,.arr 63 1 1 (v2v AV.p (v2v (qap (v65 .i64)) l21)))]⟩ ?_
 clear h25
 refine zl<|zn<|zs<|zd ?_
 refine yU ?_
 obtain ⟨r26,h27,h⟩:=zB h
 refine yc (qm1 t1.Attrs _ h27) ?_
 refine Ta ?_
 refine Mq ?_
 obtain ⟨o28,h29,h⟩:=zB h
 refine zO (fun (s:List Row×List (List Int)×List (List Int)×Int)=>⟨[(2,.p (.slc (v2v (v65 .i64) r3))),(3,.loc 3 1 0 0),(6,.loc 6 1 0 0),(10,.loc 10 1 0 0),(49,.own 97 1 0 l21.length),(50,.p (.int .i64 ((l21.length:Nat):Int))),(51,.p (.int .i64 s.2.2.2))],[(3,.arr 41 3 1 [.p (qaf t1)]),(6,.arr 83 5 1 [.agg [.p (.str []),.nils,.nils,.nils,.nils]]),(10,.arr 83 5 1 [.agg [.p (.str t1.Name),.p (.slc (v2v v67 r26)),.own 74 1 0 s.1.length,.own 82 1 0 s.2.1.length,.own 88 1 0 s.2.2.1.length]]),(74,.arr 66 2 1 (v2v AV.p (v2v qao s.1))),(82,.arr 63 1 1 (v2v AV.p (v2v (qap (v65 .i64)) s.2.1))),(88,.arr 63 1 1 (v2v AV.p (v2v (qap (v65 .i64)) s.2.2.1))),(97,.arr 63 1 1 (v2v AV.p (v2v (qap (v65 .i64)) l21)))]⟩) (fun (o:(List Row×List (List Int)×List (List Int)) ⊕ (Merged×Int))=>match o with | .inl o30=>tE (cX Tryz.f75 X w D hT) (.exit 0) ⟨[(6,.loc 6 1 0 0),(10,.loc 10 1 0 0)],[(6,.arr 83 5 1 [.agg [.p (.str []),.nils,.nils,.nils,.nils]]),(10,.arr 83 5 1 [.agg [.p (.str t1.Name),.p (.slc (v2v v67 r26)),.own 74 1 0 o30.1.length,.own 82 1 0 o30.2.1.length,.own 88 1 0 o30.2.2.length]]),(74,.arr 66 2 1 (v2v AV.p (v2v qao o30.1))),(82,.arr 63 1 1 (v2v AV.p (v2v (qap (v65 .i64)) o30.2.1))),(88,.arr 63 1 1 (v2v AV.p (v2v (qap (v65 .i64)) o30.2.2)))]⟩ | .inr o31=>tR prog Tryz.f75 (.tup [(qj3 o31.1),(.int .i64 o31.2)])) h29 ?_ ?_
 clear h h6 h7 h7F h8 h8F h10 h12 h12F h14 h15 h16 h22 h27 h29
 intro s x h
 obtain ⟨o32,o33,o34,t35⟩:=s
 simp only [qew] at h
 refine Mb ?_
 obtain ⟨h36,h⟩|⟨h36,h⟩:=zI h
 refine M9 ?_
 obtain ⟨x37,h38,h38a,h38b,h⟩:=zX h
 refine M6 ?_
 refine zU ?_
 obtain ⟨r39,h40,h⟩:=zB h
 refine zc (q39 t1 x37 _ h40) ?_
 refine zU ?_
 obtain ⟨r41,h42,h⟩:=zB h
 refine zc (qyk r39.Rows r3 _ h42) ?_
 refine Mo ?_
 refine M8 ?_
 obtain ⟨h43,h⟩|⟨h43,h⟩:=zI h
 refine Me ?_
 cases h
 exact ⟨rfl,zT results75⟩
 refine Mf ?_
 obtain ⟨h44,h⟩:=qab h
 refine Mz ?_
 refine yU ?_
 obtain ⟨r45,h46,h⟩:=zB h
 refine yc (qs7 x37 _ h46) ?_
 obtain ⟨h47,h⟩:=qab h
 refine yU ?_
 refine yd<|zn<|zr ?_
 obtain ⟨h48,h⟩:=qab h
 refine Mh ?_
 exact M0 h
 exact M2 h
 rcases o28 with ⟨o49,o50,o51⟩ | r52
 try simp only at h
 refine Md ?_
 exact M3 h results75
 exact M7 h
 exact M1 h results75
theorem q0c (t1:Table) (l2:Linkage) (r3:Merged×Int) (h:qno t1 l2=some r3):Con False prog 35 [(qaf t1),(qak l2)] (.tup [(qj3 r3.1),(.int .i64 r3.2)]):=by
 refine zP call35 func35 rfl ntmps35 fun X w hT=>?_
 simp only [qno] at h
 refine Ms ?_
 refine M6 ?_
 refine zU ?_
 obtain ⟨r4,h5,h⟩:=zB h
 refine zc (qn9 t1 l2 _ h5) ?_
 refine Mo ?_
 refine M8 ?_
 obtain ⟨h6,h⟩|⟨h6,h⟩:=zI h
 exact M1 h results35
 refine Mf ?_
 refine zU ?_
 obtain ⟨r7,h8,h⟩:=zB h
 refine zc (qyl t1 r4.1 l2.Survive _ h8) ?_
 exact M3 h results35
theorem qs8 (a1:List (List UInt8)) (b2:List (List UInt8)) (r3:Bool) (h:qh8 a1 b2=some r3):Con D prog 125 [(.slc (v2v v67 a1)),(.slc (v2v v67 b2))] (.bool r3):=by
 refine zP call125 func125 rfl ntmps125 fun X w hT=>?_
 simp only [qh8] at h
 refine Mc ?_
 refine M8 ?_
 obtain ⟨h4,h⟩|⟨h4,h⟩:=zI h
 exact M1 h results125
 refine Mm ?_
 refine Mq ?_
 obtain ⟨o5,h6,h⟩:=zB h
 refine zO (fun (s:Int)=>⟨[(0,.p (.slc (v2v v67 a1))),(1,.p (.slc (v2v v67 b2))),(5,.p (.int .i64 s))],[]⟩) (fun (o:(Unit) ⊕ (Bool))=>match o with | .inl o7=>tE (cX Tryz.f125 X w D hT) (.exit 0) ⟨[],[]⟩ | .inr o8=>tR prog Tryz.f125 (.bool o8)) h6 ?_ ?_
 clear h h4 h6
 intro i9 x h
 simp only [qdj] at h
 refine T8 ?_
 refine M8 ?_
 obtain ⟨h10,h⟩|⟨h10,h⟩:=zI h
 refine Mw ?_
 obtain ⟨x11,h12,h12a,h12b,h⟩:=zX h
 obtain ⟨x13,h14,h14a,h14b,h⟩:=zX h
 refine Mu ?_
 obtain ⟨h15,h⟩|⟨h15,h⟩:=zI h
 refine Mj ?_
 exact M0 h
 refine Ma ?_
 cases h
 exact ⟨rfl,zT results125⟩
 exact M2 h
 rcases o5 with ⟨⟩ | r16
 try simp only at h
 refine Md ?_
 exact M3 h results125
 exact M7 h
theorem qha (a1:Int) (b2:Int) (r3:Int) (h:qdr a1 b2=some r3):Con D prog 215 [(.int .i64 a1),(.int .i64 b2)] (.int .i64 r3):=by
 refine zP call215 func215 rfl ntmps215 fun X w hT=>?_
 simp only [qdr] at h
 refine Mc ?_
 refine M8 ?_
 obtain ⟨h4,h⟩|⟨h4,h⟩:=zI h
 exact M1 h results215
 refine Mm ?_
 refine M8 ?_
 obtain ⟨h5,h⟩|⟨h5,h⟩:=zI h
 exact M1 h results215
 refine Mf ?_
 exact M3 h results215
theorem qs9 (a1:List UInt8) (b2:List UInt8) (r3:Int) (h:qh2 a1 b2=some r3):Con D prog 216 [(.str a1),(.str b2)] (.int .i64 r3):=by
 refine zP call216 func216 rfl ntmps216 fun X w hT=>?_
 simp only [qh2] at h
 refine Ms ?_
 refine M5 ?_
 obtain ⟨o4,h5,h⟩:=zB h
 refine zO (fun (s:Int)=>⟨[(0,.p (.str a1)),(1,.p (.str b2)),(5,.p (.int .i64 s))],[]⟩) (fun (o:(Unit) ⊕ (Int))=>match o with | .inl o6=>tE (cX Tryz.f216 X w D hT) (.exit 0) ⟨[(0,.p (.str a1)),(1,.p (.str b2))],[]⟩ | .inr o7=>tR prog Tryz.f216 (.int .i64 o7)) h5 ?_ ?_
 clear h h5
 intro i8 x h
 simp only [qbi] at h
 refine T8 ?_
 refine zU ?_
 obtain ⟨h9,h⟩|⟨h9,h⟩:=zI h
 refine zw 10 true ?_
 refine M4 ?_
 refine zg ?_
 refine M8 ?_
 obtain ⟨h10,h⟩|⟨h10,h⟩:=zI h
 refine Mw ?_
 obtain ⟨c11,h12,h12a,h12b,h⟩:=zX h
 obtain ⟨c13,h14,h14a,h14b,h⟩:=zX h
 refine Mu ?_
 obtain ⟨h15,h⟩|⟨h15,h⟩:=zI h
 refine zi<|zs<|zd ?_
 refine yU ?_
 obtain ⟨r16,h17,h⟩:=zB h
 refine yc (qha (v4a.wrap ((c11.toNat:Nat):Int)) (v4a.wrap ((c13.toNat:Nat):Int)) _ h17) ?_
 refine To ?_
 cases h
 exact ⟨rfl,zT results216⟩
 refine Mj ?_
 exact M0 h
 exact M2 h
 refine zw 10 false ?_
 refine zh ?_
 refine M8 ?_
 exact M2 h
 rcases o4 with ⟨⟩ | r18
 try simp only at h
 refine Md ?_
 refine zU ?_
 obtain ⟨r19,h20,h⟩:=zB h
 refine zc (qha (a1.length:Int) (b2.length:Int) _ h20) ?_
 exact M3 h results216
 exact M7 h
theorem qhb (a1:Value) (b2:Value) (r3:Int) (h:qb5 a1 b2=some r3):Con D prog 174 [(qaj a1),(qaj b2)] (.int .i64 r3):=by
 refine zP call174 func174 rfl ntmps174 fun X w hT=>?_
 simp only [qb5] at h
 refine Mc ?_
 refine zU ?_
 obtain ⟨r4,h5,h⟩:=zB h
 refine zc (qha a1.Kind b2.Kind _ h5) ?_
 refine M6 ?_
 refine M8 ?_
 obtain ⟨h6,h⟩|⟨h6,h⟩:=zI h
 exact M1 h results174
 refine Mm ?_
 refine zU ?_
 obtain ⟨r7,h8,h⟩:=zB h
 refine zc (qha a1.Num b2.Num _ h8) ?_
 refine M6 ?_
 refine M8 ?_
 obtain ⟨h9,h⟩|⟨h9,h⟩:=zI h
 exact M1 h results174
 refine Mf ?_
 refine zU ?_
 obtain ⟨r10,h11,h⟩:=zB h
 refine zc (qs9 a1.Str b2.Str _ h11) ?_
 exact M3 h results174
theorem qvf (a1:List Value) (b2:List Value) (r3:Int) (h:qjv a1 b2=some r3):Con D prog 226 [(.slc (v2v qaj a1)),(.slc (v2v qaj b2))] (.int .i64 r3):=by
 refine zP call226 func226 rfl ntmps226 fun X w hT=>?_
 simp only [qjv] at h
 refine Ms ?_
 refine M5 ?_
 obtain ⟨o4,h5,h⟩:=zB h
 refine zO (fun (s:Int)=>⟨[(0,.p (.slc (v2v qaj a1))),(1,.p (.slc (v2v qaj b2))),(5,.p (.int .i64 s))],[]⟩) (fun (o:(Unit) ⊕ (Int))=>match o with | .inl o6=>tE (cX Tryz.f226 X w D hT) (.exit 0) ⟨[(0,.p (.slc (v2v qaj a1))),(1,.p (.slc (v2v qaj b2)))],[]⟩ | .inr o7=>tR prog Tryz.f226 (.int .i64 o7)) h5 ?_ ?_
 clear h h5
 intro i8 x h
 simp only [qbu] at h
 refine T8 ?_
 refine zU ?_
 obtain ⟨h9,h⟩|⟨h9,h⟩:=zI h
 refine zw 11 true ?_
 refine M4 ?_
 refine zg ?_
 refine M8 ?_
 obtain ⟨h10,h⟩|⟨h10,h⟩:=zI h
 refine Mw ?_
 obtain ⟨x11,h12,h12a,h12b,h⟩:=zX h
 obtain ⟨x13,h14,h14a,h14b,h⟩:=zX h
 refine yU ?_
 obtain ⟨r15,h16,h⟩:=zB h
 refine yc (qhb x11 x13 _ h16) ?_
 refine Ti ?_
 refine M8 ?_
 obtain ⟨h17,h⟩|⟨h17,h⟩:=zI h
 refine Ma ?_
 cases h
 exact ⟨rfl,zT results226⟩
 refine Mj ?_
 exact M0 h
 exact M2 h
 refine zw 11 false ?_
 refine zh ?_
 refine M8 ?_
 exact M2 h
 rcases o4 with ⟨⟩ | r18
 try simp only at h
 refine Md ?_
 refine zU ?_
 obtain ⟨r19,h20,h⟩:=zB h
 refine zc (qha (a1.length:Int) (b2.length:Int) _ h20) ?_
 exact M3 h results226
 exact M7 h
theorem qph (a1:List Value) (b2:List Value) (r3:Bool) (h:qi2 a1 b2=some r3):Con D prog 187 [(.slc (v2v qaj a1)),(.slc (v2v qaj b2))] (.bool r3):=by
 refine zP call187 func187 rfl ntmps187 fun X w hT=>?_
 simp only [qi2] at h
 refine Ms ?_
 refine M6 ?_
 refine zU ?_
 obtain ⟨r4,h5,h⟩:=zB h
 refine zc (qvf a1 b2 _ h5) ?_
 exact M3 h results187
theorem qr1 (a1:Row) (b2:Row) (r3:Bool) (h:qf0 a1 b2=some r3):Con D prog 126 [(qao a1),(qao b2)] (.bool r3):=by
 refine zP call126 func126 rfl ntmps126 fun X w hT=>?_
 simp only [qf0] at h
 refine Ms ?_
 refine M6 ?_
 refine zU ?_
 obtain ⟨h4,h⟩|⟨h4,h⟩:=zI h
 refine zw 10 true ?_
 refine M4 ?_
 refine zg ?_
 obtain ⟨r5,h6,h⟩:=zB h
 refine zc (qph a1.Values b2.Values _ h6) ?_
 exact M3 h results126
 refine zw 10 false ?_
 refine zh ?_
 exact M3 h results126
theorem qvg (a1:Table) (b2:Table) (r3:Bool) (h:qj0 a1 b2=some r3):Con D prog 76 [(qaf a1),(qaf b2)] (.bool r3):=by
 refine zP call76 func76 rfl ntmps76 fun X w hT=>?_
 simp only [qj0] at h
 refine Mc ?_
 refine zU ?_
 obtain ⟨h4,h⟩|⟨h4,h⟩:=zI h
 refine zw 11 false ?_
 refine M4 ?_
 refine zg ?_
 obtain ⟨r5,h6,h⟩:=zB h
 refine zc (qs8 a1.Attrs b2.Attrs _ h6) ?_
 refine zg ?_
 refine zU ?_
 obtain ⟨h7,h⟩|⟨h7,h⟩:=zI h
 refine zw 19 false ?_
 refine M4 ?_
 refine M4 ?_
 refine zg ?_
 refine M8 ?_
 obtain ⟨h8,h⟩|⟨h8,h⟩:=zI h
 exact M1 h results76
 refine Mm ?_
 refine Mq ?_
 obtain ⟨o9,h10,h⟩:=zB h
 refine zO (fun (s:Int)=>⟨[(2,.loc 2 1 0 0),(3,.loc 3 1 0 0),(5,.p (.int .i64 s))],[(2,.arr 41 3 1 [.p (qaf a1)]),(3,.arr 41 3 1 [.p (qaf b2)])]⟩) (fun (o:(Unit) ⊕ (Bool))=>match o with | .inl o11=>tE (cX Tryz.f76 X w D hT) (.exit 0) ⟨[],[]⟩ | .inr o12=>tR prog Tryz.f76 (.bool o12)) h10 ?_ ?_
 clear h h4 h6 h7 h8 h10
 intro i13 x h
 simp only [qg5] at h
 refine T8 ?_
 refine M8 ?_
 obtain ⟨h14,h⟩|⟨h14,h⟩:=zI h
 refine Mw ?_
 obtain ⟨x15,h16,h16a,h16b,h⟩:=zX h
 obtain ⟨x17,h18,h18a,h18b,h⟩:=zX h
 refine yU ?_
 obtain ⟨r19,h20,h⟩:=zB h
 refine yc (qr1 x15 x17 _ h20) ?_
 refine Mu ?_
 obtain ⟨h21,h⟩|⟨h21,h⟩:=zI h
 refine Mj ?_
 exact M0 h
 refine Ma ?_
 cases h
 exact ⟨rfl,zT results76⟩
 exact M2 h
 rcases o9 with ⟨⟩ | r22
 try simp only at h
 refine Md ?_
 exact M3 h results76
 exact M7 h
 refine zw 19 true ?_
 refine zh ?_
 refine M8 ?_
 exact M1 h results76
 refine zw 11 true ?_
 refine Mn ?_
 refine M8 ?_
 exact M1 h results76
theorem qwx (a1:Merged) (b2:Merged) (r3:Bool) (h:qkv a1 b2=some r3):Con D prog 36 [(qj3 a1),(qj3 b2)] (.bool r3):=by
 refine zP call36 func36 rfl ntmps36 fun X w hT=>?_
 simp only [qkv] at h
 refine Ms ?_
 refine M6 ?_
 refine zU ?_
 obtain ⟨r4,h5,h⟩:=zB h
 refine zc (qvg a1.Table b2.Table _ h5) ?_
 refine zU ?_
 obtain ⟨h6,h⟩|⟨h6,h⟩:=zI h
 refine zw 10 true ?_
 refine M4 ?_
 refine zg ?_
 obtain ⟨r7,h8,h⟩:=zB h
 refine zc (qld a1.Clusters b2.Clusters _ h8) ?_
 refine zU ?_
 obtain ⟨h9,h⟩|⟨h9,h⟩:=zI h
 refine zw 17 true ?_
 refine M4 ?_
 refine zg ?_
 obtain ⟨r10,h11,h⟩:=zB h
 refine zc (qld a1.Origins b2.Origins _ h11) ?_
 exact M3 h results36
 refine zw 17 false ?_
 refine zh ?_
 exact M3 h results36
 refine zw 10 false ?_
 refine Mn ?_
 exact M3 h results36
theorem qlf (v1:Value) (r2:Bool) (h:qfp v1=some r2):Con D prog 149 [(qaj v1)] (.bool r2):=by
 refine zP call149 func149 rfl ntmps149 fun X w hT=>?_
 simp only [qfp] at h
 refine Mc ?_
 refine Te ?_
 refine M8 ?_
 obtain ⟨h3,h⟩|⟨h3,h⟩:=zI h
 refine Mt ?_
 obtain ⟨h4,h⟩|⟨h4,h⟩:=zI h
 replace h:=h.symm
 refine zw 10 true ?_
 refine M4 ?_
 exact Mg h results149
 refine zw 10 false ?_
 refine zh ?_
 exact Mg h results149
 refine T5 ?_
 refine M8 ?_
 obtain ⟨h5,h⟩|⟨h5,h⟩:=zI h
 refine Ma ?_
 exact T7 h results149
 refine T5 ?_
 refine M8 ?_
 obtain ⟨h6,h⟩|⟨h6,h⟩:=zI h
 refine Mt ?_
 obtain ⟨h7,h⟩|⟨h7,h⟩:=zI h
 replace h:=h.symm
 refine zw 25 true ?_
 refine M4 ?_
 refine zg ?_
 exact Mg h results149
 refine zw 25 false ?_
 refine zh ?_
 exact Mg h results149
 refine Tf ?_
 refine zU ?_
 obtain ⟨h8,h⟩|⟨h8,h⟩:=zI h
 refine zw 34 true ?_
 refine M4 ?_
 refine zU ?_
 obtain ⟨h9,h⟩|⟨h9,h⟩:=zI h
 replace h:=h.symm
 refine zw 39 true ?_
 refine M4 ?_
 exact M3 h results149
 refine zw 39 false ?_
 refine zh ?_
 exact M3 h results149
 refine zw 34 false ?_
 refine Mn ?_
 exact M3 h results149
theorem qvh (c1:Similar) (r2:Bool) (h:qly c1=some r2):Con D prog 150 [(qaq c1)] (.bool r2):=by
 refine zP call150 func150 rfl ntmps150 fun X w hT=>?_
 simp only [qly] at h
 refine Mc ?_
 refine Te ?_
 refine M8 ?_
 obtain ⟨h3,h⟩|⟨h3,h⟩:=zI h
 refine Ma ?_
 exact T7 h results150
 refine zj<|zs<|zs<|zr ?_
 refine M8 ?_
 obtain ⟨h4,h⟩|⟨h4,h⟩:=zI h
 refine zi<|zk<|zn ?_
 refine Mt ?_
 obtain ⟨h5,h⟩|⟨h5,h⟩:=zI h
 replace h:=h.symm
 refine zw 16 true ?_
 refine M4 ?_
 exact Mg h results150
 refine zw 16 false ?_
 refine zh ?_
 exact Mg h results150
 refine zj<|zr ?_
 refine M8 ?_
 obtain ⟨h6,h⟩|⟨h6,h⟩:=zI h
 refine Mt ?_
 obtain ⟨h7,h⟩|⟨h7,h⟩:=zI h
 replace h:=h.symm
 refine zw 16 true ?_
 refine M4 ?_
 exact Mg h results150
 refine zw 16 false ?_
 refine zh ?_
 exact Mg h results150
 refine T5 ?_
 refine M8 ?_
 obtain ⟨h8,h⟩|⟨h8,h⟩:=zI h
 refine Mt ?_
 obtain ⟨h9,h⟩|⟨h9,h⟩:=zI h
 replace h:=h.symm
 refine zw 26 true ?_
 refine M4 ?_
 exact Mg h results150
 refine zw 26 false ?_
 refine zh ?_
 exact Mg h results150
 refine Tf ?_
 exact M3 h results150
theorem qvi (x1:Row) (y2:Row) (c3:Similar) (r4:Int) (h:qd6 x1 y2 c3=some r4):Con D prog 87 [(qao x1),(qao y2),(qaq c3)] (.int .i64 r4):=by
 refine zP call87 func87 rfl ntmps87 fun X w hT=>?_
 simp only [qd6] at h
 refine Mc ?_
 refine zU ?_
 obtain ⟨h5,h⟩|⟨h5,h⟩:=zI h
 refine zw 10 true ?_
 refine Mn ?_
 refine M8 ?_
 exact M1 h results87
 refine zw 10 false ?_
 refine M4 ?_
 refine M4 ?_
 refine zU ?_
 obtain ⟨h6,h⟩|⟨h6,h⟩:=zI h
 refine zw 18 true ?_
 refine zh ?_
 refine M8 ?_
 exact M1 h results87
 refine zw 18 false ?_
 refine M4 ?_
 refine M4 ?_
 refine M8 ?_
 obtain ⟨h7,h⟩|⟨h7,h⟩:=zI h
 exact M1 h results87
 refine Mm ?_
 obtain ⟨x8,h9,h9a,h9b,h⟩:=zX h
 refine zU ?_
 obtain ⟨r10,h11,h⟩:=zB h
 refine zc (qlf x8 _ h11) ?_
 refine zU ?_
 obtain ⟨h12,h⟩|⟨h12,h⟩:=zI h
 refine zw 34 false ?_
 refine M4 ?_
 refine zg ?_
 obtain ⟨x13,h14,h14a,h14b,h⟩:=zX h
 refine Mr ?_
 obtain ⟨r15,h16,h⟩:=zB h
 refine zc (qlf x13 _ h16) ?_
 refine zg ?_
 refine zU ?_
 obtain ⟨h17,h⟩|⟨h17,h⟩:=zI h
 refine zw 44 false ?_
 refine zg ?_
 obtain ⟨r18,h19,h⟩:=zB h
 refine zc (qvh c3 _ h19) ?_
 refine zg ?_
 refine M8 ?_
 obtain ⟨h20,h⟩|⟨h20,h⟩:=zI h
 refine Mf ?_
 exact M3 h results87
 exact M1 h results87
 refine zw 44 true ?_
 refine zh ?_
 refine M8 ?_
 exact M1 h results87
 refine zw 34 true ?_
 refine Mn ?_
 refine M8 ?_
 exact M1 h results87
theorem qsr (a1:List UInt8) (b2:List UInt8) (r3:Int) (h:qen a1 b2=some r3):Con D prog 175 [(.str a1),(.str b2)] (.int .i64 r3):=by
 refine zP call175 func175 rfl ntmps175 fun X w hT=>?_
 simp only [qen] at h
 refine Ms ?_
 refine M6 ?_
 refine M5 ?_
 obtain ⟨d4,h5,h⟩:=zB h
 refine zO (fun (s:List Int×Int)=>⟨[(0,.p (.str a1)),(1,.p (.str b2)),(5,.own 20 1 0 s.1.length),(6,.p (.int .i64 s.2))],[(20,.arr 3 1 1 (v2v AV.p (v2v (v65 .i64) s.1)))]⟩) (fun (o6:List Int)=>tE (cX Tryz.f175 X w D hT) (.exit 0) ⟨[(0,.p (.str a1)),(1,.p (.str b2)),(5,.own 20 1 0 o6.length)],[(20,.arr 3 1 1 (v2v AV.p (v2v (v65 .i64) o6)))]⟩) h5 ?_ ?_
 clear h h5
 intro s x h
 obtain ⟨d7,k8⟩:=s
 simp only [qc2] at h
 refine Mi ?_
 refine M8 ?_
 obtain ⟨h9,h⟩|⟨h9,h⟩:=zI h
 refine Tj ?_
 obtain ⟨h10,h⟩:=qab h
 refine Mh ?_
 exact M0 h
 exact M2 h
 try simp only at h
 refine T9 ?_
 refine Mq ?_
 obtain ⟨d11,h12,h⟩:=zB h
 refine zO (fun (s:List Int×Int)=>⟨[(0,.p (.str a1)),(1,.p (.str b2)),(5,.p (.slc (v2v (v65 .i64) s.1))),(7,.p (.int .i64 s.2))],[]⟩) (fun (o13:List Int)=>tE (cX Tryz.f175 X w D hT) (.exit 2) ⟨[(1,.p (.str b2)),(5,.p (.slc (v2v (v65 .i64) o13)))],[]⟩) h12 ?_ ?_
 clear h h5 h12
 intro s x h
 obtain ⟨d14,i15⟩:=s
 simp only [qed] at h
 refine Mi ?_
 refine M8 ?_
 obtain ⟨h16,h⟩|⟨h16,h⟩:=zI h
 refine M9 ?_
 refine M5 ?_
 obtain ⟨n17,h18,h⟩:=zB h
 refine zO (fun (s:List Int×Int)=>⟨[(0,.p (.str a1)),(1,.p (.str b2)),(5,.p (.slc (v2v (v65 .i64) d14))),(7,.p (.int .i64 i15)),(8,.own 29 1 0 s.1.length),(9,.p (.int .i64 s.2))],[(29,.arr 3 1 1 (v2v AV.p (v2v (v65 .i64) s.1)))]⟩) (fun (o19:List Int)=>tE (cX Tryz.f175 X w D hT) (.exit 4) ⟨[(0,.p (.str a1)),(1,.p (.str b2)),(7,.p (.int .i64 i15)),(8,.own 29 1 0 o19.length)],[(29,.arr 3 1 1 (v2v AV.p (v2v (v65 .i64) o19)))]⟩) h18 ?_ ?_
 clear h h16 h18
 intro s x h
 obtain ⟨n20,k21⟩:=s
 simp only [qc3] at h
 refine Mi ?_
 refine M8 ?_
 obtain ⟨h22,h⟩|⟨h22,h⟩:=zI h
 refine M9 ?_
 obtain ⟨x23,h24,h24a,h24b,h⟩:=zX h
 refine zU<|zl<|zn<|zs<|zs<|zd ?_
 obtain ⟨c25,h26,h26a,h26b,h⟩:=zX h
 obtain ⟨c27,h28,h28a,h28b,h⟩:=zX h
 refine Mu ?_
 obtain ⟨h29,h⟩|⟨h29,h⟩:=zI h
 refine Tc ?_
 refine Th ?_
 obtain ⟨x30,h31,h31a,h31b,h⟩:=zX h
 obtain ⟨x32,h33,h33a,h33b,h⟩:=zX h
 obtain ⟨h34,h⟩:=qab h
 refine My ?_
 exact M0 h
 refine zj<|zk<|zn<|zd ?_
 obtain ⟨x35,h36,h36a,h36b,h⟩:=zX h
 obtain ⟨x37,h38,h38a,h38b,h⟩:=zX h
 obtain ⟨h39,h⟩:=qab h
 refine My ?_
 exact M0 h
 exact M2 h
 try simp only at h
 refine Tn ?_
 refine Mh ?_
 exact M0 h
 exact M2 h
 try simp only at h
 refine Md ?_
 obtain ⟨x40,h41,h41a,h41b,h⟩:=zX h
 have h41N:=vr5 h41
 exact M3 h results175
theorem ql6 (s1:List UInt8) (r2:Bool) (h:qe2 s1=some r2):Con D prog 217 [(.str s1)] (.bool r2):=by
 refine zP call217 func217 rfl ntmps217 fun X w hT=>?_
 simp only [qe2] at h
 refine Ms ?_
 refine M6 ?_
 exact M3 h results217
theorem qoc (s1:List UInt8) (q2:Int) (r3:List (List UInt8)×Int) (h:qd8 s1 q2=some r3):Con D prog 218 [(.str s1),(.int .i64 q2)] (.tup [(.slc (v2v v67 r3.1)),(.int .i64 r3.2)]):=by
 refine zP call218 func218 rfl ntmps218 fun X w hT=>?_
 simp only [qd8] at h
 refine Mc ?_
 refine zU ?_
 obtain ⟨r4,h5,h⟩:=zB h
 refine zc (ql6 s1 _ h5) ?_
 refine Tp ?_
 obtain ⟨h6,h⟩|⟨h6,h⟩:=zI h
 exact M1 h results218
 refine Mm ?_
 refine zU ?_
 obtain ⟨h7,h⟩|⟨h7,h⟩:=zI h
 refine zw 15 true ?_
 refine zh ?_
 refine M8 ?_
 exact M1 h results218
 refine zw 15 false ?_
 refine Mr ?_
 refine M8 ?_
 obtain ⟨h8,h⟩|⟨h8,h⟩:=zI h
 exact M1 h results218
 refine Mf ?_
 refine M5 ?_
 obtain ⟨w9,h10,h⟩:=zB h
 refine zO (fun (s:List UInt8×Int)=>⟨[(0,.p (.str s1)),(1,.p (.int .i64 q2)),(6,.p (.str s.1)),(7,.p (.int .i64 s.2))],[]⟩) (fun (o11:List UInt8)=>tE (cX Tryz.f218 X w D hT) (.exit 0) ⟨[(0,.p (.str s1)),(1,.p (.int .i64 q2)),(6,.p (.str o11))],[]⟩) h10 ?_ ?_
 clear h h5 h6 h7 h8 h10
 intro s x h
 obtain ⟨w12,i13⟩:=s
 simp only [qb9] at h
 refine Mi ?_
 refine M8 ?_
 obtain ⟨h14,h⟩|⟨h14,h⟩:=zI h
 refine Tj ?_
 obtain ⟨h15,h⟩:=qab h
 obtain ⟨h16,h⟩:=qab h
 refine Mh ?_
 exact M0 h
 exact M2 h
 try simp only at h
 refine Md ?_
 refine M5 ?_
 obtain ⟨o17,h18,h⟩:=zB h
 refine zO (fun (s:List (List UInt8)×Int)=>⟨[(0,.p (.str s1)),(1,.p (.int .i64 q2)),(6,.p (.str w9)),(8,.own 53 1 0 s.1.length),(9,.p (.int .i64 s.2))],[(53,.arr 9 1 1 (v2v AV.p (v2v v67 s.1)))]⟩) (fun (o19:List (List UInt8))=>tE (cX Tryz.f218 X w D hT) (.exit 2) ⟨[(8,.own 53 1 0 o19.length)],[(53,.arr 9 1 1 (v2v AV.p (v2v v67 o19)))]⟩) h18 ?_ ?_
 clear h h5 h6 h7 h8 h10 h18
 intro s x h
 obtain ⟨o20,i21⟩:=s
 simp only [qgy] at h
 refine Mi ?_
 refine zU ?_
 obtain ⟨h22,h⟩|⟨h22,h⟩:=zI h
 refine zw 34 true ?_
 refine M4 ?_
 refine M4 ?_
 refine zg ?_
 refine M8 ?_
 obtain ⟨h23,h⟩|⟨h23,h⟩:=zI h
 refine M9 ?_
 obtain ⟨h24,h⟩:=qab h
 obtain ⟨h25,h⟩:=qab h
 obtain ⟨h26,h⟩:=qab h
 obtain ⟨h27,h⟩:=qab h
 refine M6 ?_
 refine Mq ?_
 obtain ⟨o28,h29,h⟩:=zB h
 refine zO (fun (s:List (List UInt8)×Int)=>⟨[(0,.p (.str s1)),(1,.p (.int .i64 q2)),(6,.p (.str w9)),(8,.own 53 1 0 s.1.length),(9,.p (.int .i64 i21)),(10,.p (.int .i64 s.2))],[(53,.arr 9 1 1 (v2v AV.p (v2v v67 s.1)))]⟩) (fun (o30:List (List UInt8))=>tE (cX Tryz.f218 X w D hT) (.exit 4) ⟨[(0,.p (.str s1)),(1,.p (.int .i64 q2)),(6,.p (.str w9)),(8,.own 53 1 0 o30.length),(9,.p (.int .i64 i21))],[(53,.arr 9 1 1 (v2v AV.p (v2v v67 o30)))]⟩) h29 ?_ ?_
 clear h h22 h23 h24 h25 h26 h27 h29
 intro s x h
 obtain ⟨o31,k32⟩:=s
 simp only [qeo] at h
 refine Tm ?_
 obtain ⟨h33,h⟩|⟨h33,h⟩:=zI h
 refine yw 59 true ?_
 refine T2 ?_
 obtain ⟨x34,h35,h35a,h35b,h⟩:=zX h
 refine Mk ?_
 refine T2 ?_
 obtain ⟨x36,h37,h37a,h37b,h⟩:=zX h
 refine Mk ?_
 refine Mu ?_
 obtain ⟨h38,h⟩|⟨h38,h⟩:=zI h
 refine Tr ?_
 obtain ⟨x39,h40,h40a,h40b,h⟩:=zX h
 have h40B:=eq_true (by simpa only [v0m] using h40b)
 refine My ?_
 exact M0 h
 exact M2 h
 refine yw 59 false ?_
 refine yk ?_
 refine Mu ?_
 exact M2 h
 try simp only at h
 refine T1 ?_
 exact M0 h
 exact M2 h
 refine zw 34 false ?_
 refine zh ?_
 refine M8 ?_
 exact M2 h
 try simp only at h
 refine Md ?_
 exact M3 h results218
theorem quc (a1:List (List UInt8)) (b2:List (List UInt8)) (r3:Int) (h:qi0 a1 b2=some r3):Con D prog 219 [(.slc (v2v v67 a1)),(.slc (v2v v67 b2))] (.int .i64 r3):=by
 refine zP call219 func219 rfl ntmps219 fun X w hT=>?_
 simp only [qi0] at h
 refine Ms ?_
 refine M6 ?_
 refine M5 ?_
 obtain ⟨n4,h5,h⟩:=zB h
 refine zO (fun (s:Int×Int×Int)=>⟨[(0,.p (.slc (v2v v67 a1))),(1,.p (.slc (v2v v67 b2))),(5,.p (.int .i64 s.1)),(6,.p (.int .i64 s.2.1)),(7,.p (.int .i64 s.2.2))],[]⟩) (fun (o6:Int)=>tE (cX Tryz.f219 X w D hT) (.exit 0) ⟨[(5,.p (.int .i64 o6))],[]⟩) h5 ?_ ?_
 clear h h5
 intro s x h
 obtain ⟨n7,k8,i9⟩:=s
 simp only [qct] at h
 refine Mi ?_
 refine M8 ?_
 obtain ⟨h10,h⟩|⟨h10,h⟩:=zI h
 refine zi<|zk<|zn<|zs<|zb<|zs<|zb ?_
 obtain ⟨k11,h12,h⟩:=zB h
 refine zO (fun (s:Int)=>⟨[(0,.p (.slc (v2v v67 a1))),(1,.p (.slc (v2v v67 b2))),(5,.p (.int .i64 n7)),(6,.p (.int .i64 s)),(7,.p (.int .i64 i9))],[]⟩) (fun (o13:Int)=>tE (cX Tryz.f219 X w D hT) (.exit 2) ⟨[(0,.p (.slc (v2v v67 a1))),(1,.p (.slc (v2v v67 b2))),(5,.p (.int .i64 n7)),(6,.p (.int .i64 o13)),(7,.p (.int .i64 i9))],[]⟩) h12 ?_ ?_
 clear h h10 h12
 intro k14 x h
 simp only [qdz] at h
 refine zs<|zs<|zd ?_
 refine yU ?_
 obtain ⟨h15,h⟩|⟨h15,h⟩:=zI h
 refine yw 18 true ?_
 refine T2 ?_
 obtain ⟨x16,h17,h17a,h17b,h⟩:=zX h
 refine Mk ?_
 refine yg ?_
 obtain ⟨x18,h19,h19a,h19b,h⟩:=zX h
 refine Mk ?_
 refine Mu ?_
 obtain ⟨h20,h⟩|⟨h20,h⟩:=zI h
 refine zi<|zk<|zn<|zb<|zr ?_
 refine zU<|zl<|yn ?_
 exact Mv h
 exact M2 h
 refine yw 18 false ?_
 refine yk ?_
 refine Mu ?_
 exact M2 h
 try simp only at h
 refine zA<|yh<|zn ?_
 obtain ⟨t21,h22,h⟩:=zB h
 refine zJ (fun (o23:Bool)=>tE (cX Tryz.f219 X w D hT) .normal ⟨[(0,.p (.slc (v2v v67 a1))),(1,.p (.slc (v2v v67 b2))),(5,.p (.int .i64 n7)),(6,.p (.int .i64 k11)),(7,.p (.int .i64 i9)),(45,.p (.bool o23))],[]⟩) t21 ?_ ?_
 replace h:=h22
 clear h22
 refine zd ?_
 refine yU ?_
 obtain ⟨h24,h⟩|⟨h24,h⟩:=zI h
 refine yw 35 true ?_
 refine T2 ?_
 obtain ⟨x25,h26,h26a,h26b,h⟩:=zX h
 refine Mk ?_
 refine yg ?_
 obtain ⟨x27,h28,h28a,h28b,h⟩:=zX h
 replace h:=h.symm
 refine Mk ?_
 refine yU ?_
 refine yd ?_
 exact Mv h
 refine yw 35 false ?_
 refine yk ?_
 refine yU ?_
 refine yd ?_
 exact Mv h
 try simp only at h
 refine zA<|zn ?_
 obtain ⟨h29,h⟩|⟨h29,h⟩:=zI h
 refine Tl ?_
 refine Mx ?_
 refine Mh ?_
 exact M0 h
 refine Mj ?_
 exact M0 h
 exact M2 h
 try simp only at h
 refine Md ?_
 exact M3 h results219
theorem qud (a1:List UInt8) (b2:List UInt8) (q3:Int) (r4:Ratio×Int) (h:qi1 a1 b2 q3=some r4):Con D prog 176 [(.str a1),(.str b2),(.int .i64 q3)] (.tup [(qjl r4.1),(.int .i64 r4.2)]):=by
 refine zP call176 func176 rfl ntmps176 fun X w hT=>?_
 simp only [qi1] at h
 refine Mc ?_
 refine zU ?_
 obtain ⟨r5,h6,h⟩:=zB h
 refine zc (ql6 a1 _ h6) ?_
 refine zU ?_
 obtain ⟨h7,h⟩|⟨h7,h⟩:=zI h
 refine zw 14 true ?_
 refine zh ?_
 refine M8 ?_
 exact M1 h results176
 refine zw 14 false ?_
 refine zg ?_
 obtain ⟨r8,h9,h⟩:=zB h
 refine zc (ql6 b2 _ h9) ?_
 refine M8 ?_
 obtain ⟨h10,h⟩|⟨h10,h⟩:=zI h
 exact M1 h results176
 refine Mf ?_
 refine zU ?_
 obtain ⟨r11,h12,h⟩:=zB h
 refine zc (qoc a1 q3 _ h12) ?_
 refine M6 ?_
 refine zU ?_
 obtain ⟨r13,h14,h⟩:=zB h
 refine zc (qoc b2 q3 _ h14) ?_
 refine Mo ?_
 refine M8 ?_
 obtain ⟨h15,h⟩|⟨h15,h⟩:=zI h
 exact M1 h results176
 refine Mm ?_
 refine M8 ?_
 obtain ⟨h16,h⟩|⟨h16,h⟩:=zI h
 refine Tl ?_
 obtain ⟨r17,h18,h⟩:=zB h
 refine zc (qla 1 1 _ h18) ?_
 refine T3 ?_
 exact T7 h results176
 refine Mf ?_
 refine zU ?_
 obtain ⟨r19,h20,h⟩:=zB h
 refine zc (quc r11.1 r13.1 _ h20) ?_
 refine zU ?_
 obtain ⟨r21,h22,h⟩:=zB h
 refine zc (qla (v4a.wrap (2 * r19)) (v4a.wrap ((r11.1.length:Int)+(r13.1.length:Int))) _ h22) ?_
 exact M3 h results176
theorem qpi (s1:List UInt8) (n2:Int) (r3:List UInt8) (h:qkp s1 n2=some r3):Con D prog 177 [(.str s1),(.int .i64 n2)] (.str r3):=by
 refine zP call177 func177 rfl ntmps177 fun X w hT=>?_
 simp only [qkp] at h
 refine Ms ?_
 refine M6 ?_
 obtain ⟨h4,h⟩:=qab h
 obtain ⟨h5,h⟩:=qab h
 exact M3 h results177
theorem qvj (x1:Row) (y2:Row) (c3:Similar) (r4:Bool×Int) (h:qhk x1 y2 c3=some r4):Con D prog 115 [(qao x1),(qao y2),(qaq c3)] (.tup [(.bool r4.1),(.int .i64 r4.2)]):=by
 refine zP call115 func115 rfl ntmps115 fun X w hT=>?_
 simp only [qhk] at h
 refine Mc ?_
 refine zU ?_
 obtain ⟨r5,h6,h⟩:=zB h
 refine zc (qvi x1 y2 c3 _ h6) ?_
 refine M6 ?_
 refine M8 ?_
 obtain ⟨h7,h⟩|⟨h7,h⟩:=zI h
 exact M1 h results115
 refine zj<|zk<|zn<|zs<|zd ?_
 obtain ⟨x8,h9,h9a,h9b,h⟩:=zX h
 obtain ⟨x10,h11,h11a,h11b,h⟩:=zX h
 refine yU ?_
 refine yd<|zn<|zs ?_
 obtain ⟨t12,h13,h⟩:=zB h
 refine zJ (fun (o14:Bool)=>tE (cX Tryz.f115 X w D hT) .normal ⟨[(5,.loc 5 1 0 0),(9,.loc 9 1 0 0),(10,.loc 10 1 0 0),(44,.p (.bool o14))],[(5,.arr 95 3 1 [.p (qaq c3)]),(9,.arr 142 3 1 [.p (qaj x8)]),(10,.arr 142 3 1 [.p (qaj x10)])]⟩) t12 ?_ ?_
 replace h:=h13
 clear h13
 refine T6 ?_
 obtain ⟨h15,h⟩|⟨h15,h⟩:=zI h
 refine zw 35 true ?_
 refine Mn ?_
 exact M0 h
 refine zw 35 false ?_
 refine M4 ?_
 refine zU ?_
 obtain ⟨h16,h⟩|⟨h16,h⟩:=zI h
 refine zw 40 true ?_
 refine zh ?_
 exact M0 h
 replace h:=h.symm
 refine zw 40 false ?_
 refine M4 ?_
 exact M0 h
 try simp only at h
 refine zA<|zn ?_
 obtain ⟨h17,h⟩|⟨h17,h⟩:=zI h
 refine Mt ?_
 obtain ⟨r18,h19,h⟩:=zB h
 refine zc (qhb x8 x10 _ h19) ?_
 refine T3 ?_
 exact T7 h results115
 refine Mm ?_
 refine Te ?_
 refine M8 ?_
 obtain ⟨h20,h⟩|⟨h20,h⟩:=zI h
 refine zi<|zs<|zd ?_
 refine yU ?_
 obtain ⟨r21,h22,h⟩:=zB h
 refine yc (qsr x8.Str x10.Str _ h22) ?_
 refine To ?_
 exact T7 h results115
 refine T5 ?_
 refine M8 ?_
 obtain ⟨h23,h⟩|⟨h23,h⟩:=zI h
 refine Mt ?_
 obtain ⟨r24,h25,h⟩:=zB h
 refine zc (qud x8.Str x10.Str 2 _ h25) ?_
 refine M6 ?_
 exact Mg h results115
 refine zj<|zk<|yn<|zn<|zs<|zd ?_
 refine yU ?_
 obtain ⟨r26,h27,h⟩:=zB h
 refine yc (qpi x8.Str c3.Limit _ h27) ?_
 refine yU ?_
 obtain ⟨r28,h29,h⟩:=zB h
 refine yc (qpi x10.Str c3.Limit _ h29) ?_
 exact Mp h results115
theorem qvk (x1:Row) (y2:Row) (l3:Linkage) (r4:Int) (h:qju x1 y2 l3=some r4):Con D prog 74 [(qao x1),(qao y2),(qak l3)] (.int .i64 r4):=by
 refine zP call74 func74 rfl ntmps74 fun X w hT=>?_
 simp only [qju] at h
 refine Ms ?_
 refine M5 ?_
 obtain ⟨o5,h6,h⟩:=zB h
 refine zO (fun (s:Int)=>⟨[(3,.loc 3 1 0 0),(4,.loc 4 1 0 0),(5,.loc 5 1 0 0),(7,.p (.int .i64 s))],[(3,.arr 66 2 1 [.p (qao x1)]),(4,.arr 66 2 1 [.p (qao y2)]),(5,.arr 25 3 1 [.p (qak l3)])]⟩) (fun (o:(Unit) ⊕ (Int))=>match o with | .inl o7=>tE (cX Tryz.f74 X w D hT) (.exit 0) ⟨[],[]⟩ | .inr o8=>tR prog Tryz.f74 (.int .i64 o8)) h6 ?_ ?_
 clear h h6
 intro i9 x h
 simp only [qeq] at h
 refine T8 ?_
 refine M8 ?_
 obtain ⟨h10,h⟩|⟨h10,h⟩:=zI h
 refine M9 ?_
 refine M5 ?_
 obtain ⟨a11,h12,h⟩:=zB h
 refine zO (fun (s:Bool×Int)=>⟨[(3,.loc 3 1 0 0),(4,.loc 4 1 0 0),(5,.loc 5 1 0 0),(7,.p (.int .i64 i9)),(8,.p (.bool s.1)),(9,.p (.int .i64 s.2))],[(3,.arr 66 2 1 [.p (qao x1)]),(4,.arr 66 2 1 [.p (qao y2)]),(5,.arr 25 3 1 [.p (qak l3)])]⟩) (fun (o13:Bool)=>tE (cX Tryz.f74 X w D hT) (.exit 2) ⟨[(3,.loc 3 1 0 0),(4,.loc 4 1 0 0),(5,.loc 5 1 0 0),(7,.p (.int .i64 i9)),(8,.p (.bool o13))],[(3,.arr 66 2 1 [.p (qao x1)]),(4,.arr 66 2 1 [.p (qao y2)]),(5,.arr 25 3 1 [.p (qak l3)])]⟩) h12 ?_ ?_
 clear h h10 h12
 intro s x h
 obtain ⟨a14,k15⟩:=s
 simp only [qep] at h
 refine Mi ?_
 obtain ⟨x16,h17,h17a,h17b,h⟩:=zX h
 refine M8 ?_
 obtain ⟨h18,h⟩|⟨h18,h⟩:=zI h
 refine Mw ?_
 obtain ⟨x19,h20,h20a,h20b,h⟩:=zX h
 refine yU ?_
 obtain ⟨r21,h22,h⟩:=zB h
 refine yc (qvj x1 y2 x19 _ h22) ?_
 refine yU ?_
 refine yd<|zn<|zr ?_
 refine zU ?_
 obtain ⟨h23,h⟩|⟨h23,h⟩:=zI h
 replace h:=h.symm
 refine zw 44 true ?_
 refine zg ?_
 refine Mh ?_
 exact M0 h
 refine zw 44 false ?_
 refine zh ?_
 refine Mh ?_
 exact M0 h
 exact M2 h
 try simp only at h
 refine Md ?_
 refine M8 ?_
 obtain ⟨h24,h⟩|⟨h24,h⟩:=zI h
 refine Ma ?_
 cases h
 exact ⟨rfl,zT results74⟩
 refine Mj ?_
 exact M0 h
 exact M2 h
 rcases o5 with ⟨⟩ | r25
 try simp only at h
 refine Md ?_
 exact M3 h results74
 exact M7 h
theorem qym (s1:Int) (i2:Int) (r3:Bool) (h:qlq s1 i2=some r3):Con D prog 240 [(.int .u32 s1),(.int .i64 i2)] (.bool r3):=by
 refine zP call240 func240 rfl ntmps240 fun X w hT=>?_
 simp only [qlq] at h
 refine Ms ?_
 refine M6 ?_
 refine zU ?_
 obtain ⟨h4,h⟩|⟨h4,h⟩:=zI h
 refine zw 7 true ?_
 refine Mr ?_
 refine zU ?_
 obtain ⟨h5,h⟩|⟨h5,h⟩:=zI h
 refine zw 11 true ?_
 refine Mr ?_
 obtain ⟨h6,h⟩:=qpy h
 replace h:=h.symm
 refine M4 ?_
 exact M3 h results240
 refine zw 11 false ?_
 refine zh ?_
 exact M3 h results240
 refine zw 7 false ?_
 refine Mn ?_
 exact M3 h results240
theorem qnv (r1:Row) (s2:Int) (r3:List Value) (h:qgc r1 s2=some r3):Con D prog 209 [(qao r1),(.int .u32 s2)] (.slc (v2v qaj r3)):=by
 refine zP call209 func209 rfl ntmps209 fun X w hT=>?_
 simp only [qgc] at h
 refine Ms ?_
 refine M6 ?_
 refine M5 ?_
 obtain ⟨o4,h5,h⟩:=zB h
 refine zO (fun (s:List Value×Int)=>⟨[(1,.p (.int .u32 s2)),(2,.loc 2 1 0 0),(5,.own 24 1 0 s.1.length),(6,.p (.int .i64 s.2))],[(2,.arr 66 2 1 [.p (qao r1)]),(24,.arr 142 3 1 (v2v AV.p (v2v qaj s.1)))]⟩) (fun (o6:List Value)=>tE (cX Tryz.f209 X w D hT) (.exit 0) ⟨[(5,.own 24 1 0 o6.length)],[(24,.arr 142 3 1 (v2v AV.p (v2v qaj o6)))]⟩) h5 ?_ ?_
 clear h h5
 intro s x h
 obtain ⟨o7,i8⟩:=s
 simp only [qfy] at h
 refine Mi ?_
 refine M8 ?_
 obtain ⟨h9,h⟩|⟨h9,h⟩:=zI h
 refine M9 ?_
 refine zU ?_
 obtain ⟨r10,h11,h⟩:=zB h
 refine zc (qym s2 i8 _ h11) ?_
 refine Tp ?_
 obtain ⟨h12,h⟩|⟨h12,h⟩:=zI h
 refine Tc ?_
 obtain ⟨x13,h14,h14a,h14b,h⟩:=zX h
 obtain ⟨h15,h⟩:=qab h
 refine Mh ?_
 exact M0 h
 refine Mj ?_
 exact M0 h
 exact M2 h
 try simp only at h
 refine Md ?_
 exact M3 h results209
theorem qvl (a1:Row) (b2:Row) (s3:Int) (r4:Bool) (h:qfr a1 b2 s3=some r4):Con D prog 156 [(qao a1),(qao b2),(.int .u32 s3)] (.bool r4):=by
 refine zP call156 func156 rfl ntmps156 fun X w hT=>?_
 simp only [qfr] at h
 refine Ms ?_
 refine Mz ?_
 refine yU ?_
 obtain ⟨r5,h6,h⟩:=zB h
 refine yc (qnv a1 s3 _ h6) ?_
 refine yU ?_
 obtain ⟨r7,h8,h⟩:=zB h
 refine yc (qnv b2 s3 _ h8) ?_
 obtain ⟨r9,h10,h⟩:=zB h
 refine yc (qph r5 r7 _ h10) ?_
 exact Mp h results156
theorem qss (x1:Row) (y2:Row) (l3:Linkage) (r4:Bool) (h:qer x1 y2 l3=some r4):Con D prog 91 [(qao x1),(qao y2),(qak l3)] (.bool r4):=by
 refine zP call91 func91 rfl ntmps91 fun X w hT=>?_
 simp only [qer] at h
 refine Mc ?_
 refine M8 ?_
 obtain ⟨h5,h⟩|⟨h5,h⟩:=zI h
 exact M1 h results91
 refine Mm ?_
 refine Mq ?_
 obtain ⟨o6,h7,h⟩:=zB h
 refine zO (fun (s:Int)=>⟨[(3,.loc 3 1 0 0),(4,.loc 4 1 0 0),(5,.loc 5 1 0 0),(7,.p (.int .i64 s))],[(3,.arr 66 2 1 [.p (qao x1)]),(4,.arr 66 2 1 [.p (qao y2)]),(5,.arr 25 3 1 [.p (qak l3)])]⟩) (fun (o:(Unit) ⊕ (Bool))=>match o with | .inl o8=>tE (cX Tryz.f91 X w D hT) (.exit 0) ⟨[],[]⟩ | .inr o9=>tR prog Tryz.f91 (.bool o9)) h7 ?_ ?_
 clear h h5 h7
 intro i10 x h
 simp only [qc4] at h
 refine T8 ?_
 refine M8 ?_
 obtain ⟨h11,h⟩|⟨h11,h⟩:=zI h
 refine Mw ?_
 obtain ⟨x12,h13,h13a,h13b,h⟩:=zX h
 obtain ⟨h14,h⟩:=qpy h
 refine yU ?_
 obtain ⟨r15,h16,h⟩:=zB h
 refine yc (qvl x1 y2 (IntKind.u32.wrap (1 * 2 ^ (min (x12).toNat 32))) _ h16) ?_
 refine yd<|zn ?_
 obtain ⟨h17,h⟩|⟨h17,h⟩:=zI h
 refine Ma ?_
 cases h
 exact ⟨rfl,zT results91⟩
 refine Mj ?_
 exact M0 h
 exact M2 h
 rcases o6 with ⟨⟩ | r18
 try simp only at h
 refine Md ?_
 exact M3 h results91
 exact M7 h
theorem qod (x1:Row) (y2:Row) (l3:Linkage) (r4:Bool) (h:qfs x1 y2 l3=some r4):Con D prog 53 [(qao x1),(qao y2),(qak l3)] (.bool r4):=by
 refine zP call53 func53 rfl ntmps53 fun X w hT=>?_
 simp only [qfs] at h
 refine Ms ?_
 refine M6 ?_
 refine zU ?_
 obtain ⟨h5,h⟩|⟨h5,h⟩:=zI h
 refine zw 12 true ?_
 refine M4 ?_
 obtain ⟨r6,h7,h⟩:=zB h
 refine zc (qss x1 y2 l3 _ h7) ?_
 refine zU ?_
 obtain ⟨h8,h⟩|⟨h8,h⟩:=zI h
 refine zw 18 true ?_
 refine M4 ?_
 obtain ⟨r9,h10,h⟩:=zB h
 replace h:=h.symm
 refine zc (qvk x1 y2 l3 _ h10) ?_
 refine zg ?_
 exact M3 h results53
 refine zw 18 false ?_
 refine zh ?_
 exact M3 h results53
 refine zw 12 false ?_
 refine Mn ?_
 exact M3 h results53
theorem qfn (l1:List Int) (i2:Int) (r3:Bool) (h:qdl l1 i2=some r3):Con D prog 25 [(.slc (v2v (v65 .i64) l1)),(.int .i64 i2)] (.bool r3):=by
 refine zP call25 func25 rfl ntmps25 fun X w hT=>?_
 simp only [qdl] at h
 refine Ms ?_
 refine M5 ?_
 obtain ⟨o4,h5,h⟩:=zB h
 refine zO (fun (s:Int)=>⟨[(0,.p (.slc (v2v (v65 .i64) l1))),(1,.p (.int .i64 i2)),(5,.p (.int .i64 s))],[]⟩) (fun (o:(Unit) ⊕ (Bool))=>match o with | .inl o6=>tE (cX Tryz.f25 X w D hT) (.exit 0) ⟨[],[]⟩ | .inr o7=>tR prog Tryz.f25 (.bool o7)) h5 ?_ ?_
 clear h h5
 intro i8 x h
 simp only [qgd] at h
 refine T8 ?_
 refine M8 ?_
 obtain ⟨h9,h⟩|⟨h9,h⟩:=zI h
 refine M9 ?_
 obtain ⟨x10,h11,h11a,h11b,h⟩:=zX h
 refine M8 ?_
 obtain ⟨h12,h⟩|⟨h12,h⟩:=zI h
 refine Ma ?_
 cases h
 exact ⟨rfl,zT results25⟩
 refine Mj ?_
 exact M0 h
 exact M2 h
 rcases o4 with ⟨⟩ | r13
 try simp only at h
 refine Md ?_
 exact M3 h results25
 exact M7 h
theorem qzj (r1:Row) (r2:Row) (h:qmr r1=some r2):Con D prog 172 [(qao r1)] (qao r2):=by
 refine zP call172 func172 rfl ntmps172 fun X w hT=>?_
 simp only [qmr] at h
 refine Ms ?_
 refine Mz ?_
 obtain ⟨h3,h⟩:=qab h
 exact Mp h results172
theorem qwy (t1:Table) (r2:List Row) (r3:Table) (h:qks t1 r2=some r3):Con D prog 105 [(qaf t1),(.slc (v2v qao r2))] (qaf r3):=by
 refine zP call105 func105 rfl ntmps105 fun X w hT=>?_
 simp only [qks] at h
 refine Ms ?_
 refine Mz ?_
 obtain ⟨h4,h⟩:=qab h
 refine Ta ?_
 refine Mq ?_
 obtain ⟨o5,h6,h⟩:=zB h
 refine zO (fun (s:List Row×Int)=>⟨[(1,.p (.slc (v2v qao r2))),(4,.loc 4 1 0 0),(5,.loc 5 1 0 0),(6,.p (.int .i64 s.2))],[(4,.arr 41 3 1 [.agg [.p (.str []),.nils,.nils]]),(5,.arr 41 3 1 [.agg [.p (.str t1.Name),.own 9 1 0 (t1.Attrs).length,.own 28 1 0 s.1.length]]),(9,.arr 9 1 1 (v2v AV.p (v2v v67 t1.Attrs))),(28,.arr 66 2 1 (v2v AV.p (v2v qao s.1)))]⟩) (fun (o7:List Row)=>tE (cX Tryz.f105 X w D hT) (.exit 0) ⟨[(4,.loc 4 1 0 0),(5,.loc 5 1 0 0)],[(4,.arr 41 3 1 [.agg [.p (.str []),.nils,.nils]]),(5,.arr 41 3 1 [.agg [.p (.str t1.Name),.own 9 1 0 (t1.Attrs).length,.own 28 1 0 o7.length]]),(9,.arr 9 1 1 (v2v AV.p (v2v v67 t1.Attrs))),(28,.arr 66 2 1 (v2v AV.p (v2v qao o7)))]⟩) h6 ?_ ?_
 clear h h4 h6
 intro s x h
 obtain ⟨o8,i9⟩:=s
 simp only [qkf] at h
 refine Mi ?_
 refine M8 ?_
 obtain ⟨h10,h⟩|⟨h10,h⟩:=zI h
 refine Tr ?_
 obtain ⟨x11,h12,h12a,h12b,h⟩:=zX h
 refine yU ?_
 obtain ⟨r13,h14,h⟩:=zB h
 refine yc (qzj x11 _ h14) ?_
 obtain ⟨h15,h⟩:=qab h
 refine My ?_
 exact M0 h
 exact M2 h
 try simp only at h
 refine Md ?_
 exact M3 h results105
theorem qpj (t1:Table) (i2:List Int) (r3:Table) (h:qi3 t1 i2=some r3):Con D prog 64 [(qaf t1),(.slc (v2v (v65 .i64) i2))] (qaf r3):=by
 refine zP call64 func64 rfl ntmps64 fun X w hT=>?_
 simp only [qi3] at h
 refine Ms ?_
 refine M6 ?_
 refine M5 ?_
 obtain ⟨r4,h5,h⟩:=zB h
 refine zO (fun (s:List Row×Int)=>⟨[(1,.p (.slc (v2v (v65 .i64) i2))),(2,.loc 2 1 0 0),(4,.loc 4 1 0 0),(5,.own 29 1 0 s.1.length),(6,.p (.int .i64 s.2))],[(2,.arr 41 3 1 [.p (qaf t1)]),(4,.arr 41 3 1 [.agg [.p (.str []),.nils,.nils]]),(29,.arr 66 2 1 (v2v AV.p (v2v qao s.1)))]⟩) (fun (o6:List Row)=>tE (cX Tryz.f64 X w D hT) (.exit 0) ⟨[(2,.loc 2 1 0 0),(4,.loc 4 1 0 0),(5,.own 29 1 0 o6.length)],[(2,.arr 41 3 1 [.p (qaf t1)]),(4,.arr 41 3 1 [.agg [.p (.str []),.nils,.nils]]),(29,.arr 66 2 1 (v2v AV.p (v2v qao o6)))]⟩) h5 ?_ ?_
 clear h h5
 intro s x h
 obtain ⟨r7,i8⟩:=s
 simp only [qkg] at h
 refine Mi ?_
 refine M8 ?_
 obtain ⟨h9,h⟩|⟨h9,h⟩:=zI h
 refine M9 ?_
 obtain ⟨x10,h11,h11a,h11b,h⟩:=zX h
 refine zU ?_
 obtain ⟨r12,h13,h⟩:=zB h
 refine zc (qfn i2 x10.ID _ h13) ?_
 refine Tp ?_
 obtain ⟨h14,h⟩|⟨h14,h⟩:=zI h
 refine Tc ?_
 obtain ⟨h15,h⟩:=qab h
 refine Mh ?_
 exact M0 h
 refine Mj ?_
 exact M0 h
 exact M2 h
 try simp only at h
 refine Md ?_
 refine zU ?_
 refine zM ⟨[(4,.loc 4 1 0 0),(30,.p (qaf t1)),(31,.p (.slc (v2v qao r4)))],[(4,.arr 41 3 1 [.agg [.p (.str []),.nils,.nils]])]⟩ ?_
 obtain ⟨r16,h17,h⟩:=zB h
 refine zc (qwy t1 r4 _ h17) ?_
 exact M3 h results64
theorem qvm (t1:Table) (l2:Linkage) (i3:List Int) (r4:List Pair) (h:qjw t1 l2 i3=some r4):Con D prog 26 [(qaf t1),(qak l2),(.slc (v2v (v65 .i64) i3))] (.slc (v2v qa8 r4)):=by
 refine zP call26 func26 rfl ntmps26 fun X w hT=>?_
 simp only [qjw] at h
 refine Ms ?_
 refine M6 ?_
 refine zU ?_
 obtain ⟨r5,h6,h⟩:=zB h
 refine zc (qpj t1 i3 _ h6) ?_
 refine M6 ?_
 refine M5 ?_
 obtain ⟨o7,h8,h⟩:=zB h
 refine zO (fun (s:List Pair×Int)=>⟨[(4,.loc 4 1 0 0),(7,.p (.slc (v2v qao r5.Rows))),(8,.own 46 1 0 s.1.length),(9,.p (.int .i64 s.2))],[(4,.arr 25 3 1 [.p (qak l2)]),(46,.arr 126 3 1 (v2v AV.p (v2v qa8 s.1)))]⟩) (fun (o9:List Pair)=>tE (cX Tryz.f26 X w D hT) (.exit 0) ⟨[(8,.own 46 1 0 o9.length)],[(46,.arr 126 3 1 (v2v AV.p (v2v qa8 o9)))]⟩) h8 ?_ ?_
 clear h h6 h8
 intro s x h
 obtain ⟨o10,i11⟩:=s
 simp only [qet] at h
 refine Mi ?_
 refine M8 ?_
 obtain ⟨h12,h⟩|⟨h12,h⟩:=zI h
 refine M9 ?_
 refine Mq ?_
 obtain ⟨o13,h14,h⟩:=zB h
 refine zO (fun (s:List Pair×Int)=>⟨[(4,.loc 4 1 0 0),(7,.p (.slc (v2v qao r5.Rows))),(8,.own 46 1 0 s.1.length),(9,.p (.int .i64 i11)),(10,.p (.int .i64 s.2))],[(4,.arr 25 3 1 [.p (qak l2)]),(46,.arr 126 3 1 (v2v AV.p (v2v qa8 s.1)))]⟩) (fun (o15:List Pair)=>tE (cX Tryz.f26 X w D hT) (.exit 2) ⟨[(4,.loc 4 1 0 0),(7,.p (.slc (v2v qao r5.Rows))),(8,.own 46 1 0 o15.length),(9,.p (.int .i64 i11))],[(4,.arr 25 3 1 [.p (qak l2)]),(46,.arr 126 3 1 (v2v AV.p (v2v qa8 o15)))]⟩) h14 ?_ ?_
 clear h h12 h14
 intro s x h
 obtain ⟨o16,k17⟩:=s
 simp only [qes] at h
 refine Mi ?_
 refine M8 ?_
 obtain ⟨h18,h⟩|⟨h18,h⟩:=zI h
 refine M9 ?_
 refine zU<|zl<|zn<|zs<|zs<|zd ?_
 obtain ⟨x19,h20,h20a,h20b,h⟩:=zX h
 obtain ⟨x21,h22,h22a,h22b,h⟩:=zX h
 refine yU ?_
 obtain ⟨r23,h24,h⟩:=zB h
 refine yc (qod x19 x21 l2 _ h24) ?_
 refine yd<|zn ?_
 obtain ⟨h25,h⟩|⟨h25,h⟩:=zI h
 refine Tc ?_
 refine Mx ?_
 obtain ⟨h26,h⟩:=qab h
 refine Mh ?_
 exact M0 h
 refine Td ?_
 obtain ⟨h27,h⟩:=qab h
 refine Mh ?_
 exact M0 h
 exact M2 h
 try simp only at h
 refine T1 ?_
 exact M0 h
 exact M2 h
 try simp only at h
 refine Md ?_
 exact M3 h results26
theorem qoe (n1:Int) (l2:List Pair) (r3:Int) (h:qhn n1 l2=some r3):Con D prog 65 [(.int .i64 n1),(.slc (v2v qa8 l2))] (.int .i64 r3):=by
 refine zP call65 func65 rfl ntmps65 fun X w hT=>?_
 simp only [qhn] at h
 refine Mc ?_
 refine zU ?_
 obtain ⟨h4,h⟩|⟨h4,h⟩:=zI h
 refine zw 10 true ?_
 refine zh ?_
 refine M8 ?_
 exact M1 h results65
 refine zw 10 false ?_
 refine Mr ?_
 refine M8 ?_
 obtain ⟨h5,h⟩|⟨h5,h⟩:=zI h
 exact M1 h results65
 refine Mm ?_
 refine M8 ?_
 obtain ⟨h6,h⟩|⟨h6,h⟩:=zI h
 exact M1 h results65
 refine Mm ?_
 refine Mq ?_
 obtain ⟨o7,h8,h⟩:=zB h
 refine zO (fun (s:Int)=>⟨[(0,.p (.int .i64 n1)),(1,.p (.slc (v2v qa8 l2))),(5,.p (.int .i64 s))],[]⟩) (fun (o:(Unit) ⊕ (Int))=>match o with | .inl o9=>tE (cX Tryz.f65 X w D hT) (.exit 0) ⟨[],[]⟩ | .inr o10=>tR prog Tryz.f65 (.int .i64 o10)) h8 ?_ ?_
 clear h h4 h5 h6 h8
 intro i11 x h
 simp only [qgz] at h
 refine T8 ?_
 refine M8 ?_
 obtain ⟨h12,h⟩|⟨h12,h⟩:=zI h
 refine M9 ?_
 obtain ⟨x13,h14,h14a,h14b,h⟩:=zX h
 refine Mo ?_
 refine zU ?_
 obtain ⟨h15,h⟩|⟨h15,h⟩:=zI h
 refine zw 30 true ?_
 refine Mn ?_
 refine zU ?_
 refine Mn ?_
 refine M8 ?_
 refine Me ?_
 cases h
 exact ⟨rfl,zT results65⟩
 refine zw 30 false ?_
 refine M4 ?_
 refine Mr ?_
 refine zU ?_
 obtain ⟨h16,h⟩|⟨h16,h⟩:=zI h
 refine zw 37 true ?_
 refine Mn ?_
 refine Tg ?_
 refine M8 ?_
 refine Me ?_
 cases h
 exact ⟨rfl,zT results65⟩
 refine zw 37 false ?_
 refine M4 ?_
 refine zg ?_
 refine zU ?_
 obtain ⟨h17,h⟩|⟨h17,h⟩:=zI h
 refine zw 43 true ?_
 refine Mn ?_
 refine M8 ?_
 refine Me ?_
 cases h
 exact ⟨rfl,zT results65⟩
 refine zw 43 false ?_
 refine M4 ?_
 refine zU ?_
 obtain ⟨h18,h⟩|⟨h18,h⟩:=zI h
 refine zw 48 true ?_
 refine zh ?_
 refine M8 ?_
 refine Me ?_
 cases h
 exact ⟨rfl,zT results65⟩
 refine zw 48 false ?_
 refine M4 ?_
 refine M8 ?_
 obtain ⟨h19,h⟩|⟨h19,h⟩:=zI h
 refine Me ?_
 cases h
 exact ⟨rfl,zT results65⟩
 refine Mf ?_
 refine Mq ?_
 obtain ⟨o20,h21,h⟩:=zB h
 refine zO (fun (s:Int)=>⟨[(0,.p (.int .i64 n1)),(1,.p (.slc (v2v qa8 l2))),(5,.p (.int .i64 i11)),(6,.loc 6 1 0 0),(7,.p (.int .i64 s))],[(6,.arr 126 3 1 [.p (qa8 x13)])]⟩) (fun (o:(Unit) ⊕ (Int))=>match o with | .inl o22=>tE (cX Tryz.f65 X w D hT) (.exit 2) ⟨[(0,.p (.int .i64 n1)),(1,.p (.slc (v2v qa8 l2))),(5,.p (.int .i64 i11))],[]⟩ | .inr o23=>tR prog Tryz.f65 (.int .i64 o23)) h21 ?_ ?_
 clear h h12 h14 h14a h14b h15 h16 h17 h18 h19 h21
 intro k24 x h
 simp only [qc9] at h
 refine T8 ?_
 refine M8 ?_
 obtain ⟨h25,h⟩|⟨h25,h⟩:=zI h
 refine Mw ?_
 obtain ⟨x26,h27,h27a,h27b,h⟩:=zX h
 refine yU ?_
 obtain ⟨h28,h⟩|⟨h28,h⟩:=zI h
 refine yw 66 true ?_
 refine Mk ?_
 refine Mk ?_
 refine T2 ?_
 refine Mu ?_
 obtain ⟨h29,h⟩|⟨h29,h⟩:=zI h
 refine Ma ?_
 cases h
 exact ⟨rfl,zT results65⟩
 refine Mj ?_
 exact M0 h
 refine yw 66 false ?_
 refine yk ?_
 refine Mu ?_
 refine Mj ?_
 exact M0 h
 exact M2 h
 rcases o20 with ⟨⟩ | r30
 try simp only at h
 refine T1 ?_
 exact M0 h
 try simp only at h
 refine zZ fun s hq=>?_
 refine yr<|yr<|zt ?_
 cases h
 refine ⟨rfl,?_⟩
 exact hq
 exact M2 h
 rcases o7 with ⟨⟩ | r31
 try simp only at h
 refine Md ?_
 exact M3 h results65
 exact M7 h
theorem ql7 (l1:List Pair) (l2:List Int) (r3:Int) (h:qg0 l1 l2=some r3):Con D prog 66 [(.slc (v2v qa8 l1)),(.slc (v2v (v65 .i64) l2))] (.int .i64 r3):=by
 refine zP call66 func66 rfl ntmps66 fun X w hT=>?_
 simp only [qg0] at h
 refine Ms ?_
 refine M6 ?_
 refine M5 ?_
 obtain ⟨s4,h5,h⟩:=zB h
 refine zO (fun (s:Int×Int)=>⟨[(0,.p (.slc (v2v qa8 l1))),(1,.p (.slc (v2v (v65 .i64) l2))),(5,.p (.int .i64 s.1)),(6,.p (.int .i64 s.2))],[]⟩) (fun (o6:Int)=>tE (cX Tryz.f66 X w D hT) (.exit 0) ⟨[(5,.p (.int .i64 o6))],[]⟩) h5 ?_ ?_
 clear h h5
 intro s x h
 obtain ⟨s7,i8⟩:=s
 simp only [qfd] at h
 refine Mi ?_
 refine M8 ?_
 obtain ⟨h9,h⟩|⟨h9,h⟩:=zI h
 refine Mw ?_
 obtain ⟨x10,h11,h11a,h11b,h⟩:=zX h
 obtain ⟨x12,h13,h13a,h13b,h⟩:=zX h
 obtain ⟨x14,h15,h15a,h15b,h⟩:=zX h
 refine yU ?_
 refine yd<|zn<|zs ?_
 obtain ⟨t16,h17,h⟩:=zB h
 refine zJ (fun (o18:Bool)=>tE (cX Tryz.f66 X w D hT) .normal ⟨[(0,.p (.slc (v2v qa8 l1))),(1,.p (.slc (v2v (v65 .i64) l2))),(5,.p (.int .i64 s7)),(6,.p (.int .i64 i8)),(7,.p (.bool (x12 == x14))),(40,.p (.bool o18))],[]⟩) t16 ?_ ?_
 replace h:=h17
 clear h17
 refine T6 ?_
 obtain ⟨h19,h⟩|⟨h19,h⟩:=zI h
 replace h:=h.symm
 refine zw 37 true ?_
 refine Mr ?_
 exact M0 h
 refine zw 37 false ?_
 refine zh ?_
 exact M0 h
 try simp only at h
 refine zA<|zn ?_
 obtain ⟨h20,h⟩|⟨h20,h⟩:=zI h
 refine Tc ?_
 refine M8 ?_
 obtain ⟨t21,h22,h⟩:=zB h
 refine zJ (fun (o23:Bool)=>tE (cX Tryz.f66 X w D hT) .normal ⟨[(0,.p (.slc (v2v qa8 l1))),(1,.p (.slc (v2v (v65 .i64) l2))),(5,.p (.int .i64 (v4a.wrap (s7+x10.Weight)))),(6,.p (.int .i64 i8)),(56,.p (.bool o23))],[]⟩) t21 ?_ ?_
 replace h:=h22
 clear h22
 refine T6 ?_
 obtain ⟨h24,h⟩|⟨h24,h⟩:=zI h
 replace h:=h.symm
 refine zw 54 true ?_
 refine zg ?_
 exact M0 h
 refine zw 54 false ?_
 refine zh ?_
 exact M0 h
 try simp only at h
 refine zA<|zn ?_
 obtain ⟨h25,h⟩|⟨h25,h⟩:=zI h
 refine Tc ?_
 refine Mh ?_
 exact M0 h
 refine Mj ?_
 exact M0 h
 refine zj<|zk<|zn ?_
 obtain ⟨t26,h27,h⟩:=zB h
 refine zJ (fun (o28:Bool)=>tE (cX Tryz.f66 X w D hT) .normal ⟨[(0,.p (.slc (v2v qa8 l1))),(1,.p (.slc (v2v (v65 .i64) l2))),(5,.p (.int .i64 s7)),(6,.p (.int .i64 i8)),(56,.p (.bool o28))],[]⟩) t26 ?_ ?_
 replace h:=h27
 clear h27
 refine T6 ?_
 obtain ⟨h29,h⟩|⟨h29,h⟩:=zI h
 replace h:=h.symm
 refine zw 54 true ?_
 refine zg ?_
 exact M0 h
 refine zw 54 false ?_
 refine zh ?_
 exact M0 h
 try simp only at h
 refine zA<|zn ?_
 obtain ⟨h30,h⟩|⟨h30,h⟩:=zI h
 refine Tc ?_
 refine Mh ?_
 exact M0 h
 refine Mj ?_
 exact M0 h
 exact M2 h
 try simp only at h
 refine Md ?_
 exact M3 h results66
theorem qyn (n1:Int) (r2:List (List Int)) (h:qlr n1=some r2):Con D prog 67 [(.int .i64 n1)] (.slc (v2v (qap (v65 .i64)) r2)):=by
 refine zP call67 func67 rfl ntmps67 fun X w hT=>?_
 simp only [qlr] at h
 refine Ms ?_
 refine M6 ?_
 refine M5 ?_
 refine zL ⟨[(0,.p (.int .i64 n1)),(3,.own 10 1 0 1),(4,.p (.int .i64 0))],[(10,.arr 23 1 1 [.nils])]⟩ ?_
 obtain ⟨l3,h4,h⟩:=zB h
 replace h4:=v3q h4
 refine qq6 (st':=⟨[(0,.p (.int .i64 n1)),(3,.own 10 1 0 l3.length),(4,.p (.int .i64 0))],[(10,.arr 23 1 1 (v2v AV.p (v2v (qap (v65 .i64)) l3)))]⟩) (by simp only [go_sem,seval,←h4];all_goals ((repeat' refine v62 ?_ ?_) <;> first | rfl | (simp;done) | (simp;rfl) | (simp [*];done) | (simp [*];rfl))) ?_
 have h4n:l3.length=1:=by rw [←h4];rfl
 clear h4
 obtain ⟨o5,h6,h⟩:=zB h
 refine zO (fun (s:List (List Int)×Int)=>⟨[(0,.p (.int .i64 n1)),(3,.p (.slc (v2v (qap (v65 .i64)) s.1))),(4,.p (.int .i64 s.2))],[]⟩) (fun (o7:List (List Int))=>tE (cX Tryz.f67 X w D hT) (.exit 0) ⟨[(3,.p (.slc (v2v (qap (v65 .i64)) o7)))],[]⟩) h6 ?_ ?_
 clear h h4n h6
 intro s x h
 obtain ⟨o8,i9⟩:=s
 simp only [qfh] at h
 refine Mi ?_
 refine M8 ?_
 obtain ⟨h10,h⟩|⟨h10,h⟩:=zI h
 refine M9 ?_
 refine M5 ?_
 obtain ⟨m11,h12,h⟩:=zB h
 refine zO (fun (s:List (List Int)×Int)=>⟨[(0,.p (.int .i64 n1)),(3,.p (.slc (v2v (qap (v65 .i64)) o8))),(4,.p (.int .i64 i9)),(5,.own 57 1 0 s.1.length),(6,.p (.int .i64 s.2))],[(57,.arr 23 1 1 (v2v AV.p (v2v (qap (v65 .i64)) s.1)))]⟩) (fun (o13:List (List Int))=>tE (cX Tryz.f67 X w D hT) (.exit 2) ⟨[(0,.p (.int .i64 n1)),(4,.p (.int .i64 i9)),(5,.own 57 1 0 o13.length)],[(57,.arr 23 1 1 (v2v AV.p (v2v (qap (v65 .i64)) o13)))]⟩) h12 ?_ ?_
 clear h h10 h12
 intro s x h
 obtain ⟨m14,k15⟩:=s
 simp only [qfg] at h
 refine Mi ?_
 refine M8 ?_
 obtain ⟨h16,h⟩|⟨h16,h⟩:=zI h
 refine M9 ?_
 refine M5 ?_
 obtain ⟨m17,h18,h⟩:=zB h
 refine zO (fun (s:Int×Int)=>⟨[(0,.p (.int .i64 n1)),(3,.p (.slc (v2v (qap (v65 .i64)) o8))),(4,.p (.int .i64 i9)),(5,.own 57 1 0 m14.length),(6,.p (.int .i64 k15)),(7,.p (.int .i64 s.1)),(8,.p (.int .i64 s.2))],[(57,.arr 23 1 1 (v2v AV.p (v2v (qap (v65 .i64)) m14)))]⟩) (fun (o19:Int)=>tE (cX Tryz.f67 X w D hT) (.exit 4) ⟨[(0,.p (.int .i64 n1)),(3,.p (.slc (v2v (qap (v65 .i64)) o8))),(4,.p (.int .i64 i9)),(5,.own 57 1 0 m14.length),(6,.p (.int .i64 k15)),(7,.p (.int .i64 o19))],[(57,.arr 23 1 1 (v2v AV.p (v2v (qap (v65 .i64)) m14)))]⟩) h18 ?_ ?_
 clear h h16 h18
 intro s x h
 obtain ⟨m20,j21⟩:=s
 simp only [qfe] at h
 refine Mi ?_
 obtain ⟨x22,h23,h23a,h23b,h⟩:=zX h
 refine M8 ?_
 obtain ⟨h24,h⟩|⟨h24,h⟩:=zI h
 refine Tj ?_
 obtain ⟨x25,h26,h26a,h26b,h⟩:=zX h
 refine Mh ?_
 exact M0 h
 exact M2 h
 try simp only at h
 refine Md ?_
 refine Mq ?_
 obtain ⟨m27,h28,h⟩:=zB h
 refine zO (fun (s:List (List Int)×Int)=>⟨[(0,.p (.int .i64 n1)),(3,.p (.slc (v2v (qap (v65 .i64)) o8))),(4,.p (.int .i64 i9)),(5,.own 57 1 0 s.1.length),(6,.p (.int .i64 k15)),(7,.p (.int .i64 m17)),(9,.p (.int .i64 s.2))],[(57,.arr 23 1 1 (v2v AV.p (v2v (qap (v65 .i64)) s.1)))]⟩) (fun (o29:List (List Int))=>tE (cX Tryz.f67 X w D hT) (.exit 6) ⟨[(0,.p (.int .i64 n1)),(3,.p (.slc (v2v (qap (v65 .i64)) o8))),(4,.p (.int .i64 i9)),(5,.own 57 1 0 o29.length),(6,.p (.int .i64 k15))],[(57,.arr 23 1 1 (v2v AV.p (v2v (qap (v65 .i64)) o29)))]⟩) h28 ?_ ?_
 clear h h16 h18 h28
 intro s x h
 obtain ⟨m30,l31⟩:=s
 simp only [qff] at h
 refine Mi ?_
 refine M8 ?_
 obtain ⟨h32,h⟩|⟨h32,h⟩:=zI h
 refine Tj ?_
 obtain ⟨x33,h34,h34a,h34b,h⟩:=zX h
 obtain ⟨h35,h⟩:=qab h
 obtain ⟨h36,h⟩:=qab h
 refine zW 11 ?_
 refine zM ⟨[(0,.p (.int .i64 n1)),(3,.p (.slc (v2v (qap (v65 .i64)) o8))),(4,.p (.int .i64 i9)),(6,.p (.int .i64 k15)),(7,.p (.int .i64 m17)),(9,.p (.int .i64 l31)),(46,.own 57 1 0 m30.length),(56,.own 56 1 0 1)],[(56,.arr 23 1 1 [.p (.slc (v2v (v65 .i64) (x33++[l31])))]),(57,.arr 23 1 1 (v2v AV.p (v2v (qap (v65 .i64)) m30)))]⟩ ?_
 obtain ⟨h37,h⟩:=qab h
 refine Mh ?_
 exact M0 h
 exact M2 h
 try simp only at h
 refine T1 ?_
 exact M0 h
 exact M2 h
 try simp only at h
 refine Tn ?_
 refine Mh ?_
 exact M0 h
 exact M2 h
 try simp only at h
 refine Md ?_
 exact M3 h results67
theorem qta (n1:Int) (l2:List Pair) (r3:List Int×Int×Int) (h:qfi n1 l2=some r3):Con D prog 28 [(.int .i64 n1),(.slc (v2v qa8 l2))] (.tup [(.slc (v2v (v65 .i64) r3.1)),(.int .i64 r3.2.1),(.int .i64 r3.2.2)]):=by
 refine zP call28 func28 rfl ntmps28 fun X w hT=>?_
 simp only [qfi] at h
 refine Mc ?_
 refine zU ?_
 obtain ⟨r4,h5,h⟩:=zB h
 refine zc (qoe n1 l2 _ h5) ?_
 refine M6 ?_
 refine M8 ?_
 obtain ⟨h6,h⟩|⟨h6,h⟩:=zI h
 exact M1 h results28
 refine Mm ?_
 refine M8 ?_
 obtain ⟨h7,h⟩|⟨h7,h⟩:=zI h
 exact M1 h results28
 refine Mf ?_
 refine zU ?_
 obtain ⟨r8,h9,h⟩:=zB h
 refine zc (qyn n1 _ h9) ?_
 refine M6 ?_
 obtain ⟨x10,h11,h11l,h11L,h⟩:=zY 0 h
 refine M5 ?_
 obtain ⟨b12,h13,h⟩:=zB h
 refine zO (fun (s:List Int×Int)=>⟨[(1,.p (.slc (v2v qa8 l2))),(8,.p (.slc (v2v (qap (v65 .i64)) r8))),(9,.p (.slc (v2v (v65 .i64) s.1))),(10,.p (.int .i64 s.2))],[]⟩) (fun (o14:List Int)=>tE (cX Tryz.f28 X w D hT) (.exit 0) ⟨[(1,.p (.slc (v2v qa8 l2))),(9,.p (.slc (v2v (v65 .i64) o14)))],[]⟩) h13 ?_ ?_
 clear h h5 h6 h7 h9 h11 h11l h11L h13
 intro s x h
 obtain ⟨b15,i16⟩:=s
 simp only [qca] at h
 refine Mi ?_
 refine M8 ?_
 obtain ⟨h17,h⟩|⟨h17,h⟩:=zI h
 refine M9 ?_
 obtain ⟨x18,h19,h19a,h19b,h⟩:=zX h
 refine zU ?_
 obtain ⟨r20,h21,h⟩:=zB h
 refine zc (ql7 l2 x18 _ h21) ?_
 refine zU ?_
 obtain ⟨r22,h23,h⟩:=zB h
 refine zc (ql7 l2 b15 _ h23) ?_
 refine M8 ?_
 obtain ⟨h24,h⟩|⟨h24,h⟩:=zI h
 refine Tc ?_
 refine Mh ?_
 exact M0 h
 refine Mj ?_
 exact M0 h
 exact M2 h
 try simp only at h
 refine Md ?_
 refine zU ?_
 obtain ⟨r25,h26,h⟩:=zB h
 refine zc (ql7 l2 b12 _ h26) ?_
 exact M3 h results28
theorem qtb (t1:Table) (l2:Linkage) (r3:List Arr2_int64) (h:qfa t1 l2=some r3):Con D prog 19 [(qaf t1),(qak l2)] (.slc (v2v qas r3)):=by
 refine zP call19 func19 rfl ntmps19 fun X w hT=>?_
 simp only [qfa] at h
 refine Ms ?_
 refine M6 ?_
 refine M5 ?_
 obtain ⟨o4,h5,h⟩:=zB h
 refine zO (fun (s:List Arr2_int64×Int)=>⟨[(2,.loc 2 1 0 0),(3,.loc 3 1 0 0),(5,.own 51 1 0 s.1.length),(6,.p (.int .i64 s.2))],[(2,.arr 41 3 1 [.p (qaf t1)]),(3,.arr 25 3 1 [.p (qak l2)]),(51,.arr 58 2 1 (v2v AV.p (v2v qas s.1)))]⟩) (fun (o6:List Arr2_int64)=>tE (cX Tryz.f19 X w D hT) (.exit 0) ⟨[(5,.own 51 1 0 o6.length)],[(51,.arr 58 2 1 (v2v AV.p (v2v qas o6)))]⟩) h5 ?_ ?_
 clear h h5
 intro s x h
 obtain ⟨o7,i8⟩:=s
 simp only [qe3] at h
 refine Mi ?_
 refine M8 ?_
 obtain ⟨h9,h⟩|⟨h9,h⟩:=zI h
 refine M9 ?_
 refine Mq ?_
 obtain ⟨o10,h11,h⟩:=zB h
 refine zO (fun (s:List Arr2_int64×Int)=>⟨[(2,.loc 2 1 0 0),(3,.loc 3 1 0 0),(5,.own 51 1 0 s.1.length),(6,.p (.int .i64 i8)),(7,.p (.int .i64 s.2))],[(2,.arr 41 3 1 [.p (qaf t1)]),(3,.arr 25 3 1 [.p (qak l2)]),(51,.arr 58 2 1 (v2v AV.p (v2v qas s.1)))]⟩) (fun (o12:List Arr2_int64)=>tE (cX Tryz.f19 X w D hT) (.exit 2) ⟨[(2,.loc 2 1 0 0),(3,.loc 3 1 0 0),(5,.own 51 1 0 o12.length),(6,.p (.int .i64 i8))],[(2,.arr 41 3 1 [.p (qaf t1)]),(3,.arr 25 3 1 [.p (qak l2)]),(51,.arr 58 2 1 (v2v AV.p (v2v qas o12)))]⟩) h11 ?_ ?_
 clear h h9 h11
 intro s x h
 obtain ⟨o13,k14⟩:=s
 simp only [qbr] at h
 refine Mi ?_
 refine M8 ?_
 obtain ⟨h15,h⟩|⟨h15,h⟩:=zI h
 refine Mw ?_
 obtain ⟨x16,h17,h17a,h17b,h⟩:=zX h
 obtain ⟨x18,h19,h19a,h19b,h⟩:=zX h
 refine yU ?_
 obtain ⟨r20,h21,h⟩:=zB h
 refine yc (qod x16 x18 l2 _ h21) ?_
 refine yd<|zn ?_
 obtain ⟨h22,h⟩|⟨h22,h⟩:=zI h
 refine zi<|zd ?_
 obtain ⟨h23,h⟩:=qab h
 refine My ?_
 exact M0 h
 refine Mj ?_
 exact M0 h
 exact M2 h
 try simp only at h
 refine T1 ?_
 exact M0 h
 exact M2 h
 try simp only at h
 refine Md ?_
 exact M3 h results19
theorem qqu (t1:Table) (l2:Linkage) (r3:List (List Int)) (h:qe4 t1 l2=some r3):Con D prog 61 [(qaf t1),(qak l2)] (.slc (v2v (qap (v65 .i64)) r3)):=by
 refine zP call61 func61 rfl ntmps61 fun X w hT=>?_
 simp only [qe4] at h
 refine Ms ?_
 refine M6 ?_
 refine zU ?_
 obtain ⟨r4,h5,h⟩:=zB h
 refine zc (qtb t1 l2 _ h5) ?_
 refine M6 ?_
 refine M6 ?_
 refine M5 ?_
 obtain ⟨o6,h7,h⟩:=zB h
 refine zO (fun (s:List (List Int)×List Int×Int)=>⟨[(2,.loc 2 1 0 0),(5,.p (.slc (v2v qas r4))),(6,.own 118 1 0 s.1.length),(7,.own 90 1 0 s.2.1.length),(8,.p (.int .i64 s.2.2))],[(2,.arr 41 3 1 [.p (qaf t1)]),(90,.arr 2 1 1 (v2v AV.p (v2v (v65 .i64) s.2.1))),(118,.arr 63 1 1 (v2v AV.p (v2v (qap (v65 .i64)) s.1)))]⟩) (fun (o8:List (List Int))=>tE (cX Tryz.f61 X w D hT) (.exit 0) ⟨[(6,.own 118 1 0 o8.length)],[(118,.arr 63 1 1 (v2v AV.p (v2v (qap (v65 .i64)) o8)))]⟩) h7 ?_ ?_
 clear h h5 h7
 intro s x h
 obtain ⟨o9,d10,i11⟩:=s
 simp only [qb2] at h
 refine Mi ?_
 refine M8 ?_
 obtain ⟨h12,h⟩|⟨h12,h⟩:=zI h
 refine Tk ?_
 obtain ⟨x13,h14,h14a,h14b,h⟩:=zX h
 refine zU ?_
 obtain ⟨r15,h16,h⟩:=zB h
 refine zc (qfn d10 x13.ID _ h16) ?_
 refine Tp ?_
 obtain ⟨h17,h⟩|⟨h17,h⟩:=zI h
 refine zi<|zx<|ze<|yh<|zn<|zr ?_
 exact M0 h
 refine Mf ?_
 refine M5 ?_
 obtain ⟨g18,h19,h⟩:=zB h
 refine zO (fun (s:List Int×Bool)=>⟨[(2,.loc 2 1 0 0),(5,.p (.slc (v2v qas r4))),(6,.own 118 1 0 o9.length),(7,.own 90 1 0 d10.length),(8,.p (.int .i64 i11)),(9,.own 40 1 0 s.1.length),(10,.p (.bool s.2))],[(2,.arr 41 3 1 [.p (qaf t1)]),(40,.arr 2 1 1 (v2v AV.p (v2v (v65 .i64) s.1))),(90,.arr 2 1 1 (v2v AV.p (v2v (v65 .i64) d10))),(118,.arr 63 1 1 (v2v AV.p (v2v (qap (v65 .i64)) o9)))]⟩) (fun (o20:List Int)=>tE (cX Tryz.f61 X w D hT) (.exit 2) ⟨[(2,.loc 2 1 0 0),(5,.p (.slc (v2v qas r4))),(6,.own 118 1 0 o9.length),(7,.own 90 1 0 d10.length),(8,.p (.int .i64 i11)),(9,.own 40 1 0 o20.length)],[(2,.arr 41 3 1 [.p (qaf t1)]),(40,.arr 2 1 1 (v2v AV.p (v2v (v65 .i64) o20))),(90,.arr 2 1 1 (v2v AV.p (v2v (v65 .i64) d10))),(118,.arr 63 1 1 (v2v AV.p (v2v (qap (v65 .i64)) o9)))]⟩) h19 ?_ ?_
 clear h h12 h14 h14a h14b h16 h17 h19
 intro s x h
 obtain ⟨g21,g22⟩:=s
 simp only [qb0] at h
 refine Mi ?_
 refine M8 ?_
 obtain ⟨h23,h⟩|⟨h23,h⟩:=zI h
 refine zi<|zk<|zn<|zb<|zs<|zr ?_
 refine M6 ?_
 refine Mq ?_
 obtain ⟨o24,h25,h⟩:=zB h
 refine zO (fun (s:List Int×Bool×Int)=>⟨[(2,.loc 2 1 0 0),(5,.p (.slc (v2v qas r4))),(6,.own 118 1 0 o9.length),(7,.own 90 1 0 d10.length),(8,.p (.int .i64 i11)),(9,.own 40 1 0 s.1.length),(10,.p (.bool s.2.1)),(11,.p (.int .i64 s.2.2))],[(2,.arr 41 3 1 [.p (qaf t1)]),(40,.arr 2 1 1 (v2v AV.p (v2v (v65 .i64) s.1))),(90,.arr 2 1 1 (v2v AV.p (v2v (v65 .i64) d10))),(118,.arr 63 1 1 (v2v AV.p (v2v (qap (v65 .i64)) o9)))]⟩) (fun (o26:List Int×Bool)=>tE (cX Tryz.f61 X w D hT) (.exit 4) ⟨[(2,.loc 2 1 0 0),(5,.p (.slc (v2v qas r4))),(6,.own 118 1 0 o9.length),(7,.own 90 1 0 d10.length),(8,.p (.int .i64 i11)),(9,.own 40 1 0 o26.1.length),(10,.p (.bool o26.2))],[(2,.arr 41 3 1 [.p (qaf t1)]),(40,.arr 2 1 1 (v2v AV.p (v2v (v65 .i64) o26.1))),(90,.arr 2 1 1 (v2v AV.p (v2v (v65 .i64) d10))),(118,.arr 63 1 1 (v2v AV.p (v2v (qap (v65 .i64)) o9)))]⟩) h25 ?_ ?_
 clear h h23 h25
 intro s x h
 obtain ⟨g27,g28,k29⟩:=s
 simp only [qbc] at h
 refine Mi ?_
 refine M8 ?_
 obtain ⟨h30,h⟩|⟨h30,h⟩:=zI h
 refine Mw ?_
 obtain ⟨x31,h32,h32a,h32b,h⟩:=zX h
 refine yU ?_
 obtain ⟨r33,h34,h⟩:=zB h
 refine yc (qfn g27 x31.x0 _ h34) ?_
 refine yU ?_
 obtain ⟨r35,h36,h⟩:=zB h
 refine yc (qfn g27 x31.x1 _ h36) ?_
 refine yU ?_
 refine yd<|zn<|zs ?_
 obtain ⟨t37,h38,h⟩:=zB h
 refine zJ (fun (o39:Bool)=>tE (cX Tryz.f61 X w D hT) .normal ⟨[(2,.loc 2 1 0 0),(5,.p (.slc (v2v qas r4))),(6,.own 118 1 0 o9.length),(7,.own 90 1 0 d10.length),(8,.p (.int .i64 i11)),(9,.own 40 1 0 g27.length),(10,.p (.bool g28)),(11,.p (.int .i64 k29)),(12,.p (.bool r33)),(13,.p (.bool r35)),(66,.p (.bool o39))],[(2,.arr 41 3 1 [.p (qaf t1)]),(40,.arr 2 1 1 (v2v AV.p (v2v (v65 .i64) g27))),(90,.arr 2 1 1 (v2v AV.p (v2v (v65 .i64) d10))),(118,.arr 63 1 1 (v2v AV.p (v2v (qap (v65 .i64)) o9)))]⟩) t37 ?_ ?_
 replace h:=h38
 clear h38
 refine T6 ?_
 obtain ⟨h40,h⟩|⟨h40,h⟩:=zI h
 replace h:=h.symm
 refine zw 63 true ?_
 refine Mr ?_
 exact M0 h
 refine zw 63 false ?_
 refine zh ?_
 exact M0 h
 try simp only at h
 refine zA<|zn ?_
 obtain ⟨h41,h⟩|⟨h41,h⟩:=zI h
 refine Tc ?_
 obtain ⟨h42,h⟩:=qab h
 refine M8 ?_
 obtain ⟨t43,h44,h⟩:=zB h
 refine zJ (fun (o45:Bool)=>tE (cX Tryz.f61 X w D hT) .normal ⟨[(2,.loc 2 1 0 0),(5,.p (.slc (v2v qas r4))),(6,.own 118 1 0 o9.length),(7,.own 90 1 0 d10.length),(8,.p (.int .i64 i11)),(9,.own 40 1 0 (g27.length+1)),(10,.p (.bool true)),(11,.p (.int .i64 k29)),(79,.p (.bool o45))],[(2,.arr 41 3 1 [.p (qaf t1)]),(40,.arr 2 1 1 (v2v AV.p (v2v (v65 .i64) (g27++[x31.x1])))),(90,.arr 2 1 1 (v2v AV.p (v2v (v65 .i64) d10))),(118,.arr 63 1 1 (v2v AV.p (v2v (qap (v65 .i64)) o9)))]⟩) t43 ?_ ?_
 replace h:=h44
 clear h44
 refine T6 ?_
 obtain ⟨h46,h⟩|⟨h46,h⟩:=zI h
 replace h:=h.symm
 refine zw 76 true ?_
 refine Mr ?_
 exact M0 h
 refine zw 76 false ?_
 refine zh ?_
 exact M0 h
 try simp only at h
 refine zA<|zn ?_
 obtain ⟨h47,h⟩|⟨h47,h⟩:=zI h
 refine Tc ?_
 obtain ⟨h48,h⟩:=qab h
 refine Mh ?_
 exact M0 h
 refine Mj ?_
 exact M0 h
 refine zj<|zk<|zn ?_
 obtain ⟨t49,h50,h⟩:=zB h
 refine zJ (fun (o51:Bool)=>tE (cX Tryz.f61 X w D hT) .normal ⟨[(2,.loc 2 1 0 0),(5,.p (.slc (v2v qas r4))),(6,.own 118 1 0 o9.length),(7,.own 90 1 0 d10.length),(8,.p (.int .i64 i11)),(9,.own 40 1 0 g27.length),(10,.p (.bool g28)),(11,.p (.int .i64 k29)),(79,.p (.bool o51))],[(2,.arr 41 3 1 [.p (qaf t1)]),(40,.arr 2 1 1 (v2v AV.p (v2v (v65 .i64) g27))),(90,.arr 2 1 1 (v2v AV.p (v2v (v65 .i64) d10))),(118,.arr 63 1 1 (v2v AV.p (v2v (qap (v65 .i64)) o9)))]⟩) t49 ?_ ?_
 replace h:=h50
 clear h50
 refine T6 ?_
 obtain ⟨h52,h⟩|⟨h52,h⟩:=zI h
 replace h:=h.symm
 refine zw 76 true ?_
 refine Mr ?_
 exact M0 h
 refine zw 76 false ?_
 refine zh ?_
 exact M0 h
 try simp only at h
 refine zA<|zn ?_
 obtain ⟨h53,h⟩|⟨h53,h⟩:=zI h
 refine Tc ?_
 obtain ⟨h54,h⟩:=qab h
 refine Mh ?_
 exact M0 h
 refine Mj ?_
 exact M0 h
 exact M2 h
 obtain ⟨g55,g56⟩:=o24
 try simp only at h
 refine zA<|yh<|yn ?_
 exact Mv h
 exact M2 h
 try simp only at h
 refine Md ?_
 obtain ⟨h57,h⟩:=qab h
 refine M6 ?_
 refine M5 ?_
 obtain ⟨i58,h59,h⟩:=zB h
 refine zO (fun (s:List Int×Int)=>⟨[(2,.loc 2 1 0 0),(5,.p (.slc (v2v qas r4))),(6,.own 118 1 0 o9.length),(7,.own 90 1 0 (d10.length+g18.length)),(8,.p (.int .i64 i11)),(9,.own 40 1 0 g18.length),(14,.own 114 1 0 s.1.length),(15,.p (.int .i64 s.2))],[(2,.arr 41 3 1 [.p (qaf t1)]),(40,.arr 2 1 1 (v2v AV.p (v2v (v65 .i64) g18))),(90,.arr 2 1 1 (v2v AV.p (v2v (v65 .i64) (d10++g18)))),(114,.arr 2 1 1 (v2v AV.p (v2v (v65 .i64) s.1))),(118,.arr 63 1 1 (v2v AV.p (v2v (qap (v65 .i64)) o9)))]⟩) (fun (o60:List Int)=>tE (cX Tryz.f61 X w D hT) (.exit 6) ⟨[(2,.loc 2 1 0 0),(5,.p (.slc (v2v qas r4))),(6,.own 118 1 0 o9.length),(7,.own 90 1 0 (d10.length+g18.length)),(8,.p (.int .i64 i11)),(14,.own 114 1 0 o60.length)],[(2,.arr 41 3 1 [.p (qaf t1)]),(90,.arr 2 1 1 (v2v AV.p (v2v (v65 .i64) (d10++g18)))),(114,.arr 2 1 1 (v2v AV.p (v2v (v65 .i64) o60))),(118,.arr 63 1 1 (v2v AV.p (v2v (qap (v65 .i64)) o9)))]⟩) h59 ?_ ?_
 clear h h12 h14 h14a h14b h16 h17 h19 h57 h59
 intro s x h
 obtain ⟨i61,k62⟩:=s
 simp only [qb1] at h
 refine Mi ?_
 refine M8 ?_
 obtain ⟨h63,h⟩|⟨h63,h⟩:=zI h
 refine M9 ?_
 obtain ⟨x64,h65,h65a,h65b,h⟩:=zX h
 refine zU ?_
 obtain ⟨r66,h67,h⟩:=zB h
 refine zc (qfn g18 x64.ID _ h67) ?_
 refine Tp ?_
 obtain ⟨h68,h⟩|⟨h68,h⟩:=zI h
 refine Tc ?_
 obtain ⟨h69,h⟩:=qab h
 refine Mh ?_
 exact M0 h
 refine Mj ?_
 exact M0 h
 exact M2 h
 try simp only at h
 refine Tn ?_
 refine zW 3 ?_
 refine zM ⟨[(2,.loc 2 1 0 0),(5,.p (.slc (v2v qas r4))),(7,.own 90 1 0 (d10.length+g18.length)),(8,.p (.int .i64 i11)),(115,.own 118 1 0 o9.length),(117,.own 117 1 0 1)],[(2,.arr 41 3 1 [.p (qaf t1)]),(90,.arr 2 1 1 (v2v AV.p (v2v (v65 .i64) (d10++g18)))),(117,.arr 63 1 1 [.p (.slc (v2v (v65 .i64) i58))]),(118,.arr 63 1 1 (v2v AV.p (v2v (qap (v65 .i64)) o9)))]⟩ ?_
 obtain ⟨h70,h⟩:=qab h
 refine Mh ?_
 exact M0 h
 exact M2 h
 try simp only at h
 refine Md ?_
 exact M3 h results61
theorem que (l1:List Pair) (i2:Int) (k3:Int) (r4:Int×Bool) (h:qge l1 i2 k3=some r4):Con D prog 103 [(.slc (v2v qa8 l1)),(.int .i64 i2),(.int .i64 k3)] (.tup [(.int .i64 r4.1),(.bool r4.2)]):=by
 refine zP call103 func103 rfl ntmps103 fun X w hT=>?_
 simp only [qge] at h
 refine Ms ?_
 refine M5 ?_
 obtain ⟨o5,h6,h⟩:=zB h
 refine zO (fun (s:Int)=>⟨[(0,.p (.slc (v2v qa8 l1))),(1,.p (.int .i64 i2)),(2,.p (.int .i64 k3)),(8,.p (.int .i64 s))],[]⟩) (fun (o:(Unit) ⊕ (Int×Bool))=>match o with | .inl o7=>tE (cX Tryz.f103 X w D hT) (.exit 0) ⟨[],[]⟩ | .inr o8=>tR prog Tryz.f103 (.tup [(.int .i64 o8.1),(.bool o8.2)])) h6 ?_ ?_
 clear h h6
 intro m9 x h
 simp only [qcu] at h
 refine T8 ?_
 refine M8 ?_
 obtain ⟨h10,h⟩|⟨h10,h⟩:=zI h
 refine zi<|zk<|zn<|zs<|zb ?_
 obtain ⟨t11,h12,h⟩:=zB h
 refine zJ (fun (o13:Bool)=>tE (cX Tryz.f103 X w D hT) .normal ⟨[(0,.p (.slc (v2v qa8 l1))),(1,.p (.int .i64 i2)),(2,.p (.int .i64 k3)),(8,.p (.int .i64 m9)),(30,.p (.bool o13))],[]⟩) t11 ?_ ?_
 replace h:=h12
 clear h12
 refine zr ?_
 obtain ⟨x14,h15,h15a,h15b,h⟩:=zX h
 refine zU ?_
 obtain ⟨h16,h⟩|⟨h16,h⟩:=zI h
 replace h:=h.symm
 refine zw 22 true ?_
 refine M4 ?_
 refine M4 ?_
 refine zg ?_
 exact M0 h
 refine zw 22 false ?_
 refine zh ?_
 exact M0 h
 try simp only at h
 refine zA<|zn ?_
 obtain ⟨h17,h⟩|⟨h17,h⟩:=zI h
 refine Tl ?_
 obtain ⟨x18,h19,h19a,h19b,h⟩:=zX h
 refine zU<|zl<|zn<|zq<|yr<|zt ?_
 cases h
 exact ⟨rfl,zT results103⟩
 refine Mj ?_
 exact M0 h
 exact M2 h
 rcases o5 with ⟨⟩ | r20
 try simp only at h
 refine Md ?_
 exact M3 h results103
 exact M7 h
theorem qvn (n1:Int) (l2:List Pair) (r3:List Int×Int) (h:qho n1 l2=some r3):Con D prog 62 [(.int .i64 n1),(.slc (v2v qa8 l2))] (.tup [(.slc (v2v (v65 .i64) r3.1)),(.int .i64 r3.2)]):=by
 refine zP call62 func62 rfl ntmps62 fun X w hT=>?_
 simp only [qho] at h
 refine Mc ?_
 refine zU ?_
 obtain ⟨r4,h5,h⟩:=zB h
 refine zc (qoe n1 l2 _ h5) ?_
 refine M6 ?_
 refine M8 ?_
 obtain ⟨h6,h⟩|⟨h6,h⟩:=zI h
 exact M1 h results62
 refine Mf ?_
 obtain ⟨h7,h⟩:=qab h
 obtain ⟨h8,h⟩:=qab h
 refine M5 ?_
 obtain ⟨l9,h10,h⟩:=zB h
 refine zO (fun (s:List Int×Int)=>⟨[(0,.p (.int .i64 n1)),(1,.p (.slc (v2v qa8 l2))),(7,.own 21 1 0 s.1.length),(8,.p (.int .i64 s.2))],[(21,.arr 3 1 1 (v2v AV.p (v2v (v65 .i64) s.1)))]⟩) (fun (o11:List Int)=>tE (cX Tryz.f62 X w D hT) (.exit 0) ⟨[(0,.p (.int .i64 n1)),(1,.p (.slc (v2v qa8 l2))),(7,.own 21 1 0 o11.length)],[(21,.arr 3 1 1 (v2v AV.p (v2v (v65 .i64) o11)))]⟩) h10 ?_ ?_
 clear h h5 h6 h7 h8 h10
 intro s x h
 obtain ⟨l12,i13⟩:=s
 simp only [qg1] at h
 refine Mi ?_
 refine M8 ?_
 obtain ⟨h14,h⟩|⟨h14,h⟩:=zI h
 refine Tj ?_
 obtain ⟨x15,h16,h16a,h16b,h⟩:=zX h
 refine Mh ?_
 exact M0 h
 exact M2 h
 try simp only at h
 refine Md ?_
 refine M5 ?_
 obtain ⟨l17,h18,h⟩:=zB h
 refine zO (fun (s:List Int×Int×Int)=>⟨[(0,.p (.int .i64 n1)),(1,.p (.slc (v2v qa8 l2))),(7,.own 21 1 0 s.1.length),(9,.p (.int .i64 s.2.1)),(10,.p (.int .i64 s.2.2))],[(21,.arr 3 1 1 (v2v AV.p (v2v (v65 .i64) s.1)))]⟩) (fun (o19:List Int)=>tE (cX Tryz.f62 X w D hT) (.exit 2) ⟨[(7,.own 21 1 0 o19.length)],[(21,.arr 3 1 1 (v2v AV.p (v2v (v65 .i64) o19)))]⟩) h18 ?_ ?_
 clear h h5 h6 h7 h8 h10 h18
 intro s x h
 obtain ⟨l20,n21,i22⟩:=s
 simp only [qeu] at h
 refine Mi ?_
 refine M8 ?_
 obtain ⟨h23,h⟩|⟨h23,h⟩:=zI h
 refine Tk ?_
 obtain ⟨x24,h25,h25a,h25b,h⟩:=zX h
 refine M8 ?_
 obtain ⟨h26,h⟩|⟨h26,h⟩:=zI h
 refine zi<|zx<|ze<|yh<|zn<|zr ?_
 exact M0 h
 refine Mf ?_
 refine M5 ?_
 obtain ⟨l27,h28,h⟩:=zB h
 refine zO (fun (s:List Int×Int)=>⟨[(0,.p (.int .i64 n1)),(1,.p (.slc (v2v qa8 l2))),(7,.own 21 1 0 s.1.length),(9,.p (.int .i64 n21)),(10,.p (.int .i64 i22)),(11,.p (.int .i64 s.2))],[(21,.arr 3 1 1 (v2v AV.p (v2v (v65 .i64) s.1)))]⟩) (fun (o29:List Int)=>tE (cX Tryz.f62 X w D hT) (.exit 4) ⟨[(0,.p (.int .i64 n1)),(1,.p (.slc (v2v qa8 l2))),(7,.own 21 1 0 o29.length),(9,.p (.int .i64 n21)),(10,.p (.int .i64 i22))],[(21,.arr 3 1 1 (v2v AV.p (v2v (v65 .i64) o29)))]⟩) h28 ?_ ?_
 clear h h23 h25 h25a h25b h26 h28
 intro s x h
 obtain ⟨l30,k31⟩:=s
 simp only [qda] at h
 refine Mi ?_
 refine M8 ?_
 obtain ⟨h32,h⟩|⟨h32,h⟩:=zI h
 refine M9 ?_
 refine zU ?_
 obtain ⟨r33,h34,h⟩:=zB h
 refine zc (que l2 i22 k31 _ h34) ?_
 refine M8 ?_
 obtain ⟨t35,h36,h⟩:=zB h
 refine zJ (fun (o37:Bool)=>tE (cX Tryz.f62 X w D hT) .normal ⟨[(0,.p (.int .i64 n1)),(1,.p (.slc (v2v qa8 l2))),(7,.own 21 1 0 l30.length),(9,.p (.int .i64 n21)),(10,.p (.int .i64 i22)),(11,.p (.int .i64 k31)),(66,.p (.bool o37))],[(21,.arr 3 1 1 (v2v AV.p (v2v (v65 .i64) l30)))]⟩) t35 ?_ ?_
 replace h:=h36
 clear h36
 refine T6 ?_
 obtain ⟨h38,h⟩|⟨h38,h⟩:=zI h
 refine zw 60 true ?_
 refine Mr ?_
 obtain ⟨x39,h40,h40a,h40b,h⟩:=zX h
 replace h:=h.symm
 refine M4 ?_
 exact M0 h
 refine zw 60 false ?_
 refine zh ?_
 exact M0 h
 try simp only at h
 refine zA<|zn ?_
 obtain ⟨h41,h⟩|⟨h41,h⟩:=zI h
 refine Tc ?_
 obtain ⟨x42,h43,h43a,h43b,h⟩:=zX h
 refine Mh ?_
 exact M0 h
 refine Mj ?_
 exact M0 h
 exact M2 h
 try simp only at h
 refine Tn ?_
 refine Mh ?_
 exact M0 h
 exact M2 h
 try simp only at h
 refine Md ?_
 exact M3 h results62
theorem quf (l1:List Int) (r2:List Int) (h:qi4 l1=some r2):Con D prog 104 [(.slc (v2v (v65 .i64) l1))] (.slc (v2v (v65 .i64) r2)):=by
 refine zP call104 func104 rfl ntmps104 fun X w hT=>?_
 simp only [qi4] at h
 refine Ms ?_
 refine M6 ?_
 refine M6 ?_
 refine M5 ?_
 obtain ⟨o3,h4,h⟩:=zB h
 refine zO (fun (s:List Int×Int×Int)=>⟨[(0,.p (.slc (v2v (v65 .i64) l1))),(3,.own 40 1 0 s.1.length),(4,.p (.int .i64 s.2.1)),(5,.p (.int .i64 s.2.2))],[(40,.arr 3 1 1 (v2v AV.p (v2v (v65 .i64) s.1)))]⟩) (fun (o5:List Int)=>tE (cX Tryz.f104 X w D hT) (.exit 0) ⟨[(3,.own 40 1 0 o5.length)],[(40,.arr 3 1 1 (v2v AV.p (v2v (v65 .i64) o5)))]⟩) h4 ?_ ?_
 clear h h4
 intro s x h
 obtain ⟨o6,n7,i8⟩:=s
 simp only [qcw] at h
 refine Mi ?_
 refine M8 ?_
 obtain ⟨h9,h⟩|⟨h9,h⟩:=zI h
 refine M9 ?_
 refine M5 ?_
 obtain ⟨l10,h11,h⟩:=zB h
 refine zO (fun (s:Int×Int)=>⟨[(0,.p (.slc (v2v (v65 .i64) l1))),(3,.own 40 1 0 o6.length),(4,.p (.int .i64 n7)),(5,.p (.int .i64 i8)),(6,.p (.int .i64 s.1)),(7,.p (.int .i64 s.2))],[(40,.arr 3 1 1 (v2v AV.p (v2v (v65 .i64) o6)))]⟩) (fun (o12:Int)=>tE (cX Tryz.f104 X w D hT) (.exit 2) ⟨[(0,.p (.slc (v2v (v65 .i64) l1))),(3,.own 40 1 0 o6.length),(4,.p (.int .i64 n7)),(5,.p (.int .i64 i8)),(6,.p (.int .i64 o12))],[(40,.arr 3 1 1 (v2v AV.p (v2v (v65 .i64) o6)))]⟩) h11 ?_ ?_
 clear h h9 h11
 intro s x h
 obtain ⟨l13,k14⟩:=s
 simp only [qcv] at h
 refine Mi ?_
 refine M8 ?_
 obtain ⟨h15,h⟩|⟨h15,h⟩:=zI h
 refine Mw ?_
 obtain ⟨x16,h17,h17a,h17b,h⟩:=zX h
 obtain ⟨x18,h19,h19a,h19b,h⟩:=zX h
 refine Mu ?_
 obtain ⟨h20,h⟩|⟨h20,h⟩:=zI h
 refine Tc ?_
 obtain ⟨x21,h22,h22a,h22b,h⟩:=zX h
 refine Mh ?_
 exact M0 h
 refine Mj ?_
 exact M0 h
 exact M2 h
 try simp only at h
 refine T9 ?_
 refine M8 ?_
 obtain ⟨h23,h⟩|⟨h23,h⟩:=zI h
 refine Tl ?_
 refine Mx ?_
 refine Mx ?_
 obtain ⟨h24,h⟩:=qab h
 refine Mh ?_
 exact M0 h
 refine Td ?_
 obtain ⟨h25,h⟩:=qab h
 refine Mh ?_
 exact M0 h
 exact M2 h
 try simp only at h
 refine Md ?_
 exact M3 h results104
theorem qnw (l1:List Int) (r2:List (List Int)) (h:qgf l1=some r2):Con D prog 63 [(.slc (v2v (v65 .i64) l1))] (.slc (v2v (qap (v65 .i64)) r2)):=by
 refine zP call63 func63 rfl ntmps63 fun X w hT=>?_
 simp only [qgf] at h
 refine Ms ?_
 refine M6 ?_
 refine M6 ?_
 refine zU ?_
 obtain ⟨r3,h4,h⟩:=zB h
 refine zc (quf l1 _ h4) ?_
 refine M5 ?_
 obtain ⟨o5,h6,h⟩:=zB h
 refine zO (fun (s:List (List Int)×Int)=>⟨[(3,.own 23 1 0 s.1.length),(4,.p (.slc (v2v (v65 .i64) r3))),(5,.p (.int .i64 s.2))],((23,.arr 23 1 1 (qkd 23 3 1 1 (v65 .i64) s.1)) :: qlc 23 3 1 1 (v65 .i64) s.1 [])⟩) (fun (o7:List (List Int))=>tE (cX Tryz.f63 X w D hT) (.exit 0) ⟨[(3,.own 23 1 0 o7.length)],((23,.arr 23 1 1 (qkd 23 3 1 1 (v65 .i64) o7)) :: qlc 23 3 1 1 (v65 .i64) o7 [])⟩) h6 ?_ ?_
 clear h h4 h6
 intro s x h
 obtain ⟨o8,i9⟩:=s
 simp only [qcx] at h
 refine Mi ?_
 refine M8 ?_
 obtain ⟨h10,h⟩|⟨h10,h⟩:=zI h
 refine Tk ?_
 obtain ⟨x11,h12,h12a,h12b,h⟩:=zX h
 refine M8 ?_
 obtain ⟨h13,h⟩|⟨h13,h⟩:=zI h
 refine Tc ?_
 obtain ⟨h14,h⟩:=qab h
 refine zW 3 ?_
 refine zM ⟨[(4,.p (.slc (v2v (v65 .i64) r3))),(5,.p (.int .i64 i9)),(23,.own 23 1 0 (o8.length+1))],((23,.arr 23 1 1 (qkd 23 3 1 1 (v65 .i64) (o8++[[]]))) :: qlc 23 3 1 1 (v65 .i64) (o8++[[]]) [])⟩ ?_
 refine Th ?_
 obtain ⟨x15,h16,h16a,h16b,h⟩:=zX h
 have hx_14272C:=h16b
 simp only [List.length_append,v0m,List.length_cons,List.length_nil,Nat.zero_add] at hx_14272C
 obtain ⟨h17,h⟩:=qab h
 refine yU ?_
 refine ydS ?_
 refine yn<|zn ?_
 refine zL ⟨[(3,.own 23 1 0 (((o8++[[]]).set x11.toNat (x15++[i9]))).length),(4,.p (.slc (v2v (v65 .i64) r3))),(5,.p (.int .i64 i9))],((23,.arr 23 1 1 (qkd 23 3 1 1 (v65 .i64) ((o8++[[]]).set x11.toNat (x15++[i9])))) :: qlc 23 3 1 1 (v65 .i64) ((o8++[[]]).set x11.toNat (x15++[i9])) [])⟩ ?_
 refine zr ?_
 exact M0 h
 refine zj<|zk<|zn<|zd ?_
 obtain ⟨x18,h19,h19a,h19b,h⟩:=zX h
 obtain ⟨h20,h⟩:=qab h
 refine yU ?_
 refine ydS ?_
 refine yn<|zn ?_
 refine zL ⟨[(3,.own 23 1 0 ((o8.set x11.toNat (x18++[i9]))).length),(4,.p (.slc (v2v (v65 .i64) r3))),(5,.p (.int .i64 i9))],((23,.arr 23 1 1 (qkd 23 3 1 1 (v65 .i64) (o8.set x11.toNat (x18++[i9])))) :: qlc 23 3 1 1 (v65 .i64) (o8.set x11.toNat (x18++[i9])) [])⟩ ?_
 refine zr ?_
 exact M0 h
 exact M2 h
 try simp only at h
 refine Md ?_
 exact M3 h results63
theorem qst (t1:Table) (l2:Linkage) (r3:List (List Int)) (h:qg2 t1 l2=some r3):Con D prog 24 [(qaf t1),(qak l2)] (.slc (v2v (qap (v65 .i64)) r3)):=by
 refine zP call24 func24 rfl ntmps24 fun X w hT=>?_
 simp only [qg2] at h
 refine Ms ?_
 refine M6 ?_
 refine zU ?_
 obtain ⟨r4,h5,h⟩:=zB h
 refine zc (qqu t1 l2 _ h5) ?_
 refine M6 ?_
 refine M5 ?_
 obtain ⟨o6,h7,h⟩:=zB h
 refine zO (fun (s:List (List Int)×Int)=>⟨[(2,.loc 2 1 0 0),(3,.loc 3 1 0 0),(5,.p (.slc (v2v (qap (v65 .i64)) r4))),(6,.own 85 1 0 s.1.length),(7,.p (.int .i64 s.2))],[(2,.arr 41 3 1 [.p (qaf t1)]),(3,.arr 25 3 1 [.p (qak l2)]),(85,.arr 63 1 1 (v2v AV.p (v2v (qap (v65 .i64)) s.1)))]⟩) (fun (o8:List (List Int))=>tE (cX Tryz.f24 X w D hT) (.exit 0) ⟨[(6,.own 85 1 0 o8.length)],[(85,.arr 63 1 1 (v2v AV.p (v2v (qap (v65 .i64)) o8)))]⟩) h7 ?_ ?_
 clear h h5 h7
 intro s x h
 obtain ⟨o9,i10⟩:=s
 simp only [qdt] at h
 refine Mi ?_
 refine M8 ?_
 obtain ⟨h11,h⟩|⟨h11,h⟩:=zI h
 refine M9 ?_
 obtain ⟨x12,h13,h13a,h13b,h⟩:=zX h
 refine M6 ?_
 refine zU ?_
 obtain ⟨r14,h15,h⟩:=zB h
 refine zc (qvm t1 l2 x12 _ h15) ?_
 refine M6 ?_
 refine zU ?_
 obtain ⟨r16,h17,h⟩:=zB h
 refine zc (qvn (x12.length:Int) r14 _ h17) ?_
 refine Mo ?_
 refine M8 ?_
 obtain ⟨h18,h⟩|⟨h18,h⟩:=zI h
 refine Tc ?_
 refine zU ?_
 obtain ⟨r19,h20,h⟩:=zB h
 refine zc (qta (x12.length:Int) r14 _ h20) ?_
 refine M6 ?_
 refine zU ?_
 obtain ⟨r21,h22,h⟩:=zB h
 refine zc (qnw r19.1 _ h22) ?_
 refine M6 ?_
 refine Mq ?_
 obtain ⟨o23,h24,h⟩:=zB h
 refine zO (fun (s:List (List Int)×Int)=>⟨[(2,.loc 2 1 0 0),(3,.loc 3 1 0 0),(5,.p (.slc (v2v (qap (v65 .i64)) r4))),(6,.own 85 1 0 s.1.length),(7,.p (.int .i64 i10)),(8,.p (.slc (v2v (v65 .i64) x12))),(12,.p (.slc (v2v (qap (v65 .i64)) r21))),(13,.p (.int .i64 s.2))],[(2,.arr 41 3 1 [.p (qaf t1)]),(3,.arr 25 3 1 [.p (qak l2)]),(85,.arr 63 1 1 (v2v AV.p (v2v (qap (v65 .i64)) s.1)))]⟩) (fun (o25:List (List Int))=>tE (cX Tryz.f24 X w D hT) (.exit 2) ⟨[(2,.loc 2 1 0 0),(3,.loc 3 1 0 0),(5,.p (.slc (v2v (qap (v65 .i64)) r4))),(6,.own 85 1 0 o25.length),(7,.p (.int .i64 i10))],[(2,.arr 41 3 1 [.p (qaf t1)]),(3,.arr 25 3 1 [.p (qak l2)]),(85,.arr 63 1 1 (v2v AV.p (v2v (qap (v65 .i64)) o25)))]⟩) h24 ?_ ?_
 clear h h11 h13 h13a h13b h15 h17 h18 h20 h22 h24
 intro s x h
 obtain ⟨o26,k27⟩:=s
 simp only [qck] at h
 refine Mi ?_
 refine M8 ?_
 obtain ⟨h28,h⟩|⟨h28,h⟩:=zI h
 refine M9 ?_
 refine M5 ?_
 obtain ⟨c29,h30,h⟩:=zB h
 refine zO (fun (s:List Int×Int)=>⟨[(2,.loc 2 1 0 0),(3,.loc 3 1 0 0),(5,.p (.slc (v2v (qap (v65 .i64)) r4))),(6,.own 85 1 0 o26.length),(7,.p (.int .i64 i10)),(8,.p (.slc (v2v (v65 .i64) x12))),(12,.p (.slc (v2v (qap (v65 .i64)) r21))),(13,.p (.int .i64 k27)),(14,.own 81 1 0 s.1.length),(15,.p (.int .i64 s.2))],[(2,.arr 41 3 1 [.p (qaf t1)]),(3,.arr 25 3 1 [.p (qak l2)]),(81,.arr 2 1 1 (v2v AV.p (v2v (v65 .i64) s.1))),(85,.arr 63 1 1 (v2v AV.p (v2v (qap (v65 .i64)) o26)))]⟩) (fun (o31:List Int)=>tE (cX Tryz.f24 X w D hT) (.exit 4) ⟨[(2,.loc 2 1 0 0),(3,.loc 3 1 0 0),(5,.p (.slc (v2v (qap (v65 .i64)) r4))),(6,.own 85 1 0 o26.length),(7,.p (.int .i64 i10)),(8,.p (.slc (v2v (v65 .i64) x12))),(12,.p (.slc (v2v (qap (v65 .i64)) r21))),(13,.p (.int .i64 k27)),(14,.own 81 1 0 o31.length)],[(2,.arr 41 3 1 [.p (qaf t1)]),(3,.arr 25 3 1 [.p (qak l2)]),(81,.arr 2 1 1 (v2v AV.p (v2v (v65 .i64) o31))),(85,.arr 63 1 1 (v2v AV.p (v2v (qap (v65 .i64)) o26)))]⟩) h30 ?_ ?_
 clear h h28 h30
 intro s x h
 obtain ⟨c32,j33⟩:=s
 simp only [qcj] at h
 refine Mi ?_
 obtain ⟨x34,h35,h35a,h35b,h⟩:=zX h
 refine M8 ?_
 obtain ⟨h36,h⟩|⟨h36,h⟩:=zI h
 refine Tj ?_
 obtain ⟨x37,h38,h38a,h38b,h⟩:=zX h
 obtain ⟨x39,h40,h40a,h40b,h⟩:=zX h
 obtain ⟨h41,h⟩:=qab h
 refine Mh ?_
 exact M0 h
 exact M2 h
 try simp only at h
 refine Md ?_
 refine zW 3 ?_
 refine zM ⟨[(2,.loc 2 1 0 0),(3,.loc 3 1 0 0),(5,.p (.slc (v2v (qap (v65 .i64)) r4))),(7,.p (.int .i64 i10)),(8,.p (.slc (v2v (v65 .i64) x12))),(12,.p (.slc (v2v (qap (v65 .i64)) r21))),(13,.p (.int .i64 k27)),(82,.own 85 1 0 o26.length),(84,.own 84 1 0 1)],[(2,.arr 41 3 1 [.p (qaf t1)]),(3,.arr 25 3 1 [.p (qak l2)]),(84,.arr 63 1 1 [.p (.slc (v2v (v65 .i64) c29))]),(85,.arr 63 1 1 (v2v AV.p (v2v (qap (v65 .i64)) o26)))]⟩ ?_
 obtain ⟨h42,h⟩:=qab h
 refine M6 ?_
 refine Mq ?_
 obtain ⟨o43,h44,h⟩:=zB h
 refine zO (fun (s:List (List Int)×Int)=>⟨[(2,.loc 2 1 0 0),(3,.loc 3 1 0 0),(5,.p (.slc (v2v (qap (v65 .i64)) r4))),(6,.own 85 1 0 s.1.length),(7,.p (.int .i64 i10)),(8,.p (.slc (v2v (v65 .i64) x12))),(12,.p (.slc (v2v (qap (v65 .i64)) r21))),(13,.p (.int .i64 k27)),(16,.p (.int .i64 s.2))],[(2,.arr 41 3 1 [.p (qaf t1)]),(3,.arr 25 3 1 [.p (qak l2)]),(85,.arr 63 1 1 (v2v AV.p (v2v (qap (v65 .i64)) s.1)))]⟩) (fun (o45:List (List Int))=>tE (cX Tryz.f24 X w D hT) (.exit 6) ⟨[(2,.loc 2 1 0 0),(3,.loc 3 1 0 0),(5,.p (.slc (v2v (qap (v65 .i64)) r4))),(6,.own 85 1 0 o45.length),(7,.p (.int .i64 i10)),(8,.p (.slc (v2v (v65 .i64) x12))),(12,.p (.slc (v2v (qap (v65 .i64)) r21))),(13,.p (.int .i64 k27))],[(2,.arr 41 3 1 [.p (qaf t1)]),(3,.arr 25 3 1 [.p (qak l2)]),(85,.arr 63 1 1 (v2v AV.p (v2v (qap (v65 .i64)) o45)))]⟩) h44 ?_ ?_
 clear h h28 h30 h42 h44
 intro s x h
 obtain ⟨o46,j47⟩:=s
 simp only [qbv] at h
 refine Tm ?_
 obtain ⟨h48,h⟩|⟨h48,h⟩:=zI h
 refine yw 91 true ?_
 refine T2 ?_
 obtain ⟨x49,h50,h50a,h50b,h⟩:=zX h
 refine T2 ?_
 obtain ⟨x51,h52,h52l,h52L,h⟩:=zY 0 h
 refine Mk ?_
 refine T2 ?_
 obtain ⟨x53,h54,h54a,h54b,h⟩:=zX h
 refine T2 ?_
 obtain ⟨x55,h56,h56l,h56L,h⟩:=zY 0 h
 refine Mk ?_
 refine Mu ?_
 obtain ⟨h57,h⟩|⟨h57,h⟩:=zI h
 refine Tr ?_
 obtain ⟨x58,h59,h59a,h59b,h⟩:=zX h
 have h59B:=eq_true (by simpa only [v0m] using h59b)
 refine My ?_
 exact M0 h
 exact M2 h
 refine yw 91 false ?_
 refine yk ?_
 refine Mu ?_
 exact M2 h
 try simp only at h
 refine T1 ?_
 exact M0 h
 exact M2 h
 try simp only at h
 refine T1 ?_
 exact M0 h
 refine Mf ?_
 refine zU ?_
 obtain ⟨r60,h61,h⟩:=zB h
 refine zc (qnw r16.1 _ h61) ?_
 refine M6 ?_
 refine Mq ?_
 obtain ⟨o62,h63,h⟩:=zB h
 refine zO (fun (s:List (List Int)×Int)=>⟨[(2,.loc 2 1 0 0),(3,.loc 3 1 0 0),(5,.p (.slc (v2v (qap (v65 .i64)) r4))),(6,.own 85 1 0 s.1.length),(7,.p (.int .i64 i10)),(8,.p (.slc (v2v (v65 .i64) x12))),(12,.p (.slc (v2v (qap (v65 .i64)) r60))),(13,.p (.int .i64 s.2))],[(2,.arr 41 3 1 [.p (qaf t1)]),(3,.arr 25 3 1 [.p (qak l2)]),(85,.arr 63 1 1 (v2v AV.p (v2v (qap (v65 .i64)) s.1)))]⟩) (fun (o64:List (List Int))=>tE (cX Tryz.f24 X w D hT) (.exit 2) ⟨[(2,.loc 2 1 0 0),(3,.loc 3 1 0 0),(5,.p (.slc (v2v (qap (v65 .i64)) r4))),(6,.own 85 1 0 o64.length),(7,.p (.int .i64 i10))],[(2,.arr 41 3 1 [.p (qaf t1)]),(3,.arr 25 3 1 [.p (qak l2)]),(85,.arr 63 1 1 (v2v AV.p (v2v (qap (v65 .i64)) o64)))]⟩) h63 ?_ ?_
 clear h h11 h13 h13a h13b h15 h17 h18 h61 h63
 intro s x h
 obtain ⟨o65,k66⟩:=s
 simp only [qmu] at h
 refine Mi ?_
 refine M8 ?_
 obtain ⟨h67,h⟩|⟨h67,h⟩:=zI h
 refine M9 ?_
 refine M5 ?_
 obtain ⟨c68,h69,h⟩:=zB h
 refine zO (fun (s:List Int×Int)=>⟨[(2,.loc 2 1 0 0),(3,.loc 3 1 0 0),(5,.p (.slc (v2v (qap (v65 .i64)) r4))),(6,.own 85 1 0 o65.length),(7,.p (.int .i64 i10)),(8,.p (.slc (v2v (v65 .i64) x12))),(12,.p (.slc (v2v (qap (v65 .i64)) r60))),(13,.p (.int .i64 k66)),(14,.own 81 1 0 s.1.length),(15,.p (.int .i64 s.2))],[(2,.arr 41 3 1 [.p (qaf t1)]),(3,.arr 25 3 1 [.p (qak l2)]),(81,.arr 2 1 1 (v2v AV.p (v2v (v65 .i64) s.1))),(85,.arr 63 1 1 (v2v AV.p (v2v (qap (v65 .i64)) o65)))]⟩) (fun (o70:List Int)=>tE (cX Tryz.f24 X w D hT) (.exit 4) ⟨[(2,.loc 2 1 0 0),(3,.loc 3 1 0 0),(5,.p (.slc (v2v (qap (v65 .i64)) r4))),(6,.own 85 1 0 o65.length),(7,.p (.int .i64 i10)),(8,.p (.slc (v2v (v65 .i64) x12))),(12,.p (.slc (v2v (qap (v65 .i64)) r60))),(13,.p (.int .i64 k66)),(14,.own 81 1 0 o70.length)],[(2,.arr 41 3 1 [.p (qaf t1)]),(3,.arr 25 3 1 [.p (qak l2)]),(81,.arr 2 1 1 (v2v AV.p (v2v (v65 .i64) o70))),(85,.arr 63 1 1 (v2v AV.p (v2v (qap (v65 .i64)) o65)))]⟩) h69 ?_ ?_
 clear h h67 h69
 intro s x h
 obtain ⟨c71,j72⟩:=s
 simp only [qms] at h
 refine Mi ?_
 obtain ⟨x73,h74,h74a,h74b,h⟩:=zX h
 refine M8 ?_
 obtain ⟨h75,h⟩|⟨h75,h⟩:=zI h
 refine Tj ?_
 obtain ⟨x76,h77,h77a,h77b,h⟩:=zX h
 obtain ⟨x78,h79,h79a,h79b,h⟩:=zX h
 obtain ⟨h80,h⟩:=qab h
 refine Mh ?_
 exact M0 h
 exact M2 h
 try simp only at h
 refine Md ?_
 refine zW 3 ?_
 refine zM ⟨[(2,.loc 2 1 0 0),(3,.loc 3 1 0 0),(5,.p (.slc (v2v (qap (v65 .i64)) r4))),(7,.p (.int .i64 i10)),(8,.p (.slc (v2v (v65 .i64) x12))),(12,.p (.slc (v2v (qap (v65 .i64)) r60))),(13,.p (.int .i64 k66)),(82,.own 85 1 0 o65.length),(84,.own 84 1 0 1)],[(2,.arr 41 3 1 [.p (qaf t1)]),(3,.arr 25 3 1 [.p (qak l2)]),(84,.arr 63 1 1 [.p (.slc (v2v (v65 .i64) c68))]),(85,.arr 63 1 1 (v2v AV.p (v2v (qap (v65 .i64)) o65)))]⟩ ?_
 obtain ⟨h81,h⟩:=qab h
 refine M6 ?_
 refine Mq ?_
 obtain ⟨o82,h83,h⟩:=zB h
 refine zO (fun (s:List (List Int)×Int)=>⟨[(2,.loc 2 1 0 0),(3,.loc 3 1 0 0),(5,.p (.slc (v2v (qap (v65 .i64)) r4))),(6,.own 85 1 0 s.1.length),(7,.p (.int .i64 i10)),(8,.p (.slc (v2v (v65 .i64) x12))),(12,.p (.slc (v2v (qap (v65 .i64)) r60))),(13,.p (.int .i64 k66)),(16,.p (.int .i64 s.2))],[(2,.arr 41 3 1 [.p (qaf t1)]),(3,.arr 25 3 1 [.p (qak l2)]),(85,.arr 63 1 1 (v2v AV.p (v2v (qap (v65 .i64)) s.1)))]⟩) (fun (o84:List (List Int))=>tE (cX Tryz.f24 X w D hT) (.exit 6) ⟨[(2,.loc 2 1 0 0),(3,.loc 3 1 0 0),(5,.p (.slc (v2v (qap (v65 .i64)) r4))),(6,.own 85 1 0 o84.length),(7,.p (.int .i64 i10)),(8,.p (.slc (v2v (v65 .i64) x12))),(12,.p (.slc (v2v (qap (v65 .i64)) r60))),(13,.p (.int .i64 k66))],[(2,.arr 41 3 1 [.p (qaf t1)]),(3,.arr 25 3 1 [.p (qak l2)]),(85,.arr 63 1 1 (v2v AV.p (v2v (qap (v65 .i64)) o84)))]⟩) h83 ?_ ?_
 clear h h67 h69 h81 h83
 intro s x h
 obtain ⟨o85,j86⟩:=s
 simp only [qmt] at h
 refine Tm ?_
 obtain ⟨h87,h⟩|⟨h87,h⟩:=zI h
 refine yw 91 true ?_
 refine T2 ?_
 obtain ⟨x88,h89,h89a,h89b,h⟩:=zX h
 refine T2 ?_
 obtain ⟨x90,h91,h91l,h91L,h⟩:=zY 0 h
 refine Mk ?_
 refine T2 ?_
 obtain ⟨x92,h93,h93a,h93b,h⟩:=zX h
 refine T2 ?_
 obtain ⟨x94,h95,h95l,h95L,h⟩:=zY 0 h
 refine Mk ?_
 refine Mu ?_
 obtain ⟨h96,h⟩|⟨h96,h⟩:=zI h
 refine Tr ?_
 obtain ⟨x97,h98,h98a,h98b,h⟩:=zX h
 have h98B:=eq_true (by simpa only [v0m] using h98b)
 refine My ?_
 exact M0 h
 exact M2 h
 refine yw 91 false ?_
 refine yk ?_
 refine Mu ?_
 exact M2 h
 try simp only at h
 refine T1 ?_
 exact M0 h
 exact M2 h
 try simp only at h
 refine T1 ?_
 exact M0 h
 exact M2 h
 try simp only at h
 refine Md ?_
 exact M3 h results24
theorem qtc (l1:List Int) (r2:Bool) (h:qke l1=some r2):Con D prog 102 [(.slc (v2v (v65 .i64) l1))] (.bool r2):=by
 refine zP call102 func102 rfl ntmps102 fun X w hT=>?_
 simp only [qke] at h
 refine Ms ?_
 refine M5 ?_
 obtain ⟨o3,h4,h⟩:=zB h
 refine zO (fun (s:Int)=>⟨[(0,.p (.slc (v2v (v65 .i64) l1))),(3,.p (.int .i64 s))],[]⟩) (fun (o:(Unit) ⊕ (Bool))=>match o with | .inl o5=>tE (cX Tryz.f102 X w D hT) (.exit 0) ⟨[(0,.p (.slc (v2v (v65 .i64) l1)))],[]⟩ | .inr o6=>tR prog Tryz.f102 (.bool o6)) h4 ?_ ?_
 clear h h4
 intro i7 x h
 simp only [qnm] at h
 refine T8 ?_
 refine M8 ?_
 obtain ⟨h8,h⟩|⟨h8,h⟩:=zI h
 refine Mw ?_
 obtain ⟨x9,h10,h10a,h10b,h⟩:=zX h
 obtain ⟨x11,h12,h12a,h12b,h⟩:=zX h
 refine Mu ?_
 obtain ⟨h13,h⟩|⟨h13,h⟩:=zI h
 refine Ma ?_
 cases h
 exact ⟨rfl,zT results102⟩
 refine Mj ?_
 exact M0 h
 exact M2 h
 rcases o3 with ⟨⟩ | r14
 try simp only at h
 refine Md ?_
 exact M3 h results102
 exact M7 h
theorem qwz (l1:List (List Int)) (r2:Bool) (h:qkq l1=some r2):Con D prog 58 [(.slc (v2v (qap (v65 .i64)) l1))] (.bool r2):=by
 refine zP call58 func58 rfl ntmps58 fun X w hT=>?_
 simp only [qkq] at h
 refine Ms ?_
 refine M6 ?_
 refine M5 ?_
 obtain ⟨o3,h4,h⟩:=zB h
 refine zO (fun (s:List Int×Int)=>⟨[(0,.p (.slc (v2v (qap (v65 .i64)) l1))),(3,.own 41 1 0 s.1.length),(4,.p (.int .i64 s.2))],[(41,.arr 2 1 1 (v2v AV.p (v2v (v65 .i64) s.1)))]⟩) (fun (o:(Unit) ⊕ (Bool))=>match o with | .inl o5=>tE (cX Tryz.f58 X w D hT) (.exit 0) ⟨[],[]⟩ | .inr o6=>tR prog Tryz.f58 (.bool o6)) h4 ?_ ?_
 clear h h4
 intro s x h
 obtain ⟨a7,i8⟩:=s
 simp only [qds] at h
 refine Mi ?_
 refine M8 ?_
 obtain ⟨h9,h⟩|⟨h9,h⟩:=zI h
 refine Tk ?_
 obtain ⟨x10,h11,h11a,h11b,h⟩:=zX h
 refine zU ?_
 obtain ⟨r12,h13,h⟩:=zB h
 refine zc (qtc x10 _ h13) ?_
 refine M8 ?_
 obtain ⟨h14,h⟩|⟨h14,h⟩:=zI h
 refine Mm ?_
 refine Mq ?_
 obtain ⟨o15,h16,h⟩:=zB h
 refine zO (fun (s:Int)=>⟨[(0,.p (.slc (v2v (qap (v65 .i64)) l1))),(3,.own 41 1 0 a7.length),(4,.p (.int .i64 i8)),(5,.p (.int .i64 s))],[(41,.arr 2 1 1 (v2v AV.p (v2v (v65 .i64) a7)))]⟩) (fun (o:(Unit) ⊕ (Bool))=>match o with | .inl o17=>tE (cX Tryz.f58 X w D hT) (.exit 2) ⟨[(0,.p (.slc (v2v (qap (v65 .i64)) l1))),(3,.own 41 1 0 a7.length),(4,.p (.int .i64 i8))],[(41,.arr 2 1 1 (v2v AV.p (v2v (v65 .i64) a7)))]⟩ | .inr o18=>tR prog Tryz.f58 (.bool o18)) h16 ?_ ?_
 clear h h9 h11 h11a h11b h13 h14 h16
 intro k19 x h
 simp only [qfb] at h
 refine T8 ?_
 obtain ⟨x20,h21,h21a,h21b,h⟩:=zX h
 refine M8 ?_
 obtain ⟨h22,h⟩|⟨h22,h⟩:=zI h
 refine M9 ?_
 obtain ⟨x23,h24,h24a,h24b,h⟩:=zX h
 refine zU ?_
 obtain ⟨r25,h26,h⟩:=zB h
 refine zc (qfn a7 x23 _ h26) ?_
 refine Tp ?_
 obtain ⟨h27,h⟩|⟨h27,h⟩:=zI h
 refine Ma ?_
 cases h
 exact ⟨rfl,zT results58⟩
 refine Mj ?_
 exact M0 h
 exact M2 h
 rcases o15 with ⟨⟩ | r28
 try simp only at h
 refine Tn ?_
 obtain ⟨h29,h⟩:=qab h
 refine Mh ?_
 exact M0 h
 try simp only at h
 refine zZ fun s hq=>?_
 refine yr<|zt<|yr<|zt ?_
 cases h
 refine ⟨rfl,?_⟩
 exact hq
 refine Me ?_
 cases h
 exact ⟨rfl,zT results58⟩
 exact M2 h
 rcases o3 with ⟨⟩ | r30
 try simp only at h
 refine Md ?_
 exact M3 h results58
 exact M7 h
theorem qw0 (t1:Table) (i2:Int) (r3:Int×Bool) (h:qkr t1 i2=some r3):Con D prog 59 [(qaf t1),(.int .i64 i2)] (.tup [(.int .i64 r3.1),(.bool r3.2)]):=by
 refine zP call59 func59 rfl ntmps59 fun X w hT=>?_
 simp only [qkr] at h
 refine Ms ?_
 refine M5 ?_
 obtain ⟨o4,h5,h⟩:=zB h
 refine zO (fun (s:Int)=>⟨[(1,.p (.int .i64 i2)),(2,.loc 2 1 0 0),(6,.p (.int .i64 s))],[(2,.arr 41 3 1 [.p (qaf t1)])]⟩) (fun (o:(Unit) ⊕ (Int×Bool))=>match o with | .inl o6=>tE (cX Tryz.f59 X w D hT) (.exit 0) ⟨[],[]⟩ | .inr o7=>tR prog Tryz.f59 (.tup [(.int .i64 o7.1),(.bool o7.2)])) h5 ?_ ?_
 clear h h5
 intro i8 x h
 simp only [qfc] at h
 refine T8 ?_
 refine M8 ?_
 obtain ⟨h9,h⟩|⟨h9,h⟩:=zI h
 refine M9 ?_
 obtain ⟨x10,h11,h11a,h11b,h⟩:=zX h
 refine M8 ?_
 obtain ⟨h12,h⟩|⟨h12,h⟩:=zI h
 refine Ma ?_
 cases h
 exact ⟨rfl,zT results59⟩
 refine Mj ?_
 exact M0 h
 exact M2 h
 rcases o4 with ⟨⟩ | r13
 try simp only at h
 refine Md ?_
 exact M3 h results59
 exact M7 h
theorem qzk (t1:Table) (l2:List (List Int)) (r3:Bool) (h:qmq t1 l2=some r3):Con D prog 22 [(qaf t1),(.slc (v2v (qap (v65 .i64)) l2))] (.bool r3):=by
 refine zP call22 func22 rfl ntmps22 fun X w hT=>?_
 simp only [qmq] at h
 refine Mc ?_
 refine zU ?_
 obtain ⟨r4,h5,h⟩:=zB h
 refine zc (qwz l2 _ h5) ?_
 refine M8 ?_
 obtain ⟨h6,h⟩|⟨h6,h⟩:=zI h
 refine Mf ?_
 refine M5 ?_
 obtain ⟨o7,h8,h⟩:=zB h
 refine zO (fun (s:Int×Int)=>⟨[(1,.p (.slc (v2v (qap (v65 .i64)) l2))),(2,.loc 2 1 0 0),(5,.p (.int .i64 s.1)),(6,.p (.int .i64 s.2))],[(2,.arr 41 3 1 [.p (qaf t1)])]⟩) (fun (o:(Int) ⊕ (Bool))=>match o with | .inl o9=>tE (cX Tryz.f22 X w D hT) (.exit 0) ⟨[(2,.loc 2 1 0 0),(5,.p (.int .i64 o9))],[(2,.arr 41 3 1 [.p (qaf t1)])]⟩ | .inr o10=>tR prog Tryz.f22 (.bool o10)) h8 ?_ ?_
 clear h h5 h6 h8
 intro s x h
 obtain ⟨n11,i12⟩:=s
 simp only [qhm] at h
 refine Mi ?_
 refine M8 ?_
 obtain ⟨h13,h⟩|⟨h13,h⟩:=zI h
 refine M9 ?_
 obtain ⟨x14,h15,h15a,h15b,h⟩:=zX h
 refine M6 ?_
 refine Mq ?_
 obtain ⟨o16,h17,h⟩:=zB h
 refine zO (fun (s:Int)=>⟨[(1,.p (.slc (v2v (qap (v65 .i64)) l2))),(2,.loc 2 1 0 0),(5,.p (.int .i64 (v4a.wrap (n11+(x14.length:Int))))),(6,.p (.int .i64 i12)),(7,.p (.int .i64 s))],[(2,.arr 41 3 1 [.p (qaf t1)])]⟩) (fun (o:(Unit) ⊕ (Bool))=>match o with | .inl o18=>tE (cX Tryz.f22 X w D hT) (.exit 2) ⟨[(1,.p (.slc (v2v (qap (v65 .i64)) l2))),(2,.loc 2 1 0 0),(5,.p (.int .i64 (v4a.wrap (n11+(x14.length:Int))))),(6,.p (.int .i64 i12))],[(2,.arr 41 3 1 [.p (qaf t1)])]⟩ | .inr o19=>tR prog Tryz.f22 (.bool o19)) h17 ?_ ?_
 clear h h13 h15 h15a h15b h17
 intro k20 x h
 simp only [qhl] at h
 refine T8 ?_
 obtain ⟨x21,h22,h22a,h22b,h⟩:=zX h
 refine M8 ?_
 obtain ⟨h23,h⟩|⟨h23,h⟩:=zI h
 refine Mw ?_
 obtain ⟨x24,h25,h25a,h25b,h⟩:=zX h
 refine yU ?_
 obtain ⟨r26,h27,h⟩:=zB h
 refine yc (qw0 t1 x24 _ h27) ?_
 refine Ti ?_
 refine M8 ?_
 obtain ⟨h28,h⟩|⟨h28,h⟩:=zI h
 refine Mj ?_
 exact M0 h
 refine Ma ?_
 cases h
 exact ⟨rfl,zT results22⟩
 exact M2 h
 rcases o16 with ⟨⟩ | r29
 try simp only at h
 refine T1 ?_
 exact M0 h
 try simp only at h
 refine zZ fun s hq=>?_
 refine yr<|yr<|zt ?_
 cases h
 refine ⟨rfl,?_⟩
 exact hq
 exact M2 h
 rcases o7 with n30 | r31
 try simp only at h
 refine Md ?_
 exact M3 h results22
 exact M7 h
 exact M1 h results22
theorem qnx (c1:Int) (r2:Bool) (h:qgg c1=some r2):Con D prog 189 [(.int .u8 c1)] (.bool r2):=by
 refine zP call189 func189 rfl ntmps189 fun X w hT=>?_
 simp only [qgg] at h
 refine Ms ?_
 refine M6 ?_
 refine zU ?_
 obtain ⟨h3,h⟩|⟨h3,h⟩:=zI h
 refine zw 5 true ?_
 refine Mr ?_
 refine zU ?_
 obtain ⟨h4,h⟩|⟨h4,h⟩:=zI h
 refine zw 9 true ?_
 refine Mn ?_
 exact M3 h results189
 refine zw 9 false ?_
 refine M4 ?_
 obtain ⟨h5,h⟩|⟨h5,h⟩:=zI h
 refine zw 12 true ?_
 refine M4 ?_
 refine zU ?_
 obtain ⟨h6,h⟩|⟨h6,h⟩:=zI h
 refine zw 17 true ?_
 refine zh ?_
 exact M3 h results189
 replace h:=h.symm
 refine zw 17 false ?_
 refine Mr ?_
 exact M3 h results189
 replace h:=h.symm
 refine zw 12 false ?_
 refine Tb ?_
 refine zU ?_
 refine Mr ?_
 exact M3 h results189
 refine zw 5 false ?_
 refine zh ?_
 refine zU ?_
 refine M4 ?_
 obtain ⟨h7,h⟩|⟨h7,h⟩:=zI h
 refine zw 12 true ?_
 refine M4 ?_
 refine zU ?_
 obtain ⟨h8,h⟩|⟨h8,h⟩:=zI h
 refine zw 17 true ?_
 refine zh ?_
 exact M3 h results189
 replace h:=h.symm
 refine zw 17 false ?_
 refine Mr ?_
 exact M3 h results189
 replace h:=h.symm
 refine zw 12 false ?_
 refine Tb ?_
 refine zU ?_
 refine Mr ?_
 exact M3 h results189
theorem qpk (s1:List UInt8) (r2:Bool) (h:qi5 s1=some r2):Con D prog 129 [(.str s1)] (.bool r2):=by
 refine zP call129 func129 rfl ntmps129 fun X w hT=>?_
 simp only [qi5] at h
 refine Mc ?_
 refine zU ?_
 obtain ⟨h3,h⟩|⟨h3,h⟩:=zI h
 refine zw 7 true ?_
 refine Mn ?_
 refine Tg ?_
 refine M8 ?_
 exact M1 h results129
 refine zw 7 false ?_
 refine M4 ?_
 refine zU ?_
 obtain ⟨h4,h⟩|⟨h4,h⟩:=zI h
 refine zw 12 true ?_
 refine Mn ?_
 refine M8 ?_
 exact M1 h results129
 refine zw 12 false ?_
 refine zg ?_
 obtain ⟨c5,h6,h6l,h6L,h⟩:=zY 0 h
 refine zg ?_
 obtain ⟨r7,h8,h⟩:=zB h
 refine zc (qnx ((c5.toNat:Nat):Int) _ h8) ?_
 refine zg ?_
 refine zU ?_
 obtain ⟨h9,h⟩|⟨h9,h⟩:=zI h
 refine zw 18 false ?_
 refine Mr ?_
 refine M8 ?_
 obtain ⟨h10,h⟩|⟨h10,h⟩:=zI h
 exact M1 h results129
 refine Mm ?_
 refine Mq ?_
 obtain ⟨o11,h12,h⟩:=zB h
 refine zO (fun (s:Int)=>⟨[(0,.p (.str s1)),(3,.p (.int .i64 s))],[]⟩) (fun (o:(Unit) ⊕ (Bool))=>match o with | .inl o13=>tE (cX Tryz.f129 X w D hT) (.exit 0) ⟨[],[]⟩ | .inr o14=>tR prog Tryz.f129 (.bool o14)) h12 ?_ ?_
 clear h h3 h4 h6 h6l h6L h8 h9 h10 h12
 intro i15 x h
 simp only [qfj] at h
 refine T8 ?_
 refine M8 ?_
 obtain ⟨h16,h⟩|⟨h16,h⟩:=zI h
 refine M9 ?_
 obtain ⟨c17,h18,h18a,h18b,h⟩:=zX h
 refine zU ?_
 obtain ⟨r19,h20,h⟩:=zB h
 refine zc (qnx ((c17.toNat:Nat):Int) _ h20) ?_
 refine zU ?_
 obtain ⟨h21,h⟩|⟨h21,h⟩:=zI h
 refine zw 33 false ?_
 refine zh ?_
 refine M8 ?_
 refine Mj ?_
 exact M0 h
 refine zw 33 true ?_
 refine M4 ?_
 refine Mr ?_
 obtain ⟨h22,h⟩|⟨h22,h⟩:=zI h
 replace h:=h.symm
 refine zw 38 true ?_
 refine Tb ?_
 refine M8 ?_
 refine Ma ?_
 cases h
 exact ⟨rfl,zT results129⟩
 refine zw 38 false ?_
 refine M4 ?_
 refine Mr ?_
 refine M8 ?_
 obtain ⟨h23,h⟩|⟨h23,h⟩:=zI h
 refine Ma ?_
 cases h
 exact ⟨rfl,zT results129⟩
 refine Mj ?_
 exact M0 h
 exact M2 h
 rcases o11 with ⟨⟩ | r24
 try simp only at h
 refine Md ?_
 exact M3 h results129
 exact M7 h
 refine zw 18 true ?_
 refine zh ?_
 refine M8 ?_
 exact M1 h results129
theorem qw1 (l1:List (List UInt8)) (n2:List UInt8) (r3:Int) (h:qi6 l1 n2=some r3):Con D prog 190 [(.slc (v2v v67 l1)),(.str n2)] (.int .i64 r3):=by
 refine zP call190 func190 rfl ntmps190 fun X w hT=>?_
 simp only [qi6] at h
 refine Ms ?_
 refine M5 ?_
 obtain ⟨o4,h5,h⟩:=zB h
 refine zO (fun (s:Int)=>⟨[(0,.p (.slc (v2v v67 l1))),(1,.p (.str n2)),(5,.p (.int .i64 s))],[]⟩) (fun (o:(Unit) ⊕ (Int))=>match o with | .inl o6=>tE (cX Tryz.f190 X w D hT) (.exit 0) ⟨[],[]⟩ | .inr o7=>tR prog Tryz.f190 (.int .i64 o7)) h5 ?_ ?_
 clear h h5
 intro i8 x h
 simp only [qfk] at h
 refine T8 ?_
 refine M8 ?_
 obtain ⟨h9,h⟩|⟨h9,h⟩:=zI h
 refine M9 ?_
 obtain ⟨x10,h11,h11a,h11b,h⟩:=zX h
 refine M8 ?_
 obtain ⟨h12,h⟩|⟨h12,h⟩:=zI h
 refine Ma ?_
 cases h
 exact ⟨rfl,zT results190⟩
 refine Mj ?_
 exact M0 h
 exact M2 h
 rcases o4 with ⟨⟩ | r13
 try simp only at h
 refine Md ?_
 exact M3 h results190
 exact M7 h
theorem qvo (l1:List (List UInt8)) (r2:Bool) (h:qjx l1=some r2):Con D prog 130 [(.slc (v2v v67 l1))] (.bool r2):=by
 refine zP call130 func130 rfl ntmps130 fun X w hT=>?_
 simp only [qjx] at h
 refine Ms ?_
 refine M5 ?_
 obtain ⟨o3,h4,h⟩:=zB h
 refine zO (fun (s:Int)=>⟨[(0,.p (.slc (v2v v67 l1))),(3,.p (.int .i64 s))],[]⟩) (fun (o:(Unit) ⊕ (Bool))=>match o with | .inl o5=>tE (cX Tryz.f130 X w D hT) (.exit 0) ⟨[],[]⟩ | .inr o6=>tR prog Tryz.f130 (.bool o6)) h4 ?_ ?_
 clear h h4
 intro i7 x h
 simp only [qev] at h
 refine T8 ?_
 refine M8 ?_
 obtain ⟨h8,h⟩|⟨h8,h⟩:=zI h
 refine Mw ?_
 obtain ⟨x9,h10,h10a,h10b,h⟩:=zX h
 refine yU ?_
 obtain ⟨r11,h12,h⟩:=zB h
 refine yc (qpk x9 _ h12) ?_
 refine yU ?_
 obtain ⟨h13,h⟩|⟨h13,h⟩:=zI h
 refine yw 16 false ?_
 refine T2 ?_
 obtain ⟨h14,h⟩:=qab h
 obtain ⟨h15,h⟩:=qab h
 refine Mk ?_
 refine T2 ?_
 obtain ⟨r16,h17,h⟩:=zB h
 refine yc (qw1 (l1.take (i7.toNat)) x9 _ h17) ?_
 refine yg ?_
 refine Mu ?_
 obtain ⟨h18,h⟩|⟨h18,h⟩:=zI h
 refine Ma ?_
 cases h
 exact ⟨rfl,zT results130⟩
 refine Mj ?_
 exact M0 h
 refine yw 16 true ?_
 refine yk ?_
 refine Mu ?_
 refine Ma ?_
 cases h
 exact ⟨rfl,zT results130⟩
 exact M2 h
 rcases o3 with ⟨⟩ | r19
 try simp only at h
 refine Md ?_
 exact M3 h results130
 exact M7 h
theorem qug (l1:List Value) (r2:Bool) (h:qi7 l1=some r2):Con D prog 131 [(.slc (v2v qaj l1))] (.bool r2):=by
 refine zP call131 func131 rfl ntmps131 fun X w hT=>?_
 simp only [qi7] at h
 refine Ms ?_
 refine M5 ?_
 obtain ⟨o3,h4,h⟩:=zB h
 refine zO (fun (s:Int)=>⟨[(0,.p (.slc (v2v qaj l1))),(3,.p (.int .i64 s))],[]⟩) (fun (o:(Unit) ⊕ (Bool))=>match o with | .inl o5=>tE (cX Tryz.f131 X w D hT) (.exit 0) ⟨[],[]⟩ | .inr o6=>tR prog Tryz.f131 (.bool o6)) h4 ?_ ?_
 clear h h4
 intro i7 x h
 simp only [qd1] at h
 refine T8 ?_
 refine M8 ?_
 obtain ⟨h8,h⟩|⟨h8,h⟩:=zI h
 refine M9 ?_
 obtain ⟨x9,h10,h10a,h10b,h⟩:=zX h
 refine zU ?_
 obtain ⟨r11,h12,h⟩:=zB h
 refine zc (qlf x9 _ h12) ?_
 refine M8 ?_
 obtain ⟨h13,h⟩|⟨h13,h⟩:=zI h
 refine Mj ?_
 exact M0 h
 refine Ma ?_
 cases h
 exact ⟨rfl,zT results131⟩
 exact M2 h
 rcases o3 with ⟨⟩ | r14
 try simp only at h
 refine Md ?_
 exact M3 h results131
 exact M7 h
theorem qvp (t1:Table) (r2:Int) (h:qjy t1=some r2):Con D prog 78 [(qaf t1)] (.int .i64 r2):=by
 refine zP call78 func78 rfl ntmps78 fun X w hT=>?_
 simp only [qjy] at h
 refine Mc ?_
 refine zU ?_
 obtain ⟨r3,h4,h⟩:=zB h
 refine zc (qpk t1.Name _ h4) ?_
 refine M8 ?_
 obtain ⟨h5,h⟩|⟨h5,h⟩:=zI h
 refine Mm ?_
 refine zU ?_
 obtain ⟨h6,h⟩|⟨h6,h⟩:=zI h
 refine zw 14 true ?_
 refine zh ?_
 refine M8 ?_
 exact M1 h results78
 refine zw 14 false ?_
 refine M4 ?_
 refine zg ?_
 refine M8 ?_
 obtain ⟨h7,h⟩|⟨h7,h⟩:=zI h
 exact M1 h results78
 refine Mm ?_
 refine zU ?_
 obtain ⟨r8,h9,h⟩:=zB h
 refine zc (qvo t1.Attrs _ h9) ?_
 refine M8 ?_
 obtain ⟨h10,h⟩|⟨h10,h⟩:=zI h
 refine Mf ?_
 refine M5 ?_
 obtain ⟨o11,h12,h⟩:=zB h
 refine zO (fun (s:Int×Int)=>⟨[(1,.loc 1 1 0 0),(3,.p (.int .i64 s.1)),(4,.p (.int .i64 s.2))],[(1,.arr 41 3 1 [.p (qaf t1)])]⟩) (fun (o:(Unit) ⊕ (Int))=>match o with | .inl o13=>tE (cX Tryz.f78 X w D hT) (.exit 0) ⟨[],[]⟩ | .inr o14=>tR prog Tryz.f78 (.int .i64 o14)) h12 ?_ ?_
 clear h h4 h5 h6 h7 h9 h10 h12
 intro s x h
 obtain ⟨b15,i16⟩:=s
 simp only [qg3] at h
 refine Mi ?_
 refine M8 ?_
 obtain ⟨h17,h⟩|⟨h17,h⟩:=zI h
 refine M9 ?_
 obtain ⟨x18,h19,h19a,h19b,h⟩:=zX h
 refine Mo ?_
 refine M8 ?_
 obtain ⟨h20,h⟩|⟨h20,h⟩:=zI h
 refine Me ?_
 cases h
 exact ⟨rfl,zT results78⟩
 refine Mf ?_
 refine Mo ?_
 refine M8 ?_
 obtain ⟨h21,h⟩|⟨h21,h⟩:=zI h
 refine Me ?_
 cases h
 exact ⟨rfl,zT results78⟩
 refine Mf ?_
 refine zU ?_
 obtain ⟨r22,h23,h⟩:=zB h
 refine zc (qug x18.Values _ h23) ?_
 refine M8 ?_
 obtain ⟨h24,h⟩|⟨h24,h⟩:=zI h
 refine Mj ?_
 exact M0 h
 refine Ma ?_
 cases h
 exact ⟨rfl,zT results78⟩
 exact M2 h
 rcases o11 with ⟨⟩ | r25
 try simp only at h
 refine Md ?_
 exact M3 h results78
 exact M7 h
 exact M1 h results78
 exact M1 h results78
theorem qvq (l1:List Int) (r2:Bool) (h:qj1 l1=some r2):Con D prog 127 [(.slc (v2v (v65 .i64) l1))] (.bool r2):=by
 refine zP call127 func127 rfl ntmps127 fun X w hT=>?_
 simp only [qj1] at h
 refine Ms ?_
 refine M5 ?_
 obtain ⟨o3,h4,h⟩:=zB h
 refine zO (fun (s:Int)=>⟨[(0,.p (.slc (v2v (v65 .i64) l1))),(3,.p (.int .i64 s))],[]⟩) (fun (o:(Unit) ⊕ (Bool))=>match o with | .inl o5=>tE (cX Tryz.f127 X w D hT) (.exit 0) ⟨[],[]⟩ | .inr o6=>tR prog Tryz.f127 (.bool o6)) h4 ?_ ?_
 clear h h4
 intro i7 x h
 simp only [qdb] at h
 refine T8 ?_
 refine M8 ?_
 obtain ⟨h8,h⟩|⟨h8,h⟩:=zI h
 refine M9 ?_
 obtain ⟨x9,h10,h10a,h10b,h⟩:=zX h
 refine zU ?_
 obtain ⟨h11,h⟩|⟨h11,h⟩:=zI h
 refine zw 15 true ?_
 refine zh ?_
 refine M8 ?_
 refine Ma ?_
 cases h
 exact ⟨rfl,zT results127⟩
 refine zw 15 false ?_
 refine M4 ?_
 refine Mr ?_
 refine M8 ?_
 obtain ⟨h12,h⟩|⟨h12,h⟩:=zI h
 refine Ma ?_
 cases h
 exact ⟨rfl,zT results127⟩
 refine Mj ?_
 exact M0 h
 exact M2 h
 rcases o3 with ⟨⟩ | r13
 try simp only at h
 refine Md ?_
 exact M3 h results127
 exact M7 h
theorem qof (r1:List Row) (a2:Int) (v3:Value) (r4:Int) (h:qhr r1 a2 v3=some r4):Con D prog 247 [(.slc (v2v qao r1)),(.int .i64 a2),(qaj v3)] (.int .i64 r4):=by
 refine zP call247 func247 rfl ntmps247 fun X w hT=>?_
 simp only [qhr] at h
 refine Ms ?_
 refine M6 ?_
 refine M5 ?_
 obtain ⟨n5,h6,h⟩:=zB h
 refine zO (fun (s:Int×Int)=>⟨[(0,.p (.slc (v2v qao r1))),(1,.p (.int .i64 a2)),(5,.loc 5 1 0 0),(7,.p (.int .i64 s.1)),(8,.p (.int .i64 s.2))],[(5,.arr 142 3 1 [.p (qaj v3)])]⟩) (fun (o7:Int)=>tE (cX Tryz.f247 X w D hT) (.exit 0) ⟨[(7,.p (.int .i64 o7))],[]⟩) h6 ?_ ?_
 clear h h6
 intro s x h
 obtain ⟨n8,i9⟩:=s
 simp only [qg6] at h
 refine Mi ?_
 refine M8 ?_
 obtain ⟨h10,h⟩|⟨h10,h⟩:=zI h
 refine Mw ?_
 obtain ⟨x11,h12,h12a,h12b,h⟩:=zX h
 obtain ⟨x13,h14,h14a,h14b,h⟩:=zX h
 refine yU ?_
 obtain ⟨r15,h16,h⟩:=zB h
 refine yc (qhb x13 v3 _ h16) ?_
 refine Mu ?_
 obtain ⟨h17,h⟩|⟨h17,h⟩:=zI h
 refine Tc ?_
 refine Mh ?_
 exact M0 h
 refine Mj ?_
 exact M0 h
 exact M2 h
 try simp only at h
 refine Md ?_
 exact M3 h results247
theorem quh (r1:List Row) (a2:Int) (r3:Int) (v4:Value) (o5:Value) (r6:Bool) (h:qja r1 a2 r3 v4 o5=some r6):Con D prog 227 [(.slc (v2v qao r1)),(.int .i64 a2),(.int .i64 r3),(qaj v4),(qaj o5)] (.bool r6):=by
 refine zP call227 func227 rfl ntmps227 fun X w hT=>?_
 simp only [qja] at h
 refine Mc ?_
 refine M8 ?_
 obtain ⟨h7,h⟩|⟨h7,h⟩:=zI h
 refine zi<|zs<|zd ?_
 refine yU ?_
 obtain ⟨r8,h9,h⟩:=zB h
 refine yc (qof r1 a2 v4 _ h9) ?_
 refine yU ?_
 obtain ⟨r10,h11,h⟩:=zB h
 refine yc (qof r1 a2 o5 _ h11) ?_
 refine yU ?_
 refine yd<|zn<|zq<|zt ?_
 exact T7 h results227
 refine Mm ?_
 refine M8 ?_
 obtain ⟨h12,h⟩|⟨h12,h⟩:=zI h
 refine Mt ?_
 obtain ⟨h13,h⟩|⟨h13,h⟩:=zI h
 refine zw 28 true ?_
 refine M4 ?_
 refine zg ?_
 obtain ⟨h14,h⟩|⟨h14,h⟩:=zI h
 replace h:=h.symm
 refine zw 32 true ?_
 refine Tb ?_
 refine T3 ?_
 exact T7 h results227
 replace h:=h.symm
 refine zw 32 false ?_
 refine M4 ?_
 refine M4 ?_
 refine Mr ?_
 refine T3 ?_
 exact T7 h results227
 refine zw 28 false ?_
 refine zh ?_
 refine T3 ?_
 exact T7 h results227
 refine Mf ?_
 refine zU ?_
 obtain ⟨r15,h16,h⟩:=zB h
 refine zc (qhb v4 o5 _ h16) ?_
 refine M6 ?_
 refine zU ?_
 obtain ⟨h17,h⟩|⟨h17,h⟩:=zI h
 refine zw 47 true ?_
 refine Mr ?_
 refine zU ?_
 obtain ⟨h18,h⟩|⟨h18,h⟩:=zI h
 refine zw 51 true ?_
 refine zh ?_
 exact M3 h results227
 refine zw 51 false ?_
 refine M4 ?_
 obtain ⟨h19,h⟩|⟨h19,h⟩:=zI h
 replace h:=h.symm
 refine zw 54 true ?_
 refine M4 ?_
 exact M3 h results227
 replace h:=h.symm
 refine zw 54 false ?_
 refine Tb ?_
 exact M3 h results227
 refine zw 47 false ?_
 refine zh ?_
 refine zU ?_
 refine M4 ?_
 obtain ⟨h20,h⟩|⟨h20,h⟩:=zI h
 replace h:=h.symm
 refine zw 54 true ?_
 refine M4 ?_
 exact M3 h results227
 replace h:=h.symm
 refine zw 54 false ?_
 refine Tb ?_
 exact M3 h results227
end Go.Proofs.YtmlegeeinnkhkaaGreat
