/- Each function of the program computes what its Lean function says, where that has a value. -/
import Derived.Test.YtmlegeeinnkhkaaGreatW1
set_option linter.unusedVariables false
set_option linter.unusedSimpArgs false
set_option maxHeartbeats 4000000
set_option maxRecDepth 20000
open And renaming intro→vzq
open Int renaming fdiv→vw5,tmod→vxa
open Go.IntKind renaming i64→vxc,u64→vxe
open List renaming map→vwb
open Option.some renaming inj→vwz
namespace Go.Proofs.YtmlegeeinnkhkaaGreat
open Go Go.Ab Tryz
theorem qmx {D:Prop} (d1:List (List Int)) (r2:(List (Int×Int))×Int×Bool) (h:qep d1=some r2):Con D Tryz.prog 68 [(.slc (vwb (qat (PV.int .i64)) d1))] (.tup [(.mapv (qmc (PV.int .i64) r2.1) (qna (PV.int .i64) r2.1)),(.int .i64 r2.2.1),(.bool r2.2.2)]):=by
 refine zP call68 func68 rfl ntmps68 fun X w hT=>?_
 simp only [qep] at h
 refine zs<|zr ?_
 refine zU<|zl<|zn<|zs<|zr ?_
 refine zU<|zl<|zn<|zs<|zr ?_
 refine zU<|zl<|zn<|zs<|zs<|zr ?_
 refine zU<|zl<|zn<|zb ?_
 obtain ⟨o3,h4,h⟩:=zB h
 refine zO (fun (s:(List (Int×Int))×Int×Int)=>⟨[(5,.mapo 15 1),(6,.p (.int .i64 s.2.1)),(16,.p (.slc (vwb (qat (PV.int .i64)) d1))),(17,.p (.int .i64 (d1.length:Int))),(18,.p (.int .i64 s.2.2))],[(15,.map 1 (vwb AV.p (qmc (PV.int .i64) s.1)) (vwb AV.p (qna (PV.int .i64) s.1)))]⟩) (fun (o:((List (Int×Int))×Int) ⊕ ((List (Int×Int))×Int×Bool))=>match o with | .inl o5=>tE (cX Tryz.f68 X w D hT) (.exit 0) ⟨[(5,.mapo 15 1),(6,.p (.int .i64 o5.2))],[(15,.map 1 (vwb AV.p (qmc (PV.int .i64) o5.1)) (vwb AV.p (qna (PV.int .i64) o5.1)))]⟩ | .inr o6=>tR Tryz.prog Tryz.f68 (.tup [(.mapv (qmc (PV.int .i64) o6.1) (qna (PV.int .i64) o6.1)),(.int .i64 o6.2.1),(.bool o6.2.2)])) h4 ?_ ?_
 clear h h4
 intro s x h
 obtain ⟨o7,p8,t9⟩:=s
 simp only [qbi] at h
 dsimp only
 refine zs<|zr ?_
 refine zU<|zl<|zn<|zs ?_
 obtain ⟨h10,h⟩|⟨h10,h⟩:=zI h
 refine zi<|zk<|zn<|zs<|zb<|zs<|zr ?_
 obtain ⟨x11,h12,h12a,h12b,h⟩:=zX h
 refine zU<|zl<|zn<|zs<|zs<|zr ?_
 refine zU<|zl<|zn ?_
 obtain ⟨h13,h⟩|⟨h13,h⟩:=zI h
 refine zi<|zs<|zr ?_
 refine zU<|zl<|zn<|zq<|zt<|yr<|zt ?_
 cases h
 exact ⟨rfl,zT results68⟩
 refine zj<|zk<|zn<|zs<|zr ?_
 refine zU<|zl<|zn<|zs<|zs<|zr ?_
 refine zU<|zl<|zn<|zb ?_
 obtain ⟨o14,h15,h⟩:=zB h
 refine zO (fun (s:(List (Int×Int))×Int×Int)=>⟨[(5,.mapo 15 1),(6,.p (.int .i64 p8)),(7,.p (.int .i64 t9)),(8,.p (.slc (vwb (PV.int .i64) x11))),(9,.p (.int .i64 s.2.1)),(16,.p (.slc (vwb (qat (PV.int .i64)) d1))),(17,.p (.int .i64 (d1.length:Int))),(18,.p (.int .i64 t9)),(26,.p (.slc (vwb (PV.int .i64) x11))),(27,.p (.int .i64 (x11.length:Int))),(28,.p (.int .i64 s.2.2))],[(15,.map 1 (vwb AV.p (qmc (PV.int .i64) s.1)) (vwb AV.p (qna (PV.int .i64) s.1)))]⟩) (fun (o:((List (Int×Int))) ⊕ ((List (Int×Int))×Int×Bool))=>match o with | .inl o16=>tE (cX Tryz.f68 X w D hT) (.exit 2) ⟨[(5,.mapo 15 1),(6,.p (.int .i64 p8)),(8,.p (.slc (vwb (PV.int .i64) x11))),(16,.p (.slc (vwb (qat (PV.int .i64)) d1))),(17,.p (.int .i64 (d1.length:Int))),(18,.p (.int .i64 t9))],[(15,.map 1 (vwb AV.p (qmc (PV.int .i64) o16)) (vwb AV.p (qna (PV.int .i64) o16)))]⟩ | .inr o17=>tR Tryz.prog Tryz.f68 (.tup [(.mapv (qmc (PV.int .i64) o17.1) (qna (PV.int .i64) o17.1)),(.int .i64 o17.2.1),(.bool o17.2.2)])) h15 ?_ ?_
 clear h h10 h12 h12a h12b h13 h15
 intro s x h
 obtain ⟨o18,b19,t20⟩:=s
 simp only [qdm] at h
 dsimp only
 refine zs<|zr ?_
 refine zU<|zl<|zn<|zs ?_
 obtain ⟨h21,h⟩|⟨h21,h⟩:=zI h
 refine zi<|zk<|zn<|zs<|zb<|zs<|zr ?_
 obtain ⟨x22,h23,h23a,h23b,h⟩:=zX h
 refine zU<|zl<|zn<|zs<|zs<|zr ?_
 refine zU<|zl<|zn<|zs<|zr ?_
 refine zU ?_
 obtain ⟨h24,h⟩|⟨h24,h⟩:=zI h
 refine zw 39 true ?_
 refine zh ?_
 refine zU<|zl<|zn ?_
 refine zi<|zs<|zr ?_
 refine zU<|zl<|zn<|zq<|zt<|yr<|zt ?_
 cases h
 exact ⟨rfl,zT results68⟩
 refine zw 39 false ?_
 refine zg ?_
 refine zg ?_
 refine zg ?_
 refine zU<|zl<|zn ?_
 obtain ⟨h25,h⟩|⟨h25,h⟩:=zI h
 refine zi<|zs<|zr ?_
 refine zU<|zl<|zn<|zq<|zt<|yr<|zt ?_
 cases h
 exact ⟨rfl,zT results68⟩
 refine zj<|zk<|zn<|zs<|zr ?_
 refine zU<|zl<|zn<|zr ?_
 refine zU<|zl<|yn<|zn<|zr ?_
 refine zU<|zl ?_
 cases h
 exact ⟨rfl,zE⟩
 refine zj<|zx<|ze ?_
 cases h
 exact ⟨rfl,zE⟩
 rcases o14 with o26 | r27
 try simp only at h
 refine zA<|yh<|zn<|zs<|zr ?_
 refine zU<|zl<|zn<|zr ?_
 refine zU<|zl<|yn<|zn<|zr ?_
 refine zU<|zl ?_
 cases h
 exact ⟨rfl,zE⟩
 try simp only at h
 refine zZ fun s hq=>?_
 refine yr<|zt<|yr<|zt ?_
 cases h
 refine ⟨rfl,?_⟩
 exact hq
 refine zj<|zx<|ze ?_
 cases h
 exact ⟨rfl,zE⟩
 rcases o3 with ⟨o28,p29⟩ | r30
 try simp only at h
 refine zA<|yh<|zn<|zs<|zr ?_
 refine zU<|zl<|zn<|zq ?_
 cases h
 exact zT results68
 try simp only at h
 refine zZ fun s hq=>?_
 refine yr<|zt ?_
 cases h
 exact hq
theorem qkh {D:Prop} (f1:List (List Int)) (t2:List (List Int)) (r3:Ratio×Int) (h:qcq f1 t2=some r3):Con D Tryz.prog 30 [(.slc (vwb (qat (PV.int .i64)) f1)),(.slc (vwb (qat (PV.int .i64)) t2))] (.tup [(qg3 r3.1),(.int .i64 r3.2)]):=by
 refine zP call30 func30 rfl ntmps30 fun X w hT=>?_
 simp only [qcq] at h
 refine zs<|zr ?_
 refine zU<|zl<|zn<|zs<|zr ?_
 refine zU ?_
 obtain ⟨r4,h5,h⟩:=zB h
 refine zc (qmx f1 _ h5) ?_
 refine zU<|zl<|zn<|zs<|zr ?_
 refine zU ?_
 obtain ⟨r6,h7,h⟩:=zB h
 refine zc (qmx t2 _ h7) ?_
 refine zU<|zl<|zn<|zs<|zs<|zr ?_
 refine zU ?_
 obtain ⟨h8,h⟩|⟨h8,h⟩:=zI h
 refine zw 34 false ?_
 refine zg ?_
 refine zg ?_
 refine zU<|zl<|zn ?_
 obtain ⟨h9,h⟩|⟨h9,h⟩:=zI h
 refine zj<|zk<|zn<|zs<|zs<|zr ?_
 refine zU<|zl<|zn ?_
 obtain ⟨h10,h⟩|⟨h10,h⟩:=zI h
 refine zi<|zs<|zr ?_
 refine zU<|zl<|zn<|zq<|zt ?_
 cases h
 exact zT results30
 refine zj<|zk<|zn<|zs<|zr ?_
 refine zU<|zl<|zn<|zs<|zs<|zr ?_
 refine zU<|zl<|zn<|zb ?_
 obtain ⟨b11,h12,h⟩:=zB h
 refine zO (fun (s:Int×Int)=>⟨[(4,.loc 4 1 0 0),(7,.p (.int .i64 r4.2.1)),(9,.p (.mapv (qmc (PV.int .i64) r6.1) (qna (PV.int .i64) r6.1))),(12,.p (.int .i64 s.1)),(42,.p (.slc (vwb (qat (PV.int .i64)) f1))),(43,.p (.int .i64 (f1.length:Int))),(44,.p (.int .i64 s.2))],[(4,.arr 76 2 1 [.p (.agg [.int .i64 0,.int .i64 0])])]⟩) (fun (o13:Int)=>tE (cX Tryz.f30 X w D hT) (.exit 0) ⟨[(4,.loc 4 1 0 0),(7,.p (.int .i64 r4.2.1)),(12,.p (.int .i64 o13))],[(4,.arr 76 2 1 [.p (.agg [.int .i64 0,.int .i64 0])])]⟩) h12 ?_ ?_
 clear h h5 h7 h8 h9 h10 h12
 intro s x h
 obtain ⟨b14,t15⟩:=s
 simp only [qav] at h
 dsimp only
 refine zs<|zr ?_
 refine zU<|zl<|zn<|zs ?_
 obtain ⟨h16,h⟩|⟨h16,h⟩:=zI h
 refine zi<|zk<|zn<|zs<|zb<|zs<|zr ?_
 obtain ⟨x17,h18,h18a,h18b,h⟩:=zX h
 refine zU<|zl<|zn<|zs<|zr ?_
 refine zU<|zl<|zn<|zs<|zr ?_
 refine zU<|zl<|zn<|zb ?_
 obtain ⟨b19,h20,h⟩:=zB h
 refine zO (fun (s:Int×(List (Int×Int))×Int)=>⟨[(4,.loc 4 1 0 0),(7,.p (.int .i64 r4.2.1)),(9,.p (.mapv (qmc (PV.int .i64) r6.1) (qna (PV.int .i64) r6.1))),(12,.p (.int .i64 s.1)),(15,.mapo 48 1),(42,.p (.slc (vwb (qat (PV.int .i64)) f1))),(43,.p (.int .i64 (f1.length:Int))),(44,.p (.int .i64 t15)),(49,.p (.slc (vwb (PV.int .i64) x17))),(50,.p (.int .i64 (x17.length:Int))),(51,.p (.int .i64 s.2.2))],[(4,.arr 76 2 1 [.p (.agg [.int .i64 0,.int .i64 0])]),(48,.map 1 (vwb AV.p (qmc (PV.int .i64) s.2.1)) (vwb AV.p (qna (PV.int .i64) s.2.1)))]⟩) (fun (o21:Int)=>tE (cX Tryz.f30 X w D hT) (.exit 2) ⟨[(4,.loc 4 1 0 0),(7,.p (.int .i64 r4.2.1)),(9,.p (.mapv (qmc (PV.int .i64) r6.1) (qna (PV.int .i64) r6.1))),(12,.p (.int .i64 o21)),(42,.p (.slc (vwb (qat (PV.int .i64)) f1))),(43,.p (.int .i64 (f1.length:Int))),(44,.p (.int .i64 t15))],[(4,.arr 76 2 1 [.p (.agg [.int .i64 0,.int .i64 0])])]⟩) h20 ?_ ?_
 clear h h16 h18 h18a h18b h20
 intro s x h
 obtain ⟨b22,c23,t24⟩:=s
 simp only [qcb] at h
 dsimp only
 refine zs<|zr ?_
 refine zU<|zl<|zn<|zs ?_
 obtain ⟨h25,h⟩|⟨h25,h⟩:=zI h
 refine zi<|zk<|zn<|zs<|zb<|zs<|zr ?_
 obtain ⟨x26,h27,h27a,h27b,h⟩:=zX h
 refine zU<|zl<|zn<|zs<|zr ?_
 refine zU<|zl<|zn<|zs<|zr ?_
 refine zU<|zl<|zn ?_
 obtain ⟨h28,h⟩|⟨h28,h⟩:=zI h
 refine zi<|zs<|zr ?_
 refine zU<|zl<|zn<|zr ?_
 refine zU<|zl<|yn<|zn<|zr ?_
 refine zU<|zl ?_
 cases h
 exact ⟨rfl,zE⟩
 refine zj<|zk<|yn<|zn<|zr ?_
 refine zU<|zl ?_
 cases h
 exact ⟨rfl,zE⟩
 refine zj<|zx<|ze ?_
 cases h
 exact ⟨rfl,zE⟩
 try simp only at h
 refine zA<|yh<|yn<|zn<|zr ?_
 refine zU<|zl ?_
 cases h
 exact ⟨rfl,zE⟩
 refine zj<|zx<|ze ?_
 cases h
 exact ⟨rfl,zE⟩
 try simp only at h
 refine zA<|yh<|zn<|zs<|zr ?_
 refine zU ?_
 obtain ⟨r29,h30,h⟩:=zB h
 refine zc (qq3 b11 r4.2.1 _ h30) ?_
 refine zU<|zl<|zn<|zq ?_
 cases h
 exact zT results30
 refine zi<|zs<|zr ?_
 refine zU<|zl<|zn<|zq<|zt ?_
 cases h
 exact zT results30
 refine zw 34 true ?_
 refine zh ?_
 refine zU<|zl<|zn ?_
 refine zi<|zs<|zr ?_
 refine zU<|zl<|zn<|zq<|zt ?_
 cases h
 exact zT results30
theorem qtm {D:Prop} (f1:List (List Int)) (t2:List (List Int)) (r3:Ratio×Int) (h:qin f1 t2=some r3):Con D Tryz.prog 32 [(.slc (vwb (qat (PV.int .i64)) f1)),(.slc (vwb (qat (PV.int .i64)) t2))] (.tup [(qg3 r3.1),(.int .i64 r3.2)]):=by
 refine zP call32 func32 rfl ntmps32 fun X w hT=>?_
 simp only [qin] at h
 refine zs<|zr ?_
 refine zU<|zl<|zn<|zs<|zr ?_
 refine zU ?_
 obtain ⟨r4,h5,h⟩:=zB h
 refine zc (qkh t2 f1 _ h5) ?_
 refine zU<|zl<|zn<|zq ?_
 cases h
 exact zT results32
theorem qou {D:Prop} (r1:Table×Linkage) (h:qf2=some r1):Con D Tryz.prog 39 [] (.tup [(qap r1.1),(qai r1.2)]):=by
 refine zP call39 func39 rfl ntmps39 fun X w hT=>?_
 simp only [qf2] at h
 refine zs<|zr ?_
 refine zU<|zl<|zn<|zs<|zr ?_
 refine zU<|zl<|zn<|zs<|zs<|zr ?_
 refine zU<|zl<|zn<|zb ?_
 refine zL ⟨[(0,.loc 0 1 0 0),(1,.loc 1 1 0 0),(2,.loc 2 1 0 0),(7,.own 7 1 0 4),(8,.p (.int .i64 4)),(9,.p (.int .i64 0))],[(0,.arr 41 3 1 [.agg [.p (.str []),.nils,.nils]]),(1,.arr 25 3 1 [.agg [.nils,.nils,.nils]]),(2,.arr 41 3 1 [.agg [.p (.str [112]),.own 5 1 0 1,.nils]]),(5,.arr 9 1 1 [.p (.str [110,97,109,101])]),(7,.arr 9 1 1 [.p (.str [97,110,110]),.p (.str [97,110,110,101]),.p (.str [97,110,110,101,115]),.p (.str [98,111,98])])]⟩ ?_
 obtain ⟨l2,h3,h⟩:=zB h
 replace h3:=vwz h3
 refine qnl (st':=⟨[(0,.loc 0 1 0 0),(1,.loc 1 1 0 0),(2,.loc 2 1 0 0),(7,.own 7 1 0 l2.length),(8,.p (.int .i64 4)),(9,.p (.int .i64 0))],[(0,.arr 41 3 1 [.agg [.p (.str []),.nils,.nils]]),(1,.arr 25 3 1 [.agg [.nils,.nils,.nils]]),(2,.arr 41 3 1 [.agg [.p (.str [112]),.own 5 1 0 1,.nils]]),(5,.arr 9 1 1 [.p (.str [110,97,109,101])]),(7,.arr 9 1 1 (vwb AV.p (vwb PV.str l2)))]⟩) (by simp only [go_sem,seval,←h3];all_goals ((repeat' refine vzq ?_ ?_) <;> first | rfl | (simp;done) | (simp;rfl) | (simp [*];done) | (simp [*];rfl))) ?_
 have h3n:l2.length=4:=by rw [←h3];rfl
 clear h3
 obtain ⟨t4,h5,h⟩:=zB h
 refine zO (fun (s:List Row×Int)=>⟨[(0,.loc 0 1 0 0),(1,.loc 1 1 0 0),(2,.loc 2 1 0 0),(7,.own 7 1 0 l2.length),(8,.p (.int .i64 4)),(9,.p (.int .i64 s.2))],[(0,.arr 41 3 1 [.agg [.p (.str []),.nils,.nils]]),(1,.arr 25 3 1 [.agg [.nils,.nils,.nils]]),(2,.arr 41 3 1 [.agg [.p (.str [112]),.own 5 1 0 ([[110,97,109,101]]).length,.own 23 1 0 s.1.length]]),(5,.arr 9 1 1 (vwb AV.p (vwb PV.str [[110,97,109,101]]))),(7,.arr 9 1 1 (vwb AV.p (vwb PV.str l2))),(23,.arr 66 2 1 (vwb AV.p (vwb qay s.1)))]⟩) (fun (o6:List Row)=>tE (cX Tryz.f39 X w D hT) (.exit 0) ⟨[(0,.loc 0 1 0 0),(1,.loc 1 1 0 0),(2,.loc 2 1 0 0)],[(0,.arr 41 3 1 [.agg [.p (.str []),.nils,.nils]]),(1,.arr 25 3 1 [.agg [.nils,.nils,.nils]]),(2,.arr 41 3 1 [.agg [.p (.str [112]),.own 5 1 0 ([[110,97,109,101]]).length,.own 23 1 0 o6.length]]),(5,.arr 9 1 1 (vwb AV.p (vwb PV.str [[110,97,109,101]]))),(23,.arr 66 2 1 (vwb AV.p (vwb qay o6)))]⟩) h5 ?_ ?_
 clear h h3n h5
 intro s x h
 obtain ⟨t7,t8⟩:=s
 simp only [qhq] at h
 dsimp only
 refine zs<|zr ?_
 refine zU<|zl<|zn<|zs ?_
 obtain ⟨h9,h⟩|⟨h9,h⟩:=zI h
 refine zi<|zk<|zn<|zs<|zb<|zs<|zr ?_
 obtain ⟨x10,h11,h11a,h11b,h⟩:=zX h
 refine zU<|zl<|zn<|zr ?_
 refine zW 9 ?_
 refine zM ⟨[(0,.loc 0 1 0 0),(1,.loc 1 1 0 0),(2,.loc 2 1 0 0),(7,.own 7 1 0 l2.length),(8,.p (.int .i64 4)),(9,.p (.int .i64 t8)),(15,.own 23 1 0 t7.length),(22,.own 22 1 0 1)],[(0,.arr 41 3 1 [.agg [.p (.str []),.nils,.nils]]),(1,.arr 25 3 1 [.agg [.nils,.nils,.nils]]),(2,.arr 41 3 1 [.agg [.p (.str [112]),.own 5 1 0 ([[110,97,109,101]]).length,.own 23 1 0 t7.length]]),(5,.arr 9 1 1 (vwb AV.p (vwb PV.str [[110,97,109,101]]))),(7,.arr 9 1 1 (vwb AV.p (vwb PV.str l2))),(22,.arr 66 2 1 [.p (.agg [.int .i64 (vxc.wrap (t8+1)),.slc (vwb qak [(Value.mk 2 0 x10)])])]),(23,.arr 66 2 1 (vwb AV.p (vwb qay t7)))]⟩ ?_
 obtain ⟨h12,h⟩:=qab h
 refine zU<|zl<|yn<|zn<|zr ?_
 refine zU<|zl ?_
 cases h
 exact ⟨rfl,zE⟩
 refine zj<|zx<|ze ?_
 cases h
 exact ⟨rfl,zE⟩
 try simp only at h
 refine zA<|yh<|zn<|zs<|zr ?_
 refine zU<|zl<|zn<|zq ?_
 cases h
 exact zT results39
theorem qrz {D:Prop} (a1:Drossref04_Wide) (r2:Bool) (h:qgs a1=some r2):Con D Tryz.prog 191 [(qae a1)] (.bool r2):=by
 refine zP call191 func191 rfl ntmps191 fun X w hT=>?_
 simp only [qgs] at h
 refine zs<|zr ?_
 refine zU<|zl<|zn<|zs<|zr ?_
 refine zU ?_
 obtain ⟨h3,h⟩|⟨h3,h⟩:=zI h
 replace h:=h.symm
 refine zw 6 true ?_
 refine zg ?_
 refine zg ?_
 refine zg ?_
 refine zU<|zl<|zn<|zq ?_
 cases h
 exact zT results191
 refine zw 6 false ?_
 refine zh ?_
 refine zU<|zl<|zn<|zq ?_
 cases h
 exact zT results191
theorem qg4 {D:Prop} (a1:Drossref04_Wide) (b2:Drossref04_Wide) (r3:Bool) (h:qcm a1 b2=some r3):Con D Tryz.prog 193 [(qae a1),(qae b2)] (.bool r3):=by
 refine zP call193 func193 rfl ntmps193 fun X w hT=>?_
 simp only [qcm] at h
 refine zs<|zr ?_
 refine zU<|zl<|zn<|zs<|zr ?_
 refine zU ?_
 obtain ⟨h4,h⟩|⟨h4,h⟩:=zI h
 refine zw 10 true ?_
 refine zh ?_
 refine zU<|zl<|zn<|zq ?_
 cases h
 exact zT results193
 refine zw 10 false ?_
 refine zg ?_
 refine zg ?_
 refine zg ?_
 refine zg ?_
 refine zg ?_
 refine zg ?_
 obtain ⟨h5,h⟩|⟨h5,h⟩:=zI h
 replace h:=h.symm
 refine zw 16 true ?_
 refine zg ?_
 refine zg ?_
 refine zg ?_
 refine zg ?_
 refine zg ?_
 refine zg ?_
 refine zU<|zl<|zn<|zq ?_
 cases h
 exact zT results193
 replace h:=h.symm
 refine zw 16 false ?_
 refine zh ?_
 refine zg ?_
 refine zU<|zl<|zn<|zq ?_
 cases h
 exact zT results193
theorem qg5 {D:Prop} (a1:Drossref04_Wide) (b2:Drossref04_Wide) (r3:Drossref04_Wide) (h:qcy a1 b2=some r3):Con D Tryz.prog 228 [(qae a1),(qae b2)] (qae r3):=by
 refine zP call228 func228 rfl ntmps228 fun X w hT=>?_
 simp only [qcy] at h
 refine zs<|zr ?_
 refine zU<|zl<|zn<|zs<|zr ?_
 refine zU ?_
 obtain ⟨r4,h5,h⟩:=zB h
 refine zE3 (vc9 vkd h5) ?_
 refine zU<|zl<|zn<|zs<|zr ?_
 refine zU ?_
 obtain ⟨r6,h7,h⟩:=zB h
 refine zE3 (vc9 vkd h7) ?_
 refine zU<|zl<|zn<|zs<|zr ?_
 refine zU<|zl<|zn<|zq ?_
 cases h
 exact zT results228
theorem qkw {D:Prop} (a1:Drossref04_Wide) (b2:Drossref04_Wide) (r3:Drossref04_Wide) (h:qfn a1 b2=some r3):Con D Tryz.prog 229 [(qae a1),(qae b2)] (qae r3):=by
 refine zP call229 func229 rfl ntmps229 fun X w hT=>?_
 simp only [qfn] at h
 refine zs<|zr ?_
 refine zU<|zl<|zn<|zs<|zr ?_
 refine zU ?_
 obtain ⟨r4,h5,h⟩:=zB h
 refine zE3 (vda vke h5) ?_
 refine zU<|zl<|zn<|zs<|zr ?_
 refine zU ?_
 obtain ⟨r6,h7,h⟩:=zB h
 refine zE3 (vda vke h7) ?_
 refine zU<|zl<|zn<|zs<|zr ?_
 refine zU<|zl<|zn<|zq ?_
 cases h
 exact zT results229
theorem qic {D:Prop} (a1:Drossref04_Wide) (b2:Drossref04_Wide) (r3:Drossref04_Wide×Drossref04_Wide) (h:qed a1 b2=some r3):Con D Tryz.prog 192 [(qae a1),(qae b2)] (.tup [(qae r3.1),(qae r3.2)]):=by
 refine zP call192 func192 rfl ntmps192 fun X w hT=>?_
 simp only [qed] at h
 refine zs<|zr ?_
 refine zU<|zl<|zn<|zs<|zr ?_
 refine zU<|zl<|zn<|zs<|zs<|zr ?_
 refine zU<|zl<|zn<|zb ?_
 obtain ⟨o4,h5,h⟩:=zB h
 refine zO (fun (s:Drossref04_Wide×Drossref04_Wide×Int)=>⟨[(2,.loc 2 1 0 0),(3,.loc 3 1 0 0),(4,.loc 4 1 0 0),(5,.loc 5 1 0 0),(6,.loc 6 1 0 0),(7,.loc 7 1 0 0),(8,.p (.int .i64 s.2.2))],[(2,.arr 191 2 1 [.p (qae a1)]),(3,.arr 191 2 1 [.p (qae b2)]),(4,.arr 191 2 1 [.p (.agg [.int .u64 0,.int .u64 0])]),(5,.arr 191 2 1 [.p (.agg [.int .u64 0,.int .u64 0])]),(6,.arr 191 2 1 [.p (qae s.1)]),(7,.arr 191 2 1 [.p (qae s.2.1)])]⟩) (fun (o6:Drossref04_Wide×Drossref04_Wide)=>tE (cX Tryz.f192 X w D hT) (.exit 0) ⟨[(4,.loc 4 1 0 0),(5,.loc 5 1 0 0),(6,.loc 6 1 0 0),(7,.loc 7 1 0 0)],[(4,.arr 191 2 1 [.p (.agg [.int .u64 0,.int .u64 0])]),(5,.arr 191 2 1 [.p (.agg [.int .u64 0,.int .u64 0])]),(6,.arr 191 2 1 [.p (qae o6.1)]),(7,.arr 191 2 1 [.p (qae o6.2)])]⟩) h5 ?_ ?_
 clear h h5
 intro s x h
 obtain ⟨q7,r8,i9⟩:=s
 simp only [qbm] at h
 dsimp only
 refine zs<|zs<|zr ?_
 refine zU<|zl<|zn ?_
 obtain ⟨h10,h⟩|⟨h10,h⟩:=zI h
 refine zi<|zk<|zn<|zs<|zb<|zs<|zr ?_
 refine zU<|zl<|zn<|zs<|zs<|zr ?_
 refine zU<|zl<|zn ?_
 obtain ⟨h11,h⟩|⟨h11,h⟩:=zI h
 refine zi<|zr ?_
 refine zU<|zl<|zn<|zs<|zr ?_
 refine zU ?_
 obtain ⟨r12,h13,h⟩:=zB h
 refine zc (qg5 r8 r8 _ h13) ?_
 refine zU<|zl<|zn<|zs<|zd ?_
 obtain ⟨h14,h⟩:=qmb h
 refine yU ?_
 refine yd<|zn<|zs<|zr ?_
 refine zU ?_
 obtain ⟨r15,h16,h⟩:=zB h
 refine zc (qg5 q7 q7 _ h16) ?_
 refine zU<|zl<|zn<|zs<|zr ?_
 refine zU ?_
 obtain ⟨r17,h18,h⟩:=zB h
 refine zc (qg4 (Drossref04_Wide.mk r12.Hi (vxe.wrap (r12.Lo+(vxa (vw5 a1.Hi (2 ^ (min ((vxa i9 64)).toNat 64))) 2)))) b2 _ h18) ?_
 refine zU<|zl<|zn ?_
 obtain ⟨h19,h⟩|⟨h19,h⟩:=zI h
 refine zj<|zk<|yn<|zn<|zr ?_
 refine zU<|zl ?_
 cases h
 exact ⟨rfl,zE⟩
 refine zi<|zs<|zr ?_
 refine zU ?_
 obtain ⟨r20,h21,h⟩:=zB h
 refine zc (qkw (Drossref04_Wide.mk r12.Hi (vxe.wrap (r12.Lo+(vxa (vw5 a1.Hi (2 ^ (min ((vxa i9 64)).toNat 64))) 2)))) b2 _ h21) ?_
 refine zU<|zl<|zn<|zr ?_
 refine zU<|zl<|yn<|zn<|zr ?_
 refine zU<|zl ?_
 cases h
 exact ⟨rfl,zE⟩
 refine zj<|zk<|zn<|zs<|zr ?_
 refine zU ?_
 obtain ⟨r22,h23,h⟩:=zB h
 refine zc (qg5 r8 r8 _ h23) ?_
 refine zU<|zl<|zn<|zs<|zd ?_
 obtain ⟨h24,h⟩:=qmb h
 refine yU ?_
 refine yd<|zn<|zs<|zr ?_
 refine zU ?_
 obtain ⟨r25,h26,h⟩:=zB h
 refine zc (qg5 q7 q7 _ h26) ?_
 refine zU<|zl<|zn<|zs<|zr ?_
 refine zU ?_
 obtain ⟨r27,h28,h⟩:=zB h
 refine zc (qg4 (Drossref04_Wide.mk r22.Hi (vxe.wrap (r22.Lo+(vxa (vw5 a1.Lo (2 ^ (min ((vxa i9 64)).toNat 64))) 2)))) b2 _ h28) ?_
 refine zU<|zl<|zn ?_
 obtain ⟨h29,h⟩|⟨h29,h⟩:=zI h
 refine zj<|zk<|yn<|zn<|zr ?_
 refine zU<|zl ?_
 cases h
 exact ⟨rfl,zE⟩
 refine zi<|zs<|zr ?_
 refine zU ?_
 obtain ⟨r30,h31,h⟩:=zB h
 refine zc (qkw (Drossref04_Wide.mk r22.Hi (vxe.wrap (r22.Lo+(vxa (vw5 a1.Lo (2 ^ (min ((vxa i9 64)).toNat 64))) 2)))) b2 _ h31) ?_
 refine zU<|zl<|zn<|zr ?_
 refine zU<|zl<|yn<|zn<|zr ?_
 refine zU<|zl ?_
 cases h
 exact ⟨rfl,zE⟩
 refine zj<|zx<|ze ?_
 cases h
 exact ⟨rfl,zE⟩
 obtain ⟨q32,r33⟩:=o4
 try simp only at h
 refine zA<|yh<|zn<|zs<|zd ?_
 refine yU ?_
 refine yd<|zn<|zq ?_
 cases h
 exact zT results192
theorem qqp {D:Prop} (n1:Bool) (n2:Drossref04_Wide) (d3:Drossref04_Wide) (r4:Ratio×Int) (h:qit n1 n2 d3=some r4):Con D Tryz.prog 132 [(.bool n1),(qae n2),(qae d3)] (.tup [(qg3 r4.1),(.int .i64 r4.2)]):=by
 refine zP call132 func132 rfl ntmps132 fun X w hT=>?_
 simp only [qit] at h
 refine zs<|zr ?_
 refine zU<|zl<|zn<|zs<|zd ?_
 refine yU ?_
 refine yd<|zn<|zs<|zb ?_
 obtain ⟨x5,h6,h⟩:=zB h
 refine zO (fun (s:Drossref04_Wide×Drossref04_Wide)=>⟨[(0,.p (.bool n1)),(4,.loc 4 1 0 0),(5,.loc 5 1 0 0),(6,.loc 6 1 0 0),(8,.loc 8 1 0 0),(9,.loc 9 1 0 0)],[(4,.arr 191 2 1 [.p (qae n2)]),(5,.arr 191 2 1 [.p (qae d3)]),(6,.arr 76 2 1 [.p (.agg [.int .i64 0,.int .i64 0])]),(8,.arr 191 2 1 [.p (qae s.1)]),(9,.arr 191 2 1 [.p (qae s.2)])]⟩) (fun (o7:Drossref04_Wide)=>tE (cX Tryz.f132 X w D hT) (.exit 0) ⟨[(0,.p (.bool n1)),(4,.loc 4 1 0 0),(5,.loc 5 1 0 0),(6,.loc 6 1 0 0),(8,.loc 8 1 0 0)],[(4,.arr 191 2 1 [.p (qae n2)]),(5,.arr 191 2 1 [.p (qae d3)]),(6,.arr 76 2 1 [.p (.agg [.int .i64 0,.int .i64 0])]),(8,.arr 191 2 1 [.p (qae o7)])]⟩) h6 ?_ ?_
 clear h h6
 intro s x h
 obtain ⟨x8,y9⟩:=s
 simp only [qfa] at h
 dsimp only
 refine zs<|zs<|zr ?_
 refine zU ?_
 obtain ⟨r10,h11,h⟩:=zB h
 refine zc (qrz y9 _ h11) ?_
 refine zU<|zl<|zn ?_
 obtain ⟨h12,h⟩|⟨h12,h⟩:=zI h
 refine zj<|zx<|ze ?_
 cases h
 exact ⟨rfl,zE⟩
 refine zi<|zk<|zn<|zb<|zs<|zr ?_
 refine zU ?_
 obtain ⟨r13,h14,h⟩:=zB h
 refine zc (qic x8 y9 _ h14) ?_
 refine zU<|zl<|zn<|zd ?_
 refine yU ?_
 refine yd<|yn ?_
 cases h
 exact ⟨rfl,zE⟩
 try simp only at h
 refine zA<|yh<|zn<|zs<|zr ?_
 refine zU ?_
 obtain ⟨r15,h16,h⟩:=zB h
 refine zc (qic n2 x5 _ h16) ?_
 refine zU<|zl<|zn<|zs<|zr ?_
 refine zU ?_
 obtain ⟨r17,h18,h⟩:=zB h
 refine zc (qic d3 x5 _ h18) ?_
 refine zU<|zl<|zn<|zs<|zr ?_
 refine zU<|zl<|zn<|zs<|zs<|zr ?_
 refine zU ?_
 obtain ⟨r19,h20,h⟩:=zB h
 refine zc (qg4 (Drossref04_Wide.mk 0 9223372036854775807) r15.1 _ h20) ?_
 refine zU ?_
 obtain ⟨h21,h⟩|⟨h21,h⟩:=zI h
 refine zw 43 true ?_
 refine zh ?_
 refine zU<|zl<|zn ?_
 refine zi<|zs<|zr ?_
 refine zU<|zl<|zn<|zq<|zt ?_
 cases h
 exact zT results132
 refine zw 43 false ?_
 refine zg ?_
 refine zg ?_
 obtain ⟨r22,h23,h⟩:=zB h
 refine zc (qg4 (Drossref04_Wide.mk 0 9223372036854775807) r17.1 _ h23) ?_
 refine zU<|zl<|zn ?_
 obtain ⟨h24,h⟩|⟨h24,h⟩:=zI h
 refine zi<|zs<|zr ?_
 refine zU<|zl<|zn<|zq<|zt ?_
 cases h
 exact zT results132
 refine zj<|zk<|zn<|zs<|zr ?_
 refine zU<|zl<|zn<|zs<|zs<|zr ?_
 refine zU<|zl<|zn ?_
 obtain ⟨h25,h⟩|⟨h25,h⟩:=zI h
 refine zi<|zr ?_
 refine zU<|zl<|zn<|zs<|zr ?_
 refine zU<|zl<|zn<|zq ?_
 cases h
 exact zT results132
 refine zj<|zk<|zn<|zs<|zr ?_
 refine zU<|zl<|zn<|zq ?_
 cases h
 exact zT results132
theorem qlw {D:Prop} (n1:Int) (r2:Drossref04_Wide) (h:qgt n1=some r2):Con D Tryz.prog 133 [(.int .i64 n1)] (qae r2):=by
 refine zP call133 func133 rfl ntmps133 fun X w hT=>?_
 simp only [qgt] at h
 refine zs<|zr ?_
 refine zU<|zl<|zn<|zs<|zs<|zr ?_
 refine zU<|zl<|zn ?_
 obtain ⟨h3,h⟩|⟨h3,h⟩:=zI h
 refine zi<|zs<|zr ?_
 refine zU<|zl<|zn<|zq<|zt ?_
 cases h
 exact zT results133
 refine zj<|zk<|zn<|zs<|zr ?_
 refine zU<|zl<|zn<|zq ?_
 cases h
 exact zT results133
theorem qr0 {D:Prop} (n1:Int) (d2:Int) (r3:Ratio×Int) (h:qhr n1 d2=some r3):Con D Tryz.prog 79 [(.int .i64 n1),(.int .i64 d2)] (.tup [(qg3 r3.1),(.int .i64 r3.2)]):=by
 refine zP call79 func79 rfl ntmps79 fun X w hT=>?_
 simp only [qhr] at h
 refine zs<|zr ?_
 refine zU<|zl<|zn<|zs<|zs<|zr ?_
 refine zU<|zl<|zn ?_
 obtain ⟨h4,h⟩|⟨h4,h⟩:=zI h
 refine zi<|zs<|zr ?_
 refine zU<|zl<|zn<|zq<|zt ?_
 cases h
 exact zT results79
 refine zj<|zk<|zn<|zs<|zr ?_
 refine zU ?_
 obtain ⟨r5,h6,h⟩:=zB h
 refine zc (qlw n1 _ h6) ?_
 refine zU ?_
 obtain ⟨r7,h8,h⟩:=zB h
 refine zc (qlw d2 _ h8) ?_
 obtain ⟨r9,h10,h⟩:=zB h
 refine zc (qqp (!((decide (n1 < 0)) == (decide (d2 < 0)))) r5 r7 _ h10) ?_
 refine zU<|zl<|zn<|zq ?_
 cases h
 exact zT results79
theorem qia {D:Prop} (n1:Int) (d2:Int) (r3:Ratio) (h:qdx n1 d2=some r3):Con D Tryz.prog 40 [(.int .i64 n1),(.int .i64 d2)] (qg3 r3):=by
 refine zP call40 func40 rfl ntmps40 fun X w hT=>?_
 simp only [qdx] at h
 refine zs<|zr ?_
 refine zU<|zl<|zn<|zs<|zr ?_
 refine zU ?_
 obtain ⟨r4,h5,h⟩:=zB h
 refine zc (qr0 n1 d2 _ h5) ?_
 refine zU<|zl<|zn<|zs<|zs<|zr ?_
 refine zU<|zl<|zn ?_
 obtain ⟨h6,h⟩|⟨h6,h⟩:=zI h
 refine zi<|zs<|zr ?_
 refine zU<|zl<|zn<|zq<|zt ?_
 cases h
 exact zT results40
 refine zj<|zk<|zn<|zs<|zr ?_
 refine zU<|zl<|zn<|zq ?_
 cases h
 exact zT results40
theorem qkx  (r1:Bool) (h:qfo=some r1):Con False Tryz.prog 12 [] (.bool r1):=by
 refine zP call12 func12 rfl ntmps12 fun X w hT=>?_
 simp only [qfo] at h
 refine zs<|zr ?_
 refine zU<|zl<|zn<|zs<|zr ?_
 obtain ⟨r2,h3,h⟩:=zB h
 refine zc (qou  _ h3) ?_
 refine zU<|zl<|zn<|zs<|zr ?_
 refine zU ?_
 obtain ⟨r4,h5,h⟩:=zB h
 refine zc (qrx r2.1 r2.2 _ h5) ?_
 refine zU<|zl<|zn<|zs<|zr ?_
 refine zU ?_
 obtain ⟨r6,h7,h⟩:=zB h
 refine zc (qkv r2.1 r2.2 _ h7) ?_
 refine zU<|zl<|zn<|zs<|zr ?_
 refine zU ?_
 obtain ⟨r8,h9,h⟩:=zB h
 refine zc (qkh r6.1 [[1,2],[3],[4]] _ h9) ?_
 refine zU<|zl<|zn<|zs<|zr ?_
 refine zU ?_
 obtain ⟨r10,h11,h⟩:=zB h
 refine zc (qtm r6.1 [[1,2],[3],[4]] _ h11) ?_
 refine zU<|zl<|zn<|zs<|zd ?_
 refine yU ?_
 obtain ⟨h12,h⟩|⟨h12,h⟩:=zI h
 refine yw 47 true ?_
 refine yg ?_
 refine yg ?_
 refine yg ?_
 refine yg ?_
 obtain ⟨r13,h14,h⟩:=zB h
 refine yc (qnz r4.1 [(Arr2_int64.mk 1 2),(Arr2_int64.mk 2 3)] _ h14) ?_
 refine yU ?_
 obtain ⟨h15,h⟩|⟨h15,h⟩:=zI h
 refine yw 54 true ?_
 refine yg ?_
 refine yg ?_
 refine yU ?_
 obtain ⟨h16,h⟩|⟨h16,h⟩:=zI h
 refine yw 58 true ?_
 refine yg ?_
 refine yg ?_
 refine yg ?_
 refine yg ?_
 obtain ⟨r17,h18,h⟩:=zB h
 refine yc (qqo r6.1 [[1,2,3],[4]] _ h18) ?_
 refine yU ?_
 obtain ⟨h19,h⟩|⟨h19,h⟩:=zI h
 refine yw 65 true ?_
 refine yg ?_
 refine yg ?_
 refine yU ?_
 obtain ⟨h20,h⟩|⟨h20,h⟩:=zI h
 refine yw 69 true ?_
 refine yg ?_
 obtain ⟨r21,h22,h⟩:=zB h
 refine yc (qia 1 3 _ h22) ?_
 refine yg ?_
 refine yU ?_
 obtain ⟨h23,h⟩|⟨h23,h⟩:=zI h
 refine yw 74 true ?_
 refine yg ?_
 refine yg ?_
 refine yU ?_
 obtain ⟨h24,h⟩|⟨h24,h⟩:=zI h
 refine yw 78 true ?_
 refine yg ?_
 obtain ⟨r25,h26,h⟩:=zB h
 replace h:=h.symm
 refine yc (qia 1 1 _ h26) ?_
 refine yg ?_
 refine yU ?_
 refine yd<|zn<|zq ?_
 cases h
 exact zT results12
 refine yw 78 false ?_
 refine yk ?_
 refine yU ?_
 refine yd<|zn<|zq ?_
 cases h
 exact zT results12
 refine yw 74 false ?_
 refine yk ?_
 refine yU ?_
 refine yk ?_
 refine yU ?_
 refine yd<|zn<|zq ?_
 cases h
 exact zT results12
 refine yw 69 false ?_
 refine yk ?_
 refine yU ?_
 refine yk ?_
 refine yU ?_
 refine yk ?_
 refine yU ?_
 refine yd<|zn<|zq ?_
 cases h
 exact zT results12
 refine yw 65 false ?_
 refine yk ?_
 refine yU ?_
 refine yk ?_
 refine yU ?_
 refine yk ?_
 refine yU ?_
 refine yk ?_
 refine yU ?_
 refine yd<|zn<|zq ?_
 cases h
 exact zT results12
 refine yw 58 false ?_
 refine yk ?_
 refine yU ?_
 refine yk ?_
 refine yU ?_
 refine yk ?_
 refine yU ?_
 refine yk ?_
 refine yU ?_
 refine yk ?_
 refine yU ?_
 refine yd<|zn<|zq ?_
 cases h
 exact zT results12
 refine yw 54 false ?_
 refine yk ?_
 refine yU ?_
 refine yk ?_
 refine yU ?_
 refine yk ?_
 refine yU ?_
 refine yk ?_
 refine yU ?_
 refine yk ?_
 refine yU ?_
 refine yk ?_
 refine yU ?_
 refine yd<|zn<|zq ?_
 cases h
 exact zT results12
 refine yw 47 false ?_
 refine yk ?_
 refine yU ?_
 refine yk ?_
 refine yU ?_
 refine yk ?_
 refine yU ?_
 refine yk ?_
 refine yU ?_
 refine yk ?_
 refine yU ?_
 refine yk ?_
 refine yU ?_
 refine yk ?_
 refine yU ?_
 refine yd<|zn<|zq ?_
 cases h
 exact zT results12
theorem qun {D:Prop} (n1:Int) (d2:Drossref56_Draft) (r3:Linkage×Bool) (h:qjl n1 d2=some r3):Con D Tryz.prog 21 [(.int .i64 n1),(qam d2)] (.tup [(qai r3.1),(.bool r3.2)]):=by
 refine zP call21 func21 rfl ntmps21 fun X w hT=>?_
 simp only [qjl] at h
 refine zs<|zr ?_
 refine zU<|zl<|zn<|zs<|zr ?_
 refine zU<|zl<|zn<|zs<|zs<|zr ?_
 refine zU<|zl<|zn<|zb ?_
 obtain ⟨o4,h5,h⟩:=zB h
 refine zO (fun (s:List (List Similar)×Int)=>⟨[(0,.p (.int .i64 n1)),(3,.loc 3 1 0 0),(4,.loc 4 1 0 0),(6,.loc 6 1 0 0),(7,.p (.int .i64 s.2))],[(3,.arr 37 3 1 [.p (qam d2)]),(4,.arr 25 3 1 [.agg [.nils,.nils,.nils]]),(6,.arr 25 3 1 [.agg [.own 91 1 0 s.1.length,.nils,.nils]]),(91,.arr 93 1 1 (vwb AV.p (vwb (qat qal) s.1)))]⟩) (fun (o:(List (List Similar)) ⊕ (Linkage×Bool))=>match o with | .inl o6=>tE (cX Tryz.f21 X w D hT) (.exit 0) ⟨[(0,.p (.int .i64 n1)),(3,.loc 3 1 0 0),(4,.loc 4 1 0 0),(6,.loc 6 1 0 0)],[(3,.arr 37 3 1 [.p (qam d2)]),(4,.arr 25 3 1 [.agg [.nils,.nils,.nils]]),(6,.arr 25 3 1 [.agg [.own 91 1 0 o6.length,.nils,.nils]]),(91,.arr 93 1 1 (vwb AV.p (vwb (qat qal) o6)))]⟩ | .inr o7=>tR Tryz.prog Tryz.f21 (.tup [(qai o7.1),(.bool o7.2)])) h5 ?_ ?_
 clear h h5
 intro s x h
 obtain ⟨l8,i9⟩:=s
 simp only [qda] at h
 dsimp only
 refine zs<|zs<|zr ?_
 refine zU<|zl<|zn ?_
 obtain ⟨h10,h⟩|⟨h10,h⟩:=zI h
 refine zi<|zk<|zn<|zs<|zb<|zs<|zs<|zr ?_
 obtain ⟨x11,h12,h12a,h12b,h⟩:=zX h
 refine zU ?_
 obtain ⟨h13,h⟩|⟨h13,h⟩:=zI h
 refine zw 28 true ?_
 refine zh ?_
 refine zU<|zl<|zn ?_
 refine zi<|zs<|zr ?_
 refine zU<|zl<|zn<|zq<|zt<|yr<|zt ?_
 cases h
 exact ⟨rfl,zT results21⟩
 refine zw 28 false ?_
 refine zg ?_
 refine zg ?_
 refine zg ?_
 refine zg ?_
 refine zg ?_
 refine zg ?_
 refine zg ?_
 refine zU<|zl<|zn ?_
 obtain ⟨h14,h⟩|⟨h14,h⟩:=zI h
 refine zi<|zs<|zr ?_
 refine zU<|zl<|zn<|zq<|zt<|yr<|zt ?_
 cases h
 exact ⟨rfl,zT results21⟩
 refine zj<|zk<|zn<|zs<|zr ?_
 refine zU<|zl<|zn<|zs<|zs<|zr ?_
 refine zU<|zl<|zn<|zb ?_
 obtain ⟨r15,h16,h⟩:=zB h
 refine zO (fun (s:List Similar×Int)=>⟨[(0,.p (.int .i64 n1)),(3,.loc 3 1 0 0),(4,.loc 4 1 0 0),(6,.loc 6 1 0 0),(7,.p (.int .i64 i9)),(8,.own 86 1 0 s.1.length),(9,.p (.int .i64 s.2))],[(3,.arr 37 3 1 [.p (qam d2)]),(4,.arr 25 3 1 [.agg [.nils,.nils,.nils]]),(6,.arr 25 3 1 [.agg [.own 91 1 0 l8.length,.nils,.nils]]),(86,.arr 95 3 1 (vwb AV.p (vwb qal s.1))),(91,.arr 93 1 1 (vwb AV.p (vwb (qat qal) l8)))]⟩) (fun (o17:List Similar)=>tE (cX Tryz.f21 X w D hT) (.exit 2) ⟨[(0,.p (.int .i64 n1)),(3,.loc 3 1 0 0),(4,.loc 4 1 0 0),(6,.loc 6 1 0 0),(7,.p (.int .i64 i9)),(8,.own 86 1 0 o17.length)],[(3,.arr 37 3 1 [.p (qam d2)]),(4,.arr 25 3 1 [.agg [.nils,.nils,.nils]]),(6,.arr 25 3 1 [.agg [.own 91 1 0 l8.length,.nils,.nils]]),(86,.arr 95 3 1 (vwb AV.p (vwb qal o17))),(91,.arr 93 1 1 (vwb AV.p (vwb (qat qal) l8)))]⟩) h16 ?_ ?_
 clear h h10 h12 h12a h12b h13 h14 h16
 intro s x h
 obtain ⟨r18,k19⟩:=s
 simp only [qfq] at h
 dsimp only
 refine zs<|zs<|zr ?_
 obtain ⟨x20,h21,h21a,h21b,h⟩:=zX h
 refine zU<|zl<|zn ?_
 obtain ⟨h22,h⟩|⟨h22,h⟩:=zI h
 refine zi<|zk<|zn<|zs<|zb<|zs<|zr ?_
 obtain ⟨x23,h24,h24a,h24b,h⟩:=zX h
 refine zU<|zl<|zn<|zs<|zd ?_
 obtain ⟨h25,h⟩:=qmb h
 refine yU ?_
 refine yd<|zn<|zs<|zs<|zr ?_
 refine zU<|zl<|zn ?_
 obtain ⟨h26,h⟩|⟨h26,h⟩:=zI h
 refine zi<|zr ?_
 refine zU<|zl<|zn<|zs<|zs<|zr ?_
 refine zU<|zl<|zn ?_
 obtain ⟨h27,h⟩|⟨h27,h⟩:=zI h
 refine zi<|zr ?_
 refine zU<|zl<|zn<|zr ?_
 obtain ⟨h28,h⟩:=qab h
 refine zU<|zl<|yn<|zn<|zr ?_
 refine zU<|zl ?_
 cases h
 exact ⟨rfl,zE⟩
 refine zj<|zk<|zn<|zr ?_
 obtain ⟨h29,h⟩:=qab h
 refine zU<|zl<|yn<|zn<|zr ?_
 refine zU<|zl ?_
 cases h
 exact ⟨rfl,zE⟩
 refine zj<|zk<|zn<|zs<|zs<|zr ?_
 refine zU<|zl<|zn ?_
 obtain ⟨h30,h⟩|⟨h30,h⟩:=zI h
 refine zi<|zr ?_
 refine zU<|zl<|zn<|zr ?_
 obtain ⟨h31,h⟩:=qab h
 refine zU<|zl<|yn<|zn<|zr ?_
 refine zU<|zl ?_
 cases h
 exact ⟨rfl,zE⟩
 refine zj<|zk<|zn<|zr ?_
 obtain ⟨h32,h⟩:=qab h
 refine zU<|zl<|yn<|zn<|zr ?_
 refine zU<|zl ?_
 cases h
 exact ⟨rfl,zE⟩
 refine zj<|zx<|ze ?_
 cases h
 exact ⟨rfl,zE⟩
 try simp only at h
 refine zA<|yh<|zn<|zr ?_
 refine zW 4 ?_
 refine zM ⟨[(0,.p (.int .i64 n1)),(3,.loc 3 1 0 0),(4,.loc 4 1 0 0),(6,.loc 6 1 0 0),(7,.p (.int .i64 i9)),(88,.own 91 1 0 l8.length),(90,.own 90 1 0 1)],[(3,.arr 37 3 1 [.p (qam d2)]),(4,.arr 25 3 1 [.agg [.nils,.nils,.nils]]),(6,.arr 25 3 1 [.agg [.own 91 1 0 l8.length,.nils,.nils]]),(90,.arr 93 1 1 [.p (.slc (vwb qal r15))]),(91,.arr 93 1 1 (vwb AV.p (vwb (qat qal) l8)))]⟩ ?_
 obtain ⟨h33,h⟩:=qab h
 refine zU<|zl<|yn<|zn<|zr ?_
 refine zU<|zl ?_
 cases h
 exact ⟨rfl,zE⟩
 refine zj<|zx<|ze ?_
 cases h
 exact ⟨rfl,zE⟩
 rcases o4 with l34 | r35
 try simp only at h
 refine zA<|yh<|zn<|zs<|zs<|zr ?_
 refine zU<|zl<|zn<|zb ?_
 obtain ⟨o36,h37,h⟩:=zB h
 refine zO (fun (s:List Int×List Int×Int)=>⟨[(0,.p (.int .i64 n1)),(3,.loc 3 1 0 0),(4,.loc 4 1 0 0),(6,.loc 6 1 0 0),(12,.p (.int .i64 s.2.2))],[(3,.arr 37 3 1 [.p (qam d2)]),(4,.arr 25 3 1 [.agg [.nils,.nils,.nils]]),(6,.arr 25 3 1 [.agg [.own 91 1 0 l34.length,.own 112 1 0 s.1.length,.own 131 1 0 s.2.1.length]]),(91,.arr 93 1 1 (vwb AV.p (vwb (qat qal) l34))),(112,.arr 3 1 1 (vwb AV.p (vwb (PV.int .i64) s.1))),(131,.arr 3 1 1 (vwb AV.p (vwb (PV.int .i64) s.2.1)))]⟩) (fun (o38:List Int×List Int)=>tE (cX Tryz.f21 X w D hT) (.exit 4) ⟨[(3,.loc 3 1 0 0),(4,.loc 4 1 0 0),(6,.loc 6 1 0 0)],[(3,.arr 37 3 1 [.p (qam d2)]),(4,.arr 25 3 1 [.agg [.nils,.nils,.nils]]),(6,.arr 25 3 1 [.agg [.own 91 1 0 l34.length,.own 112 1 0 o38.1.length,.own 131 1 0 o38.2.length]]),(91,.arr 93 1 1 (vwb AV.p (vwb (qat qal) l34))),(112,.arr 3 1 1 (vwb AV.p (vwb (PV.int .i64) o38.1))),(131,.arr 3 1 1 (vwb AV.p (vwb (PV.int .i64) o38.2)))]⟩) h37 ?_ ?_
 clear h h5 h37
 intro s x h
 obtain ⟨l39,l40,a41⟩:=s
 simp only [qbo] at h
 dsimp only
 refine zs<|zs<|zr ?_
 refine zU<|zl<|zn ?_
 obtain ⟨h42,h⟩|⟨h42,h⟩:=zI h
 refine zi<|zk<|zn<|zs<|zb<|zs ?_
 obtain ⟨t43,h44,h⟩:=zB h
 refine zJ (fun (o45:Bool)=>tE (cX Tryz.f21 X w D hT) .normal ⟨[(0,.p (.int .i64 n1)),(3,.loc 3 1 0 0),(4,.loc 4 1 0 0),(6,.loc 6 1 0 0),(12,.p (.int .i64 a41)),(107,.p (.bool o45))],[(3,.arr 37 3 1 [.p (qam d2)]),(4,.arr 25 3 1 [.agg [.nils,.nils,.nils]]),(6,.arr 25 3 1 [.agg [.own 91 1 0 l34.length,.own 112 1 0 l39.length,.own 131 1 0 l40.length]]),(91,.arr 93 1 1 (vwb AV.p (vwb (qat qal) l34))),(112,.arr 3 1 1 (vwb AV.p (vwb (PV.int .i64) l39))),(131,.arr 3 1 1 (vwb AV.p (vwb (PV.int .i64) l40)))]⟩) t43 ?_ ?_
 replace h:=h44
 clear h44
 refine zr ?_
 refine zU ?_
 obtain ⟨h46,h⟩|⟨h46,h⟩:=zI h
 refine zw 100 true ?_
 refine zg ?_
 refine zg ?_
 refine zg ?_
 obtain ⟨h47,h⟩:=qmb h
 replace h:=h.symm
 refine zg ?_
 refine zg ?_
 refine zg ?_
 refine zU<|zl ?_
 cases h
 exact ⟨rfl,zE⟩
 refine zw 100 false ?_
 refine zh ?_
 refine zU<|zl ?_
 cases h
 exact ⟨rfl,zE⟩
 try simp only at h
 refine zA<|zn ?_
 obtain ⟨h48,h⟩|⟨h48,h⟩:=zI h
 refine zi<|zr ?_
 obtain ⟨h49,h⟩:=qab h
 refine zU<|zl<|zn<|zs<|zr ?_
 refine zU<|zl<|zn<|zs<|zs<|zr ?_
 refine zU<|zl<|zn ?_
 obtain ⟨h50,h⟩|⟨h50,h⟩:=zI h
 refine zi<|zr ?_
 obtain ⟨x51,h52,h52a,h52b,h⟩:=zX h
 refine zU<|zl<|zn<|zr ?_
 obtain ⟨h53,h⟩:=qab h
 refine zU<|zl<|yn<|zn<|zr ?_
 refine zU<|zl ?_
 cases h
 exact ⟨rfl,zE⟩
 refine zj<|zk<|zn<|zr ?_
 obtain ⟨h54,h⟩:=qab h
 refine zU<|zl<|yn<|zn<|zr ?_
 refine zU<|zl ?_
 cases h
 exact ⟨rfl,zE⟩
 refine zj<|zk<|zn<|zs<|zr ?_
 refine zU<|zl<|zn<|zs<|zs<|zr ?_
 refine zU<|zl<|zn ?_
 obtain ⟨h55,h⟩|⟨h55,h⟩:=zI h
 refine zi<|zr ?_
 obtain ⟨x56,h57,h57a,h57b,h⟩:=zX h
 refine zU<|zl<|zn<|zr ?_
 obtain ⟨h58,h⟩:=qab h
 refine zU<|zl<|yn<|zn<|zr ?_
 refine zU<|zl ?_
 cases h
 exact ⟨rfl,zE⟩
 refine zj<|zk<|zn<|zr ?_
 obtain ⟨h59,h⟩:=qab h
 refine zU<|zl<|yn<|zn<|zr ?_
 refine zU<|zl ?_
 cases h
 exact ⟨rfl,zE⟩
 refine zj<|zx<|ze ?_
 cases h
 exact ⟨rfl,zE⟩
 obtain ⟨l60,l61⟩:=o36
 try simp only at h
 refine zA<|yh<|zn<|zs<|zd ?_
 refine yU ?_
 refine yd<|zn<|zq ?_
 cases h
 exact zT results21
 try simp only at h
 refine zZ fun s hq=>?_
 refine yr<|zt ?_
 cases h
 exact hq
theorem qn3 {D:Prop} (c1:Int) (r2:Value) (h:qdy c1=some r2):Con D Tryz.prog 151 [(.int .u8 c1)] (qak r2):=by
 refine zP call151 func151 rfl ntmps151 fun X w hT=>?_
 simp only [qdy] at h
 refine zs<|zr ?_
 refine zU<|zl<|zn<|zs<|zs<|zr ?_
 refine zU<|zl<|zn<|zb<|zs<|zr ?_
 refine zU<|zl<|zn ?_
 obtain ⟨h3,h⟩|⟨h3,h⟩:=zI h
 refine zi<|zs<|zr ?_
 refine zU<|zl<|zn<|zq<|yr<|zt ?_
 cases h
 exact zT results151
 refine zj<|zs<|zr ?_
 refine zU<|zl<|zn ?_
 obtain ⟨h4,h⟩|⟨h4,h⟩:=zI h
 refine zi<|zs<|zr ?_
 refine zU<|zl<|zn<|zq<|yr<|zt ?_
 cases h
 exact zT results151
 refine zj<|zs<|zr ?_
 refine zU<|zl<|zn ?_
 obtain ⟨h5,h⟩|⟨h5,h⟩:=zI h
 refine zi<|zs<|zr ?_
 refine zU<|zl<|zn<|zq<|yr<|zt ?_
 cases h
 exact zT results151
 refine zj<|zs<|zr ?_
 refine zU<|zl<|zn ?_
 obtain ⟨h6,h⟩|⟨h6,h⟩:=zI h
 refine zi<|zs<|zr ?_
 refine zU<|zl<|zn<|zq<|yr<|zt ?_
 cases h
 exact zT results151
 refine zj<|zs<|zr ?_
 refine zU<|zl<|zn ?_
 obtain ⟨h7,h⟩|⟨h7,h⟩:=zI h
 refine zi<|zs<|zr ?_
 refine zU<|zl<|zn<|zq<|yr<|zt ?_
 cases h
 exact zT results151
 refine zj<|zs<|zr ?_
 refine zU<|zl<|zn ?_
 obtain ⟨h8,h⟩|⟨h8,h⟩:=zI h
 refine zi<|zs<|zr ?_
 refine zU<|zl<|zn<|zq<|yr<|zt ?_
 cases h
 exact zT results151
 refine zj<|zs<|zr ?_
 refine zU<|zl<|zn ?_
 obtain ⟨h9,h⟩|⟨h9,h⟩:=zI h
 refine zi<|zs<|zr ?_
 refine zU<|zl<|zn<|zq<|yr<|zt ?_
 cases h
 exact zT results151
 refine zj<|zs<|zr ?_
 refine zU<|zl<|zn ?_
 obtain ⟨h10,h⟩|⟨h10,h⟩:=zI h
 refine zi<|zs<|zr ?_
 refine zU<|zl<|zn<|zq<|yr<|zt ?_
 cases h
 exact zT results151
 refine zj<|zs<|zr ?_
 refine zU<|zl<|zn ?_
 obtain ⟨h11,h⟩|⟨h11,h⟩:=zI h
 refine zi<|zs<|zr ?_
 refine zU<|zl<|zn<|zq<|yr<|zt ?_
 cases h
 exact zT results151
 refine zj<|zs<|zr ?_
 refine zU<|zl<|zn ?_
 obtain ⟨h12,h⟩|⟨h12,h⟩:=zI h
 refine zi<|zs<|zr ?_
 refine zU<|zl<|zn<|zq<|yr<|zt ?_
 cases h
 exact zT results151
 refine zj<|zs<|zr ?_
 refine zU<|zl<|zn ?_
 obtain ⟨h13,h⟩|⟨h13,h⟩:=zI h
 refine zi<|zs<|zr ?_
 refine zU<|zl<|zn<|zq<|yr<|zt ?_
 cases h
 exact zT results151
 refine zj<|zk<|yn<|zn<|zs<|zr ?_
 refine zU<|zl<|zn<|zq ?_
 cases h
 exact zT results151
theorem qr1 {D:Prop} (x1:Drossref03_Recipe) (n2:Int) (r3:Table) (h:qhs x1 n2=some r3):Con D Tryz.prog 88 [(qaq x1),(.int .i64 n2)] (qap r3):=by
 refine zP call88 func88 rfl ntmps88 fun X w hT=>?_
 simp only [qhs] at h
 refine zs<|zr ?_
 refine zU<|zl<|zn<|zs<|zr ?_
 obtain ⟨h4,h⟩:=qab h
 obtain ⟨h5,h⟩:=qab h
 refine zW 4 ?_
 obtain ⟨l6,h7,h⟩:=zB h
 replace h7:=vwz h7
 refine vkj (st':=⟨[(1,.p (.int .i64 n2)),(2,.loc 2 1 0 0),(4,.loc 4 1 0 0),(10,.own 10 1 0 0),(13,.own 11 1 0 n2.toNat)],[(2,.arr 33 3 1 [.p (qaq x1)]),(4,.arr 41 3 1 [.agg [.p (.str []),.nils,.nils]]),(10,.arr 9 1 1 []),(11,.arr 9 1 1 (vwb AV.p (vwb PV.str l6)))]⟩) (by simp only [go_sem,seval,←h7];all_goals ((repeat' refine vzq ?_ ?_) <;> first | rfl | (simp;done) | (simp;rfl) | (simp [*];done) | (simp [*];rfl))) ?_
 have h7n:l6.length=8:=by rw [←h7];rfl
 clear h7
 obtain ⟨h8,h⟩:=qab h
 refine zU<|zl<|zn<|zs<|zs<|zr ?_
 refine zU<|zl<|zn<|zb ?_
 obtain ⟨t9,h10,h⟩:=zB h
 refine zO (fun (s:List Row×Int)=>⟨[(1,.p (.int .i64 n2)),(2,.loc 2 1 0 0),(4,.loc 4 1 0 0),(5,.loc 5 1 0 0),(6,.p (.int .i64 s.2))],[(2,.arr 33 3 1 [.p (qaq x1)]),(4,.arr 41 3 1 [.agg [.p (.str []),.nils,.nils]]),(5,.arr 41 3 1 [.agg [.p (.str [114]),.own 10 1 0 ((l6.take n2.toNat)).length,.own 64 1 0 s.1.length]]),(10,.arr 9 1 1 (vwb AV.p (vwb PV.str (l6.take n2.toNat)))),(64,.arr 66 2 1 (vwb AV.p (vwb qay s.1)))]⟩) (fun (o11:List Row)=>tE (cX Tryz.f88 X w D hT) (.exit 0) ⟨[(4,.loc 4 1 0 0),(5,.loc 5 1 0 0)],[(4,.arr 41 3 1 [.agg [.p (.str []),.nils,.nils]]),(5,.arr 41 3 1 [.agg [.p (.str [114]),.own 10 1 0 ((l6.take n2.toNat)).length,.own 64 1 0 o11.length]]),(10,.arr 9 1 1 (vwb AV.p (vwb PV.str (l6.take n2.toNat)))),(64,.arr 66 2 1 (vwb AV.p (vwb qay o11)))]⟩) h10 ?_ ?_
 clear h h4 h5 h7n h8 h10
 intro s x h
 obtain ⟨t12,i13⟩:=s
 simp only [qf4] at h
 dsimp only
 refine zs<|zs<|zr ?_
 refine zU<|zl<|zn ?_
 obtain ⟨h14,h⟩|⟨h14,h⟩:=zI h
 refine zi<|zk<|zn<|zs<|zb<|zs<|zr ?_
 refine zU<|zl<|zn<|zs<|zs<|zr ?_
 refine zU<|zl<|zn<|zb ?_
 obtain ⟨r15,h16,h⟩:=zB h
 refine zO (fun (s:List Value×Int)=>⟨[(1,.p (.int .i64 n2)),(2,.loc 2 1 0 0),(4,.loc 4 1 0 0),(5,.loc 5 1 0 0),(6,.p (.int .i64 i13)),(7,.loc 7 1 0 0),(8,.p (.int .i64 s.2))],[(2,.arr 33 3 1 [.p (qaq x1)]),(4,.arr 41 3 1 [.agg [.p (.str []),.nils,.nils]]),(5,.arr 41 3 1 [.agg [.p (.str [114]),.own 10 1 0 ((l6.take n2.toNat)).length,.own 64 1 0 t12.length]]),(7,.arr 66 2 1 [.agg [.p (.int .i64 (vxc.wrap (1+(vxc.wrap (i13 * (vxc.wrap (1+(vxc.wrap (vxa x1.Gap 3))))))))),.own 58 1 0 s.1.length]]),(10,.arr 9 1 1 (vwb AV.p (vwb PV.str (l6.take n2.toNat)))),(58,.arr 142 3 1 (vwb AV.p (vwb qak s.1))),(64,.arr 66 2 1 (vwb AV.p (vwb qay t12)))]⟩) (fun (o17:List Value)=>tE (cX Tryz.f88 X w D hT) (.exit 2) ⟨[(1,.p (.int .i64 n2)),(2,.loc 2 1 0 0),(4,.loc 4 1 0 0),(5,.loc 5 1 0 0),(6,.p (.int .i64 i13)),(7,.loc 7 1 0 0)],[(2,.arr 33 3 1 [.p (qaq x1)]),(4,.arr 41 3 1 [.agg [.p (.str []),.nils,.nils]]),(5,.arr 41 3 1 [.agg [.p (.str [114]),.own 10 1 0 ((l6.take n2.toNat)).length,.own 64 1 0 t12.length]]),(7,.arr 66 2 1 [.agg [.p (.int .i64 (vxc.wrap (1+(vxc.wrap (i13 * (vxc.wrap (1+(vxc.wrap (vxa x1.Gap 3))))))))),.own 58 1 0 o17.length]]),(10,.arr 9 1 1 (vwb AV.p (vwb PV.str (l6.take n2.toNat)))),(58,.arr 142 3 1 (vwb AV.p (vwb qak o17))),(64,.arr 66 2 1 (vwb AV.p (vwb qay t12)))]⟩) h16 ?_ ?_
 clear h h14 h16
 intro s x h
 obtain ⟨r18,k19⟩:=s
 simp only [qf3] at h
 dsimp only
 refine zs<|zs<|zr ?_
 refine zU<|zl<|zn ?_
 obtain ⟨h20,h⟩|⟨h20,h⟩:=zI h
 refine zi<|zk<|zn<|zs<|zb<|zs<|zr ?_
 refine zU<|zl<|zn<|zs<|zs<|zr ?_
 obtain ⟨x21,h22,h22a,h22b,h⟩:=zX h
 refine zU<|zl<|zn ?_
 obtain ⟨h23,h⟩|⟨h23,h⟩:=zI h
 refine zi<|zr ?_
 obtain ⟨x24,h25,h25a,h25b,h⟩:=zX h
 refine zU<|zl<|zn<|zd ?_
 refine yU ?_
 obtain ⟨r26,h27,h⟩:=zB h
 refine yc (qn3 x24 _ h27) ?_
 obtain ⟨h28,h⟩:=qab h
 refine yU ?_
 refine yd<|yn<|zn<|zr ?_
 refine zU<|zl ?_
 cases h
 exact ⟨rfl,zE⟩
 refine zj<|zk<|zn<|zd ?_
 refine yU ?_
 obtain ⟨r29,h30,h⟩:=zB h
 refine yc (qn3 0 _ h30) ?_
 obtain ⟨h31,h⟩:=qab h
 refine yU ?_
 refine yd<|yn<|zn<|zr ?_
 refine zU<|zl ?_
 cases h
 exact ⟨rfl,zE⟩
 refine zj<|zx<|ze ?_
 cases h
 exact ⟨rfl,zE⟩
 try simp only at h
 refine zA<|yh<|zn<|zr ?_
 refine zW 4 ?_
 refine zM ⟨[(1,.p (.int .i64 n2)),(2,.loc 2 1 0 0),(4,.loc 4 1 0 0),(5,.loc 5 1 0 0),(6,.p (.int .i64 i13)),(61,.own 64 1 0 t12.length),(63,.own 63 1 0 1)],[(2,.arr 33 3 1 [.p (qaq x1)]),(4,.arr 41 3 1 [.agg [.p (.str []),.nils,.nils]]),(5,.arr 41 3 1 [.agg [.p (.str [114]),.own 10 1 0 ((l6.take n2.toNat)).length,.own 64 1 0 t12.length]]),(10,.arr 9 1 1 (vwb AV.p (vwb PV.str (l6.take n2.toNat)))),(63,.arr 66 2 1 [.p (.agg [.int .i64 (vxc.wrap (1+(vxc.wrap (i13 * (vxc.wrap (1+(vxc.wrap (vxa x1.Gap 3)))))))),.slc (vwb qak r15)])]),(64,.arr 66 2 1 (vwb AV.p (vwb qay t12)))]⟩ ?_
 obtain ⟨h32,h⟩:=qab h
 refine zU<|zl<|yn<|zn<|zr ?_
 refine zU<|zl ?_
 cases h
 exact ⟨rfl,zE⟩
 refine zj<|zx<|ze ?_
 cases h
 exact ⟨rfl,zE⟩
 try simp only at h
 refine zA<|yh<|zn<|zs<|zr ?_
 refine zU<|zl<|zn<|zq ?_
 cases h
 exact zT results88
theorem qqq {D:Prop} (x1:Drossref03_Recipe) (m2:Int) (r3:Table×Bool) (h:qee x1 m2=some r3):Con D Tryz.prog 50 [(qaq x1),(.int .i64 m2)] (.tup [(qap r3.1),(.bool r3.2)]):=by
 refine zP call50 func50 rfl ntmps50 fun X w hT=>?_
 simp only [qee] at h
 refine zs<|zr ?_
 refine zU<|zl<|zn<|zs<|zs<|zr ?_
 refine zU<|zl<|zn ?_
 obtain ⟨h4,h⟩|⟨h4,h⟩:=zI h
 refine zi<|zs<|zr ?_
 refine zU<|zl<|zn<|zq<|zt ?_
 cases h
 exact zT results50
 refine zj<|zk<|zn<|zs<|zr ?_
 refine zU ?_
 obtain ⟨r5,h6,h⟩:=zB h
 refine zc (qr1 x1 (vxc.wrap (vxa x1.Attrs 6)) _ h6) ?_
 refine zU<|zl<|zn<|zq ?_
 cases h
 exact zT results50
theorem qup {D:Prop} (x1:Drossref03_Recipe) (d2:Drossref56_Draft) (r3:Table×Linkage×Bool) (h:qdz x1 d2=some r3):Con D Tryz.prog 16 [(qaq x1),(qam d2)] (.tup [(qap r3.1),(qai r3.2.1),(.bool r3.2.2)]):=by
 refine zP call16 func16 rfl ntmps16 fun X w hT=>?_
 simp only [qdz] at h
 refine zs<|zr ?_
 refine zU<|zl<|zn<|zs<|zr ?_
 refine zU ?_
 obtain ⟨r4,h5,h⟩:=zB h
 refine zc (qqq x1 6 _ h5) ?_
 refine zU<|zl<|zn<|zs ?_
 obtain ⟨t6,h7,h⟩:=zB h
 refine zJ (fun (o8:Bool)=>tE (cX Tryz.f16 X w D hT) .normal ⟨[(3,.loc 3 1 0 0),(4,.loc 4 1 0 0),(5,.loc 5 1 0 0),(7,.loc 7 1 0 0),(22,.p (.bool o8))],[(3,.arr 37 3 1 [.p (qam d2)]),(4,.arr 41 3 1 [.agg [.p (.str []),.nils,.nils]]),(5,.arr 25 3 1 [.agg [.nils,.nils,.nils]]),(7,.arr 41 3 1 [.p (qap r4.1)])]⟩) t6 ?_ ?_
 replace h:=h7
 clear h7
 refine zr ?_
 refine zU ?_
 obtain ⟨h9,h⟩|⟨h9,h⟩:=zI h
 replace h:=h.symm
 refine zw 17 false ?_
 refine zg ?_
 refine zg ?_
 refine zg ?_
 refine zg ?_
 refine zU<|zl ?_
 cases h
 exact ⟨rfl,zE⟩
 refine zw 17 true ?_
 refine zh ?_
 refine zU<|zl ?_
 cases h
 exact ⟨rfl,zE⟩
 try simp only at h
 refine zA<|zn ?_
 obtain ⟨h10,h⟩|⟨h10,h⟩:=zI h
 refine zi<|zs<|zr ?_
 refine zU<|zl<|zn<|zq<|zt ?_
 cases h
 exact zT results16
 refine zj<|zk<|zn<|zs<|zr ?_
 refine zU ?_
 obtain ⟨r11,h12,h⟩:=zB h
 refine zc (qun (r4.1.Attrs.length:Int) d2 _ h12) ?_
 refine zU<|zl<|zn<|zs<|zd ?_
 refine yU ?_
 refine yd<|zn<|zq ?_
 cases h
 exact zT results16
theorem qjr {D:Prop} (l1:List Int) (i2:Int) (r3:Bool) (h:qeq l1 i2=some r3):Con D Tryz.prog 25 [(.slc (vwb (PV.int .i64) l1)),(.int .i64 i2)] (.bool r3):=by
 refine zP call25 func25 rfl ntmps25 fun X w hT=>?_
 simp only [qeq] at h
 refine zs<|zr ?_
 refine zU<|zl<|zn<|zs<|zs<|zr ?_
 refine zU<|zl<|zn<|zb ?_
 obtain ⟨o4,h5,h⟩:=zB h
 refine zO (fun (s:Int)=>⟨[(0,.p (.slc (vwb (PV.int .i64) l1))),(1,.p (.int .i64 i2)),(5,.p (.int .i64 s))],[]⟩) (fun (o:(Unit) ⊕ (Bool))=>match o with | .inl o6=>tE (cX Tryz.f25 X w D hT) (.exit 0) ⟨[],[]⟩ | .inr o7=>tR Tryz.prog Tryz.f25 (.bool o7)) h5 ?_ ?_
 clear h h5
 intro i8 x h
 simp only [qey] at h
 refine zs<|zs<|zr ?_
 refine zU<|zl<|zn ?_
 obtain ⟨h9,h⟩|⟨h9,h⟩:=zI h
 refine zi<|zk<|zn<|zs<|zb<|zs<|zr ?_
 obtain ⟨x10,h11,h11a,h11b,h⟩:=zX h
 refine zU<|zl<|zn ?_
 obtain ⟨h12,h⟩|⟨h12,h⟩:=zI h
 refine zi<|zs<|zr ?_
 refine zU<|zl<|zn<|zq<|yr<|zt ?_
 cases h
 exact ⟨rfl,zT results25⟩
 refine zj<|zk<|yn<|zn<|zr ?_
 refine zU<|zl ?_
 cases h
 exact ⟨rfl,zE⟩
 refine zj<|zx<|ze ?_
 cases h
 exact ⟨rfl,zE⟩
 rcases o4 with ⟨⟩ | r13
 try simp only at h
 refine zA<|yh<|zn<|zs<|zr ?_
 refine zU<|zl<|zn<|zq ?_
 cases h
 exact zT results25
 try simp only at h
 refine zZ fun s hq=>?_
 refine yr<|zt ?_
 cases h
 exact hq
theorem qov {D:Prop} (l1:List Int) (r2:Bool) (h:qhj l1=some r2):Con D Tryz.prog 102 [(.slc (vwb (PV.int .i64) l1))] (.bool r2):=by
 refine zP call102 func102 rfl ntmps102 fun X w hT=>?_
 simp only [qhj] at h
 refine zs<|zr ?_
 refine zU<|zl<|zn<|zs<|zs<|zr ?_
 refine zU<|zl<|zn<|zb ?_
 obtain ⟨o3,h4,h⟩:=zB h
 refine zO (fun (s:Int)=>⟨[(0,.p (.slc (vwb (PV.int .i64) l1))),(3,.p (.int .i64 s))],[]⟩) (fun (o:(Unit) ⊕ (Bool))=>match o with | .inl o5=>tE (cX Tryz.f102 X w D hT) (.exit 0) ⟨[(0,.p (.slc (vwb (PV.int .i64) l1)))],[]⟩ | .inr o6=>tR Tryz.prog Tryz.f102 (.bool o6)) h4 ?_ ?_
 clear h h4
 intro i7 x h
 simp only [qkd] at h
 refine zs<|zs<|zr ?_
 refine zU<|zl<|zn ?_
 obtain ⟨h8,h⟩|⟨h8,h⟩:=zI h
 refine zi<|zk<|zn<|zs<|zb<|zs<|zd ?_
 obtain ⟨x9,h10,h10a,h10b,h⟩:=zX h
 obtain ⟨x11,h12,h12a,h12b,h⟩:=zX h
 refine yU ?_
 refine yd<|zn ?_
 obtain ⟨h13,h⟩|⟨h13,h⟩:=zI h
 refine zi<|zs<|zr ?_
 refine zU<|zl<|zn<|zq<|yr<|zt ?_
 cases h
 exact ⟨rfl,zT results102⟩
 refine zj<|zk<|yn<|zn<|zr ?_
 refine zU<|zl ?_
 cases h
 exact ⟨rfl,zE⟩
 refine zj<|zx<|ze ?_
 cases h
 exact ⟨rfl,zE⟩
 rcases o3 with ⟨⟩ | r14
 try simp only at h
 refine zA<|yh<|zn<|zs<|zr ?_
 refine zU<|zl<|zn<|zq ?_
 cases h
 exact zT results102
 try simp only at h
 refine zZ fun s hq=>?_
 refine yr<|zt ?_
 cases h
 exact hq
theorem qr2 {D:Prop} (l1:List (List Int)) (r2:Bool) (h:qhv l1=some r2):Con D Tryz.prog 58 [(.slc (vwb (qat (PV.int .i64)) l1))] (.bool r2):=by
 refine zP call58 func58 rfl ntmps58 fun X w hT=>?_
 simp only [qhv] at h
 refine zs<|zr ?_
 refine zU<|zl<|zn<|zs<|zr ?_
 refine zU<|zl<|zn<|zs<|zs<|zr ?_
 refine zU<|zl<|zn<|zb ?_
 obtain ⟨o3,h4,h⟩:=zB h
 refine zO (fun (s:List Int×Int)=>⟨[(0,.p (.slc (vwb (qat (PV.int .i64)) l1))),(3,.own 41 1 0 s.1.length),(4,.p (.int .i64 s.2))],[(41,.arr 2 1 1 (vwb AV.p (vwb (PV.int .i64) s.1)))]⟩) (fun (o:(Unit) ⊕ (Bool))=>match o with | .inl o5=>tE (cX Tryz.f58 X w D hT) (.exit 0) ⟨[],[]⟩ | .inr o6=>tR Tryz.prog Tryz.f58 (.bool o6)) h4 ?_ ?_
 clear h h4
 intro s x h
 obtain ⟨a7,i8⟩:=s
 simp only [qc1] at h
 dsimp only
 refine zs<|zs<|zr ?_
 refine zU<|zl<|zn ?_
 obtain ⟨h9,h⟩|⟨h9,h⟩:=zI h
 refine zi<|zk<|zn<|zs<|zb<|zs<|zs<|zr ?_
 obtain ⟨x10,h11,h11a,h11b,h⟩:=zX h
 refine zU ?_
 obtain ⟨r12,h13,h⟩:=zB h
 refine zc (qov x10 _ h13) ?_
 refine zU<|zl<|zn ?_
 obtain ⟨h14,h⟩|⟨h14,h⟩:=zI h
 refine zj<|zk<|zn<|zs<|zs<|zr ?_
 refine zU<|zl<|zn<|zb ?_
 obtain ⟨o15,h16,h⟩:=zB h
 refine zO (fun (s:Int)=>⟨[(0,.p (.slc (vwb (qat (PV.int .i64)) l1))),(3,.own 41 1 0 a7.length),(4,.p (.int .i64 i8)),(5,.p (.int .i64 s))],[(41,.arr 2 1 1 (vwb AV.p (vwb (PV.int .i64) a7)))]⟩) (fun (o:(Unit) ⊕ (Bool))=>match o with | .inl o17=>tE (cX Tryz.f58 X w D hT) (.exit 2) ⟨[(0,.p (.slc (vwb (qat (PV.int .i64)) l1))),(3,.own 41 1 0 a7.length),(4,.p (.int .i64 i8))],[(41,.arr 2 1 1 (vwb AV.p (vwb (PV.int .i64) a7)))]⟩ | .inr o18=>tR Tryz.prog Tryz.f58 (.bool o18)) h16 ?_ ?_
 clear h h9 h11 h11a h11b h13 h14 h16
 intro k19 x h
 simp only [qd5] at h
 refine zs<|zs<|zr ?_
 obtain ⟨x20,h21,h21a,h21b,h⟩:=zX h
 refine zU<|zl<|zn ?_
 obtain ⟨h22,h⟩|⟨h22,h⟩:=zI h
 refine zi<|zk<|zn<|zs<|zb<|zs<|zr ?_
 obtain ⟨x23,h24,h24a,h24b,h⟩:=zX h
 refine zU ?_
 obtain ⟨r25,h26,h⟩:=zB h
 refine zc (qjr a7 x23 _ h26) ?_
 refine zl<|zn ?_
 obtain ⟨h27,h⟩|⟨h27,h⟩:=zI h
 refine zi<|zs<|zr ?_
 refine zU<|zl<|zn<|zq<|yr<|zt ?_
 cases h
 exact ⟨rfl,zT results58⟩
 refine zj<|zk<|yn<|zn<|zr ?_
 refine zU<|zl ?_
 cases h
 exact ⟨rfl,zE⟩
 refine zj<|zx<|ze ?_
 cases h
 exact ⟨rfl,zE⟩
 rcases o15 with ⟨⟩ | r28
 try simp only at h
 refine zA<|yh<|zn<|zr ?_
 obtain ⟨h29,h⟩:=qab h
 refine zU<|zl<|yn<|zn<|zr ?_
 refine zU<|zl ?_
 cases h
 exact ⟨rfl,zE⟩
 try simp only at h
 refine zZ fun s hq=>?_
 refine yr<|zt<|yr<|zt ?_
 cases h
 refine ⟨rfl,?_⟩
 exact hq
 refine zi<|zs<|zr ?_
 refine zU<|zl<|zn<|zq<|zt<|yr<|zt ?_
 cases h
 exact ⟨rfl,zT results58⟩
 refine zj<|zx<|ze ?_
 cases h
 exact ⟨rfl,zE⟩
 rcases o3 with ⟨⟩ | r30
 try simp only at h
 refine zA<|yh<|zn<|zs<|zr ?_
 refine zU<|zl<|zn<|zq ?_
 cases h
 exact zT results58
 try simp only at h
 refine zZ fun s hq=>?_
 refine yr<|zt ?_
 cases h
 exact hq
theorem qr3 {D:Prop} (t1:Table) (i2:Int) (r3:Int×Bool) (h:qhw t1 i2=some r3):Con D Tryz.prog 59 [(qap t1),(.int .i64 i2)] (.tup [(.int .i64 r3.1),(.bool r3.2)]):=by
 refine zP call59 func59 rfl ntmps59 fun X w hT=>?_
 simp only [qhw] at h
 refine zs<|zr ?_
 refine zU<|zl<|zn<|zs<|zs<|zr ?_
 refine zU<|zl<|zn<|zb ?_
 obtain ⟨o4,h5,h⟩:=zB h
 refine zO (fun (s:Int)=>⟨[(1,.p (.int .i64 i2)),(2,.loc 2 1 0 0),(6,.p (.int .i64 s))],[(2,.arr 41 3 1 [.p (qap t1)])]⟩) (fun (o:(Unit) ⊕ (Int×Bool))=>match o with | .inl o6=>tE (cX Tryz.f59 X w D hT) (.exit 0) ⟨[],[]⟩ | .inr o7=>tR Tryz.prog Tryz.f59 (.tup [(.int .i64 o7.1),(.bool o7.2)])) h5 ?_ ?_
 clear h h5
 intro i8 x h
 simp only [qd6] at h
 refine zs<|zs<|zr ?_
 refine zU<|zl<|zn ?_
 obtain ⟨h9,h⟩|⟨h9,h⟩:=zI h
 refine zi<|zk<|zn<|zs<|zb<|zs<|zr ?_
 obtain ⟨x10,h11,h11a,h11b,h⟩:=zX h
 refine zU<|zl<|zn ?_
 obtain ⟨h12,h⟩|⟨h12,h⟩:=zI h
 refine zi<|zs<|zr ?_
 refine zU<|zl<|zn<|zq<|yr<|zt ?_
 cases h
 exact ⟨rfl,zT results59⟩
 refine zj<|zk<|yn<|zn<|zr ?_
 refine zU<|zl ?_
 cases h
 exact ⟨rfl,zE⟩
 refine zj<|zx<|ze ?_
 cases h
 exact ⟨rfl,zE⟩
 rcases o4 with ⟨⟩ | r13
 try simp only at h
 refine zA<|yh<|zn<|zs<|zr ?_
 refine zU<|zl<|zn<|zq ?_
 cases h
 exact zT results59
 try simp only at h
 refine zZ fun s hq=>?_
 refine yr<|zt ?_
 cases h
 exact hq
theorem quq {D:Prop} (t1:Table) (l2:List (List Int)) (r3:Bool) (h:qh8 t1 l2=some r3):Con D Tryz.prog 22 [(qap t1),(.slc (vwb (qat (PV.int .i64)) l2))] (.bool r3):=by
 refine zP call22 func22 rfl ntmps22 fun X w hT=>?_
 simp only [qh8] at h
 refine zs<|zr ?_
 refine zU<|zl<|zn<|zs<|zs<|zr ?_
 refine zU ?_
 obtain ⟨r4,h5,h⟩:=zB h
 refine zc (qr2 l2 _ h5) ?_
 refine zU<|zl<|zn ?_
 obtain ⟨h6,h⟩|⟨h6,h⟩:=zI h
 refine zj<|zk<|zn<|zs<|zr ?_
 refine zU<|zl<|zn<|zs<|zs<|zr ?_
 refine zU<|zl<|zn<|zb ?_
 obtain ⟨o7,h8,h⟩:=zB h
 refine zO (fun (s:Int×Int)=>⟨[(1,.p (.slc (vwb (qat (PV.int .i64)) l2))),(2,.loc 2 1 0 0),(5,.p (.int .i64 s.1)),(6,.p (.int .i64 s.2))],[(2,.arr 41 3 1 [.p (qap t1)])]⟩) (fun (o:(Int) ⊕ (Bool))=>match o with | .inl o9=>tE (cX Tryz.f22 X w D hT) (.exit 0) ⟨[(2,.loc 2 1 0 0),(5,.p (.int .i64 o9))],[(2,.arr 41 3 1 [.p (qap t1)])]⟩ | .inr o10=>tR Tryz.prog Tryz.f22 (.bool o10)) h8 ?_ ?_
 clear h h5 h6 h8
 intro s x h
 obtain ⟨n11,i12⟩:=s
 simp only [qfu] at h
 dsimp only
 refine zs<|zs<|zr ?_
 refine zU<|zl<|zn ?_
 obtain ⟨h13,h⟩|⟨h13,h⟩:=zI h
 refine zi<|zk<|zn<|zs<|zb<|zs<|zr ?_
 obtain ⟨x14,h15,h15a,h15b,h⟩:=zX h
 refine zU<|zl<|zn<|zs<|zr ?_
 refine zU<|zl<|zn<|zb ?_
 obtain ⟨o16,h17,h⟩:=zB h
 refine zO (fun (s:Int)=>⟨[(1,.p (.slc (vwb (qat (PV.int .i64)) l2))),(2,.loc 2 1 0 0),(5,.p (.int .i64 (vxc.wrap (n11+(x14.length:Int))))),(6,.p (.int .i64 i12)),(7,.p (.int .i64 s))],[(2,.arr 41 3 1 [.p (qap t1)])]⟩) (fun (o:(Unit) ⊕ (Bool))=>match o with | .inl o18=>tE (cX Tryz.f22 X w D hT) (.exit 2) ⟨[(1,.p (.slc (vwb (qat (PV.int .i64)) l2))),(2,.loc 2 1 0 0),(5,.p (.int .i64 (vxc.wrap (n11+(x14.length:Int))))),(6,.p (.int .i64 i12))],[(2,.arr 41 3 1 [.p (qap t1)])]⟩ | .inr o19=>tR Tryz.prog Tryz.f22 (.bool o19)) h17 ?_ ?_
 clear h h13 h15 h15a h15b h17
 intro k20 x h
 simp only [qft] at h
 refine zs<|zs<|zr ?_
 obtain ⟨x21,h22,h22a,h22b,h⟩:=zX h
 refine zU<|zl<|zn ?_
 obtain ⟨h23,h⟩|⟨h23,h⟩:=zI h
 refine zi<|zk<|zn<|zs<|zb<|zs<|zd ?_
 obtain ⟨x24,h25,h25a,h25b,h⟩:=zX h
 refine yU ?_
 obtain ⟨r26,h27,h⟩:=zB h
 refine yc (qr3 t1 x24 _ h27) ?_
 refine yU ?_
 refine yd<|zn<|zs<|zr ?_
 refine zU<|zl<|zn ?_
 obtain ⟨h28,h⟩|⟨h28,h⟩:=zI h
 refine zj<|zk<|yn<|zn<|zr ?_
 refine zU<|zl ?_
 cases h
 exact ⟨rfl,zE⟩
 refine zi<|zs<|zr ?_
 refine zU<|zl<|zn<|zq<|yr<|zt ?_
 cases h
 exact ⟨rfl,zT results22⟩
 refine zj<|zx<|ze ?_
 cases h
 exact ⟨rfl,zE⟩
 rcases o16 with ⟨⟩ | r29
 try simp only at h
 refine zA<|yh<|yn<|zn<|zr ?_
 refine zU<|zl ?_
 cases h
 exact ⟨rfl,zE⟩
 try simp only at h
 refine zZ fun s hq=>?_
 refine yr<|yr<|zt ?_
 cases h
 refine ⟨rfl,?_⟩
 exact hq
 refine zj<|zx<|ze ?_
 cases h
 exact ⟨rfl,zE⟩
 rcases o7 with n30 | r31
 try simp only at h
 refine zA<|yh<|zn<|zs<|zr ?_
 refine zU<|zl<|zn<|zq ?_
 cases h
 exact zT results22
 try simp only at h
 refine zZ fun s hq=>?_
 refine yr<|zt ?_
 cases h
 exact hq
 refine zi<|zs<|zr ?_
 refine zU<|zl<|zn<|zq<|zt ?_
 cases h
 exact zT results22
theorem qky {D:Prop} (v1:Value) (r2:Bool) (h:qfp v1=some r2):Con D Tryz.prog 149 [(qak v1)] (.bool r2):=by
 refine zP call149 func149 rfl ntmps149 fun X w hT=>?_
 simp only [qfp] at h
 refine zs<|zr ?_
 refine zU<|zl<|zn<|zs<|zs<|zr ?_
 refine zU<|zl<|zn<|zb<|zs<|zr ?_
 refine zU<|zl<|zn ?_
 obtain ⟨h3,h⟩|⟨h3,h⟩:=zI h
 refine zi<|zs<|zr ?_
 refine zU ?_
 obtain ⟨h4,h⟩|⟨h4,h⟩:=zI h
 replace h:=h.symm
 refine zw 10 true ?_
 refine zg ?_
 refine zg ?_
 refine zg ?_
 refine zU<|zl<|zn<|zq<|yr<|zt ?_
 cases h
 exact zT results149
 refine zw 10 false ?_
 refine zh ?_
 refine zU<|zl<|zn<|zq<|yr<|zt ?_
 cases h
 exact zT results149
 refine zj<|zs<|zr ?_
 refine zU<|zl<|zn ?_
 obtain ⟨h5,h⟩|⟨h5,h⟩:=zI h
 refine zi<|zs<|zr ?_
 refine zU<|zl<|zn<|zq<|yr<|zt ?_
 cases h
 exact zT results149
 refine zj<|zs<|zr ?_
 refine zU<|zl<|zn ?_
 obtain ⟨h6,h⟩|⟨h6,h⟩:=zI h
 refine zi<|zs<|zr ?_
 refine zU ?_
 obtain ⟨h7,h⟩|⟨h7,h⟩:=zI h
 replace h:=h.symm
 refine zw 25 true ?_
 refine zg ?_
 refine zg ?_
 refine zg ?_
 refine zg ?_
 refine zU<|zl<|zn<|zq<|yr<|zt ?_
 cases h
 exact zT results149
 refine zw 25 false ?_
 refine zh ?_
 refine zU<|zl<|zn<|zq<|yr<|zt ?_
 cases h
 exact zT results149
 refine zj<|zk<|yn<|zn<|zs<|zr ?_
 refine zU ?_
 obtain ⟨h8,h⟩|⟨h8,h⟩:=zI h
 refine zw 34 true ?_
 refine zg ?_
 refine zg ?_
 refine zg ?_
 refine zU ?_
 obtain ⟨h9,h⟩|⟨h9,h⟩:=zI h
 replace h:=h.symm
 refine zw 39 true ?_
 refine zg ?_
 refine zg ?_
 refine zg ?_
 refine zU<|zl<|zn<|zq ?_
 cases h
 exact zT results149
 refine zw 39 false ?_
 refine zh ?_
 refine zU<|zl<|zn<|zq ?_
 cases h
 exact zT results149
 refine zw 34 false ?_
 refine zh ?_
 refine zU ?_
 refine zh ?_
 refine zU<|zl<|zn<|zq ?_
 cases h
 exact zT results149
theorem qqr {D:Prop} (c1:Similar) (r2:Bool) (h:qiu c1=some r2):Con D Tryz.prog 150 [(qal c1)] (.bool r2):=by
 refine zP call150 func150 rfl ntmps150 fun X w hT=>?_
 simp only [qiu] at h
 refine zs<|zr ?_
 refine zU<|zl<|zn<|zs<|zs<|zr ?_
 refine zU<|zl<|zn<|zb<|zs<|zr ?_
 refine zU<|zl<|zn ?_
 obtain ⟨h3,h⟩|⟨h3,h⟩:=zI h
 refine zi<|zs<|zr ?_
 refine zU<|zl<|zn<|zq<|yr<|zt ?_
 cases h
 exact zT results150
 refine zj<|zs<|zs<|zr ?_
 refine zU<|zl<|zn ?_
 obtain ⟨h4,h⟩|⟨h4,h⟩:=zI h
 refine zi<|zk<|zn ?_
 refine zi<|zs<|zr ?_
 refine zU ?_
 obtain ⟨h5,h⟩|⟨h5,h⟩:=zI h
 replace h:=h.symm
 refine zw 16 true ?_
 refine zg ?_
 refine zg ?_
 refine zg ?_
 refine zU<|zl<|zn<|zq<|yr<|zt ?_
 cases h
 exact zT results150
 refine zw 16 false ?_
 refine zh ?_
 refine zU<|zl<|zn<|zq<|yr<|zt ?_
 cases h
 exact zT results150
 refine zj<|zr ?_
 refine zU<|zl<|zn ?_
 obtain ⟨h6,h⟩|⟨h6,h⟩:=zI h
 refine zi<|zs<|zr ?_
 refine zU ?_
 obtain ⟨h7,h⟩|⟨h7,h⟩:=zI h
 replace h:=h.symm
 refine zw 16 true ?_
 refine zg ?_
 refine zg ?_
 refine zg ?_
 refine zU<|zl<|zn<|zq<|yr<|zt ?_
 cases h
 exact zT results150
 refine zw 16 false ?_
 refine zh ?_
 refine zU<|zl<|zn<|zq<|yr<|zt ?_
 cases h
 exact zT results150
 refine zj<|zs<|zr ?_
 refine zU<|zl<|zn ?_
 obtain ⟨h8,h⟩|⟨h8,h⟩:=zI h
 refine zi<|zs<|zr ?_
 refine zU ?_
 obtain ⟨h9,h⟩|⟨h9,h⟩:=zI h
 replace h:=h.symm
 refine zw 26 true ?_
 refine zg ?_
 refine zg ?_
 refine zg ?_
 refine zU<|zl<|zn<|zq<|yr<|zt ?_
 cases h
 exact zT results150
 refine zw 26 false ?_
 refine zh ?_
 refine zU<|zl<|zn<|zq<|yr<|zt ?_
 cases h
 exact zT results150
 refine zj<|zk<|yn<|zn<|zs<|zr ?_
 refine zU<|zl<|zn<|zq ?_
 cases h
 exact zT results150
theorem qqs {D:Prop} (x1:Row) (y2:Row) (c3:Similar) (r4:Int) (h:qc9 x1 y2 c3=some r4):Con D Tryz.prog 87 [(qay x1),(qay y2),(qal c3)] (.int .i64 r4):=by
 refine zP call87 func87 rfl ntmps87 fun X w hT=>?_
 simp only [qc9] at h
 refine zs<|zr ?_
 refine zU<|zl<|zn<|zs<|zs<|zr ?_
 refine zU ?_
 obtain ⟨h5,h⟩|⟨h5,h⟩:=zI h
 refine zw 10 true ?_
 refine zh ?_
 refine zU ?_
 refine zh ?_
 refine zU<|zl<|zn ?_
 refine zi<|zs<|zr ?_
 refine zU<|zl<|zn<|zq<|zt ?_
 cases h
 exact zT results87
 refine zw 10 false ?_
 refine zg ?_
 refine zg ?_
 refine zg ?_
 refine zg ?_
 refine zg ?_
 refine zg ?_
 refine zU ?_
 obtain ⟨h6,h⟩|⟨h6,h⟩:=zI h
 refine zw 18 true ?_
 refine zh ?_
 refine zU<|zl<|zn ?_
 refine zi<|zs<|zr ?_
 refine zU<|zl<|zn<|zq<|zt ?_
 cases h
 exact zT results87
 refine zw 18 false ?_
 refine zg ?_
 refine zg ?_
 refine zg ?_
 refine zg ?_
 refine zg ?_
 refine zg ?_
 refine zU<|zl<|zn ?_
 obtain ⟨h7,h⟩|⟨h7,h⟩:=zI h
 refine zi<|zs<|zr ?_
 refine zU<|zl<|zn<|zq<|zt ?_
 cases h
 exact zT results87
 refine zj<|zk<|zn<|zs<|zs<|zr ?_
 obtain ⟨x8,h9,h9a,h9b,h⟩:=zX h
 refine zU ?_
 obtain ⟨r10,h11,h⟩:=zB h
 refine zc (qky x8 _ h11) ?_
 refine zU ?_
 obtain ⟨h12,h⟩|⟨h12,h⟩:=zI h
 refine zw 34 false ?_
 refine zg ?_
 refine zg ?_
 refine zg ?_
 refine zg ?_
 obtain ⟨x13,h14,h14a,h14b,h⟩:=zX h
 refine zg ?_
 refine zg ?_
 obtain ⟨r15,h16,h⟩:=zB h
 refine zc (qky x13 _ h16) ?_
 refine zg ?_
 refine zU ?_
 obtain ⟨h17,h⟩|⟨h17,h⟩:=zI h
 refine zw 44 false ?_
 refine zg ?_
 obtain ⟨r18,h19,h⟩:=zB h
 refine zc (qqr c3 _ h19) ?_
 refine zg ?_
 refine zU<|zl<|zn ?_
 obtain ⟨h20,h⟩|⟨h20,h⟩:=zI h
 refine zj<|zk<|zn<|zs<|zr ?_
 refine zU<|zl<|zn<|zq ?_
 cases h
 exact zT results87
 refine zi<|zs<|zr ?_
 refine zU<|zl<|zn<|zq<|zt ?_
 cases h
 exact zT results87
 refine zw 44 true ?_
 refine zh ?_
 refine zU<|zl<|zn ?_
 refine zi<|zs<|zr ?_
 refine zU<|zl<|zn<|zq<|zt ?_
 cases h
 exact zT results87
 refine zw 34 true ?_
 refine zh ?_
 refine zU ?_
 refine zh ?_
 refine zU<|zl<|zn ?_
 refine zi<|zs<|zr ?_
 refine zU<|zl<|zn<|zq<|zt ?_
 cases h
 exact zT results87
theorem qfh {D:Prop} (a1:Int) (b2:Int) (r3:Int) (h:qcz a1 b2=some r3):Con D Tryz.prog 215 [(.int .i64 a1),(.int .i64 b2)] (.int .i64 r3):=by
 refine zP call215 func215 rfl ntmps215 fun X w hT=>?_
 simp only [qcz] at h
 refine zs<|zr ?_
 refine zU<|zl<|zn<|zs<|zs<|zr ?_
 refine zU<|zl<|zn ?_
 obtain ⟨h4,h⟩|⟨h4,h⟩:=zI h
 refine zi<|zs<|zr ?_
 refine zU<|zl<|zn<|zq<|zt ?_
 cases h
 exact zT results215
 refine zj<|zk<|zn<|zs<|zs<|zr ?_
 refine zU<|zl<|zn ?_
 obtain ⟨h5,h⟩|⟨h5,h⟩:=zI h
 refine zi<|zs<|zr ?_
 refine zU<|zl<|zn<|zq<|zt ?_
 cases h
 exact zT results215
 refine zj<|zk<|zn<|zs<|zr ?_
 refine zU<|zl<|zn<|zq ?_
 cases h
 exact zT results215
theorem qow {D:Prop} (a1:List UInt8) (b2:List UInt8) (r3:Int) (h:qf5 a1 b2=some r3):Con D Tryz.prog 216 [(.str a1),(.str b2)] (.int .i64 r3):=by
 refine zP call216 func216 rfl ntmps216 fun X w hT=>?_
 simp only [qf5] at h
 refine zs<|zr ?_
 refine zU<|zl<|zn<|zs<|zs<|zr ?_
 refine zU<|zl<|zn<|zb ?_
 obtain ⟨o4,h5,h⟩:=zB h
 refine zO (fun (s:Int)=>⟨[(0,.p (.str a1)),(1,.p (.str b2)),(5,.p (.int .i64 s))],[]⟩) (fun (o:(Unit) ⊕ (Int))=>match o with | .inl o6=>tE (cX Tryz.f216 X w D hT) (.exit 0) ⟨[(0,.p (.str a1)),(1,.p (.str b2))],[]⟩ | .inr o7=>tR Tryz.prog Tryz.f216 (.int .i64 o7)) h5 ?_ ?_
 clear h h5
 intro i8 x h
 simp only [qa9] at h
 refine zs<|zs<|zr ?_
 refine zU ?_
 obtain ⟨h9,h⟩|⟨h9,h⟩:=zI h
 refine zw 10 true ?_
 refine zg ?_
 refine zg ?_
 refine zg ?_
 refine zg ?_
 refine zU<|zl<|zn ?_
 obtain ⟨h10,h⟩|⟨h10,h⟩:=zI h
 refine zi<|zk<|zn<|zs<|zb<|zs<|zd ?_
 obtain ⟨c11,h12,h12a,h12b,h⟩:=zX h
 obtain ⟨c13,h14,h14a,h14b,h⟩:=zX h
 refine yU ?_
 refine yd<|zn ?_
 obtain ⟨h15,h⟩|⟨h15,h⟩:=zI h
 refine zi<|zs<|zd ?_
 refine yU ?_
 obtain ⟨r16,h17,h⟩:=zB h
 refine yc (qfh (vxc.wrap ((c11.toNat:Nat):Int)) (vxc.wrap ((c13.toNat:Nat):Int)) _ h17) ?_
 refine yU ?_
 refine yd<|zn<|zq<|yr<|zt ?_
 cases h
 exact ⟨rfl,zT results216⟩
 refine zj<|zk<|yn<|zn<|zr ?_
 refine zU<|zl ?_
 cases h
 exact ⟨rfl,zE⟩
 refine zj<|zx<|ze ?_
 cases h
 exact ⟨rfl,zE⟩
 refine zw 10 false ?_
 refine zh ?_
 refine zU<|zl<|zn ?_
 refine zj<|zx<|ze ?_
 cases h
 exact ⟨rfl,zE⟩
 rcases o4 with ⟨⟩ | r18
 try simp only at h
 refine zA<|yh<|zn<|zs<|zr ?_
 refine zU ?_
 obtain ⟨r19,h20,h⟩:=zB h
 refine zc (qfh (a1.length:Int) (b2.length:Int) _ h20) ?_
 refine zU<|zl<|zn<|zq ?_
 cases h
 exact zT results216
 try simp only at h
 refine zZ fun s hq=>?_
 refine yr<|zt ?_
 cases h
 exact hq
theorem qju {D:Prop} (a1:Value) (b2:Value) (r3:Int) (h:qc0 a1 b2=some r3):Con D Tryz.prog 174 [(qak a1),(qak b2)] (.int .i64 r3):=by
 refine zP call174 func174 rfl ntmps174 fun X w hT=>?_
 simp only [qc0] at h
 refine zs<|zr ?_
 refine zU<|zl<|zn<|zs<|zs<|zr ?_
 refine zU ?_
 obtain ⟨r4,h5,h⟩:=zB h
 refine zc (qfh a1.Kind b2.Kind _ h5) ?_
 refine zU<|zl<|zn<|zs<|zr ?_
 refine zU<|zl<|zn ?_
 obtain ⟨h6,h⟩|⟨h6,h⟩:=zI h
 refine zi<|zs<|zr ?_
 refine zU<|zl<|zn<|zq<|zt ?_
 cases h
 exact zT results174
 refine zj<|zk<|zn<|zs<|zs<|zr ?_
 refine zU ?_
 obtain ⟨r7,h8,h⟩:=zB h
 refine zc (qfh a1.Num b2.Num _ h8) ?_
 refine zU<|zl<|zn<|zs<|zr ?_
 refine zU<|zl<|zn ?_
 obtain ⟨h9,h⟩|⟨h9,h⟩:=zI h
 refine zi<|zs<|zr ?_
 refine zU<|zl<|zn<|zq<|zt ?_
 cases h
 exact zT results174
 refine zj<|zk<|zn<|zs<|zr ?_
 refine zU ?_
 obtain ⟨r10,h11,h⟩:=zB h
 refine zc (qow a1.Str b2.Str _ h11) ?_
 refine zU<|zl<|zn<|zq ?_
 cases h
 exact zT results174
theorem qom {D:Prop} (a1:List UInt8) (b2:List UInt8) (r3:Int) (h:qdn a1 b2=some r3):Con D Tryz.prog 175 [(.str a1),(.str b2)] (.int .i64 r3):=by
 refine zP call175 func175 rfl ntmps175 fun X w hT=>?_
 simp only [qdn] at h
 refine zs<|zr ?_
 refine zU<|zl<|zn<|zs<|zr ?_
 refine zU<|zl<|zn<|zs<|zs<|zr ?_
 refine zU<|zl<|zn<|zb ?_
 obtain ⟨d4,h5,h⟩:=zB h
 refine zO (fun (s:List Int×Int)=>⟨[(0,.p (.str a1)),(1,.p (.str b2)),(5,.own 20 1 0 s.1.length),(6,.p (.int .i64 s.2))],[(20,.arr 3 1 1 (vwb AV.p (vwb (PV.int .i64) s.1)))]⟩) (fun (o6:List Int)=>tE (cX Tryz.f175 X w D hT) (.exit 0) ⟨[(0,.p (.str a1)),(1,.p (.str b2)),(5,.own 20 1 0 o6.length)],[(20,.arr 3 1 1 (vwb AV.p (vwb (PV.int .i64) o6)))]⟩) h5 ?_ ?_
 clear h h5
 intro s x h
 obtain ⟨d7,k8⟩:=s
 simp only [qch] at h
 dsimp only
 refine zs<|zs<|zr ?_
 refine zU<|zl<|zn ?_
 obtain ⟨h9,h⟩|⟨h9,h⟩:=zI h
 refine zi<|zk<|zn<|zs<|zb<|zr ?_
 obtain ⟨h10,h⟩:=qab h
 refine zU<|zl<|yn<|zn<|zr ?_
 refine zU<|zl ?_
 cases h
 exact ⟨rfl,zE⟩
 refine zj<|zx<|ze ?_
 cases h
 exact ⟨rfl,zE⟩
 try simp only at h
 refine zA<|yh<|zn<|zs<|zs<|zr ?_
 refine zU<|zl<|zn<|zb ?_
 obtain ⟨d11,h12,h⟩:=zB h
 refine zO (fun (s:List Int×Int)=>⟨[(0,.p (.str a1)),(1,.p (.str b2)),(5,.p (.slc (vwb (PV.int .i64) s.1))),(7,.p (.int .i64 s.2))],[]⟩) (fun (o13:List Int)=>tE (cX Tryz.f175 X w D hT) (.exit 2) ⟨[(1,.p (.str b2)),(5,.p (.slc (vwb (PV.int .i64) o13)))],[]⟩) h12 ?_ ?_
 clear h h5 h12
 intro s x h
 obtain ⟨d14,i15⟩:=s
 simp only [qdf] at h
 dsimp only
 refine zs<|zs<|zr ?_
 refine zU<|zl<|zn ?_
 obtain ⟨h16,h⟩|⟨h16,h⟩:=zI h
 refine zi<|zk<|zn<|zs<|zb<|zs<|zr ?_
 refine zU<|zl<|zn<|zs<|zs<|zr ?_
 refine zU<|zl<|zn<|zb ?_
 obtain ⟨n17,h18,h⟩:=zB h
 refine zO (fun (s:List Int×Int)=>⟨[(0,.p (.str a1)),(1,.p (.str b2)),(5,.p (.slc (vwb (PV.int .i64) d14))),(7,.p (.int .i64 i15)),(8,.own 29 1 0 s.1.length),(9,.p (.int .i64 s.2))],[(29,.arr 3 1 1 (vwb AV.p (vwb (PV.int .i64) s.1)))]⟩) (fun (o19:List Int)=>tE (cX Tryz.f175 X w D hT) (.exit 4) ⟨[(0,.p (.str a1)),(1,.p (.str b2)),(7,.p (.int .i64 i15)),(8,.own 29 1 0 o19.length)],[(29,.arr 3 1 1 (vwb AV.p (vwb (PV.int .i64) o19)))]⟩) h18 ?_ ?_
 clear h h16 h18
 intro s x h
 obtain ⟨n20,k21⟩:=s
 simp only [qci] at h
 dsimp only
 refine zs<|zs<|zr ?_
 refine zU<|zl<|zn ?_
 obtain ⟨h22,h⟩|⟨h22,h⟩:=zI h
 refine zi<|zk<|zn<|zs<|zb<|zs<|zr ?_
 obtain ⟨x23,h24,h24a,h24b,h⟩:=zX h
 refine zU<|zl<|zn<|zs<|zs<|zd ?_
 obtain ⟨c25,h26,h26a,h26b,h⟩:=zX h
 obtain ⟨c27,h28,h28a,h28b,h⟩:=zX h
 refine yU ?_
 refine yd<|zn ?_
 obtain ⟨h29,h⟩|⟨h29,h⟩:=zI h
 refine zi<|zr ?_
 refine zU<|zl<|zn<|zd ?_
 obtain ⟨x30,h31,h31a,h31b,h⟩:=zX h
 obtain ⟨x32,h33,h33a,h33b,h⟩:=zX h
 obtain ⟨h34,h⟩:=qab h
 refine yU ?_
 refine yd<|yn<|zn<|zr ?_
 refine zU<|zl ?_
 cases h
 exact ⟨rfl,zE⟩
 refine zj<|zk<|zn<|zd ?_
 obtain ⟨x35,h36,h36a,h36b,h⟩:=zX h
 obtain ⟨x37,h38,h38a,h38b,h⟩:=zX h
 obtain ⟨h39,h⟩:=qab h
 refine yU ?_
 refine yd<|yn<|zn<|zr ?_
 refine zU<|zl ?_
 cases h
 exact ⟨rfl,zE⟩
 refine zj<|zx<|ze ?_
 cases h
 exact ⟨rfl,zE⟩
 try simp only at h
 refine zA<|yh<|zn<|zr ?_
 refine zU<|zl<|yn<|zn<|zr ?_
 refine zU<|zl ?_
 cases h
 exact ⟨rfl,zE⟩
 refine zj<|zx<|ze ?_
 cases h
 exact ⟨rfl,zE⟩
 try simp only at h
 refine zA<|yh<|zn<|zs<|zr ?_
 obtain ⟨x40,h41,h41a,h41b,h⟩:=zX h
 have h41N:=vl2 h41
 refine zU<|zl<|zn<|zq ?_
 cases h
 exact zT results175
theorem qiz {D:Prop} (s1:List UInt8) (r2:Bool) (h:qd0 s1=some r2):Con D Tryz.prog 217 [(.str s1)] (.bool r2):=by
 refine zP call217 func217 rfl ntmps217 fun X w hT=>?_
 simp only [qd0] at h
 refine zs<|zr ?_
 refine zU<|zl<|zn<|zs<|zr ?_
 refine zU<|zl<|zn<|zq ?_
 cases h
 exact zT results217
theorem qkz {D:Prop} (s1:List UInt8) (q2:Int) (r3:List (List UInt8)×Int) (h:qdb s1 q2=some r3):Con D Tryz.prog 218 [(.str s1),(.int .i64 q2)] (.tup [(.slc (vwb PV.str r3.1)),(.int .i64 r3.2)]):=by
 refine zP call218 func218 rfl ntmps218 fun X w hT=>?_
 simp only [qdb] at h
 refine zs<|zr ?_
 refine zU<|zl<|zn<|zs<|zs<|zr ?_
 refine zU ?_
 obtain ⟨r4,h5,h⟩:=zB h
 refine zc (qiz s1 _ h5) ?_
 refine zl<|zn ?_
 obtain ⟨h6,h⟩|⟨h6,h⟩:=zI h
 refine zi<|zs<|zr ?_
 refine zU<|zl<|zn<|zq<|zt ?_
 cases h
 exact zT results218
 refine zj<|zk<|zn<|zs<|zs<|zr ?_
 refine zU ?_
 obtain ⟨h7,h⟩|⟨h7,h⟩:=zI h
 refine zw 15 true ?_
 refine zh ?_
 refine zU<|zl<|zn ?_
 refine zi<|zs<|zr ?_
 refine zU<|zl<|zn<|zq<|zt ?_
 cases h
 exact zT results218
 refine zw 15 false ?_
 refine zg ?_
 refine zg ?_
 refine zU<|zl<|zn ?_
 obtain ⟨h8,h⟩|⟨h8,h⟩:=zI h
 refine zi<|zs<|zr ?_
 refine zU<|zl<|zn<|zq<|zt ?_
 cases h
 exact zT results218
 refine zj<|zk<|zn<|zs<|zr ?_
 refine zU<|zl<|zn<|zs<|zs<|zr ?_
 refine zU<|zl<|zn<|zb ?_
 obtain ⟨w9,h10,h⟩:=zB h
 refine zO (fun (s:List UInt8×Int)=>⟨[(0,.p (.str s1)),(1,.p (.int .i64 q2)),(6,.p (.str s.1)),(7,.p (.int .i64 s.2))],[]⟩) (fun (o11:List UInt8)=>tE (cX Tryz.f218 X w D hT) (.exit 0) ⟨[(0,.p (.str s1)),(1,.p (.int .i64 q2)),(6,.p (.str o11))],[]⟩) h10 ?_ ?_
 clear h h5 h6 h7 h8 h10
 intro s x h
 obtain ⟨w12,i13⟩:=s
 simp only [qbw] at h
 dsimp only
 refine zs<|zs<|zr ?_
 refine zU<|zl<|zn ?_
 obtain ⟨h14,h⟩|⟨h14,h⟩:=zI h
 refine zi<|zk<|zn<|zs<|zb<|zr ?_
 obtain ⟨h15,h⟩:=qab h
 obtain ⟨h16,h⟩:=qab h
 refine zU<|zl<|yn<|zn<|zr ?_
 refine zU<|zl ?_
 cases h
 exact ⟨rfl,zE⟩
 refine zj<|zx<|ze ?_
 cases h
 exact ⟨rfl,zE⟩
 try simp only at h
 refine zA<|yh<|zn<|zs<|zr ?_
 refine zU<|zl<|zn<|zs<|zs<|zr ?_
 refine zU<|zl<|zn<|zb ?_
 obtain ⟨o17,h18,h⟩:=zB h
 refine zO (fun (s:List (List UInt8)×Int)=>⟨[(0,.p (.str s1)),(1,.p (.int .i64 q2)),(6,.p (.str w9)),(8,.own 53 1 0 s.1.length),(9,.p (.int .i64 s.2))],[(53,.arr 9 1 1 (vwb AV.p (vwb PV.str s.1)))]⟩) (fun (o19:List (List UInt8))=>tE (cX Tryz.f218 X w D hT) (.exit 2) ⟨[(8,.own 53 1 0 o19.length)],[(53,.arr 9 1 1 (vwb AV.p (vwb PV.str o19)))]⟩) h18 ?_ ?_
 clear h h5 h6 h7 h8 h10 h18
 intro s x h
 obtain ⟨o20,i21⟩:=s
 simp only [qfb] at h
 dsimp only
 refine zs<|zs<|zr ?_
 refine zU ?_
 obtain ⟨h22,h⟩|⟨h22,h⟩:=zI h
 refine zw 34 true ?_
 refine zg ?_
 refine zg ?_
 refine zg ?_
 refine zg ?_
 refine zg ?_
 refine zg ?_
 refine zg ?_
 refine zU<|zl<|zn ?_
 obtain ⟨h23,h⟩|⟨h23,h⟩:=zI h
 refine zi<|zk<|zn<|zs<|zb<|zs<|zr ?_
 obtain ⟨h24,h⟩:=qab h
 obtain ⟨h25,h⟩:=qab h
 obtain ⟨h26,h⟩:=qab h
 obtain ⟨h27,h⟩:=qab h
 refine zU<|zl<|zn<|zs<|zr ?_
 refine zU<|zl<|zn<|zb ?_
 obtain ⟨o28,h29,h⟩:=zB h
 refine zO (fun (s:List (List UInt8)×Int)=>⟨[(0,.p (.str s1)),(1,.p (.int .i64 q2)),(6,.p (.str w9)),(8,.own 53 1 0 s.1.length),(9,.p (.int .i64 i21)),(10,.p (.int .i64 s.2))],[(53,.arr 9 1 1 (vwb AV.p (vwb PV.str s.1)))]⟩) (fun (o30:List (List UInt8))=>tE (cX Tryz.f218 X w D hT) (.exit 4) ⟨[(0,.p (.str s1)),(1,.p (.int .i64 q2)),(6,.p (.str w9)),(8,.own 53 1 0 o30.length),(9,.p (.int .i64 i21))],[(53,.arr 9 1 1 (vwb AV.p (vwb PV.str o30)))]⟩) h29 ?_ ?_
 clear h h22 h23 h24 h25 h26 h27 h29
 intro s x h
 obtain ⟨o31,k32⟩:=s
 simp only [qdo] at h
 dsimp only
 refine zs<|zs<|zd ?_
 refine yU ?_
 obtain ⟨h33,h⟩|⟨h33,h⟩:=zI h
 refine yw 59 true ?_
 refine yg ?_
 refine yg ?_
 obtain ⟨x34,h35,h35a,h35b,h⟩:=zX h
 refine yg ?_
 refine yg ?_
 refine yg ?_
 refine yg ?_
 refine yg ?_
 obtain ⟨x36,h37,h37a,h37b,h⟩:=zX h
 refine yg ?_
 refine yg ?_
 refine yg ?_
 refine yU ?_
 refine yd<|zn ?_
 obtain ⟨h38,h⟩|⟨h38,h⟩:=zI h
 refine zi<|zk<|zn<|zs<|zb<|zd ?_
 obtain ⟨x39,h40,h40a,h40b,h⟩:=zX h
 have h40B:=eq_true (by simpa only [List.length_set] using h40b)
 refine yU ?_
 refine yd<|yn<|zn<|zr ?_
 refine zU<|zl ?_
 cases h
 exact ⟨rfl,zE⟩
 refine zj<|zx<|ze ?_
 cases h
 exact ⟨rfl,zE⟩
 refine yw 59 false ?_
 refine yk ?_
 refine yU ?_
 refine yd<|zn ?_
 refine zj<|zx<|ze ?_
 cases h
 exact ⟨rfl,zE⟩
 try simp only at h
 refine zA<|yh<|yn<|zn<|zr ?_
 refine zU<|zl ?_
 cases h
 exact ⟨rfl,zE⟩
 refine zj<|zx<|ze ?_
 cases h
 exact ⟨rfl,zE⟩
 refine zw 34 false ?_
 refine zh ?_
 refine zU<|zl<|zn ?_
 refine zj<|zx<|ze ?_
 cases h
 exact ⟨rfl,zE⟩
 try simp only at h
 refine zA<|yh<|zn<|zs<|zr ?_
 refine zU<|zl<|zn<|zq ?_
 cases h
 exact zT results218
theorem qpu {D:Prop} (a1:List (List UInt8)) (b2:List (List UInt8)) (r3:Int) (h:qgu a1 b2=some r3):Con D Tryz.prog 219 [(.slc (vwb PV.str a1)),(.slc (vwb PV.str b2))] (.int .i64 r3):=by
 refine zP call219 func219 rfl ntmps219 fun X w hT=>?_
 simp only [qgu] at h
 refine zs<|zr ?_
 refine zU<|zl<|zn<|zs<|zr ?_
 refine zU<|zl<|zn<|zs<|zs<|zr ?_
 refine zU<|zl<|zn<|zb ?_
 obtain ⟨n4,h5,h⟩:=zB h
 refine zO (fun (s:Int×Int×Int)=>⟨[(0,.p (.slc (vwb PV.str a1))),(1,.p (.slc (vwb PV.str b2))),(5,.p (.int .i64 s.1)),(6,.p (.int .i64 s.2.1)),(7,.p (.int .i64 s.2.2))],[]⟩) (fun (o6:Int)=>tE (cX Tryz.f219 X w D hT) (.exit 0) ⟨[(5,.p (.int .i64 o6))],[]⟩) h5 ?_ ?_
 clear h h5
 intro s x h
 obtain ⟨n7,k8,i9⟩:=s
 simp only [qcc] at h
 dsimp only
 refine zs<|zs<|zr ?_
 refine zU<|zl<|zn ?_
 obtain ⟨h10,h⟩|⟨h10,h⟩:=zI h
 refine zi<|zk<|zn<|zs<|zb<|zs<|zb ?_
 obtain ⟨k11,h12,h⟩:=zB h
 refine zO (fun (s:Int)=>⟨[(0,.p (.slc (vwb PV.str a1))),(1,.p (.slc (vwb PV.str b2))),(5,.p (.int .i64 n7)),(6,.p (.int .i64 s)),(7,.p (.int .i64 i9))],[]⟩) (fun (o13:Int)=>tE (cX Tryz.f219 X w D hT) (.exit 2) ⟨[(0,.p (.slc (vwb PV.str a1))),(1,.p (.slc (vwb PV.str b2))),(5,.p (.int .i64 n7)),(6,.p (.int .i64 o13)),(7,.p (.int .i64 i9))],[]⟩) h12 ?_ ?_
 clear h h10 h12
 intro k14 x h
 simp only [qc5] at h
 refine zs<|zs<|zd ?_
 refine yU ?_
 obtain ⟨h15,h⟩|⟨h15,h⟩:=zI h
 refine yw 18 true ?_
 refine yg ?_
 refine yg ?_
 obtain ⟨x16,h17,h17a,h17b,h⟩:=zX h
 refine yg ?_
 refine yg ?_
 refine yg ?_
 refine yg ?_
 obtain ⟨x18,h19,h19a,h19b,h⟩:=zX h
 refine yg ?_
 refine yg ?_
 refine yg ?_
 refine yU ?_
 refine yd<|zn ?_
 obtain ⟨h20,h⟩|⟨h20,h⟩:=zI h
 refine zi<|zk<|zn<|zb<|zr ?_
 refine zU<|zl<|yn ?_
 cases h
 exact ⟨rfl,zE⟩
 refine zj<|zx<|ze ?_
 cases h
 exact ⟨rfl,zE⟩
 refine yw 18 false ?_
 refine yk ?_
 refine yU ?_
 refine yd<|zn ?_
 refine zj<|zx<|ze ?_
 cases h
 exact ⟨rfl,zE⟩
 try simp only at h
 refine zA<|yh<|zn ?_
 obtain ⟨t21,h22,h⟩:=zB h
 refine zJ (fun (o23:Bool)=>tE (cX Tryz.f219 X w D hT) .normal ⟨[(0,.p (.slc (vwb PV.str a1))),(1,.p (.slc (vwb PV.str b2))),(5,.p (.int .i64 n7)),(6,.p (.int .i64 k11)),(7,.p (.int .i64 i9)),(45,.p (.bool o23))],[]⟩) t21 ?_ ?_
 replace h:=h22
 clear h22
 refine zd ?_
 refine yU ?_
 obtain ⟨h24,h⟩|⟨h24,h⟩:=zI h
 refine yw 35 true ?_
 refine yg ?_
 refine yg ?_
 obtain ⟨x25,h26,h26a,h26b,h⟩:=zX h
 refine yg ?_
 refine yg ?_
 refine yg ?_
 refine yg ?_
 obtain ⟨x27,h28,h28a,h28b,h⟩:=zX h
 replace h:=h.symm
 refine yg ?_
 refine yg ?_
 refine yg ?_
 refine yU ?_
 refine yd ?_
 cases h
 exact ⟨rfl,zE⟩
 refine yw 35 false ?_
 refine yk ?_
 refine yU ?_
 refine yd ?_
 cases h
 exact ⟨rfl,zE⟩
 try simp only at h
 refine zA<|zn ?_
 obtain ⟨h29,h⟩|⟨h29,h⟩:=zI h
 refine zi<|zs<|zr ?_
 refine zU<|zl<|zn<|zr ?_
 refine zU<|zl<|yn<|zn<|zr ?_
 refine zU<|zl ?_
 cases h
 exact ⟨rfl,zE⟩
 refine zj<|zk<|yn<|zn<|zr ?_
 refine zU<|zl ?_
 cases h
 exact ⟨rfl,zE⟩
 refine zj<|zx<|ze ?_
 cases h
 exact ⟨rfl,zE⟩
 try simp only at h
 refine zA<|yh<|zn<|zs<|zr ?_
 refine zU<|zl<|zn<|zq ?_
 cases h
 exact zT results219
theorem qpv {D:Prop} (a1:List UInt8) (b2:List UInt8) (q3:Int) (r4:Ratio×Int) (h:qgv a1 b2 q3=some r4):Con D Tryz.prog 176 [(.str a1),(.str b2),(.int .i64 q3)] (.tup [(qg3 r4.1),(.int .i64 r4.2)]):=by
 refine zP call176 func176 rfl ntmps176 fun X w hT=>?_
 simp only [qgv] at h
 refine zs<|zr ?_
 refine zU<|zl<|zn<|zs<|zs<|zr ?_
 refine zU ?_
 obtain ⟨r5,h6,h⟩:=zB h
 refine zc (qiz a1 _ h6) ?_
 refine zU ?_
 obtain ⟨h7,h⟩|⟨h7,h⟩:=zI h
 refine zw 14 true ?_
 refine zh ?_
 refine zU<|zl<|zn ?_
 refine zi<|zs<|zr ?_
 refine zU<|zl<|zn<|zq<|zt ?_
 cases h
 exact zT results176
 refine zw 14 false ?_
 refine zg ?_
 obtain ⟨r8,h9,h⟩:=zB h
 refine zc (qiz b2 _ h9) ?_
 refine zU<|zl<|zn ?_
 obtain ⟨h10,h⟩|⟨h10,h⟩:=zI h
 refine zi<|zs<|zr ?_
 refine zU<|zl<|zn<|zq<|zt ?_
 cases h
 exact zT results176
 refine zj<|zk<|zn<|zs<|zr ?_
 refine zU ?_
 obtain ⟨r11,h12,h⟩:=zB h
 refine zc (qkz a1 q3 _ h12) ?_
 refine zU<|zl<|zn<|zs<|zr ?_
 refine zU ?_
 obtain ⟨r13,h14,h⟩:=zB h
 refine zc (qkz b2 q3 _ h14) ?_
 refine zU<|zl<|zn<|zs<|zs<|zr ?_
 refine zU<|zl<|zn ?_
 obtain ⟨h15,h⟩|⟨h15,h⟩:=zI h
 refine zi<|zs<|zr ?_
 refine zU<|zl<|zn<|zq<|zt ?_
 cases h
 exact zT results176
 refine zj<|zk<|zn<|zs<|zs<|zr ?_
 refine zU<|zl<|zn ?_
 obtain ⟨h16,h⟩|⟨h16,h⟩:=zI h
 refine zi<|zs<|zr ?_
 obtain ⟨r17,h18,h⟩:=zB h
 refine zc (qia 1 1 _ h18) ?_
 refine zU<|zl<|zn<|zq<|zt ?_
 cases h
 exact zT results176
 refine zj<|zk<|zn<|zs<|zr ?_
 refine zU ?_
 obtain ⟨r19,h20,h⟩:=zB h
 refine zc (qpu r11.1 r13.1 _ h20) ?_
 refine zU ?_
 obtain ⟨r21,h22,h⟩:=zB h
 refine zc (qia (vxc.wrap (2 * r19)) (vxc.wrap ((r11.1.length:Int)+(r13.1.length:Int))) _ h22) ?_
 refine zU<|zl<|zn<|zq ?_
 cases h
 exact zT results176
theorem qlx {D:Prop} (s1:List UInt8) (n2:Int) (r3:List UInt8) (h:qht s1 n2=some r3):Con D Tryz.prog 177 [(.str s1),(.int .i64 n2)] (.str r3):=by
 refine zP call177 func177 rfl ntmps177 fun X w hT=>?_
 simp only [qht] at h
 refine zs<|zr ?_
 refine zU<|zl<|zn<|zs<|zr ?_
 obtain ⟨h4,h⟩:=qab h
 obtain ⟨h5,h⟩:=qab h
 refine zU<|zl<|zn<|zq ?_
 cases h
 exact zT results177
theorem qqt {D:Prop} (x1:Row) (y2:Row) (c3:Similar) (r4:Bool×Int) (h:qfr x1 y2 c3=some r4):Con D Tryz.prog 115 [(qay x1),(qay y2),(qal c3)] (.tup [(.bool r4.1),(.int .i64 r4.2)]):=by
 refine zP call115 func115 rfl ntmps115 fun X w hT=>?_
 simp only [qfr] at h
 refine zs<|zr ?_
 refine zU<|zl<|zn<|zs<|zs<|zr ?_
 refine zU ?_
 obtain ⟨r5,h6,h⟩:=zB h
 refine zc (qqs x1 y2 c3 _ h6) ?_
 refine zU<|zl<|zn<|zs<|zr ?_
 refine zU<|zl<|zn ?_
 obtain ⟨h7,h⟩|⟨h7,h⟩:=zI h
 refine zi<|zs<|zr ?_
 refine zU<|zl<|zn<|zq<|zt ?_
 cases h
 exact zT results115
 refine zj<|zk<|zn<|zs<|zd ?_
 obtain ⟨x8,h9,h9a,h9b,h⟩:=zX h
 obtain ⟨x10,h11,h11a,h11b,h⟩:=zX h
 refine yU ?_
 refine yd<|zn<|zs ?_
 obtain ⟨t12,h13,h⟩:=zB h
 refine zJ (fun (o14:Bool)=>tE (cX Tryz.f115 X w D hT) .normal ⟨[(5,.loc 5 1 0 0),(9,.loc 9 1 0 0),(10,.loc 10 1 0 0),(44,.p (.bool o14))],[(5,.arr 95 3 1 [.p (qal c3)]),(9,.arr 142 3 1 [.p (qak x8)]),(10,.arr 142 3 1 [.p (qak x10)])]⟩) t12 ?_ ?_
 replace h:=h13
 clear h13
 refine zr ?_
 refine zU ?_
 obtain ⟨h15,h⟩|⟨h15,h⟩:=zI h
 refine zw 35 true ?_
 refine zh ?_
 refine zU ?_
 refine zh ?_
 refine zU<|zl ?_
 cases h
 exact ⟨rfl,zE⟩
 refine zw 35 false ?_
 refine zg ?_
 refine zg ?_
 refine zg ?_
 refine zU ?_
 obtain ⟨h16,h⟩|⟨h16,h⟩:=zI h
 refine zw 40 true ?_
 refine zh ?_
 refine zU<|zl ?_
 cases h
 exact ⟨rfl,zE⟩
 replace h:=h.symm
 refine zw 40 false ?_
 refine zg ?_
 refine zg ?_
 refine zg ?_
 refine zU<|zl ?_
 cases h
 exact ⟨rfl,zE⟩
 try simp only at h
 refine zA<|zn ?_
 obtain ⟨h17,h⟩|⟨h17,h⟩:=zI h
 refine zi<|zs<|zr ?_
 refine zU ?_
 obtain ⟨r18,h19,h⟩:=zB h
 refine zc (qju x8 x10 _ h19) ?_
 refine zU<|zl<|zn<|zq<|zt ?_
 cases h
 exact zT results115
 refine zj<|zk<|zn<|zs<|zs<|zr ?_
 refine zU<|zl<|zn<|zb<|zs<|zr ?_
 refine zU<|zl<|zn ?_
 obtain ⟨h20,h⟩|⟨h20,h⟩:=zI h
 refine zi<|zs<|zd ?_
 refine yU ?_
 obtain ⟨r21,h22,h⟩:=zB h
 refine yc (qom x8.Str x10.Str _ h22) ?_
 refine yU ?_
 refine yd<|zn<|zq<|yr<|zt ?_
 cases h
 exact zT results115
 refine zj<|zs<|zr ?_
 refine zU<|zl<|zn ?_
 obtain ⟨h23,h⟩|⟨h23,h⟩:=zI h
 refine zi<|zs<|zr ?_
 refine zU ?_
 obtain ⟨r24,h25,h⟩:=zB h
 refine zc (qpv x8.Str x10.Str 2 _ h25) ?_
 refine zU<|zl<|zn<|zs<|zr ?_
 refine zU<|zl<|zn<|zq<|yr<|zt ?_
 cases h
 exact zT results115
 refine zj<|zk<|yn<|zn<|zs<|zd ?_
 refine yU ?_
 obtain ⟨r26,h27,h⟩:=zB h
 refine yc (qlx x8.Str c3.Limit _ h27) ?_
 refine yU ?_
 obtain ⟨r28,h29,h⟩:=zB h
 refine yc (qlx x10.Str c3.Limit _ h29) ?_
 refine yU ?_
 refine yd<|zn<|zq ?_
 cases h
 exact zT results115
theorem qqu {D:Prop} (x1:Row) (y2:Row) (l3:Linkage) (r4:Int) (h:qhc x1 y2 l3=some r4):Con D Tryz.prog 74 [(qay x1),(qay y2),(qai l3)] (.int .i64 r4):=by
 refine zP call74 func74 rfl ntmps74 fun X w hT=>?_
 simp only [qhc] at h
 refine zs<|zr ?_
 refine zU<|zl<|zn<|zs<|zs<|zr ?_
 refine zU<|zl<|zn<|zb ?_
 obtain ⟨o5,h6,h⟩:=zB h
 refine zO (fun (s:Int)=>⟨[(3,.loc 3 1 0 0),(4,.loc 4 1 0 0),(5,.loc 5 1 0 0),(7,.p (.int .i64 s))],[(3,.arr 66 2 1 [.p (qay x1)]),(4,.arr 66 2 1 [.p (qay y2)]),(5,.arr 25 3 1 [.p (qai l3)])]⟩) (fun (o:(Unit) ⊕ (Int))=>match o with | .inl o7=>tE (cX Tryz.f74 X w D hT) (.exit 0) ⟨[],[]⟩ | .inr o8=>tR Tryz.prog Tryz.f74 (.int .i64 o8)) h6 ?_ ?_
 clear h h6
 intro i9 x h
 simp only [qdq] at h
 refine zs<|zs<|zr ?_
 refine zU<|zl<|zn ?_
 obtain ⟨h10,h⟩|⟨h10,h⟩:=zI h
 refine zi<|zk<|zn<|zs<|zb<|zs<|zr ?_
 refine zU<|zl<|zn<|zs<|zs<|zr ?_
 refine zU<|zl<|zn<|zb ?_
 obtain ⟨a11,h12,h⟩:=zB h
 refine zO (fun (s:Bool×Int)=>⟨[(3,.loc 3 1 0 0),(4,.loc 4 1 0 0),(5,.loc 5 1 0 0),(7,.p (.int .i64 i9)),(8,.p (.bool s.1)),(9,.p (.int .i64 s.2))],[(3,.arr 66 2 1 [.p (qay x1)]),(4,.arr 66 2 1 [.p (qay y2)]),(5,.arr 25 3 1 [.p (qai l3)])]⟩) (fun (o13:Bool)=>tE (cX Tryz.f74 X w D hT) (.exit 2) ⟨[(3,.loc 3 1 0 0),(4,.loc 4 1 0 0),(5,.loc 5 1 0 0),(7,.p (.int .i64 i9)),(8,.p (.bool o13))],[(3,.arr 66 2 1 [.p (qay x1)]),(4,.arr 66 2 1 [.p (qay y2)]),(5,.arr 25 3 1 [.p (qai l3)])]⟩) h12 ?_ ?_
 clear h h10 h12
 intro s x h
 obtain ⟨a14,k15⟩:=s
 simp only [qdp] at h
 dsimp only
 refine zs<|zs<|zr ?_
 obtain ⟨x16,h17,h17a,h17b,h⟩:=zX h
 refine zU<|zl<|zn ?_
 obtain ⟨h18,h⟩|⟨h18,h⟩:=zI h
 refine zi<|zk<|zn<|zs<|zb<|zs<|zd ?_
 obtain ⟨x19,h20,h20a,h20b,h⟩:=zX h
 refine yU ?_
 obtain ⟨r21,h22,h⟩:=zB h
 refine yc (qqt x1 y2 x19 _ h22) ?_
 refine yU ?_
 refine yd<|zn<|zr ?_
 refine zU ?_
 obtain ⟨h23,h⟩|⟨h23,h⟩:=zI h
 replace h:=h.symm
 refine zw 44 true ?_
 refine zg ?_
 refine zU<|zl<|yn<|zn<|zr ?_
 refine zU<|zl ?_
 cases h
 exact ⟨rfl,zE⟩
 refine zw 44 false ?_
 refine zh ?_
 refine zU<|zl<|yn<|zn<|zr ?_
 refine zU<|zl ?_
 cases h
 exact ⟨rfl,zE⟩
 refine zj<|zx<|ze ?_
 cases h
 exact ⟨rfl,zE⟩
 try simp only at h
 refine zA<|yh<|zn<|zs<|zr ?_
 refine zU<|zl<|zn ?_
 obtain ⟨h24,h⟩|⟨h24,h⟩:=zI h
 refine zi<|zs<|zr ?_
 refine zU<|zl<|zn<|zq<|yr<|zt ?_
 cases h
 exact ⟨rfl,zT results74⟩
 refine zj<|zk<|yn<|zn<|zr ?_
 refine zU<|zl ?_
 cases h
 exact ⟨rfl,zE⟩
 refine zj<|zx<|ze ?_
 cases h
 exact ⟨rfl,zE⟩
 rcases o5 with ⟨⟩ | r25
 try simp only at h
 refine zA<|yh<|zn<|zs<|zr ?_
 refine zU<|zl<|zn<|zq ?_
 cases h
 exact zT results74
 try simp only at h
 refine zZ fun s hq=>?_
 refine yr<|zt ?_
 cases h
 exact hq
theorem qqv {D:Prop} (a1:List Value) (b2:List Value) (r3:Int) (h:qhd a1 b2=some r3):Con D Tryz.prog 226 [(.slc (vwb qak a1)),(.slc (vwb qak b2))] (.int .i64 r3):=by
 refine zP call226 func226 rfl ntmps226 fun X w hT=>?_
 simp only [qhd] at h
 refine zs<|zr ?_
 refine zU<|zl<|zn<|zs<|zs<|zr ?_
 refine zU<|zl<|zn<|zb ?_
 obtain ⟨o4,h5,h⟩:=zB h
 refine zO (fun (s:Int)=>⟨[(0,.p (.slc (vwb qak a1))),(1,.p (.slc (vwb qak b2))),(5,.p (.int .i64 s))],[]⟩) (fun (o:(Unit) ⊕ (Int))=>match o with | .inl o6=>tE (cX Tryz.f226 X w D hT) (.exit 0) ⟨[(0,.p (.slc (vwb qak a1))),(1,.p (.slc (vwb qak b2)))],[]⟩ | .inr o7=>tR Tryz.prog Tryz.f226 (.int .i64 o7)) h5 ?_ ?_
 clear h h5
 intro i8 x h
 simp only [qbn] at h
 refine zs<|zs<|zr ?_
 refine zU ?_
 obtain ⟨h9,h⟩|⟨h9,h⟩:=zI h
 refine zw 11 true ?_
 refine zg ?_
 refine zg ?_
 refine zg ?_
 refine zg ?_
 refine zU<|zl<|zn ?_
 obtain ⟨h10,h⟩|⟨h10,h⟩:=zI h
 refine zi<|zk<|zn<|zs<|zb<|zs<|zd ?_
 obtain ⟨x11,h12,h12a,h12b,h⟩:=zX h
 obtain ⟨x13,h14,h14a,h14b,h⟩:=zX h
 refine yU ?_
 obtain ⟨r15,h16,h⟩:=zB h
 refine yc (qju x11 x13 _ h16) ?_
 refine yU ?_
 refine yd<|zn<|zs<|zr ?_
 refine zU<|zl<|zn ?_
 obtain ⟨h17,h⟩|⟨h17,h⟩:=zI h
 refine zi<|zs<|zr ?_
 refine zU<|zl<|zn<|zq<|yr<|zt ?_
 cases h
 exact ⟨rfl,zT results226⟩
 refine zj<|zk<|yn<|zn<|zr ?_
 refine zU<|zl ?_
 cases h
 exact ⟨rfl,zE⟩
 refine zj<|zx<|ze ?_
 cases h
 exact ⟨rfl,zE⟩
 refine zw 11 false ?_
 refine zh ?_
 refine zU<|zl<|zn ?_
 refine zj<|zx<|ze ?_
 cases h
 exact ⟨rfl,zE⟩
 rcases o4 with ⟨⟩ | r18
 try simp only at h
 refine zA<|yh<|zn<|zs<|zr ?_
 refine zU ?_
 obtain ⟨r19,h20,h⟩:=zB h
 refine zc (qfh (a1.length:Int) (b2.length:Int) _ h20) ?_
 refine zU<|zl<|zn<|zq ?_
 cases h
 exact zT results226
 try simp only at h
 refine zZ fun s hq=>?_
 refine yr<|zt ?_
 cases h
 exact hq
theorem qr4 {D:Prop} (a1:List Value) (b2:List Value) (r3:Bool) (h:qhu a1 b2=some r3):Con D Tryz.prog 187 [(.slc (vwb qak a1)),(.slc (vwb qak b2))] (.bool r3):=by
 refine zP call187 func187 rfl ntmps187 fun X w hT=>?_
 simp only [qhu] at h
 refine zs<|zr ?_
 refine zU<|zl<|zn<|zs<|zr ?_
 refine zU ?_
 obtain ⟨r4,h5,h⟩:=zB h
 refine zc (qqv a1 b2 _ h5) ?_
 refine zU<|zl<|zn<|zq ?_
 cases h
 exact zT results187
theorem qtn {D:Prop} (s1:Int) (i2:Int) (r3:Bool) (h:qio s1 i2=some r3):Con D Tryz.prog 240 [(.int .u32 s1),(.int .i64 i2)] (.bool r3):=by
 refine zP call240 func240 rfl ntmps240 fun X w hT=>?_
 simp only [qio] at h
 refine zs<|zr ?_
 refine zU<|zl<|zn<|zs<|zr ?_
 refine zU ?_
 obtain ⟨h4,h⟩|⟨h4,h⟩:=zI h
 refine zw 7 true ?_
 refine zg ?_
 refine zg ?_
 refine zU ?_
 obtain ⟨h5,h⟩|⟨h5,h⟩:=zI h
 refine zw 11 true ?_
 refine zg ?_
 refine zg ?_
 obtain ⟨h6,h⟩:=qmb h
 replace h:=h.symm
 refine zg ?_
 refine zg ?_
 refine zg ?_
 refine zU<|zl<|zn<|zq ?_
 cases h
 exact zT results240
 refine zw 11 false ?_
 refine zh ?_
 refine zU<|zl<|zn<|zq ?_
 cases h
 exact zT results240
 refine zw 7 false ?_
 refine zh ?_
 refine zU ?_
 refine zh ?_
 refine zU<|zl<|zn<|zq ?_
 cases h
 exact zT results240
theorem qki {D:Prop} (r1:Row) (s2:Int) (r3:List Value) (h:qex r1 s2=some r3):Con D Tryz.prog 209 [(qay r1),(.int .u32 s2)] (.slc (vwb qak r3)):=by
 refine zP call209 func209 rfl ntmps209 fun X w hT=>?_
 simp only [qex] at h
 refine zs<|zr ?_
 refine zU<|zl<|zn<|zs<|zr ?_
 refine zU<|zl<|zn<|zs<|zs<|zr ?_
 refine zU<|zl<|zn<|zb ?_
 obtain ⟨o4,h5,h⟩:=zB h
 refine zO (fun (s:List Value×Int)=>⟨[(1,.p (.int .u32 s2)),(2,.loc 2 1 0 0),(5,.own 24 1 0 s.1.length),(6,.p (.int .i64 s.2))],[(2,.arr 66 2 1 [.p (qay r1)]),(24,.arr 142 3 1 (vwb AV.p (vwb qak s.1)))]⟩) (fun (o6:List Value)=>tE (cX Tryz.f209 X w D hT) (.exit 0) ⟨[(5,.own 24 1 0 o6.length)],[(24,.arr 142 3 1 (vwb AV.p (vwb qak o6)))]⟩) h5 ?_ ?_
 clear h h5
 intro s x h
 obtain ⟨o7,i8⟩:=s
 simp only [qel] at h
 dsimp only
 refine zs<|zs<|zr ?_
 refine zU<|zl<|zn ?_
 obtain ⟨h9,h⟩|⟨h9,h⟩:=zI h
 refine zi<|zk<|zn<|zs<|zb<|zs<|zr ?_
 refine zU ?_
 obtain ⟨r10,h11,h⟩:=zB h
 refine zc (qtn s2 i8 _ h11) ?_
 refine zl<|zn ?_
 obtain ⟨h12,h⟩|⟨h12,h⟩:=zI h
 refine zi<|zr ?_
 obtain ⟨x13,h14,h14a,h14b,h⟩:=zX h
 obtain ⟨h15,h⟩:=qab h
 refine zU<|zl<|yn<|zn<|zr ?_
 refine zU<|zl ?_
 cases h
 exact ⟨rfl,zE⟩
 refine zj<|zk<|yn<|zn<|zr ?_
 refine zU<|zl ?_
 cases h
 exact ⟨rfl,zE⟩
 refine zj<|zx<|ze ?_
 cases h
 exact ⟨rfl,zE⟩
 try simp only at h
 refine zA<|yh<|zn<|zs<|zr ?_
 refine zU<|zl<|zn<|zq ?_
 cases h
 exact zT results209
theorem qqw {D:Prop} (a1:Row) (b2:Row) (s3:Int) (r4:Bool) (h:qef a1 b2 s3=some r4):Con D Tryz.prog 156 [(qay a1),(qay b2),(.int .u32 s3)] (.bool r4):=by
 refine zP call156 func156 rfl ntmps156 fun X w hT=>?_
 simp only [qef] at h
 refine zs<|zr ?_
 refine zU<|zl<|zn<|zs<|zd ?_
 refine yU ?_
 obtain ⟨r5,h6,h⟩:=zB h
 refine yc (qki a1 s3 _ h6) ?_
 refine yU ?_
 obtain ⟨r7,h8,h⟩:=zB h
 refine yc (qki b2 s3 _ h8) ?_
 obtain ⟨r9,h10,h⟩:=zB h
 refine yc (qr4 r5 r7 _ h10) ?_
 refine yU ?_
 refine yd<|zn<|zq ?_
 cases h
 exact zT results156
theorem qon {D:Prop} (x1:Row) (y2:Row) (l3:Linkage) (r4:Bool) (h:qdr x1 y2 l3=some r4):Con D Tryz.prog 91 [(qay x1),(qay y2),(qai l3)] (.bool r4):=by
 refine zP call91 func91 rfl ntmps91 fun X w hT=>?_
 simp only [qdr] at h
 refine zs<|zr ?_
 refine zU<|zl<|zn<|zs<|zs<|zr ?_
 refine zU<|zl<|zn ?_
 obtain ⟨h5,h⟩|⟨h5,h⟩:=zI h
 refine zi<|zs<|zr ?_
 refine zU<|zl<|zn<|zq<|zt ?_
 cases h
 exact zT results91
 refine zj<|zk<|zn<|zs<|zs<|zr ?_
 refine zU<|zl<|zn<|zb ?_
 obtain ⟨o6,h7,h⟩:=zB h
 refine zO (fun (s:Int)=>⟨[(3,.loc 3 1 0 0),(4,.loc 4 1 0 0),(5,.loc 5 1 0 0),(7,.p (.int .i64 s))],[(3,.arr 66 2 1 [.p (qay x1)]),(4,.arr 66 2 1 [.p (qay y2)]),(5,.arr 25 3 1 [.p (qai l3)])]⟩) (fun (o:(Unit) ⊕ (Bool))=>match o with | .inl o8=>tE (cX Tryz.f91 X w D hT) (.exit 0) ⟨[],[]⟩ | .inr o9=>tR Tryz.prog Tryz.f91 (.bool o9)) h7 ?_ ?_
 clear h h5 h7
 intro i10 x h
 simp only [qcj] at h
 refine zs<|zs<|zr ?_
 refine zU<|zl<|zn ?_
 obtain ⟨h11,h⟩|⟨h11,h⟩:=zI h
 refine zi<|zk<|zn<|zs<|zb<|zs<|zd ?_
 obtain ⟨x12,h13,h13a,h13b,h⟩:=zX h
 obtain ⟨h14,h⟩:=qmb h
 refine yU ?_
 obtain ⟨r15,h16,h⟩:=zB h
 refine yc (qqw x1 y2 (IntKind.u32.wrap (1 * 2 ^ (min (x12).toNat 32))) _ h16) ?_
 refine yd<|zn ?_
 obtain ⟨h17,h⟩|⟨h17,h⟩:=zI h
 refine zi<|zs<|zr ?_
 refine zU<|zl<|zn<|zq<|yr<|zt ?_
 cases h
 exact ⟨rfl,zT results91⟩
 refine zj<|zk<|yn<|zn<|zr ?_
 refine zU<|zl ?_
 cases h
 exact ⟨rfl,zE⟩
 refine zj<|zx<|ze ?_
 cases h
 exact ⟨rfl,zE⟩
 rcases o6 with ⟨⟩ | r18
 try simp only at h
 refine zA<|yh<|zn<|zs<|zr ?_
 refine zU<|zl<|zn<|zq ?_
 cases h
 exact zT results91
 try simp only at h
 refine zZ fun s hq=>?_
 refine yr<|zt ?_
 cases h
 exact hq
theorem qqx {D:Prop} (x1:Row) (y2:Row) (l3:Linkage) (r4:Bool) (h:qfs x1 y2 l3=some r4):Con D Tryz.prog 53 [(qay x1),(qay y2),(qai l3)] (.bool r4):=by
 refine zP call53 func53 rfl ntmps53 fun X w hT=>?_
 simp only [qfs] at h
 refine zs<|zr ?_
 refine zU<|zl<|zn<|zs<|zr ?_
 refine zU ?_
 obtain ⟨h5,h⟩|⟨h5,h⟩:=zI h
 refine zw 12 true ?_
 refine zg ?_
 refine zg ?_
 refine zg ?_
 obtain ⟨r6,h7,h⟩:=zB h
 refine zc (qon x1 y2 l3 _ h7) ?_
 refine zU ?_
 obtain ⟨h8,h⟩|⟨h8,h⟩:=zI h
 refine zw 18 true ?_
 refine zg ?_
 refine zg ?_
 refine zg ?_
 obtain ⟨r9,h10,h⟩:=zB h
 replace h:=h.symm
 refine zc (qqu x1 y2 l3 _ h10) ?_
 refine zg ?_
 refine zU<|zl<|zn<|zq ?_
 cases h
 exact zT results53
 refine zw 18 false ?_
 refine zh ?_
 refine zU<|zl<|zn<|zq ?_
 cases h
 exact zT results53
 refine zw 12 false ?_
 refine zh ?_
 refine zU ?_
 refine zh ?_
 refine zU<|zl<|zn<|zq ?_
 cases h
 exact zT results53
theorem qur {D:Prop} (r1:Row) (r2:Row) (h:qjm r1=some r2):Con D Tryz.prog 172 [(qay r1)] (qay r2):=by
 refine zP call172 func172 rfl ntmps172 fun X w hT=>?_
 simp only [qjm] at h
 refine zs<|zr ?_
 refine zU<|zl<|zn<|zs<|zd ?_
 obtain ⟨h3,h⟩:=qab h
 refine yU ?_
 refine yd<|zn<|zq ?_
 cases h
 exact zT results172
theorem qr5 {D:Prop} (t1:Table) (r2:List Row) (r3:Table) (h:qhx t1 r2=some r3):Con D Tryz.prog 105 [(qap t1),(.slc (vwb qay r2))] (qap r3):=by
 refine zP call105 func105 rfl ntmps105 fun X w hT=>?_
 simp only [qhx] at h
 refine zs<|zr ?_
 refine zU<|zl<|zn<|zs<|zd ?_
 obtain ⟨h4,h⟩:=qab h
 refine yU ?_
 refine yd<|zn<|zs<|zs<|zr ?_
 refine zU<|zl<|zn<|zb ?_
 obtain ⟨o5,h6,h⟩:=zB h
 refine zO (fun (s:List Row×Int)=>⟨[(1,.p (.slc (vwb qay r2))),(4,.loc 4 1 0 0),(5,.loc 5 1 0 0),(6,.p (.int .i64 s.2))],[(4,.arr 41 3 1 [.agg [.p (.str []),.nils,.nils]]),(5,.arr 41 3 1 [.agg [.p (.str t1.Name),.own 9 1 0 (t1.Attrs).length,.own 28 1 0 s.1.length]]),(9,.arr 9 1 1 (vwb AV.p (vwb PV.str t1.Attrs))),(28,.arr 66 2 1 (vwb AV.p (vwb qay s.1)))]⟩) (fun (o7:List Row)=>tE (cX Tryz.f105 X w D hT) (.exit 0) ⟨[(4,.loc 4 1 0 0),(5,.loc 5 1 0 0)],[(4,.arr 41 3 1 [.agg [.p (.str []),.nils,.nils]]),(5,.arr 41 3 1 [.agg [.p (.str t1.Name),.own 9 1 0 (t1.Attrs).length,.own 28 1 0 o7.length]]),(9,.arr 9 1 1 (vwb AV.p (vwb PV.str t1.Attrs))),(28,.arr 66 2 1 (vwb AV.p (vwb qay o7)))]⟩) h6 ?_ ?_
 clear h h4 h6
 intro s x h
 obtain ⟨o8,i9⟩:=s
 simp only [qhk] at h
 dsimp only
 refine zs<|zs<|zr ?_
 refine zU<|zl<|zn ?_
 obtain ⟨h10,h⟩|⟨h10,h⟩:=zI h
 refine zi<|zk<|zn<|zs<|zb<|zd ?_
 obtain ⟨x11,h12,h12a,h12b,h⟩:=zX h
 refine yU ?_
 obtain ⟨r13,h14,h⟩:=zB h
 refine yc (qur x11 _ h14) ?_
 obtain ⟨h15,h⟩:=qab h
 refine yU ?_
 refine yd<|yn<|zn<|zr ?_
 refine zU<|zl ?_
 cases h
 exact ⟨rfl,zE⟩
 refine zj<|zx<|ze ?_
 cases h
 exact ⟨rfl,zE⟩
 try simp only at h
 refine zA<|yh<|zn<|zs<|zr ?_
 refine zU<|zl<|zn<|zq ?_
 cases h
 exact zT results105
theorem qr6 {D:Prop} (t1:Table) (i2:List Int) (r3:Table) (h:qhy t1 i2=some r3):Con D Tryz.prog 64 [(qap t1),(.slc (vwb (PV.int .i64) i2))] (qap r3):=by
 refine zP call64 func64 rfl ntmps64 fun X w hT=>?_
 simp only [qhy] at h
 refine zs<|zr ?_
 refine zU<|zl<|zn<|zs<|zr ?_
 refine zU<|zl<|zn<|zs<|zs<|zr ?_
 refine zU<|zl<|zn<|zb ?_
 obtain ⟨r4,h5,h⟩:=zB h
 refine zO (fun (s:List Row×Int)=>⟨[(1,.p (.slc (vwb (PV.int .i64) i2))),(2,.loc 2 1 0 0),(4,.loc 4 1 0 0),(5,.own 29 1 0 s.1.length),(6,.p (.int .i64 s.2))],[(2,.arr 41 3 1 [.p (qap t1)]),(4,.arr 41 3 1 [.agg [.p (.str []),.nils,.nils]]),(29,.arr 66 2 1 (vwb AV.p (vwb qay s.1)))]⟩) (fun (o6:List Row)=>tE (cX Tryz.f64 X w D hT) (.exit 0) ⟨[(2,.loc 2 1 0 0),(4,.loc 4 1 0 0),(5,.own 29 1 0 o6.length)],[(2,.arr 41 3 1 [.p (qap t1)]),(4,.arr 41 3 1 [.agg [.p (.str []),.nils,.nils]]),(29,.arr 66 2 1 (vwb AV.p (vwb qay o6)))]⟩) h5 ?_ ?_
 clear h h5
 intro s x h
 obtain ⟨r7,i8⟩:=s
 simp only [qhl] at h
 dsimp only
 refine zs<|zs<|zr ?_
 refine zU<|zl<|zn ?_
 obtain ⟨h9,h⟩|⟨h9,h⟩:=zI h
 refine zi<|zk<|zn<|zs<|zb<|zs<|zr ?_
 obtain ⟨x10,h11,h11a,h11b,h⟩:=zX h
 refine zU ?_
 obtain ⟨r12,h13,h⟩:=zB h
 refine zc (qjr i2 x10.ID _ h13) ?_
 refine zl<|zn ?_
 obtain ⟨h14,h⟩|⟨h14,h⟩:=zI h
 refine zi<|zr ?_
 obtain ⟨h15,h⟩:=qab h
 refine zU<|zl<|yn<|zn<|zr ?_
 refine zU<|zl ?_
 cases h
 exact ⟨rfl,zE⟩
 refine zj<|zk<|yn<|zn<|zr ?_
 refine zU<|zl ?_
 cases h
 exact ⟨rfl,zE⟩
 refine zj<|zx<|ze ?_
 cases h
 exact ⟨rfl,zE⟩
 try simp only at h
 refine zA<|yh<|zn<|zs<|zr ?_
 refine zU ?_
 refine zM ⟨[(4,.loc 4 1 0 0),(30,.p (qap t1)),(31,.p (.slc (vwb qay r4)))],[(4,.arr 41 3 1 [.agg [.p (.str []),.nils,.nils]])]⟩ ?_
 obtain ⟨r16,h17,h⟩:=zB h
 refine zc (qr5 t1 r4 _ h17) ?_
 refine zU<|zl<|zn<|zq ?_
 cases h
 exact zT results64
theorem qqy {D:Prop} (t1:Table) (l2:Linkage) (i3:List Int) (r4:List Pair) (h:qfv t1 l2 i3=some r4):Con D Tryz.prog 26 [(qap t1),(qai l2),(.slc (vwb (PV.int .i64) i3))] (.slc (vwb qba r4)):=by
 refine zP call26 func26 rfl ntmps26 fun X w hT=>?_
 simp only [qfv] at h
 refine zs<|zr ?_
 refine zU<|zl<|zn<|zs<|zr ?_
 refine zU ?_
 obtain ⟨r5,h6,h⟩:=zB h
 refine zc (qr6 t1 i3 _ h6) ?_
 refine zU<|zl<|zn<|zs<|zr ?_
 refine zU<|zl<|zn<|zs<|zs<|zr ?_
 refine zU<|zl<|zn<|zb ?_
 obtain ⟨o7,h8,h⟩:=zB h
 refine zO (fun (s:List Pair×Int)=>⟨[(4,.loc 4 1 0 0),(7,.p (.slc (vwb qay r5.Rows))),(8,.own 46 1 0 s.1.length),(9,.p (.int .i64 s.2))],[(4,.arr 25 3 1 [.p (qai l2)]),(46,.arr 126 3 1 (vwb AV.p (vwb qba s.1)))]⟩) (fun (o9:List Pair)=>tE (cX Tryz.f26 X w D hT) (.exit 0) ⟨[(8,.own 46 1 0 o9.length)],[(46,.arr 126 3 1 (vwb AV.p (vwb qba o9)))]⟩) h8 ?_ ?_
 clear h h6 h8
 intro s x h
 obtain ⟨o10,i11⟩:=s
 simp only [qdt] at h
 dsimp only
 refine zs<|zs<|zr ?_
 refine zU<|zl<|zn ?_
 obtain ⟨h12,h⟩|⟨h12,h⟩:=zI h
 refine zi<|zk<|zn<|zs<|zb<|zs<|zr ?_
 refine zU<|zl<|zn<|zb ?_
 obtain ⟨o13,h14,h⟩:=zB h
 refine zO (fun (s:List Pair×Int)=>⟨[(4,.loc 4 1 0 0),(7,.p (.slc (vwb qay r5.Rows))),(8,.own 46 1 0 s.1.length),(9,.p (.int .i64 i11)),(10,.p (.int .i64 s.2))],[(4,.arr 25 3 1 [.p (qai l2)]),(46,.arr 126 3 1 (vwb AV.p (vwb qba s.1)))]⟩) (fun (o15:List Pair)=>tE (cX Tryz.f26 X w D hT) (.exit 2) ⟨[(4,.loc 4 1 0 0),(7,.p (.slc (vwb qay r5.Rows))),(8,.own 46 1 0 o15.length),(9,.p (.int .i64 i11))],[(4,.arr 25 3 1 [.p (qai l2)]),(46,.arr 126 3 1 (vwb AV.p (vwb qba o15)))]⟩) h14 ?_ ?_
 clear h h12 h14
 intro s x h
 obtain ⟨o16,k17⟩:=s
 simp only [qds] at h
 dsimp only
 refine zs<|zs<|zr ?_
 refine zU<|zl<|zn ?_
 obtain ⟨h18,h⟩|⟨h18,h⟩:=zI h
 refine zi<|zk<|zn<|zs<|zb<|zs<|zr ?_
 refine zU<|zl<|zn<|zs<|zs<|zd ?_
 obtain ⟨x19,h20,h20a,h20b,h⟩:=zX h
 obtain ⟨x21,h22,h22a,h22b,h⟩:=zX h
 refine yU ?_
 obtain ⟨r23,h24,h⟩:=zB h
 refine yc (qqx x19 x21 l2 _ h24) ?_
 refine yd<|zn ?_
 obtain ⟨h25,h⟩|⟨h25,h⟩:=zI h
 refine zi<|zr ?_
 refine zU<|zl<|zn<|zr ?_
 obtain ⟨h26,h⟩:=qab h
 refine zU<|zl<|yn<|zn<|zr ?_
 refine zU<|zl ?_
 cases h
 exact ⟨rfl,zE⟩
 refine zj<|zk<|zn<|zr ?_
 obtain ⟨h27,h⟩:=qab h
 refine zU<|zl<|yn<|zn<|zr ?_
 refine zU<|zl ?_
 cases h
 exact ⟨rfl,zE⟩
 refine zj<|zx<|ze ?_
 cases h
 exact ⟨rfl,zE⟩
 try simp only at h
 refine zA<|yh<|yn<|zn<|zr ?_
 refine zU<|zl ?_
 cases h
 exact ⟨rfl,zE⟩
 refine zj<|zx<|ze ?_
 cases h
 exact ⟨rfl,zE⟩
 try simp only at h
 refine zA<|yh<|zn<|zs<|zr ?_
 refine zU<|zl<|zn<|zq ?_
 cases h
 exact zT results26
theorem qk0 {D:Prop} (n1:Int) (l2:List Pair) (r3:Int) (h:qfw n1 l2=some r3):Con D Tryz.prog 65 [(.int .i64 n1),(.slc (vwb qba l2))] (.int .i64 r3):=by
 refine zP call65 func65 rfl ntmps65 fun X w hT=>?_
 simp only [qfw] at h
 refine zs<|zr ?_
 refine zU<|zl<|zn<|zs<|zs<|zr ?_
 refine zU ?_
 obtain ⟨h4,h⟩|⟨h4,h⟩:=zI h
 refine zw 10 true ?_
 refine zh ?_
 refine zU<|zl<|zn ?_
 refine zi<|zs<|zr ?_
 refine zU<|zl<|zn<|zq<|zt ?_
 cases h
 exact zT results65
 refine zw 10 false ?_
 refine zg ?_
 refine zg ?_
 refine zU<|zl<|zn ?_
 obtain ⟨h5,h⟩|⟨h5,h⟩:=zI h
 refine zi<|zs<|zr ?_
 refine zU<|zl<|zn<|zq<|zt ?_
 cases h
 exact zT results65
 refine zj<|zk<|zn<|zs<|zs<|zr ?_
 refine zU<|zl<|zn ?_
 obtain ⟨h6,h⟩|⟨h6,h⟩:=zI h
 refine zi<|zs<|zr ?_
 refine zU<|zl<|zn<|zq<|zt ?_
 cases h
 exact zT results65
 refine zj<|zk<|zn<|zs<|zs<|zr ?_
 refine zU<|zl<|zn<|zb ?_
 obtain ⟨o7,h8,h⟩:=zB h
 refine zO (fun (s:Int)=>⟨[(0,.p (.int .i64 n1)),(1,.p (.slc (vwb qba l2))),(5,.p (.int .i64 s))],[]⟩) (fun (o:(Unit) ⊕ (Int))=>match o with | .inl o9=>tE (cX Tryz.f65 X w D hT) (.exit 0) ⟨[],[]⟩ | .inr o10=>tR Tryz.prog Tryz.f65 (.int .i64 o10)) h8 ?_ ?_
 clear h h4 h5 h6 h8
 intro i11 x h
 simp only [qfc] at h
 refine zs<|zs<|zr ?_
 refine zU<|zl<|zn ?_
 obtain ⟨h12,h⟩|⟨h12,h⟩:=zI h
 refine zi<|zk<|zn<|zs<|zb<|zs<|zr ?_
 obtain ⟨x13,h14,h14a,h14b,h⟩:=zX h
 refine zU<|zl<|zn<|zs<|zs<|zr ?_
 refine zU ?_
 obtain ⟨h15,h⟩|⟨h15,h⟩:=zI h
 refine zw 30 true ?_
 refine zh ?_
 refine zU ?_
 refine zh ?_
 refine zU ?_
 refine zh ?_
 refine zU ?_
 refine zh ?_
 refine zU<|zl<|zn ?_
 refine zi<|zs<|zr ?_
 refine zU<|zl<|zn<|zq<|zt<|yr<|zt ?_
 cases h
 exact ⟨rfl,zT results65⟩
 refine zw 30 false ?_
 refine zg ?_
 refine zg ?_
 refine zg ?_
 refine zg ?_
 refine zg ?_
 refine zU ?_
 obtain ⟨h16,h⟩|⟨h16,h⟩:=zI h
 refine zw 37 true ?_
 refine zh ?_
 refine zU ?_
 refine zh ?_
 refine zU ?_
 refine zh ?_
 refine zU<|zl<|zn ?_
 refine zi<|zs<|zr ?_
 refine zU<|zl<|zn<|zq<|zt<|yr<|zt ?_
 cases h
 exact ⟨rfl,zT results65⟩
 refine zw 37 false ?_
 refine zg ?_
 refine zg ?_
 refine zg ?_
 refine zg ?_
 refine zU ?_
 obtain ⟨h17,h⟩|⟨h17,h⟩:=zI h
 refine zw 43 true ?_
 refine zh ?_
 refine zU ?_
 refine zh ?_
 refine zU<|zl<|zn ?_
 refine zi<|zs<|zr ?_
 refine zU<|zl<|zn<|zq<|zt<|yr<|zt ?_
 cases h
 exact ⟨rfl,zT results65⟩
 refine zw 43 false ?_
 refine zg ?_
 refine zg ?_
 refine zg ?_
 refine zU ?_
 obtain ⟨h18,h⟩|⟨h18,h⟩:=zI h
 refine zw 48 true ?_
 refine zh ?_
 refine zU<|zl<|zn ?_
 refine zi<|zs<|zr ?_
 refine zU<|zl<|zn<|zq<|zt<|yr<|zt ?_
 cases h
 exact ⟨rfl,zT results65⟩
 refine zw 48 false ?_
 refine zg ?_
 refine zg ?_
 refine zg ?_
 refine zU<|zl<|zn ?_
 obtain ⟨h19,h⟩|⟨h19,h⟩:=zI h
 refine zi<|zs<|zr ?_
 refine zU<|zl<|zn<|zq<|zt<|yr<|zt ?_
 cases h
 exact ⟨rfl,zT results65⟩
 refine zj<|zk<|zn<|zs<|zr ?_
 refine zU<|zl<|zn<|zb ?_
 obtain ⟨o20,h21,h⟩:=zB h
 refine zO (fun (s:Int)=>⟨[(0,.p (.int .i64 n1)),(1,.p (.slc (vwb qba l2))),(5,.p (.int .i64 i11)),(6,.loc 6 1 0 0),(7,.p (.int .i64 s))],[(6,.arr 126 3 1 [.p (qba x13)])]⟩) (fun (o:(Unit) ⊕ (Int))=>match o with | .inl o22=>tE (cX Tryz.f65 X w D hT) (.exit 2) ⟨[(0,.p (.int .i64 n1)),(1,.p (.slc (vwb qba l2))),(5,.p (.int .i64 i11))],[]⟩ | .inr o23=>tR Tryz.prog Tryz.f65 (.int .i64 o23)) h21 ?_ ?_
 clear h h12 h14 h14a h14b h15 h16 h17 h18 h19 h21
 intro k24 x h
 simp only [qcn] at h
 refine zs<|zs<|zr ?_
 refine zU<|zl<|zn ?_
 obtain ⟨h25,h⟩|⟨h25,h⟩:=zI h
 refine zi<|zk<|zn<|zs<|zb<|zs<|zd ?_
 obtain ⟨x26,h27,h27a,h27b,h⟩:=zX h
 refine yU ?_
 obtain ⟨h28,h⟩|⟨h28,h⟩:=zI h
 refine yw 66 true ?_
 refine yg ?_
 refine yg ?_
 refine yg ?_
 refine yg ?_
 refine yg ?_
 refine yg ?_
 refine yg ?_
 refine yg ?_
 refine yU ?_
 refine yd<|zn ?_
 obtain ⟨h29,h⟩|⟨h29,h⟩:=zI h
 refine zi<|zs<|zr ?_
 refine zU<|zl<|zn<|zq<|yr<|zt ?_
 cases h
 exact ⟨rfl,zT results65⟩
 refine zj<|zk<|yn<|zn<|zr ?_
 refine zU<|zl ?_
 cases h
 exact ⟨rfl,zE⟩
 refine yw 66 false ?_
 refine yk ?_
 refine yU ?_
 refine yd<|zn ?_
 refine zj<|zk<|yn<|zn<|zr ?_
 refine zU<|zl ?_
 cases h
 exact ⟨rfl,zE⟩
 refine zj<|zx<|ze ?_
 cases h
 exact ⟨rfl,zE⟩
 rcases o20 with ⟨⟩ | r30
 try simp only at h
 refine zA<|yh<|yn<|zn<|zr ?_
 refine zU<|zl ?_
 cases h
 exact ⟨rfl,zE⟩
 try simp only at h
 refine zZ fun s hq=>?_
 refine yr<|yr<|zt ?_
 cases h
 refine ⟨rfl,?_⟩
 exact hq
 refine zj<|zx<|ze ?_
 cases h
 exact ⟨rfl,zE⟩
 rcases o7 with ⟨⟩ | r31
 try simp only at h
 refine zA<|yh<|zn<|zs<|zr ?_
 refine zU<|zl<|zn<|zq ?_
 cases h
 exact zT results65
 try simp only at h
 refine zZ fun s hq=>?_
 refine yr<|zt ?_
 cases h
 exact hq
theorem qg6 {D:Prop} (l1:List Pair) (l2:List Int) (r3:Int) (h:qd1 l1 l2=some r3):Con D Tryz.prog 66 [(.slc (vwb qba l1)),(.slc (vwb (PV.int .i64) l2))] (.int .i64 r3):=by
 refine zP call66 func66 rfl ntmps66 fun X w hT=>?_
 simp only [qd1] at h
 refine zs<|zr ?_
 refine zU<|zl<|zn<|zs<|zr ?_
 refine zU<|zl<|zn<|zs<|zs<|zr ?_
 refine zU<|zl<|zn<|zb ?_
 obtain ⟨s4,h5,h⟩:=zB h
 refine zO (fun (s:Int×Int)=>⟨[(0,.p (.slc (vwb qba l1))),(1,.p (.slc (vwb (PV.int .i64) l2))),(5,.p (.int .i64 s.1)),(6,.p (.int .i64 s.2))],[]⟩) (fun (o6:Int)=>tE (cX Tryz.f66 X w D hT) (.exit 0) ⟨[(5,.p (.int .i64 o6))],[]⟩) h5 ?_ ?_
 clear h h5
 intro s x h
 obtain ⟨s7,i8⟩:=s
 simp only [qd7] at h
 dsimp only
 refine zs<|zs<|zr ?_
 refine zU<|zl<|zn ?_
 obtain ⟨h9,h⟩|⟨h9,h⟩:=zI h
 refine zi<|zk<|zn<|zs<|zb<|zs<|zd ?_
 obtain ⟨x10,h11,h11a,h11b,h⟩:=zX h
 obtain ⟨x12,h13,h13a,h13b,h⟩:=zX h
 obtain ⟨x14,h15,h15a,h15b,h⟩:=zX h
 refine yU ?_
 refine yd<|zn<|zs ?_
 obtain ⟨t16,h17,h⟩:=zB h
 refine zJ (fun (o18:Bool)=>tE (cX Tryz.f66 X w D hT) .normal ⟨[(0,.p (.slc (vwb qba l1))),(1,.p (.slc (vwb (PV.int .i64) l2))),(5,.p (.int .i64 s7)),(6,.p (.int .i64 i8)),(7,.p (.bool (x12 == x14))),(40,.p (.bool o18))],[]⟩) t16 ?_ ?_
 replace h:=h17
 clear h17
 refine zr ?_
 refine zU ?_
 obtain ⟨h19,h⟩|⟨h19,h⟩:=zI h
 replace h:=h.symm
 refine zw 37 true ?_
 refine zg ?_
 refine zg ?_
 refine zU<|zl ?_
 cases h
 exact ⟨rfl,zE⟩
 refine zw 37 false ?_
 refine zh ?_
 refine zU<|zl ?_
 cases h
 exact ⟨rfl,zE⟩
 try simp only at h
 refine zA<|zn ?_
 obtain ⟨h20,h⟩|⟨h20,h⟩:=zI h
 refine zi<|zr ?_
 refine zU<|zl<|zn ?_
 obtain ⟨t21,h22,h⟩:=zB h
 refine zJ (fun (o23:Bool)=>tE (cX Tryz.f66 X w D hT) .normal ⟨[(0,.p (.slc (vwb qba l1))),(1,.p (.slc (vwb (PV.int .i64) l2))),(5,.p (.int .i64 (vxc.wrap (s7+x10.Weight)))),(6,.p (.int .i64 i8)),(56,.p (.bool o23))],[]⟩) t21 ?_ ?_
 replace h:=h22
 clear h22
 refine zr ?_
 refine zU ?_
 obtain ⟨h24,h⟩|⟨h24,h⟩:=zI h
 replace h:=h.symm
 refine zw 54 true ?_
 refine zg ?_
 refine zU<|zl ?_
 cases h
 exact ⟨rfl,zE⟩
 refine zw 54 false ?_
 refine zh ?_
 refine zU<|zl ?_
 cases h
 exact ⟨rfl,zE⟩
 try simp only at h
 refine zA<|zn ?_
 obtain ⟨h25,h⟩|⟨h25,h⟩:=zI h
 refine zi<|zr ?_
 refine zU<|zl<|yn<|zn<|zr ?_
 refine zU<|zl ?_
 cases h
 exact ⟨rfl,zE⟩
 refine zj<|zk<|yn<|zn<|zr ?_
 refine zU<|zl ?_
 cases h
 exact ⟨rfl,zE⟩
 refine zj<|zk<|zn ?_
 obtain ⟨t26,h27,h⟩:=zB h
 refine zJ (fun (o28:Bool)=>tE (cX Tryz.f66 X w D hT) .normal ⟨[(0,.p (.slc (vwb qba l1))),(1,.p (.slc (vwb (PV.int .i64) l2))),(5,.p (.int .i64 s7)),(6,.p (.int .i64 i8)),(56,.p (.bool o28))],[]⟩) t26 ?_ ?_
 replace h:=h27
 clear h27
 refine zr ?_
 refine zU ?_
 obtain ⟨h29,h⟩|⟨h29,h⟩:=zI h
 replace h:=h.symm
 refine zw 54 true ?_
 refine zg ?_
 refine zU<|zl ?_
 cases h
 exact ⟨rfl,zE⟩
 refine zw 54 false ?_
 refine zh ?_
 refine zU<|zl ?_
 cases h
 exact ⟨rfl,zE⟩
 try simp only at h
 refine zA<|zn ?_
 obtain ⟨h30,h⟩|⟨h30,h⟩:=zI h
 refine zi<|zr ?_
 refine zU<|zl<|yn<|zn<|zr ?_
 refine zU<|zl ?_
 cases h
 exact ⟨rfl,zE⟩
 refine zj<|zk<|yn<|zn<|zr ?_
 refine zU<|zl ?_
 cases h
 exact ⟨rfl,zE⟩
 refine zj<|zx<|ze ?_
 cases h
 exact ⟨rfl,zE⟩
 try simp only at h
 refine zA<|yh<|zn<|zs<|zr ?_
 refine zU<|zl<|zn<|zq ?_
 cases h
 exact zT results66
theorem qr7 {D:Prop} (n1:Int) (l2:List Pair) (l3:List Int) (r4:Int×Int) (h:qhz n1 l2 l3=some r4):Con D Tryz.prog 27 [(.int .i64 n1),(.slc (vwb qba l2)),(.slc (vwb (PV.int .i64) l3))] (.tup [(.int .i64 r4.1),(.int .i64 r4.2)]):=by
 refine zP call27 func27 rfl ntmps27 fun X w hT=>?_
 simp only [qhz] at h
 refine zs<|zr ?_
 refine zU<|zl<|zn<|zs<|zs<|zr ?_
 refine zU ?_
 obtain ⟨r5,h6,h⟩:=zB h
 refine zc (qk0 n1 l2 _ h6) ?_
 refine zU<|zl<|zn<|zs<|zr ?_
 refine zU<|zl<|zn ?_
 obtain ⟨h7,h⟩|⟨h7,h⟩:=zI h
 refine zi<|zs<|zr ?_
 refine zU<|zl<|zn<|zq<|zt ?_
 cases h
 exact zT results27
 refine zj<|zk<|zn<|zs<|zs<|zr ?_
 refine zU<|zl<|zn ?_
 obtain ⟨h8,h⟩|⟨h8,h⟩:=zI h
 refine zi<|zs<|zr ?_
 refine zU<|zl<|zn<|zq<|zt ?_
 cases h
 exact zT results27
 refine zj<|zk<|zn<|zs<|zr ?_
 refine zU ?_
 obtain ⟨r9,h10,h⟩:=zB h
 refine zc (qg6 l2 l3 _ h10) ?_
 refine zU<|zl<|zn<|zq ?_
 cases h
 exact zT results27
theorem qto {D:Prop} (n1:Int) (r2:List (List Int)) (h:qip n1=some r2):Con D Tryz.prog 67 [(.int .i64 n1)] (.slc (vwb (qat (PV.int .i64)) r2)):=by
 refine zP call67 func67 rfl ntmps67 fun X w hT=>?_
 simp only [qip] at h
 refine zs<|zr ?_
 refine zU<|zl<|zn<|zs<|zr ?_
 refine zU<|zl<|zn<|zs<|zs<|zr ?_
 refine zU<|zl<|zn<|zb ?_
 refine zL ⟨[(0,.p (.int .i64 n1)),(3,.own 10 1 0 1),(4,.p (.int .i64 0))],[(10,.arr 23 1 1 [.nils])]⟩ ?_
 obtain ⟨l3,h4,h⟩:=zB h
 replace h4:=vwz h4
 refine qnl (st':=⟨[(0,.p (.int .i64 n1)),(3,.own 10 1 0 l3.length),(4,.p (.int .i64 0))],[(10,.arr 23 1 1 (vwb AV.p (vwb (qat (PV.int .i64)) l3)))]⟩) (by simp only [go_sem,seval,←h4];all_goals ((repeat' refine vzq ?_ ?_) <;> first | rfl | (simp;done) | (simp;rfl) | (simp [*];done) | (simp [*];rfl))) ?_
 have h4n:l3.length=1:=by rw [←h4];rfl
 clear h4
 obtain ⟨o5,h6,h⟩:=zB h
 refine zO (fun (s:List (List Int)×Int)=>⟨[(0,.p (.int .i64 n1)),(3,.p (.slc (vwb (qat (PV.int .i64)) s.1))),(4,.p (.int .i64 s.2))],[]⟩) (fun (o7:List (List Int))=>tE (cX Tryz.f67 X w D hT) (.exit 0) ⟨[(3,.p (.slc (vwb (qat (PV.int .i64)) o7)))],[]⟩) h6 ?_ ?_
 clear h h4n h6
 intro s x h
 obtain ⟨o8,i9⟩:=s
 simp only [qeb] at h
 dsimp only
 refine zs<|zs<|zr ?_
 refine zU<|zl<|zn ?_
 obtain ⟨h10,h⟩|⟨h10,h⟩:=zI h
 refine zi<|zk<|zn<|zs<|zb<|zs<|zr ?_
 refine zU<|zl<|zn<|zs<|zs<|zr ?_
 refine zU<|zl<|zn<|zb ?_
 obtain ⟨m11,h12,h⟩:=zB h
 refine zO (fun (s:List (List Int)×Int)=>⟨[(0,.p (.int .i64 n1)),(3,.p (.slc (vwb (qat (PV.int .i64)) o8))),(4,.p (.int .i64 i9)),(5,.own 57 1 0 s.1.length),(6,.p (.int .i64 s.2))],[(57,.arr 23 1 1 (vwb AV.p (vwb (qat (PV.int .i64)) s.1)))]⟩) (fun (o13:List (List Int))=>tE (cX Tryz.f67 X w D hT) (.exit 2) ⟨[(0,.p (.int .i64 n1)),(4,.p (.int .i64 i9)),(5,.own 57 1 0 o13.length)],[(57,.arr 23 1 1 (vwb AV.p (vwb (qat (PV.int .i64)) o13)))]⟩) h12 ?_ ?_
 clear h h10 h12
 intro s x h
 obtain ⟨m14,k15⟩:=s
 simp only [qea] at h
 dsimp only
 refine zs<|zs<|zr ?_
 refine zU<|zl<|zn ?_
 obtain ⟨h16,h⟩|⟨h16,h⟩:=zI h
 refine zi<|zk<|zn<|zs<|zb<|zs<|zr ?_
 refine zU<|zl<|zn<|zs<|zs<|zr ?_
 refine zU<|zl<|zn<|zb ?_
 obtain ⟨m17,h18,h⟩:=zB h
 refine zO (fun (s:Int×Int)=>⟨[(0,.p (.int .i64 n1)),(3,.p (.slc (vwb (qat (PV.int .i64)) o8))),(4,.p (.int .i64 i9)),(5,.own 57 1 0 m14.length),(6,.p (.int .i64 k15)),(7,.p (.int .i64 s.1)),(8,.p (.int .i64 s.2))],[(57,.arr 23 1 1 (vwb AV.p (vwb (qat (PV.int .i64)) m14)))]⟩) (fun (o19:Int)=>tE (cX Tryz.f67 X w D hT) (.exit 4) ⟨[(0,.p (.int .i64 n1)),(3,.p (.slc (vwb (qat (PV.int .i64)) o8))),(4,.p (.int .i64 i9)),(5,.own 57 1 0 m14.length),(6,.p (.int .i64 k15)),(7,.p (.int .i64 o19))],[(57,.arr 23 1 1 (vwb AV.p (vwb (qat (PV.int .i64)) m14)))]⟩) h18 ?_ ?_
 clear h h16 h18
 intro s x h
 obtain ⟨m20,j21⟩:=s
 simp only [qd8] at h
 dsimp only
 refine zs<|zs<|zr ?_
 obtain ⟨x22,h23,h23a,h23b,h⟩:=zX h
 refine zU<|zl<|zn ?_
 obtain ⟨h24,h⟩|⟨h24,h⟩:=zI h
 refine zi<|zk<|zn<|zs<|zb<|zr ?_
 obtain ⟨x25,h26,h26a,h26b,h⟩:=zX h
 refine zU<|zl<|yn<|zn<|zr ?_
 refine zU<|zl ?_
 cases h
 exact ⟨rfl,zE⟩
 refine zj<|zx<|ze ?_
 cases h
 exact ⟨rfl,zE⟩
 try simp only at h
 refine zA<|yh<|zn<|zs<|zr ?_
 refine zU<|zl<|zn<|zb ?_
 obtain ⟨m27,h28,h⟩:=zB h
 refine zO (fun (s:List (List Int)×Int)=>⟨[(0,.p (.int .i64 n1)),(3,.p (.slc (vwb (qat (PV.int .i64)) o8))),(4,.p (.int .i64 i9)),(5,.own 57 1 0 s.1.length),(6,.p (.int .i64 k15)),(7,.p (.int .i64 m17)),(9,.p (.int .i64 s.2))],[(57,.arr 23 1 1 (vwb AV.p (vwb (qat (PV.int .i64)) s.1)))]⟩) (fun (o29:List (List Int))=>tE (cX Tryz.f67 X w D hT) (.exit 6) ⟨[(0,.p (.int .i64 n1)),(3,.p (.slc (vwb (qat (PV.int .i64)) o8))),(4,.p (.int .i64 i9)),(5,.own 57 1 0 o29.length),(6,.p (.int .i64 k15))],[(57,.arr 23 1 1 (vwb AV.p (vwb (qat (PV.int .i64)) o29)))]⟩) h28 ?_ ?_
 clear h h16 h18 h28
 intro s x h
 obtain ⟨m30,l31⟩:=s
 simp only [qd9] at h
 dsimp only
 refine zs<|zs<|zr ?_
 refine zU<|zl<|zn ?_
 obtain ⟨h32,h⟩|⟨h32,h⟩:=zI h
 refine zi<|zk<|zn<|zs<|zb<|zr ?_
 obtain ⟨x33,h34,h34a,h34b,h⟩:=zX h
 obtain ⟨h35,h⟩:=qab h
 obtain ⟨h36,h⟩:=qab h
 refine zW 11 ?_
 refine zM ⟨[(0,.p (.int .i64 n1)),(3,.p (.slc (vwb (qat (PV.int .i64)) o8))),(4,.p (.int .i64 i9)),(6,.p (.int .i64 k15)),(7,.p (.int .i64 m17)),(9,.p (.int .i64 l31)),(46,.own 57 1 0 m30.length),(56,.own 56 1 0 1)],[(56,.arr 23 1 1 [.p (.slc (vwb (PV.int .i64) (x33++[l31])))]),(57,.arr 23 1 1 (vwb AV.p (vwb (qat (PV.int .i64)) m30)))]⟩ ?_
 obtain ⟨h37,h⟩:=qab h
 refine zU<|zl<|yn<|zn<|zr ?_
 refine zU<|zl ?_
 cases h
 exact ⟨rfl,zE⟩
 refine zj<|zx<|ze ?_
 cases h
 exact ⟨rfl,zE⟩
 try simp only at h
 refine zA<|yh<|yn<|zn<|zr ?_
 refine zU<|zl ?_
 cases h
 exact ⟨rfl,zE⟩
 refine zj<|zx<|ze ?_
 cases h
 exact ⟨rfl,zE⟩
 try simp only at h
 refine zA<|yh<|zn<|zr ?_
 refine zU<|zl<|yn<|zn<|zr ?_
 refine zU<|zl ?_
 cases h
 exact ⟨rfl,zE⟩
 refine zj<|zx<|ze ?_
 cases h
 exact ⟨rfl,zE⟩
 try simp only at h
 refine zA<|yh<|zn<|zs<|zr ?_
 refine zU<|zl<|zn<|zq ?_
 cases h
 exact zT results67
theorem qox {D:Prop} (n1:Int) (l2:List Pair) (r3:List Int×Int×Int) (h:qf6 n1 l2=some r3):Con D Tryz.prog 28 [(.int .i64 n1),(.slc (vwb qba l2))] (.tup [(.slc (vwb (PV.int .i64) r3.1)),(.int .i64 r3.2.1),(.int .i64 r3.2.2)]):=by
 refine zP call28 func28 rfl ntmps28 fun X w hT=>?_
 simp only [qf6] at h
 refine zs<|zr ?_
 refine zU<|zl<|zn<|zs<|zs<|zr ?_
 refine zU ?_
 obtain ⟨r4,h5,h⟩:=zB h
 refine zc (qk0 n1 l2 _ h5) ?_
 refine zU<|zl<|zn<|zs<|zr ?_
 refine zU<|zl<|zn ?_
 obtain ⟨h6,h⟩|⟨h6,h⟩:=zI h
 refine zi<|zs<|zr ?_
 refine zU<|zl<|zn<|zq<|zt ?_
 cases h
 exact zT results28
 refine zj<|zk<|zn<|zs<|zs<|zr ?_
 refine zU<|zl<|zn ?_
 obtain ⟨h7,h⟩|⟨h7,h⟩:=zI h
 refine zi<|zs<|zr ?_
 refine zU<|zl<|zn<|zq<|zt ?_
 cases h
 exact zT results28
 refine zj<|zk<|zn<|zs<|zr ?_
 refine zU ?_
 obtain ⟨r8,h9,h⟩:=zB h
 refine zc (qto n1 _ h9) ?_
 refine zU<|zl<|zn<|zs<|zr ?_
 obtain ⟨x10,h11,h11l,h11L,h⟩:=zY 0 h
 refine zU<|zl<|zn<|zs<|zs<|zr ?_
 refine zU<|zl<|zn<|zb ?_
 obtain ⟨b12,h13,h⟩:=zB h
 refine zO (fun (s:List Int×Int)=>⟨[(1,.p (.slc (vwb qba l2))),(8,.p (.slc (vwb (qat (PV.int .i64)) r8))),(9,.p (.slc (vwb (PV.int .i64) s.1))),(10,.p (.int .i64 s.2))],[]⟩) (fun (o14:List Int)=>tE (cX Tryz.f28 X w D hT) (.exit 0) ⟨[(1,.p (.slc (vwb qba l2))),(9,.p (.slc (vwb (PV.int .i64) o14)))],[]⟩) h13 ?_ ?_
 clear h h5 h6 h7 h9 h11 h11l h11L h13
 intro s x h
 obtain ⟨b15,i16⟩:=s
 simp only [qbx] at h
 dsimp only
 refine zs<|zs<|zr ?_
 refine zU<|zl<|zn ?_
 obtain ⟨h17,h⟩|⟨h17,h⟩:=zI h
 refine zi<|zk<|zn<|zs<|zb<|zs<|zr ?_
 obtain ⟨x18,h19,h19a,h19b,h⟩:=zX h
 refine zU ?_
 obtain ⟨r20,h21,h⟩:=zB h
 refine zc (qg6 l2 x18 _ h21) ?_
 refine zU ?_
 obtain ⟨r22,h23,h⟩:=zB h
 refine zc (qg6 l2 b15 _ h23) ?_
 refine zU<|zl<|zn ?_
 obtain ⟨h24,h⟩|⟨h24,h⟩:=zI h
 refine zi<|zr ?_
 refine zU<|zl<|yn<|zn<|zr ?_
 refine zU<|zl ?_
 cases h
 exact ⟨rfl,zE⟩
 refine zj<|zk<|yn<|zn<|zr ?_
 refine zU<|zl ?_
 cases h
 exact ⟨rfl,zE⟩
 refine zj<|zx<|ze ?_
 cases h
 exact ⟨rfl,zE⟩
 try simp only at h
 refine zA<|yh<|zn<|zs<|zr ?_
 refine zU ?_
 obtain ⟨r25,h26,h⟩:=zB h
 refine zc (qg6 l2 b12 _ h26) ?_
 refine zU<|zl<|zn<|zq ?_
 cases h
 exact zT results28
theorem ql5 (x1:Drossref03_Recipe) (d2:Drossref56_Draft) (r3:Bool) (h:qck x1 d2=some r3):Con False Tryz.prog 7 [(qaq x1),(qam d2)] (.bool r3):=by
 refine zP call7 func7 rfl ntmps7 fun X w hT=>?_
 simp only [qck] at h
 refine zs<|zr ?_
 refine zU<|zl<|zn<|zs<|zr ?_
 refine zU ?_
 obtain ⟨r4,h5,h⟩:=zB h
 refine zc (qup x1 d2 _ h5) ?_
 refine zU<|zl<|zn<|zs ?_
 obtain ⟨t6,h7,h⟩:=zB h
 refine zJ (fun (o8:Bool)=>tE (cX Tryz.f7 X w False hT) .normal ⟨[(5,.loc 5 1 0 0),(6,.loc 6 1 0 0),(39,.p (.bool o8))],[(5,.arr 41 3 1 [.p (qap r4.1)]),(6,.arr 25 3 1 [.p (qai r4.2.1)])]⟩) t6 ?_ ?_
 replace h:=h7
 clear h7
 refine zr ?_
 obtain ⟨r9,h10,h⟩:=zB h
 refine zc (qkx  _ h10) ?_
 refine zU ?_
 obtain ⟨h11,h⟩|⟨h11,h⟩:=zI h
 refine zw 30 false ?_
 refine zg ?_
 refine zg ?_
 refine zU ?_
 obtain ⟨h12,h⟩|⟨h12,h⟩:=zI h
 replace h:=h.symm
 refine zw 34 false ?_
 refine zg ?_
 refine zg ?_
 refine zg ?_
 refine zg ?_
 refine zU<|zl ?_
 cases h
 exact ⟨rfl,zE⟩
 refine zw 34 true ?_
 refine zh ?_
 refine zU<|zl ?_
 cases h
 exact ⟨rfl,zE⟩
 refine zw 30 true ?_
 refine zh ?_
 refine zU ?_
 refine zh ?_
 refine zU<|zl ?_
 cases h
 exact ⟨rfl,zE⟩
 try simp only at h
 refine zA<|zn ?_
 obtain ⟨h13,h⟩|⟨h13,h⟩:=zI h
 refine zi<|zs<|zr ?_
 obtain ⟨r14,h15,h⟩:=zB h
 refine zc (qkx  _ h15) ?_
 refine zU<|zl<|zn<|zq<|zt ?_
 cases h
 exact zT results7
 refine zj<|zk<|zn<|zs<|zr ?_
 refine zU ?_
 obtain ⟨r16,h17,h⟩:=zB h
 refine zc (qkv r4.1 r4.2.1 _ h17) ?_
 refine zU<|zl<|zn<|zs<|zs<|zr ?_
 refine zU ?_
 obtain ⟨h18,h⟩|⟨h18,h⟩:=zI h
 refine zw 49 true ?_
 refine zh ?_
 refine zU<|zl<|zn ?_
 refine zi<|zs<|zr ?_
 refine zU<|zl<|zn<|zq<|zt ?_
 cases h
 exact zT results7
 refine zw 49 false ?_
 refine zg ?_
 refine zg ?_
 obtain ⟨r19,h20,h⟩:=zB h
 refine zc (quq r4.1 r16.1 _ h20) ?_
 refine zg ?_
 refine zU<|zl<|zn ?_
 obtain ⟨h21,h⟩|⟨h21,h⟩:=zI h
 refine zj<|zk<|zn<|zs<|zr ?_
 refine zU<|zl<|zn<|zs<|zr ?_
 refine zU<|zl<|zn<|zs<|zs<|zr ?_
 refine zU<|zl<|zn<|zb ?_
 obtain ⟨o22,h23,h⟩:=zB h
 refine zO (fun (s:List Int×List Int×Int)=>⟨[(5,.loc 5 1 0 0),(6,.loc 6 1 0 0),(8,.p (.slc (vwb (qat (PV.int .i64)) r16.1))),(10,.own 82 1 0 s.1.length),(11,.own 66 1 0 s.2.1.length),(56,.p (.slc (vwb qay r4.1.Rows))),(57,.p (.int .i64 (r4.1.Rows.length:Int))),(58,.p (.int .i64 s.2.2))],[(5,.arr 41 3 1 [.p (qap r4.1)]),(6,.arr 25 3 1 [.p (qai r4.2.1)]),(66,.arr 2 1 1 (vwb AV.p (vwb (PV.int .i64) s.2.1))),(82,.arr 3 1 1 (vwb AV.p (vwb (PV.int .i64) s.1)))]⟩) (fun (o24:List Int×List Int)=>tE (cX Tryz.f7 X w False hT) (.exit 0) ⟨[(5,.loc 5 1 0 0),(6,.loc 6 1 0 0),(10,.own 82 1 0 o24.1.length),(11,.own 66 1 0 o24.2.length)],[(5,.arr 41 3 1 [.p (qap r4.1)]),(6,.arr 25 3 1 [.p (qai r4.2.1)]),(66,.arr 2 1 1 (vwb AV.p (vwb (PV.int .i64) o24.2))),(82,.arr 3 1 1 (vwb AV.p (vwb (PV.int .i64) o24.1)))]⟩) h23 ?_ ?_
 clear h h5 h13 h17 h18 h20 h21 h23
 intro s x h
 obtain ⟨l25,i26,t27⟩:=s
 simp only [qbc] at h
 dsimp only
 refine zs<|zr ?_
 refine zU<|zl<|zn<|zs ?_
 obtain ⟨h28,h⟩|⟨h28,h⟩:=zI h
 refine zi<|zk<|zn<|zs<|zb<|zs<|zr ?_
 obtain ⟨x29,h30,h30a,h30b,h⟩:=zX h
 refine zU<|zl<|zn<|zs<|zr ?_
 obtain ⟨h31,h⟩:=qab h
 refine zU<|zl<|zn<|zs<|zr ?_
 refine zU<|zl<|zn<|zb ?_
 obtain ⟨l32,h33,h⟩:=zB h
 refine zO (fun (s:List Int×Int)=>⟨[(5,.loc 5 1 0 0),(6,.loc 6 1 0 0),(8,.p (.slc (vwb (qat (PV.int .i64)) r16.1))),(10,.own 82 1 0 s.1.length),(11,.own 66 1 0 (i26.length+1)),(13,.loc 13 1 0 0),(56,.p (.slc (vwb qay r4.1.Rows))),(57,.p (.int .i64 (r4.1.Rows.length:Int))),(58,.p (.int .i64 t27)),(68,.p (.int .i64 (r16.1.length:Int))),(69,.p (.int .i64 s.2))],[(5,.arr 41 3 1 [.p (qap r4.1)]),(6,.arr 25 3 1 [.p (qai r4.2.1)]),(13,.arr 66 2 1 [.p (qay x29)]),(66,.arr 2 1 1 (vwb AV.p (vwb (PV.int .i64) (i26++[x29.ID])))),(82,.arr 3 1 1 (vwb AV.p (vwb (PV.int .i64) s.1)))]⟩) (fun (o34:List Int)=>tE (cX Tryz.f7 X w False hT) (.exit 2) ⟨[(5,.loc 5 1 0 0),(6,.loc 6 1 0 0),(8,.p (.slc (vwb (qat (PV.int .i64)) r16.1))),(10,.own 82 1 0 o34.length),(11,.own 66 1 0 (i26.length+1)),(56,.p (.slc (vwb qay r4.1.Rows))),(57,.p (.int .i64 (r4.1.Rows.length:Int))),(58,.p (.int .i64 t27))],[(5,.arr 41 3 1 [.p (qap r4.1)]),(6,.arr 25 3 1 [.p (qai r4.2.1)]),(66,.arr 2 1 1 (vwb AV.p (vwb (PV.int .i64) (i26++[x29.ID])))),(82,.arr 3 1 1 (vwb AV.p (vwb (PV.int .i64) o34)))]⟩) h33 ?_ ?_
 clear h h28 h30 h30a h30b h31 h33
 intro s x h
 obtain ⟨l35,t36⟩:=s
 simp only [qbr] at h
 dsimp only
 refine zs<|zr ?_
 refine zU<|zl<|zn<|zs ?_
 obtain ⟨h37,h⟩|⟨h37,h⟩:=zI h
 refine zi<|zk<|zn<|zs<|zb<|zs<|zr ?_
 refine zU<|zl<|zn<|zs<|zd ?_
 obtain ⟨x38,h39,h39a,h39b,h⟩:=zX h
 refine yU ?_
 obtain ⟨r40,h41,h⟩:=zB h
 refine yc (qjr x38 x29.ID _ h41) ?_
 refine yd<|zn ?_
 obtain ⟨h42,h⟩|⟨h42,h⟩:=zI h
 refine zi<|zr ?_
 obtain ⟨h43,h⟩:=qab h
 refine zU<|zl<|yn<|zn<|zr ?_
 refine zU<|zl ?_
 cases h
 exact ⟨rfl,zE⟩
 refine zj<|zk<|yn<|zn<|zr ?_
 refine zU<|zl ?_
 cases h
 exact ⟨rfl,zE⟩
 refine zj<|zx<|ze ?_
 cases h
 exact ⟨rfl,zE⟩
 try simp only at h
 refine zA<|yh<|yn<|zn<|zr ?_
 refine zU<|zl ?_
 cases h
 exact ⟨rfl,zE⟩
 refine zj<|zx<|ze ?_
 cases h
 exact ⟨rfl,zE⟩
 obtain ⟨l44,i45⟩:=o22
 try simp only at h
 refine zA<|yh<|zn<|zs<|zr ?_
 refine zU ?_
 refine zM ⟨[(10,.own 82 1 0 l44.length),(11,.p (.slc (vwb (PV.int .i64) i45))),(85,.p (qap r4.1)),(86,.p (qai r4.2.1)),(87,.p (.slc (vwb (PV.int .i64) i45)))],[(82,.arr 3 1 1 (vwb AV.p (vwb (PV.int .i64) l44)))]⟩ ?_
 obtain ⟨r46,h47,h⟩:=zB h
 refine zc (qqy r4.1 r4.2.1 i45 _ h47) ?_
 refine zU<|zl<|zn<|zs<|zr ?_
 refine zU ?_
 obtain ⟨r48,h49,h⟩:=zB h
 refine zc (qr7 (i45.length:Int) r46 l44 _ h49) ?_
 refine zU<|zl<|zn<|zs<|zr ?_
 refine zU ?_
 obtain ⟨r50,h51,h⟩:=zB h
 refine zc (qox (i45.length:Int) r46 _ h51) ?_
 refine zU<|zl<|zn<|zs<|zr ?_
 refine zU ?_
 obtain ⟨h52,h⟩|⟨h52,h⟩:=zI h
 refine zw 107 true ?_
 refine zg ?_
 refine zg ?_
 refine zU ?_
 obtain ⟨h53,h⟩|⟨h53,h⟩:=zI h
 replace h:=h.symm
 refine zw 111 true ?_
 refine zg ?_
 refine zg ?_
 refine zg ?_
 refine zU<|zl<|zn<|zq ?_
 cases h
 exact zT results7
 refine zw 111 false ?_
 refine zh ?_
 refine zU<|zl<|zn<|zq ?_
 cases h
 exact zT results7
 refine zw 107 false ?_
 refine zh ?_
 refine zU ?_
 refine zh ?_
 refine zU<|zl<|zn<|zq ?_
 cases h
 exact zT results7
 refine zi<|zs<|zr ?_
 refine zU<|zl<|zn<|zq<|zt ?_
 cases h
 exact zT results7
end Go.Proofs.YtmlegeeinnkhkaaGreat
