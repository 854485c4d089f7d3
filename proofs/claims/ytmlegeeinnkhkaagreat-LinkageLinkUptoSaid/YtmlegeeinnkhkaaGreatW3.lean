/- -/
import Derived.Test.YtmlegeeinnkhkaaGreatW1
import Derived.Test.YtmlegeeinnkhkaaGreatW2
set_option linter.unusedVariables false
set_option linter.unusedSimpArgs false
set_option maxHeartbeats 4000000
set_option maxRecDepth 20000
open Bool renaming eq_false_iff→v18
open List renaming map→v2v
open Go.Ab.PV renaming int→v65
namespace Go.Proofs.YtmlegeeinnkhkaaGreat
open Go Go.Ab Tryz
theorem qw2 {D:Prop} (r1:List Row) (a2:Int) (r3:Int) (r4:Drossref55_Result) (h:qkw r1 a2 r3=some r4):Con D prog 188 [(.slc (v2v qao r1)),(.int .i64 a2),(.int .i64 r3)] (qbe r4):=by
 refine zP call188 func188 rfl ntmps188 fun X w hT=>?_
 simp only [qkw] at h
 refine Ms ?_
 refine M6 ?_
 refine M5 ?_
 obtain ⟨o5,h6,h⟩:=zB h
 refine zO (fun (s:Drossref55_Result×Int)=>⟨[(0,.p (.slc (v2v qao r1))),(1,.p (.int .i64 a2)),(2,.p (.int .i64 r3)),(6,.loc 6 1 0 0),(7,.loc 7 1 0 0),(8,.p (.int .i64 s.2))],[(6,.arr 241 4 1 [.p (.agg [.int .i64 0,.int .i64 0,.str [],.int .i64 0])]),(7,.arr 241 4 1 [.p (qbe s.1)])]⟩) (fun (o7:Drossref55_Result)=>tE (cX Tryz.f188 X w D hT) (.exit 0) ⟨[(0,.p (.slc (v2v qao r1))),(6,.loc 6 1 0 0),(7,.loc 7 1 0 0)],[(6,.arr 241 4 1 [.p (.agg [.int .i64 0,.int .i64 0,.str [],.int .i64 0])]),(7,.arr 241 4 1 [.p (qbe o7)])]⟩) h6 ?_ ?_
 clear h h6
 intro s x h
 obtain ⟨o8,i9⟩:=s
 simp only [qh9] at h
 refine Mi ?_
 refine M8 ?_
 obtain ⟨h10,h⟩|⟨h10,h⟩:=zI h
 refine M9 ?_
 obtain ⟨x11,h12,h12a,h12b,h⟩:=zX h
 obtain ⟨x13,h14,h14a,h14b,h⟩:=zX h
 refine M8 ?_
 obtain ⟨t15,h16,h⟩:=zB h
 refine zJ (fun (o17:Bool)=>tE (cX Tryz.f188 X w D hT) .normal ⟨[(0,.p (.slc (v2v qao r1))),(1,.p (.int .i64 a2)),(2,.p (.int .i64 r3)),(6,.loc 6 1 0 0),(7,.loc 7 1 0 0),(8,.p (.int .i64 i9)),(9,.loc 9 1 0 0),(40,.p (.bool o17))],[(6,.arr 241 4 1 [.p (.agg [.int .i64 0,.int .i64 0,.str [],.int .i64 0])]),(7,.arr 241 4 1 [.p (qbe o8)]),(9,.arr 142 3 1 [.p (qaj x13)])]⟩) t15 ?_ ?_
 replace h:=h16
 clear h16
 refine T6 ?_
 obtain ⟨h18,h⟩|⟨h18,h⟩:=zI h
 refine zw 27 true ?_
 refine M4 ?_
 refine zg ?_
 obtain ⟨h19,h⟩|⟨h19,h⟩:=zI h
 replace h:=h.symm
 refine zw 31 true ?_
 refine Tb ?_
 exact M0 h
 refine zw 31 false ?_
 refine M4 ?_
 refine M4 ?_
 obtain ⟨r20,h21,h⟩:=zB h
 replace h:=h.symm
 refine zc (quh r1 a2 r3 x13 o8.Value _ h21) ?_
 refine zg ?_
 exact M0 h
 refine zw 27 false ?_
 refine zh ?_
 exact M0 h
 try simp only at h
 refine zA<|zn ?_
 obtain ⟨h22,h⟩|⟨h22,h⟩:=zI h
 refine zi<|zd ?_
 refine My ?_
 exact M0 h
 refine Mj ?_
 exact M0 h
 exact M2 h
 try simp only at h
 refine T9 ?_
 refine M8 ?_
 obtain ⟨h23,h⟩|⟨h23,h⟩:=zI h
 refine Tc ?_
 obtain ⟨x24,h25,h25l,h25L,h⟩:=zY 0 h
 refine M6 ?_
 exact M3 h results188
 refine Mf ?_
 exact M3 h results188
theorem qvr {D:Prop} (r1:List Row) (r2:List Int) (r3:Drossref55_Row) (h:qhs r1 r2=some r3):Con D prog 128 [(.slc (v2v qao r1)),(.slc (v2v (v65 .i64) r2))] (qgm r3):=by
 refine zP call128 func128 rfl ntmps128 fun X w hT=>?_
 simp only [qhs] at h
 refine Ms ?_
 refine M6 ?_
 obtain ⟨x4,h5,h5l,h5L,h⟩:=zY 0 h
 refine M5 ?_
 obtain ⟨o6,h7,h⟩:=zB h
 refine zO (fun (s:List Value×List Int×Int)=>⟨[(0,.p (.slc (v2v qao r1))),(1,.p (.slc (v2v (v65 .i64) r2))),(4,.loc 4 1 0 0),(5,.loc 5 1 0 0),(6,.p (.int .i64 s.2.2))],[(4,.arr 184 3 1 [.agg [.p (.int .i64 0),.nils,.nils]]),(5,.arr 184 3 1 [.agg [.p (.int .i64 x4.ID),.own 33 1 0 s.1.length,.own 41 1 0 s.2.1.length]]),(33,.arr 142 3 1 (v2v AV.p (v2v qaj s.1))),(41,.arr 2 1 1 (v2v AV.p (v2v (v65 .i64) s.2.1)))]⟩) (fun (o8:List Value×List Int)=>tE (cX Tryz.f128 X w D hT) (.exit 0) ⟨[(4,.loc 4 1 0 0),(5,.loc 5 1 0 0)],[(4,.arr 184 3 1 [.agg [.p (.int .i64 0),.nils,.nils]]),(5,.arr 184 3 1 [.agg [.p (.int .i64 x4.ID),.own 33 1 0 o8.1.length,.own 41 1 0 o8.2.length]]),(33,.arr 142 3 1 (v2v AV.p (v2v qaj o8.1))),(41,.arr 2 1 1 (v2v AV.p (v2v (v65 .i64) o8.2)))]⟩) h7 ?_ ?_
 clear h h5 h5l h5L h7
 intro s x h
 obtain ⟨o9,o10,i11⟩:=s
 simp only [qg7] at h
 refine Mi ?_
 refine M8 ?_
 obtain ⟨h12,h⟩|⟨h12,h⟩:=zI h
 refine M9 ?_
 obtain ⟨x13,h14,h14a,h14b,h⟩:=zX h
 refine zU ?_
 obtain ⟨r15,h16,h⟩:=zB h
 refine zc (qw2 r1 i11 x13 _ h16) ?_
 refine M6 ?_
 obtain ⟨h17,h⟩:=qab h
 refine Mx ?_
 obtain ⟨h18,h⟩:=qab h
 refine Mh ?_
 exact M0 h
 exact M2 h
 obtain ⟨o19,o20⟩:=o6
 try simp only at h
 refine Md ?_
 exact M3 h results128
theorem qvs {D:Prop} (t1:Table) (c2:List (List Int)) (r3:List Int) (r4:Merged×Int) (h:qht t1 c2 r3=some r4):Con D prog 77 [(qaf t1),(.slc (v2v (qap (v65 .i64)) c2)),(.slc (v2v (v65 .i64) r3))] (.tup [(qj3 r4.1),(.int .i64 r4.2)]):=by
 refine zP call77 func77 rfl ntmps77 fun X w hT=>?_
 simp only [qht] at h
 refine Mc ?_
 refine zU ?_
 obtain ⟨r5,h6,h⟩:=zB h
 refine zc (qvp t1 _ h6) ?_
 refine M6 ?_
 refine M8 ?_
 obtain ⟨h7,h⟩|⟨h7,h⟩:=zI h
 exact M1 h results77
 have h7F:=v18.2 h7
 refine Mm ?_
 refine M8 ?_
 obtain ⟨h8,h⟩|⟨h8,h⟩:=zI h
 exact M1 h results77
 have h8F:=v18.2 h8
 refine Mm ?_
 refine zU ?_
 obtain ⟨r9,h10,h⟩:=zB h
 refine zc (qvq r3 _ h10) ?_
 refine zU ?_
 obtain ⟨h11,h⟩|⟨h11,h⟩:=zI h
 refine zw 31 false ?_
 refine Mr ?_
 obtain ⟨r12,h13,h⟩:=zB h
 refine zc (qzk t1 c2 _ h13) ?_
 refine zg ?_
 refine M8 ?_
 obtain ⟨h14,h⟩|⟨h14,h⟩:=zI h
 refine Mf ?_
 obtain ⟨h15,h⟩:=qab h
 refine M5 ?_
 obtain ⟨l16,h17,h⟩:=zB h
 refine zO (fun (s:List (List Int)×Int)=>⟨[(2,.p (.slc (v2v (v65 .i64) r3))),(3,.loc 3 1 0 0),(6,.loc 6 1 0 0),(9,.own 38 1 0 s.1.length),(10,.p (.int .i64 s.2))],[(3,.arr 41 3 1 [.p (qaf t1)]),(6,.arr 83 5 1 [.agg [.p (.str []),.nils,.nils,.nils,.nils]]),(38,.arr 63 1 1 (v2v AV.p (v2v (qap (v65 .i64)) s.1)))]⟩) (fun (o18:List (List Int))=>tE (cX Tryz.f77 X w D hT) (.exit 0) ⟨[(2,.p (.slc (v2v (v65 .i64) r3))),(3,.loc 3 1 0 0),(6,.loc 6 1 0 0),(9,.own 38 1 0 o18.length)],[(3,.arr 41 3 1 [.p (qaf t1)]),(6,.arr 83 5 1 [.agg [.p (.str []),.nils,.nils,.nils,.nils]]),(38,.arr 63 1 1 (v2v AV.p (v2v (qap (v65 .i64)) o18)))]⟩) h17 ?_ ?_
 clear h h6 h7 h7F h8 h8F h10 h11 h13 h14 h15 h17
 intro s x h
 obtain ⟨l19,i20⟩:=s
 simp only [qdc] at h
 refine Mi ?_
 refine M8 ?_
 obtain ⟨h21,h⟩|⟨h21,h⟩:=zI h
 refine M9 ?_
 refine Mq ?_
 obtain ⟨l22,h23,h⟩:=zB h
 refine zO (fun (s:List (List Int)×Int)=>⟨[(2,.p (.slc (v2v (v65 .i64) r3))),(3,.loc 3 1 0 0),(6,.loc 6 1 0 0),(9,.own 38 1 0 s.1.length),(10,.p (.int .i64 i20)),(11,.p (.int .i64 s.2))],[(3,.arr 41 3 1 [.p (qaf t1)]),(6,.arr 83 5 1 [.agg [.p (.str []),.nils,.nils,.nils,.nils]]),(38,.arr 63 1 1 (v2v AV.p (v2v (qap (v65 .i64)) s.1)))]⟩) (fun (o24:List (List Int))=>tE (cX Tryz.f77 X w D hT) (.exit 2) ⟨[(2,.p (.slc (v2v (v65 .i64) r3))),(3,.loc 3 1 0 0),(6,.loc 6 1 0 0),(9,.own 38 1 0 o24.length),(10,.p (.int .i64 i20))],[(3,.arr 41 3 1 [.p (qaf t1)]),(6,.arr 83 5 1 [.agg [.p (.str []),.nils,.nils,.nils,.nils]]),(38,.arr 63 1 1 (v2v AV.p (v2v (qap (v65 .i64)) o24)))]⟩) h23 ?_ ?_
 clear h h21 h23
 intro s x h
 obtain ⟨l25,k26⟩:=s
 simp only [qg8] at h
 refine Tm ?_
 obtain ⟨h27,h⟩|⟨h27,h⟩:=zI h
 refine yw 50 true ?_
 refine T2 ?_
 obtain ⟨x28,h29,h29a,h29b,h⟩:=zX h
 refine T2 ?_
 obtain ⟨x30,h31,h31l,h31L,h⟩:=zY 0 h
 refine Mk ?_
 refine T2 ?_
 obtain ⟨x32,h33,h33a,h33b,h⟩:=zX h
 refine T2 ?_
 obtain ⟨x34,h35,h35l,h35L,h⟩:=zY 0 h
 refine Mk ?_
 refine Mu ?_
 obtain ⟨h36,h⟩|⟨h36,h⟩:=zI h
 refine Tr ?_
 obtain ⟨x37,h38,h38a,h38b,h⟩:=zX h
 have h38B:=eq_true (by simpa only [List.length_set] using h38b)
 refine My ?_
 exact M0 h
 exact M2 h
 refine yw 50 false ?_
 refine yk ?_
 refine Mu ?_
 exact M2 h
 try simp only at h
 refine T1 ?_
 exact M0 h
 exact M2 h
 try simp only at h
 refine Md ?_
 refine zU ?_
 refine zM ⟨[(2,.p (.slc (v2v (v65 .i64) r3))),(3,.loc 3 1 0 0),(6,.loc 6 1 0 0),(9,.own 38 1 0 l16.length),(84,.p (qaf t1))],[(3,.arr 41 3 1 [.p (qaf t1)]),(6,.arr 83 5 1 [.agg [.p (.str []),.nils,.nils,.nils,.nils]]),(38,.arr 63 1 1 (v2v AV.p (v2v (qap (v65 .i64)) l16)))]⟩ ?_
 refine qjq (avs:=[.p (qaf t1),.nils]) 130 rfl (qbf rfl) rfl func105 rfl call105 ntmps105 (by simp) (by simp only [go_sem,seval,h7F,h8F,h11,h14];all_goals rfl) ?_
 intro i39 w40 h41
 show AWp _ _ _ ⟨[(0,.p (qaf t1)),(1,.nils)],[(3,.arr 41 3 1 [.p (qaf t1)]),(6,.arr 83 5 1 [.agg [.p (.str []),.nils,.nils,.nils,.nils]]),(38,.arr 63 1 1 (v2v AV.p (v2v (qap (v65 .i64)) l16)))]⟩
 refine Ms ?_
 refine Mz ?_
 obtain ⟨h42,h⟩:=qab h
 refine Ta ?_
 refine Mq ?_
 obtain ⟨o43,h44,h⟩:=zB h
 refine zO (fun (s:Unit)=>⟨[(1,.nils),(4,.loc 134 1 0 0),(5,.loc 135 1 0 0),(6,.p (.int .i64 0))],[(3,.arr 41 3 1 [.p (qaf t1)]),(6,.arr 83 5 1 [.agg [.p (.str []),.nils,.nils,.nils,.nils]]),(38,.arr 63 1 1 (v2v AV.p (v2v (qap (v65 .i64)) l16))),(134,.arr 41 3 1 [.agg [.p (.str []),.nils,.nils]]),(135,.arr 41 3 1 [.agg [.p (.str t1.Name),.own 139 1 0 (t1.Attrs).length,.nils]]),(139,.arr 9 1 1 (v2v AV.p (v2v PV.str t1.Attrs)))]⟩) (fun (o45:Unit)=>tE ⟨prog,31,130,X,[(3,.arr 41 3 1 [.p (qaf t1)]),(6,.arr 83 5 1 [.agg [.p (.str []),.nils,.nils,.nils,.nils]]),(38,.arr 63 1 1 (v2v AV.p (v2v (qap (v65 .i64)) l16)))],i39,w40,D,h41⟩ (.exit 0) ⟨[(4,.loc 134 1 0 0),(5,.loc 135 1 0 0)],[(3,.arr 41 3 1 [.p (qaf t1)]),(6,.arr 83 5 1 [.agg [.p (.str []),.nils,.nils,.nils,.nils]]),(38,.arr 63 1 1 (v2v AV.p (v2v (qap (v65 .i64)) l16))),(134,.arr 41 3 1 [.agg [.p (.str []),.nils,.nils]]),(135,.arr 41 3 1 [.agg [.p (.str t1.Name),.own 139 1 0 (t1.Attrs).length,.nils]]),(139,.arr 9 1 1 (v2v AV.p (v2v PV.str t1.Attrs)))]⟩) h44 ?_ ?_
 clear h h6 h7 h7F h8 h8F h10 h11 h13 h14 h15 h17 h42 h44
 intro s x h
 simp only [ql1] at h
 refine T8 ?_
 refine M8 ?_
 exact M2 h
 cases o43
 try simp only at h
 refine Md ?_
 refine zU<|zl<|zn<|zq ?_
 refine qih (by simp only [results105];simp only [go_sem,seval,h7F,h8F,h11,h14];exact rfl) ?_
 refine M5 ?_
 obtain ⟨o46,h47,h⟩:=zB h
 refine zO (fun (s:List Row×List (List Int)×List (List Int)×Int)=>⟨[(2,.p (.slc (v2v (v65 .i64) r3))),(3,.loc 3 1 0 0),(6,.loc 6 1 0 0),(9,.own 38 1 0 l16.length),(12,.loc 12 1 0 0),(13,.p (.int .i64 s.2.2.2))],[(3,.arr 41 3 1 [.p (qaf t1)]),(6,.arr 83 5 1 [.agg [.p (.str []),.nils,.nils,.nils,.nils]]),(12,.arr 83 5 1 [.agg [.p (.str t1.Name),.own 139 1 0 (t1.Attrs).length,.own 108 1 0 s.1.length,.own 120 1 0 s.2.1.length,.own 127 1 0 s.2.2.1.length]]),(38,.arr 63 1 1 (v2v AV.p (v2v (qap (v65 .i64)) l16))),(108,.arr 66 2 1 (v2v AV.p (v2v qao s.1))),(120,.arr 63 1 1 (v2v AV.p (v2v (qap (v65 .i64)) s.2.1))),(127,.arr 63 1 1 (v2v AV.p (v2v (qap (v65 .i64)) s.2.2.1))),(139,.arr 9 1 1 (v2v AV.p (v2v PV.str t1.Attrs)))]⟩) (fun (o48:List Row×List (List Int)×List (List Int))=>tE (cX Tryz.f77 X w D hT) (.exit 4) ⟨[(6,.loc 6 1 0 0),(12,.loc 12 1 0 0)],[(6,.arr 83 5 1 [.agg [.p (.str []),.nils,.nils,.nils,.nils]]),(12,.arr 83 5 1 [.agg [.p (.str t1.Name),.own 139 1 0 (t1.Attrs).length,.own 108 1 0 o48.1.length,.own 120 1 0 o48.2.1.length,.own 127 1 0 o48.2.2.length]]),(108,.arr 66 2 1 (v2v AV.p (v2v qao o48.1))),(120,.arr 63 1 1 (v2v AV.p (v2v (qap (v65 .i64)) o48.2.1))),(127,.arr 63 1 1 (v2v AV.p (v2v (qap (v65 .i64)) o48.2.2))),(139,.arr 9 1 1 (v2v AV.p (v2v PV.str t1.Attrs)))]⟩) h47 ?_ ?_
 clear h h6 h7 h7F h8 h8F h10 h11 h13 h14 h15 h17 h42 h44 h47
 intro s x h
 obtain ⟨o49,o50,o51,i52⟩:=s
 simp only [qdd] at h
 refine Mi ?_
 refine M8 ?_
 obtain ⟨h53,h⟩|⟨h53,h⟩:=zI h
 refine Mw ?_
 obtain ⟨x54,h55,h55a,h55b,h⟩:=zX h
 refine yU ?_
 obtain ⟨r56,h57,h⟩:=zB h
 refine yc (qpj t1 x54 _ h57) ?_
 refine yU ?_
 obtain ⟨r58,h59,h⟩:=zB h
 refine yc (qvr r56.Rows r3 _ h59) ?_
 refine Ti ?_
 obtain ⟨h60,h⟩:=qab h
 refine Mz ?_
 obtain ⟨h61,h⟩:=qab h
 obtain ⟨h62,h⟩:=qab h
 refine yU ?_
 refine yd<|zn<|zr ?_
 obtain ⟨h63,h⟩:=qab h
 refine Mh ?_
 exact M0 h
 exact M2 h
 obtain ⟨o64,o65,o66⟩:=o46
 try simp only at h
 refine Md ?_
 exact M3 h results77
 exact M1 h results77
 refine zw 31 true ?_
 refine zh ?_
 refine M8 ?_
 exact M1 h results77
theorem qw3 {D:Prop} (t1:Table) (l2:Linkage) (r3:Merged) (h:qkx t1 l2=some r3):Con D prog 37 [(qaf t1),(qak l2)] (qj3 r3):=by
 refine zP call37 func37 rfl ntmps37 fun X w hT=>?_
 simp only [qkx] at h
 refine Ms ?_
 refine Mz ?_
 refine yU ?_
 obtain ⟨r4,h5,h⟩:=zB h
 refine yc (qst t1 l2 _ h5) ?_
 refine yU ?_
 obtain ⟨r6,h7,h⟩:=zB h
 refine yc (qvs t1 r4 l2.Survive _ h7) ?_
 refine Ti ?_
 exact M3 h results37
theorem qps (x1:Drossref03_Recipe) (d2:Drossref56_Draft) (r3:Bool) (h:qee x1 d2=some r3):Con False prog 10 [(qax x1),(qau d2)] (.bool r3):=by
 refine zP call10 func10 rfl ntmps10 fun X w hT=>?_
 simp only [qee] at h
 refine Ms ?_
 refine M6 ?_
 refine zU ?_
 obtain ⟨r4,h5,h⟩:=zB h
 refine zc (qzi x1 d2 _ h5) ?_
 refine T4 ?_
 obtain ⟨t6,h7,h⟩:=zB h
 refine zJ (fun (o8:Bool)=>tE (cX Tryz.f10 X w False hT) .normal ⟨[(5,.loc 5 1 0 0),(6,.loc 6 1 0 0),(22,.p (.bool o8))],[(5,.arr 41 3 1 [.p (qaf r4.1)]),(6,.arr 25 3 1 [.p (qak r4.2.1)])]⟩) t6 ?_ ?_
 replace h:=h7
 clear h7
 refine zr ?_
 obtain ⟨r9,h10,h⟩:=zB h
 refine zc (qob  _ h10) ?_
 refine zU ?_
 obtain ⟨h11,h⟩|⟨h11,h⟩:=zI h
 replace h:=h.symm
 refine zw 19 false ?_
 refine Mr ?_
 exact M0 h
 refine zw 19 true ?_
 refine zh ?_
 exact M0 h
 try simp only at h
 refine zA<|zn ?_
 obtain ⟨h12,h⟩|⟨h12,h⟩:=zI h
 refine Tl ?_
 obtain ⟨r13,h14,h⟩:=zB h
 refine zc (qob  _ h14) ?_
 refine T3 ?_
 exact T7 h results10
 refine Mf ?_
 refine zU ?_
 obtain ⟨r15,h16,h⟩:=zB h
 refine zc (q0c r4.1 r4.2.1 _ h16) ?_
 refine Mz ?_
 refine yU ?_
 obtain ⟨h17,h⟩|⟨h17,h⟩:=zI h
 refine yw 32 true ?_
 refine Mk ?_
 obtain ⟨r18,h19,h⟩:=zB h
 refine yc (qw3 r4.1 r4.2.1 _ h19) ?_
 obtain ⟨r20,h21,h⟩:=zB h
 refine yc (qwx r15.1 r18 _ h21) ?_
 exact Mp h results10
 refine yw 32 false ?_
 refine yk ?_
 exact Mp h results10
end Go.Proofs.YtmlegeeinnkhkaaGreat
