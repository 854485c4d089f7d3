/- Each function of the program computes what its Lean function says, where that has a value. -/
import Derived.Test.YtfnmcjkkfnhpnaaGreatDoorW1
import Derived.Test.YtfnmcjkkfnhpnaaGreatDoorT1
import Derived.Test.YtfnmcjkkfnhpnaaGreatDoorA3
set_option linter.unusedVariables false
set_option linter.unusedSimpArgs false
set_option maxHeartbeats 4000000
set_option maxRecDepth 20000
open Go.IntKind renaming i64→vsg
open List renaming length_append→vql,length_replicate→vqp,length_set→vqq,length_take_of_le→vwa,map→vs3,map_take→vs7,replicate→vq5
open Option.some renaming inj→vtu
open Go.Ab.PV renaming int→vv8
namespace Go.Proofs.YtfnmcjkkfnhpnaaGreatDoor
open Go Go.Ab Tryz
section
attribute [-go_sem] qsa
theorem qoi {D:Prop} (a1:List (List Int)) (r2:List (List Int)) (h:qf6 a1=some r2):Con D Tryz.prog 24 [(.slc (vs3 (qbh (vv8 .i64)) a1))] (.slc (vs3 (qbh (vv8 .i64)) r2)):=by
 refine zP call24 func24 rfl ntmps24 fun X w hT=>?_
 simp only [qf6] at h
 refine zs<|zr ?_
 refine zU<|zl<|zn<|zs<|zr ?_
 refine zU<|zl<|zn<|zs<|zs<|zr ?_
 refine zU<|zl<|zn<|zb ?_
 obtain ⟨s3,h4,h⟩:=zB h
 refine zO (fun (s:(List (Arr3_int64×Bool))×Int)=>⟨[(0,.p (.slc (vs3 (qbh (vv8 .i64)) a1))),(3,.loc 3 1 0 0),(12,.p (.slc (vs3 (qbh (vv8 .i64)) a1))),(13,.p (.int .i64 (a1.length:Int))),(14,.p (.int .i64 s.2))],[(3,.arr 165 1 1 [.mapo 11 1]),(11,.map 1 (vs3 AV.p (qfq qaa s.1)) (vs3 AV.p (qfz PV.bool s.1)))]⟩) (fun (o5:(List (Arr3_int64×Bool)))=>tE (cX Tryz.f24 X w D hT) (.exit 0) ⟨[(0,.p (.slc (vs3 (qbh (vv8 .i64)) a1))),(3,.loc 3 1 0 0)],[(3,.arr 165 1 1 [.mapo 11 1]),(11,.map 1 (vs3 AV.p (qfq qaa o5)) (vs3 AV.p (qfz PV.bool o5)))]⟩) h4 ?_ ?_
 clear h h4
 intro s x h
 obtain ⟨s6,t7⟩:=s
 simp only [qec] at h
 dsimp only
 refine zs<|zr ?_
 refine zU<|zl<|zn<|zs ?_
 obtain ⟨h8,h⟩|⟨h8,h⟩:=zI h
 refine zi<|zk<|zn<|zs<|zb<|zs<|zr ?_
 obtain ⟨x9,h10,h10a,h10b,h⟩:=zX h
 refine zU<|zl<|zn<|zd ?_
 refine yU ?_
 obtain ⟨r11,h12,h⟩:=zB h
 refine yc (qfo x9 _ h12) ?_
 refine yU ?_
 refine yd<|yn<|zn<|zr ?_
 refine zU<|zl ?_
 cases h
 exact ⟨rfl,zE⟩
 refine zj<|zx<|ze ?_
 cases h
 exact ⟨rfl,zE⟩
 try simp only at h
 refine zA<|yh<|zn<|zs<|zr ?_
 refine zU<|zl<|zn<|zs<|zr ?_
 refine zU<|zl<|zn<|zs<|zs<|zr ?_
 refine zU<|zl<|zn<|zb ?_
 obtain ⟨o13,h14,h⟩:=zB h
 refine zO (fun (s:List (List Int)×Int)=>⟨[(3,.loc 3 1 0 0),(6,.func (.func 65) [.loc 3 1 0 0]),(7,.own 44 1 0 s.1.length),(23,.p (.slc (vs3 (qbh (vv8 .i64)) a1))),(24,.p (.int .i64 (a1.length:Int))),(25,.p (.int .i64 s.2))],[(3,.arr 165 1 1 [.mapo 11 1]),(11,.map 1 (vs3 AV.p (qfq qaa s3)) (vs3 AV.p (qfz PV.bool s3))),(44,.arr 34 1 1 (vs3 AV.p (vs3 (qbh (vv8 .i64)) s.1)))]⟩) (fun (o15:List (List Int))=>tE (cX Tryz.f24 X w D hT) (.exit 2) ⟨[(7,.own 44 1 0 o15.length)],[(44,.arr 34 1 1 (vs3 AV.p (vs3 (qbh (vv8 .i64)) o15)))]⟩) h14 ?_ ?_
 clear h h4 h14
 intro s x h
 obtain ⟨o16,t17⟩:=s
 simp only [qed] at h
 dsimp only
 refine zs<|zr ?_
 refine zU<|zl<|zn<|zs ?_
 obtain ⟨h18,h⟩|⟨h18,h⟩:=zI h
 refine zi<|zk<|zn<|zs<|zb<|zs<|zr ?_
 obtain ⟨x19,h20,h20a,h20b,h⟩:=zX h
 refine zU<|zl<|zn<|zs<|zr ?_
 refine zU ?_
 obtain ⟨r21,h22,h⟩:=zB h
 refine zc (qfo x19 _ h22) ?_
 refine zU<|zl<|zn ?_
 obtain ⟨t23,h24,h⟩:=zB h
 refine zJ (fun (o25:Bool)=>tE (cX Tryz.f24 X w D hT) .normal ⟨[(3,.loc 3 1 0 0),(6,.func (.func 65) [.loc 3 1 0 0]),(7,.own 44 1 0 o16.length),(9,.p (.slc (vs3 (vv8 .i64) x19))),(23,.p (.slc (vs3 (qbh (vv8 .i64)) a1))),(24,.p (.int .i64 (a1.length:Int))),(25,.p (.int .i64 t17)),(39,.p (.bool o25))],[(3,.arr 165 1 1 [.mapo 11 1]),(11,.map 1 (vs3 AV.p (qfq qaa s3)) (vs3 AV.p (qfz PV.bool s3))),(44,.arr 34 1 1 (vs3 AV.p (vs3 (qbh (vv8 .i64)) o16)))]⟩) t23 ?_ ?_
 replace h:=h24
 clear h24
 refine zr ?_
 refine zU ?_
 obtain ⟨h26,h⟩|⟨h26,h⟩:=zI h
 refine zw 34 true ?_
 refine zg ?_
 refine zg ?_
 obtain ⟨r27,h28,h⟩:=zB h
 replace h:=h.symm
 refine zc (qm0 x19 s3 _ h28) ?_
 refine zg ?_
 refine zU<|zl ?_
 cases h
 exact ⟨rfl,zE⟩
 refine zw 34 false ?_
 refine zh ?_
 refine zU<|zl ?_
 cases h
 exact ⟨rfl,zE⟩
 try simp only at h
 refine zA<|zn ?_
 obtain ⟨h29,h⟩|⟨h29,h⟩:=zI h
 refine zi<|zr ?_
 refine zU ?_
 obtain ⟨r30,h31,h⟩:=zB h
 refine zc (qim x19 _ h31) ?_
 obtain ⟨h32,h⟩:=qaf h
 refine zU<|zl<|yn<|zn<|zr ?_
 refine zU<|zl ?_
 cases h
 exact ⟨rfl,zE⟩
 refine zj<|zk<|yn<|zn<|zr ?_
 refine zU<|zl ?_
 cases h
 exact ⟨rfl,zE⟩
 refine zj<|zx<|ze ?_
 cases h
 exact ⟨rfl,zE⟩
 try simp only at h
 refine zA<|yh<|zn<|zs<|zr ?_
 refine zU ?_
 refine zM ⟨[(7,.own 44 1 0 o13.length),(46,.own 44 1 0 o13.length)],[(44,.arr 34 1 1 (vs3 AV.p (vs3 (qbh (vv8 .i64)) o13)))]⟩ ?_
 obtain ⟨l33,h34,h⟩:=zB h
 refine zSF srt67 (qbh (vv8 .i64)) (fun (y35:List Int) (y36:List Int)=>qad y35 y36) h34 (fun y35 y36 r h=>qhv y35 y36 r h) ?_
 have h37:=q3k h34
 refine zM ⟨[(7,.own 44 1 0 l33.length),(47,.p (.tup []))],[(44,.arr 34 1 1 (vs3 AV.p (vs3 (qbh (vv8 .i64)) l33)))]⟩ ?_
 clear h37
 refine zl<|zn<|zs<|zr ?_
 refine zU ?_
 refine zM ⟨[(48,.own 44 1 0 l33.length)],[(44,.arr 34 1 1 (vs3 AV.p (vs3 (qbh (vv8 .i64)) l33)))]⟩ ?_
 refine qgn (avs:=[.own 44 1 0 l33.length,.p (.func (.func 70) [])]) 50 rfl (qbe rfl) rfl func69 rfl call69 ntmps69 (by simp) (by simp only [go_sem,seval];all_goals rfl) ?_
 intro i38 w39 h40
 show AWp _ _ _ ⟨[(0,.own 44 1 0 l33.length),(1,.p (.func (.func 70) []))],[(44,.arr 34 1 1 (vs3 AV.p (vs3 (qbh (vv8 .i64)) l33)))]⟩
 refine zs<|zr ?_
 refine zU<|zl<|zn<|zs<|zs<|zr ?_
 refine zU<|zl<|zn ?_
 obtain ⟨h41,h⟩|⟨h41,h⟩:=zI h
 have h41T:=eq_true h41
 refine zi<|zs<|zr ?_
 refine zU<|zl<|zn<|zq<|zt ?_
 refine qbb (by simp only [results69];simp only [go_sem,seval,h41T];exact rfl) ?_
 refine zU<|zl<|zn<|zq ?_
 cases h
 exact zT results24
 have h41T:=eq_false h41
 refine zj<|zk<|zn<|zs<|zs<|zr ?_
 refine zU<|zl<|zn<|zb ?_
 obtain ⟨o42,h43,h⟩:=zB h
 refine zO (fun (s:Int)=>⟨[(0,.own 44 1 0 l33.length),(1,.p (.func (.func 70) [])),(5,.p (.int .i64 s))],[(44,.arr 34 1 1 (vs3 AV.p (vs3 (qbh (vv8 .i64)) l33)))]⟩) (fun (o:(Unit) ⊕ (List (List Int)))=>match o with | .inl o44=>tE ⟨Tryz.prog,66,50,X,[(44,.arr 34 1 1 (vs3 AV.p (vs3 (qbh (vv8 .i64)) l33)))],i38,w39,D,h40⟩ (.exit 0) ⟨[(0,.own 44 1 0 l33.length)],[(44,.arr 34 1 1 (vs3 AV.p (vs3 (qbh (vv8 .i64)) l33)))]⟩ | .inr o45=>tE ⟨Tryz.prog,66,50,X,[(44,.arr 34 1 1 (vs3 AV.p (vs3 (qbh (vv8 .i64)) l33)))],i38,w39,D,h40⟩ .ret ⟨[(4,.own 44 2 0 o45.length)],[(44,.arr 34 1 2 (vs3 AV.p (vs3 (qbh (vv8 .i64)) o45)))]⟩) h43 ?_ ?_
 clear h h4 h14 h34 h41 h41T h43
 intro k46 x h
 simp only [qdf] at h
 refine zs<|zs<|zr ?_
 refine zU<|zl<|zn ?_
 obtain ⟨h47,h⟩|⟨h47,h⟩:=zI h
 refine zi<|zk<|zn<|zs<|zb<|zs<|zd ?_
 obtain ⟨x48,h49,h49a,h49b,h⟩:=zX h
 obtain ⟨x50,h51,h51a,h51b,h⟩:=zX h
 refine yU ?_
 obtain ⟨r52,h53,h⟩:=zB h
 refine yc (qin x48 x50 _ h53) ?_
 refine yd<|zn ?_
 obtain ⟨h54,h⟩|⟨h54,h⟩:=zI h
 refine zi<|zs<|zr ?_
 obtain ⟨h55,h⟩:=qaf h
 obtain ⟨h56,h⟩:=qaf h
 refine zU<|zl<|zn<|zs<|zs<|zr ?_
 refine zU<|zl<|zn<|zb ?_
 obtain ⟨o57,h58,h⟩:=zB h
 refine zO (fun (s:List (List Int)×Int×Int)=>⟨[(0,.own 44 1 0 s.1.length),(1,.p (.func (.func 70) [])),(5,.p (.int .i64 s.2.1)),(6,.own 44 1 k46.toNat (l33.length - k46.toNat)),(7,.p (.int .i64 s.2.2))],[(44,.arr 34 1 1 (vs3 AV.p (vs3 (qbh (vv8 .i64)) s.1)))]⟩) (fun (o59:List (List Int)×Int)=>tE ⟨Tryz.prog,66,50,X,[(44,.arr 34 1 1 (vs3 AV.p (vs3 (qbh (vv8 .i64)) l33)))],i38,w39,D,h40⟩ (.exit 2) ⟨[(0,.own 44 1 0 o59.1.length),(5,.p (.int .i64 o59.2))],[(44,.arr 34 1 1 (vs3 AV.p (vs3 (qbh (vv8 .i64)) o59.1)))]⟩) h58 ?_ ?_
 clear h h47 h49 h49a h49b h51 h51a h51b h53 h54 h55 h56 h58
 intro s x h
 obtain ⟨s60,k61,k62⟩:=s
 simp only [qck] at h
 dsimp only
 refine zs<|zs<|zr ?_
 refine zU<|zl<|zn ?_
 obtain ⟨h63,h⟩|⟨h63,h⟩:=zI h
 refine zi<|zk<|zn<|zs<|zb<|zs<|zd ?_
 obtain ⟨x64,h65,h65a,h65b,h⟩:=zX h
 obtain ⟨h66,h66n⟩:=qpu h65
 have h66N:=eq_true (qtd h66n h65a)
 obtain ⟨x67,h68,h68a,h68b,h⟩:=zX h
 obtain ⟨h69,h69n⟩:=qpu h68
 have h69N:=eq_true (qtd h69n h68a)
 refine yU ?_
 obtain ⟨r70,h71,h⟩:=zB h
 refine yc (qin x64 x67 _ h71) ?_
 refine yU ?_
 refine yd<|zn ?_
 obtain ⟨h72,h⟩|⟨h72,h⟩:=zI h
 refine zj<|zk<|yn<|zn<|zr ?_
 refine zU<|zl ?_
 cases h
 exact ⟨rfl,zE⟩
 refine zi<|zs<|zr ?_
 obtain ⟨h73,h73n⟩:=qpu h65
 have h73N:=eq_true (qtd h73n h65a)
 obtain ⟨x74,h75,h75a,h75b,h⟩:=zX h
 refine zU<|zl<|zn<|zr ?_
 refine zU<|zl<|yn<|zn<|zr ?_
 refine zU<|zl ?_
 cases h
 exact ⟨rfl,zE⟩
 refine zj<|zx<|ze ?_
 cases h
 exact ⟨rfl,zE⟩
 obtain ⟨s76,k77⟩:=o57
 try simp only at h
 refine zA<|yh<|zn<|zs<|zr ?_
 obtain ⟨h78,h⟩:=qaf h
 obtain ⟨h79,h⟩:=qaf h
 refine zW 3 ?_
 refine zCn (qbh (vv8 .i64)) s76 44 k77.toNat (s76.length - k77.toNat) (by simp only [vqq,vql,vqp] at *;omega) ?_
 refine zM ⟨[(0,.own 44 1 0 ((((s76.take k77.toNat)).length+((vq5 (s76.length - k77.toNat) ([]:List Int))).length)+((s76.drop (k77.toNat+(s76.length - k77.toNat)))).length)),(5,.p (.int .i64 k77))],[(44,.arr 34 1 1 (vs3 AV.p (vs3 (qbh (vv8 .i64)) (((s76.take k77.toNat)++(vq5 (s76.length - k77.toNat) ([]:List Int)))++(s76.drop (k77.toNat+(s76.length - k77.toNat)))))))]⟩ ?_
 refine zl<|zn<|zs<|zr ?_
 obtain ⟨h80,h⟩:=qaf h
 obtain ⟨h81,h⟩:=qaf h
 refine zU<|zl<|zn ?_
 refine zL ⟨[(4,.own 44 1 0 k77.toNat)],[(44,.arr 34 1 1 (vs3 AV.p (vs3 (qbh (vv8 .i64)) (((s76.take k77.toNat)++(vq5 (s76.length - k77.toNat) ([]:List Int)))++(s76.drop (k77.toNat+(s76.length - k77.toNat)))))))]⟩ ?_
 obtain ⟨l82,h83,h⟩:=zB h
 replace h83:=vtu h83
 rw [h83]
 obtain ⟨h84,h⟩:=qaf h
 obtain ⟨l85,h86,h⟩:=zB h
 replace h86:=vtu h86
 have h86L:l85.length=k77.toNat:=by rw [←h86];exact vwa h84
 refine qwc 4 44 1 k77.toNat 34 1 (es':=vs3 AV.p (vs3 (qbh (vv8 .i64)) l85)) (by exact rfl) (by exact rfl) (by rw [←vs7,←vs7,h86]) rfl ?_
 refine zL ⟨[(4,.own 44 2 0 l85.length)],[(44,.arr 34 1 2 (vs3 AV.p (vs3 (qbh (vv8 .i64)) l85)))]⟩ ?_
 clear h86L h84
 refine zq<|yr<|zt ?_
 cases h
 exact ⟨rfl,zE⟩
 refine zj<|zk<|yn<|zn<|zr ?_
 refine zU<|zl ?_
 cases h
 exact ⟨rfl,zE⟩
 refine zj<|zx<|ze ?_
 cases h
 exact ⟨rfl,zE⟩
 rcases o42 with ⟨⟩ | t87
 try simp only at h
 refine zA<|yh<|zn<|zs<|zr ?_
 refine zU<|zl<|zn<|zq ?_
 refine qbb (by simp only [results69];simp only [go_sem,seval,h41T];exact rfl) ?_
 refine zU<|zl<|zn<|zq ?_
 cases h
 exact zT results24
 try simp only at h
 refine zA<|yr<|zt ?_
 refine qbb (by simp only [results69];simp only [go_sem,seval,h41T];exact rfl) ?_
 refine zU<|zl<|zn<|zq ?_
 cases h
 exact zT results24
end
end Go.Proofs.YtfnmcjkkfnhpnaaGreatDoor
namespace Go.Proofs.YtfnmcjkkfnhpnaaGreatDoor
open Go Go.Ab Tryz
theorem qk6 (t1:Table) (l2:List Constraint) (r3:Hypergraph×Int) (h:qdk t1 l2=some r3):Con False Tryz.prog 8 [(qab t1),(.slc (vs3 qam l2))] (.tup [(qbr r3.1),(.int .i64 r3.2)]):=by
 refine zP call8 func8 rfl ntmps8 fun X w hT=>?_
 simp only [qdk] at h
 refine zs<|zr ?_
 refine zU<|zl<|zn<|zs<|zs<|zr ?_
 refine zU ?_
 obtain ⟨r4,h5,h⟩:=zB h
 refine zc (qig t1 _ h5) ?_
 refine zU<|zl<|zn<|zs<|zr ?_
 refine zU<|zl<|zn ?_
 obtain ⟨h6,h⟩|⟨h6,h⟩:=zI h
 refine zi<|zs<|zr ?_
 refine zU<|zl<|zn<|zq<|zt ?_
 cases h
 exact zT results8
 refine zj<|zk<|zn<|zs<|zs<|zr ?_
 refine zU<|zl<|zn ?_
 obtain ⟨h7,h⟩|⟨h7,h⟩:=zI h
 refine zi<|zs<|zr ?_
 refine zU<|zl<|zn<|zq<|zt ?_
 cases h
 exact zT results8
 refine zj<|zk<|zn<|zs<|zs<|zr ?_
 refine zU<|zl<|zn<|zb ?_
 obtain ⟨o8,h9,h⟩:=zB h
 refine zO (fun (s:Int)=>⟨[(1,.p (.slc (vs3 qam l2))),(2,.loc 2 1 0 0),(4,.loc 4 1 0 0),(30,.p (.slc (vs3 qam l2))),(31,.p (.int .i64 (l2.length:Int))),(32,.p (.int .i64 s))],[(2,.arr 32 3 1 [.p (qab t1)]),(4,.arr 44 2 1 [.agg [.nils,.nils]])]⟩) (fun (o:(Unit) ⊕ (Hypergraph×Int))=>match o with | .inl o10=>tE (cX Tryz.f8 X w False hT) (.exit 0) ⟨[(1,.p (.slc (vs3 qam l2))),(2,.loc 2 1 0 0),(4,.loc 4 1 0 0)],[(2,.arr 32 3 1 [.p (qab t1)]),(4,.arr 44 2 1 [.agg [.nils,.nils]])]⟩ | .inr o11=>tR Tryz.prog Tryz.f8 (.tup [(qbr o11.1),(.int .i64 o11.2)])) h9 ?_ ?_
 clear h h5 h6 h7 h9
 intro t12 x h
 simp only [qd3] at h
 refine zs<|zr ?_
 refine zU<|zl<|zn<|zs ?_
 obtain ⟨h13,h⟩|⟨h13,h⟩:=zI h
 refine zi<|zk<|zn<|zs<|zb<|zs<|zr ?_
 obtain ⟨x14,h15,h15a,h15b,h⟩:=zX h
 refine zU<|zl<|zn<|zs<|zr ?_
 refine zU ?_
 obtain ⟨r16,h17,h⟩:=zB h
 refine zc (qih t1 x14 _ h17) ?_
 refine zU<|zl<|zn<|zs<|zr ?_
 refine zU<|zl<|zn ?_
 obtain ⟨h18,h⟩|⟨h18,h⟩:=zI h
 refine zi<|zs<|zr ?_
 refine zU<|zl<|zn<|zq<|yr<|zt ?_
 cases h
 exact ⟨rfl,zT results8⟩
 refine zj<|zk<|yn<|zn<|zr ?_
 refine zU<|zl ?_
 cases h
 exact ⟨rfl,zE⟩
 refine zj<|zx<|ze ?_
 cases h
 exact ⟨rfl,zE⟩
 rcases o8 with ⟨⟩ | r19
 try simp only at h
 refine zA<|yh<|zn<|zs<|zr ?_
 refine zU<|zl<|zn<|zs<|zs<|zr ?_
 refine zU<|zl<|zn<|zb ?_
 obtain ⟨o20,h21,h⟩:=zB h
 refine zO (fun (s:List (List Int)×Int)=>⟨[(2,.loc 2 1 0 0),(4,.loc 4 1 0 0),(11,.own 65 1 0 s.1.length),(47,.p (.slc (vs3 qam l2))),(48,.p (.int .i64 (l2.length:Int))),(49,.p (.int .i64 s.2))],[(2,.arr 32 3 1 [.p (qab t1)]),(4,.arr 44 2 1 [.agg [.nils,.nils]]),(65,.arr 34 1 1 (vs3 AV.p (vs3 (qbh (vv8 .i64)) s.1)))]⟩) (fun (o:(List (List Int)) ⊕ (Hypergraph×Int))=>match o with | .inl o22=>tE (cX Tryz.f8 X w False hT) (.exit 2) ⟨[(2,.loc 2 1 0 0),(4,.loc 4 1 0 0),(11,.own 65 1 0 o22.length)],[(2,.arr 32 3 1 [.p (qab t1)]),(4,.arr 44 2 1 [.agg [.nils,.nils]]),(65,.arr 34 1 1 (vs3 AV.p (vs3 (qbh (vv8 .i64)) o22)))]⟩ | .inr o23=>tR Tryz.prog Tryz.f8 (.tup [(qbr o23.1),(.int .i64 o23.2)])) h21 ?_ ?_
 clear h h5 h6 h7 h9 h21
 intro s x h
 obtain ⟨a24,t25⟩:=s
 simp only [qfj] at h
 dsimp only
 refine zs<|zr ?_
 refine zU<|zl<|zn<|zs ?_
 obtain ⟨h26,h⟩|⟨h26,h⟩:=zI h
 refine zi<|zk<|zn<|zs<|zb<|zs<|zr ?_
 obtain ⟨x27,h28,h28a,h28b,h⟩:=zX h
 refine zU<|zl<|zn<|zs<|zr ?_
 refine zU ?_
 obtain ⟨r29,h30,h⟩:=zB h
 refine zc (qmm t1 x27 _ h30) ?_
 refine zU<|zl<|zn<|zs<|zs<|zr ?_
 refine zU<|zl<|zn ?_
 obtain ⟨h31,h⟩|⟨h31,h⟩:=zI h
 refine zi<|zs<|zr ?_
 refine zU<|zl<|zn<|zq<|zt<|yr<|zt ?_
 cases h
 exact ⟨rfl,zT results8⟩
 refine zj<|zk<|zn<|zr ?_
 obtain ⟨h32,h⟩:=qaf h
 refine zU<|zl<|yn<|zn<|zr ?_
 refine zU<|zl ?_
 cases h
 exact ⟨rfl,zE⟩
 refine zj<|zx<|ze ?_
 cases h
 exact ⟨rfl,zE⟩
 rcases o20 with a33 | r34
 try simp only at h
 refine zA<|yh<|zn<|zs<|zr ?_
 refine zU ?_
 refine zM ⟨[(2,.loc 2 1 0 0),(4,.loc 4 1 0 0),(67,.p (.slc (vs3 (qbh (vv8 .i64)) a33)))],[(2,.arr 32 3 1 [.p (qab t1)]),(4,.arr 44 2 1 [.agg [.nils,.nils]])]⟩ ?_
 obtain ⟨r35,h36,h⟩:=zB h
 refine zc (qoi a33 _ h36) ?_
 refine zU<|zl<|zn<|zs<|zs<|zr ?_
 refine zU<|zl<|zn<|zb ?_
 obtain ⟨h37,h38,h⟩:=zB h
 refine zO (fun (s:List Int×Int)=>⟨[(4,.loc 4 1 0 0),(16,.loc 16 1 0 0),(71,.p (.slc (vs3 qai t1.Rows))),(72,.p (.int .i64 (t1.Rows.length:Int))),(73,.p (.int .i64 s.2))],[(4,.arr 44 2 1 [.agg [.nils,.nils]]),(16,.arr 44 2 1 [.agg [.own 82 1 0 s.1.length,.p (.slc (vs3 (qbh (vv8 .i64)) r35))]]),(82,.arr 2 1 1 (vs3 AV.p (vs3 (vv8 .i64) s.1)))]⟩) (fun (o39:List Int)=>tE (cX Tryz.f8 X w False hT) (.exit 4) ⟨[(4,.loc 4 1 0 0),(16,.loc 16 1 0 0)],[(4,.arr 44 2 1 [.agg [.nils,.nils]]),(16,.arr 44 2 1 [.agg [.own 82 1 0 o39.length,.p (.slc (vs3 (qbh (vv8 .i64)) r35))]]),(82,.arr 2 1 1 (vs3 AV.p (vs3 (vv8 .i64) o39)))]⟩) h38 ?_ ?_
 clear h h5 h6 h7 h9 h21 h36 h38
 intro s x h
 obtain ⟨h40,t41⟩:=s
 simp only [qfk] at h
 dsimp only
 refine zs<|zr ?_
 refine zU<|zl<|zn<|zs ?_
 obtain ⟨h42,h⟩|⟨h42,h⟩:=zI h
 refine zi<|zk<|zn<|zs<|zb<|zs<|zr ?_
 obtain ⟨x43,h44,h44a,h44b,h⟩:=zX h
 refine zU<|zl<|zn<|zr ?_
 obtain ⟨h45,h⟩:=qaf h
 refine zU<|zl<|yn<|zn<|zr ?_
 refine zU<|zl ?_
 cases h
 exact ⟨rfl,zE⟩
 refine zj<|zx<|ze ?_
 cases h
 exact ⟨rfl,zE⟩
 try simp only at h
 refine zA<|yh<|zn<|zs<|zs<|zr ?_
 refine zU<|zl<|zn ?_
 obtain ⟨h46,h⟩|⟨h46,h⟩:=zI h
 refine zi<|zs<|zr ?_
 refine zU<|zl<|zn<|zq<|zt ?_
 cases h
 exact zT results8
 refine zj<|zk<|zn<|zs<|zr ?_
 refine zU<|zl<|zn<|zq ?_
 cases h
 exact zT results8
 try simp only at h
 refine zZ fun s hq=>?_
 refine yr<|zt ?_
 cases h
 exact hq
 try simp only at h
 refine zZ fun s hq=>?_
 refine yr<|zt ?_
 cases h
 exact hq
theorem qpg {D:Prop} (r1:Row) (c2:Int) (r3:Bool) (h:qgt r1 c2=some r3):Con D Tryz.prog 141 [(qai r1),.imm [.int .i64 c2]] (.bool r3):=by
 refine zP call141 func141 rfl ntmps141 fun X w hT=>?_
 simp only [qgt] at h
 refine zs<|zr ?_
 refine zU<|zl<|zn<|zs<|zr ?_
 refine zU<|zl<|zn<|zq ?_
 cases h
 exact zT results141
theorem qrs {D:Prop} (t1:Table) (d2:List Int) (r3:List Int×Int) (h:qie t1 d2=some r3):Con D Tryz.prog 71 [(qab t1),(.slc (vs3 (vv8 .i64) d2))] (.tup [(.slc (vs3 (vv8 .i64) r3.1)),(.int .i64 r3.2)]):=by
 refine zP call71 func71 rfl ntmps71 fun X w hT=>?_
 simp only [qie] at h
 refine zs<|zr ?_
 refine zU<|zl<|zn<|zs<|zs<|zr ?_
 refine zU<|zl<|zn<|zb ?_
 obtain ⟨o4,h5,h⟩:=zB h
 refine zO (fun (s:Int)=>⟨[(1,.p (.slc (vs3 (vv8 .i64) d2))),(2,.loc 2 1 0 0),(6,.p (.int .i64 s))],[(2,.arr 32 3 1 [.p (qab t1)])]⟩) (fun (o:(Unit) ⊕ (List Int×Int))=>match o with | .inl o6=>tE (cX Tryz.f71 X w D hT) (.exit 0) ⟨[(1,.p (.slc (vs3 (vv8 .i64) d2))),(2,.loc 2 1 0 0)],[(2,.arr 32 3 1 [.p (qab t1)])]⟩ | .inr o7=>tR Tryz.prog Tryz.f71 (.tup [(.slc (vs3 (vv8 .i64) o7.1)),(.int .i64 o7.2)])) h5 ?_ ?_
 clear h h5
 intro i8 x h
 simp only [qdu] at h
 refine zs<|zs<|zr ?_
 refine zU<|zl<|zn ?_
 obtain ⟨h9,h⟩|⟨h9,h⟩:=zI h
 refine zi<|zk<|zn<|zs<|zb<|zs<|zd ?_
 obtain ⟨x10,h11,h11a,h11b,h⟩:=zX h
 obtain ⟨x12,h13,h13a,h13b,h⟩:=zX h
 refine yU ?_
 refine yd<|zn ?_
 obtain ⟨h14,h⟩|⟨h14,h⟩:=zI h
 refine zi<|zs<|zr ?_
 refine zU<|zl<|zn<|zq<|yr<|zt ?_
 cases h
 exact ⟨rfl,zT results71⟩
 refine zj<|zk<|yn<|zn<|zr ?_
 refine zU<|zl ?_
 cases h
 exact ⟨rfl,zE⟩
 refine zj<|zx<|ze ?_
 cases h
 exact ⟨rfl,zE⟩
 rcases o4 with ⟨⟩ | r15
 try simp only at h
 refine zA<|yh<|zn<|zs<|zr ?_
 refine zU<|zl<|zn<|zs<|zs<|zr ?_
 refine zU<|zl<|zn<|zb ?_
 obtain ⟨o16,h17,h⟩:=zB h
 refine zO (fun (s:List Int×Int)=>⟨[(2,.loc 2 1 0 0),(7,.own 42 1 0 s.1.length),(27,.p (.slc (vs3 (vv8 .i64) d2))),(28,.p (.int .i64 (d2.length:Int))),(29,.p (.int .i64 s.2))],[(2,.arr 32 3 1 [.p (qab t1)]),(42,.arr 3 1 1 (vs3 AV.p (vs3 (vv8 .i64) s.1)))]⟩) (fun (o:(List Int) ⊕ (List Int×Int))=>match o with | .inl o18=>tE (cX Tryz.f71 X w D hT) (.exit 2) ⟨[(7,.own 42 1 0 o18.length)],[(42,.arr 3 1 1 (vs3 AV.p (vs3 (vv8 .i64) o18)))]⟩ | .inr o19=>tR Tryz.prog Tryz.f71 (.tup [(.slc (vs3 (vv8 .i64) o19.1)),(.int .i64 o19.2)])) h17 ?_ ?_
 clear h h5 h17
 intro s x h
 obtain ⟨o20,t21⟩:=s
 simp only [qf7] at h
 dsimp only
 refine zs<|zr ?_
 refine zU<|zl<|zn<|zs ?_
 obtain ⟨h22,h⟩|⟨h22,h⟩:=zI h
 refine zi<|zk<|zn<|zs<|zb<|zs<|zr ?_
 obtain ⟨x23,h24,h24a,h24b,h⟩:=zX h
 refine zU<|zl<|zn<|zs<|zr ?_
 refine zU ?_
 obtain ⟨r25,h26,h⟩:=zB h
 refine zc (qhw t1.Rows (fun (y27:Row)=>qgt y27 x23) 141 [.imm [.int .i64 x23]] (fun y27 r h=>qpg y27 x23 r h) _ h26) ?_
 refine zU<|zl<|zn<|zs<|zs<|zr ?_
 refine zU<|zl<|zn ?_
 obtain ⟨h28,h⟩|⟨h28,h⟩:=zI h
 refine zi<|zs<|zr ?_
 refine zU<|zl<|zn<|zq<|zt<|yr<|zt ?_
 cases h
 exact ⟨rfl,zT results71⟩
 refine zj<|zk<|zn<|zr ?_
 obtain ⟨h29,h⟩:=qaf h
 refine zU<|zl<|yn<|zn<|zr ?_
 refine zU<|zl ?_
 cases h
 exact ⟨rfl,zE⟩
 refine zj<|zx<|ze ?_
 cases h
 exact ⟨rfl,zE⟩
 rcases o16 with o30 | r31
 try simp only at h
 refine zA<|yh<|zn<|zs<|zr ?_
 refine zU<|zl<|zn<|zq ?_
 cases h
 exact zT results71
 try simp only at h
 refine zZ fun s hq=>?_
 refine yr<|zt ?_
 cases h
 exact hq
 try simp only at h
 refine zZ fun s hq=>?_
 refine yr<|zt ?_
 cases h
 exact hq
theorem qmv (t1:Table) (l2:List Constraint) (d3:List Int) (r4:Hypergraph×Int) (h:qht t1 l2 d3=some r4):Con False Tryz.prog 25 [(qab t1),(.slc (vs3 qam l2)),(.slc (vs3 (vv8 .i64) d3))] (.tup [(qbr r4.1),(.int .i64 r4.2)]):=by
 refine zP call25 func25 rfl ntmps25 fun X w hT=>?_
 simp only [qht] at h
 refine zs<|zr ?_
 refine zU<|zl<|zn<|zs<|zr ?_
 refine zU ?_
 obtain ⟨r5,h6,h⟩:=zB h
 refine zc (qk6 t1 l2 _ h6) ?_
 refine zU<|zl<|zn<|zs<|zs<|zr ?_
 refine zU<|zl<|zn ?_
 obtain ⟨h7,h⟩|⟨h7,h⟩:=zI h
 refine zi<|zs<|zr ?_
 refine zU<|zl<|zn<|zq<|zt ?_
 cases h
 exact zT results25
 refine zj<|zk<|zn<|zs<|zr ?_
 refine zU ?_
 obtain ⟨r8,h9,h⟩:=zB h
 refine zc (qrs t1 d3 _ h9) ?_
 refine zU<|zl<|zn<|zs<|zr ?_
 refine zU<|zl<|zn<|zq ?_
 cases h
 exact zT results25
theorem qke {D:Prop} (s1:List (List Int)) (f2:(List Int)→Option (Bool)) (f2_k:FuncId) (f2_cs:List PV) (f2_h:∀(y3:List Int) (r4:Bool),f2 y3=some r4→Con D Tryz.prog f2_k ((.slc (vs3 (vv8 .i64) y3)) :: f2_cs) (.bool r4)) (r5:Int) (h:qcu s1 f2=some r5):Con D Tryz.prog 82 [(.slc (vs3 (qbh (vv8 .i64)) s1)),.func (.func f2_k) f2_cs] (.int .i64 r5):=by
 refine zP call82 func82 rfl ntmps82 fun X w hT=>?_
 simp only [qcu] at h
 refine zs<|zr ?_
 refine zU<|zl<|zn<|zs<|zs<|zr ?_
 refine zU<|zl<|zn<|zb ?_
 obtain ⟨o6,h7,h⟩:=zB h
 refine zO (fun (s:Int)=>⟨[(0,.p (.slc (vs3 (qbh (vv8 .i64)) s1))),(1,.p (.func (.func f2_k) f2_cs)),(7,.p (.int .i64 (s1.length:Int))),(8,.p (.int .i64 s))],[]⟩) (fun (o:(Unit) ⊕ (Int))=>match o with | .inl o8=>tE (cX Tryz.f82 X w D hT) (.exit 0) ⟨[],[]⟩ | .inr o9=>tR Tryz.prog Tryz.f82 (.int .i64 o9)) h7 ?_ ?_
 clear h h7
 intro t10 x h
 simp only [qbf] at h
 refine zs<|zr ?_
 refine zU<|zl<|zn<|zs ?_
 obtain ⟨h11,h⟩|⟨h11,h⟩:=zI h
 refine zi<|zk<|zn<|zs<|zb<|zs<|zr ?_
 refine zU<|zl<|zn<|zs<|zr ?_
 obtain ⟨x12,h13,h13a,h13b,h⟩:=zX h
 refine zU ?_
 obtain ⟨r14,h15,h⟩:=zB h
 refine zc (f2_h x12 _ h15) ?_
 refine zl<|zn ?_
 obtain ⟨h16,h⟩|⟨h16,h⟩:=zI h
 refine zi<|zs<|zr ?_
 refine zU<|zl<|zn<|zq<|yr<|zt ?_
 cases h
 exact ⟨rfl,zT results82⟩
 refine zj<|zk<|yn<|zn<|zr ?_
 refine zU<|zl ?_
 cases h
 exact ⟨rfl,zE⟩
 refine zj<|zx<|ze ?_
 cases h
 exact ⟨rfl,zE⟩
 rcases o6 with ⟨⟩ | r17
 try simp only at h
 refine zA<|yh<|zn<|zs<|zr ?_
 refine zU<|zl<|zn<|zq ?_
 cases h
 exact zT results82
 try simp only at h
 refine zZ fun s hq=>?_
 refine yr<|zt ?_
 cases h
 exact hq
theorem qfr {D:Prop} (s1:List (List Int)) (f2:(List Int)→Option (Bool)) (f2_k:FuncId) (f2_cs:List PV) (f2_h:∀(y3:List Int) (r4:Bool),f2 y3=some r4→Con D Tryz.prog f2_k ((.slc (vs3 (vv8 .i64) y3)) :: f2_cs) (.bool r4)) (r5:Bool) (h:qbg s1 f2=some r5):Con D Tryz.prog 35 [(.slc (vs3 (qbh (vv8 .i64)) s1)),.func (.func f2_k) f2_cs] (.bool r5):=by
 refine zP call35 func35 rfl ntmps35 fun X w hT=>?_
 simp only [qbg] at h
 refine zs<|zr ?_
 refine zU<|zl<|zn<|zs<|zr ?_
 refine zU ?_
 obtain ⟨r6,h7,h⟩:=zB h
 refine zc (qke s1 f2 f2_k f2_cs f2_h _ h7) ?_
 refine zU<|zl<|zn<|zq ?_
 cases h
 exact zT results35
theorem qg7 {D:Prop} (s1:List Int) (f2:Int→Option (Bool)) (f2_k:FuncId) (f2_cs:List PV) (f2_h:∀(y3:Int) (r4:Bool),f2 y3=some r4→Con D Tryz.prog f2_k ((.int .i64 y3) :: f2_cs) (.bool r4)) (r5:Int) (h:qca s1 f2=some r5):Con D Tryz.prog 75 [(.slc (vs3 (vv8 .i64) s1)),.func (.func f2_k) f2_cs] (.int .i64 r5):=by
 refine zP call75 func75 rfl ntmps75 fun X w hT=>?_
 simp only [qca] at h
 refine zs<|zr ?_
 refine zU<|zl<|zn<|zs<|zs<|zr ?_
 refine zU<|zl<|zn<|zb ?_
 obtain ⟨o6,h7,h⟩:=zB h
 refine zO (fun (s:Int)=>⟨[(0,.p (.slc (vs3 (vv8 .i64) s1))),(1,.p (.func (.func f2_k) f2_cs)),(7,.p (.int .i64 (s1.length:Int))),(8,.p (.int .i64 s))],[]⟩) (fun (o:(Unit) ⊕ (Int))=>match o with | .inl o8=>tE (cX Tryz.f75 X w D hT) (.exit 0) ⟨[],[]⟩ | .inr o9=>tR Tryz.prog Tryz.f75 (.int .i64 o9)) h7 ?_ ?_
 clear h h7
 intro t10 x h
 simp only [qbk] at h
 refine zs<|zr ?_
 refine zU<|zl<|zn<|zs ?_
 obtain ⟨h11,h⟩|⟨h11,h⟩:=zI h
 refine zi<|zk<|zn<|zs<|zb<|zs<|zr ?_
 refine zU<|zl<|zn<|zs<|zr ?_
 obtain ⟨x12,h13,h13a,h13b,h⟩:=zX h
 refine zU ?_
 obtain ⟨r14,h15,h⟩:=zB h
 refine zc (f2_h x12 _ h15) ?_
 refine zl<|zn ?_
 obtain ⟨h16,h⟩|⟨h16,h⟩:=zI h
 refine zi<|zs<|zr ?_
 refine zU<|zl<|zn<|zq<|yr<|zt ?_
 cases h
 exact ⟨rfl,zT results75⟩
 refine zj<|zk<|yn<|zn<|zr ?_
 refine zU<|zl ?_
 cases h
 exact ⟨rfl,zE⟩
 refine zj<|zx<|ze ?_
 cases h
 exact ⟨rfl,zE⟩
 rcases o6 with ⟨⟩ | r17
 try simp only at h
 refine zA<|yh<|zn<|zs<|zr ?_
 refine zU<|zl<|zn<|zq ?_
 cases h
 exact zT results75
 try simp only at h
 refine zZ fun s hq=>?_
 refine yr<|zt ?_
 cases h
 exact hq
theorem qf9 {D:Prop} (s1:List Int) (f2:Int→Option (Bool)) (f2_k:FuncId) (f2_cs:List PV) (f2_h:∀(y3:Int) (r4:Bool),f2 y3=some r4→Con D Tryz.prog f2_k ((.int .i64 y3) :: f2_cs) (.bool r4)) (r5:Bool) (h:qbl s1 f2=some r5):Con D Tryz.prog 27 [(.slc (vs3 (vv8 .i64) s1)),.func (.func f2_k) f2_cs] (.bool r5):=by
 refine zP call27 func27 rfl ntmps27 fun X w hT=>?_
 simp only [qbl] at h
 refine zs<|zr ?_
 refine zU<|zl<|zn<|zs<|zr ?_
 refine zU ?_
 obtain ⟨r6,h7,h⟩:=zB h
 refine zc (qg7 s1 f2 f2_k f2_cs f2_h _ h7) ?_
 refine zU<|zl<|zn<|zq ?_
 cases h
 exact zT results27
theorem qm1 {D:Prop} (s1:List Int) (v2:Int) (r3:Int) (h:qe0 s1 v2=some r3):Con D Tryz.prog 142 [(.slc (vs3 (vv8 .i64) s1)),(.int .i64 v2)] (.int .i64 r3):=by
 refine zP call142 func142 rfl ntmps142 fun X w hT=>?_
 simp only [qe0] at h
 refine zs<|zr ?_
 refine zU<|zl<|zn<|zs<|zs<|zr ?_
 refine zU<|zl<|zn<|zb ?_
 obtain ⟨o4,h5,h⟩:=zB h
 refine zO (fun (s:Int)=>⟨[(0,.p (.slc (vs3 (vv8 .i64) s1))),(1,.p (.int .i64 v2)),(7,.p (.int .i64 (s1.length:Int))),(8,.p (.int .i64 s))],[]⟩) (fun (o:(Unit) ⊕ (Int))=>match o with | .inl o6=>tE (cX Tryz.f142 X w D hT) (.exit 0) ⟨[],[]⟩ | .inr o7=>tR Tryz.prog Tryz.f142 (.int .i64 o7)) h5 ?_ ?_
 clear h h5
 intro t8 x h
 simp only [qco] at h
 refine zs<|zr ?_
 refine zU<|zl<|zn<|zs ?_
 obtain ⟨h9,h⟩|⟨h9,h⟩:=zI h
 refine zi<|zk<|zn<|zs<|zb<|zs<|zr ?_
 refine zU<|zl<|zn<|zs<|zr ?_
 obtain ⟨x10,h11,h11a,h11b,h⟩:=zX h
 refine zU<|zl<|zn ?_
 obtain ⟨h12,h⟩|⟨h12,h⟩:=zI h
 refine zi<|zs<|zr ?_
 refine zU<|zl<|zn<|zq<|yr<|zt ?_
 cases h
 exact ⟨rfl,zT results142⟩
 refine zj<|zk<|yn<|zn<|zr ?_
 refine zU<|zl ?_
 cases h
 exact ⟨rfl,zE⟩
 refine zj<|zx<|ze ?_
 cases h
 exact ⟨rfl,zE⟩
 rcases o4 with ⟨⟩ | r13
 try simp only at h
 refine zA<|yh<|zn<|zs<|zr ?_
 refine zU<|zl<|zn<|zq ?_
 cases h
 exact zT results142
 try simp only at h
 refine zZ fun s hq=>?_
 refine yr<|zt ?_
 cases h
 exact hq
theorem qlj {D:Prop} (s1:List Int) (v2:Int) (r3:Bool) (h:qdp s1 v2=some r3):Con D Tryz.prog 74 [(.slc (vs3 (vv8 .i64) s1)),(.int .i64 v2)] (.bool r3):=by
 refine zP call74 func74 rfl ntmps74 fun X w hT=>?_
 simp only [qdp] at h
 refine zs<|zr ?_
 refine zU<|zl<|zn<|zs<|zr ?_
 refine zU ?_
 obtain ⟨r4,h5,h⟩:=zB h
 refine zc (qm1 s1 v2 _ h5) ?_
 refine zU<|zl<|zn<|zq ?_
 cases h
 exact zT results74
theorem qph {D:Prop} (i1:Int) (c2:List Int) (r3:Bool) (h:qfl i1 c2=some r3):Con D Tryz.prog 73 [(.int .i64 i1),.imm [.slc (vs3 (vv8 .i64) c2)]] (.bool r3):=by
 refine zP call73 func73 rfl ntmps73 fun X w hT=>?_
 simp only [qfl] at h
 refine zs<|zr ?_
 refine zU<|zl<|zn<|zs<|zr ?_
 refine zU ?_
 obtain ⟨r4,h5,h⟩:=zB h
 refine zc (qlj c2 i1 _ h5) ?_
 refine zU<|zl<|zn<|zq ?_
 cases h
 exact zT results73
theorem qrt {D:Prop} (e1:List Int) (c2:List Int) (r3:Bool) (h:qg2 e1 c2=some r3):Con D Tryz.prog 72 [(.slc (vs3 (vv8 .i64) e1)),.imm [.slc (vs3 (vv8 .i64) c2)]] (.bool r3):=by
 refine zP call72 func72 rfl ntmps72 fun X w hT=>?_
 simp only [qg2] at h
 refine zs<|zr ?_
 refine zU<|zl<|zn<|zs<|zr ?_
 refine zU ?_
 obtain ⟨r4,h5,h⟩:=zB h
 refine zc (qf9 e1 (fun (y6:Int)=>qfl y6 c2) 73 [.imm [.slc (vs3 (vv8 .i64) c2)]] (fun y6 r h=>qph y6 c2 r h) _ h5) ?_
 refine zU<|zl<|zn<|zq ?_
 cases h
 exact zT results72
theorem qij {D:Prop} (h1:Hypergraph) (d2:List Int) (r3:Bool) (h:qgu h1 d2=some r3):Con D Tryz.prog 26 [(qbr h1),(.slc (vs3 (vv8 .i64) d2))] (.bool r3):=by
 refine zP call26 func26 rfl ntmps26 fun X w hT=>?_
 simp only [qgu] at h
 refine zs<|zr ?_
 refine zU<|zl<|zn<|zs<|zr ?_
 refine zU ?_
 obtain ⟨r4,h5,h⟩:=zB h
 refine zc (qfr h1.Edges (fun (y6:List Int)=>qg2 y6 d2) 72 [.imm [.slc (vs3 (vv8 .i64) d2)]] (fun y6 r h=>qrt y6 d2 r h) _ h5) ?_
 refine zU<|zl<|zn<|zq ?_
 cases h
 exact zT results26
theorem qmw {D:Prop} (x1:Int) (c2:Int) (r3:Bool) (h:qgv x1 c2=some r3):Con D Tryz.prog 77 [(.int .i64 x1),.imm [.int .i64 c2]] (.bool r3):=by
 refine zP call77 func77 rfl ntmps77 fun X w hT=>?_
 simp only [qgv] at h
 refine zs<|zr ?_
 refine zU<|zl<|zn<|zs<|zr ?_
 refine zU<|zl<|zn<|zq ?_
 cases h
 exact zT results77
theorem qou {D:Prop} (l1:List Int) (i2:Int) (r3:List Int) (h:qjv l1 i2=some r3):Con D Tryz.prog 29 [(.slc (vs3 (vv8 .i64) l1)),(.int .i64 i2)] (.slc (vs3 (vv8 .i64) r3)):=by
 refine zP call29 func29 rfl ntmps29 fun X w hT=>?_
 simp only [qjv] at h
 refine zs<|zr ?_
 refine zU<|zl<|zn<|zs<|zr ?_
 refine zU ?_
 obtain ⟨h4,h⟩:=qaf h
 refine zM ⟨[(3,.loc 3 1 0 0),(5,.p (.slc (vs3 (vv8 .i64) l1)))],[(3,.arr 2 1 1 [.p (.int .i64 i2)])]⟩ ?_
 refine qgn (avs:=[.p (.slc (vs3 (vv8 .i64) l1))]) 9 rfl (qbe rfl) rfl func32 rfl call32 ntmps32 (by simp) (by simp only [go_sem,seval,h4];all_goals rfl) ?_
 intro i5 w6 h7
 refine qxn (T:=fun e s'=>(e=.normal∨e=.ret)∧Le ⟨Tryz.prog,8,9,X,[(3,.arr 2 1 1 [.p (.int .i64 i2)])],i5,w6,D,h7⟩ s' ⟨[(2,.own 14 1 0 l1.length)],[(3,.arr 2 1 1 [.p (.int .i64 i2)]),(14,.arr 2 1 1 (vs3 AV.p (vs3 (vv8 .i64) l1)))]⟩) ?_ ?_
 show AWp _ _ _ ⟨[(0,.p (.slc (vs3 (vv8 .i64) l1)))],[(3,.arr 2 1 1 [.p (.int .i64 i2)])]⟩
 refine zs<|zr ?_
 refine zU<|zl<|zn<|zs<|zs<|zr ?_
 refine zW 1 ?_
 refine q3i (by simp only [go_sem,seval,h4];exact rfl) (by simp only [go_sem,seval,h4]) underlying34 rfl ?_
 intro b hb
 refine zl<|zn ?_
 cases b
 refine zj<|zk<|zn<|zs<|zr ?_
 refine zU<|zl<|zn<|zq ?_
 refine ⟨.inr rfl,?_⟩
 exact zV
 refine zi ?_
 have h8:l1=[]:=by
   rcases hz:l1 with _ | ⟨x,z⟩
   · rfl
   · rw [hz] at hb;exact absurd (hb (by simp)) (by simp)
 refine zs<|zr ?_
 refine zU<|zl<|zn<|zq<|zt ?_
 refine ⟨.inr rfl,?_⟩
 exact zV
 intro e s' hT
 obtain ⟨he,hle⟩:=hT
 refine Wk.to hle ?_
 refine vbw he (by simp only [results32];simp only [go_sem,seval,h4];exact rfl) ?_
 clear hle he
 refine zU ?_
 refine zM ⟨[(6,.own 14 1 0 l1.length),(7,.func (.func 77) [.loc 3 1 0 0])],[(3,.arr 2 1 1 [.p (.int .i64 i2)]),(14,.arr 2 1 1 (vs3 AV.p (vs3 (vv8 .i64) l1)))]⟩ ?_
 refine qgn (avs:=[.own 14 1 0 l1.length,.func (.func 77) [.loc 3 1 0 0]]) 17 rfl (qbe rfl) rfl func76 rfl call76 ntmps76 (by simp) (by simp only [go_sem,seval,h4];all_goals rfl) ?_
 intro i9 w10 h11
 show AWp _ _ _ ⟨[(0,.own 14 1 0 l1.length),(1,.func (.func 77) [.loc 3 1 0 0])],[(3,.arr 2 1 1 [.p (.int .i64 i2)]),(14,.arr 2 1 1 (vs3 AV.p (vs3 (vv8 .i64) l1)))]⟩
 refine zs<|zr ?_
 refine zU<|zl<|zn<|zs<|zr ?_
 refine zU ?_
 obtain ⟨r12,h13,h⟩:=zB h
 refine zc (qg7 l1 (fun (y14:Int)=>qgv y14 i2) 77 [.imm [.int .i64 i2]] (fun y14 r h=>qmw y14 i2 r h) _ h13) ?_
 refine zU<|zl<|zn<|zs<|zs<|zr ?_
 refine zU<|zl<|zn ?_
 obtain ⟨h15,h⟩|⟨h15,h⟩:=zI h
 refine zi<|zs<|zr ?_
 refine zU<|zl<|zn<|zq<|zt ?_
 refine qbb (by simp only [results76];simp only [go_sem,seval,h4,h15];exact rfl) ?_
 refine zU<|zl<|zn<|zq ?_
 cases h
 exact zT results29
 have h15F:=Bool.eq_false_iff.2 h15
 refine zj<|zk<|zn<|zs<|zs<|zr ?_
 refine zU<|zl<|zn<|zb ?_
 obtain ⟨o16,h17,h⟩:=zB h
 refine zO (fun (s:List Int×Int×Int)=>⟨[(0,.own 14 1 0 s.1.length),(1,.func (.func 77) [.loc 3 1 0 0]),(5,.p (.int .i64 s.2.1)),(6,.p (.int .i64 s.2.2))],[(3,.arr 2 1 1 [.p (.int .i64 i2)]),(14,.arr 2 1 1 (vs3 AV.p (vs3 (vv8 .i64) s.1)))]⟩) (fun (o18:List Int×Int)=>tE ⟨Tryz.prog,42,17,X,[(3,.arr 2 1 1 [.p (.int .i64 i2)]),(14,.arr 2 1 1 (vs3 AV.p (vs3 (vv8 .i64) l1)))],i9,w10,D,h11⟩ (.exit 0) ⟨[(0,.own 14 1 0 o18.1.length),(5,.p (.int .i64 o18.2))],[(3,.arr 2 1 1 [.p (.int .i64 i2)]),(14,.arr 2 1 1 (vs3 AV.p (vs3 (vv8 .i64) o18.1)))]⟩) h17 ?_ ?_
 clear h h4 h13 h15 h15F h17
 intro s x h
 obtain ⟨s19,i20,j21⟩:=s
 simp only [qif] at h
 dsimp only
 refine zs<|zs<|zr ?_
 refine zU<|zl<|zn ?_
 obtain ⟨h22,h⟩|⟨h22,h⟩:=zI h
 refine zi<|zk<|zn<|zs<|zb<|zs<|zr ?_
 obtain ⟨x23,h24,h24a,h24b,h⟩:=zX h
 refine zU<|zl<|zn<|zs<|zr ?_
 refine zU ?_
 obtain ⟨r25,h26,h⟩:=zB h
 refine zc (qmw x23 i2 _ h26) ?_
 refine zU<|zl<|zn ?_
 obtain ⟨h27,h⟩|⟨h27,h⟩:=zI h
 refine zj<|zk<|yn<|zn<|zr ?_
 refine zU<|zl ?_
 cases h
 exact ⟨rfl,zE⟩
 refine zi<|zs<|zr ?_
 obtain ⟨x28,h29,h29a,h29b,h⟩:=zX h
 refine zU<|zl<|zn<|zr ?_
 refine zU<|zl<|yn<|zn<|zr ?_
 refine zU<|zl ?_
 cases h
 exact ⟨rfl,zE⟩
 refine zj<|zx<|ze ?_
 cases h
 exact ⟨rfl,zE⟩
 obtain ⟨s30,i31⟩:=o16
 try simp only at h
 refine zA<|yh<|zn<|zs<|zr ?_
 obtain ⟨h32,h⟩:=qaf h
 obtain ⟨h33,h⟩:=qaf h
 refine zW 3 ?_
 refine zCl (vv8 .i64) s30 0 14 i31.toNat (s30.length - i31.toNat) (by simp only [vqq,vql,vqp] at *;omega) ?_
 refine zl<|zn<|zs<|zr ?_
 obtain ⟨h34,h⟩:=qaf h
 obtain ⟨h35,h⟩:=qaf h
 refine zU<|zl<|zn ?_
 refine zL ⟨[(4,.own 14 1 0 i31.toNat)],[(3,.arr 2 1 1 [.p (.int .i64 i2)]),(14,.arr 2 1 1 (vs3 AV.p (vs3 (vv8 .i64) (((s30.take i31.toNat)++(vq5 (s30.length - i31.toNat) 0))++(s30.drop (i31.toNat+(s30.length - i31.toNat)))))))]⟩ ?_
 obtain ⟨l36,h37,h⟩:=zB h
 replace h37:=vtu h37
 rw [h37]
 obtain ⟨h38,h⟩:=qaf h
 obtain ⟨l39,h40,h⟩:=zB h
 replace h40:=vtu h40
 have h40L:l39.length=i31.toNat:=by rw [←h40];exact vwa h38
 refine qwc 4 14 1 i31.toNat 2 1 (es':=vs3 AV.p (vs3 (vv8 .i64) l39)) (by exact rfl) (by exact rfl) (by rw [←vs7,←vs7,h40]) rfl ?_
 refine zL ⟨[(4,.own 14 2 0 l39.length)],[(3,.arr 2 1 1 [.p (.int .i64 i2)]),(14,.arr 2 1 2 (vs3 AV.p (vs3 (vv8 .i64) l39)))]⟩ ?_
 clear h40L h38
 refine zq ?_
 refine qbb (by simp only [results76];simp only [go_sem,seval,h4,h15F];exact rfl) ?_
 refine zU<|zl<|zn<|zq ?_
 cases h
 exact zT results29
theorem qoj {D:Prop} (i1:Int) (c2:Hypergraph) (c3:List Int) (r4:Bool) (h:qeo i1 c2 c3=some r4):Con D Tryz.prog 28 [(.int .i64 i1),.imm [.slc (vs3 (vv8 .i64) c2.Vertices),.slc (vs3 (qbh (vv8 .i64)) c2.Edges)],.imm [.slc (vs3 (vv8 .i64) c3)]] (.bool r4):=by
 refine zP call28 func28 rfl ntmps28 fun X w hT=>?_
 simp only [qeo] at h
 refine zs<|zr ?_
 refine zU<|zl<|zn<|zs<|zd ?_
 refine yU ?_
 obtain ⟨r5,h6,h⟩:=zB h
 refine yc (qou c3 i1 _ h6) ?_
 obtain ⟨r7,h8,h⟩:=zB h
 refine yc (qij c2 r5 _ h8) ?_
 refine yU ?_
 refine yd<|zn<|zq ?_
 cases h
 exact zT results28
theorem qk7 (t1:Table) (l2:List Constraint) (d3:List Int) (r4:Bool×Int) (h:qgf t1 l2 d3=some r4):Con False Tryz.prog 9 [(qab t1),(.slc (vs3 qam l2)),(.slc (vs3 (vv8 .i64) d3))] (.tup [(.bool r4.1),(.int .i64 r4.2)]):=by
 refine zP call9 func9 rfl ntmps9 fun X w hT=>?_
 simp only [qgf] at h
 refine zs<|zr ?_
 refine zU<|zl<|zn<|zs<|zr ?_
 refine zU ?_
 obtain ⟨r5,h6,h⟩:=zB h
 refine zc (qmv t1 l2 d3 _ h6) ?_
 refine zU<|zl<|zn<|zs<|zs<|zr ?_
 refine zU ?_
 obtain ⟨h7,h⟩|⟨h7,h⟩:=zI h
 refine zw 19 true ?_
 refine zh ?_
 refine zU<|zl<|zn ?_
 refine zi<|zs<|zr ?_
 refine zU<|zl<|zn<|zq<|zt ?_
 cases h
 exact zT results9
 refine zw 19 false ?_
 refine zg ?_
 refine zg ?_
 obtain ⟨r8,h9,h⟩:=zB h
 refine zc (qij r5.1 d3 _ h9) ?_
 refine zg ?_
 refine zU<|zl<|zn ?_
 obtain ⟨h10,h⟩|⟨h10,h⟩:=zI h
 refine zj<|zk<|zn<|zs<|zr ?_
 refine zU ?_
 obtain ⟨r11,h12,h⟩:=zB h
 refine zc (qf9 d3 (fun (y13:Int)=>qeo y13 r5.1 d3) 28 [.imm [.slc (vs3 (vv8 .i64) r5.1.Vertices),.slc (vs3 (qbh (vv8 .i64)) r5.1.Edges)],.imm [.slc (vs3 (vv8 .i64) d3)]] (fun y13 r h=>qoj y13 r5.1 d3 r h) _ h12) ?_
 refine zU<|zl<|zn<|zq ?_
 cases h
 exact zT results9
 refine zi<|zs<|zr ?_
 refine zU<|zl<|zn<|zq<|zt ?_
 cases h
 exact zT results9
end Go.Proofs.YtfnmcjkkfnhpnaaGreatDoor
namespace Go.Proofs
open Go Go.Ab Go.Shelf Tryz
def YtfnmcjkkfnhpnaaGreatDoor.ins31_ren:Go.Shelf.Ren:=⟨fun | 22=>31 | 29=>80 | 30=>81 | n=>n,fun | 24=>34 | 9=>2 | 3=>3 | 4=>4 | 0=>0 | n=>n,fun | n=>n⟩
theorem YtfnmcjkkfnhpnaaGreatDoor.ins31_lay:InsLay Tryz.prog YtfnmcjkkfnhpnaaGreatDoor.ins31_ren:={
  mixed:=by kernel_rfl
  fi:=⟨Tryz.f31.name,func31.trans (congrArg some (by kernel_rfl))⟩
  fo:=fun args w=>by
    show (callFunc 80 args).run Tryz.prog w=_;rw [run_callFunc_extern func80 (by kernel_rfl) (by kernel_rfl) (by kernel_rfl) (e:=Extern.SlicesOverlaps.overlaps #[34,34] #[4]) (by kernel_rfl)];rfl
  t0:=underlying0
  a0:=isAgg0
  z0:=sizeOf0
  v0:=zeroValue0
  t3:=underlying3
  a3:=isAgg3
  z3:=sizeOf3
  v3:=zeroValue3
  t4:=underlying4
  a4:=isAgg4
  z4:=sizeOf4
  v4:=zeroValue4
  t24:=underlying34
  a24:=isAgg34
  z24:=sizeOf34
  v24:=zeroValue34
  z9:=sizeOf2
  i9:=⟨Tryz.t2,.int .i64 0,by kernel_rfl,rfl,rfl,by decide,rfl⟩ }
theorem YtfnmcjkkfnhpnaaGreatDoor.ins31:InsK Tryz.prog 31 2:=⟨⟨YtfnmcjkkfnhpnaaGreatDoor.ins31_ren,YtfnmcjkkfnhpnaaGreatDoor.ins31_lay,rfl,rfl⟩,call31,by kernel_rfl,by kernel_rfl,by kernel_rfl,by kernel_rfl⟩
end Go.Proofs
namespace Go.Proofs.YtfnmcjkkfnhpnaaGreatDoor
open Go Go.Ab Tryz
theorem qm2 {D:Prop} (l1:List Int) (r2:Bool) (h:qe1 l1=some r2):Con D Tryz.prog 33 [(.slc (vs3 (vv8 .i64) l1))] (.bool r2):=by
 refine zP call33 func33 rfl ntmps33 fun X w hT=>?_
 simp only [qe1] at h
 refine zs<|zr ?_
 refine zU<|zl<|zn<|zs<|zs<|zr ?_
 refine zU<|zl<|zn<|zb ?_
 obtain ⟨o3,h4,h⟩:=zB h
 refine zO (fun (s:Int)=>⟨[(0,.p (.slc (vs3 (vv8 .i64) l1))),(3,.p (.int .i64 s))],[]⟩) (fun (o:(Unit) ⊕ (Bool))=>match o with | .inl o5=>tE (cX Tryz.f33 X w D hT) (.exit 0) ⟨[],[]⟩ | .inr o6=>tR Tryz.prog Tryz.f33 (.bool o6)) h4 ?_ ?_
 clear h h4
 intro i7 x h
 simp only [qbx] at h
 refine zs<|zs<|zr ?_
 refine zU<|zl<|zn ?_
 obtain ⟨h8,h⟩|⟨h8,h⟩:=zI h
 refine zi<|zk<|zn<|zs<|zb<|zs<|zd ?_
 obtain ⟨x9,h10,h10a,h10b,h⟩:=zX h
 obtain ⟨x11,h12,h12a,h12b,h⟩:=zX h
 refine yU ?_
 refine yd<|zn ?_
 obtain ⟨h13,h⟩|⟨h13,h⟩:=zI h
 refine zi<|zs<|zr ?_
 refine zU<|zl<|zn<|zq<|yr<|zt ?_
 cases h
 exact ⟨rfl,zT results33⟩
 refine zj<|zk<|yn<|zn<|zr ?_
 refine zU<|zl ?_
 cases h
 exact ⟨rfl,zE⟩
 refine zj<|zx<|ze ?_
 cases h
 exact ⟨rfl,zE⟩
 rcases o3 with ⟨⟩ | r14
 try simp only at h
 refine zA<|yh<|zn<|zs<|zr ?_
 refine zU<|zl<|zn<|zq ?_
 cases h
 exact zT results33
 try simp only at h
 refine zZ fun s hq=>?_
 refine yr<|zt ?_
 cases h
 exact hq
theorem qqr {D:Prop} (x1:Int) (y2:Int) (r3:Bool) (h:qhf x1 y2=some r3):Con D Tryz.prog 78 [(.int .i64 x1),(.int .i64 y2)] (.bool r3):=by
 refine zP call78 func78 rfl ntmps78 fun X w hT=>?_
 simp only [qhf] at h
 refine zs<|zr ?_
 refine zU<|zl<|zn<|zs<|zr ?_
 refine zU ?_
 obtain ⟨r4,h5,h⟩:=zB h
 refine zc (qfy x1 _ h5) ?_
 refine zU ?_
 obtain ⟨h6,h⟩|⟨h6,h⟩:=zI h
 refine zw 7 true ?_
 refine zg ?_
 obtain ⟨r7,h8,h⟩:=zB h
 refine zc (qfy y2 _ h8) ?_
 refine zg ?_
 refine zU ?_
 obtain ⟨h9,h⟩|⟨h9,h⟩:=zI h
 replace h:=h.symm
 refine zw 12 false ?_
 refine zg ?_
 refine zg ?_
 refine zg ?_
 refine zU<|zl<|zn<|zq ?_
 cases h
 exact zT results78
 refine zw 12 true ?_
 refine zh ?_
 refine zU<|zl<|zn<|zq ?_
 cases h
 exact zT results78
 replace h:=h.symm
 refine zw 7 false ?_
 refine zh ?_
 refine zU ?_
 refine zg ?_
 refine zg ?_
 refine zg ?_
 refine zU<|zl<|zn<|zq ?_
 cases h
 exact zT results78
theorem qio {D:Prop} (x1:Int) (r2:Bool) (h:qds x1=some r2):Con D Tryz.prog 79 [(.int .i64 x1)] (.bool r2):=by
 refine zP call79 func79 rfl ntmps79 fun X w hT=>?_
 simp only [qds] at h
 refine zs<|zr ?_
 refine zU<|zl<|zn<|zs<|zr ?_
 refine zU<|zl<|zn<|zq ?_
 cases h
 exact zT results79
theorem qga {D:Prop} (x1:List Int) (t2:Int) (r3:Int×Bool) (h:qav x1 t2=some r3):Con D Tryz.prog 30 [(.slc (vs3 (vv8 .i64) x1)),(.int .i64 t2)] (.tup [(.int .i64 r3.1),(.bool r3.2)]):=by
 refine zP call30 func30 rfl ntmps30 fun X w hT=>?_
 simp only [qav] at h
 refine zs<|zr ?_
 refine zU<|zl<|zn<|zs<|zr ?_
 refine zU<|zl<|zn<|zs<|zr ?_
 refine zU<|zl<|zn<|zs<|zb ?_
 obtain ⟨i4,h5,h⟩:=zB h
 refine zO (fun (s:Int×Int)=>⟨[(0,.p (.slc (vs3 (vv8 .i64) x1))),(1,.p (.int .i64 t2)),(6,.p (.int .i64 (x1.length:Int))),(7,.p (.int .i64 s.1)),(8,.p (.int .i64 s.2))],[]⟩) (fun (o6:Int)=>tE (cX Tryz.f30 X w D hT) (.exit 0) ⟨[(0,.p (.slc (vs3 (vv8 .i64) x1))),(1,.p (.int .i64 t2)),(6,.p (.int .i64 (x1.length:Int))),(7,.p (.int .i64 o6))],[]⟩) h5 ?_ ?_
 clear h h5
 intro s x h
 obtain ⟨i7,j8⟩:=s
 simp only [qar] at h
 dsimp only
 refine zs<|zs<|zr ?_
 refine zU<|zl<|zn ?_
 obtain ⟨h9,h⟩|⟨h9,h⟩:=zI h
 refine zi<|zk<|zn<|zb<|zs<|zr ?_
 refine zU<|zl<|zn<|zs<|zr ?_
 obtain ⟨x10,h11,h11a,h11b,h⟩:=zX h
 refine zU ?_
 obtain ⟨r12,h13,h⟩:=zB h
 refine zc (qqr x10 t2 _ h13) ?_
 refine zl<|zn ?_
 obtain ⟨h14,h⟩|⟨h14,h⟩:=zI h
 refine zi<|zr ?_
 refine zU<|zl<|yn ?_
 cases h
 exact ⟨rfl,zE⟩
 refine zj<|zr ?_
 refine zU<|zl<|yn ?_
 cases h
 exact ⟨rfl,zE⟩
 refine zj<|zx<|ze ?_
 cases h
 exact ⟨rfl,zE⟩
 try simp only at h
 refine zA<|yh<|zn<|zs<|zr ?_
 refine zU ?_
 obtain ⟨h15,h⟩|⟨h15,h⟩:=zI h
 refine zw 35 true ?_
 refine zg ?_
 refine zg ?_
 obtain ⟨x16,h17,h17a,h17b,h⟩:=zX h
 refine zg ?_
 refine zg ?_
 refine zg ?_
 refine zg ?_
 refine zg ?_
 obtain ⟨h18,h⟩|⟨h18,h⟩:=zI h
 replace h:=h.symm
 refine zw 42 true ?_
 refine zh ?_
 refine zg ?_
 refine zU<|zl<|zn<|zq ?_
 cases h
 exact zT results30
 refine zw 42 false ?_
 refine zg ?_
 refine zg ?_
 refine zg ?_
 refine zg ?_
 obtain ⟨r19,h20,h⟩:=zB h
 refine zc (qio x16 _ h20) ?_
 refine zg ?_
 obtain ⟨h21,h⟩|⟨h21,h⟩:=zI h
 refine zw 48 true ?_
 refine zg ?_
 obtain ⟨r22,h23,h⟩:=zB h
 replace h:=h.symm
 refine zc (qio t2 _ h23) ?_
 refine zg ?_
 refine zg ?_
 refine zU<|zl<|zn<|zq ?_
 cases h
 exact zT results30
 replace h:=h.symm
 refine zw 48 false ?_
 refine zh ?_
 refine zg ?_
 refine zg ?_
 refine zU<|zl<|zn<|zq ?_
 cases h
 exact zT results30
 refine zw 35 false ?_
 refine zh ?_
 refine zU<|zl<|zn<|zq ?_
 cases h
 exact zT results30
theorem qi3 {D:Prop} (l1:List Int) (p2:List Int) (r3:Bool) (h:qd4 l1 p2=some r3):Con D Tryz.prog 34 [(.slc (vs3 (vv8 .i64) l1)),(.slc (vs3 (vv8 .i64) p2))] (.bool r3):=by
 refine zP call34 func34 rfl ntmps34 fun X w hT=>?_
 simp only [qd4] at h
 refine zs<|zr ?_
 refine zU<|zl<|zn<|zs<|zs<|zr ?_
 refine zU<|zl<|zn<|zb ?_
 obtain ⟨o4,h5,h⟩:=zB h
 refine zO (fun (s:Int)=>⟨[(0,.p (.slc (vs3 (vv8 .i64) l1))),(9,.p (.slc (vs3 (vv8 .i64) p2))),(10,.p (.int .i64 (p2.length:Int))),(11,.p (.int .i64 s))],[]⟩) (fun (o:(Unit) ⊕ (Bool))=>match o with | .inl o6=>tE (cX Tryz.f34 X w D hT) (.exit 0) ⟨[],[]⟩ | .inr o7=>tR Tryz.prog Tryz.f34 (.bool o7)) h5 ?_ ?_
 clear h h5
 intro t8 x h
 simp only [qc0] at h
 refine zs<|zr ?_
 refine zU<|zl<|zn<|zs ?_
 obtain ⟨h9,h⟩|⟨h9,h⟩:=zI h
 refine zi<|zk<|zn<|zs<|zb<|zs<|zr ?_
 obtain ⟨x10,h11,h11a,h11b,h⟩:=zX h
 refine zU<|zl<|zn<|zs<|zr ?_
 refine zU ?_
 obtain ⟨r12,h13,h⟩:=zB h
 refine zc (qga l1 x10 _ h13) ?_
 refine zU<|zl<|zn<|zs<|zr ?_
 refine zU<|zl<|zn ?_
 obtain ⟨h14,h⟩|⟨h14,h⟩:=zI h
 refine zj<|zk<|yn<|zn<|zr ?_
 refine zU<|zl ?_
 cases h
 exact ⟨rfl,zE⟩
 refine zi<|zs<|zr ?_
 refine zU<|zl<|zn<|zq<|yr<|zt ?_
 cases h
 exact ⟨rfl,zT results34⟩
 refine zj<|zx<|ze ?_
 cases h
 exact ⟨rfl,zE⟩
 rcases o4 with ⟨⟩ | r15
 try simp only at h
 refine zA<|yh<|zn<|zs<|zr ?_
 refine zU<|zl<|zn<|zq ?_
 cases h
 exact zT results34
 try simp only at h
 refine zZ fun s hq=>?_
 refine yr<|zt ?_
 cases h
 exact hq
theorem qkr {D:Prop} (m1:List Int) (c2:List Int) (r3:Bool) (h:qcb m1 c2=some r3):Con D Tryz.prog 36 [(.slc (vs3 (vv8 .i64) m1)),.imm [.slc (vs3 (vv8 .i64) c2)]] (.bool r3):=by
 refine zP call36 func36 rfl ntmps36 fun X w hT=>?_
 simp only [qcb] at h
 refine zs<|zr ?_
 refine zU<|zl<|zn<|zs<|zr ?_
 refine zU ?_
 obtain ⟨r4,h5,h⟩:=zB h
 refine zc (qi3 c2 m1 _ h5) ?_
 refine zU<|zl<|zn<|zq ?_
 cases h
 exact zT results36
theorem qfp {D:Prop} (h1:Hypergraph) (l2:List Int) (r3:Bool) (h:qb5 h1 l2=some r3):Con D Tryz.prog 12 [(qbr h1),(.slc (vs3 (vv8 .i64) l2))] (.bool r3):=by
 refine zP call12 func12 rfl ntmps12 fun X w hT=>?_
 simp only [qb5] at h
 refine zs<|zr ?_
 refine zU<|zl<|zn<|zs<|zs<|zr ?_
 refine zU ?_
 obtain ⟨r4,h5,h⟩:=zB h
 refine zc (qm2 l2 _ h5) ?_
 refine zU ?_
 obtain ⟨h6,h⟩|⟨h6,h⟩:=zI h
 refine zw 8 false ?_
 refine zg ?_
 refine zg ?_
 refine zg ?_
 obtain ⟨r7,h8,h⟩:=zB h
 refine zc (qi3 h1.Vertices l2 _ h8) ?_
 refine zg ?_
 refine zU<|zl<|zn ?_
 obtain ⟨h9,h⟩|⟨h9,h⟩:=zI h
 refine zj<|zk<|zn<|zs<|zr ?_
 refine zU ?_
 obtain ⟨r10,h11,h⟩:=zB h
 refine zc (qfr h1.Edges (fun (y12:List Int)=>qcb y12 l2) 36 [.imm [.slc (vs3 (vv8 .i64) l2)]] (fun y12 r h=>qkr y12 l2 r h) _ h11) ?_
 refine zU<|zl<|zn<|zq ?_
 cases h
 exact zT results12
 refine zi<|zs<|zr ?_
 refine zU<|zl<|zn<|zq<|zt ?_
 cases h
 exact zT results12
 refine zw 8 true ?_
 refine zh ?_
 refine zU<|zl<|zn ?_
 refine zi<|zs<|zr ?_
 refine zU<|zl<|zn<|zq<|zt ?_
 cases h
 exact zT results12
theorem qok (h1:Hypergraph) (l3:List Int) (r4:Bool) (h:qf8 h1 l3=some r4):Con False Tryz.prog 10 [(qbr h1),(.slc (vs3 (vv8 .i64) l3))] (.bool r4):=by
 refine zP call10 func10 rfl ntmps10 fun X w hT=>?_
 simp only [qf8] at h
 refine zs<|zr ?_
 refine zU<|zl<|zn<|zs<|zs<|zr ?_
 refine zU ?_
 obtain ⟨r5,h6,h⟩:=zB h
 refine zc (qfp h1 l3 _ h6) ?_
 refine zU<|zl<|zn ?_
 obtain ⟨h7,h⟩|⟨h7,h⟩:=zI h
 refine zj<|zk<|zn<|zs<|zs<|zr ?_
 refine zU<|zl<|zn<|zb ?_
 obtain ⟨o8,h9,h⟩:=zB h
 refine zO (fun (s:Int)=>⟨[(1,.p (.slc (vs3 (vv8 .i64) l3))),(2,.loc 2 1 0 0),(14,.p (.slc (vs3 (vv8 .i64) h1.Vertices))),(15,.p (.int .i64 (h1.Vertices.length:Int))),(16,.p (.int .i64 s))],[(2,.arr 44 2 1 [.p (qbr h1)])]⟩) (fun (o:(Unit) ⊕ (Bool))=>match o with | .inl o10=>tE (cX Tryz.f10 X w False hT) (.exit 0) ⟨[],[]⟩ | .inr o11=>tR Tryz.prog Tryz.f10 (.bool o11)) h9 ?_ ?_
 clear h h6 h7 h9
 intro t12 x h
 simp only [qdg] at h
 refine zs<|zr ?_
 refine zU<|zl<|zn<|zs ?_
 obtain ⟨h13,h⟩|⟨h13,h⟩:=zI h
 refine zi<|zk<|zn<|zs<|zb<|zs<|zr ?_
 obtain ⟨x14,h15,h15a,h15b,h⟩:=zX h
 refine zU<|zl<|zn<|zs<|zr ?_
 refine zU ?_
 obtain ⟨r16,h17,h⟩:=zB h
 refine zc (qga l3 x14 _ h17) ?_
 refine zU<|zl<|zn<|zs<|zd ?_
 refine yU ?_
 obtain ⟨h18,h⟩|⟨h18,h⟩:=zI h
 refine yw 28 false ?_
 refine yk ?_
 refine yU ?_
 refine yd<|zn ?_
 refine zj<|zk<|yn<|zn<|zr ?_
 refine zU<|zl ?_
 cases h
 exact ⟨rfl,zE⟩
 refine yw 28 true ?_
 refine yg ?_
 refine yg ?_
 obtain ⟨h19,h⟩:=qaf h
 refine yK cln32 31 (vv8 .i64) l3 _ rfl ⟨by unfold maxLen;omega,by omega⟩ ?_
 have h20:=@qsf PV
 refine yg ?_
 refine yg ?_
 refine yg ?_
 obtain ⟨h21,h⟩:=qaf h
 obtain ⟨h22,h⟩:=qaf h
 refine yI (l:=31) (g:=1) (l2:=34) (g2:=1) ins31 l3 r16.1 x14 h21 h22 h19 ?_
 obtain ⟨r23,h24,h⟩:=zB h
 refine yc (qfp h1 (qm3 l3 r16.1.toNat x14) _ h24) ?_
 refine yU ?_
 refine yd<|zn ?_
 obtain ⟨h25,h⟩|⟨h25,h⟩:=zI h
 refine zi<|zs<|zr ?_
 refine zU<|zl<|zn<|zq<|yr<|zt ?_
 cases h
 exact ⟨rfl,zT results10⟩
 refine zj<|zk<|yn<|zn<|zr ?_
 refine zU<|zl ?_
 cases h
 exact ⟨rfl,zE⟩
 refine zj<|zx<|ze ?_
 cases h
 exact ⟨rfl,zE⟩
 rcases o8 with ⟨⟩ | r26
 try simp only at h
 refine zA<|yh<|zn<|zs<|zr ?_
 refine zU<|zl<|zn<|zq ?_
 cases h
 exact zT results10
 try simp only at h
 refine zZ fun s hq=>?_
 refine yr<|zt ?_
 cases h
 exact hq
 refine zi<|zs<|zr ?_
 refine zU<|zl<|zn<|zq<|zt ?_
 cases h
 exact zT results10
theorem qpi (t1:Table) (l2:List Constraint) (d3:List Int) (r4:List Int×Int) (h:qgw t1 l2 d3=some r4):Con False Tryz.prog 11 [(qab t1),(.slc (vs3 qam l2)),(.slc (vs3 (vv8 .i64) d3))] (.tup [(.slc (vs3 (vv8 .i64) r4.1)),(.int .i64 r4.2)]):=by
 refine zP call11 func11 rfl ntmps11 fun X w hT=>?_
 simp only [qgw] at h
 refine zs<|zr ?_
 refine zU<|zl<|zn<|zs<|zr ?_
 refine zU ?_
 obtain ⟨r5,h6,h⟩:=zB h
 refine zc (qmv t1 l2 d3 _ h6) ?_
 refine zU<|zl<|zn<|zs<|zs<|zr ?_
 refine zU<|zl<|zn ?_
 obtain ⟨h7,h⟩|⟨h7,h⟩:=zI h
 refine zi<|zs<|zr ?_
 refine zU<|zl<|zn<|zq<|zt ?_
 cases h
 exact zT results11
 refine zj<|zk<|zn<|zs<|zs<|zr ?_
 refine zU ?_
 obtain ⟨r8,h9,h⟩:=zB h
 refine zc (qij r5.1 d3 _ h9) ?_
 refine zU<|zl<|zn ?_
 obtain ⟨h10,h⟩|⟨h10,h⟩:=zI h
 refine zj<|zk<|zn<|zs<|zr ?_
 refine zU ?_
 obtain ⟨r11,h12,h⟩:=zB h
 refine zc (qim d3 _ h12) ?_
 refine zU<|zl<|zn<|zs<|zs<|zr ?_
 refine zU<|zl<|zn<|zb ?_
 obtain ⟨o13,h14,h⟩:=zB h
 refine zO (fun (s:List Int×Int)=>⟨[(8,.loc 8 1 0 0),(10,.p (.slc (vs3 (vv8 .i64) s.1))),(30,.p (.slc (vs3 (vv8 .i64) d3))),(31,.p (.int .i64 (d3.length:Int))),(32,.p (.int .i64 s.2))],[(8,.arr 44 2 1 [.p (qbr r5.1)])]⟩) (fun (o15:List Int)=>tE (cX Tryz.f11 X w False hT) (.exit 0) ⟨[(10,.p (.slc (vs3 (vv8 .i64) o15)))],[]⟩) h14 ?_ ?_
 clear h h6 h7 h9 h10 h12 h14
 intro s x h
 obtain ⟨o16,t17⟩:=s
 simp only [qe2] at h
 dsimp only
 refine zs<|zr ?_
 refine zU<|zl<|zn<|zs ?_
 obtain ⟨h18,h⟩|⟨h18,h⟩:=zI h
 refine zi<|zk<|zn<|zs<|zb<|zs<|zr ?_
 obtain ⟨x19,h20,h20a,h20b,h⟩:=zX h
 refine zU<|zl<|zn<|zs<|zr ?_
 refine zU ?_
 obtain ⟨r21,h22,h⟩:=zB h
 refine zc (qou o16 x19 _ h22) ?_
 refine zU<|zl<|zn<|zs<|zr ?_
 refine zU ?_
 obtain ⟨r23,h24,h⟩:=zB h
 refine zc (qij r5.1 r21 _ h24) ?_
 refine zl<|zn ?_
 obtain ⟨h25,h⟩|⟨h25,h⟩:=zI h
 refine zi<|zr ?_
 refine zU<|zl<|yn<|zn<|zr ?_
 refine zU<|zl ?_
 cases h
 exact ⟨rfl,zE⟩
 refine zj<|zk<|yn<|zn<|zr ?_
 refine zU<|zl ?_
 cases h
 exact ⟨rfl,zE⟩
 refine zj<|zx<|ze ?_
 cases h
 exact ⟨rfl,zE⟩
 try simp only at h
 refine zA<|yh<|zn<|zs<|zr ?_
 refine zU<|zl<|zn<|zq ?_
 cases h
 exact zT results11
 refine zi<|zs<|zr ?_
 refine zU<|zl<|zn<|zq<|zt ?_
 cases h
 exact zT results11
theorem qqs {D:Prop} (l1:List Int) (i2:Int) (r3:Bool) (h:qhg l1 i2=some r3):Con D Tryz.prog 83 [(.slc (vs3 (vv8 .i64) l1)),(.int .i64 i2)] (.bool r3):=by
 refine zP call83 func83 rfl ntmps83 fun X w hT=>?_
 simp only [qhg] at h
 refine zs<|zr ?_
 refine zU<|zl<|zn<|zs<|zs<|zr ?_
 refine zU<|zl<|zn<|zb ?_
 obtain ⟨o4,h5,h⟩:=zB h
 refine zO (fun (s:Int)=>⟨[(0,.p (.slc (vs3 (vv8 .i64) l1))),(1,.p (.int .i64 i2)),(5,.p (.int .i64 s))],[]⟩) (fun (o:(Unit) ⊕ (Bool))=>match o with | .inl o6=>tE (cX Tryz.f83 X w D hT) (.exit 0) ⟨[],[]⟩ | .inr o7=>tR Tryz.prog Tryz.f83 (.bool o7)) h5 ?_ ?_
 clear h h5
 intro i8 x h
 simp only [qd5] at h
 refine zs<|zs<|zr ?_
 refine zU<|zl<|zn ?_
 obtain ⟨h9,h⟩|⟨h9,h⟩:=zI h
 refine zi<|zk<|zn<|zs<|zb<|zs<|zr ?_
 obtain ⟨x10,h11,h11a,h11b,h⟩:=zX h
 refine zU<|zl<|zn ?_
 obtain ⟨h12,h⟩|⟨h12,h⟩:=zI h
 refine zi<|zs<|zr ?_
 refine zU<|zl<|zn<|zq<|yr<|zt ?_
 cases h
 exact ⟨rfl,zT results83⟩
 refine zj<|zk<|yn<|zn<|zr ?_
 refine zU<|zl ?_
 cases h
 exact ⟨rfl,zE⟩
 refine zj<|zx<|ze ?_
 cases h
 exact ⟨rfl,zE⟩
 rcases o4 with ⟨⟩ | r13
 try simp only at h
 refine zA<|yh<|zn<|zs<|zr ?_
 refine zU<|zl<|zn<|zq ?_
 cases h
 exact zT results83
 try simp only at h
 refine zZ fun s hq=>?_
 refine yr<|zt ?_
 cases h
 exact hq
theorem qqt {D:Prop} (l1:List Int) (x2:Int) (r3:Bool) (h:qhh l1 x2=some r3):Con D Tryz.prog 37 [(.slc (vs3 (vv8 .i64) l1)),(.int .i64 x2)] (.bool r3):=by
 refine zP call37 func37 rfl ntmps37 fun X w hT=>?_
 simp only [qhh] at h
 refine zs<|zr ?_
 refine zU<|zl<|zn<|zs<|zr ?_
 refine zU ?_
 obtain ⟨r4,h5,h⟩:=zB h
 refine zc (qqs l1 x2 _ h5) ?_
 refine zU<|zl<|zn<|zq ?_
 cases h
 exact zT results37
theorem qn0 {D:Prop} (a1:List Int) (b2:List Int) (r3:Bool) (h:qfm a1 b2=some r3):Con D Tryz.prog 13 [(.slc (vs3 (vv8 .i64) a1)),(.slc (vs3 (vv8 .i64) b2))] (.bool r3):=by
 refine zP call13 func13 rfl ntmps13 fun X w hT=>?_
 simp only [qfm] at h
 refine zs<|zr ?_
 refine zU<|zl<|zn<|zs<|zs<|zr ?_
 refine zU<|zl<|zn<|zb ?_
 obtain ⟨o4,h5,h⟩:=zB h
 refine zO (fun (s:Int)=>⟨[(0,.p (.slc (vs3 (vv8 .i64) a1))),(1,.p (.slc (vs3 (vv8 .i64) b2))),(5,.p (.int .i64 s))],[]⟩) (fun (o:(Unit) ⊕ (Bool))=>match o with | .inl o6=>tE (cX Tryz.f13 X w D hT) (.exit 0) ⟨[],[]⟩ | .inr o7=>tR Tryz.prog Tryz.f13 (.bool o7)) h5 ?_ ?_
 clear h h5
 intro i8 x h
 simp only [qc1] at h
 refine zs<|zs<|zr ?_
 refine zU<|zl<|zn ?_
 obtain ⟨h9,h⟩|⟨h9,h⟩:=zI h
 refine zi<|zk<|zn<|zs<|zb<|zs<|zr ?_
 obtain ⟨x10,h11,h11a,h11b,h⟩:=zX h
 refine zU ?_
 obtain ⟨r12,h13,h⟩:=zB h
 refine zc (qqt b2 x10 _ h13) ?_
 refine zU<|zl<|zn ?_
 obtain ⟨h14,h⟩|⟨h14,h⟩:=zI h
 refine zj<|zk<|yn<|zn<|zr ?_
 refine zU<|zl ?_
 cases h
 exact ⟨rfl,zE⟩
 refine zi<|zs<|zr ?_
 refine zU<|zl<|zn<|zq<|yr<|zt ?_
 cases h
 exact ⟨rfl,zT results13⟩
 refine zj<|zx<|ze ?_
 cases h
 exact ⟨rfl,zE⟩
 rcases o4 with ⟨⟩ | r15
 try simp only at h
 refine zA<|yh<|zn<|zs<|zr ?_
 refine zU<|zl<|zn<|zq ?_
 cases h
 exact zT results13
 try simp only at h
 refine zZ fun s hq=>?_
 refine yr<|zt ?_
 cases h
 exact hq
theorem qmn (c1:Drossref41_Case) (b2:Int) (r3:Bool) (h:qfu c1 b2=some r3):Con False Tryz.prog 3 [(qbq c1),(.int .u8 b2)] (.bool r3):=by
 refine zP call3 func3 rfl ntmps3 fun X w hT=>?_
 simp only [qfu] at h
 refine zs<|zr ?_
 refine zU<|zl<|zn<|zs<|zr ?_
 refine zU ?_
 obtain ⟨r4,h5,h⟩:=zB h
 refine zc (qro c1 _ h5) ?_
 refine zU<|zl<|zn<|zs ?_
 obtain ⟨t6,h7,h⟩:=zB h
 refine zJ (fun (o8:Bool)=>tE (cX Tryz.f3 X w False hT) .normal ⟨[(1,.p (.int .u8 b2)),(5,.loc 5 1 0 0),(6,.p (.slc (vs3 qam r4.2.1))),(31,.p (.bool o8))],[(5,.arr 32 3 1 [.p (qab r4.1)])]⟩) t6 ?_ ?_
 replace h:=h7
 clear h7
 refine zr ?_
 obtain ⟨r9,h10,h⟩:=zB h
 refine zc (qje  _ h10) ?_
 refine zU ?_
 obtain ⟨h11,h⟩|⟨h11,h⟩:=zI h
 replace h:=h.symm
 refine zw 28 false ?_
 refine zg ?_
 refine zg ?_
 refine zU<|zl ?_
 cases h
 exact ⟨rfl,zE⟩
 refine zw 28 true ?_
 refine zh ?_
 refine zU<|zl ?_
 cases h
 exact ⟨rfl,zE⟩
 try simp only at h
 refine zA<|zn ?_
 obtain ⟨h12,h⟩|⟨h12,h⟩:=zI h
 refine zi<|zs<|zr ?_
 obtain ⟨r13,h14,h⟩:=zB h
 refine zc (qje  _ h14) ?_
 refine zU<|zl<|zn<|zq<|zt ?_
 cases h
 exact zT results3
 refine zj<|zk<|zn<|zs<|zr ?_
 refine zU ?_
 obtain ⟨r15,h16,h⟩:=zB h
 refine zc (qj9 (r4.1.Rows.length:Int) _ h16) ?_
 refine zU<|zl<|zn<|zs<|zr ?_
 refine zU ?_
 obtain ⟨r17,h18,h⟩:=zB h
 refine zc (qho r4.1 (vsg.wrap ((BitVec.ofInt 64 (vsg.wrap b2) &&& (BitVec.ofInt 64 (vsg.wrap r15))).toNat:Int)) _ h18) ?_
 refine zU<|zl<|zn<|zs<|zr ?_
 refine zU ?_
 obtain ⟨r19,h20,h⟩:=zB h
 refine zc (qk6 r4.1 r4.2.1 _ h20) ?_
 refine zU<|zl<|zn<|zs<|zr ?_
 refine zU ?_
 obtain ⟨r21,h22,h⟩:=zB h
 refine zc (qk7 r4.1 r4.2.1 r17 _ h22) ?_
 refine zU<|zl<|zn<|zs<|zs<|zd ?_
 refine yU ?_
 obtain ⟨h23,h⟩|⟨h23,h⟩:=zI h
 refine yw 59 true ?_
 refine yk ?_
 refine yU ?_
 refine yk ?_
 refine yU ?_
 refine yd<|zn ?_
 refine zi<|zs<|zr ?_
 refine zU<|zl<|zn<|zq<|zt ?_
 cases h
 exact zT results3
 refine yw 59 false ?_
 refine yg ?_
 refine yg ?_
 refine yU ?_
 obtain ⟨h24,h⟩|⟨h24,h⟩:=zI h
 refine yw 63 true ?_
 refine yk ?_
 refine yU ?_
 refine yd<|zn ?_
 refine zi<|zs<|zr ?_
 refine zU<|zl<|zn<|zq<|zt ?_
 cases h
 exact zT results3
 refine yw 63 false ?_
 refine yg ?_
 refine yg ?_
 refine yg ?_
 refine yg ?_
 refine yg ?_
 refine yg ?_
 refine yg ?_
 obtain ⟨r25,h26,h⟩:=zB h
 refine yc (qho r4.1 (vsg.wrap ((BitVec.ofInt 64 (vsg.wrap r15) &&& ~~~ (BitVec.ofInt 64 (vsg.wrap b2))).toNat:Int)) _ h26) ?_
 obtain ⟨r27,h28,h⟩:=zB h
 refine yc (qok r19.1 r25 _ h28) ?_
 refine yg ?_
 refine yU ?_
 refine yd<|zn ?_
 obtain ⟨h29,h⟩|⟨h29,h⟩:=zI h
 refine zj<|zk<|zn<|zs<|zr ?_
 refine zU ?_
 obtain ⟨r30,h31,h⟩:=zB h
 refine zc (qpi r4.1 r4.2.1 r17 _ h31) ?_
 refine zU<|zl<|zn<|zs<|zs<|zd ?_
 refine yU ?_
 obtain ⟨r32,h33,h⟩:=zB h
 refine yc (qho r4.1 (vsg.wrap ((BitVec.ofInt 64 (vsg.wrap r15) &&& ~~~ (BitVec.ofInt 64 (vsg.wrap b2))).toNat:Int)) _ h33) ?_
 obtain ⟨r34,h35,h⟩:=zB h
 refine yc (qfp r19.1 r32 _ h35) ?_
 refine yU ?_
 refine yd<|zn ?_
 obtain ⟨h36,h⟩|⟨h36,h⟩:=zI h
 refine zj<|zk<|zn<|zs<|zr ?_
 refine zU ?_
 obtain ⟨r37,h38,h⟩:=zB h
 refine zc (qk7 r4.1 r4.2.1 r30.1 _ h38) ?_
 refine zU<|zl<|zn<|zs<|zr ?_
 refine zU ?_
 obtain ⟨h39,h⟩|⟨h39,h⟩:=zI h
 refine zw 107 true ?_
 refine zg ?_
 refine zg ?_
 refine zU ?_
 obtain ⟨h40,h⟩|⟨h40,h⟩:=zI h
 refine zw 111 true ?_
 refine zg ?_
 refine zU ?_
 obtain ⟨h41,h⟩|⟨h41,h⟩:=zI h
 refine zw 114 true ?_
 refine zg ?_
 refine zg ?_
 obtain ⟨r42,h43,h⟩:=zB h
 refine zc (qn0 r30.1 r17 _ h43) ?_
 refine zU<|zl<|zn<|zq ?_
 cases h
 exact zT results3
 refine zw 114 false ?_
 refine zh ?_
 refine zU<|zl<|zn<|zq ?_
 cases h
 exact zT results3
 refine zw 111 false ?_
 refine zh ?_
 refine zU ?_
 refine zh ?_
 refine zU<|zl<|zn<|zq ?_
 cases h
 exact zT results3
 refine zw 107 false ?_
 refine zh ?_
 refine zU ?_
 refine zh ?_
 refine zU ?_
 refine zh ?_
 refine zU<|zl<|zn<|zq ?_
 cases h
 exact zT results3
 refine zi<|zs<|zr ?_
 refine zU ?_
 obtain ⟨h44,h⟩|⟨h44,h⟩:=zI h
 replace h:=h.symm
 refine zw 93 true ?_
 refine zg ?_
 refine zg ?_
 refine zg ?_
 refine zU<|zl<|zn<|zq<|zt ?_
 cases h
 exact zT results3
 refine zw 93 false ?_
 refine zh ?_
 refine zU<|zl<|zn<|zq<|zt ?_
 cases h
 exact zT results3
 refine zi<|zs<|zr ?_
 refine zU<|zl<|zn<|zq<|zt ?_
 cases h
 exact zT results3
end Go.Proofs.YtfnmcjkkfnhpnaaGreatDoor
