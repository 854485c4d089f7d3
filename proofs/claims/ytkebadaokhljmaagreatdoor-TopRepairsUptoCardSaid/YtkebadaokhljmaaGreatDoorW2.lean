/- -/
import Derived.Shelf.Strings.Builder1
import Derived.Ground.NamesProg
import Derived.Test.YtkebadaokhljmaaGreatDoorW1
import Derived.Test.YtkebadaokhljmaaGreatDoorA3
import Derived.Test.YtkebadaokhljmaaGreatDoorT1
set_option linter.unusedVariables false
set_option linter.unusedSimpArgs false
set_option maxHeartbeats 4000000
set_option maxRecDepth 20000
open Bool renaming eq_false_iff→v5k
open Go.IntKind renaming i64→v67,u32→v68,u64→v7w,u8→v7x
open Go.Lib renaming byteCells→v69,byteCells_length→uar
open List renaming length_append→v3l,length_set→v3q,map→v58,replicate→v4a
open Option.some renaming inj→v6z
open Go.Ab.PV renaming int→uap,str→uaq
namespace Go.Proofs.YtkebadaokhljmaaGreatDoor
open Go Go.Ab Tryz
variable {D:Prop}
theorem qvd (t1:Table) (l2:List Constraint) (r3:Hypergraph×Int) (h:qi5 t1 l2=some r3):Con False prog 8 [(qaa t1),(.slc (v58 qak l2))] (.tup [(qal r3.1),(.int .i64 r3.2)]):=by
 refine zP call8 func8 rfl ntmps8 fun X w hT=>?_
 simp only [qi5] at h
 refine Ml ?_
 refine Mc ?_
 refine zU ?_
 obtain ⟨r4,h5,h⟩:=zB h
 refine zc (qfh t1 _ h5) ?_
 refine M6 ?_
 refine Ma ?_
 obtain ⟨h6,h⟩|⟨h6,h⟩:=zI h
 exact M2 h results8
 refine Mj ?_
 refine Ma ?_
 obtain ⟨h7,h⟩|⟨h7,h⟩:=zI h
 exact M2 h results8
 refine Mj ?_
 refine Mq ?_
 obtain ⟨o8,h9,h⟩:=zB h
 refine zO (fun (s:Int)=>⟨[(1,.p (.slc (v58 qak l2))),(2,.loc 2 1 0 0),(4,.loc 4 1 0 0),(30,.p (.slc (v58 qak l2))),(31,.p (.int .i64 (l2.length:Int))),(32,.p (.int .i64 s))],[(2,.arr 29 3 1 [.p (qaa t1)]),(4,.arr 40 2 1 [.agg [.nils,.nils]])]⟩) (fun (o:(Unit) ⊕ (Hypergraph×Int))=>match o with | .inl o10=>tE (cX Tryz.f8 X w False hT) (.exit 0) ⟨[(1,.p (.slc (v58 qak l2))),(2,.loc 2 1 0 0),(4,.loc 4 1 0 0)],[(2,.arr 29 3 1 [.p (qaa t1)]),(4,.arr 40 2 1 [.agg [.nils,.nils]])]⟩ | .inr o11=>tR prog Tryz.f8 (.tup [(qal o11.1),(.int .i64 o11.2)])) h9 ?_ ?_
 clear h h5 h6 h7 h9
 intro t12 x h
 simp only [qe2] at h
 refine M9 ?_
 obtain ⟨h13,h⟩|⟨h13,h⟩:=zI h
 refine Mb ?_
 obtain ⟨x14,h15,h15a,h15b,h⟩:=zX h
 refine M6 ?_
 refine zU ?_
 obtain ⟨r16,h17,h⟩:=zB h
 refine zc (qki t1 x14 _ h17) ?_
 refine M6 ?_
 refine Ma ?_
 obtain ⟨h18,h⟩|⟨h18,h⟩:=zI h
 refine M4 ?_
 cases h
 exact ⟨rfl,zT results8⟩
 refine Me ?_
 exact M0 h
 exact M3 h
 rcases o8 with ⟨⟩ | r19
 try simp only at h
 refine Md ?_
 refine M5 ?_
 obtain ⟨o20,h21,h⟩:=zB h
 refine zO (fun (s:List (List Int)×Int)=>⟨[(2,.loc 2 1 0 0),(4,.loc 4 1 0 0),(11,.own 65 1 0 s.1.length),(47,.p (.slc (v58 qak l2))),(48,.p (.int .i64 (l2.length:Int))),(49,.p (.int .i64 s.2))],[(2,.arr 29 3 1 [.p (qaa t1)]),(4,.arr 40 2 1 [.agg [.nils,.nils]]),(65,.arr 37 1 1 (v58 AV.p (v58 (qav (uap .i64)) s.1)))]⟩) (fun (o:(List (List Int)) ⊕ (Hypergraph×Int))=>match o with | .inl o22=>tE (cX Tryz.f8 X w False hT) (.exit 2) ⟨[(2,.loc 2 1 0 0),(4,.loc 4 1 0 0),(11,.own 65 1 0 o22.length)],[(2,.arr 29 3 1 [.p (qaa t1)]),(4,.arr 40 2 1 [.agg [.nils,.nils]]),(65,.arr 37 1 1 (v58 AV.p (v58 (qav (uap .i64)) o22)))]⟩ | .inr o23=>tR prog Tryz.f8 (.tup [(qal o23.1),(.int .i64 o23.2)])) h21 ?_ ?_
 clear h h5 h6 h7 h9 h21
 intro s x h
 obtain ⟨a24,t25⟩:=s
 simp only [qgp] at h
 dsimp only
 refine M9 ?_
 obtain ⟨h26,h⟩|⟨h26,h⟩:=zI h
 refine Mb ?_
 obtain ⟨x27,h28,h28a,h28b,h⟩:=zX h
 refine M6 ?_
 refine zU ?_
 obtain ⟨r29,h30,h⟩:=zB h
 refine zc (qp1 t1 x27 _ h30) ?_
 refine Mc ?_
 refine Ma ?_
 obtain ⟨h31,h⟩|⟨h31,h⟩:=zI h
 refine Mg ?_
 cases h
 exact ⟨rfl,zT results8⟩
 refine zj<|zk<|zn<|zr ?_
 obtain ⟨h32,h⟩:=qae h
 refine Mk ?_
 exact M0 h
 exact M3 h
 rcases o20 with a33 | r34
 try simp only at h
 refine Md ?_
 refine zU ?_
 refine zM ⟨[(2,.loc 2 1 0 0),(4,.loc 4 1 0 0),(67,.p (.slc (v58 (qav (uap .i64)) a33)))],[(2,.arr 29 3 1 [.p (qaa t1)]),(4,.arr 40 2 1 [.agg [.nils,.nils]])]⟩ ?_
 obtain ⟨r35,h36,h⟩:=zB h
 refine zc (qsk a33 _ h36) ?_
 refine M5 ?_
 obtain ⟨h37,h38,h⟩:=zB h
 refine zO (fun (s:List Int×Int)=>⟨[(4,.loc 4 1 0 0),(16,.loc 16 1 0 0),(71,.p (.slc (v58 qag t1.Rows))),(72,.p (.int .i64 (t1.Rows.length:Int))),(73,.p (.int .i64 s.2))],[(4,.arr 40 2 1 [.agg [.nils,.nils]]),(16,.arr 40 2 1 [.agg [.own 82 1 0 s.1.length,.p (.slc (v58 (qav (uap .i64)) r35))]]),(82,.arr 2 1 1 (v58 AV.p (v58 (uap .i64) s.1)))]⟩) (fun (o39:List Int)=>tE (cX Tryz.f8 X w False hT) (.exit 4) ⟨[(4,.loc 4 1 0 0),(16,.loc 16 1 0 0)],[(4,.arr 40 2 1 [.agg [.nils,.nils]]),(16,.arr 40 2 1 [.agg [.own 82 1 0 o39.length,.p (.slc (v58 (qav (uap .i64)) r35))]]),(82,.arr 2 1 1 (v58 AV.p (v58 (uap .i64) o39)))]⟩) h38 ?_ ?_
 clear h h5 h6 h7 h9 h21 h36 h38
 intro s x h
 obtain ⟨h40,t41⟩:=s
 simp only [qgq] at h
 dsimp only
 refine M9 ?_
 obtain ⟨h42,h⟩|⟨h42,h⟩:=zI h
 refine Mb ?_
 obtain ⟨x43,h44,h44a,h44b,h⟩:=zX h
 refine Mu ?_
 obtain ⟨h45,h⟩:=qae h
 refine Mk ?_
 exact M0 h
 exact M3 h
 try simp only at h
 refine Te ?_
 refine Ma ?_
 obtain ⟨h46,h⟩|⟨h46,h⟩:=zI h
 exact M2 h results8
 refine Mi ?_
 exact M1 h results8
 exact M8 h
 exact M8 h
theorem qit (s1:List Table) (f2:Table→Option (Bool)) (f2_k:FuncId) (f2_cs:List PV) (f2_h:∀(y3:Table) (r4:Bool),f2 y3=some r4→Con D prog f2_k ((qaa y3) :: f2_cs) (.bool r4)) (r5:Int) (h:qcz s1 f2=some r5):Con D prog 206 [(.slc (v58 qaa s1)),.func (.func f2_k) f2_cs] (.int .i64 r5):=by
 refine zP call206 func206 rfl ntmps206 fun X w hT=>?_
 simp only [qcz] at h
 refine Ml ?_
 refine M5 ?_
 obtain ⟨o6,h7,h⟩:=zB h
 refine zO (fun (s:Int)=>⟨[(0,.p (.slc (v58 qaa s1))),(1,.p (.func (.func f2_k) f2_cs)),(7,.p (.int .i64 (s1.length:Int))),(8,.p (.int .i64 s))],[]⟩) (fun (o:(Unit) ⊕ (Int))=>match o with | .inl o8=>tE (cX Tryz.f206 X w D hT) (.exit 0) ⟨[],[]⟩ | .inr o9=>tR prog Tryz.f206 (.int .i64 o9)) h7 ?_ ?_
 clear h h7
 intro t10 x h
 simp only [qb4] at h
 refine M9 ?_
 obtain ⟨h11,h⟩|⟨h11,h⟩:=zI h
 refine Mb ?_
 refine M6 ?_
 obtain ⟨x12,h13,h13a,h13b,h⟩:=zX h
 refine zU ?_
 obtain ⟨r14,h15,h⟩:=zB h
 refine zc (f2_h x12 _ h15) ?_
 refine zl<|zn ?_
 obtain ⟨h16,h⟩|⟨h16,h⟩:=zI h
 refine M4 ?_
 cases h
 exact ⟨rfl,zT results206⟩
 refine Me ?_
 exact M0 h
 exact M3 h
 rcases o6 with ⟨⟩ | r17
 try simp only at h
 refine Md ?_
 exact M1 h results206
 exact M8 h
theorem qwh (t1:Table) (c2:List UInt8) (r3:Bool) (h:qip t1 c2=some r3):Con D prog 207 [(qaa t1),.imm [.str c2]] (.bool r3):=by
 refine zP call207 func207 rfl ntmps207 fun X w hT=>?_
 simp only [qip] at h
 refine Ml ?_
 refine M6 ?_
 exact M1 h results207
theorem qm1 (d1:Database) (n2:List UInt8) (r3:Table×Bool) (h:qg7 d1 n2=some r3):Con D prog 137 [(qa4 d1),(.str n2)] (.tup [(qaa r3.1),(.bool r3.2)]):=by
 refine zP call137 func137 rfl ntmps137 fun X w hT=>?_
 simp only [qg7] at h
 refine Ml ?_
 refine M6 ?_
 refine zU ?_
 obtain ⟨r4,h5,h⟩:=zB h
 refine zc (qit d1.Tables (fun (y6:Table)=>qip y6 n2) 207 [.imm [.str n2]] (fun y6 r h=>qwh y6 n2 r h) _ h5) ?_
 refine Mc ?_
 refine Ma ?_
 obtain ⟨h7,h⟩|⟨h7,h⟩:=zI h
 exact M2 h results137
 refine Mi ?_
 obtain ⟨x8,h9,h9a,h9b,h⟩:=zX h
 exact M1 h results137
theorem qts (d1:Database) (r2:Int) (h:qib d1=some r2):Con D prog 135 [(qa4 d1)] (.int .i64 r2):=by
 refine zP call135 func135 rfl ntmps135 fun X w hT=>?_
 simp only [qib] at h
 refine Ml ?_
 refine Mc ?_
 refine Ma ?_
 obtain ⟨h3,h⟩|⟨h3,h⟩:=zI h
 exact M2 h results135
 refine Mj ?_
 refine Mq ?_
 obtain ⟨o4,h5,h⟩:=zB h
 refine zO (fun (s:Int)=>⟨[(1,.loc 1 1 0 0),(13,.p (.slc (v58 qaa d1.Tables))),(14,.p (.int .i64 (d1.Tables.length:Int))),(15,.p (.int .i64 s))],[(1,.arr 49 1 1 [.p (qa4 d1)])]⟩) (fun (o:(Unit) ⊕ (Int))=>match o with | .inl o6=>tE (cX Tryz.f135 X w D hT) (.exit 0) ⟨[],[]⟩ | .inr o7=>tR prog Tryz.f135 (.int .i64 o7)) h5 ?_ ?_
 clear h h3 h5
 intro t8 x h
 simp only [qen] at h
 refine M9 ?_
 obtain ⟨h9,h⟩|⟨h9,h⟩:=zI h
 refine Mb ?_
 obtain ⟨x10,h11,h11a,h11b,h⟩:=zX h
 refine Mc ?_
 refine zU ?_
 obtain ⟨r12,h13,h⟩:=zB h
 refine zc (qfh x10 _ h13) ?_
 refine M6 ?_
 refine Ma ?_
 obtain ⟨h14,h⟩|⟨h14,h⟩:=zI h
 refine Mg ?_
 cases h
 exact ⟨rfl,zT results135⟩
 refine zj<|zk<|zn<|zs<|zd ?_
 obtain ⟨h15,h⟩:=qae h
 obtain ⟨h16,h⟩:=qae h
 refine yU ?_
 obtain ⟨r17,h18,h⟩:=zB h
 refine yc (qm1 (Database.mk (d1.Tables.take (t8.toNat))) x10.Name _ h18) ?_
 refine T7 ?_
 refine Ma ?_
 obtain ⟨h19,h⟩|⟨h19,h⟩:=zI h
 refine M4 ?_
 cases h
 exact ⟨rfl,zT results135⟩
 refine Me ?_
 exact M0 h
 exact M3 h
 rcases o4 with ⟨⟩ | r20
 try simp only at h
 refine Md ?_
 exact M1 h results135
 exact M8 h
theorem qqa (c1:Int) (r2:Bool) (h:qjq c1=some r2):Con D prog 204 [(.int .u8 c1)] (.bool r2):=by
 refine zP call204 func204 rfl ntmps204 fun X w hT=>?_
 simp only [qjq] at h
 refine Ml ?_
 refine M6 ?_
 refine zU ?_
 obtain ⟨h3,h⟩|⟨h3,h⟩:=zI h
 refine zw 5 true ?_
 refine M7 ?_
 refine zU ?_
 obtain ⟨h4,h⟩|⟨h4,h⟩:=zI h
 refine zw 9 true ?_
 refine Mh ?_
 exact M1 h results204
 refine zw 9 false ?_
 refine M7 ?_
 refine zg ?_
 obtain ⟨h5,h⟩|⟨h5,h⟩:=zI h
 refine zw 12 true ?_
 refine M7 ?_
 refine Mw ?_
 obtain ⟨h6,h⟩|⟨h6,h⟩:=zI h
 refine zw 17 true ?_
 refine zh ?_
 exact M1 h results204
 replace h:=h.symm
 refine zw 17 false ?_
 refine M7 ?_
 exact M1 h results204
 replace h:=h.symm
 refine zw 12 false ?_
 refine zh ?_
 refine Mw ?_
 refine M7 ?_
 exact M1 h results204
 refine zw 5 false ?_
 refine zh ?_
 refine zU ?_
 refine M7 ?_
 refine zg ?_
 obtain ⟨h7,h⟩|⟨h7,h⟩:=zI h
 refine zw 12 true ?_
 refine M7 ?_
 refine Mw ?_
 obtain ⟨h8,h⟩|⟨h8,h⟩:=zI h
 refine zw 17 true ?_
 refine zh ?_
 exact M1 h results204
 replace h:=h.symm
 refine zw 17 false ?_
 refine M7 ?_
 exact M1 h results204
 replace h:=h.symm
 refine zw 12 false ?_
 refine zh ?_
 refine Mw ?_
 refine M7 ?_
 exact M1 h results204
theorem q0b (c1:Int) (r2:Bool) (h:qtb c1=some r2):Con D prog 205 [(.int .u8 c1)] (.bool r2):=by
 refine zP call205 func205 rfl ntmps205 fun X w hT=>?_
 simp only [qtb] at h
 refine Ml ?_
 refine M6 ?_
 refine zU ?_
 obtain ⟨h3,h⟩|⟨h3,h⟩:=zI h
 replace h:=h.symm
 refine zw 5 true ?_
 refine M7 ?_
 exact M1 h results205
 refine zw 5 false ?_
 refine zh ?_
 exact M1 h results205
theorem qxa (s1:List UInt8) (r2:Bool) (h:qk6 s1=some r2):Con D prog 136 [(.str s1)] (.bool r2):=by
 refine zP call136 func136 rfl ntmps136 fun X w hT=>?_
 simp only [qk6] at h
 refine Ml ?_
 refine Mc ?_
 refine zU ?_
 obtain ⟨h3,h⟩|⟨h3,h⟩:=zI h
 refine zw 6 true ?_
 refine Mh ?_
 refine zU ?_
 refine zh ?_
 refine Ma ?_
 exact M2 h results136
 refine zw 6 false ?_
 refine M7 ?_
 refine Mw ?_
 obtain ⟨h4,h⟩|⟨h4,h⟩:=zI h
 refine zw 11 true ?_
 refine Mh ?_
 refine Ma ?_
 exact M2 h results136
 refine zw 11 false ?_
 refine M7 ?_
 refine zU ?_
 obtain ⟨h5,h⟩|⟨h5,h⟩:=zI h
 refine zw 15 true ?_
 refine zh ?_
 refine Ma ?_
 exact M2 h results136
 refine zw 15 false ?_
 refine zg ?_
 obtain ⟨c6,h7,h7l,h7L,h⟩:=zY 0 h
 refine zg ?_
 obtain ⟨r8,h9,h⟩:=zB h
 refine zc (qqa ((c6.toNat:Nat):Int) _ h9) ?_
 refine zg ?_
 refine Ma ?_
 obtain ⟨h10,h⟩|⟨h10,h⟩:=zI h
 refine Mj ?_
 refine Mq ?_
 obtain ⟨o11,h12,h⟩:=zB h
 refine zO (fun (s:Int)=>⟨[(0,.p (.str s1)),(22,.p (.int .i64 (s1.length:Int))),(23,.p (.int .i64 s))],[]⟩) (fun (o:(Unit) ⊕ (Bool))=>match o with | .inl o13=>tE (cX Tryz.f136 X w D hT) (.exit 0) ⟨[],[]⟩ | .inr o14=>tR prog Tryz.f136 (.bool o14)) h12 ?_ ?_
 clear h h3 h4 h5 h7 h7l h7L h9 h10 h12
 intro t15 x h
 simp only [qgr] at h
 refine M9 ?_
 obtain ⟨h16,h⟩|⟨h16,h⟩:=zI h
 refine Mb ?_
 refine M6 ?_
 obtain ⟨c17,h18,h18a,h18b,h⟩:=zX h
 refine zU ?_
 obtain ⟨r19,h20,h⟩:=zB h
 refine zc (qqa ((c17.toNat:Nat):Int) _ h20) ?_
 refine zU ?_
 obtain ⟨h21,h⟩|⟨h21,h⟩:=zI h
 refine zw 31 false ?_
 refine zh ?_
 refine Ma ?_
 refine Me ?_
 exact M0 h
 refine zw 31 true ?_
 refine M7 ?_
 refine zg ?_
 obtain ⟨r22,h23,h⟩:=zB h
 refine zc (q0b ((c17.toNat:Nat):Int) _ h23) ?_
 refine zg ?_
 refine Ma ?_
 obtain ⟨h24,h⟩|⟨h24,h⟩:=zI h
 refine Me ?_
 exact M0 h
 refine M4 ?_
 cases h
 exact ⟨rfl,zT results136⟩
 exact M3 h
 rcases o11 with ⟨⟩ | r25
 try simp only at h
 refine Md ?_
 exact M1 h results136
 exact M8 h
 exact M2 h results136
theorem qsl (t1:Table) (c2:List UInt8) (r3:Bool) (h:qje t1 c2=some r3):Con D prog 255 [(qaa t1),.imm [.str c2]] (.bool r3):=by
 refine zP call255 func255 rfl ntmps255 fun X w hT=>?_
 simp only [qje] at h
 refine Ml ?_
 refine M6 ?_
 exact M1 h results255
theorem qga (l1:List Table) (n2:List UInt8) (r3:Int) (h:qge l1 n2=some r3):Con D prog 211 [(.slc (v58 qaa l1)),(.str n2)] (.int .i64 r3):=by
 refine zP call211 func211 rfl ntmps211 fun X w hT=>?_
 simp only [qge] at h
 refine Ml ?_
 refine M6 ?_
 refine zU ?_
 obtain ⟨r4,h5,h⟩:=zB h
 refine zc (qit l1 (fun (y6:Table)=>qje y6 n2) 255 [.imm [.str n2]] (fun y6 r h=>qsl y6 n2 r h) _ h5) ?_
 exact M1 h results211
theorem qtt (d1:Database) (r2:Int) (h:qms d1=some r2):Con D prog 251 [(qa4 d1)] (.int .i64 r2):=by
 refine zP call251 func251 rfl ntmps251 fun X w hT=>?_
 simp only [qms] at h
 refine Ml ?_
 refine Mc ?_
 refine Ma ?_
 obtain ⟨h3,h⟩|⟨h3,h⟩:=zI h
 exact M2 h results251
 refine Mj ?_
 refine Mq ?_
 obtain ⟨o4,h5,h⟩:=zB h
 refine zO (fun (s:Int)=>⟨[(1,.loc 1 1 0 0),(11,.p (.slc (v58 qaa d1.Tables))),(12,.p (.int .i64 (d1.Tables.length:Int))),(13,.p (.int .i64 s))],[(1,.arr 49 1 1 [.p (qa4 d1)])]⟩) (fun (o:(Unit) ⊕ (Int))=>match o with | .inl o6=>tE (cX Tryz.f251 X w D hT) (.exit 0) ⟨[],[]⟩ | .inr o7=>tR prog Tryz.f251 (.int .i64 o7)) h5 ?_ ?_
 clear h h3 h5
 intro t8 x h
 simp only [qnw] at h
 refine M9 ?_
 obtain ⟨h9,h⟩|⟨h9,h⟩:=zI h
 refine Mb ?_
 obtain ⟨x10,h11,h11a,h11b,h⟩:=zX h
 refine Mc ?_
 refine zU ?_
 obtain ⟨r12,h13,h⟩:=zB h
 refine zc (qfh x10 _ h13) ?_
 refine M6 ?_
 refine Ma ?_
 obtain ⟨h14,h⟩|⟨h14,h⟩:=zI h
 refine Mg ?_
 cases h
 exact ⟨rfl,zT results251⟩
 refine zj<|zk<|zn<|zs<|zd ?_
 obtain ⟨h15,h⟩:=qae h
 obtain ⟨h16,h⟩:=qae h
 refine yU ?_
 obtain ⟨r17,h18,h⟩:=zB h
 refine yc (qga (d1.Tables.take (t8.toNat)) x10.Name _ h18) ?_
 refine Ms ?_
 obtain ⟨h19,h⟩|⟨h19,h⟩:=zI h
 refine M4 ?_
 cases h
 exact ⟨rfl,zT results251⟩
 refine Me ?_
 exact M0 h
 exact M3 h
 rcases o4 with ⟨⟩ | r20
 try simp only at h
 refine Md ?_
 exact M1 h results251
 exact M8 h
theorem qqi (a1:Int) (c2:Int) (r3:Bool) (h:qhu a1 c2=some r3):Con D prog 293 [(.int .i64 a1),.imm [.int .i64 c2]] (.bool r3):=by
 refine zP call293 func293 rfl ntmps293 fun X w hT=>?_
 simp only [qhu] at h
 refine Ml ?_
 refine M6 ?_
 refine zU ?_
 obtain ⟨h4,h⟩|⟨h4,h⟩:=zI h
 refine zw 6 true ?_
 refine zh ?_
 exact M1 h results293
 replace h:=h.symm
 refine zw 6 false ?_
 refine M7 ?_
 refine zg ?_
 exact M1 h results293
theorem ql1 (l1:List Int) (n2:Int) (r3:Bool) (h:qjf l1 n2=some r3):Con D prog 281 [(.slc (v58 (uap .i64) l1)),(.int .i64 n2)] (.bool r3):=by
 refine zP call281 func281 rfl ntmps281 fun X w hT=>?_
 simp only [qjf] at h
 refine Ml ?_
 refine M6 ?_
 refine zU ?_
 obtain ⟨r4,h5,h⟩:=zB h
 refine zc (qfi l1 (fun (y6:Int)=>qhu y6 n2) 293 [.imm [.int .i64 n2]] (fun y6 r h=>qqi y6 n2 r h) _ h5) ?_
 exact M1 h results281
theorem qsm (s1:List Int) (v2:Int) (r3:Int) (h:qlk s1 v2=some r3):Con D prog 218 [(.slc (v58 (uap .i64) s1)),(.int .i64 v2)] (.int .i64 r3):=by
 refine zP call218 func218 rfl ntmps218 fun X w hT=>?_
 simp only [qlk] at h
 refine Ml ?_
 refine M5 ?_
 obtain ⟨o4,h5,h⟩:=zB h
 refine zO (fun (s:Int)=>⟨[(0,.p (.slc (v58 (uap .i64) s1))),(1,.p (.int .i64 v2)),(7,.p (.int .i64 (s1.length:Int))),(8,.p (.int .i64 s))],[]⟩) (fun (o:(Unit) ⊕ (Int))=>match o with | .inl o6=>tE (cX Tryz.f218 X w D hT) (.exit 0) ⟨[],[]⟩ | .inr o7=>tR prog Tryz.f218 (.int .i64 o7)) h5 ?_ ?_
 clear h h5
 intro t8 x h
 simp only [qmt] at h
 refine M9 ?_
 obtain ⟨h9,h⟩|⟨h9,h⟩:=zI h
 refine Mb ?_
 refine M6 ?_
 obtain ⟨x10,h11,h11a,h11b,h⟩:=zX h
 refine Ma ?_
 obtain ⟨h12,h⟩|⟨h12,h⟩:=zI h
 refine M4 ?_
 cases h
 exact ⟨rfl,zT results218⟩
 refine Me ?_
 exact M0 h
 exact M3 h
 rcases o4 with ⟨⟩ | r13
 try simp only at h
 refine Md ?_
 exact M1 h results218
 exact M8 h
theorem qp2 (s1:List Int) (v2:Int) (r3:Bool) (h:qjj s1 v2=some r3):Con D prog 156 [(.slc (v58 (uap .i64) s1)),(.int .i64 v2)] (.bool r3):=by
 refine zP call156 func156 rfl ntmps156 fun X w hT=>?_
 simp only [qjj] at h
 refine Ml ?_
 refine M6 ?_
 refine zU ?_
 obtain ⟨r4,h5,h⟩:=zB h
 refine zc (qsm s1 v2 _ h5) ?_
 exact M1 h results156
theorem qkp (l1:List Int) (r2:Bool) (h:qhv l1=some r2):Con D prog 282 [(.slc (v58 (uap .i64) l1))] (.bool r2):=by
 refine zP call282 func282 rfl ntmps282 fun X w hT=>?_
 simp only [qhv] at h
 refine Ml ?_
 refine M5 ?_
 obtain ⟨o3,h4,h⟩:=zB h
 refine zO (fun (s:Int)=>⟨[(0,.p (.slc (v58 (uap .i64) l1))),(5,.p (.slc (v58 (uap .i64) l1))),(6,.p (.int .i64 (l1.length:Int))),(7,.p (.int .i64 s))],[]⟩) (fun (o:(Unit) ⊕ (Bool))=>match o with | .inl o5=>tE (cX Tryz.f282 X w D hT) (.exit 0) ⟨[],[]⟩ | .inr o6=>tR prog Tryz.f282 (.bool o6)) h4 ?_ ?_
 clear h h4
 intro t7 x h
 simp only [qk7] at h
 refine M9 ?_
 obtain ⟨h8,h⟩|⟨h8,h⟩:=zI h
 refine Mb ?_
 obtain ⟨x9,h10,h10a,h10b,h⟩:=zX h
 refine M6 ?_
 obtain ⟨h11,h⟩:=qae h
 obtain ⟨h12,h⟩:=qae h
 refine zU ?_
 obtain ⟨r13,h14,h⟩:=zB h
 refine zc (qp2 (l1.take (t7.toNat)) x9 _ h14) ?_
 refine zl<|zn ?_
 obtain ⟨h15,h⟩|⟨h15,h⟩:=zI h
 refine M4 ?_
 cases h
 exact ⟨rfl,zT results282⟩
 refine Me ?_
 exact M0 h
 exact M3 h
 rcases o3 with ⟨⟩ | r16
 try simp only at h
 refine Md ?_
 exact M1 h results282
 exact M8 h
theorem qve (d1:Database) (d2:IND) (r3:Int) (h:qn6 d1 d2=some r3):Con D prog 252 [(qa4 d1),(qrj d2)] (.int .i64 r3):=by
 refine zP call252 func252 rfl ntmps252 fun X w hT=>?_
 simp only [qn6] at h
 refine Ml ?_
 refine Mv ?_
 refine yU ?_
 obtain ⟨r4,h5,h⟩:=zB h
 refine yc (qga d1.Tables d2.From _ h5) ?_
 refine yU ?_
 obtain ⟨r6,h7,h⟩:=zB h
 refine yc (qga d1.Tables d2.To _ h7) ?_
 refine yU ?_
 refine yd<|zn<|zs<|zs<|zr ?_
 refine zU ?_
 obtain ⟨h8,h⟩|⟨h8,h⟩:=zI h
 refine zw 19 true ?_
 refine zh ?_
 refine Ma ?_
 exact M2 h results252
 refine zw 19 false ?_
 refine M7 ?_
 refine Ma ?_
 obtain ⟨h9,h⟩|⟨h9,h⟩:=zI h
 exact M2 h results252
 refine zj<|zk<|zn<|zs<|zs<|zd ?_
 refine yU ?_
 obtain ⟨h10,h⟩|⟨h10,h⟩:=zI h
 refine yw 30 true ?_
 refine yk ?_
 refine yU ?_
 refine yk ?_
 refine Ms ?_
 exact M2 h results252
 refine yw 30 false ?_
 refine Mf ?_
 refine yg ?_
 refine yg ?_
 obtain ⟨x11,h12,h12a,h12b,h⟩:=zX h
 refine Mf ?_
 refine yg ?_
 obtain ⟨r13,h14,h⟩:=zB h
 refine yc (ql1 d2.Lhs (x11.Attrs.length:Int) _ h14) ?_
 refine yg ?_
 refine yU ?_
 obtain ⟨h15,h⟩|⟨h15,h⟩:=zI h
 refine yw 43 false ?_
 refine Mf ?_
 refine yg ?_
 refine yg ?_
 obtain ⟨x16,h17,h17a,h17b,h⟩:=zX h
 refine Mf ?_
 refine yg ?_
 obtain ⟨r18,h19,h⟩:=zB h
 refine yc (ql1 d2.Rhs (x16.Attrs.length:Int) _ h19) ?_
 refine yg ?_
 refine Ms ?_
 obtain ⟨h20,h⟩|⟨h20,h⟩:=zI h
 refine Mj ?_
 refine zU ?_
 obtain ⟨r21,h22,h⟩:=zB h
 refine zc (qkp d2.Lhs _ h22) ?_
 refine zU ?_
 obtain ⟨h23,h⟩|⟨h23,h⟩:=zI h
 refine zw 59 true ?_
 refine zh ?_
 refine Ma ?_
 exact M2 h results252
 refine zw 59 false ?_
 refine M7 ?_
 obtain ⟨r24,h25,h⟩:=zB h
 refine zc (qkp d2.Rhs _ h25) ?_
 refine Ma ?_
 obtain ⟨h26,h⟩|⟨h26,h⟩:=zI h
 exact M2 h results252
 refine Mi ?_
 exact M1 h results252
 exact M2 h results252
 refine yw 43 true ?_
 refine yk ?_
 refine Ms ?_
 exact M2 h results252
theorem qm2 (d1:Database) (d2:IND) (r3:Int) (h:qj7 d1 d2=some r3):Con D prog 208 [(qa4 d1),(qrj d2)] (.int .i64 r3):=by
 refine zP call208 func208 rfl ntmps208 fun X w hT=>?_
 simp only [qj7] at h
 refine Ml ?_
 refine Mc ?_
 refine zU ?_
 obtain ⟨r4,h5,h⟩:=zB h
 refine zc (qtt d1 _ h5) ?_
 refine M6 ?_
 refine Ma ?_
 obtain ⟨h6,h⟩|⟨h6,h⟩:=zI h
 exact M2 h results208
 refine Mi ?_
 refine zU ?_
 obtain ⟨r7,h8,h⟩:=zB h
 refine zc (qve d1 d2 _ h8) ?_
 exact M1 h results208
theorem qvf (d1:Database) (t2:Table) (c3:Constraint) (r4:Int) (h:qe0 d1 t2 c3=some r4):Con D prog 138 [(qa4 d1),(qaa t2),(qak c3)] (.int .i64 r4):=by
 refine zP call138 func138 rfl ntmps138 fun X w hT=>?_
 simp only [qe0] at h
 refine Ml ?_
 refine M6 ?_
 refine M6 ?_
 refine Mc ?_
 refine Tb ?_
 refine Ma ?_
 obtain ⟨h5,h⟩|⟨h5,h⟩:=zI h
 refine zin (zr ?_)
 obtain ⟨h6,h⟩:=qdm h
 refine Mz ?_
 refine Ma ?_
 obtain ⟨h7,h⟩|⟨h7,h⟩:=zI h
 refine zjn (zk (zn (zs (zr ?_))))
 exact M1 h results138
 refine zin (zs (zr ?_))
 refine Mm ?_
 exact T0 h results138
 refine zjn (zs (zr ?_))
 refine Ma ?_
 obtain ⟨h8,h⟩|⟨h8,h⟩:=zI h
 refine zin (zr ?_)
 obtain ⟨h9,h⟩:=qdm h
 refine Mz ?_
 refine Ma ?_
 obtain ⟨h10,h⟩|⟨h10,h⟩:=zI h
 refine zjn (zk (zn (zs (zr ?_))))
 exact M1 h results138
 refine zin (zs (zr ?_))
 refine Mm ?_
 exact T0 h results138
 refine zjn (zs (zr ?_))
 refine Ma ?_
 obtain ⟨h11,h⟩|⟨h11,h⟩:=zI h
 refine zin (zs (zs (zr ?_)))
 refine Ma ?_
 obtain ⟨h12,h⟩|⟨h12,h⟩:=zI h
 refine zin (zs (zr ?_))
 refine zU ?_
 obtain ⟨r13,h14,h⟩:=zB h
 refine zc (qm2 d1 c3.IND _ h14) ?_
 refine zU<|zl<|zn<|zq<|zt<|yr<|zt ?_
 exact T0 h results138
 refine zjn (zk (zn (zr ?_)))
 refine Mz ?_
 refine Ma ?_
 refine zin (zs (zr ?_))
 refine Mm ?_
 exact T0 h results138
 refine zjn (zs (zr ?_))
 refine Ma ?_
 obtain ⟨h15,h⟩|⟨h15,h⟩:=zI h
 refine zin (zr ?_)
 refine zU ?_
 obtain ⟨r16,h17,h⟩:=zB h
 refine zc (qik (t2.Attrs.length:Int) c3.CFD _ h17) ?_
 refine Mz ?_
 refine Ma ?_
 obtain ⟨h18,h⟩|⟨h18,h⟩:=zI h
 refine zjn (zk (zn (zs (zr ?_))))
 exact M1 h results138
 refine zin (zs (zr ?_))
 refine Mm ?_
 exact T0 h results138
 refine zjn (zs (zr ?_))
 refine Ma ?_
 obtain ⟨h19,h⟩|⟨h19,h⟩:=zI h
 refine zin (zr ?_)
 refine zU ?_
 obtain ⟨r20,h21,h⟩:=zB h
 refine zc (qkh (t2.Attrs.length:Int) c3.OD _ h21) ?_
 refine Mz ?_
 refine Ma ?_
 obtain ⟨h22,h⟩|⟨h22,h⟩:=zI h
 refine zjn (zk (zn (zs (zr ?_))))
 exact M1 h results138
 refine zin (zs (zr ?_))
 refine Mm ?_
 exact T0 h results138
 refine zjn (zs (zr ?_))
 refine Ma ?_
 obtain ⟨h23,h⟩|⟨h23,h⟩:=zI h
 refine zin (zr ?_)
 refine zU ?_
 obtain ⟨r24,h25,h⟩:=zB h
 refine zc (qlo (t2.Attrs.length:Int) c3.Denial _ h25) ?_
 refine Mz ?_
 refine Ma ?_
 obtain ⟨h26,h⟩|⟨h26,h⟩:=zI h
 refine zjn (zk (zn (zs (zr ?_))))
 exact M1 h results138
 refine zin (zs (zr ?_))
 refine Mm ?_
 exact T0 h results138
 refine zjn (zk (yn (zn (zs (zs (zr ?_))))))
 refine Ma ?_
 refine zjn (zk (zn (zs (zr ?_))))
 exact M1 h results138
theorem qxb (d1:Database) (l2:List Constraint) (r3:Int×Int) (h:qk8 d1 l2=some r3):Con D prog 72 [(qa4 d1),(.slc (v58 qak l2))] (.tup [(.int .i64 r3.1),(.int .i64 r3.2)]):=by
 refine zP call72 func72 rfl ntmps72 fun X w hT=>?_
 simp only [qk8] at h
 refine Ml ?_
 refine Mc ?_
 refine zU ?_
 obtain ⟨r4,h5,h⟩:=zB h
 refine zc (qts d1 _ h5) ?_
 refine M6 ?_
 refine Ma ?_
 obtain ⟨h6,h⟩|⟨h6,h⟩:=zI h
 exact M2 h results72
 refine Mi ?_
 refine M5 ?_
 obtain ⟨o7,h8,h⟩:=zB h
 refine zO (fun (s:(List (List UInt8×Bool))×Int)=>⟨[(2,.loc 2 1 0 0),(7,.mapo 18 1),(19,.p (.slc (v58 qak l2))),(20,.p (.int .i64 (l2.length:Int))),(21,.p (.int .i64 s.2))],[(2,.arr 49 1 1 [.p (qa4 d1)]),(18,.map 1 (v58 AV.p (qfj uaq s.1)) (v58 AV.p (qfw PV.bool s.1)))]⟩) (fun (o:(Unit) ⊕ (Int×Int))=>match o with | .inl o9=>tE (cX Tryz.f72 X w D hT) (.exit 0) ⟨[],[]⟩ | .inr o10=>tR prog Tryz.f72 (.tup [(.int .i64 o10.1),(.int .i64 o10.2)])) h8 ?_ ?_
 clear h h5 h6 h8
 intro s x h
 obtain ⟨n11,t12⟩:=s
 simp only [qic] at h
 dsimp only
 refine M9 ?_
 obtain ⟨h13,h⟩|⟨h13,h⟩:=zI h
 refine Mb ?_
 obtain ⟨x14,h15,h15a,h15b,h⟩:=zX h
 refine Mc ?_
 refine zU ?_
 obtain ⟨r16,h17,h⟩:=zB h
 refine zc (qxa x14.Name _ h17) ?_
 refine Ma ?_
 obtain ⟨h18,h⟩|⟨h18,h⟩:=zI h
 refine Mj ?_
 refine Ma ?_
 obtain ⟨h19,h⟩|⟨h19,h⟩:=zI h
 refine Mg ?_
 cases h
 exact ⟨rfl,zT results72⟩
 refine Mi ?_
 refine Mc ?_
 refine zU ?_
 obtain ⟨h20,h⟩|⟨h20,h⟩:=zI h
 refine zw 42 true ?_
 refine zh ?_
 refine Ma ?_
 refine Mg ?_
 cases h
 exact ⟨rfl,zT results72⟩
 refine zw 42 false ?_
 refine M7 ?_
 refine zg ?_
 refine Ma ?_
 obtain ⟨h21,h⟩|⟨h21,h⟩:=zI h
 refine Mg ?_
 cases h
 exact ⟨rfl,zT results72⟩
 refine Mi ?_
 refine zU ?_
 obtain ⟨r22,h23,h⟩:=zB h
 refine zc (qm1 d1 x14.Table _ h23) ?_
 refine Mc ?_
 refine Ma ?_
 obtain ⟨h24,h⟩|⟨h24,h⟩:=zI h
 refine Mi ?_
 refine zU ?_
 obtain ⟨r25,h26,h⟩:=zB h
 refine zc (qvf d1 r22.1 x14 _ h26) ?_
 refine M6 ?_
 refine Ma ?_
 obtain ⟨h27,h⟩|⟨h27,h⟩:=zI h
 refine M4 ?_
 cases h
 exact ⟨rfl,zT results72⟩
 refine Me ?_
 exact M0 h
 refine Mg ?_
 cases h
 exact ⟨rfl,zT results72⟩
 refine Mg ?_
 cases h
 exact ⟨rfl,zT results72⟩
 exact M3 h
 rcases o7 with ⟨⟩ | r28
 try simp only at h
 refine Md ?_
 exact M1 h results72
 exact M8 h
theorem qlp (a1:Row) (b2:Row) (s3:Int) (r4:Bool) (h:qg0 a1 b2 s3=some r4):Con D prog 141 [(qag a1),(qag b2),(.int .u32 s3)] (.bool r4):=by
 refine zP call141 func141 rfl ntmps141 fun X w hT=>?_
 simp only [qg0] at h
 refine Ml ?_
 refine M5 ?_
 obtain ⟨o5,h6,h⟩:=zB h
 refine zO (fun (s:Int)=>⟨[(2,.p (.int .u32 s3)),(3,.loc 3 1 0 0),(4,.loc 4 1 0 0),(10,.p (.int .i64 (a1.Values.length:Int))),(11,.p (.int .i64 s))],[(3,.arr 94 2 1 [.p (qag a1)]),(4,.arr 94 2 1 [.p (qag b2)])]⟩) (fun (o:(Unit) ⊕ (Bool))=>match o with | .inl o7=>tE (cX Tryz.f141 X w D hT) (.exit 0) ⟨[],[]⟩ | .inr o8=>tR prog Tryz.f141 (.bool o8)) h6 ?_ ?_
 clear h h6
 intro t9 x h
 simp only [qid] at h
 refine M9 ?_
 obtain ⟨h10,h⟩|⟨h10,h⟩:=zI h
 refine Mb ?_
 refine Mv ?_
 obtain ⟨h11,h⟩:=qdm h
 refine yU ?_
 obtain ⟨h12,h⟩|⟨h12,h⟩:=zI h
 refine yw 19 true ?_
 refine Mf ?_
 obtain ⟨x13,h14,h14a,h14b,h⟩:=zX h
 refine Mf ?_
 refine yg ?_
 refine yg ?_
 obtain ⟨x15,h16,h16a,h16b,h⟩:=zX h
 refine Mf ?_
 refine Ms ?_
 obtain ⟨h17,h⟩|⟨h17,h⟩:=zI h
 refine Me ?_
 exact M0 h
 refine M4 ?_
 cases h
 exact ⟨rfl,zT results141⟩
 refine yw 19 false ?_
 refine yk ?_
 refine Ms ?_
 refine Me ?_
 exact M0 h
 exact M3 h
 rcases o5 with ⟨⟩ | r18
 try simp only at h
 refine Md ?_
 exact M1 h results141
 exact M8 h
theorem qp3 (a1:Row) (b2:Row) (c3:Constraint) (r4:Bool) (h:qee a1 b2 c3=some r4):Con D prog 140 [(qag a1),(qag b2),.imm [.str c3.Name,.str c3.Table,.int .i64 c3.Kind,.int .u32 c3.FD.Lhs,.int .u32 c3.FD.Rhs,.int .u32 c3.MVD.Lhs,.int .u32 c3.MVD.Rhs,.str c3.IND.From,.slc (v58 (uap .i64) c3.IND.Lhs),.str c3.IND.To,.slc (v58 (uap .i64) c3.IND.Rhs),.slc (v58 (uap .i64) c3.CFD.Lhs),.int .i64 c3.CFD.Rhs,.slc (v58 qd1 c3.CFD.Pattern),.slc (v58 (uap .i64) c3.OD.Lhs),.slc (v58 (uap .i64) c3.OD.Rhs),.int .i64 c3.Denial.Vars,.slc (v58 qcu c3.Denial.Atoms)]] (.bool r4):=by
 refine zP call140 func140 rfl ntmps140 fun X w hT=>?_
 simp only [qee] at h
 refine Ml ?_
 refine M6 ?_
 refine zU ?_
 obtain ⟨r5,h6,h⟩:=zB h
 refine zc (qlp a1 b2 c3.FD.Rhs _ h6) ?_
 exact M1 h results140
theorem qvg (r1:Row) (c2:Row) (c3:Int) (c4:Row) (r5:Bool) (h:qk1 r1 c2 c3 c4=some r5):Con D prog 210 [(qag r1),.imm [.int .i64 c2.ID,.slc (v58 qaw c2.Values)],.imm [.int .u32 c3],.imm [.int .i64 c4.ID,.slc (v58 qaw c4.Values)]] (.bool r5):=by
 refine zP call210 func210 rfl ntmps210 fun X w hT=>?_
 simp only [qk1] at h
 refine Ml ?_
 refine M6 ?_
 refine zU ?_
 obtain ⟨r6,h7,h⟩:=zB h
 refine zc (qlp r1 c2 c3 _ h7) ?_
 refine zU ?_
 obtain ⟨h8,h⟩|⟨h8,h⟩:=zI h
 refine zw 10 true ?_
 refine M7 ?_
 refine M7 ?_
 obtain ⟨r9,h10,h⟩:=zB h
 refine zc (qlp r1 c4 (v68.wrap ((BitVec.ofInt 32 (IntKind.max .u32) ^^^ BitVec.ofInt 32 c3).toNat:Int)) _ h10) ?_
 exact M1 h results210
 refine zw 10 false ?_
 refine zh ?_
 exact M1 h results210
theorem qqb (t1:Table) (a2:Row) (b3:Row) (s4:Int) (r5:Bool) (h:qnx t1 a2 b3 s4=some r5):Con D prog 143 [(qaa t1),(qag a2),(qag b3),(.int .u32 s4)] (.bool r5):=by
 refine zP call143 func143 rfl ntmps143 fun X w hT=>?_
 simp only [qnx] at h
 refine Ml ?_
 refine M6 ?_
 refine zU ?_
 obtain ⟨r6,h7,h⟩:=zB h
 refine zc (qck t1.Rows (fun (y8:Row)=>qk1 y8 a2 s4 b3) 210 [.imm [.int .i64 a2.ID,.slc (v58 qaw a2.Values)],.imm [.int .u32 s4],.imm [.int .i64 b3.ID,.slc (v58 qaw b3.Values)]] (fun y8 r h=>qvg y8 a2 s4 b3 r h) _ h7) ?_
 exact M1 h results143
theorem qp4 (a1:Row) (b2:Row) (c3:Table) (c4:Int) (r5:Bool) (h:qg8 a1 b2 c3 c4=some r5):Con D prog 142 [(qag a1),(qag b2),.imm [.str c3.Name,.slc (v58 uaq c3.Attrs),.slc (v58 qag c3.Rows)],.imm [.int .u32 c4]] (.bool r5):=by
 refine zP call142 func142 rfl ntmps142 fun X w hT=>?_
 simp only [qg8] at h
 refine Ml ?_
 refine M6 ?_
 refine zU ?_
 obtain ⟨r6,h7,h⟩:=zB h
 refine zc (qqb c3 a1 b2 c4 _ h7) ?_
 refine zU ?_
 obtain ⟨h8,h⟩|⟨h8,h⟩:=zI h
 refine zw 12 true ?_
 refine zh ?_
 exact M1 h results142
 refine zw 12 false ?_
 refine M7 ?_
 refine M7 ?_
 obtain ⟨r9,h10,h⟩:=zB h
 refine zc (qqb c3 b2 a1 c4 _ h10) ?_
 exact M1 h results142
end Go.Proofs.YtkebadaokhljmaaGreatDoor
namespace Go.Proofs
open Go Go.Ab Go.Shelf Tryz
variable {D:Prop}
def YtkebadaokhljmaaGreatDoor.bwr_ren:Go.Shelf.Ren:=⟨fun | 166=>257 | 169=>258 | 240=>285 | 276=>296 | n=>n,fun | 0=>0 | 3=>3 | 4=>4 | 9=>9 | 20=>20 | 37=>81 | 70=>376 | 72=>378 | 75=>382 | 80=>385 | 164=>412 | 5=>5 | 127=>405 | n=>n,fun | n=>n⟩
theorem YtkebadaokhljmaaGreatDoor.bwr:Go.Proofs.Lays.n166 prog YtkebadaokhljmaaGreatDoor.bwr_ren:={
  mixed:=by kernel_rfl
  f166:=func257.trans (congrArg some (by kernel_rfl))
  f240:=func285.trans (congrArg some (by kernel_rfl))
  f276:=func296.trans (congrArg some (by kernel_rfl))
  t0:=underlying0
  a0:=isAgg0
  z0:=sizeOf0
  v0:=zeroValue0
  t3:=underlying3
  a3:=isAgg3
  z3:=sizeOf3
  v3:=zeroValue3
  t4:=underlying4
  a4:=isAgg4
  z4:=sizeOf4
  v4:=zeroValue4
  t9:=underlying9
  a9:=isAgg9
  z9:=sizeOf9
  v9:=zeroValue9
  t20:=underlying20
  a20:=isAgg20
  z20:=sizeOf20
  v20:=zeroValue20
  t37:=underlying81
  a37:=isAgg81
  z37:=sizeOf81
  v37:=zeroValue81
  t70:=underlying376
  a70:=isAgg376
  z70:=sizeOf376
  v70:=zeroValue376
  t72:=underlying378
  a72:=isAgg378
  z72:=sizeOf378
  v72:=zeroValue378
  t75:=underlying382
  a75:=isAgg382
  z75:=sizeOf382
  v75:=zeroValue382
  t164:=underlying412
  a164:=isAgg412
  z164:=sizeOf412
  v164:=zeroValue412 }
def YtkebadaokhljmaaGreatDoor.bst_ren:Go.Shelf.Ren:=⟨fun | 166=>257 | 169=>258 | 240=>285 | 276=>296 | n=>n,fun | 0=>0 | 3=>3 | 4=>4 | 9=>9 | 20=>20 | 37=>81 | 70=>376 | 72=>378 | 75=>382 | 80=>385 | 164=>412 | 5=>5 | 127=>405 | n=>n,fun | n=>n⟩
theorem YtkebadaokhljmaaGreatDoor.bst:Go.Proofs.Lays.n169 prog YtkebadaokhljmaaGreatDoor.bst_ren:={
  mixed:=by kernel_rfl
  f169:=func258.trans (congrArg some (by kernel_rfl))
  t0:=underlying0
  a0:=isAgg0
  z0:=sizeOf0
  v0:=zeroValue0
  t3:=underlying3
  a3:=isAgg3
  z3:=sizeOf3
  v3:=zeroValue3
  t9:=underlying9
  a9:=isAgg9
  z9:=sizeOf9
  v9:=zeroValue9
  t37:=underlying81
  a37:=isAgg81
  z37:=sizeOf81
  v37:=zeroValue81
  t70:=underlying376
  a70:=isAgg376
  z70:=sizeOf376
  v70:=zeroValue376
  t72:=underlying378
  a72:=isAgg378
  z72:=sizeOf378
  v72:=zeroValue378
  t127:=underlying405
  a127:=isAgg405
  z127:=sizeOf405
  v127:=zeroValue405 }
theorem YtkebadaokhljmaaGreatDoor.bwrX:Builder.Extra prog YtkebadaokhljmaaGreatDoor.bwr_ren where
  sizeBuilder:=by kernel_rfl
  liesBuilder:=by kernel_rfl
  t5:=underlying5
  a5:=isAgg5
  z5:=sizeOf5
  v5:=zeroValue5
  infoByte:=by kernel_rfl
  cellsByte:=by kernel_rfl
  sizeByte:=by kernel_rfl
  neB5:=by decide
theorem YtkebadaokhljmaaGreatDoor.bstX:Builder.Extra prog YtkebadaokhljmaaGreatDoor.bst_ren where
  sizeBuilder:=by kernel_rfl
  liesBuilder:=by kernel_rfl
  t5:=underlying5
  a5:=isAgg5
  z5:=sizeOf5
  v5:=zeroValue5
  infoByte:=by kernel_rfl
  cellsByte:=by kernel_rfl
  sizeByte:=by kernel_rfl
  neB5:=by decide
theorem YtkebadaokhljmaaGreatDoor.bldL (c:Nat) (h:1≤c):liesAt prog prog.depth 378 (c * 2 / prog.cellsOf 378) 0 378 1=true:=vhp (d:=prog.depth - 1) (by kernel_rfl) (by kernel_rfl) (by kernel_rfl) c h
theorem YtkebadaokhljmaaGreatDoor.bld:Bld prog 257 258 378 5 where
  bodyW:=call257
  bodyS:=call258
  write:=fun b c p v bs s w h1 h2 h3 h4 h5 h6=>(BldX.writeString YtkebadaokhljmaaGreatDoor.bwr YtkebadaokhljmaaGreatDoor.bwrX b (c * 2) p v (v69 bs) ⟨s.toArray⟩ w h2 h3 (YtkebadaokhljmaaGreatDoor.bldL c h1) (by rw [uar];exact h4) h5 (by rw [uar];exact h6)).mono fun e w' h=>by
    obtain ⟨he,v',q1,q2,q3,q4,q5⟩:=h;refine ⟨he,v',q1,?_,q3,q4,q5⟩;have e1:v69 bs++Lib.strCells ⟨s.toArray⟩=v69 (bs++s):=by simp [v69,Lib.strCells]
    rw [e1,uar] at q2;rw [v3l];exact q2
  string:=fun b n p v l w h1 h2=>BldX.string YtkebadaokhljmaaGreatDoor.bst YtkebadaokhljmaaGreatDoor.bstX b n p v l w h1 h2
end Go.Proofs
namespace Go.Proofs.YtkebadaokhljmaaGreatDoor
open Go Go.Ab Tryz
variable {D:Prop}
theorem qvh (v1:Value) (r2:List UInt8×Int) (h:qou v1=some r2):Con D prog 256 [(qaw v1)] (.tup [(.str r2.1),(.int .i64 r2.2)]):=by
 refine zP call256 func256 rfl ntmps256 fun X w hT=>?_
 simp only [qou] at h
 refine Ml ?_
 refine Mc ?_
 refine zU ?_
 obtain ⟨r3,h4,h⟩:=zB h
 refine zc (qkg v1 _ h4) ?_
 refine Ma ?_
 obtain ⟨h5,h⟩|⟨h5,h⟩:=zI h
 refine Mi ?_
 refine Mc ?_
 refine zU<|zl<|zn<|zb<|zs<|zs<|zr ?_
 refine Ma ?_
 obtain ⟨h6,h⟩|⟨h6,h⟩:=zI h
 refine zi<|zk<|zn ?_
 refine T9 ?_
 refine zM ⟨[(18,.own 12 1 0 1),(20,.p (.int .i64 v1.Num))],[(12,.arr 5 1 1 [.p (.int .u8 (v7x.wrap v1.Kind))])]⟩ ?_
 refine qfa (avs:=[.own 12 1 0 1,.p (.int .i64 v1.Num)]) 51 rfl (qa6 rfl) rfl func284 rfl call284 ntmps284 (by simp) (by simp only [go_sem,seval,h5,h6];all_goals rfl) ?_
 intro i7 w8 h9
 show AWp _ _ _ ⟨[(0,.own 12 1 0 1),(1,.p (.int .i64 v1.Num))],[(12,.arr 5 1 1 [.p (.int .u8 (v7x.wrap v1.Kind))])]⟩
 refine Ml ?_
 refine M6 ?_
 refine M5 ?_
 obtain ⟨o10,h11,h⟩:=zB h
 refine zO (fun (s:List Int×Int)=>⟨[(0,.own 12 2 0 s.1.length),(5,.p (.int .u64 (v7w.wrap ((BitVec.ofInt 64 (v7w.wrap v1.Num) ^^^ (9223372036854775808#64)).toNat:Int)))),(6,.p (.int .i64 s.2))],[(12,.arr 5 1 2 (v58 AV.p (v58 (uap .u8) s.1)))]⟩) (fun (o12:List Int)=>tE ⟨prog,22,51,X,[(12,.arr 5 1 1 [.p (.int .u8 (v7x.wrap v1.Kind))])],i7,w8,D,h9⟩ (.exit 0) ⟨[(0,.own 12 2 0 o12.length)],[(12,.arr 5 1 2 (v58 AV.p (v58 (uap .u8) o12)))]⟩) h11 ?_ ?_
 clear h h4 h5 h6 h11
 intro s x h
 obtain ⟨o13,s14⟩:=s
 simp only [qq4] at h
 refine Mt ?_
 refine Ma ?_
 obtain ⟨h15,h⟩|⟨h15,h⟩:=zI h
 refine Tf ?_
 obtain ⟨h16,h⟩:=qdm h
 obtain ⟨h17,h⟩:=qae h
 refine Mk ?_
 exact M0 h
 exact M3 h
 try simp only at h
 refine Md ?_
 refine My ?_
 refine qa8 (by simp only [results284];simp only [go_sem,seval,h5,h6];exact rfl) ?_
 refine T8 ?_
 exact M1 h results256
 have h6F:=v5k.2 h6
 refine zj<|zr ?_
 refine Ma ?_
 obtain ⟨h18,h⟩|⟨h18,h⟩:=zI h
 refine T9 ?_
 refine zM ⟨[(18,.own 12 1 0 1),(20,.p (.int .i64 v1.Num))],[(12,.arr 5 1 1 [.p (.int .u8 (v7x.wrap v1.Kind))])]⟩ ?_
 refine qfa (avs:=[.own 12 1 0 1,.p (.int .i64 v1.Num)]) 73 rfl (qa6 rfl) rfl func284 rfl call284 ntmps284 (by simp) (by simp only [go_sem,seval,h5,h6F,h18];all_goals rfl) ?_
 intro i19 w20 h21
 show AWp _ _ _ ⟨[(0,.own 12 1 0 1),(1,.p (.int .i64 v1.Num))],[(12,.arr 5 1 1 [.p (.int .u8 (v7x.wrap v1.Kind))])]⟩
 refine Ml ?_
 refine M6 ?_
 refine M5 ?_
 obtain ⟨o22,h23,h⟩:=zB h
 refine zO (fun (s:List Int×Int)=>⟨[(0,.own 12 2 0 s.1.length),(5,.p (.int .u64 (v7w.wrap ((BitVec.ofInt 64 (v7w.wrap v1.Num) ^^^ (9223372036854775808#64)).toNat:Int)))),(6,.p (.int .i64 s.2))],[(12,.arr 5 1 2 (v58 AV.p (v58 (uap .u8) s.1)))]⟩) (fun (o24:List Int)=>tE ⟨prog,22,73,X,[(12,.arr 5 1 1 [.p (.int .u8 (v7x.wrap v1.Kind))])],i19,w20,D,h21⟩ (.exit 0) ⟨[(0,.own 12 2 0 o24.length)],[(12,.arr 5 1 2 (v58 AV.p (v58 (uap .u8) o24)))]⟩) h23 ?_ ?_
 clear h h4 h5 h6 h6F h18 h23
 intro s x h
 obtain ⟨o25,s26⟩:=s
 simp only [qq5] at h
 refine Mt ?_
 refine Ma ?_
 obtain ⟨h27,h⟩|⟨h27,h⟩:=zI h
 refine Tf ?_
 obtain ⟨h28,h⟩:=qdm h
 obtain ⟨h29,h⟩:=qae h
 refine Mk ?_
 exact M0 h
 exact M3 h
 try simp only at h
 refine Md ?_
 refine My ?_
 refine qa8 (by simp only [results284];simp only [go_sem,seval,h5,h6F,h18];exact rfl) ?_
 refine T8 ?_
 exact M1 h results256
 have h18F:=v5k.2 h18
 refine Mx ?_
 refine Ma ?_
 obtain ⟨h30,h⟩|⟨h30,h⟩:=zI h
 refine zi<|zs<|zs<|zr ?_
 refine Mq ?_
 obtain ⟨o31,h32,h⟩:=zB h
 refine zO (fun (s:List Int×Int)=>⟨[(1,.loc 1 1 0 0),(4,.own 12 1 0 s.1.length),(26,.p (.int .i64 (v1.Str.length:Int))),(27,.p (.int .i64 s.2))],[(1,.arr 130 3 1 [.p (qaw v1)]),(12,.arr 5 1 1 (v58 AV.p (v58 (uap .u8) s.1)))]⟩) (fun (o33:List Int)=>tE (cX Tryz.f256 X w D hT) (.exit 1) ⟨[(4,.own 12 1 0 o33.length)],[(12,.arr 5 1 1 (v58 AV.p (v58 (uap .u8) o33)))]⟩) h32 ?_ ?_
 clear h h4 h5 h6 h6F h18 h18F h30 h32
 intro s x h
 obtain ⟨o34,t35⟩:=s
 simp only [qjr] at h
 dsimp only
 refine M9 ?_
 obtain ⟨h36,h⟩|⟨h36,h⟩:=zI h
 refine Mb ?_
 refine M6 ?_
 obtain ⟨c37,h38,h38a,h38b,h⟩:=zX h
 obtain ⟨h39,h⟩:=qae h
 refine M6 ?_
 refine Ma ?_
 obtain ⟨h40,h⟩|⟨h40,h⟩:=zI h
 refine zi<|zr ?_
 obtain ⟨h41,h⟩:=qae h
 refine Mk ?_
 exact M0 h
 refine Me ?_
 exact M0 h
 exact M3 h
 try simp only at h
 refine zA<|yh<|zn<|zr ?_
 obtain ⟨h42,h⟩:=qae h
 refine T8 ?_
 exact M1 h results256
 have h30F:=v5k.2 h30
 refine T4 ?_
 refine zW 1 ?_
 obtain ⟨l43,h44,h⟩:=zB h
 replace h44:=v6z h44
 refine vk8 (st':=⟨[(49,.own 12 1 0 l43.length)],[(12,.arr 5 1 1 (v58 AV.p (v58 (uap .u8) l43)))]⟩) (by simp only [go_sem,seval,h5,h6F,h18F,h30F,←h44];all_goals ((repeat' refine And.intro ?_ ?_) <;> first | rfl | (simp;done) | (simp;rfl) | (simp [*];done) | (simp [*];rfl))) ?_
 have h44n:l43.length=1:=by rw [←h44];rfl
 clear h44
 exact M1 h results256
 exact M2 h results256
theorem qpa (r1:Row) (a2:List Int) (r3:List UInt8) (h:ql8 r1 a2=some r3):Con False prog 212 [(qag r1),(.slc (v58 (uap .i64) a2))] (.str r3):=by
 refine zP call212 func212 rfl ntmps212 fun X w hT=>?_
 simp only [ql8] at h
 refine Ml ?_
 refine M6 ?_
 refine M5 ?_
 obtain ⟨o4,h5,h⟩:=zB h
 refine zO (fun (s:Bool×List UInt8×Int)=>⟨[(2,.loc 2 1 0 0),(5,.loc 5 1 0 0),(10,.p (.slc (v58 (uap .i64) a2))),(11,.p (.int .i64 (a2.length:Int))),(12,.p (.int .i64 s.2.2))],[(2,.arr 94 2 1 [.p (qag r1)]),(5,.arr 378 2 1 [.agg [(if s.1=true then .loc 5 1 0 0 else .p .nilp),.own 100005 1 0 s.2.1.length]]),(100005,.arr 5 1 1 (qez s.2.1))]⟩) (fun (o6:Bool×List UInt8)=>tE (cX Tryz.f212 X w False hT) (.exit 0) ⟨[(5,.loc 5 1 0 0)],[(5,.arr 378 2 1 [.agg [(if o6.1=true then .loc 5 1 0 0 else .p .nilp),.own 100005 1 0 o6.2.length]]),(100005,.arr 5 1 1 (qez o6.2))]⟩) h5 ?_ ?_
 clear h h5
 intro s x h
 obtain ⟨o7,o8,t9⟩:=s
 simp only [qp7] at h
 dsimp only
 refine M9 ?_
 obtain ⟨h10,h⟩|⟨h10,h⟩:=zI h
 refine Mb ?_
 obtain ⟨x11,h12,h12a,h12b,h⟩:=zX h
 refine M6 ?_
 obtain ⟨x13,h14,h14a,h14b,h⟩:=zX h
 refine zU ?_
 obtain ⟨r15,h16,h⟩:=zB h
 refine zc (qvh x13 _ h16) ?_
 refine Mu ?_
 refine zU ?_
 obtain ⟨h17,h⟩:=qae h
 refine zBw bld 5 100005 o8 r15.1 ((o8.length+(r15.1).length)) h17 ?_
 refine zM ⟨[(2,.loc 2 1 0 0),(5,.loc 5 1 0 0),(10,.p (.slc (v58 (uap .i64) a2))),(11,.p (.int .i64 (a2.length:Int))),(12,.p (.int .i64 t9)),(26,.p (.tup [.int .i64 (r15.1.length:Int),.nili]))],[(2,.arr 94 2 1 [.p (qag r1)]),(5,.arr 378 2 1 [.agg [.loc 5 1 0 0,.own 100005 1 0 (o8.length+(r15.1).length)]]),(100005,.arr 5 1 1 (qez (o8++r15.1)))]⟩ ?_
 refine zl<|yn<|zn<|zr ?_
 exact M0 h
 exact M3 h
 obtain ⟨o18,o19⟩:=o4
 try simp only at h
 refine Md ?_
 refine zBs bld 5 100005 o19 ?_
 refine zM ⟨[(28,.p (.str o19))],[]⟩ ?_
 exact M1 h results212
theorem qpb (d1:Database) (d2:IND) (r3:List Int×Int) (h:qiw d1 d2=some r3):Con False prog 144 [(qa4 d1),(qrj d2)] (.tup [(.slc (v58 (uap .i64) r3.1)),(.int .i64 r3.2)]):=by
 refine zP call144 func144 rfl ntmps144 fun X w hT=>?_
 simp only [qiw] at h
 refine Ml ?_
 refine Mc ?_
 refine zU ?_
 obtain ⟨r4,h5,h⟩:=zB h
 refine zc (qm2 d1 d2 _ h5) ?_
 refine M6 ?_
 refine Ma ?_
 obtain ⟨h6,h⟩|⟨h6,h⟩:=zI h
 exact M2 h results144
 refine Mi ?_
 refine Ta ?_
 obtain ⟨r7,h8,h⟩:=zB h
 refine yc (qga d1.Tables d2.To _ h8) ?_
 obtain ⟨x9,h10,h10a,h10b,h⟩:=zX h
 refine yU ?_
 refine yd<|zn<|zb ?_
 obtain ⟨p11,h12,h⟩:=zB h
 refine zO (fun (s:(List (List UInt8×Bool))×Int)=>⟨[(2,.loc 2 1 0 0),(3,.loc 3 1 0 0),(7,.mapo 19 1),(29,.p (.slc (v58 qag x9.Rows))),(30,.p (.int .i64 (x9.Rows.length:Int))),(31,.p (.int .i64 s.2))],[(2,.arr 49 1 1 [.p (qa4 d1)]),(3,.arr 66 4 1 [.p (qrj d2)]),(19,.map 1 (v58 AV.p (qfj uaq s.1)) (v58 AV.p (qfw PV.bool s.1)))]⟩) (fun (o13:(List (List UInt8×Bool)))=>tE (cX Tryz.f144 X w False hT) (.exit 0) ⟨[(2,.loc 2 1 0 0),(3,.loc 3 1 0 0),(7,.mapo 19 1)],[(2,.arr 49 1 1 [.p (qa4 d1)]),(3,.arr 66 4 1 [.p (qrj d2)]),(19,.map 1 (v58 AV.p (qfj uaq o13)) (v58 AV.p (qfw PV.bool o13)))]⟩) h12 ?_ ?_
 clear h h5 h6 h8 h10 h10a h10b h12
 intro s x h
 obtain ⟨p14,t15⟩:=s
 simp only [qj8] at h
 dsimp only
 refine M9 ?_
 obtain ⟨h16,h⟩|⟨h16,h⟩:=zI h
 refine Mb ?_
 obtain ⟨x17,h18,h18a,h18b,h⟩:=zX h
 refine Mu ?_
 refine zU ?_
 obtain ⟨r19,h20,h⟩:=zB h
 refine zc (qpa x17 d2.Rhs _ h20) ?_
 refine Mk ?_
 exact M0 h
 exact M3 h
 try simp only at h
 refine Md ?_
 refine Ta ?_
 obtain ⟨r21,h22,h⟩:=zB h
 refine yc (qga d1.Tables d2.From _ h22) ?_
 obtain ⟨x23,h24,h24a,h24b,h⟩:=zX h
 refine yU ?_
 refine yd<|zn<|zb ?_
 obtain ⟨o25,h26,h⟩:=zB h
 refine zO (fun (s:List Int×Int)=>⟨[(3,.loc 3 1 0 0),(7,.mapo 19 1),(10,.own 67 1 0 s.1.length),(50,.p (.slc (v58 qag x23.Rows))),(51,.p (.int .i64 (x23.Rows.length:Int))),(52,.p (.int .i64 s.2))],[(3,.arr 66 4 1 [.p (qrj d2)]),(19,.map 1 (v58 AV.p (qfj uaq p11)) (v58 AV.p (qfw PV.bool p11))),(67,.arr 2 1 1 (v58 AV.p (v58 (uap .i64) s.1)))]⟩) (fun (o27:List Int)=>tE (cX Tryz.f144 X w False hT) (.exit 2) ⟨[(10,.own 67 1 0 o27.length)],[(67,.arr 2 1 1 (v58 AV.p (v58 (uap .i64) o27)))]⟩) h26 ?_ ?_
 clear h h5 h6 h8 h10 h10a h10b h12 h22 h24 h24a h24b h26
 intro s x h
 obtain ⟨o28,t29⟩:=s
 simp only [qj9] at h
 dsimp only
 refine M9 ?_
 obtain ⟨h30,h⟩|⟨h30,h⟩:=zI h
 refine Mb ?_
 obtain ⟨x31,h32,h32a,h32b,h⟩:=zX h
 refine M6 ?_
 refine zU ?_
 obtain ⟨r33,h34,h⟩:=zB h
 refine zc (qpa x31 d2.Lhs _ h34) ?_
 refine Ma ?_
 obtain ⟨h35,h⟩|⟨h35,h⟩:=zI h
 refine Me ?_
 exact M0 h
 refine zi<|zr ?_
 obtain ⟨h36,h⟩:=qae h
 refine Mk ?_
 exact M0 h
 exact M3 h
 try simp only at h
 refine Md ?_
 exact M1 h results144
theorem qsn (t1:Table) (s2:Int) (r3:Bool) (h:qhi t1 s2=some r3):Con D prog 253 [(qaa t1),(.int .u32 s2)] (.bool r3):=by
 refine zP call253 func253 rfl ntmps253 fun X w hT=>?_
 simp only [qhi] at h
 refine Ml ?_
 refine M6 ?_
 obtain ⟨h4,h⟩:=qdm h
 exact M1 h results253
theorem qof (s1:List (List Int)) (f2:(List Int)→Option (Bool)) (f2_k:FuncId) (f2_cs:List PV) (f2_h:∀(y3:List Int) (r4:Bool),f2 y3=some r4→Con D prog f2_k ((.slc (v58 (uap .i64) y3)) :: f2_cs) (.bool r4)) (r5:Int) (h:qej s1 f2=some r5):Con D prog 270 [(.slc (v58 (qav (uap .i64)) s1)),.func (.func f2_k) f2_cs] (.int .i64 r5):=by
 refine zP call270 func270 rfl ntmps270 fun X w hT=>?_
 simp only [qej] at h
 refine Ml ?_
 refine M5 ?_
 obtain ⟨o6,h7,h⟩:=zB h
 refine zO (fun (s:Int)=>⟨[(0,.p (.slc (v58 (qav (uap .i64)) s1))),(1,.p (.func (.func f2_k) f2_cs)),(7,.p (.int .i64 (s1.length:Int))),(8,.p (.int .i64 s))],[]⟩) (fun (o:(Unit) ⊕ (Int))=>match o with | .inl o8=>tE (cX Tryz.f270 X w D hT) (.exit 0) ⟨[],[]⟩ | .inr o9=>tR prog Tryz.f270 (.int .i64 o9)) h7 ?_ ?_
 clear h h7
 intro t10 x h
 simp only [qcc] at h
 refine M9 ?_
 obtain ⟨h11,h⟩|⟨h11,h⟩:=zI h
 refine Mb ?_
 refine M6 ?_
 obtain ⟨x12,h13,h13a,h13b,h⟩:=zX h
 refine zU ?_
 obtain ⟨r14,h15,h⟩:=zB h
 refine zc (f2_h x12 _ h15) ?_
 refine zl<|zn ?_
 obtain ⟨h16,h⟩|⟨h16,h⟩:=zI h
 refine M4 ?_
 cases h
 exact ⟨rfl,zT results270⟩
 refine Me ?_
 exact M0 h
 exact M3 h
 rcases o6 with ⟨⟩ | r17
 try simp only at h
 refine Md ?_
 exact M1 h results270
 exact M8 h
theorem qg3 (c1:List Int) (r2:Bool) (h:qau c1=some r2):Con D prog 295 [(.slc (v58 (uap .i64) c1))] (.bool r2):=by
 refine zP call295 func295 rfl ntmps295 fun X w hT=>?_
 simp only [qau] at h
 refine Ml ?_
 refine M6 ?_
 exact M1 h results295
theorem qm3 (k1:List (List UInt8)) (r2:List (List Int)) (h:qdp k1=some r2):Con D prog 283 [(.slc (v58 uaq k1))] (.slc (v58 (qav (uap .i64)) r2)):=by
 refine zP call283 func283 rfl ntmps283 fun X w hT=>?_
 simp only [qdp] at h
 refine Ml ?_
 refine M6 ?_
 refine M6 ?_
 refine M5 ?_
 obtain ⟨a3,h4,h⟩:=zB h
 refine zO (fun (s:(List (List UInt8×Int))×List (List Int)×Int)=>⟨[(3,.mapo 9 1),(4,.own 32 1 0 s.2.1.length),(10,.p (.slc (v58 uaq k1))),(11,.p (.int .i64 (k1.length:Int))),(12,.p (.int .i64 s.2.2))],((9,.map 1 (v58 AV.p (qfj uaq s.1)) (v58 AV.p (qfw (uap .i64) s.1))) :: (32,.arr 64 1 1 (q5x 32 3 1 1 (uap .i64) s.2.1)) :: q4r 32 3 1 1 (uap .i64) s.2.1 [])⟩) (fun (o5:List (List Int))=>tE (cX Tryz.f283 X w D hT) (.exit 0) ⟨[(4,.own 32 1 0 o5.length)],((32,.arr 64 1 1 (q5x 32 3 1 1 (uap .i64) o5)) :: q4r 32 3 1 1 (uap .i64) o5 [])⟩) h4 ?_ ?_
 clear h h4
 intro s x h
 obtain ⟨a6,a7,t8⟩:=s
 simp only [qbu] at h
 dsimp only
 refine M9 ?_
 obtain ⟨h9,h⟩|⟨h9,h⟩:=zI h
 refine Mb ?_
 obtain ⟨x10,h11,h11a,h11b,h⟩:=zX h
 refine M6 ?_
 refine Mc ?_
 refine Ma ?_
 obtain ⟨h12,h⟩|⟨h12,h⟩:=zI h
 refine zj<|zk<|zn<|zr ?_
 obtain ⟨x13,h14,h14a,h14b,h⟩:=zX h
 obtain ⟨h15,h⟩:=qae h
 refine zW 11 ?_
 refine zM ⟨[(3,.mapo 9 1),(4,.own 32 1 0 ((a7.set (((qnq a6 x10).getD 0).toNat) (x13++[t8]))).length),(10,.p (.slc (v58 uaq k1))),(11,.p (.int .i64 (k1.length:Int))),(12,.p (.int .i64 t8))],((9,.map 1 (v58 AV.p (qfj uaq a6)) (v58 AV.p (qfw (uap .i64) a6))) :: (32,.arr 64 1 1 (q5x 32 3 1 1 (uap .i64) (a7.set (((qnq a6 x10).getD 0).toNat) (x13++[t8])))) :: q4r 32 3 1 1 (uap .i64) (a7.set (((qnq a6 x10).getD 0).toNat) (x13++[t8])) [])⟩ ?_
 refine zl<|yn<|zn<|zr ?_
 exact M0 h
 refine T5 ?_
 refine M6 ?_
 refine Mu ?_
 obtain ⟨h16,h⟩:=qae h
 refine zW 3 ?_
 refine zM ⟨[(3,.mapo 9 1),(5,.p (.int .i64 t8)),(7,.p (.int .i64 ((a7.length:Nat):Int))),(10,.p (.slc (v58 uaq k1))),(11,.p (.int .i64 (k1.length:Int))),(12,.p (.int .i64 t8)),(32,.own 32 1 0 (a7.length+1))],((9,.map 1 (v58 AV.p (qfj uaq (qrz a6 x10 ((a7.length:Nat):Int)))) (v58 AV.p (qfw (uap .i64) (qrz a6 x10 ((a7.length:Nat):Int))))) :: (32,.arr 64 1 1 (q5x 32 3 1 1 (uap .i64) (a7++[[]]))) :: q4r 32 3 1 1 (uap .i64) (a7++[[]]) [])⟩ ?_
 refine Mu ?_
 obtain ⟨x17,h18,h18a,h18b,h⟩:=zX h
 have hx_6509C:=h18b
 simp only [v3l,v3q,List.length_cons,List.length_nil,Nat.zero_add] at hx_6509C
 have h18N:=vhf h18
 obtain ⟨h19,h⟩:=qae h
 refine zW 11 ?_
 refine zM ⟨[(3,.mapo 9 1),(4,.own 32 1 0 (((a7++[[]]).set (((a7.length:Nat):Int).toNat) (x17++[t8]))).length),(10,.p (.slc (v58 uaq k1))),(11,.p (.int .i64 (k1.length:Int))),(12,.p (.int .i64 t8))],((9,.map 1 (v58 AV.p (qfj uaq (qrz a6 x10 ((a7.length:Nat):Int)))) (v58 AV.p (qfw (uap .i64) (qrz a6 x10 ((a7.length:Nat):Int))))) :: (32,.arr 64 1 1 (q5x 32 3 1 1 (uap .i64) ((a7++[[]]).set (((a7.length:Nat):Int).toNat) (x17++[t8])))) :: q4r 32 3 1 1 (uap .i64) ((a7++[[]]).set (((a7.length:Nat):Int).toNat) (x17++[t8])) [])⟩ ?_
 refine zl<|yn<|zn<|zr ?_
 exact M0 h
 exact M3 h
 try simp only at h
 refine Md ?_
 refine zU ?_
 refine zM ⟨[(44,.own 32 1 0 a3.length)],[(32,.arr 64 1 1 (v58 AV.p (v58 (qav (uap .i64)) a3)))]⟩ ?_
 refine qfa (avs:=[.own 32 1 0 a3.length,.p (.func (.func 295) [])]) 46 rfl (qa6 rfl) rfl func294 rfl call294 ntmps294 (by simp) (by simp only [go_sem,seval];all_goals rfl) ?_
 intro i20 w21 h22
 show AWp _ _ _ ⟨[(0,.own 32 1 0 a3.length),(1,.p (.func (.func 295) []))],[(32,.arr 64 1 1 (v58 AV.p (v58 (qav (uap .i64)) a3)))]⟩
 refine Ml ?_
 refine M6 ?_
 refine zU ?_
 obtain ⟨r23,h24,h⟩:=zB h
 refine zc (qof a3 (fun (y25:List Int)=>qau y25) 295 [] (fun y25 r h=>qg3 y25 r h) _ h24) ?_
 refine Mc ?_
 refine Ma ?_
 obtain ⟨h26,h⟩|⟨h26,h⟩:=zI h
 refine T5 ?_
 refine Mm ?_
 refine qa8 (by simp only [results294];simp only [go_sem,seval,h26];exact rfl) ?_
 exact M1 h results283
 have h26F:=v5k.2 h26
 refine Mj ?_
 refine Mq ?_
 obtain ⟨o27,h28,h⟩:=zB h
 refine zO (fun (s:List (List Int)×Int×Int)=>⟨[(0,.own 32 1 0 s.1.length),(1,.p (.func (.func 295) [])),(5,.p (.int .i64 s.2.1)),(6,.p (.int .i64 s.2.2))],[(32,.arr 64 1 1 (v58 AV.p (v58 (qav (uap .i64)) s.1)))]⟩) (fun (o29:List (List Int)×Int)=>tE ⟨prog,42,46,X,[(32,.arr 64 1 1 (v58 AV.p (v58 (qav (uap .i64)) a3)))],i20,w21,D,h22⟩ (.exit 0) ⟨[(0,.own 32 1 0 o29.1.length),(5,.p (.int .i64 o29.2))],[(32,.arr 64 1 1 (v58 AV.p (v58 (qav (uap .i64)) o29.1)))]⟩) h28 ?_ ?_
 clear h h4 h24 h26 h26F h28
 intro s x h
 obtain ⟨s30,i31,j32⟩:=s
 simp only [qcr] at h
 refine Mt ?_
 refine Ma ?_
 obtain ⟨h33,h⟩|⟨h33,h⟩:=zI h
 refine Mb ?_
 obtain ⟨x34,h35,h35a,h35b,h⟩:=zX h
 refine M6 ?_
 refine zU ?_
 obtain ⟨r36,h37,h⟩:=zB h
 refine zc (qg3 x34 _ h37) ?_
 refine Ma ?_
 obtain ⟨h38,h⟩|⟨h38,h⟩:=zI h
 refine Me ?_
 exact M0 h
 refine T5 ?_
 obtain ⟨x39,h40,h40a,h40b,h⟩:=zX h
 refine Mu ?_
 refine Mk ?_
 exact M0 h
 exact M3 h
 obtain ⟨s41,i42⟩:=o27
 try simp only at h
 refine Md ?_
 obtain ⟨h43,h⟩:=qae h
 obtain ⟨h44,h⟩:=qae h
 refine zW 3 ?_
 refine zCn (qav (uap .i64)) s41 32 i42.toNat (s41.length - i42.toNat) (by simp only [v3q,v3l,List.length_replicate] at *;omega) ?_
 refine zM ⟨[(0,.own 32 1 0 ((((s41.take i42.toNat)).length+((v4a (s41.length - i42.toNat) ([]:List Int))).length)+((s41.drop (i42.toNat+(s41.length - i42.toNat)))).length)),(5,.p (.int .i64 i42))],[(32,.arr 64 1 1 (v58 AV.p (v58 (qav (uap .i64)) (((s41.take i42.toNat)++(v4a (s41.length - i42.toNat) ([]:List Int)))++(s41.drop (i42.toNat+(s41.length - i42.toNat)))))))]⟩ ?_
 refine T6 ?_
 obtain ⟨h45,h⟩:=qae h
 obtain ⟨h46,h⟩:=qae h
 refine Ma ?_
 refine zL ⟨[(4,.own 32 1 0 i42.toNat)],[(32,.arr 64 1 1 (v58 AV.p (v58 (qav (uap .i64)) (((s41.take i42.toNat)++(v4a (s41.length - i42.toNat) ([]:List Int)))++(s41.drop (i42.toNat+(s41.length - i42.toNat)))))))]⟩ ?_
 obtain ⟨l47,h48,h⟩:=zB h
 replace h48:=v6z h48
 rw [h48]
 obtain ⟨h49,h⟩:=qae h
 obtain ⟨l50,h51,h⟩:=zB h
 replace h51:=v6z h51
 have h51L:l50.length=i42.toNat:=by rw [←h51];exact List.length_take_of_le h49
 refine q1u 4 32 1 i42.toNat 64 1 (es':=v58 AV.p (v58 (qav (uap .i64)) l50)) (by exact rfl) (by exact rfl) (by rw [←List.map_take,←List.map_take,h51]) rfl ?_
 refine zL ⟨[(4,.own 32 2 0 l50.length)],[(32,.arr 64 1 2 (v58 AV.p (v58 (qav (uap .i64)) l50)))]⟩ ?_
 clear h51L h49
 refine zq ?_
 refine qa8 (by simp only [results294];simp only [go_sem,seval,h26F];exact rfl) ?_
 exact M1 h results283
theorem qxc (t1:Table) (s2:Int) (r3:Partition) (h:qk9 t1 s2=some r3):Con False prog 254 [(qaa t1),(.int .u32 s2)] (qij r3):=by
 refine zP call254 func254 rfl ntmps254 fun X w hT=>?_
 simp only [qk9] at h
 refine Ml ?_
 refine M6 ?_
 refine zU ?_
 obtain ⟨r4,h5,h⟩:=zB h
 refine zc (qjl s2 _ h5) ?_
 refine M6 ?_
 obtain ⟨h6,h⟩:=qae h
 obtain ⟨h7,h⟩:=qae h
 refine M5 ?_
 obtain ⟨k8,h9,h⟩:=zB h
 refine zO (fun (s:List (List UInt8)×Int)=>⟨[(2,.loc 2 1 0 0),(4,.loc 4 1 0 0),(5,.p (.slc (v58 (uap .i64) r4))),(6,.own 19 1 0 s.1.length),(21,.p (.slc (v58 qag t1.Rows))),(22,.p (.int .i64 (t1.Rows.length:Int))),(23,.p (.int .i64 s.2))],[(2,.arr 29 3 1 [.p (qaa t1)]),(4,.arr 337 2 1 [.agg [.p (.int .i64 0),.nils]]),(19,.arr 9 1 1 (v58 AV.p (v58 uaq s.1)))]⟩) (fun (o10:List (List UInt8))=>tE (cX Tryz.f254 X w False hT) (.exit 0) ⟨[(2,.loc 2 1 0 0),(4,.loc 4 1 0 0),(6,.own 19 1 0 o10.length)],[(2,.arr 29 3 1 [.p (qaa t1)]),(4,.arr 337 2 1 [.agg [.p (.int .i64 0),.nils]]),(19,.arr 9 1 1 (v58 AV.p (v58 uaq o10)))]⟩) h9 ?_ ?_
 clear h h5 h6 h7 h9
 intro s x h
 obtain ⟨k11,t12⟩:=s
 simp only [qgt] at h
 dsimp only
 refine M9 ?_
 obtain ⟨h13,h⟩|⟨h13,h⟩:=zI h
 refine Mb ?_
 obtain ⟨x14,h15,h15a,h15b,h⟩:=zX h
 refine M6 ?_
 refine M5 ?_
 obtain ⟨o16,h17,h⟩:=zB h
 refine zO (fun (s:Bool×List UInt8×Int)=>⟨[(2,.loc 2 1 0 0),(4,.loc 4 1 0 0),(5,.p (.slc (v58 (uap .i64) r4))),(6,.own 19 1 0 k11.length),(7,.p (.int .i64 t12)),(8,.loc 8 1 0 0),(9,.loc 9 1 0 0),(21,.p (.slc (v58 qag t1.Rows))),(22,.p (.int .i64 (t1.Rows.length:Int))),(23,.p (.int .i64 t12)),(28,.p (.slc (v58 (uap .i64) r4))),(29,.p (.int .i64 (r4.length:Int))),(30,.p (.int .i64 s.2.2))],[(2,.arr 29 3 1 [.p (qaa t1)]),(4,.arr 337 2 1 [.agg [.p (.int .i64 0),.nils]]),(8,.arr 94 2 1 [.p (qag x14)]),(9,.arr 378 2 1 [.agg [(if s.1=true then .loc 9 1 0 0 else .p .nilp),.own 100009 1 0 s.2.1.length]]),(19,.arr 9 1 1 (v58 AV.p (v58 uaq k11))),(100009,.arr 5 1 1 (qez s.2.1))]⟩) (fun (o18:Bool×List UInt8)=>tE (cX Tryz.f254 X w False hT) (.exit 2) ⟨[(2,.loc 2 1 0 0),(4,.loc 4 1 0 0),(5,.p (.slc (v58 (uap .i64) r4))),(6,.own 19 1 0 k11.length),(7,.p (.int .i64 t12)),(9,.loc 9 1 0 0),(21,.p (.slc (v58 qag t1.Rows))),(22,.p (.int .i64 (t1.Rows.length:Int))),(23,.p (.int .i64 t12))],[(2,.arr 29 3 1 [.p (qaa t1)]),(4,.arr 337 2 1 [.agg [.p (.int .i64 0),.nils]]),(9,.arr 378 2 1 [.agg [(if o18.1=true then .loc 9 1 0 0 else .p .nilp),.own 100009 1 0 o18.2.length]]),(19,.arr 9 1 1 (v58 AV.p (v58 uaq k11))),(100009,.arr 5 1 1 (qez o18.2))]⟩) h17 ?_ ?_
 clear h h13 h15 h15a h15b h17
 intro s x h
 obtain ⟨b19,b20,t21⟩:=s
 simp only [qgs] at h
 dsimp only
 refine M9 ?_
 obtain ⟨h22,h⟩|⟨h22,h⟩:=zI h
 refine Mb ?_
 obtain ⟨x23,h24,h24a,h24b,h⟩:=zX h
 refine M6 ?_
 obtain ⟨x25,h26,h26a,h26b,h⟩:=zX h
 refine zU ?_
 obtain ⟨r27,h28,h⟩:=zB h
 refine zc (qvh x25 _ h28) ?_
 refine Mu ?_
 refine zU ?_
 obtain ⟨h29,h⟩:=qae h
 refine zBw bld 9 100009 b20 r27.1 ((b20.length+(r27.1).length)) h29 ?_
 refine zM ⟨[(2,.loc 2 1 0 0),(4,.loc 4 1 0 0),(5,.p (.slc (v58 (uap .i64) r4))),(6,.own 19 1 0 k11.length),(7,.p (.int .i64 t12)),(8,.loc 8 1 0 0),(9,.loc 9 1 0 0),(21,.p (.slc (v58 qag t1.Rows))),(22,.p (.int .i64 (t1.Rows.length:Int))),(23,.p (.int .i64 t12)),(28,.p (.slc (v58 (uap .i64) r4))),(29,.p (.int .i64 (r4.length:Int))),(30,.p (.int .i64 t21)),(44,.p (.tup [.int .i64 (r27.1.length:Int),.nili]))],[(2,.arr 29 3 1 [.p (qaa t1)]),(4,.arr 337 2 1 [.agg [.p (.int .i64 0),.nils]]),(8,.arr 94 2 1 [.p (qag x14)]),(9,.arr 378 2 1 [.agg [.loc 9 1 0 0,.own 100009 1 0 (b20.length+(r27.1).length)]]),(19,.arr 9 1 1 (v58 AV.p (v58 uaq k11))),(100009,.arr 5 1 1 (qez (b20++r27.1)))]⟩ ?_
 refine zl<|yn<|zn<|zr ?_
 exact M0 h
 exact M3 h
 obtain ⟨b30,b31⟩:=o16
 try simp only at h
 refine zA<|yh<|zn<|zr ?_
 refine zU ?_
 refine zBs bld 9 100009 b31 ?_
 refine zM ⟨[(2,.loc 2 1 0 0),(4,.loc 4 1 0 0),(5,.p (.slc (v58 (uap .i64) r4))),(6,.own 19 1 0 k11.length),(21,.p (.slc (v58 qag t1.Rows))),(22,.p (.int .i64 (t1.Rows.length:Int))),(23,.p (.int .i64 t12)),(46,.own 19 1 0 k11.length),(47,.p (.int .i64 t12)),(48,.p (.str b31))],[(2,.arr 29 3 1 [.p (qaa t1)]),(4,.arr 337 2 1 [.agg [.p (.int .i64 0),.nils]]),(19,.arr 9 1 1 (v58 AV.p (v58 uaq k11)))]⟩ ?_
 obtain ⟨x32,h33,h33a,h33b,h⟩:=zX h
 refine Mk ?_
 exact M0 h
 exact M3 h
 try simp only at h
 refine zA<|yh<|zn<|zs ?_
 refine zL ⟨[(2,.loc 2 1 0 0),(4,.loc 4 1 0 0),(6,.p (.slc (v58 uaq k8)))],[(2,.arr 29 3 1 [.p (qaa t1)]),(4,.arr 337 2 1 [.agg [.p (.int .i64 0),.nils]])]⟩ ?_
 refine zd ?_
 refine yU ?_
 obtain ⟨r34,h35,h⟩:=zB h
 refine yc (qm3 k8 _ h35) ?_
 exact Mp h results254
theorem qxd (t1:Table) (s2:Int) (r3:Partition×Int) (h:qla t1 s2=some r3):Con False prog 209 [(qaa t1),(.int .u32 s2)] (.tup [(qij r3.1),(.int .i64 r3.2)]):=by
 refine zP call209 func209 rfl ntmps209 fun X w hT=>?_
 simp only [qla] at h
 refine Ml ?_
 refine Mc ?_
 refine zU ?_
 obtain ⟨r4,h5,h⟩:=zB h
 refine zc (qfh t1 _ h5) ?_
 refine M6 ?_
 refine Ma ?_
 obtain ⟨h6,h⟩|⟨h6,h⟩:=zI h
 exact M2 h results209
 refine Mj ?_
 refine zU ?_
 obtain ⟨r7,h8,h⟩:=zB h
 refine zc (qsn t1 s2 _ h8) ?_
 refine Ma ?_
 obtain ⟨h9,h⟩|⟨h9,h⟩:=zI h
 refine Mi ?_
 refine zU ?_
 obtain ⟨r10,h11,h⟩:=zB h
 refine zc (qxc t1 s2 _ h11) ?_
 exact M1 h results209
 exact M2 h results209
theorem qqc (t1:Table) (s2:Int) (b3:Row→Row→Option (Bool)) (b3_k:FuncId) (b3_cs:List PV) (b3_h:∀(y4:Row) (y5:Row) (r6:Bool),b3 y4 y5=some r6→Con False prog b3_k ((qag y4) :: (qag y5) :: b3_cs) (.bool r6)) (r7:List (List Int)) (h:qjs t1 s2 b3=some r7):Ip False prog 139 [.p (qaa t1),.p (.int .u32 s2),.p (.func (.func b3_k) b3_cs)] [] (.own 300000 1 0 r7.length) [(300000,.arr 37 1 1 (v58 AV.p (v58 (qav (uap .i64)) r7)))]:=by
 simp only [qjs] at h
 refine Ip.of_awp 0 ⟨[(6,.own 300000 1 0 r7.length)],[(300000,.arr 37 1 1 (v58 AV.p (v58 (qav (uap .i64)) r7)))]⟩ call139 func139 rfl ntmps139 (by simp) (by simp only [results139];simp only [go_sem,seval];all_goals exact rfl) fun X i8 w9 h10=>?_
 show AWp _ _ _ ⟨[(0,.p (qaa t1)),(1,.p (.int .u32 s2)),(2,.p (.func (.func b3_k) b3_cs))],[]⟩
 refine Ml ?_
 refine M6 ?_
 refine zU ?_
 obtain ⟨r11,h12,h⟩:=zB h
 refine zc (qxd t1 s2 _ h12) ?_
 refine M6 ?_
 refine M5 ?_
 obtain ⟨o13,h14,h⟩:=zB h
 refine zO (fun (s:List (List Int)×Int)=>⟨[(2,.p (.func (.func b3_k) b3_cs)),(3,.loc 3 1 0 0),(9,.own 72 1 0 s.1.length),(23,.p (.slc (v58 (qav (uap .i64)) r11.1.Classes))),(24,.p (.int .i64 (r11.1.Classes.length:Int))),(25,.p (.int .i64 s.2))],[(3,.arr 29 3 1 [.p (qaa t1)]),(72,.arr 37 1 1 (v58 AV.p (v58 (qav (uap .i64)) s.1)))]⟩) (fun (o15:List (List Int))=>tE ⟨prog,77,0,X,[],i8,w9,False,h10⟩ (.exit 0) ⟨[(9,.own 72 1 0 o15.length)],[(72,.arr 37 1 1 (v58 AV.p (v58 (qav (uap .i64)) o15)))]⟩) h14 ?_ ?_
 clear h h12 h14
 intro s x h
 obtain ⟨o16,t17⟩:=s
 simp only [qhj] at h
 dsimp only
 refine M9 ?_
 obtain ⟨h18,h⟩|⟨h18,h⟩:=zI h
 refine Mb ?_
 obtain ⟨x19,h20,h20a,h20b,h⟩:=zX h
 refine M6 ?_
 refine Mq ?_
 obtain ⟨o21,h22,h⟩:=zB h
 refine zO (fun (s:List (List Int)×Int)=>⟨[(2,.p (.func (.func b3_k) b3_cs)),(3,.loc 3 1 0 0),(9,.own 72 1 0 s.1.length),(11,.p (.slc (v58 (uap .i64) x19))),(23,.p (.slc (v58 (qav (uap .i64)) r11.1.Classes))),(24,.p (.int .i64 (r11.1.Classes.length:Int))),(25,.p (.int .i64 t17)),(29,.p (.slc (v58 (uap .i64) x19))),(30,.p (.int .i64 (x19.length:Int))),(31,.p (.int .i64 s.2))],[(3,.arr 29 3 1 [.p (qaa t1)]),(72,.arr 37 1 1 (v58 AV.p (v58 (qav (uap .i64)) s.1)))]⟩) (fun (o23:List (List Int))=>tE ⟨prog,77,0,X,[],i8,w9,False,h10⟩ (.exit 2) ⟨[(2,.p (.func (.func b3_k) b3_cs)),(3,.loc 3 1 0 0),(9,.own 72 1 0 o23.length),(23,.p (.slc (v58 (qav (uap .i64)) r11.1.Classes))),(24,.p (.int .i64 (r11.1.Classes.length:Int))),(25,.p (.int .i64 t17))],[(3,.arr 29 3 1 [.p (qaa t1)]),(72,.arr 37 1 1 (v58 AV.p (v58 (qav (uap .i64)) o23)))]⟩) h22 ?_ ?_
 clear h h18 h20 h20a h20b h22
 intro s x h
 obtain ⟨o24,t25⟩:=s
 simp only [qft] at h
 dsimp only
 refine M9 ?_
 obtain ⟨h26,h⟩|⟨h26,h⟩:=zI h
 refine Mb ?_
 obtain ⟨x27,h28,h28a,h28b,h⟩:=zX h
 refine M6 ?_
 obtain ⟨h29,h⟩:=qae h
 obtain ⟨h30,h⟩:=qae h
 refine Mq ?_
 obtain ⟨o31,h32,h⟩:=zB h
 refine zO (fun (s:List (List Int)×Int)=>⟨[(2,.p (.func (.func b3_k) b3_cs)),(3,.loc 3 1 0 0),(9,.own 72 1 0 s.1.length),(11,.p (.slc (v58 (uap .i64) x19))),(13,.p (.int .i64 x27)),(23,.p (.slc (v58 (qav (uap .i64)) r11.1.Classes))),(24,.p (.int .i64 (r11.1.Classes.length:Int))),(25,.p (.int .i64 t17)),(29,.p (.slc (v58 (uap .i64) x19))),(30,.p (.int .i64 (x19.length:Int))),(31,.p (.int .i64 t25)),(39,.p (.slc (v58 (uap .i64) ((x19.drop (v67.wrap (t25+1)).toNat).take (x19.length - (v67.wrap (t25+1)).toNat))))),(40,.p (.int .i64 (((x19.drop (v67.wrap (t25+1)).toNat).take (x19.length - (v67.wrap (t25+1)).toNat)).length:Int))),(41,.p (.int .i64 s.2))],[(3,.arr 29 3 1 [.p (qaa t1)]),(72,.arr 37 1 1 (v58 AV.p (v58 (qav (uap .i64)) s.1)))]⟩) (fun (o33:List (List Int))=>tE ⟨prog,77,0,X,[],i8,w9,False,h10⟩ (.exit 4) ⟨[(2,.p (.func (.func b3_k) b3_cs)),(3,.loc 3 1 0 0),(9,.own 72 1 0 o33.length),(11,.p (.slc (v58 (uap .i64) x19))),(23,.p (.slc (v58 (qav (uap .i64)) r11.1.Classes))),(24,.p (.int .i64 (r11.1.Classes.length:Int))),(25,.p (.int .i64 t17)),(29,.p (.slc (v58 (uap .i64) x19))),(30,.p (.int .i64 (x19.length:Int))),(31,.p (.int .i64 t25))],[(3,.arr 29 3 1 [.p (qaa t1)]),(72,.arr 37 1 1 (v58 AV.p (v58 (qav (uap .i64)) o33)))]⟩) h32 ?_ ?_
 clear h h26 h28 h28a h28b h29 h30 h32
 intro s x h
 obtain ⟨o34,t35⟩:=s
 simp only [qfs] at h
 dsimp only
 refine M9 ?_
 obtain ⟨h36,h⟩|⟨h36,h⟩:=zI h
 refine Mb ?_
 obtain ⟨x37,h38,h38a,h38b,h⟩:=zX h
 refine Mv ?_
 obtain ⟨x39,h40,h40a,h40b,h⟩:=zX h
 obtain ⟨x41,h42,h42a,h42b,h⟩:=zX h
 refine yU ?_
 obtain ⟨r43,h44,h⟩:=zB h
 refine yc (b3_h x39 x41 _ h44) ?_
 refine yd<|zn ?_
 obtain ⟨h45,h⟩|⟨h45,h⟩:=zI h
 refine zi<|zd ?_
 obtain ⟨h46,h⟩:=qae h
 refine T3 ?_
 exact M0 h
 refine Me ?_
 exact M0 h
 exact M3 h
 try simp only at h
 refine Tc ?_
 exact M0 h
 exact M3 h
 try simp only at h
 refine Tc ?_
 exact M0 h
 exact M3 h
 try simp only at h
 refine Md ?_
 refine Ma ?_
 refine zL ⟨[(6,.own 72 1 0 o13.length)],[(72,.arr 37 1 1 (v58 AV.p (v58 (qav (uap .i64)) o13)))]⟩ ?_
 refine zSwA 72 300000 ?_
 refine zL ⟨[(6,.own 300000 1 0 o13.length)],[(300000,.arr 37 1 1 (v58 AV.p (v58 (qav (uap .i64)) o13)))]⟩ ?_
 refine zq ?_
 exact Mo h
theorem qrp (d1:Database) (c2:Constraint) (r3:List (List Int)×Int) (h:qdj d1 c2=some r3):Con False prog 73 [(qa4 d1),(qak c2)] (.tup [(.slc (v58 (qav (uap .i64)) r3.1)),(.int .i64 r3.2)]):=by
 refine zP call73 func73 rfl ntmps73 fun X w hT=>?_
 simp only [qdj] at h
 refine Ml ?_
 refine M6 ?_
 refine zU ?_
 obtain ⟨r4,h5,h⟩:=zB h
 refine zc (qm1 d1 c2.Table _ h5) ?_
 refine M6 ?_
 refine M6 ?_
 refine Mc ?_
 refine Tb ?_
 refine Ma ?_
 obtain ⟨h6,h⟩|⟨h6,h⟩:=zI h
 refine T9 ?_
 refine zM ⟨[(9,.p (.int .i64 0)),(32,.p (qaa r4.1)),(35,.p (.int .u32 c2.FD.Lhs)),(36,.p (.func (.func 140) [.imm [.str c2.Name,.str c2.Table,.int .i64 c2.Kind,.int .u32 c2.FD.Lhs,.int .u32 c2.FD.Rhs,.int .u32 c2.MVD.Lhs,.int .u32 c2.MVD.Rhs,.str c2.IND.From,.slc (v58 (uap .i64) c2.IND.Lhs),.str c2.IND.To,.slc (v58 (uap .i64) c2.IND.Rhs),.slc (v58 (uap .i64) c2.CFD.Lhs),.int .i64 c2.CFD.Rhs,.slc (v58 qd1 c2.CFD.Pattern),.slc (v58 (uap .i64) c2.OD.Lhs),.slc (v58 (uap .i64) c2.OD.Rhs),.int .i64 c2.Denial.Vars,.slc (v58 qcu c2.Denial.Atoms)]]))],[]⟩ ?_
 obtain ⟨r7,h8,h⟩:=zB h
 refine zIp [] (qqc r4.1 c2.FD.Lhs (fun (y9:Row) (y10:Row)=>qee y9 y10 c2) 140 [.imm [.str c2.Name,.str c2.Table,.int .i64 c2.Kind,.int .u32 c2.FD.Lhs,.int .u32 c2.FD.Rhs,.int .u32 c2.MVD.Lhs,.int .u32 c2.MVD.Rhs,.str c2.IND.From,.slc (v58 (uap .i64) c2.IND.Lhs),.str c2.IND.To,.slc (v58 (uap .i64) c2.IND.Rhs),.slc (v58 (uap .i64) c2.CFD.Lhs),.int .i64 c2.CFD.Rhs,.slc (v58 qd1 c2.CFD.Pattern),.slc (v58 (uap .i64) c2.OD.Lhs),.slc (v58 (uap .i64) c2.OD.Rhs),.int .i64 c2.Denial.Vars,.slc (v58 qcu c2.Denial.Atoms)]] (fun y9 y10 r h=>qp3 y9 y10 c2 r h) _ h8) ?_
 refine vyh 300000 320037 ?_
 refine zM ⟨[(9,.p (.int .i64 0)),(37,.own 320037 1 0 r7.length)],[(320037,.arr 37 1 1 (v58 AV.p (v58 (qav (uap .i64)) r7)))]⟩ ?_
 refine Mz ?_
 refine Ma ?_
 refine Mj ?_
 refine Ma ?_
 obtain ⟨h11,h⟩|⟨h11,h⟩:=zI h
 exact M2 h results73
 refine Mi ?_
 refine zU ?_
 refine zM ⟨[(8,.own 320037 1 0 r7.length),(98,.own 320037 1 0 r7.length)],[(320037,.arr 37 1 1 (v58 AV.p (v58 (qav (uap .i64)) r7)))]⟩ ?_
 obtain ⟨l12,h13,h⟩:=zB h
 refine zSF srt68 (qav (uap .i64)) (fun (y14:List Int) (y15:List Int)=>qab y14 y15) h13 (fun y14 y15 r h=>qa1 y14 y15 r h) ?_
 have h16:=qns h13
 refine zM ⟨[(8,.own 320037 1 0 l12.length),(99,.p (.tup []))],[(320037,.arr 37 1 1 (v58 AV.p (v58 (qav (uap .i64)) l12)))]⟩ ?_
 clear h16
 refine T6 ?_
 exact M1 h results73
 refine Mx ?_
 refine Ma ?_
 obtain ⟨h17,h⟩|⟨h17,h⟩:=zI h
 refine T5 ?_
 refine Mu ?_
 refine zU ?_
 refine zM ⟨[(9,.p (.int .i64 0)),(47,.p (qaa r4.1)),(50,.p (.int .u32 c2.MVD.Lhs)),(51,.p (.func (.func 142) [.imm [.str r4.1.Name,.slc (v58 uaq r4.1.Attrs),.slc (v58 qag r4.1.Rows)],.imm [.int .u32 (v68.wrap ((BitVec.ofInt 32 c2.MVD.Lhs ||| (BitVec.ofInt 32 c2.MVD.Rhs)).toNat:Int))]]))],[]⟩ ?_
 obtain ⟨r18,h19,h⟩:=zB h
 refine zIp [] (qqc r4.1 c2.MVD.Lhs (fun (y20:Row) (y21:Row)=>qg8 y20 y21 r4.1 (v68.wrap ((BitVec.ofInt 32 c2.MVD.Lhs ||| (BitVec.ofInt 32 c2.MVD.Rhs)).toNat:Int))) 142 [.imm [.str r4.1.Name,.slc (v58 uaq r4.1.Attrs),.slc (v58 qag r4.1.Rows)],.imm [.int .u32 (v68.wrap ((BitVec.ofInt 32 c2.MVD.Lhs ||| (BitVec.ofInt 32 c2.MVD.Rhs)).toNat:Int))]] (fun y20 y21 r h=>qp4 y20 y21 r4.1 (v68.wrap ((BitVec.ofInt 32 c2.MVD.Lhs ||| (BitVec.ofInt 32 c2.MVD.Rhs)).toNat:Int)) r h) _ h19) ?_
 refine vyh 300000 320052 ?_
 refine zM ⟨[(9,.p (.int .i64 0)),(52,.own 320052 1 0 r18.length)],[(320052,.arr 37 1 1 (v58 AV.p (v58 (qav (uap .i64)) r18)))]⟩ ?_
 refine Mz ?_
 refine Ma ?_
 refine Mj ?_
 refine Ma ?_
 obtain ⟨h22,h⟩|⟨h22,h⟩:=zI h
 exact M2 h results73
 refine Mi ?_
 refine zU ?_
 refine zM ⟨[(8,.own 320052 1 0 r18.length),(98,.own 320052 1 0 r18.length)],[(320052,.arr 37 1 1 (v58 AV.p (v58 (qav (uap .i64)) r18)))]⟩ ?_
 obtain ⟨l23,h24,h⟩:=zB h
 refine zSF srt68 (qav (uap .i64)) (fun (y25:List Int) (y26:List Int)=>qab y25 y26) h24 (fun y25 y26 r h=>qa1 y25 y26 r h) ?_
 have h27:=qns h24
 refine zM ⟨[(8,.own 320052 1 0 l23.length),(99,.p (.tup []))],[(320052,.arr 37 1 1 (v58 AV.p (v58 (qav (uap .i64)) l23)))]⟩ ?_
 clear h27
 refine T6 ?_
 exact M1 h results73
 refine Mx ?_
 refine Ma ?_
 obtain ⟨h28,h⟩|⟨h28,h⟩:=zI h
 refine T5 ?_
 refine M6 ?_
 refine zU ?_
 obtain ⟨r29,h30,h⟩:=zB h
 refine zc (qpb d1 c2.IND _ h30) ?_
 refine M6 ?_
 refine Mq ?_
 obtain ⟨o31,h32,h⟩:=zB h
 refine zO (fun (s:List (List Int)×Int)=>⟨[(8,.own 72 1 0 s.1.length),(9,.p (.int .i64 r29.2)),(62,.p (.slc (v58 (uap .i64) r29.1))),(63,.p (.int .i64 (r29.1.length:Int))),(64,.p (.int .i64 s.2))],[(72,.arr 37 1 1 (v58 AV.p (v58 (qav (uap .i64)) s.1)))]⟩) (fun (o33:List (List Int))=>tE (cX Tryz.f73 X w False hT) (.exit 1) ⟨[(8,.own 72 1 0 o33.length),(9,.p (.int .i64 r29.2))],[(72,.arr 37 1 1 (v58 AV.p (v58 (qav (uap .i64)) o33)))]⟩) h32 ?_ ?_
 clear h h5 h6 h17 h28 h30 h32
 intro s x h
 obtain ⟨o34,t35⟩:=s
 simp only [qlu] at h
 dsimp only
 refine M9 ?_
 obtain ⟨h36,h⟩|⟨h36,h⟩:=zI h
 refine Mb ?_
 obtain ⟨x37,h38,h38a,h38b,h⟩:=zX h
 refine Mu ?_
 refine zW 4 ?_
 refine zM ⟨[(9,.p (.int .i64 r29.2)),(62,.p (.slc (v58 (uap .i64) r29.1))),(63,.p (.int .i64 (r29.1.length:Int))),(64,.p (.int .i64 t35)),(68,.own 72 1 0 o34.length),(71,.own 71 1 0 1)],[(71,.arr 37 1 1 [.p (.slc (v58 (uap .i64) [x37]))]),(72,.arr 37 1 1 (v58 AV.p (v58 (qav (uap .i64)) o34)))]⟩ ?_
 obtain ⟨h39,h⟩:=qae h
 refine Mk ?_
 exact M0 h
 exact M3 h
 try simp only at h
 refine zA<|yh<|yn<|zn<|zs<|zs<|zr ?_
 refine Ma ?_
 obtain ⟨h40,h⟩|⟨h40,h⟩:=zI h
 exact M2 h results73
 refine Mj ?_
 refine Ma ?_
 obtain ⟨h41,h⟩|⟨h41,h⟩:=zI h
 exact M2 h results73
 refine Mi ?_
 refine zU ?_
 refine zM ⟨[(8,.own 72 1 0 o31.length),(98,.own 72 1 0 o31.length)],[(72,.arr 37 1 1 (v58 AV.p (v58 (qav (uap .i64)) o31)))]⟩ ?_
 obtain ⟨l42,h43,h⟩:=zB h
 refine zSF srt68 (qav (uap .i64)) (fun (y44:List Int) (y45:List Int)=>qab y44 y45) h43 (fun y44 y45 r h=>qa1 y44 y45 r h) ?_
 have h46:=qns h43
 refine zM ⟨[(8,.own 72 1 0 l42.length),(99,.p (.tup []))],[(72,.arr 37 1 1 (v58 AV.p (v58 (qav (uap .i64)) l42)))]⟩ ?_
 clear h46
 refine T6 ?_
 exact M1 h results73
 refine Mx ?_
 refine Ma ?_
 obtain ⟨h47,h⟩|⟨h47,h⟩:=zI h
 refine T9 ?_
 obtain ⟨r48,h49,h⟩:=zB h
 refine zIp [] (qis r4.1 c2.CFD _ h49) ?_
 refine vyh 300000 320080 ?_
 refine zM ⟨[(80,.tup [.own 320080 1 0 (r48.1).length,.p (.int .i64 r48.2)])],[(320080,.arr 37 1 1 (v58 AV.p (v58 (qav (uap .i64)) r48.1)))]⟩ ?_
 refine Mz ?_
 refine Ma ?_
 obtain ⟨h50,h⟩|⟨h50,h⟩:=zI h
 exact M2 h results73
 refine Mj ?_
 refine Ma ?_
 obtain ⟨h51,h⟩|⟨h51,h⟩:=zI h
 exact M2 h results73
 refine Mi ?_
 refine zU ?_
 refine zM ⟨[(8,.own 320080 1 0 (r48.1).length),(98,.own 320080 1 0 (r48.1).length)],[(320080,.arr 37 1 1 (v58 AV.p (v58 (qav (uap .i64)) r48.1)))]⟩ ?_
 obtain ⟨l52,h53,h⟩:=zB h
 refine zSF srt68 (qav (uap .i64)) (fun (y54:List Int) (y55:List Int)=>qab y54 y55) h53 (fun y54 y55 r h=>qa1 y54 y55 r h) ?_
 have h56:=qns h53
 refine zM ⟨[(8,.own 320080 1 0 l52.length),(99,.p (.tup []))],[(320080,.arr 37 1 1 (v58 AV.p (v58 (qav (uap .i64)) l52)))]⟩ ?_
 clear h56
 refine T6 ?_
 exact M1 h results73
 refine Mx ?_
 refine Ma ?_
 obtain ⟨h57,h⟩|⟨h57,h⟩:=zI h
 refine T9 ?_
 obtain ⟨r58,h59,h⟩:=zB h
 refine zIp [] (qkj r4.1 c2.OD _ h59) ?_
 refine vyh 300000 320089 ?_
 refine zM ⟨[(89,.tup [.own 320089 1 0 (r58.1).length,.p (.int .i64 r58.2)])],[(320089,.arr 37 1 1 (v58 AV.p (v58 (qav (uap .i64)) r58.1)))]⟩ ?_
 refine Mz ?_
 refine Ma ?_
 obtain ⟨h60,h⟩|⟨h60,h⟩:=zI h
 exact M2 h results73
 refine Mj ?_
 refine Ma ?_
 obtain ⟨h61,h⟩|⟨h61,h⟩:=zI h
 exact M2 h results73
 refine Mi ?_
 refine zU ?_
 refine zM ⟨[(8,.own 320089 1 0 (r58.1).length),(98,.own 320089 1 0 (r58.1).length)],[(320089,.arr 37 1 1 (v58 AV.p (v58 (qav (uap .i64)) r58.1)))]⟩ ?_
 obtain ⟨l62,h63,h⟩:=zB h
 refine zSF srt68 (qav (uap .i64)) (fun (y64:List Int) (y65:List Int)=>qab y64 y65) h63 (fun y64 y65 r h=>qa1 y64 y65 r h) ?_
 have h66:=qns h63
 refine zM ⟨[(8,.own 320089 1 0 l62.length),(99,.p (.tup []))],[(320089,.arr 37 1 1 (v58 AV.p (v58 (qav (uap .i64)) l62)))]⟩ ?_
 clear h66
 refine T6 ?_
 exact M1 h results73
 refine zj<|zr ?_
 refine zU ?_
 obtain ⟨r67,h68,h⟩:=zB h
 refine zIp [] (qlg r4.1 c2.Denial _ h68) ?_
 refine vyh 300000 320027 ?_
 refine zM ⟨[(27,.tup [.own 320027 1 0 (r67.1).length,.p (.int .i64 r67.2)])],[(320027,.arr 37 1 1 (v58 AV.p (v58 (qav (uap .i64)) r67.1)))]⟩ ?_
 refine Mz ?_
 refine Ma ?_
 obtain ⟨h69,h⟩|⟨h69,h⟩:=zI h
 exact M2 h results73
 refine Mj ?_
 refine Ma ?_
 obtain ⟨h70,h⟩|⟨h70,h⟩:=zI h
 exact M2 h results73
 refine Mi ?_
 refine zU ?_
 refine zM ⟨[(8,.own 320027 1 0 (r67.1).length),(98,.own 320027 1 0 (r67.1).length)],[(320027,.arr 37 1 1 (v58 AV.p (v58 (qav (uap .i64)) r67.1)))]⟩ ?_
 obtain ⟨l71,h72,h⟩:=zB h
 refine zSF srt68 (qav (uap .i64)) (fun (y73:List Int) (y74:List Int)=>qab y73 y74) h72 (fun y73 y74 r h=>qa1 y73 y74 r h) ?_
 have h75:=qns h72
 refine zM ⟨[(8,.own 320027 1 0 l71.length),(99,.p (.tup []))],[(320027,.arr 37 1 1 (v58 AV.p (v58 (qav (uap .i64)) l71)))]⟩ ?_
 clear h75
 refine T6 ?_
 exact M1 h results73
theorem q1b (d1:Database) (l2:List Constraint) (r3:List Violation×Int) (h:qov d1 l2=some r3):Con False prog 27 [(qa4 d1),(.slc (v58 qak l2))] (.tup [(.slc (v58 qek r3.1)),(.int .i64 r3.2)]):=by
 refine zP call27 func27 rfl ntmps27 fun X w hT=>?_
 simp only [qov] at h
 refine Ml ?_
 refine Mc ?_
 refine zU ?_
 obtain ⟨r4,h5,h⟩:=zB h
 refine zc (qxb d1 l2 _ h5) ?_
 refine M6 ?_
 refine Ma ?_
 obtain ⟨h6,h⟩|⟨h6,h⟩:=zI h
 exact M2 h results27
 refine Mi ?_
 refine M5 ?_
 obtain ⟨o7,h8,h⟩:=zB h
 refine zO (fun (s:List Violation×Int)=>⟨[(2,.loc 2 1 0 0),(8,.own 51 1 0 s.1.length),(24,.p (.slc (v58 qak l2))),(25,.p (.int .i64 (l2.length:Int))),(26,.p (.int .i64 s.2))],[(2,.arr 49 1 1 [.p (qa4 d1)]),(51,.arr 185 2 1 (v58 AV.p (v58 qek s.1)))]⟩) (fun (o:(List Violation) ⊕ (List Violation×Int))=>match o with | .inl o9=>tE (cX Tryz.f27 X w False hT) (.exit 0) ⟨[(8,.own 51 1 0 o9.length)],[(51,.arr 185 2 1 (v58 AV.p (v58 qek o9)))]⟩ | .inr o10=>tR prog Tryz.f27 (.tup [(.slc (v58 qek o10.1)),(.int .i64 o10.2)])) h8 ?_ ?_
 clear h h5 h6 h8
 intro s x h
 obtain ⟨o11,t12⟩:=s
 simp only [qkb] at h
 dsimp only
 refine M9 ?_
 obtain ⟨h13,h⟩|⟨h13,h⟩:=zI h
 refine Mb ?_
 obtain ⟨x14,h15,h15a,h15b,h⟩:=zX h
 refine M6 ?_
 refine zU ?_
 obtain ⟨r16,h17,h⟩:=zB h
 refine zc (qrp d1 x14 _ h17) ?_
 refine Mc ?_
 refine Ma ?_
 obtain ⟨h18,h⟩|⟨h18,h⟩:=zI h
 refine Mg ?_
 cases h
 exact ⟨rfl,zT results27⟩
 refine Mi ?_
 refine Mq ?_
 obtain ⟨o19,h20,h⟩:=zB h
 refine zO (fun (s:List Violation×Int)=>⟨[(2,.loc 2 1 0 0),(8,.own 51 1 0 s.1.length),(9,.p (.int .i64 t12)),(24,.p (.slc (v58 qak l2))),(25,.p (.int .i64 (l2.length:Int))),(26,.p (.int .i64 t12)),(40,.p (.slc (v58 (qav (uap .i64)) r16.1))),(41,.p (.int .i64 (r16.1.length:Int))),(42,.p (.int .i64 s.2))],[(2,.arr 49 1 1 [.p (qa4 d1)]),(51,.arr 185 2 1 (v58 AV.p (v58 qek s.1)))]⟩) (fun (o21:List Violation)=>tE (cX Tryz.f27 X w False hT) (.exit 2) ⟨[(2,.loc 2 1 0 0),(8,.own 51 1 0 o21.length),(24,.p (.slc (v58 qak l2))),(25,.p (.int .i64 (l2.length:Int))),(26,.p (.int .i64 t12))],[(2,.arr 49 1 1 [.p (qa4 d1)]),(51,.arr 185 2 1 (v58 AV.p (v58 qek o21)))]⟩) h20 ?_ ?_
 clear h h13 h15 h15a h15b h17 h18 h20
 intro s x h
 obtain ⟨o22,t23⟩:=s
 simp only [qka] at h
 dsimp only
 refine M9 ?_
 obtain ⟨h24,h⟩|⟨h24,h⟩:=zI h
 refine Mb ?_
 obtain ⟨x25,h26,h26a,h26b,h⟩:=zX h
 refine Mu ?_
 obtain ⟨h27,h⟩:=qae h
 refine Mk ?_
 exact M0 h
 exact M3 h
 try simp only at h
 refine Tc ?_
 exact M0 h
 exact M3 h
 rcases o7 with o28 | r29
 try simp only at h
 refine Md ?_
 exact M1 h results27
 exact M8 h
theorem qxe (d1:Database) (l2:List Constraint) (r3:Bool×Int) (h:qlb d1 l2=some r3):Con False prog 9 [(qa4 d1),(.slc (v58 qak l2))] (.tup [(.bool r3.1),(.int .i64 r3.2)]):=by
 refine zP call9 func9 rfl ntmps9 fun X w hT=>?_
 simp only [qlb] at h
 refine Ml ?_
 refine M6 ?_
 refine zU ?_
 obtain ⟨r4,h5,h⟩:=zB h
 refine zc (q1b d1 l2 _ h5) ?_
 refine M6 ?_
 refine zU ?_
 obtain ⟨h6,h⟩|⟨h6,h⟩:=zI h
 replace h:=h.symm
 refine zw 16 true ?_
 refine M7 ?_
 refine zg ?_
 exact M1 h results9
 refine zw 16 false ?_
 refine zh ?_
 exact M1 h results9
theorem qrq (t1:Table) (r2:Database) (h:qiq t1=some r2):Con D prog 10 [(qaa t1)] (qa4 r2):=by
 refine zP call10 func10 rfl ntmps10 fun X w hT=>?_
 simp only [qiq] at h
 refine Ml ?_
 refine M6 ?_
 exact M1 h results10
theorem qvi (l1:List Int) (i2:Int) (r3:Bool) (h:qi6 l1 i2=some r3):Con D prog 28 [(.slc (v58 (uap .i64) l1)),(.int .i64 i2)] (.bool r3):=by
 refine zP call28 func28 rfl ntmps28 fun X w hT=>?_
 simp only [qi6] at h
 refine Ml ?_
 refine M5 ?_
 obtain ⟨o4,h5,h⟩:=zB h
 refine zO (fun (s:Int)=>⟨[(0,.p (.slc (v58 (uap .i64) l1))),(1,.p (.int .i64 i2)),(5,.p (.int .i64 s))],[]⟩) (fun (o:(Unit) ⊕ (Bool))=>match o with | .inl o6=>tE (cX Tryz.f28 X w D hT) (.exit 0) ⟨[],[]⟩ | .inr o7=>tR prog Tryz.f28 (.bool o7)) h5 ?_ ?_
 clear h h5
 intro i8 x h
 simp only [qe3] at h
 refine zs<|zs<|zr ?_
 refine Ma ?_
 obtain ⟨h9,h⟩|⟨h9,h⟩:=zI h
 refine Mb ?_
 obtain ⟨x10,h11,h11a,h11b,h⟩:=zX h
 refine Ma ?_
 obtain ⟨h12,h⟩|⟨h12,h⟩:=zI h
 refine M4 ?_
 cases h
 exact ⟨rfl,zT results28⟩
 refine Me ?_
 exact M0 h
 exact M3 h
 rcases o4 with ⟨⟩ | r13
 try simp only at h
 refine Md ?_
 exact M1 h results28
 exact M8 h
theorem qwi (r1:Row) (r2:Row) (h:qkc r1=some r2):Con D prog 74 [(qag r1)] (qag r2):=by
 refine zP call74 func74 rfl ntmps74 fun X w hT=>?_
 simp only [qkc] at h
 refine Ml ?_
 refine Mv ?_
 obtain ⟨h3,h⟩:=qae h
 exact Mp h results74
theorem qtu (t1:Table) (r2:List Row) (r3:Table) (h:qie t1 r2=some r3):Con D prog 29 [(qaa t1),(.slc (v58 qag r2))] (qaa r3):=by
 refine zP call29 func29 rfl ntmps29 fun X w hT=>?_
 simp only [qie] at h
 refine Ml ?_
 refine Mv ?_
 obtain ⟨h4,h⟩:=qae h
 refine yU ?_
 refine yd<|zn<|zs<|zs<|zr ?_
 refine Mq ?_
 obtain ⟨o5,h6,h⟩:=zB h
 refine zO (fun (s:List Row×Int)=>⟨[(1,.p (.slc (v58 qag r2))),(4,.loc 4 1 0 0),(5,.loc 5 1 0 0),(6,.p (.int .i64 s.2))],[(4,.arr 29 3 1 [.agg [.p (.str []),.nils,.nils]]),(5,.arr 29 3 1 [.agg [.p (.str t1.Name),.own 9 1 0 (t1.Attrs).length,.own 28 1 0 s.1.length]]),(9,.arr 9 1 1 (v58 AV.p (v58 uaq t1.Attrs))),(28,.arr 94 2 1 (v58 AV.p (v58 qag s.1)))]⟩) (fun (o7:List Row)=>tE (cX Tryz.f29 X w D hT) (.exit 0) ⟨[(4,.loc 4 1 0 0),(5,.loc 5 1 0 0)],[(4,.arr 29 3 1 [.agg [.p (.str []),.nils,.nils]]),(5,.arr 29 3 1 [.agg [.p (.str t1.Name),.own 9 1 0 (t1.Attrs).length,.own 28 1 0 o7.length]]),(9,.arr 9 1 1 (v58 AV.p (v58 uaq t1.Attrs))),(28,.arr 94 2 1 (v58 AV.p (v58 qag o7)))]⟩) h6 ?_ ?_
 clear h h4 h6
 intro s x h
 obtain ⟨o8,i9⟩:=s
 simp only [qf4] at h
 refine Mt ?_
 refine Ma ?_
 obtain ⟨h10,h⟩|⟨h10,h⟩:=zI h
 refine zi<|zk<|zn<|zs<|zb<|zd ?_
 obtain ⟨x11,h12,h12a,h12b,h⟩:=zX h
 refine yU ?_
 obtain ⟨r13,h14,h⟩:=zB h
 refine yc (qwi x11 _ h14) ?_
 obtain ⟨h15,h⟩:=qae h
 refine T3 ?_
 exact M0 h
 exact M3 h
 try simp only at h
 refine Md ?_
 exact M1 h results29
theorem qtv (t1:Table) (i2:List Int) (r3:Table) (h:qif t1 i2=some r3):Con D prog 11 [(qaa t1),(.slc (v58 (uap .i64) i2))] (qaa r3):=by
 refine zP call11 func11 rfl ntmps11 fun X w hT=>?_
 simp only [qif] at h
 refine Ml ?_
 refine M6 ?_
 refine M5 ?_
 obtain ⟨r4,h5,h⟩:=zB h
 refine zO (fun (s:List Row×Int)=>⟨[(1,.p (.slc (v58 (uap .i64) i2))),(2,.loc 2 1 0 0),(4,.loc 4 1 0 0),(5,.own 29 1 0 s.1.length),(6,.p (.int .i64 s.2))],[(2,.arr 29 3 1 [.p (qaa t1)]),(4,.arr 29 3 1 [.agg [.p (.str []),.nils,.nils]]),(29,.arr 94 2 1 (v58 AV.p (v58 qag s.1)))]⟩) (fun (o6:List Row)=>tE (cX Tryz.f11 X w D hT) (.exit 0) ⟨[(2,.loc 2 1 0 0),(4,.loc 4 1 0 0),(5,.own 29 1 0 o6.length)],[(2,.arr 29 3 1 [.p (qaa t1)]),(4,.arr 29 3 1 [.agg [.p (.str []),.nils,.nils]]),(29,.arr 94 2 1 (v58 AV.p (v58 qag o6)))]⟩) h5 ?_ ?_
 clear h h5
 intro s x h
 obtain ⟨r7,i8⟩:=s
 simp only [qf5] at h
 refine Mt ?_
 refine Ma ?_
 obtain ⟨h9,h⟩|⟨h9,h⟩:=zI h
 refine Mb ?_
 obtain ⟨x10,h11,h11a,h11b,h⟩:=zX h
 refine zU ?_
 obtain ⟨r12,h13,h⟩:=zB h
 refine zc (qvi i2 x10.ID _ h13) ?_
 refine zl<|zn ?_
 obtain ⟨h14,h⟩|⟨h14,h⟩:=zI h
 refine zi<|zr ?_
 obtain ⟨h15,h⟩:=qae h
 refine Mk ?_
 exact M0 h
 refine Me ?_
 exact M0 h
 exact M3 h
 try simp only at h
 refine Md ?_
 refine zU ?_
 refine zM ⟨[(4,.loc 4 1 0 0),(30,.p (qaa t1)),(31,.p (.slc (v58 qag r4)))],[(4,.arr 29 3 1 [.agg [.p (.str []),.nils,.nils]])]⟩ ?_
 obtain ⟨r16,h17,h⟩:=zB h
 refine zc (qtu t1 r4 _ h17) ?_
 exact M1 h results11
theorem qjm (t1:Table) (m2:Int) (r3:List Int) (h:qdq t1 m2=some r3):Con D prog 12 [(qaa t1),(.int .i64 m2)] (.slc (v58 (uap .i64) r3)):=by
 refine zP call12 func12 rfl ntmps12 fun X w hT=>?_
 simp only [qdq] at h
 refine Ml ?_
 refine M6 ?_
 refine M5 ?_
 obtain ⟨o4,h5,h⟩:=zB h
 refine zO (fun (s:List Int×Int)=>⟨[(1,.p (.int .i64 m2)),(5,.own 25 1 0 s.1.length),(9,.p (.slc (v58 qag t1.Rows))),(10,.p (.int .i64 (t1.Rows.length:Int))),(11,.p (.int .i64 s.2))],[(25,.arr 2 1 1 (v58 AV.p (v58 (uap .i64) s.1)))]⟩) (fun (o6:List Int)=>tE (cX Tryz.f12 X w D hT) (.exit 0) ⟨[(5,.own 25 1 0 o6.length)],[(25,.arr 2 1 1 (v58 AV.p (v58 (uap .i64) o6)))]⟩) h5 ?_ ?_
 clear h h5
 intro s x h
 obtain ⟨o7,t8⟩:=s
 simp only [qf6] at h
 dsimp only
 refine M9 ?_
 obtain ⟨h9,h⟩|⟨h9,h⟩:=zI h
 refine Mb ?_
 obtain ⟨x10,h11,h11a,h11b,h⟩:=zX h
 refine M6 ?_
 obtain ⟨h12,h⟩:=qdm h
 refine Ma ?_
 obtain ⟨h13,h⟩|⟨h13,h⟩:=zI h
 refine zi<|zr ?_
 obtain ⟨h14,h⟩:=qae h
 refine Mk ?_
 exact M0 h
 refine Me ?_
 exact M0 h
 exact M3 h
 try simp only at h
 refine Md ?_
 exact M1 h results12
theorem qhq (l1:List Int) (r2:Bool) (h:qdr l1=some r2):Con D prog 30 [(.slc (v58 (uap .i64) l1))] (.bool r2):=by
 refine zP call30 func30 rfl ntmps30 fun X w hT=>?_
 simp only [qdr] at h
 refine Ml ?_
 refine M5 ?_
 obtain ⟨o3,h4,h⟩:=zB h
 refine zO (fun (s:Int)=>⟨[(0,.p (.slc (v58 (uap .i64) l1))),(3,.p (.int .i64 s))],[]⟩) (fun (o:(Unit) ⊕ (Bool))=>match o with | .inl o5=>tE (cX Tryz.f30 X w D hT) (.exit 0) ⟨[],[]⟩ | .inr o6=>tR prog Tryz.f30 (.bool o6)) h4 ?_ ?_
 clear h h4
 intro i7 x h
 simp only [qcj] at h
 refine zs<|zs<|zr ?_
 refine Ma ?_
 obtain ⟨h8,h⟩|⟨h8,h⟩:=zI h
 refine zi<|zk<|zn<|zs<|zb<|zs<|zd ?_
 obtain ⟨x9,h10,h10a,h10b,h⟩:=zX h
 obtain ⟨x11,h12,h12a,h12b,h⟩:=zX h
 refine Ms ?_
 obtain ⟨h13,h⟩|⟨h13,h⟩:=zI h
 refine M4 ?_
 cases h
 exact ⟨rfl,zT results30⟩
 refine Me ?_
 exact M0 h
 exact M3 h
 rcases o3 with ⟨⟩ | r14
 try simp only at h
 refine Md ?_
 exact M1 h results30
 exact M8 h
theorem qvj (x1:Int) (y2:Int) (r3:Bool) (h:qi4 x1 y2=some r3):Con D prog 145 [(.int .i64 x1),(.int .i64 y2)] (.bool r3):=by
 refine zP call145 func145 rfl ntmps145 fun X w hT=>?_
 simp only [qi4] at h
 refine Ml ?_
 refine M6 ?_
 refine zU ?_
 obtain ⟨r4,h5,h⟩:=zB h
 refine zc (qhc x1 _ h5) ?_
 refine zU ?_
 obtain ⟨h6,h⟩|⟨h6,h⟩:=zI h
 refine zw 7 true ?_
 refine zg ?_
 obtain ⟨r7,h8,h⟩:=zB h
 refine zc (qhc y2 _ h8) ?_
 refine Mw ?_
 obtain ⟨h9,h⟩|⟨h9,h⟩:=zI h
 replace h:=h.symm
 refine zw 12 false ?_
 refine M7 ?_
 refine zg ?_
 exact M1 h results145
 refine zw 12 true ?_
 refine zh ?_
 exact M1 h results145
 replace h:=h.symm
 refine zw 7 false ?_
 refine zh ?_
 refine zU ?_
 refine M7 ?_
 refine zg ?_
 exact M1 h results145
theorem qkq (x1:Int) (r2:Bool) (h:qf7 x1=some r2):Con D prog 146 [(.int .i64 x1)] (.bool r2):=by
 refine zP call146 func146 rfl ntmps146 fun X w hT=>?_
 simp only [qf7] at h
 refine Ml ?_
 refine M6 ?_
 exact M1 h results146
theorem qlq (x1:List Int) (t2:Int) (r3:Int×Bool) (h:qc9 x1 t2=some r3):Con D prog 75 [(.slc (v58 (uap .i64) x1)),(.int .i64 t2)] (.tup [(.int .i64 r3.1),(.bool r3.2)]):=by
 refine zP call75 func75 rfl ntmps75 fun X w hT=>?_
 simp only [qc9] at h
 refine Ml ?_
 refine M6 ?_
 refine M6 ?_
 refine zU<|zl<|zn<|zs<|zb ?_
 obtain ⟨i4,h5,h⟩:=zB h
 refine zO (fun (s:Int×Int)=>⟨[(0,.p (.slc (v58 (uap .i64) x1))),(1,.p (.int .i64 t2)),(6,.p (.int .i64 (x1.length:Int))),(7,.p (.int .i64 s.1)),(8,.p (.int .i64 s.2))],[]⟩) (fun (o6:Int)=>tE (cX Tryz.f75 X w D hT) (.exit 0) ⟨[(0,.p (.slc (v58 (uap .i64) x1))),(1,.p (.int .i64 t2)),(6,.p (.int .i64 (x1.length:Int))),(7,.p (.int .i64 o6))],[]⟩) h5 ?_ ?_
 clear h h5
 intro s x h
 obtain ⟨i7,j8⟩:=s
 simp only [qb7] at h
 refine Mt ?_
 refine Ma ?_
 obtain ⟨h9,h⟩|⟨h9,h⟩:=zI h
 refine zi<|zk<|zn<|zb<|zs<|zr ?_
 refine M6 ?_
 obtain ⟨x10,h11,h11a,h11b,h⟩:=zX h
 refine zU ?_
 obtain ⟨r12,h13,h⟩:=zB h
 refine zc (qvj x10 t2 _ h13) ?_
 refine zl<|zn ?_
 obtain ⟨h14,h⟩|⟨h14,h⟩:=zI h
 refine zi<|zr ?_
 refine zU<|zl<|yn ?_
 exact Mo h
 refine zj<|zr ?_
 refine zU<|zl<|yn ?_
 exact Mo h
 exact M3 h
 try simp only at h
 refine Md ?_
 refine zU ?_
 obtain ⟨h15,h⟩|⟨h15,h⟩:=zI h
 refine zw 35 true ?_
 refine M7 ?_
 obtain ⟨x16,h17,h17a,h17b,h⟩:=zX h
 refine M7 ?_
 refine M7 ?_
 refine zg ?_
 obtain ⟨h18,h⟩|⟨h18,h⟩:=zI h
 replace h:=h.symm
 refine zw 42 true ?_
 refine zh ?_
 refine zg ?_
 exact M1 h results75
 refine zw 42 false ?_
 refine M7 ?_
 refine M7 ?_
 obtain ⟨r19,h20,h⟩:=zB h
 refine zc (qkq x16 _ h20) ?_
 refine zg ?_
 obtain ⟨h21,h⟩|⟨h21,h⟩:=zI h
 refine zw 48 true ?_
 refine zg ?_
 obtain ⟨r22,h23,h⟩:=zB h
 replace h:=h.symm
 refine zc (qkq t2 _ h23) ?_
 refine M7 ?_
 exact M1 h results75
 replace h:=h.symm
 refine zw 48 false ?_
 refine zh ?_
 refine M7 ?_
 exact M1 h results75
 refine zw 35 false ?_
 refine zh ?_
 exact M1 h results75
theorem qgb (l1:List Int) (p2:List Int) (r3:Bool) (h:qdk l1 p2=some r3):Con D prog 31 [(.slc (v58 (uap .i64) l1)),(.slc (v58 (uap .i64) p2))] (.bool r3):=by
 refine zP call31 func31 rfl ntmps31 fun X w hT=>?_
 simp only [qdk] at h
 refine Ml ?_
 refine M5 ?_
 obtain ⟨o4,h5,h⟩:=zB h
 refine zO (fun (s:Int)=>⟨[(0,.p (.slc (v58 (uap .i64) l1))),(9,.p (.slc (v58 (uap .i64) p2))),(10,.p (.int .i64 (p2.length:Int))),(11,.p (.int .i64 s))],[]⟩) (fun (o:(Unit) ⊕ (Bool))=>match o with | .inl o6=>tE (cX Tryz.f31 X w D hT) (.exit 0) ⟨[],[]⟩ | .inr o7=>tR prog Tryz.f31 (.bool o7)) h5 ?_ ?_
 clear h h5
 intro t8 x h
 simp only [qdz] at h
 refine M9 ?_
 obtain ⟨h9,h⟩|⟨h9,h⟩:=zI h
 refine Mb ?_
 obtain ⟨x10,h11,h11a,h11b,h⟩:=zX h
 refine M6 ?_
 refine zU ?_
 obtain ⟨r12,h13,h⟩:=zB h
 refine zc (qlq l1 x10 _ h13) ?_
 refine M6 ?_
 refine Ma ?_
 obtain ⟨h14,h⟩|⟨h14,h⟩:=zI h
 refine Me ?_
 exact M0 h
 refine M4 ?_
 cases h
 exact ⟨rfl,zT results31⟩
 exact M3 h
 rcases o4 with ⟨⟩ | r15
 try simp only at h
 refine Md ?_
 exact M1 h results31
 exact M8 h
theorem qm4 (s1:List (List Int)) (f2:(List Int)→Option (Bool)) (f2_k:FuncId) (f2_cs:List PV) (f2_h:∀(y3:List Int) (r4:Bool),f2 y3=some r4→Con D prog f2_k ((.slc (v58 (uap .i64) y3)) :: f2_cs) (.bool r4)) (r5:Int) (h:qds s1 f2=some r5):Con D prog 76 [(.slc (v58 (qav (uap .i64)) s1)),.func (.func f2_k) f2_cs] (.int .i64 r5):=by
 refine zP call76 func76 rfl ntmps76 fun X w hT=>?_
 simp only [qds] at h
 refine Ml ?_
 refine M5 ?_
 obtain ⟨o6,h7,h⟩:=zB h
 refine zO (fun (s:Int)=>⟨[(0,.p (.slc (v58 (qav (uap .i64)) s1))),(1,.p (.func (.func f2_k) f2_cs)),(7,.p (.int .i64 (s1.length:Int))),(8,.p (.int .i64 s))],[]⟩) (fun (o:(Unit) ⊕ (Int))=>match o with | .inl o8=>tE (cX Tryz.f76 X w D hT) (.exit 0) ⟨[],[]⟩ | .inr o9=>tR prog Tryz.f76 (.int .i64 o9)) h7 ?_ ?_
 clear h h7
 intro t10 x h
 simp only [qbv] at h
 refine M9 ?_
 obtain ⟨h11,h⟩|⟨h11,h⟩:=zI h
 refine Mb ?_
 refine M6 ?_
 obtain ⟨x12,h13,h13a,h13b,h⟩:=zX h
 refine zU ?_
 obtain ⟨r14,h15,h⟩:=zB h
 refine zc (f2_h x12 _ h15) ?_
 refine zl<|zn ?_
 obtain ⟨h16,h⟩|⟨h16,h⟩:=zI h
 refine M4 ?_
 cases h
 exact ⟨rfl,zT results76⟩
 refine Me ?_
 exact M0 h
 exact M3 h
 rcases o6 with ⟨⟩ | r17
 try simp only at h
 refine Md ?_
 exact M1 h results76
 exact M8 h
theorem qlh (s1:List (List Int)) (f2:(List Int)→Option (Bool)) (f2_k:FuncId) (f2_cs:List PV) (f2_h:∀(y3:List Int) (r4:Bool),f2 y3=some r4→Con D prog f2_k ((.slc (v58 (uap .i64) y3)) :: f2_cs) (.bool r4)) (r5:Bool) (h:qcs s1 f2=some r5):Con D prog 32 [(.slc (v58 (qav (uap .i64)) s1)),.func (.func f2_k) f2_cs] (.bool r5):=by
 refine zP call32 func32 rfl ntmps32 fun X w hT=>?_
 simp only [qcs] at h
 refine Ml ?_
 refine M6 ?_
 refine zU ?_
 obtain ⟨r6,h7,h⟩:=zB h
 refine zc (qm4 s1 f2 f2_k f2_cs f2_h _ h7) ?_
 exact M1 h results32
theorem qnj (m1:List Int) (c2:List Int) (r3:Bool) (h:qc0 m1 c2=some r3):Con D prog 33 [(.slc (v58 (uap .i64) m1)),.imm [.slc (v58 (uap .i64) c2)]] (.bool r3):=by
 refine zP call33 func33 rfl ntmps33 fun X w hT=>?_
 simp only [qc0] at h
 refine Ml ?_
 refine M6 ?_
 refine zU ?_
 obtain ⟨r4,h5,h⟩:=zB h
 refine zc (qgb c2 m1 _ h5) ?_
 exact M1 h results33
theorem qpc (h1:Hypergraph) (l2:List Int) (r3:Bool) (h:qev h1 l2=some r3):Con D prog 13 [(qal h1),(.slc (v58 (uap .i64) l2))] (.bool r3):=by
 refine zP call13 func13 rfl ntmps13 fun X w hT=>?_
 simp only [qev] at h
 refine Ml ?_
 refine Mc ?_
 refine zU ?_
 obtain ⟨r4,h5,h⟩:=zB h
 refine zc (qhq l2 _ h5) ?_
 refine zU ?_
 obtain ⟨h6,h⟩|⟨h6,h⟩:=zI h
 refine zw 8 false ?_
 refine M7 ?_
 refine zg ?_
 obtain ⟨r7,h8,h⟩:=zB h
 refine zc (qgb h1.Vertices l2 _ h8) ?_
 refine zg ?_
 refine Ma ?_
 obtain ⟨h9,h⟩|⟨h9,h⟩:=zI h
 refine Mi ?_
 refine zU ?_
 obtain ⟨r10,h11,h⟩:=zB h
 refine zc (qlh h1.Edges (fun (y12:List Int)=>qc0 y12 l2) 33 [.imm [.slc (v58 (uap .i64) l2)]] (fun y12 r h=>qnj y12 l2 r h) _ h11) ?_
 exact M1 h results13
 exact M2 h results13
 refine zw 8 true ?_
 refine zh ?_
 refine Ma ?_
 exact M2 h results13
theorem qvk (h1:Hypergraph) (r2:Bool) (h:qi7 h1=some r2):Con D prog 77 [(qal h1)] (.bool r2):=by
 refine zP call77 func77 rfl ntmps77 fun X w hT=>?_
 simp only [qi7] at h
 refine Ml ?_
 refine Mc ?_
 refine zU ?_
 obtain ⟨r3,h4,h⟩:=zB h
 refine zc (qhq h1.Vertices _ h4) ?_
 refine zU ?_
 obtain ⟨h5,h⟩|⟨h5,h⟩:=zI h
 refine zw 13 false ?_
 refine M7 ?_
 refine M7 ?_
 refine Ma ?_
 obtain ⟨h6,h⟩|⟨h6,h⟩:=zI h
 exact M2 h results77
 refine Mj ?_
 refine Mq ?_
 obtain ⟨o7,h8,h⟩:=zB h
 refine zO (fun (s:Int)=>⟨[(1,.loc 1 1 0 0),(20,.p (.slc (v58 (qav (uap .i64)) h1.Edges))),(21,.p (.int .i64 (h1.Edges.length:Int))),(22,.p (.int .i64 s))],[(1,.arr 40 2 1 [.p (qal h1)])]⟩) (fun (o:(Unit) ⊕ (Bool))=>match o with | .inl o9=>tE (cX Tryz.f77 X w D hT) (.exit 0) ⟨[(1,.loc 1 1 0 0)],[(1,.arr 40 2 1 [.p (qal h1)])]⟩ | .inr o10=>tR prog Tryz.f77 (.bool o10)) h8 ?_ ?_
 clear h h4 h5 h6 h8
 intro t11 x h
 simp only [qgu] at h
 refine M9 ?_
 obtain ⟨h12,h⟩|⟨h12,h⟩:=zI h
 refine Mb ?_
 obtain ⟨x13,h14,h14a,h14b,h⟩:=zX h
 refine M6 ?_
 refine zU ?_
 obtain ⟨h15,h⟩|⟨h15,h⟩:=zI h
 refine zw 30 true ?_
 refine Mh ?_
 refine zU ?_
 refine zh ?_
 refine Ma ?_
 refine M4 ?_
 cases h
 exact ⟨rfl,zT results77⟩
 refine zw 30 false ?_
 refine zg ?_
 obtain ⟨r16,h17,h⟩:=zB h
 refine zc (qhq x13 _ h17) ?_
 refine Mw ?_
 obtain ⟨h18,h⟩|⟨h18,h⟩:=zI h
 refine zw 35 false ?_
 refine M7 ?_
 refine zg ?_
 obtain ⟨r19,h20,h⟩:=zB h
 refine zc (qgb h1.Vertices x13 _ h20) ?_
 refine Mw ?_
 obtain ⟨h21,h⟩|⟨h21,h⟩:=zI h
 refine zw 42 false ?_
 refine M7 ?_
 refine zg ?_
 obtain ⟨h22,h⟩|⟨h22,h⟩:=zI h
 refine zw 45 true ?_
 refine M7 ?_
 refine M7 ?_
 obtain ⟨x23,h24,h24a,h24b,h⟩:=zX h
 refine M7 ?_
 refine zg ?_
 obtain ⟨r25,h26,h⟩:=zB h
 refine zc (qa1 x23 x13 _ h26) ?_
 refine M7 ?_
 refine Ma ?_
 obtain ⟨h27,h⟩|⟨h27,h⟩:=zI h
 refine M4 ?_
 cases h
 exact ⟨rfl,zT results77⟩
 refine Me ?_
 exact M0 h
 replace h:=h.symm
 refine zw 45 false ?_
 refine zh ?_
 refine zg ?_
 refine Ma ?_
 refine Me ?_
 exact M0 h
 refine zw 42 true ?_
 refine zh ?_
 refine Ma ?_
 refine M4 ?_
 cases h
 exact ⟨rfl,zT results77⟩
 refine zw 35 true ?_
 refine Mh ?_
 refine Ma ?_
 refine M4 ?_
 cases h
 exact ⟨rfl,zT results77⟩
 exact M3 h
 rcases o7 with ⟨⟩ | r28
 try simp only at h
 refine Te ?_
 refine Mq ?_
 obtain ⟨o29,h30,h⟩:=zB h
 refine zO (fun (s:Int)=>⟨[(1,.loc 1 1 0 0),(59,.p (.slc (v58 (qav (uap .i64)) h1.Edges))),(60,.p (.int .i64 (h1.Edges.length:Int))),(61,.p (.int .i64 s))],[(1,.arr 40 2 1 [.p (qal h1)])]⟩) (fun (o:(Unit) ⊕ (Bool))=>match o with | .inl o31=>tE (cX Tryz.f77 X w D hT) (.exit 2) ⟨[],[]⟩ | .inr o32=>tR prog Tryz.f77 (.bool o32)) h30 ?_ ?_
 clear h h4 h5 h6 h8 h30
 intro t33 x h
 simp only [qgw] at h
 refine M9 ?_
 obtain ⟨h34,h⟩|⟨h34,h⟩:=zI h
 refine Mb ?_
 obtain ⟨x35,h36,h36a,h36b,h⟩:=zX h
 refine M6 ?_
 refine Mq ?_
 obtain ⟨o37,h38,h⟩:=zB h
 refine zO (fun (s:Int)=>⟨[(1,.loc 1 1 0 0),(5,.p (.int .i64 t33)),(6,.p (.slc (v58 (uap .i64) x35))),(59,.p (.slc (v58 (qav (uap .i64)) h1.Edges))),(60,.p (.int .i64 (h1.Edges.length:Int))),(61,.p (.int .i64 t33)),(67,.p (.slc (v58 (qav (uap .i64)) h1.Edges))),(68,.p (.int .i64 (h1.Edges.length:Int))),(69,.p (.int .i64 s))],[(1,.arr 40 2 1 [.p (qal h1)])]⟩) (fun (o:(Unit) ⊕ (Bool))=>match o with | .inl o39=>tE (cX Tryz.f77 X w D hT) (.exit 4) ⟨[(1,.loc 1 1 0 0),(59,.p (.slc (v58 (qav (uap .i64)) h1.Edges))),(60,.p (.int .i64 (h1.Edges.length:Int))),(61,.p (.int .i64 t33))],[(1,.arr 40 2 1 [.p (qal h1)])]⟩ | .inr o40=>tR prog Tryz.f77 (.bool o40)) h38 ?_ ?_
 clear h h34 h36 h36a h36b h38
 intro t41 x h
 simp only [qgv] at h
 refine M9 ?_
 obtain ⟨h42,h⟩|⟨h42,h⟩:=zI h
 refine Mb ?_
 obtain ⟨x43,h44,h44a,h44b,h⟩:=zX h
 refine M6 ?_
 refine zU ?_
 obtain ⟨h45,h⟩|⟨h45,h⟩:=zI h
 refine zw 77 true ?_
 refine M7 ?_
 obtain ⟨r46,h47,h⟩:=zB h
 refine zc (qgb x35 x43 _ h47) ?_
 refine Ma ?_
 obtain ⟨h48,h⟩|⟨h48,h⟩:=zI h
 refine M4 ?_
 cases h
 exact ⟨rfl,zT results77⟩
 refine Me ?_
 exact M0 h
 refine zw 77 false ?_
 refine zh ?_
 refine Ma ?_
 refine Me ?_
 exact M0 h
 exact M3 h
 rcases o37 with ⟨⟩ | r49
 try simp only at h
 refine Tc ?_
 exact M0 h
 try simp only at h
 refine zZ fun s hq=>?_
 refine yr<|yr<|zt ?_
 cases h
 refine ⟨rfl,?_⟩
 exact hq
 exact M3 h
 rcases o29 with ⟨⟩ | r50
 try simp only at h
 refine Md ?_
 exact M1 h results77
 exact M8 h
 exact M8 h
 refine zw 13 true ?_
 refine zh ?_
 refine Ma ?_
 exact M2 h results77
theorem qtw (h1:Hypergraph) (r2:Int) (h:qig h1=some r2):Con D prog 34 [(qal h1)] (.int .i64 r2):=by
 refine zP call34 func34 rfl ntmps34 fun X w hT=>?_
 simp only [qig] at h
 refine Ml ?_
 refine Mc ?_
 refine zU ?_
 obtain ⟨r3,h4,h⟩:=zB h
 refine zc (qvk h1 _ h4) ?_
 refine Ma ?_
 obtain ⟨h5,h⟩|⟨h5,h⟩:=zI h
 refine Mj ?_
 refine Ma ?_
 obtain ⟨h6,h⟩|⟨h6,h⟩:=zI h
 exact M2 h results34
 refine Mi ?_
 exact M1 h results34
 exact M2 h results34
theorem qqj (s1:List Int) (v2:Int) (r3:Int) (h:qf8 s1 v2=some r3):Con D prog 147 [(.slc (v58 (uap .i64) s1)),(.int .i64 v2)] (.int .i64 r3):=by
 refine zP call147 func147 rfl ntmps147 fun X w hT=>?_
 simp only [qf8] at h
 refine Ml ?_
 refine M5 ?_
 obtain ⟨o4,h5,h⟩:=zB h
 refine zO (fun (s:Int)=>⟨[(0,.p (.slc (v58 (uap .i64) s1))),(1,.p (.int .i64 v2)),(7,.p (.int .i64 (s1.length:Int))),(8,.p (.int .i64 s))],[]⟩) (fun (o:(Unit) ⊕ (Int))=>match o with | .inl o6=>tE (cX Tryz.f147 X w D hT) (.exit 0) ⟨[],[]⟩ | .inr o7=>tR prog Tryz.f147 (.int .i64 o7)) h5 ?_ ?_
 clear h h5
 intro t8 x h
 simp only [qdl] at h
 refine M9 ?_
 obtain ⟨h9,h⟩|⟨h9,h⟩:=zI h
 refine Mb ?_
 refine M6 ?_
 obtain ⟨x10,h11,h11a,h11b,h⟩:=zX h
 refine Ma ?_
 obtain ⟨h12,h⟩|⟨h12,h⟩:=zI h
 refine M4 ?_
 cases h
 exact ⟨rfl,zT results147⟩
 refine Me ?_
 exact M0 h
 exact M3 h
 rcases o4 with ⟨⟩ | r13
 try simp only at h
 refine Md ?_
 exact M1 h results147
 exact M8 h
theorem qm5 (s1:List Int) (f2:Int→Option (Bool)) (f2_k:FuncId) (f2_cs:List PV) (f2_h:∀(y3:Int) (r4:Bool),f2 y3=some r4→Con D prog f2_k ((.int .u64 y3) :: f2_cs) (.bool r4)) (r5:Int) (h:qdt s1 f2=some r5):Con D prog 214 [(.slc (v58 (uap .u64) s1)),.func (.func f2_k) f2_cs] (.int .i64 r5):=by
 refine zP call214 func214 rfl ntmps214 fun X w hT=>?_
 simp only [qdt] at h
 refine Ml ?_
 refine M5 ?_
 obtain ⟨o6,h7,h⟩:=zB h
 refine zO (fun (s:Int)=>⟨[(0,.p (.slc (v58 (uap .u64) s1))),(1,.p (.func (.func f2_k) f2_cs)),(7,.p (.int .i64 (s1.length:Int))),(8,.p (.int .i64 s))],[]⟩) (fun (o:(Unit) ⊕ (Int))=>match o with | .inl o8=>tE (cX Tryz.f214 X w D hT) (.exit 0) ⟨[],[]⟩ | .inr o9=>tR prog Tryz.f214 (.int .i64 o9)) h7 ?_ ?_
 clear h h7
 intro t10 x h
 simp only [qbw] at h
 refine M9 ?_
 obtain ⟨h11,h⟩|⟨h11,h⟩:=zI h
 refine Mb ?_
 refine M6 ?_
 obtain ⟨x12,h13,h13a,h13b,h⟩:=zX h
 refine zU ?_
 obtain ⟨r14,h15,h⟩:=zB h
 refine zc (f2_h x12 _ h15) ?_
 refine zl<|zn ?_
 obtain ⟨h16,h⟩|⟨h16,h⟩:=zI h
 refine M4 ?_
 cases h
 exact ⟨rfl,zT results214⟩
 refine Me ?_
 exact M0 h
 exact M3 h
 rcases o6 with ⟨⟩ | r17
 try simp only at h
 refine Md ?_
 exact M1 h results214
 exact M8 h
theorem qg4 (s1:List Int) (f2:Int→Option (Bool)) (f2_k:FuncId) (f2_cs:List PV) (f2_h:∀(y3:Int) (r4:Bool),f2 y3=some r4→Con D prog f2_k ((.int .u64 y3) :: f2_cs) (.bool r4)) (r5:Bool) (h:qbd s1 f2=some r5):Con D prog 149 [(.slc (v58 (uap .u64) s1)),.func (.func f2_k) f2_cs] (.bool r5):=by
 refine zP call149 func149 rfl ntmps149 fun X w hT=>?_
 simp only [qbd] at h
 refine Ml ?_
 refine M6 ?_
 refine zU ?_
 obtain ⟨r6,h7,h⟩:=zB h
 refine zc (qm5 s1 f2 f2_k f2_cs f2_h _ h7) ?_
 exact M1 h results149
theorem qm6 (e1:Int) (c2:Int) (r3:Bool) (h:qbg e1 c2=some r3):Con D prog 150 [(.int .u64 e1),.imm [.int .u64 c2]] (.bool r3):=by
 refine zP call150 func150 rfl ntmps150 fun X w hT=>?_
 simp only [qbg] at h
 refine Ml ?_
 refine M6 ?_
 exact M1 h results150
theorem qli (e1:Int) (c2:Int) (c3:Int) (c4:Int) (r5:Bool) (h:qbe e1 c2 c3 c4=some r5):Con D prog 213 [(.int .u64 e1),.imm [.int .i64 c2],.imm [.int .u64 c3],.imm [.int .u64 c4]] (.bool r5):=by
 refine zP call213 func213 rfl ntmps213 fun X w hT=>?_
 simp only [qbe] at h
 refine Ml ?_
 refine Mv ?_
 obtain ⟨h6,h⟩:=qdm h
 refine yU ?_
 obtain ⟨h7,h⟩|⟨h7,h⟩:=zI h
 replace h:=h.symm
 refine yw 11 true ?_
 iterate 3 refine Mf ?_
 exact Mp h results213
 refine yw 11 false ?_
 refine yk ?_
 exact Mp h results213
theorem qso (h1:Hypergraph) (m2:Int) (w3:List Int) (r4:(List Int×Int×Int×Int)→Option (Bool×List Int)) (hrec_12965:∀(i5:List Int) (v6:Int) (i7:Int) (o8:Int) (t9:Bool) (i10:List Int),r4 (i5,v6,i7,o8)=some (t9,i10)→Ip D prog 80 [.agg [.p (.int .i64 (h1.Vertices.length:Int)),.own 55 1 0 w3.length,.func (.func 79) [.loc 6 1 0 0,.loc 3 1 0 0]],.p (.int .i64 v6),.p (.int .u64 i7),.p (.int .u64 o8)] [(3,.arr 3 1 1 [.p (.int .i64 m2)]),(6,.arr 124 1 1 [.own 139 1 0 i5.length]),(55,.arr 127 1 1 (v58 AV.p (v58 (uap .u64) w3))),(139,.arr 127 1 1 (v58 AV.p (v58 (uap .u64) i5)))] (.p (.bool t9)) [(3,.arr 3 1 1 [.p (.int .i64 m2)]),(6,.arr 124 1 1 [.own 139 2 0 i10.length]),(55,.arr 127 1 1 (v58 AV.p (v58 (uap .u64) w3))),(139,.arr 127 1 2 (v58 AV.p (v58 (uap .u64) i10)))]) (i5:List Int) (v6:Int) (i7:Int) (o8:Int) (t9:Bool) (i10:List Int) (h:qco h1 m2 w3 r4 (i5,v6,i7,o8)=some (t9,i10)):Ip D prog 80 [.agg [.p (.int .i64 (h1.Vertices.length:Int)),.own 55 1 0 w3.length,.func (.func 79) [.loc 6 1 0 0,.loc 3 1 0 0]],.p (.int .i64 v6),.p (.int .u64 i7),.p (.int .u64 o8)] [(3,.arr 3 1 1 [.p (.int .i64 m2)]),(6,.arr 124 1 1 [.own 139 1 0 i5.length]),(55,.arr 127 1 1 (v58 AV.p (v58 (uap .u64) w3))),(139,.arr 127 1 1 (v58 AV.p (v58 (uap .u64) i5)))] (.p (.bool t9)) [(3,.arr 3 1 1 [.p (.int .i64 m2)]),(6,.arr 124 1 1 [.own 139 2 0 i10.length]),(55,.arr 127 1 1 (v58 AV.p (v58 (uap .u64) w3))),(139,.arr 127 1 2 (v58 AV.p (v58 (uap .u64) i10)))]:=by
 simp only [qco] at h
 refine Ip.of_awp 59 ⟨[(8,.p (.bool t9))],[(3,.arr 3 1 1 [.p (.int .i64 m2)]),(6,.arr 124 1 1 [.own 139 2 0 i10.length]),(55,.arr 127 1 1 (v58 AV.p (v58 (uap .u64) w3))),(139,.arr 127 1 2 (v58 AV.p (v58 (uap .u64) i10)))]⟩ call80 func80 rfl ntmps80 (by simp) (by simp only [results80];simp only [go_sem,seval];all_goals exact rfl) fun X i11 w12 h13=>?_
 show AWp _ _ _ ⟨[(0,.agg [.p (.int .i64 (h1.Vertices.length:Int)),.own 55 1 0 w3.length,.func (.func 79) [.loc 6 1 0 0,.loc 3 1 0 0]]),(1,.p (.int .i64 v6)),(2,.p (.int .u64 i7)),(3,.p (.int .u64 o8))],[(3,.arr 3 1 1 [.p (.int .i64 m2)]),(6,.arr 124 1 1 [.own 139 1 0 i5.length]),(55,.arr 127 1 1 (v58 AV.p (v58 (uap .u64) w3))),(139,.arr 127 1 1 (v58 AV.p (v58 (uap .u64) i5)))]⟩
 refine Ml ?_
 refine Mv ?_
 obtain ⟨h14,h⟩:=qdm h
 obtain ⟨h15,h⟩:=qdm h
 refine yU ?_
 refine yd<|zn<|zs<|zs<|zr ?_
 refine Mq ?_
 obtain ⟨o16,h17,h⟩:=zB h
 refine zO (fun (s:Int)=>⟨[(1,.p (.int .i64 v6)),(2,.p (.int .u64 i7)),(3,.p (.int .u64 o8)),(4,.loc 63 1 0 0),(9,.p (.int .u64 (v7w.wrap ((BitVec.ofInt 64 (v7w.wrap (18446744073709551615 * 2 ^ (min (v6).toNat 64))) &&& (BitVec.ofInt 64 (v7w.wrap ((v7w.wrap (1 * 2 ^ (min h1.Vertices.length 64))) - 1)))).toNat:Int)))),(19,.p (.int .i64 v6)),(20,.p (.int .i64 s))],[(3,.arr 3 1 1 [.p (.int .i64 m2)]),(6,.arr 124 1 1 [.own 139 1 0 i5.length]),(55,.arr 127 1 1 (v58 AV.p (v58 (uap .u64) w3))),(63,.arr 193 3 1 [.agg [.p (.int .i64 (h1.Vertices.length:Int)),.own 55 1 0 w3.length,.func (.func 79) [.loc 6 1 0 0,.loc 3 1 0 0]]]),(139,.arr 127 1 1 (v58 AV.p (v58 (uap .u64) i5)))]⟩) (fun (o:(Unit) ⊕ (Unit))=>match o with | .inl o18=>tE ⟨prog,72,59,X,[(3,.arr 3 1 1 [.p (.int .i64 m2)]),(6,.arr 124 1 1 [.own 139 1 0 i5.length]),(55,.arr 127 1 1 (v58 AV.p (v58 (uap .u64) w3))),(139,.arr 127 1 1 (v58 AV.p (v58 (uap .u64) i5)))],i11,w12,D,h13⟩ (.exit 0) ⟨[(1,.p (.int .i64 v6)),(2,.p (.int .u64 i7)),(3,.p (.int .u64 o8)),(4,.loc 63 1 0 0)],[(3,.arr 3 1 1 [.p (.int .i64 m2)]),(6,.arr 124 1 1 [.own 139 1 0 i5.length]),(55,.arr 127 1 1 (v58 AV.p (v58 (uap .u64) w3))),(63,.arr 193 3 1 [.agg [.p (.int .i64 (h1.Vertices.length:Int)),.own 55 1 0 w3.length,.func (.func 79) [.loc 6 1 0 0,.loc 3 1 0 0]]]),(139,.arr 127 1 1 (v58 AV.p (v58 (uap .u64) i5)))]⟩ | .inr o19=>tE ⟨prog,72,59,X,[(3,.arr 3 1 1 [.p (.int .i64 m2)]),(6,.arr 124 1 1 [.own 139 1 0 i5.length]),(55,.arr 127 1 1 (v58 AV.p (v58 (uap .u64) w3))),(139,.arr 127 1 1 (v58 AV.p (v58 (uap .u64) i5)))],i11,w12,D,h13⟩ .ret ⟨[(8,.p (.bool true))],[(3,.arr 3 1 1 [.p (.int .i64 m2)]),(6,.arr 124 1 1 [.own 139 1 0 i5.length]),(55,.arr 127 1 1 (v58 AV.p (v58 (uap .u64) w3))),(139,.arr 127 1 1 (v58 AV.p (v58 (uap .u64) i5)))]⟩) h17 ?_ ?_
 clear h h14 h15 h17
 intro t20 x h
 simp only [qef] at h
 refine M9 ?_
 obtain ⟨h21,h⟩|⟨h21,h⟩:=zI h
 have h21T:=eq_true h21
 refine Mb ?_
 refine M6 ?_
 obtain ⟨h22,h⟩:=qdm h
 refine zU ?_
 obtain ⟨h23,h⟩|⟨h23,h⟩:=zI h
 refine zw 28 true ?_
 refine M7 ?_
 refine M7 ?_
 refine zM ⟨[(1,.p (.int .i64 v6)),(2,.p (.int .u64 i7)),(3,.p (.int .u64 o8)),(4,.loc 63 1 0 0),(9,.p (.int .u64 (v7w.wrap ((BitVec.ofInt 64 (v7w.wrap (18446744073709551615 * 2 ^ (min (v6).toNat 64))) &&& (BitVec.ofInt 64 (v7w.wrap ((v7w.wrap (1 * 2 ^ (min h1.Vertices.length 64))) - 1)))).toNat:Int)))),(19,.p (.int .i64 v6)),(20,.p (.int .i64 t20)),(28,.p (.bool true)),(29,.agg [.p (.int .i64 (h1.Vertices.length:Int)),.own 55 1 0 w3.length,.func (.func 79) [.loc 6 1 0 0,.loc 3 1 0 0]]),(30,.p (.int .i64 t20)),(31,.p (.int .u64 i7)),(32,.p (.int .u64 (v7w.wrap ((BitVec.ofInt 64 (v7w.wrap (18446744073709551615 * 2 ^ (min (v6).toNat 64))) &&& (BitVec.ofInt 64 (v7w.wrap ((v7w.wrap (1 * 2 ^ (min h1.Vertices.length 64))) - 1)))).toNat:Int))))],[(3,.arr 3 1 1 [.p (.int .i64 m2)]),(6,.arr 124 1 1 [.own 139 1 0 i5.length]),(55,.arr 127 1 1 (v58 AV.p (v58 (uap .u64) w3))),(63,.arr 193 3 1 [.agg [.p (.int .i64 (h1.Vertices.length:Int)),.own 55 1 0 w3.length,.func (.func 79) [.loc 6 1 0 0,.loc 3 1 0 0]]]),(139,.arr 127 1 1 (v58 AV.p (v58 (uap .u64) i5)))]⟩ ?_
 refine qfa (avs:=[.agg [.p (.int .i64 (h1.Vertices.length:Int)),.own 55 1 0 w3.length,.func (.func 79) [.loc 6 1 0 0,.loc 3 1 0 0]],.p (.int .i64 t20),.p (.int .u64 i7),.p (.int .u64 (v7w.wrap ((BitVec.ofInt 64 (v7w.wrap (18446744073709551615 * 2 ^ (min (v6).toNat 64))) &&& (BitVec.ofInt 64 (v7w.wrap ((v7w.wrap (1 * 2 ^ (min h1.Vertices.length 64))) - 1)))).toNat:Int)))]) 131 rfl (qby rfl rfl (by exact rfl) (by exact rfl)) rfl func148 rfl call148 ntmps148 (by simp) (by simp only [go_sem,seval,h21T,h23];all_goals rfl) ?_
 intro i24 w25 h26
 show AWp _ _ _ ⟨[(0,.agg [.p (.int .i64 (h1.Vertices.length:Int)),.own 55 1 0 w3.length,.func (.func 79) [.loc 6 1 0 0,.loc 3 1 0 0]]),(1,.p (.int .i64 t20)),(2,.p (.int .u64 i7)),(3,.p (.int .u64 (v7w.wrap ((BitVec.ofInt 64 (v7w.wrap (18446744073709551615 * 2 ^ (min (v6).toNat 64))) &&& (BitVec.ofInt 64 (v7w.wrap ((v7w.wrap (1 * 2 ^ (min h1.Vertices.length 64))) - 1)))).toNat:Int))))],[(3,.arr 3 1 1 [.p (.int .i64 m2)]),(6,.arr 124 1 1 [.own 139 1 0 i5.length]),(55,.arr 127 1 1 (v58 AV.p (v58 (uap .u64) w3))),(63,.arr 193 3 1 [.agg [.p (.int .i64 (h1.Vertices.length:Int)),.own 55 1 0 w3.length,.func (.func 79) [.loc 6 1 0 0,.loc 3 1 0 0]]]),(139,.arr 127 1 1 (v58 AV.p (v58 (uap .u64) i5)))]⟩
 refine Ml ?_
 refine M6 ?_
 refine zU ?_
 obtain ⟨r27,h28,h⟩:=zB h
 refine zc (qg4 w3 (fun (y29:Int)=>qbe y29 t20 i7 (v7w.wrap ((BitVec.ofInt 64 (v7w.wrap (18446744073709551615 * 2 ^ (min (v6).toNat 64))) &&& (BitVec.ofInt 64 (v7w.wrap ((v7w.wrap (1 * 2 ^ (min h1.Vertices.length 64))) - 1)))).toNat:Int))) 213 [.imm [.int .i64 t20],.imm [.int .u64 i7],.imm [.int .u64 (v7w.wrap ((BitVec.ofInt 64 (v7w.wrap (18446744073709551615 * 2 ^ (min (v6).toNat 64))) &&& (BitVec.ofInt 64 (v7w.wrap ((v7w.wrap (1 * 2 ^ (min h1.Vertices.length 64))) - 1)))).toNat:Int))]] (fun y29 r h=>qli y29 t20 i7 (v7w.wrap ((BitVec.ofInt 64 (v7w.wrap (18446744073709551615 * 2 ^ (min (v6).toNat 64))) &&& (BitVec.ofInt 64 (v7w.wrap ((v7w.wrap (1 * 2 ^ (min h1.Vertices.length 64))) - 1)))).toNat:Int)) r h) _ h28) ?_
 refine My ?_
 refine qa8 (by simp only [results148];simp only [go_sem,seval,h21T,h23];exact rfl) ?_
 refine zg ?_
 refine Ma ?_
 obtain ⟨h30,h⟩|⟨h30,h⟩:=zI h
 refine Me ?_
 exact M0 h
 refine M4 ?_
 exact Mo h
 refine zw 28 false ?_
 refine zh ?_
 refine Ma ?_
 refine Me ?_
 exact M0 h
 have h21T:=eq_false h21
 exact M3 h
 rcases o16 with ⟨⟩ | ⟨⟩
 try simp only at h
 refine Te ?_
 refine Ma ?_
 obtain ⟨h31,h⟩|⟨h31,h⟩:=zI h
 refine Mr ?_
 refine zM ⟨[(42,.func (.func 79) [.loc 6 1 0 0,.loc 3 1 0 0]),(43,.p (.int .u64 i7))],[(3,.arr 3 1 1 [.p (.int .i64 m2)]),(6,.arr 124 1 1 [.own 139 1 0 i5.length]),(55,.arr 127 1 1 (v58 AV.p (v58 (uap .u64) w3))),(139,.arr 127 1 1 (v58 AV.p (v58 (uap .u64) i5)))]⟩ ?_
 refine qfa (avs:=[.p (.int .u64 i7),.loc 6 1 0 0,.loc 3 1 0 0]) 144 rfl (qa6 rfl) rfl func79 rfl call79 ntmps79 (by simp) (by simp only [go_sem,seval,h31];all_goals rfl) ?_
 intro i32 w33 h34
 show AWp _ _ _ ⟨[(0,.p (.int .u64 i7)),(1,.loc 6 1 0 0),(2,.loc 3 1 0 0)],[(3,.arr 3 1 1 [.p (.int .i64 m2)]),(6,.arr 124 1 1 [.own 139 1 0 i5.length]),(55,.arr 127 1 1 (v58 AV.p (v58 (uap .u64) w3))),(139,.arr 127 1 1 (v58 AV.p (v58 (uap .u64) i5)))]⟩
 refine Ml ?_
 refine M6 ?_
 obtain ⟨h35,h⟩:=qae h
 refine M6 ?_
 refine My ?_
 refine qa8 (by simp only [results79];simp only [go_sem,seval,h31];exact rfl) ?_
 refine Mm ?_
 exact Mo h
 refine Mi ?_
 refine Mc ?_
 refine zU ?_
 obtain ⟨r36,h37,h⟩:=zB h
 refine zc (qg4 w3 (fun (y38:Int)=>qbg y38 (v7w.wrap ((BitVec.ofInt 64 i7 ||| (BitVec.ofInt 64 (v7w.wrap (1 * 2 ^ (min (v6).toNat 64))))).toNat:Int))) 150 [.imm [.int .u64 (v7w.wrap ((BitVec.ofInt 64 i7 ||| (BitVec.ofInt 64 (v7w.wrap (1 * 2 ^ (min (v6).toNat 64))))).toNat:Int))]] (fun y38 r h=>qm6 y38 (v7w.wrap ((BitVec.ofInt 64 i7 ||| (BitVec.ofInt 64 (v7w.wrap (1 * 2 ^ (min (v6).toNat 64))))).toNat:Int)) r h) _ h37) ?_
 refine zU ?_
 obtain ⟨h39,h⟩|⟨h39,h⟩:=zI h
 refine zw 54 false ?_
 refine zh ?_
 refine Ma ?_
 refine zj<|zk<|zn<|zs ?_
 refine zdl 8 ?_
 refine yU ?_
 refine ydl ?_
 refine zM ⟨[(63,.agg [.p (.int .i64 (h1.Vertices.length:Int)),.own 55 1 0 w3.length,.func (.func 79) [.loc 6 1 0 0,.loc 3 1 0 0]]),(65,.p (.int .i64 (v67.wrap (v6+1)))),(66,.p (.int .u64 i7)),(70,.p (.int .u64 (v7w.wrap ((BitVec.ofInt 64 o8 ||| (BitVec.ofInt 64 (v7w.wrap (1 * 2 ^ (min (v6).toNat 64))))).toNat:Int))))],[(3,.arr 3 1 1 [.p (.int .i64 m2)]),(6,.arr 124 1 1 [.own 139 1 0 i5.length]),(55,.arr 127 1 1 (v58 AV.p (v58 (uap .u64) w3))),(139,.arr 127 1 1 (v58 AV.p (v58 (uap .u64) i5)))]⟩ ?_
 refine zM ⟨[(63,.agg [.p (.int .i64 (h1.Vertices.length:Int)),.own 55 1 0 w3.length,.func (.func 79) [.loc 6 1 0 0,.loc 3 1 0 0]]),(65,.p (.int .i64 (v67.wrap (v6+1)))),(66,.p (.int .u64 i7)),(70,.p (.int .u64 (v7w.wrap ((BitVec.ofInt 64 o8 ||| (BitVec.ofInt 64 (v7w.wrap (1 * 2 ^ (min (v6).toNat 64))))).toNat:Int))))],[(3,.arr 3 1 1 [.p (.int .i64 m2)]),(6,.arr 124 1 1 [.own 139 1 0 i5.length]),(55,.arr 127 1 1 (v58 AV.p (v58 (uap .u64) w3))),(139,.arr 127 1 1 (v58 AV.p (v58 (uap .u64) i5)))]⟩ ?_
 obtain ⟨o40,h41,h⟩:=zB h
 obtain ⟨t42,i43⟩:=o40
 try simp only at h
 refine zIp [] (hrec_12965 i5 (v67.wrap (v6+1)) i7 (v7w.wrap ((BitVec.ofInt 64 o8 ||| (BitVec.ofInt 64 (v7w.wrap (1 * 2 ^ (min (v6).toNat 64))))).toNat:Int)) t42 i43 h41) ?_
 clear h41
 refine zM ⟨[(71,.p (.bool t42))],[(3,.arr 3 1 1 [.p (.int .i64 m2)]),(6,.arr 124 1 1 [.own 139 2 0 i43.length]),(55,.arr 127 1 1 (v58 AV.p (v58 (uap .u64) w3))),(139,.arr 127 1 2 (v58 AV.p (v58 (uap .u64) i43)))]⟩ ?_
 refine My ?_
 exact Mo h
 refine zw 54 true ?_
 refine M7 ?_
 refine M7 ?_
 refine zg ?_
 refine zM ⟨[(1,.p (.int .i64 v6)),(2,.p (.int .u64 i7)),(3,.p (.int .u64 o8)),(4,.loc 63 1 0 0),(54,.p (.bool true)),(55,.agg [.p (.int .i64 (h1.Vertices.length:Int)),.own 55 1 0 w3.length,.func (.func 79) [.loc 6 1 0 0,.loc 3 1 0 0]]),(57,.p (.int .i64 (v67.wrap (v6+1)))),(58,.p (.int .u64 (v7w.wrap ((BitVec.ofInt 64 i7 ||| (BitVec.ofInt 64 (v7w.wrap (1 * 2 ^ (min (v6).toNat 64))))).toNat:Int)))),(59,.p (.int .u64 o8))],[(3,.arr 3 1 1 [.p (.int .i64 m2)]),(6,.arr 124 1 1 [.own 139 1 0 i5.length]),(55,.arr 127 1 1 (v58 AV.p (v58 (uap .u64) w3))),(63,.arr 193 3 1 [.agg [.p (.int .i64 (h1.Vertices.length:Int)),.own 55 1 0 w3.length,.func (.func 79) [.loc 6 1 0 0,.loc 3 1 0 0]]]),(139,.arr 127 1 1 (v58 AV.p (v58 (uap .u64) i5)))]⟩ ?_
 refine zM ⟨[(1,.p (.int .i64 v6)),(2,.p (.int .u64 i7)),(3,.p (.int .u64 o8)),(4,.loc 63 1 0 0),(54,.p (.bool true)),(55,.agg [.p (.int .i64 (h1.Vertices.length:Int)),.own 55 1 0 w3.length,.func (.func 79) [.loc 6 1 0 0,.loc 3 1 0 0]]),(57,.p (.int .i64 (v67.wrap (v6+1)))),(58,.p (.int .u64 (v7w.wrap ((BitVec.ofInt 64 i7 ||| (BitVec.ofInt 64 (v7w.wrap (1 * 2 ^ (min (v6).toNat 64))))).toNat:Int)))),(59,.p (.int .u64 o8))],[(3,.arr 3 1 1 [.p (.int .i64 m2)]),(6,.arr 124 1 1 [.own 139 1 0 i5.length]),(55,.arr 127 1 1 (v58 AV.p (v58 (uap .u64) w3))),(63,.arr 193 3 1 [.agg [.p (.int .i64 (h1.Vertices.length:Int)),.own 55 1 0 w3.length,.func (.func 79) [.loc 6 1 0 0,.loc 3 1 0 0]]]),(139,.arr 127 1 1 (v58 AV.p (v58 (uap .u64) i5)))]⟩ ?_
 obtain ⟨o44,h45,h⟩:=zB h
 obtain ⟨t46,i47⟩:=o44
 try simp only at h
 refine zIp [] (hrec_12965 i5 (v67.wrap (v6+1)) (v7w.wrap ((BitVec.ofInt 64 i7 ||| (BitVec.ofInt 64 (v7w.wrap (1 * 2 ^ (min (v6).toNat 64))))).toNat:Int)) o8 t46 i47 h45) ?_
 clear h45
 refine zM ⟨[(1,.p (.int .i64 v6)),(2,.p (.int .u64 i7)),(3,.p (.int .u64 o8)),(4,.loc 63 1 0 0),(54,.p (.bool true)),(60,.p (.bool t46))],[(3,.arr 3 1 1 [.p (.int .i64 m2)]),(6,.arr 124 1 1 [.own 139 2 0 i47.length]),(55,.arr 127 1 1 (v58 AV.p (v58 (uap .u64) w3))),(63,.arr 193 3 1 [.agg [.p (.int .i64 (h1.Vertices.length:Int)),.own 55 1 0 w3.length,.func (.func 79) [.loc 6 1 0 0,.loc 3 1 0 0]]]),(139,.arr 127 1 2 (v58 AV.p (v58 (uap .u64) i47)))]⟩ ?_
 refine zg ?_
 refine Ma ?_
 obtain ⟨h48,h⟩|⟨h48,h⟩:=zI h
 refine zj<|zk<|zn<|zs ?_
 refine zdl 8 ?_
 refine yU ?_
 refine ydl ?_
 refine zM ⟨[(63,.agg [.p (.int .i64 (h1.Vertices.length:Int)),.own 55 1 0 w3.length,.func (.func 79) [.loc 6 1 0 0,.loc 3 1 0 0]]),(65,.p (.int .i64 (v67.wrap (v6+1)))),(66,.p (.int .u64 i7)),(70,.p (.int .u64 (v7w.wrap ((BitVec.ofInt 64 o8 ||| (BitVec.ofInt 64 (v7w.wrap (1 * 2 ^ (min (v6).toNat 64))))).toNat:Int))))],[(3,.arr 3 1 1 [.p (.int .i64 m2)]),(6,.arr 124 1 1 [.own 139 2 0 i47.length]),(55,.arr 127 1 1 (v58 AV.p (v58 (uap .u64) w3))),(139,.arr 127 1 2 (v58 AV.p (v58 (uap .u64) i47)))]⟩ ?_
 refine zM ⟨[(63,.agg [.p (.int .i64 (h1.Vertices.length:Int)),.own 55 1 0 w3.length,.func (.func 79) [.loc 6 1 0 0,.loc 3 1 0 0]]),(65,.p (.int .i64 (v67.wrap (v6+1)))),(66,.p (.int .u64 i7)),(70,.p (.int .u64 (v7w.wrap ((BitVec.ofInt 64 o8 ||| (BitVec.ofInt 64 (v7w.wrap (1 * 2 ^ (min (v6).toNat 64))))).toNat:Int))))],[(3,.arr 3 1 1 [.p (.int .i64 m2)]),(6,.arr 124 1 1 [.own 139 2 0 i47.length]),(55,.arr 127 1 1 (v58 AV.p (v58 (uap .u64) w3))),(139,.arr 127 1 2 (v58 AV.p (v58 (uap .u64) i47)))]⟩ ?_
 obtain ⟨o49,h50,h⟩:=zB h
 obtain ⟨t51,i52⟩:=o49
 try simp only at h
 refine zIp [(139,1)] (hrec_12965 i47 (v67.wrap (v6+1)) i7 (v7w.wrap ((BitVec.ofInt 64 o8 ||| (BitVec.ofInt 64 (v7w.wrap (1 * 2 ^ (min (v6).toNat 64))))).toNat:Int)) t51 i52 h50) ?_
 clear h50
 refine zM ⟨[(71,.p (.bool t51))],[(3,.arr 3 1 1 [.p (.int .i64 m2)]),(6,.arr 124 1 1 [.own 139 3 0 i52.length]),(55,.arr 127 1 1 (v58 AV.p (v58 (uap .u64) w3))),(139,.arr 127 1 3 (v58 AV.p (v58 (uap .u64) i52)))]⟩ ?_
 refine My ?_
 exact Mo h
 refine T5 ?_
 refine Mm ?_
 exact Mo h
 try simp only at h
 refine zA<|yr<|zt ?_
 exact Mo h
theorem qrr (h_12623:Hypergraph) (most_12624:Int) (w_12710:List Int) (n:Nat):∀(in_12897:List Int) (v_12898:Int) (in_12899:Int) (out_12900:Int) (t8_12895:Bool) (in_12896:List Int),vvh (qco h_12623 most_12624 w_12710) n (in_12897,v_12898,in_12899,out_12900)=some (t8_12895,in_12896)→Ip D prog 80 [.agg [.p (.int .i64 (h_12623.Vertices.length:Int)),.own 55 1 0 w_12710.length,.func (.func 79) [.loc 6 1 0 0,.loc 3 1 0 0]],.p (.int .i64 v_12898),.p (.int .u64 in_12899),.p (.int .u64 out_12900)] [(3,.arr 3 1 1 [.p (.int .i64 most_12624)]),(6,.arr 124 1 1 [.own 139 1 0 in_12897.length]),(55,.arr 127 1 1 (v58 AV.p (v58 (uap .u64) w_12710))),(139,.arr 127 1 1 (v58 AV.p (v58 (uap .u64) in_12897)))] (.p (.bool t8_12895)) [(3,.arr 3 1 1 [.p (.int .i64 most_12624)]),(6,.arr 124 1 1 [.own 139 2 0 in_12896.length]),(55,.arr 127 1 1 (v58 AV.p (v58 (uap .u64) w_12710))),(139,.arr 127 1 2 (v58 AV.p (v58 (uap .u64) in_12896)))]:=by
  induction n with
  | zero=>intro in_12897 v_12898 in_12899 out_12900 t8_12895 in_12896 h;cases h
  | succ n ih=>intro in_12897 v_12898 in_12899 out_12900 t8_12895 in_12896 h;exact qso h_12623 most_12624 w_12710 _ ih in_12897 v_12898 in_12899 out_12900 t8_12895 in_12896 h
theorem qvl (h1:Hypergraph) (m2:Int) (r3:List Int×Bool) (h:qi8 h1 m2=some r3):Con D prog 35 [(qal h1),(.int .i64 m2)] (.tup [(.slc (v58 (uap .u64) r3.1)),(.bool r3.2)]):=by
 refine zP call35 func35 rfl ntmps35 fun X w hT=>?_
 simp only [qi8] at h
 refine Ml ?_
 refine M6 ?_
 refine M6 ?_
 refine zU ?_
 refine zM ⟨[(6,.loc 6 1 0 0),(8,.p (qal h1)),(9,.func (.func 79) [.loc 6 1 0 0,.loc 3 1 0 0])],[(3,.arr 3 1 1 [.p (.int .i64 m2)]),(6,.arr 124 1 1 [.nils])]⟩ ?_
 refine qfa (avs:=[.p (qal h1),.func (.func 79) [.loc 6 1 0 0,.loc 3 1 0 0]]) 14 rfl (qa6 rfl) rfl func78 rfl call78 ntmps78 (by simp) (by simp only [go_sem,seval];all_goals rfl) ?_
 intro i4 w5 h6
 show AWp _ _ _ ⟨[(0,.p (qal h1)),(1,.func (.func 79) [.loc 6 1 0 0,.loc 3 1 0 0])],[(3,.arr 3 1 1 [.p (.int .i64 m2)]),(6,.arr 124 1 1 [.nils])]⟩
 refine Ml ?_
 refine M6 ?_
 refine M5 ?_
 obtain ⟨w7,h8,h⟩:=zB h
 refine zO (fun (s:List Int×Int)=>⟨[(2,.loc 16 1 0 0),(4,.loc 18 1 0 0),(5,.loc 19 1 0 0),(17,.p (.slc (v58 (qav (uap .i64)) h1.Edges))),(18,.p (.int .i64 (h1.Edges.length:Int))),(19,.p (.int .i64 s.2))],[(3,.arr 3 1 1 [.p (.int .i64 m2)]),(6,.arr 124 1 1 [.nils]),(16,.arr 40 2 1 [.p (qal h1)]),(18,.arr 193 3 1 [.agg [.p (.int .i64 0),.nils,.p (.nilf)]]),(19,.arr 193 3 1 [.agg [.p (.int .i64 (h1.Vertices.length:Int)),.own 55 1 0 s.1.length,.func (.func 79) [.loc 6 1 0 0,.loc 3 1 0 0]]]),(55,.arr 127 1 1 (v58 AV.p (v58 (uap .u64) s.1)))]⟩) (fun (o9:List Int)=>tE ⟨prog,45,14,X,[(3,.arr 3 1 1 [.p (.int .i64 m2)]),(6,.arr 124 1 1 [.nils])],i4,w5,D,h6⟩ (.exit 0) ⟨[(4,.loc 18 1 0 0),(5,.loc 19 1 0 0)],[(3,.arr 3 1 1 [.p (.int .i64 m2)]),(6,.arr 124 1 1 [.nils]),(18,.arr 193 3 1 [.agg [.p (.int .i64 0),.nils,.p (.nilf)]]),(19,.arr 193 3 1 [.agg [.p (.int .i64 (h1.Vertices.length:Int)),.own 55 1 0 o9.length,.func (.func 79) [.loc 6 1 0 0,.loc 3 1 0 0]]]),(55,.arr 127 1 1 (v58 AV.p (v58 (uap .u64) o9)))]⟩) h8 ?_ ?_
 clear h h8
 intro s x h
 obtain ⟨w10,t11⟩:=s
 simp only [qe5] at h
 dsimp only
 refine M9 ?_
 obtain ⟨h12,h⟩|⟨h12,h⟩:=zI h
 refine Mb ?_
 obtain ⟨x13,h14,h14a,h14b,h⟩:=zX h
 refine M6 ?_
 refine M5 ?_
 obtain ⟨b15,h16,h⟩:=zB h
 refine zO (fun (s:Int×Int)=>⟨[(2,.loc 16 1 0 0),(4,.loc 18 1 0 0),(5,.loc 19 1 0 0),(8,.p (.int .u64 s.1)),(17,.p (.slc (v58 (qav (uap .i64)) h1.Edges))),(18,.p (.int .i64 (h1.Edges.length:Int))),(19,.p (.int .i64 t11)),(23,.p (.slc (v58 (uap .i64) x13))),(24,.p (.int .i64 (x13.length:Int))),(25,.p (.int .i64 s.2))],[(3,.arr 3 1 1 [.p (.int .i64 m2)]),(6,.arr 124 1 1 [.nils]),(16,.arr 40 2 1 [.p (qal h1)]),(18,.arr 193 3 1 [.agg [.p (.int .i64 0),.nils,.p (.nilf)]]),(19,.arr 193 3 1 [.agg [.p (.int .i64 (h1.Vertices.length:Int)),.own 55 1 0 w10.length,.func (.func 79) [.loc 6 1 0 0,.loc 3 1 0 0]]]),(55,.arr 127 1 1 (v58 AV.p (v58 (uap .u64) w10)))]⟩) (fun (o17:Int)=>tE ⟨prog,45,14,X,[(3,.arr 3 1 1 [.p (.int .i64 m2)]),(6,.arr 124 1 1 [.nils])],i4,w5,D,h6⟩ (.exit 2) ⟨[(2,.loc 16 1 0 0),(4,.loc 18 1 0 0),(5,.loc 19 1 0 0),(8,.p (.int .u64 o17)),(17,.p (.slc (v58 (qav (uap .i64)) h1.Edges))),(18,.p (.int .i64 (h1.Edges.length:Int))),(19,.p (.int .i64 t11))],[(3,.arr 3 1 1 [.p (.int .i64 m2)]),(6,.arr 124 1 1 [.nils]),(16,.arr 40 2 1 [.p (qal h1)]),(18,.arr 193 3 1 [.agg [.p (.int .i64 0),.nils,.p (.nilf)]]),(19,.arr 193 3 1 [.agg [.p (.int .i64 (h1.Vertices.length:Int)),.own 55 1 0 w10.length,.func (.func 79) [.loc 6 1 0 0,.loc 3 1 0 0]]]),(55,.arr 127 1 1 (v58 AV.p (v58 (uap .u64) w10)))]⟩) h16 ?_ ?_
 clear h h12 h14 h14a h14b h16
 intro s x h
 obtain ⟨b18,t19⟩:=s
 simp only [qe4] at h
 dsimp only
 refine M9 ?_
 obtain ⟨h20,h⟩|⟨h20,h⟩:=zI h
 refine Mb ?_
 obtain ⟨x21,h22,h22a,h22b,h⟩:=zX h
 refine Mu ?_
 refine zU ?_
 obtain ⟨r23,h24,h⟩:=zB h
 refine zc (qqj h1.Vertices x21 _ h24) ?_
 obtain ⟨h25,h⟩:=qdm h
 refine Mk ?_
 exact M0 h
 exact M3 h
 try simp only at h
 refine zA<|yh<|zn<|zr ?_
 obtain ⟨h26,h⟩:=qae h
 refine Mk ?_
 exact M0 h
 exact M3 h
 try simp only at h
 refine Md ?_
 refine My ?_
 refine qa8 (by simp only [results78];simp only [go_sem,seval];exact rfl) ?_
 refine zM ⟨[(6,.loc 6 1 0 0),(10,.agg [.p (.int .i64 (h1.Vertices.length:Int)),.own 55 1 0 w7.length,.func (.func 79) [.loc 6 1 0 0,.loc 3 1 0 0]])],[(3,.arr 3 1 1 [.p (.int .i64 m2)]),(6,.arr 124 1 1 [.nils]),(55,.arr 127 1 1 (v58 AV.p (v58 (uap .u64) w7)))]⟩ ?_
 refine zM ⟨[(6,.loc 6 1 0 0),(10,.agg [.p (.int .i64 (h1.Vertices.length:Int)),.own 55 1 0 w7.length,.func (.func 79) [.loc 6 1 0 0,.loc 3 1 0 0]])],[(3,.arr 3 1 1 [.p (.int .i64 m2)]),(6,.arr 124 1 1 [.own 139 1 0 0]),(55,.arr 127 1 1 (v58 AV.p (v58 (uap .u64) w7))),(139,.arr 127 1 1 (v58 AV.p (v58 (uap .u64) [])))]⟩ ?_
 obtain ⟨o27,h28,h⟩:=zB h
 obtain ⟨t29,i30⟩:=o27
 try simp only at h
 refine zIp [] (qrr h1 m2 w7 64 [] 0 0 0 t29 i30 h28) ?_
 clear h28
 refine zM ⟨[(6,.loc 6 1 0 0),(11,.p (.bool t29))],[(6,.arr 124 1 1 [.own 139 1 0 i30.length]),(139,.arr 127 1 1 (v58 AV.p (v58 (uap .u64) i30)))]⟩ ?_
 refine M6 ?_
 exact M1 h results35
theorem qwj (h1:Hypergraph) (s2:Int) (r3:List Int) (h:qkd h1 s2=some r3):Con D prog 36 [(qal h1),(.int .u64 s2)] (.slc (v58 (uap .i64) r3)):=by
 refine zP call36 func36 rfl ntmps36 fun X w hT=>?_
 simp only [qkd] at h
 refine Ml ?_
 refine M6 ?_
 refine M5 ?_
 obtain ⟨o4,h5,h⟩:=zB h
 refine zO (fun (s:List Int×Int)=>⟨[(1,.p (.int .u64 s2)),(5,.own 24 1 0 s.1.length),(9,.p (.slc (v58 (uap .i64) h1.Vertices))),(10,.p (.int .i64 (h1.Vertices.length:Int))),(11,.p (.int .i64 s.2))],[(24,.arr 2 1 1 (v58 AV.p (v58 (uap .i64) s.1)))]⟩) (fun (o6:List Int)=>tE (cX Tryz.f36 X w D hT) (.exit 0) ⟨[(5,.own 24 1 0 o6.length)],[(24,.arr 2 1 1 (v58 AV.p (v58 (uap .i64) o6)))]⟩) h5 ?_ ?_
 clear h h5
 intro s x h
 obtain ⟨o7,t8⟩:=s
 simp only [qhk] at h
 dsimp only
 refine M9 ?_
 obtain ⟨h9,h⟩|⟨h9,h⟩:=zI h
 refine Mb ?_
 obtain ⟨x10,h11,h11a,h11b,h⟩:=zX h
 refine M6 ?_
 obtain ⟨h12,h⟩:=qdm h
 refine Ma ?_
 obtain ⟨h13,h⟩|⟨h13,h⟩:=zI h
 refine zi<|zr ?_
 obtain ⟨h14,h⟩:=qae h
 refine Mk ?_
 exact M0 h
 refine Me ?_
 exact M0 h
 exact M3 h
 try simp only at h
 refine Md ?_
 exact M1 h results36
theorem qwk (h1:Hypergraph) (m2:Int) (r3:List (List Int)×Int) (h:qke h1 m2=some r3):Con D prog 14 [(qal h1),(.int .i64 m2)] (.tup [(.slc (v58 (qav (uap .i64)) r3.1)),(.int .i64 r3.2)]):=by
 refine zP call14 func14 rfl ntmps14 fun X w hT=>?_
 simp only [qke] at h
 refine Ml ?_
 refine Mc ?_
 refine zU ?_
 obtain ⟨r4,h5,h⟩:=zB h
 refine zc (qtw h1 _ h5) ?_
 refine M6 ?_
 refine Ma ?_
 obtain ⟨h6,h⟩|⟨h6,h⟩:=zI h
 exact M2 h results14
 refine Mi ?_
 refine zU ?_
 obtain ⟨r7,h8,h⟩:=zB h
 refine zc (qvl h1 m2 _ h8) ?_
 refine Mc ?_
 refine Ma ?_
 obtain ⟨h9,h⟩|⟨h9,h⟩:=zI h
 refine Mi ?_
 refine M5 ?_
 obtain ⟨o10,h11,h⟩:=zB h
 refine zO (fun (s:List (List Int)×Int)=>⟨[(2,.loc 2 1 0 0),(9,.own 36 1 0 s.1.length),(25,.p (.slc (v58 (uap .u64) r7.1))),(26,.p (.int .i64 (r7.1.length:Int))),(27,.p (.int .i64 s.2))],[(2,.arr 40 2 1 [.p (qal h1)]),(36,.arr 37 1 1 (v58 AV.p (v58 (qav (uap .i64)) s.1)))]⟩) (fun (o12:List (List Int))=>tE (cX Tryz.f14 X w D hT) (.exit 0) ⟨[(9,.own 36 1 0 o12.length)],[(36,.arr 37 1 1 (v58 AV.p (v58 (qav (uap .i64)) o12)))]⟩) h11 ?_ ?_
 clear h h5 h6 h8 h9 h11
 intro s x h
 obtain ⟨o13,t14⟩:=s
 simp only [qhl] at h
 dsimp only
 refine M9 ?_
 obtain ⟨h15,h⟩|⟨h15,h⟩:=zI h
 refine Mb ?_
 obtain ⟨x16,h17,h17a,h17b,h⟩:=zX h
 refine Mu ?_
 refine zU ?_
 obtain ⟨r18,h19,h⟩:=zB h
 refine zc (qwj h1 x16 _ h19) ?_
 obtain ⟨h20,h⟩:=qae h
 refine Mk ?_
 exact M0 h
 exact M3 h
 try simp only at h
 refine Md ?_
 exact M1 h results14
 exact M2 h results14
theorem qvm (a1:List Int) (b2:List Int) (r3:Bool) (h:qi9 a1 b2=some r3):Con D prog 15 [(.slc (v58 (uap .i64) a1)),(.slc (v58 (uap .i64) b2))] (.bool r3):=by
 refine zP call15 func15 rfl ntmps15 fun X w hT=>?_
 simp only [qi9] at h
 refine Ml ?_
 refine Mc ?_
 refine Ma ?_
 obtain ⟨h4,h⟩|⟨h4,h⟩:=zI h
 exact M2 h results15
 refine Mj ?_
 refine Mq ?_
 obtain ⟨o5,h6,h⟩:=zB h
 refine zO (fun (s:Int)=>⟨[(0,.p (.slc (v58 (uap .i64) a1))),(1,.p (.slc (v58 (uap .i64) b2))),(5,.p (.int .i64 s))],[]⟩) (fun (o:(Unit) ⊕ (Bool))=>match o with | .inl o7=>tE (cX Tryz.f15 X w D hT) (.exit 0) ⟨[],[]⟩ | .inr o8=>tR prog Tryz.f15 (.bool o8)) h6 ?_ ?_
 clear h h4 h6
 intro i9 x h
 simp only [qe6] at h
 refine zs<|zs<|zr ?_
 refine Ma ?_
 obtain ⟨h10,h⟩|⟨h10,h⟩:=zI h
 refine zi<|zk<|zn<|zs<|zb<|zs<|zd ?_
 obtain ⟨x11,h12,h12a,h12b,h⟩:=zX h
 obtain ⟨x13,h14,h14a,h14b,h⟩:=zX h
 refine Ms ?_
 obtain ⟨h15,h⟩|⟨h15,h⟩:=zI h
 refine M4 ?_
 cases h
 exact ⟨rfl,zT results15⟩
 refine Me ?_
 exact M0 h
 exact M3 h
 rcases o5 with ⟨⟩ | r16
 try simp only at h
 refine Md ?_
 exact M1 h results15
 exact M8 h
theorem qp5 (x1:Drossref03_Recipe) (r2:List Drossref37_Rule) (r3:Bool) (h:qg9 x1 r2=some r3):Con False prog 3 [(qat x1),(.slc (v58 qa7 r2))] (.bool r3):=by
 refine zP call3 func3 rfl ntmps3 fun X w hT=>?_
 simp only [qg9] at h
 refine Ml ?_
 refine M6 ?_
 refine zU ?_
 obtain ⟨r4,h5,h⟩:=zB h
 refine zc (qsh x1 6 _ h5) ?_
 refine M6 ?_
 refine zU ?_
 obtain ⟨r6,h7,h⟩:=zB h
 refine zc (qtp (r4.1.Attrs.length:Int) r2 _ h7) ?_
 refine zU<|zl<|zn<|zs ?_
 obtain ⟨t8,h9,h⟩:=zB h
 refine zJ (fun (o10:Bool)=>tE (cX Tryz.f3 X w False hT) .normal ⟨[(5,.loc 5 1 0 0),(7,.p (.slc (v58 qak r6.1))),(48,.p (.bool o10))],[(5,.arr 29 3 1 [.p (qaa r4.1)])]⟩) t8 ?_ ?_
 replace h:=h9
 clear h9
 refine zr ?_
 obtain ⟨r11,h12,h⟩:=zB h
 refine zc (qlw  _ h12) ?_
 refine zU ?_
 obtain ⟨h13,h⟩|⟨h13,h⟩:=zI h
 refine zw 41 false ?_
 refine M7 ?_
 refine zU ?_
 obtain ⟨h14,h⟩|⟨h14,h⟩:=zI h
 replace h:=h.symm
 refine zw 45 false ?_
 refine M7 ?_
 exact M0 h
 refine zw 45 true ?_
 refine zh ?_
 exact M0 h
 refine zw 41 true ?_
 refine Mh ?_
 exact M0 h
 try simp only at h
 refine zA<|zn ?_
 obtain ⟨h15,h⟩|⟨h15,h⟩:=zI h
 refine T5 ?_
 obtain ⟨r16,h17,h⟩:=zB h
 refine zc (qlw  _ h17) ?_
 refine Mm ?_
 exact T0 h results3
 refine Mi ?_
 refine zU ?_
 obtain ⟨r18,h19,h⟩:=zB h
 refine zc (qsi r6.1 _ h19) ?_
 refine M6 ?_
 refine zU ?_
 obtain ⟨r20,h21,h⟩:=zB h
 refine zc (qvd r4.1 r18 _ h21) ?_
 refine Mc ?_
 refine Ma ?_
 obtain ⟨h22,h⟩|⟨h22,h⟩:=zI h
 exact M2 h results3
 refine Mi ?_
 obtain ⟨h23,h⟩:=qdm h
 obtain ⟨h24,h⟩:=qae h
 obtain ⟨h25,h⟩:=qae h
 refine M5 ?_
 obtain ⟨o26,h27,h⟩:=zB h
 refine zO (fun (s:List Bool×Int)=>⟨[(5,.loc 5 1 0 0),(7,.p (.slc (v58 qak r18))),(9,.loc 9 1 0 0),(11,.own 64 1 0 s.1.length),(66,.p (.int .i64 (((v67.wrap (1 * 2 ^ (min r4.1.Rows.length 64))).toNat:Nat):Int))),(67,.p (.int .i64 s.2))],[(5,.arr 29 3 1 [.p (qaa r4.1)]),(9,.arr 40 2 1 [.p (qal r20.1)]),(64,.arr 4 1 1 (v58 AV.p (v58 PV.bool s.1)))]⟩) (fun (o:(List Bool) ⊕ (Bool))=>match o with | .inl o28=>tE (cX Tryz.f3 X w False hT) (.exit 0) ⟨[(5,.loc 5 1 0 0),(9,.loc 9 1 0 0),(11,.own 64 1 0 o28.length)],[(5,.arr 29 3 1 [.p (qaa r4.1)]),(9,.arr 40 2 1 [.p (qal r20.1)]),(64,.arr 4 1 1 (v58 AV.p (v58 PV.bool o28)))]⟩ | .inr o29=>tR prog Tryz.f3 (.bool o29)) h27 ?_ ?_
 clear h h5 h7 h15 h19 h21 h22 h23 h24 h25 h27
 intro s x h
 obtain ⟨c30,t31⟩:=s
 simp only [qc1] at h
 dsimp only
 refine M9 ?_
 obtain ⟨h32,h⟩|⟨h32,h⟩:=zI h
 refine Mb ?_
 refine Mv ?_
 refine yU ?_
 obtain ⟨r33,h34,h⟩:=zB h
 refine yc (qjm r4.1 t31 _ h34) ?_
 obtain ⟨r35,h36,h⟩:=zB h
 refine yc (qtv r4.1 r33 _ h36) ?_
 obtain ⟨r37,h38,h⟩:=zB h
 refine yc (qrq r35 _ h38) ?_
 refine yU ?_
 obtain ⟨r39,h40,h⟩:=zB h
 refine yc (qxe r37 r18 _ h40) ?_
 refine yU ?_
 refine yd<|zn<|zs<|zs<|zd ?_
 refine yU ?_
 obtain ⟨h41,h⟩|⟨h41,h⟩:=zI h
 refine yw 83 true ?_
 refine yk ?_
 refine Ms ?_
 refine Mg ?_
 cases h
 exact ⟨rfl,zT results3⟩
 refine yw 83 false ?_
 refine Mf ?_
 refine yg ?_
 obtain ⟨r42,h43,h⟩:=zB h
 refine yc (qjm r4.1 t31 _ h43) ?_
 obtain ⟨r44,h45,h⟩:=zB h
 refine yc (qpc r20.1 r42 _ h45) ?_
 refine yg ?_
 refine Ms ?_
 obtain ⟨h46,h⟩|⟨h46,h⟩:=zI h
 refine zj<|zk<|zn<|zr ?_
 obtain ⟨x47,h48,h48a,h48b,h⟩:=zX h
 refine Mk ?_
 exact M0 h
 refine Mg ?_
 cases h
 exact ⟨rfl,zT results3⟩
 exact M3 h
 rcases o26 with c49 | r50
 try simp only at h
 refine Md ?_
 refine M5 ?_
 obtain ⟨w51,h52,h⟩:=zB h
 refine zO (fun (s:List (List Int)×Int)=>⟨[(5,.loc 5 1 0 0),(9,.loc 9 1 0 0),(11,.own 64 1 0 c49.length),(15,.own 135 1 0 s.1.length),(97,.own 64 1 0 c49.length),(98,.p (.int .i64 ((c49.length:Nat):Int))),(99,.p (.int .i64 s.2))],[(5,.arr 29 3 1 [.p (qaa r4.1)]),(9,.arr 40 2 1 [.p (qal r20.1)]),(64,.arr 4 1 1 (v58 AV.p (v58 PV.bool c49))),(135,.arr 37 1 1 (v58 AV.p (v58 (qav (uap .i64)) s.1)))]⟩) (fun (o53:List (List Int))=>tE (cX Tryz.f3 X w False hT) (.exit 2) ⟨[(9,.loc 9 1 0 0),(15,.own 135 1 0 o53.length)],[(9,.arr 40 2 1 [.p (qal r20.1)]),(135,.arr 37 1 1 (v58 AV.p (v58 (qav (uap .i64)) o53)))]⟩) h52 ?_ ?_
 clear h h5 h7 h15 h19 h21 h22 h23 h24 h25 h27 h52
 intro s x h
 obtain ⟨w54,t55⟩:=s
 simp only [qc3] at h
 dsimp only
 refine M9 ?_
 obtain ⟨h56,h⟩|⟨h56,h⟩:=zI h
 refine Mb ?_
 obtain ⟨x57,h58,h58a,h58b,h⟩:=zX h
 refine M5 ?_
 obtain ⟨g59,h60,h⟩:=zB h
 refine zO (fun (s:Bool×Int)=>⟨[(5,.loc 5 1 0 0),(9,.loc 9 1 0 0),(11,.own 64 1 0 c49.length),(15,.own 135 1 0 w54.length),(16,.p (.int .i64 t55)),(17,.p (.bool s.1)),(97,.own 64 1 0 c49.length),(98,.p (.int .i64 ((c49.length:Nat):Int))),(99,.p (.int .i64 t55)),(106,.p (.int .i64 (r4.1.Rows.length:Int))),(107,.p (.int .i64 s.2))],[(5,.arr 29 3 1 [.p (qaa r4.1)]),(9,.arr 40 2 1 [.p (qal r20.1)]),(64,.arr 4 1 1 (v58 AV.p (v58 PV.bool c49))),(135,.arr 37 1 1 (v58 AV.p (v58 (qav (uap .i64)) w54)))]⟩) (fun (o61:Bool)=>tE (cX Tryz.f3 X w False hT) (.exit 4) ⟨[(5,.loc 5 1 0 0),(9,.loc 9 1 0 0),(11,.own 64 1 0 c49.length),(15,.own 135 1 0 w54.length),(16,.p (.int .i64 t55)),(17,.p (.bool o61)),(97,.own 64 1 0 c49.length),(98,.p (.int .i64 ((c49.length:Nat):Int))),(99,.p (.int .i64 t55))],[(5,.arr 29 3 1 [.p (qaa r4.1)]),(9,.arr 40 2 1 [.p (qal r20.1)]),(64,.arr 4 1 1 (v58 AV.p (v58 PV.bool c49))),(135,.arr 37 1 1 (v58 AV.p (v58 (qav (uap .i64)) w54)))]⟩) h60 ?_ ?_
 clear h h56 h58 h58a h58b h60
 intro s x h
 obtain ⟨g62,t63⟩:=s
 simp only [qc2] at h
 dsimp only
 refine M9 ?_
 obtain ⟨h64,h⟩|⟨h64,h⟩:=zI h
 refine Mb ?_
 refine Mu ?_
 refine zU ?_
 obtain ⟨h65,h⟩|⟨h65,h⟩:=zI h
 refine zw 111 true ?_
 refine M7 ?_
 obtain ⟨h66,h⟩:=qdm h
 refine M7 ?_
 refine M7 ?_
 obtain ⟨h67,h⟩|⟨h67,h⟩:=zI h
 replace h:=h.symm
 refine zw 117 true ?_
 refine zh ?_
 refine zg ?_
 refine Mk ?_
 exact M0 h
 refine zw 117 false ?_
 refine M7 ?_
 refine M7 ?_
 refine zg ?_
 obtain ⟨x68,h69,h69a,h69b,h⟩:=zX h
 replace h:=h.symm
 refine M7 ?_
 refine M7 ?_
 refine Mk ?_
 exact M0 h
 refine zw 111 false ?_
 refine zh ?_
 refine Mk ?_
 exact M0 h
 exact M3 h
 try simp only at h
 refine Md ?_
 refine Ma ?_
 obtain ⟨h70,h⟩|⟨h70,h⟩:=zI h
 refine T9 ?_
 obtain ⟨r71,h72,h⟩:=zB h
 refine zc (qjm r4.1 t55 _ h72) ?_
 obtain ⟨h73,h⟩:=qae h
 refine Mk ?_
 exact M0 h
 refine Me ?_
 exact M0 h
 exact M3 h
 try simp only at h
 refine Md ?_
 refine zU ?_
 obtain ⟨r74,h75,h⟩:=zB h
 refine zc (qwk r20.1 1000 _ h75) ?_
 refine Mc ?_
 refine zU ?_
 obtain ⟨h76,h⟩|⟨h76,h⟩:=zI h
 refine zw 144 true ?_
 refine zh ?_
 refine Ma ?_
 exact M2 h results3
 refine zw 144 false ?_
 refine M7 ?_
 refine M7 ?_
 refine zg ?_
 refine Ma ?_
 obtain ⟨h77,h⟩|⟨h77,h⟩:=zI h
 exact M2 h results3
 refine Mj ?_
 refine Mq ?_
 obtain ⟨o78,h79,h⟩:=zB h
 refine zO (fun (s:Int)=>⟨[(19,.p (.slc (v58 (qav (uap .i64)) r74.1))),(151,.own 135 1 0 w51.length),(152,.p (.int .i64 ((w51.length:Nat):Int))),(153,.p (.int .i64 s))],[(135,.arr 37 1 1 (v58 AV.p (v58 (qav (uap .i64)) w51)))]⟩) (fun (o:(Unit) ⊕ (Bool))=>match o with | .inl o80=>tE (cX Tryz.f3 X w False hT) (.exit 6) ⟨[],[]⟩ | .inr o81=>tR prog Tryz.f3 (.bool o81)) h79 ?_ ?_
 clear h h5 h7 h15 h19 h21 h22 h23 h24 h25 h27 h52 h75 h76 h77 h79
 intro t82 x h
 simp only [qc5] at h
 refine M9 ?_
 obtain ⟨h83,h⟩|⟨h83,h⟩:=zI h
 refine Mb ?_
 obtain ⟨x84,h85,h85a,h85b,h⟩:=zX h
 refine M6 ?_
 refine M5 ?_
 obtain ⟨f86,h87,h⟩:=zB h
 refine zO (fun (s:Bool×Int)=>⟨[(19,.p (.slc (v58 (qav (uap .i64)) r74.1))),(22,.p (.slc (v58 (uap .i64) x84))),(23,.p (.bool s.1)),(151,.own 135 1 0 w51.length),(152,.p (.int .i64 ((w51.length:Nat):Int))),(153,.p (.int .i64 t82)),(157,.p (.slc (v58 (qav (uap .i64)) r74.1))),(158,.p (.int .i64 (r74.1.length:Int))),(159,.p (.int .i64 s.2))],[(135,.arr 37 1 1 (v58 AV.p (v58 (qav (uap .i64)) w51)))]⟩) (fun (o88:Bool)=>tE (cX Tryz.f3 X w False hT) (.exit 8) ⟨[(19,.p (.slc (v58 (qav (uap .i64)) r74.1))),(23,.p (.bool o88)),(151,.own 135 1 0 w51.length),(152,.p (.int .i64 ((w51.length:Nat):Int))),(153,.p (.int .i64 t82))],[(135,.arr 37 1 1 (v58 AV.p (v58 (qav (uap .i64)) w51)))]⟩) h87 ?_ ?_
 clear h h83 h85 h85a h85b h87
 intro s x h
 obtain ⟨f89,t90⟩:=s
 simp only [qc4] at h
 dsimp only
 refine M9 ?_
 obtain ⟨h91,h⟩|⟨h91,h⟩:=zI h
 refine Mb ?_
 obtain ⟨x92,h93,h93a,h93b,h⟩:=zX h
 refine Mu ?_
 refine zU ?_
 obtain ⟨h94,h⟩|⟨h94,h⟩:=zI h
 refine zw 164 true ?_
 refine zh ?_
 refine Mk ?_
 exact M0 h
 refine zw 164 false ?_
 refine M7 ?_
 obtain ⟨r95,h96,h⟩:=zB h
 refine zc (qvm x84 x92 _ h96) ?_
 refine Mk ?_
 exact M0 h
 exact M3 h
 try simp only at h
 refine Md ?_
 refine Ma ?_
 obtain ⟨h97,h⟩|⟨h97,h⟩:=zI h
 refine Me ?_
 exact M0 h
 refine M4 ?_
 cases h
 exact ⟨rfl,zT results3⟩
 exact M3 h
 rcases o78 with ⟨⟩ | r98
 try simp only at h
 refine Md ?_
 exact M1 h results3
 exact M8 h
 exact M8 h
end Go.Proofs.YtkebadaokhljmaaGreatDoor
