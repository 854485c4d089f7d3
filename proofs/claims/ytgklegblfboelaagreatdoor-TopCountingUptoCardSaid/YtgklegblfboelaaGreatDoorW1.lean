/- Each function of the program computes what its Lean function says, where that has a value. -/
import Derived.Shelf.Small.Strs
import Derived.Ground.SlgnProg
import Derived.Test.YtgklegblfboelaaGreatDoorT1
import Derived.Test.YtgklegblfboelaaGreatDoorL1
import Derived.Test.YtgklegblfboelaaGreatDoorA3
import Derived.Test.YtgklegblfboelaaGreatDoorL2
import Derived.Test.YtgklegblfboelaaGreatDoorA2
set_option linter.unusedVariables false
set_option linter.unusedSimpArgs false
set_option maxHeartbeats 4000000
set_option maxRecDepth 20000
open And renaming intro→vkz
open Bool renaming eq_false_iff→vgy
open Go.IntKind renaming i64→vip,u64→vi4
open Go.Lib renaming compareBytes→vk0
open List renaming length_set→vfg,map→vhj
open Nat renaming eq_of_beq_eq_true→vk1
open Option.some renaming inj→vih,injEq→vgr
open Go.Ab.PV renaming int→vk2
namespace Go.Proofs.YtgklegblfboelaaGreatDoor
open Go Go.Ab Tryz
theorem mixed:Tryz.prog.follows .mixedOrders=true:=by kernel_rfl
@[reducible] noncomputable def cX (f:Func) (X:Nat→Prop) (w:World) (D:Prop) (hT:TabOk Tryz.prog (fun b=>X b∨F (fun _=>none) (qag []) b) w):Cx:=⟨Tryz.prog,f.ntmps,0,X,[],fun _=>none,w,D,hT⟩
theorem zd {N B:Nat} {X:Nat→Prop} {H0:List (Nat×AO)} {inj0:Inj} {w0:World} {D:Prop} {tb:TabOk Tryz.prog (fun b=>X b∨F inj0 (qag H0) b) w0} {Q:Exit→St→Prop} {st:St} {id:Nat} {l:List Oper} (h:DGo ⟨Tryz.prog,N,B,X,H0,inj0,w0,D,tb⟩ l.toArray l st [] (DK ⟨Tryz.prog,N,B,X,H0,inj0,w0,D,tb⟩ l.toArray Q)) (hs:qee l.toArray=true:=by kernel_rfl):AWp ⟨Tryz.prog,N,B,X,H0,inj0,w0,D,tb⟩ (.region id l.toArray true) Q st:=qpz mixed hs h
theorem zdl (n:Nat) {N B:Nat} {X:Nat→Prop} {H0:List (Nat×AO)} {inj0:Inj} {w0:World} {D:Prop} {tb:TabOk Tryz.prog (fun b=>X b∨F inj0 (qag H0) b) w0} {Q:Exit→St→Prop} {st:St} {id:Nat} {l:List Oper} (h:DGo ⟨Tryz.prog,N,B,X,H0,inj0,w0,D,tb⟩ l.toArray (l.take n) st [] (DKL ⟨Tryz.prog,N,B,X,H0,inj0,w0,D,tb⟩ l.toArray (l.drop n) Q)) (hs:qee l.toArray=true:=by kernel_rfl) (hl:qxk l.toArray n=true:=by kernel_rfl):AWp ⟨Tryz.prog,N,B,X,H0,inj0,w0,D,tb⟩ (.region id l.toArray true) Q st:=qp1 n mixed hs hl h
def qaa (x:Hypergraph):PV:=.agg [.slc (vhj (vk2 .i64) x.Vertices),.slc (vhj (qc1 (vk2 .i64)) x.Edges)]
@[go_sem] theorem qyo (x:Hypergraph):PV.agg [.slc (vhj (vk2 .i64) x.Vertices),.slc (vhj (qc1 (vk2 .i64)) x.Edges)]=qaa x:=rfl
@[go_sem] theorem qw3 (x:Hypergraph):(qaa x).cells=[.slc (vhj (vk2 .i64) x.Vertices),.slc (vhj (qc1 (vk2 .i64)) x.Edges)]:=rfl
@[go_sem] theorem qw4 (x:Hypergraph):(qaa x).isAgg=true:=rfl
@[go_sem] theorem qw5 (x:Hypergraph):(qaa x).isTup=false:=rfl
@[simp] theorem q0l (a_Vertices:List Int) (a_Edges:List (List Int)):qaa ⟨a_Vertices,a_Edges⟩=.agg [.slc (vhj (vk2 .i64) a_Vertices),.slc (vhj (qc1 (vk2 .i64)) a_Edges)]:=rfl
def qaj (x:Drossref37_Graph):PV:=.agg [.int .u8 x.N,.slc (vhj (vk2 .u8) x.Edges)]
@[go_sem] theorem qq9 (x:Drossref37_Graph):PV.agg [.int .u8 x.N,.slc (vhj (vk2 .u8) x.Edges)]=qaj x:=rfl
@[go_sem] theorem qhv (x:Drossref37_Graph):(qaj x).cells=[.int .u8 x.N,.slc (vhj (vk2 .u8) x.Edges)]:=rfl
@[go_sem] theorem qp7 (x:Drossref37_Graph):(qaj x).isAgg=true:=rfl
@[go_sem] theorem qp8 (x:Drossref37_Graph):(qaj x).isTup=false:=rfl
@[simp] theorem qsr (a_N:Int) (a_Edges:List Int):qaj ⟨a_N,a_Edges⟩=.agg [.int .u8 a_N,.slc (vhj (vk2 .u8) a_Edges)]:=rfl
theorem ql7 {D:Prop} (s1:Int) (i2:Int) (r3:Bool) (h:qd7 s1 i2=some r3):Con D Tryz.prog 42 [(.int .u32 s1),(.int .i64 i2)] (.bool r3):=by
 refine zP call42 func42 rfl ntmps42 fun X w hT=>?_
 simp only [qd7] at h
 refine zs<|zr ?_
 refine zU<|zl<|zn<|zs<|zr ?_
 refine zU ?_
 obtain ⟨h4,h⟩|⟨h4,h⟩:=zI h
 refine zw 7 true ?_
 refine zg ?_
 refine zg ?_
 refine zU ?_
 obtain ⟨h5,h⟩|⟨h5,h⟩:=zI h
 refine zw 11 true ?_
 refine zg ?_
 refine zg ?_
 obtain ⟨h6,h⟩:=qem h
 replace h:=h.symm
 refine zg ?_
 refine zg ?_
 refine zg ?_
 refine zU<|zl<|zn<|zq ?_
 cases h
 exact zT results42
 refine zw 11 false ?_
 refine zh ?_
 refine zU<|zl<|zn<|zq ?_
 cases h
 exact zT results42
 refine zw 7 false ?_
 refine zh ?_
 refine zU ?_
 refine zh ?_
 refine zU<|zl<|zn<|zq ?_
 cases h
 exact zT results42
theorem qky {D:Prop} (h1:Hypergraph) (s2:Int) (r3:List Int) (h:qei h1 s2=some r3):Con D Tryz.prog 15 [(qaa h1),(.int .u8 s2)] (.slc (vhj (vk2 .i64) r3)):=by
 refine zP call15 func15 rfl ntmps15 fun X w hT=>?_
 simp only [qei] at h
 refine zs<|zr ?_
 refine zU<|zl<|zn<|zs<|zr ?_
 refine zU<|zl<|zn<|zs<|zs<|zr ?_
 refine zU<|zl<|zn<|zb ?_
 obtain ⟨o4,h5,h⟩:=zB h
 refine zO (fun (s:List Int×Int)=>⟨[(1,.p (.int .u8 s2)),(2,.loc 2 1 0 0),(5,.own 29 1 0 s.1.length),(6,.p (.int .i64 s.2))],[(2,.arr 28 2 1 [.p (qaa h1)]),(29,.arr 2 1 1 (vhj AV.p (vhj (vk2 .i64) s.1)))]⟩) (fun (o6:List Int)=>tE (cX Tryz.f15 X w D hT) (.exit 0) ⟨[(5,.own 29 1 0 o6.length)],[(29,.arr 2 1 1 (vhj AV.p (vhj (vk2 .i64) o6)))]⟩) h5 ?_ ?_
 clear h h5
 intro s x h
 obtain ⟨o7,i8⟩:=s
 simp only [qc6] at h
 dsimp only
 refine zs<|zs<|zr ?_
 refine zU ?_
 obtain ⟨h9,h⟩|⟨h9,h⟩:=zI h
 refine zw 12 true ?_
 refine zg ?_
 refine zg ?_
 refine zU<|zl<|zn ?_
 obtain ⟨h10,h⟩|⟨h10,h⟩:=zI h
 refine zi<|zk<|zn<|zs<|zb<|zs<|zr ?_
 refine zU ?_
 obtain ⟨r11,h12,h⟩:=zB h
 refine zc (ql7 (IntKind.u32.wrap s2) i8 _ h12) ?_
 refine zl<|zn ?_
 obtain ⟨h13,h⟩|⟨h13,h⟩:=zI h
 refine zi<|zr ?_
 obtain ⟨x14,h15,h15a,h15b,h⟩:=zX h
 obtain ⟨h16,h⟩:=qa1 h
 refine zU<|zl<|yn<|zn<|zr ?_
 refine zU<|zl ?_
 cases h
 exact ⟨rfl,zE⟩
 refine zj<|zk<|yn<|zn<|zr ?_
 refine zU<|zl ?_
 cases h
 exact ⟨rfl,zE⟩
 refine zj<|zx<|ze ?_
 cases h
 exact ⟨rfl,zE⟩
 refine zw 12 false ?_
 refine zh ?_
 refine zU<|zl<|zn ?_
 refine zj<|zx<|ze ?_
 cases h
 exact ⟨rfl,zE⟩
 try simp only at h
 refine zA<|yh<|zn<|zs<|zr ?_
 refine zU<|zl<|zn<|zq ?_
 cases h
 exact zT results15
theorem qfj {D:Prop} (l1:List Int) (i2:Int) (r3:Bool) (h:qc9 l1 i2=some r3):Con D Tryz.prog 14 [(.slc (vhj (vk2 .i64) l1)),(.int .i64 i2)] (.bool r3):=by
 refine zP call14 func14 rfl ntmps14 fun X w hT=>?_
 simp only [qc9] at h
 refine zs<|zr ?_
 refine zU<|zl<|zn<|zs<|zs<|zr ?_
 refine zU<|zl<|zn<|zb ?_
 obtain ⟨o4,h5,h⟩:=zB h
 refine zO (fun (s:Int)=>⟨[(0,.p (.slc (vhj (vk2 .i64) l1))),(1,.p (.int .i64 i2)),(5,.p (.int .i64 s))],[]⟩) (fun (o:(Unit) ⊕ (Bool))=>match o with | .inl o6=>tE (cX Tryz.f14 X w D hT) (.exit 0) ⟨[],[]⟩ | .inr o7=>tR Tryz.prog Tryz.f14 (.bool o7)) h5 ?_ ?_
 clear h h5
 intro i8 x h
 simp only [qct] at h
 refine zs<|zs<|zr ?_
 refine zU<|zl<|zn ?_
 obtain ⟨h9,h⟩|⟨h9,h⟩:=zI h
 refine zi<|zk<|zn<|zs<|zb<|zs<|zr ?_
 obtain ⟨x10,h11,h11a,h11b,h⟩:=zX h
 refine zU<|zl<|zn ?_
 obtain ⟨h12,h⟩|⟨h12,h⟩:=zI h
 refine zi<|zs<|zr ?_
 refine zU<|zl<|zn<|zq<|yr<|zt ?_
 cases h
 exact ⟨rfl,zT results14⟩
 refine zj<|zk<|yn<|zn<|zr ?_
 refine zU<|zl ?_
 cases h
 exact ⟨rfl,zE⟩
 refine zj<|zx<|ze ?_
 cases h
 exact ⟨rfl,zE⟩
 rcases o4 with ⟨⟩ | r13
 try simp only at h
 refine zA<|yh<|zn<|zs<|zr ?_
 refine zU<|zl<|zn<|zq ?_
 cases h
 exact zT results14
 try simp only at h
 refine zZ fun s hq=>?_
 refine yr<|zt ?_
 cases h
 exact hq
theorem ql8 {D:Prop} (l1:List Int) (x2:Int) (r3:Bool) (h:qer l1 x2=some r3):Con D Tryz.prog 41 [(.slc (vhj (vk2 .i64) l1)),(.int .i64 x2)] (.bool r3):=by
 refine zP call41 func41 rfl ntmps41 fun X w hT=>?_
 simp only [qer] at h
 refine zs<|zr ?_
 refine zU<|zl<|zn<|zs<|zr ?_
 refine zU ?_
 obtain ⟨r4,h5,h⟩:=zB h
 refine zc (qfj l1 x2 _ h5) ?_
 refine zU<|zl<|zn<|zq ?_
 cases h
 exact zT results41
theorem qck {D:Prop} (a1:List Int) (b2:List Int) (r3:Bool) (h:qbd a1 b2=some r3):Con D Tryz.prog 13 [(.slc (vhj (vk2 .i64) a1)),(.slc (vhj (vk2 .i64) b2))] (.bool r3):=by
 refine zP call13 func13 rfl ntmps13 fun X w hT=>?_
 simp only [qbd] at h
 refine zs<|zr ?_
 refine zU<|zl<|zn<|zs<|zs<|zr ?_
 refine zU<|zl<|zn<|zb ?_
 obtain ⟨o4,h5,h⟩:=zB h
 refine zO (fun (s:Int)=>⟨[(0,.p (.slc (vhj (vk2 .i64) a1))),(1,.p (.slc (vhj (vk2 .i64) b2))),(5,.p (.int .i64 s))],[]⟩) (fun (o:(Unit) ⊕ (Bool))=>match o with | .inl o6=>tE (cX Tryz.f13 X w D hT) (.exit 0) ⟨[],[]⟩ | .inr o7=>tR Tryz.prog Tryz.f13 (.bool o7)) h5 ?_ ?_
 clear h h5
 intro i8 x h
 simp only [qb4] at h
 refine zs<|zs<|zr ?_
 refine zU<|zl<|zn ?_
 obtain ⟨h9,h⟩|⟨h9,h⟩:=zI h
 refine zi<|zk<|zn<|zs<|zb<|zs<|zr ?_
 obtain ⟨x10,h11,h11a,h11b,h⟩:=zX h
 refine zU ?_
 obtain ⟨r12,h13,h⟩:=zB h
 refine zc (ql8 b2 x10 _ h13) ?_
 refine zU<|zl<|zn ?_
 obtain ⟨h14,h⟩|⟨h14,h⟩:=zI h
 refine zj<|zk<|yn<|zn<|zr ?_
 refine zU<|zl ?_
 cases h
 exact ⟨rfl,zE⟩
 refine zi<|zs<|zr ?_
 refine zU<|zl<|zn<|zq<|yr<|zt ?_
 cases h
 exact ⟨rfl,zT results13⟩
 refine zj<|zx<|ze ?_
 cases h
 exact ⟨rfl,zE⟩
 rcases o4 with ⟨⟩ | r15
 try simp only at h
 refine zA<|yh<|zn<|zs<|zr ?_
 refine zU<|zl<|zn<|zq ?_
 cases h
 exact zT results13
 try simp only at h
 refine zZ fun s hq=>?_
 refine yr<|zt ?_
 cases h
 exact hq
theorem qjh {D:Prop} (a1:List Int) (b2:List Int) (r3:Bool) (h:qdj a1 b2=some r3):Con D Tryz.prog 43 [(.slc (vhj (vk2 .i64) a1)),(.slc (vhj (vk2 .i64) b2))] (.bool r3):=by
 refine zP call43 func43 rfl ntmps43 fun X w hT=>?_
 simp only [qdj] at h
 refine zs<|zr ?_
 refine zU<|zl<|zn<|zs<|zs<|zr ?_
 refine zU<|zl<|zn<|zb ?_
 obtain ⟨o4,h5,h⟩:=zB h
 refine zO (fun (s:Int)=>⟨[(0,.p (.slc (vhj (vk2 .i64) a1))),(1,.p (.slc (vhj (vk2 .i64) b2))),(5,.p (.int .i64 s))],[]⟩) (fun (o:(Unit) ⊕ (Bool))=>match o with | .inl o6=>tE (cX Tryz.f43 X w D hT) (.exit 0) ⟨[(0,.p (.slc (vhj (vk2 .i64) a1))),(1,.p (.slc (vhj (vk2 .i64) b2)))],[]⟩ | .inr o7=>tR Tryz.prog Tryz.f43 (.bool o7)) h5 ?_ ?_
 clear h h5
 intro i8 x h
 simp only [qa3] at h
 refine zs<|zs<|zr ?_
 refine zU ?_
 obtain ⟨h9,h⟩|⟨h9,h⟩:=zI h
 refine zw 10 true ?_
 refine zg ?_
 refine zg ?_
 refine zg ?_
 refine zg ?_
 refine zU<|zl<|zn ?_
 obtain ⟨h10,h⟩|⟨h10,h⟩:=zI h
 refine zi<|zk<|zn<|zs<|zb<|zs<|zd ?_
 obtain ⟨x11,h12,h12a,h12b,h⟩:=zX h
 obtain ⟨x13,h14,h14a,h14b,h⟩:=zX h
 refine yU ?_
 refine yd<|zn ?_
 obtain ⟨h15,h⟩|⟨h15,h⟩:=zI h
 refine zi<|zs<|zd ?_
 refine yU ?_
 refine yd<|zn<|zq<|yr<|zt ?_
 cases h
 exact ⟨rfl,zT results43⟩
 refine zj<|zk<|yn<|zn<|zr ?_
 refine zU<|zl ?_
 cases h
 exact ⟨rfl,zE⟩
 refine zj<|zx<|ze ?_
 cases h
 exact ⟨rfl,zE⟩
 refine zw 10 false ?_
 refine zh ?_
 refine zU<|zl<|zn ?_
 refine zj<|zx<|ze ?_
 cases h
 exact ⟨rfl,zE⟩
 rcases o4 with ⟨⟩ | r16
 try simp only at h
 refine zA<|yh<|zn<|zs<|zr ?_
 refine zU<|zl<|zn<|zq ?_
 cases h
 exact zT results43
 try simp only at h
 refine zZ fun s hq=>?_
 refine yr<|zt ?_
 cases h
 exact hq
theorem qj2 {D:Prop} (l1:List (List Int)) (r2:List (List Int)) (h:qd2 l1=some r2):Con D Tryz.prog 16 [(.slc (vhj (qc1 (vk2 .i64)) l1))] (.slc (vhj (qc1 (vk2 .i64)) r2)):=by
 refine zP call16 func16 rfl ntmps16 fun X w hT=>?_
 simp only [qd2] at h
 refine zs<|zr ?_
 refine zU<|zl<|zn<|zs<|zr ?_
 refine zU<|zl<|zn<|zs<|zs<|zr ?_
 refine zU<|zl<|zn<|zb ?_
 obtain ⟨o3,h4,h⟩:=zB h
 refine zO (fun (s:List (List Int)×Int)=>⟨[(0,.p (.slc (vhj (qc1 (vk2 .i64)) l1))),(3,.own 57 1 0 s.1.length),(4,.p (.int .i64 s.2))],[(57,.arr 25 1 1 (vhj AV.p (vhj (qc1 (vk2 .i64)) s.1)))]⟩) (fun (o5:List (List Int))=>tE (cX Tryz.f16 X w D hT) (.exit 0) ⟨[(3,.own 57 1 0 o5.length)],[(57,.arr 25 1 1 (vhj AV.p (vhj (qc1 (vk2 .i64)) o5)))]⟩) h4 ?_ ?_
 clear h h4
 intro s x h
 obtain ⟨o6,i7⟩:=s
 simp only [qcw] at h
 dsimp only
 refine zs<|zs<|zr ?_
 refine zU<|zl<|zn ?_
 obtain ⟨h8,h⟩|⟨h8,h⟩:=zI h
 refine zi<|zk<|zn<|zs<|zb<|zs<|zr ?_
 refine zU<|zl<|zn<|zs<|zs<|zr ?_
 refine zU<|zl<|zn<|zb ?_
 obtain ⟨k9,h10,h⟩:=zB h
 refine zO (fun (s:Bool×Int)=>⟨[(0,.p (.slc (vhj (qc1 (vk2 .i64)) l1))),(3,.own 57 1 0 o6.length),(4,.p (.int .i64 i7)),(5,.p (.bool s.1)),(6,.p (.int .i64 s.2))],[(57,.arr 25 1 1 (vhj AV.p (vhj (qc1 (vk2 .i64)) o6)))]⟩) (fun (o11:Bool)=>tE (cX Tryz.f16 X w D hT) (.exit 2) ⟨[(0,.p (.slc (vhj (qc1 (vk2 .i64)) l1))),(3,.own 57 1 0 o6.length),(4,.p (.int .i64 i7)),(5,.p (.bool o11))],[(57,.arr 25 1 1 (vhj AV.p (vhj (qc1 (vk2 .i64)) o6)))]⟩) h10 ?_ ?_
 clear h h8 h10
 intro s x h
 obtain ⟨k12,k13⟩:=s
 simp only [qcc] at h
 dsimp only
 refine zs<|zs<|zr ?_
 refine zU<|zl<|zn ?_
 obtain ⟨h14,h⟩|⟨h14,h⟩:=zI h
 refine zi<|zk<|zn<|zs<|zb<|zs<|zd ?_
 obtain ⟨x15,h16,h16a,h16b,h⟩:=zX h
 obtain ⟨x17,h18,h18a,h18b,h⟩:=zX h
 refine yU ?_
 obtain ⟨r19,h20,h⟩:=zB h
 refine yc (qck x15 x17 _ h20) ?_
 refine yU ?_
 obtain ⟨h21,h⟩|⟨h21,h⟩:=zI h
 refine yw 29 true ?_
 refine yg ?_
 refine yg ?_
 refine yg ?_
 refine yg ?_
 refine yg ?_
 refine yg ?_
 refine yg ?_
 refine yg ?_
 refine yg ?_
 refine yg ?_
 refine yg ?_
 refine yg ?_
 obtain ⟨h22,h⟩|⟨h22,h⟩:=zI h
 replace h:=h.symm
 refine yw 41 true ?_
 refine yk ?_
 refine yg ?_
 refine yU ?_
 refine yd<|zn ?_
 refine zi<|zr ?_
 refine zU<|zl<|yn<|zn<|zr ?_
 refine zU<|zl ?_
 cases h
 exact ⟨rfl,zE⟩
 refine yw 41 false ?_
 refine yg ?_
 refine yg ?_
 refine yg ?_
 refine yg ?_
 refine yU ?_
 refine yd<|zn ?_
 obtain ⟨h23,h⟩|⟨h23,h⟩:=zI h
 refine zi<|zr ?_
 refine zU<|zl<|yn<|zn<|zr ?_
 refine zU<|zl ?_
 cases h
 exact ⟨rfl,zE⟩
 refine zj<|zk<|yn<|zn<|zr ?_
 refine zU<|zl ?_
 cases h
 exact ⟨rfl,zE⟩
 refine yw 29 false ?_
 refine yk ?_
 refine yU ?_
 refine yd<|zn ?_
 refine zj<|zk<|yn<|zn<|zr ?_
 refine zU<|zl ?_
 cases h
 exact ⟨rfl,zE⟩
 refine zj<|zx<|ze ?_
 cases h
 exact ⟨rfl,zE⟩
 try simp only at h
 refine zA<|yh<|zn<|zs<|zs<|zr ?_
 refine zU<|zl<|zn ?_
 obtain ⟨h24,h⟩|⟨h24,h⟩:=zI h
 refine zj<|zk<|zn<|zs<|zr ?_
 obtain ⟨x25,h26,h26a,h26b,h⟩:=zX h
 obtain ⟨h27,h⟩:=qa1 h
 refine zW 8 ?_
 refine zM ⟨[(0,.p (.slc (vhj (qc1 (vk2 .i64)) l1))),(4,.p (.int .i64 i7)),(49,.own 57 1 0 o6.length),(56,.own 56 1 0 1)],[(56,.arr 25 1 1 [.p (.slc (vhj (vk2 .i64) x25))]),(57,.arr 25 1 1 (vhj AV.p (vhj (qc1 (vk2 .i64)) o6)))]⟩ ?_
 obtain ⟨h28,h⟩:=qa1 h
 refine zU<|zl<|zn<|zs<|zr ?_
 refine zU<|zl<|zn<|zb ?_
 obtain ⟨o29,h30,h⟩:=zB h
 refine zO (fun (s:List (List Int)×Int)=>⟨[(0,.p (.slc (vhj (qc1 (vk2 .i64)) l1))),(3,.own 57 1 0 s.1.length),(4,.p (.int .i64 i7)),(7,.p (.int .i64 s.2))],[(57,.arr 25 1 1 (vhj AV.p (vhj (qc1 (vk2 .i64)) s.1)))]⟩) (fun (o31:List (List Int))=>tE (cX Tryz.f16 X w D hT) (.exit 4) ⟨[(0,.p (.slc (vhj (qc1 (vk2 .i64)) l1))),(3,.own 57 1 0 o31.length),(4,.p (.int .i64 i7))],[(57,.arr 25 1 1 (vhj AV.p (vhj (qc1 (vk2 .i64)) o31)))]⟩) h30 ?_ ?_
 clear h h8 h10 h24 h26 h26a h26b h27 h28 h30
 intro s x h
 obtain ⟨o32,k33⟩:=s
 simp only [qcd] at h
 dsimp only
 refine zs<|zs<|zd ?_
 refine yU ?_
 obtain ⟨h34,h⟩|⟨h34,h⟩:=zI h
 refine yw 63 true ?_
 refine yg ?_
 refine yg ?_
 obtain ⟨x35,h36,h36a,h36b,h⟩:=zX h
 refine yg ?_
 refine yg ?_
 refine yg ?_
 refine yg ?_
 refine yg ?_
 obtain ⟨x37,h38,h38a,h38b,h⟩:=zX h
 refine yg ?_
 refine yg ?_
 obtain ⟨r39,h40,h⟩:=zB h
 refine yc (qjh x35 x37 _ h40) ?_
 refine yU ?_
 refine yd<|zn ?_
 obtain ⟨h41,h⟩|⟨h41,h⟩:=zI h
 refine zi<|zk<|zn<|zs<|zb<|zd ?_
 obtain ⟨x42,h43,h43a,h43b,h⟩:=zX h
 have h43B:=eq_true (by simpa only [vfg] using h43b)
 refine yU ?_
 refine yd<|yn<|zn<|zr ?_
 refine zU<|zl ?_
 cases h
 exact ⟨rfl,zE⟩
 refine zj<|zx<|ze ?_
 cases h
 exact ⟨rfl,zE⟩
 refine yw 63 false ?_
 refine yk ?_
 refine yU ?_
 refine yd<|zn ?_
 refine zj<|zx<|ze ?_
 cases h
 exact ⟨rfl,zE⟩
 try simp only at h
 refine zA<|yh<|yn<|zn<|zr ?_
 refine zU<|zl ?_
 cases h
 exact ⟨rfl,zE⟩
 refine zi<|zx<|ze<|yh<|zn<|zr ?_
 refine zU<|zl ?_
 cases h
 exact ⟨rfl,zE⟩
 refine zj<|zx<|ze ?_
 cases h
 exact ⟨rfl,zE⟩
 try simp only at h
 refine zA<|yh<|zn<|zs<|zr ?_
 refine zU<|zl<|zn<|zq ?_
 cases h
 exact zT results16
theorem qhw {D:Prop} (g1:Drossref37_Graph) (r2:Hypergraph×Bool) (h:qcj g1=some r2):Con D Tryz.prog 4 [(qaj g1)] (.tup [(qaa r2.1),(.bool r2.2)]):=by
 refine zP call4 func4 rfl ntmps4 fun X w hT=>?_
 simp only [qcj] at h
 refine zs<|zr ?_
 refine zU<|zl<|zn<|zs<|zr ?_
 refine zU<|zl<|zn<|zs<|zr ?_
 refine zU<|zl<|zn<|zs<|zs<|zr ?_
 refine zU<|zl<|zn<|zb ?_
 obtain ⟨h3,h4,h⟩:=zB h
 refine zO (fun (s:List Int×Int)=>⟨[(1,.loc 1 1 0 0),(2,.loc 2 1 0 0),(4,.loc 4 1 0 0),(5,.p (.int .i64 (vip.wrap (Int.tmod g1.N 9)))),(6,.p (.int .i64 s.2))],[(1,.arr 24 2 1 [.p (qaj g1)]),(2,.arr 28 2 1 [.agg [.nils,.nils]]),(4,.arr 28 2 1 [.agg [.own 25 1 0 s.1.length,.nils]]),(25,.arr 2 1 1 (vhj AV.p (vhj (vk2 .i64) s.1)))]⟩) (fun (o5:List Int)=>tE (cX Tryz.f4 X w D hT) (.exit 0) ⟨[(1,.loc 1 1 0 0),(2,.loc 2 1 0 0),(4,.loc 4 1 0 0)],[(1,.arr 24 2 1 [.p (qaj g1)]),(2,.arr 28 2 1 [.agg [.nils,.nils]]),(4,.arr 28 2 1 [.agg [.own 25 1 0 o5.length,.nils]]),(25,.arr 2 1 1 (vhj AV.p (vhj (vk2 .i64) o5)))]⟩) h4 ?_ ?_
 clear h h4
 intro s x h
 obtain ⟨h6,i7⟩:=s
 simp only [qbq] at h
 dsimp only
 refine zs<|zs<|zr ?_
 refine zU<|zl<|zn ?_
 obtain ⟨h8,h⟩|⟨h8,h⟩:=zI h
 refine zi<|zk<|zn<|zs<|zb<|zr ?_
 obtain ⟨h9,h⟩:=qa1 h
 refine zU<|zl<|yn<|zn<|zr ?_
 refine zU<|zl ?_
 cases h
 exact ⟨rfl,zE⟩
 refine zj<|zx<|ze ?_
 cases h
 exact ⟨rfl,zE⟩
 try simp only at h
 refine zA<|yh<|zn<|zs<|zr ?_
 refine zU<|zl<|zn<|zs<|zs<|zr ?_
 refine zU<|zl<|zn<|zb ?_
 obtain ⟨o10,h11,h⟩:=zB h
 refine zO (fun (s:List Int×List (List Int)×List (List Int)×List (List Int)×Int)=>⟨[(1,.loc 1 1 0 0),(2,.loc 2 1 0 0),(4,.loc 4 1 0 0),(7,.own 51 1 0 s.2.2.2.1.length),(8,.p (.int .i64 s.2.2.2.2))],[(1,.arr 24 2 1 [.p (qaj g1)]),(2,.arr 28 2 1 [.p (.agg [.slc (vhj (vk2 .i64) s.1),.slc (vhj (qc1 (vk2 .i64)) s.2.1)])]),(4,.arr 28 2 1 [.p (.agg [.slc (vhj (vk2 .i64) h3),.slc (vhj (qc1 (vk2 .i64)) s.2.2.1)])]),(51,.arr 25 1 1 (vhj AV.p (vhj (qc1 (vk2 .i64)) s.2.2.2.1)))]⟩) (fun (o12:Hypergraph×Hypergraph×List (List Int))=>tE (cX Tryz.f4 X w D hT) (.exit 2) ⟨[(1,.loc 1 1 0 0),(2,.loc 2 1 0 0),(4,.loc 4 1 0 0),(7,.own 51 1 0 o12.2.2.length)],[(1,.arr 24 2 1 [.p (qaj g1)]),(2,.arr 28 2 1 [.p (qaa o12.1)]),(4,.arr 28 2 1 [.p (qaa o12.2.1)]),(51,.arr 25 1 1 (vhj AV.p (vhj (qc1 (vk2 .i64)) o12.2.2)))]⟩) h11 ?_ ?_
 clear h h4 h11
 intro s x h
 obtain ⟨t13,t14,h15,l16,i17⟩:=s
 simp only [qa7] at h
 dsimp only
 refine zs<|zs<|zr ?_
 refine zU ?_
 obtain ⟨h18,h⟩|⟨h18,h⟩:=zI h
 refine zw 32 true ?_
 refine zg ?_
 refine zg ?_
 refine zU<|zl<|zn ?_
 obtain ⟨h19,h⟩|⟨h19,h⟩:=zI h
 refine zi<|zk<|zn<|zs<|zb<|zs<|zd ?_
 obtain ⟨x20,h21,h21a,h21b,h⟩:=zX h
 refine yU ?_
 obtain ⟨r22,h23,h⟩:=zB h
 refine yc (qky (Hypergraph.mk h3 h15) x20 _ h23) ?_
 refine yU ?_
 refine yd<|zn<|zs<|zr ?_
 refine zU<|zl<|zn ?_
 obtain ⟨h24,h⟩|⟨h24,h⟩:=zI h
 refine zi<|zr ?_
 obtain ⟨h25,h⟩:=qa1 h
 refine zU<|zl<|yn<|zn<|zr ?_
 refine zU<|zl ?_
 cases h
 exact ⟨rfl,zE⟩
 refine zj<|zk<|yn<|zn<|zr ?_
 refine zU<|zl ?_
 cases h
 exact ⟨rfl,zE⟩
 refine zj<|zx<|ze ?_
 cases h
 exact ⟨rfl,zE⟩
 refine zw 32 false ?_
 refine zh ?_
 refine zU<|zl<|zn ?_
 refine zj<|zx<|ze ?_
 cases h
 exact ⟨rfl,zE⟩
 obtain ⟨t26,h27,l28⟩:=o10
 try simp only at h
 refine zA<|yh<|zn<|zs<|zr ?_
 refine zU ?_
 refine zM ⟨[(1,.loc 1 1 0 0),(2,.loc 2 1 0 0),(4,.loc 4 1 0 0),(52,.p (.slc (vhj (qc1 (vk2 .i64)) l28)))],[(1,.arr 24 2 1 [.p (qaj g1)]),(2,.arr 28 2 1 [.p (qaa t26)]),(4,.arr 28 2 1 [.p (qaa h27)])]⟩ ?_
 obtain ⟨r29,h30,h⟩:=zB h
 refine zc (qj2 l28 _ h30) ?_
 refine zU<|zl<|zn<|zs<|zd ?_
 refine yU ?_
 refine yd<|zn<|zq ?_
 cases h
 exact zT results4
theorem qib {D:Prop} (x:Int) (r:Int) (h:qj0 x=some r):Con D Tryz.prog 200 [(.int .u32 x)] (.int .i64 r):=by
 obtain ⟨hx,h⟩:=qa1 h
 obtain ⟨n,rfl⟩:=Int.eq_ofNat_of_zero_le hx.1
 have hn:n < 4294967296:=by omega
 replace h:=vih h
 subst h
 rw [Int.toNat_natCast]
 refine zP call200 func200 rfl ntmps200 fun X w hT=>?_
 refine zs<|zr ?_
 refine zU<|zl<|zn ?_
 by_cases h0:n=0
 subst h0
 refine zs<|zs<|zr ?_
 refine zU<|zl<|zn ?_
 refine zi<|zs<|zr ?_
 refine zU<|zl<|zn<|zq<|zt ?_
 exact zT results200
 have hb:((n:Int) == 0)=false:=by simp;omega
 refine zs<|zs<|zr ?_
 refine zU<|zl<|zn ?_
 refine zj<|zk<|zn<|zs<|zr ?_
 refine zW 6 ?_
 refine zTab (g:=0) (x:=.tmp 10) (k:=.u32) (tzI n) (by kernel_rfl) underlying319 (q7d n) (by simp only [go_sem,seval, *];exact vcv h0 hn) ?_
 have hw:=@q2e n
 refine zU<|zl<|zn<|zq ?_
 have ht:tz32 n=qhr.getD (tzI n) 0:=if_neg h0
 rw [ht]
 exact zT results200
theorem vd2 (a b:List UInt8) (w:World):(callFunc 262 #[.string ⟨a.toArray⟩,.string ⟨b.toArray⟩]).run Tryz.prog w=.ok (.value (.int .i64 (vk0 a b))) w:=by
  rw [run_callFunc_extern func262 (by kernel_rfl) (by kernel_rfl) (by kernel_rfl) (e:=Extern.BytealgCompare.compare) (by kernel_rfl),Lib.run_compareString];rfl
theorem qhx {D:Prop} (a1:List UInt8) (b2:List UInt8) (r3:Int) (h:qek a1 b2=some r3):Con D Tryz.prog 255 [(.str a1),(.str b2)] (.int .i64 r3):=by
 refine zP call255 func255 rfl ntmps255 fun X w hT=>?_
 simp only [qek] at h
 refine zs<|zr ?_
 refine zU<|zl<|zn<|zs<|zr ?_
 refine zU ?_
 refine q83 (vd2 a1 b2) (by simp only [go_sem,seval];all_goals ((repeat' refine vkz ?_ ?_) <;> first | rfl | (simp;done) | (simp;rfl) | (simp [*];done) | (simp [*];rfl))) (by simp only [go_sem,seval];all_goals ((repeat' refine vkz ?_ ?_) <;> first | rfl | (simp;done) | (simp;rfl) | (simp [*];done) | (simp [*];rfl))) rfl ?_
 refine zU<|zl<|zn<|zq ?_
 cases h
 exact zT results255
theorem qkz {D:Prop} (a1:List UInt8) (b2:List UInt8) (r3:Int) (h:qje a1 b2=some r3):Con D Tryz.prog 236 [(.str a1),(.str b2)] (.int .i64 r3):=by
 refine zP call236 func236 rfl ntmps236 fun X w hT=>?_
 simp only [qje] at h
 refine zs<|zr ?_
 refine zU<|zl<|zn<|zs<|zr ?_
 refine zU ?_
 obtain ⟨r4,h5,h⟩:=zB h
 refine zc (qhx a1 b2 _ h5) ?_
 refine zU<|zl<|zn<|zq ?_
 cases h
 exact zT results236
theorem q39:qz5 Tryz.prog qx5:=by
  intro k t ps r h1 h2;unfold qx5 at h1;by_cases hk:k=236
  · subst hk
    simp only [Nat.beq_refl,cond_true,vgr] at h1;subst h1;dsimp only at h2;split at h2
    · rename_i x y
      cases h2;have c:∀D,Con D Tryz.prog 236 [(.str x),(.str y)] (.int .i64 (vk0 x y)):=fun D=>qkz x y _ rfl
      exact ⟨(c True).1,fun D=>(c D).2⟩
    · cases h2
  · have:Nat.beq k 236=false:=vgy.2 fun h=>hk (vk1 h)
    rw [this,cond_false] at h1;by_cases hk:k=200
    · subst hk
      simp only [Nat.beq_refl,cond_true,vgr] at h1;subst h1;dsimp only at h2;split at h2
      · rename_i n
        split at h2
        · rename_i hn
          cases h2;have c:∀D,Con D Tryz.prog 200 [.int .u32 n] (.int .i64 (tz32 n.toNat)):=fun D=>qib n _ (if_pos hn)
          exact ⟨(c True).1,fun D=>(c D).2⟩
        · cases h2
      · cases h2
    · have:Nat.beq k 200=false:=vgy.2 fun h=>hk (vk1 h)
      rw [this,cond_false] at h1;cases h1
theorem run5 {D:Prop}:q4j D Tryz.prog 5 [] (.bool true):=qsb (by decide +kernel) mixed q39 q56
theorem qf8 {D:Prop} (r:Bool) (h:qey=some r):Con D Tryz.prog 5 [] (.bool r):=by
 cases h;exact ⟨call5,run5⟩
theorem qdz {D:Prop} (x1:Int) (r2:Bool) (h:qbv x1=some r2):Con D Tryz.prog 116 [(.int .i64 x1)] (.bool r2):=by
 refine zP call116 func116 rfl ntmps116 fun X w hT=>?_
 simp only [qbv] at h
 refine zs<|zr ?_
 refine zU<|zl<|zn<|zs<|zr ?_
 refine zU<|zl<|zn<|zq ?_
 cases h
 exact zT results116
theorem qji {D:Prop} (x1:Int) (y2:Int) (r3:Int) (h:qdk x1 y2=some r3):Con D Tryz.prog 64 [(.int .i64 x1),(.int .i64 y2)] (.int .i64 r3):=by
 refine zP call64 func64 rfl ntmps64 fun X w hT=>?_
 simp only [qdk] at h
 refine zs<|zr ?_
 refine zU<|zl<|zn<|zs<|zr ?_
 refine zU ?_
 obtain ⟨r4,h5,h⟩:=zB h
 refine zc (qdz x1 _ h5) ?_
 refine zU<|zl<|zn<|zs<|zr ?_
 refine zU ?_
 obtain ⟨r6,h7,h⟩:=zB h
 refine zc (qdz y2 _ h7) ?_
 refine zU<|zl<|zn<|zs<|zs<|zr ?_
 refine zU<|zl<|zn ?_
 obtain ⟨h8,h⟩|⟨h8,h⟩:=zI h
 refine zi<|zs<|zs<|zr ?_
 refine zU<|zl<|zn ?_
 obtain ⟨h9,h⟩|⟨h9,h⟩:=zI h
 refine zi<|zs<|zr ?_
 refine zU<|zl<|zn<|zq<|zt<|zt ?_
 cases h
 exact zT results64
 refine zj<|zk<|zn<|zs<|zr ?_
 refine zU<|zl<|zn<|zq<|zt ?_
 cases h
 exact zT results64
 refine zj<|zk<|zn<|zs<|zs<|zr ?_
 refine zU<|zl<|zn ?_
 obtain ⟨h10,h⟩|⟨h10,h⟩:=zI h
 refine zi<|zs<|zr ?_
 refine zU<|zl<|zn<|zq<|zt ?_
 cases h
 exact zT results64
 refine zj<|zk<|zn<|zs<|zs<|zr ?_
 refine zU<|zl<|zn ?_
 obtain ⟨h11,h⟩|⟨h11,h⟩:=zI h
 refine zi<|zs<|zr ?_
 refine zU<|zl<|zn<|zq<|zt ?_
 cases h
 exact zT results64
 refine zj<|zk<|zn<|zs<|zs<|zr ?_
 refine zU<|zl<|zn ?_
 obtain ⟨h12,h⟩|⟨h12,h⟩:=zI h
 refine zi<|zs<|zr ?_
 refine zU<|zl<|zn<|zq<|zt ?_
 cases h
 exact zT results64
 refine zj<|zk<|zn<|zs<|zr ?_
 refine zU<|zl<|zn<|zq ?_
 cases h
 exact zT results64
theorem qe4 {D:Prop} (s1:List Int) (s2:List Int) (r3:Int) (h:qb5 s1 s2=some r3):Con D Tryz.prog 35 [(.slc (vhj (vk2 .i64) s1)),(.slc (vhj (vk2 .i64) s2))] (.int .i64 r3):=by
 refine zP call35 func35 rfl ntmps35 fun X w hT=>?_
 simp only [qb5] at h
 refine zs<|zr ?_
 refine zU<|zl<|zn<|zs<|zs<|zr ?_
 refine zU<|zl<|zn<|zb ?_
 obtain ⟨o4,h5,h⟩:=zB h
 refine zO (fun (s:Int)=>⟨[(0,.p (.slc (vhj (vk2 .i64) s1))),(1,.p (.slc (vhj (vk2 .i64) s2))),(9,.p (.slc (vhj (vk2 .i64) s1))),(10,.p (.int .i64 (s1.length:Int))),(11,.p (.int .i64 s))],[]⟩) (fun (o:(Unit) ⊕ (Int))=>match o with | .inl o6=>tE (cX Tryz.f35 X w D hT) (.exit 0) ⟨[(0,.p (.slc (vhj (vk2 .i64) s1))),(1,.p (.slc (vhj (vk2 .i64) s2)))],[]⟩ | .inr o7=>tR Tryz.prog Tryz.f35 (.int .i64 o7)) h5 ?_ ?_
 clear h h5
 intro t8 x h
 simp only [qam] at h
 refine zs<|zr ?_
 refine zU<|zl<|zn<|zs ?_
 obtain ⟨h9,h⟩|⟨h9,h⟩:=zI h
 refine zi<|zk<|zn<|zs<|zb<|zs<|zr ?_
 obtain ⟨x10,h11,h11a,h11b,h⟩:=zX h
 refine zU<|zl<|zn<|zs<|zs<|zr ?_
 refine zU<|zl<|zn ?_
 obtain ⟨h12,h⟩|⟨h12,h⟩:=zI h
 refine zi<|zs<|zr ?_
 refine zU<|zl<|zn<|zq<|zt<|yr<|zt ?_
 cases h
 exact ⟨rfl,zT results35⟩
 refine zj<|zk<|zn<|zs<|zr ?_
 obtain ⟨x13,h14,h14a,h14b,h⟩:=zX h
 refine zU<|zl<|zn<|zs<|zr ?_
 refine zU ?_
 obtain ⟨r15,h16,h⟩:=zB h
 refine zc (qji x10 x13 _ h16) ?_
 refine zU<|zl<|zn<|zs<|zr ?_
 refine zU<|zl<|zn ?_
 obtain ⟨h17,h⟩|⟨h17,h⟩:=zI h
 refine zi<|zs<|zr ?_
 refine zU<|zl<|zn<|zq<|yr<|zt ?_
 cases h
 exact ⟨rfl,zT results35⟩
 refine zj<|zk<|yn<|zn<|zr ?_
 refine zU<|zl ?_
 cases h
 exact ⟨rfl,zE⟩
 refine zj<|zx<|ze ?_
 cases h
 exact ⟨rfl,zE⟩
 rcases o4 with ⟨⟩ | r18
 try simp only at h
 refine zA<|yh<|zn<|zs<|zs<|zr ?_
 refine zU<|zl<|zn ?_
 obtain ⟨h19,h⟩|⟨h19,h⟩:=zI h
 refine zi<|zs<|zr ?_
 refine zU<|zl<|zn<|zq<|zt ?_
 cases h
 exact zT results35
 refine zj<|zk<|zn<|zs<|zr ?_
 refine zU<|zl<|zn<|zq ?_
 cases h
 exact zT results35
 try simp only at h
 refine zZ fun s hq=>?_
 refine yr<|zt ?_
 cases h
 exact hq
theorem qeb {D:Prop} (l1:List Int) (r2:Bool) (h:qbw l1=some r2):Con D Tryz.prog 68 [(.slc (vhj (vk2 .i64) l1))] (.bool r2):=by
 refine zP call68 func68 rfl ntmps68 fun X w hT=>?_
 simp only [qbw] at h
 refine zs<|zr ?_
 refine zU<|zl<|zn<|zs<|zs<|zr ?_
 refine zU<|zl<|zn<|zb ?_
 obtain ⟨o3,h4,h⟩:=zB h
 refine zO (fun (s:Int)=>⟨[(0,.p (.slc (vhj (vk2 .i64) l1))),(3,.p (.int .i64 s))],[]⟩) (fun (o:(Unit) ⊕ (Bool))=>match o with | .inl o5=>tE (cX Tryz.f68 X w D hT) (.exit 0) ⟨[],[]⟩ | .inr o6=>tR Tryz.prog Tryz.f68 (.bool o6)) h4 ?_ ?_
 clear h h4
 intro i7 x h
 simp only [qa8] at h
 refine zs<|zs<|zr ?_
 refine zU<|zl<|zn ?_
 obtain ⟨h8,h⟩|⟨h8,h⟩:=zI h
 refine zi<|zk<|zn<|zs<|zb<|zs<|zd ?_
 obtain ⟨x9,h10,h10a,h10b,h⟩:=zX h
 obtain ⟨x11,h12,h12a,h12b,h⟩:=zX h
 refine yU ?_
 refine yd<|zn ?_
 obtain ⟨h13,h⟩|⟨h13,h⟩:=zI h
 refine zi<|zs<|zr ?_
 refine zU<|zl<|zn<|zq<|yr<|zt ?_
 cases h
 exact ⟨rfl,zT results68⟩
 refine zj<|zk<|yn<|zn<|zr ?_
 refine zU<|zl ?_
 cases h
 exact ⟨rfl,zE⟩
 refine zj<|zx<|ze ?_
 cases h
 exact ⟨rfl,zE⟩
 rcases o3 with ⟨⟩ | r14
 try simp only at h
 refine zA<|yh<|zn<|zs<|zr ?_
 refine zU<|zl<|zn<|zq ?_
 cases h
 exact zT results68
 try simp only at h
 refine zZ fun s hq=>?_
 refine yr<|zt ?_
 cases h
 exact hq
theorem ql9 {D:Prop} (x1:Int) (y2:Int) (r3:Bool) (h:qes x1 y2=some r3):Con D Tryz.prog 71 [(.int .i64 x1),(.int .i64 y2)] (.bool r3):=by
 refine zP call71 func71 rfl ntmps71 fun X w hT=>?_
 simp only [qes] at h
 refine zs<|zr ?_
 refine zU<|zl<|zn<|zs<|zr ?_
 refine zU ?_
 obtain ⟨r4,h5,h⟩:=zB h
 refine zc (qdz x1 _ h5) ?_
 refine zU ?_
 obtain ⟨h6,h⟩|⟨h6,h⟩:=zI h
 refine zw 7 true ?_
 refine zg ?_
 obtain ⟨r7,h8,h⟩:=zB h
 refine zc (qdz y2 _ h8) ?_
 refine zg ?_
 refine zU ?_
 obtain ⟨h9,h⟩|⟨h9,h⟩:=zI h
 replace h:=h.symm
 refine zw 12 false ?_
 refine zg ?_
 refine zg ?_
 refine zg ?_
 refine zU<|zl<|zn<|zq ?_
 cases h
 exact zT results71
 refine zw 12 true ?_
 refine zh ?_
 refine zU<|zl<|zn<|zq ?_
 cases h
 exact zT results71
 replace h:=h.symm
 refine zw 7 false ?_
 refine zh ?_
 refine zU ?_
 refine zg ?_
 refine zg ?_
 refine zg ?_
 refine zU<|zl<|zn<|zq ?_
 cases h
 exact zT results71
theorem qfm {D:Prop} (x1:Int) (r2:Bool) (h:qcl x1=some r2):Con D Tryz.prog 72 [(.int .i64 x1)] (.bool r2):=by
 refine zP call72 func72 rfl ntmps72 fun X w hT=>?_
 simp only [qcl] at h
 refine zs<|zr ?_
 refine zU<|zl<|zn<|zs<|zr ?_
 refine zU<|zl<|zn<|zq ?_
 cases h
 exact zT results72
theorem qco {D:Prop} (x1:List Int) (t2:Int) (r3:Int×Bool) (h:qad x1 t2=some r3):Con D Tryz.prog 38 [(.slc (vhj (vk2 .i64) x1)),(.int .i64 t2)] (.tup [(.int .i64 r3.1),(.bool r3.2)]):=by
 refine zP call38 func38 rfl ntmps38 fun X w hT=>?_
 simp only [qad] at h
 refine zs<|zr ?_
 refine zU<|zl<|zn<|zs<|zr ?_
 refine zU<|zl<|zn<|zs<|zr ?_
 refine zU<|zl<|zn<|zs<|zb ?_
 obtain ⟨i4,h5,h⟩:=zB h
 refine zO (fun (s:Int×Int)=>⟨[(0,.p (.slc (vhj (vk2 .i64) x1))),(1,.p (.int .i64 t2)),(6,.p (.int .i64 (x1.length:Int))),(7,.p (.int .i64 s.1)),(8,.p (.int .i64 s.2))],[]⟩) (fun (o6:Int)=>tE (cX Tryz.f38 X w D hT) (.exit 0) ⟨[(0,.p (.slc (vhj (vk2 .i64) x1))),(1,.p (.int .i64 t2)),(6,.p (.int .i64 (x1.length:Int))),(7,.p (.int .i64 o6))],[]⟩) h5 ?_ ?_
 clear h h5
 intro s x h
 obtain ⟨i7,j8⟩:=s
 simp only [qah] at h
 dsimp only
 refine zs<|zs<|zr ?_
 refine zU<|zl<|zn ?_
 obtain ⟨h9,h⟩|⟨h9,h⟩:=zI h
 refine zi<|zk<|zn<|zb<|zs<|zr ?_
 refine zU<|zl<|zn<|zs<|zr ?_
 obtain ⟨x10,h11,h11a,h11b,h⟩:=zX h
 refine zU ?_
 obtain ⟨r12,h13,h⟩:=zB h
 refine zc (ql9 x10 t2 _ h13) ?_
 refine zl<|zn ?_
 obtain ⟨h14,h⟩|⟨h14,h⟩:=zI h
 refine zi<|zr ?_
 refine zU<|zl<|yn ?_
 cases h
 exact ⟨rfl,zE⟩
 refine zj<|zr ?_
 refine zU<|zl<|yn ?_
 cases h
 exact ⟨rfl,zE⟩
 refine zj<|zx<|ze ?_
 cases h
 exact ⟨rfl,zE⟩
 try simp only at h
 refine zA<|yh<|zn<|zs<|zr ?_
 refine zU ?_
 obtain ⟨h15,h⟩|⟨h15,h⟩:=zI h
 refine zw 35 true ?_
 refine zg ?_
 refine zg ?_
 obtain ⟨x16,h17,h17a,h17b,h⟩:=zX h
 refine zg ?_
 refine zg ?_
 refine zg ?_
 refine zg ?_
 refine zg ?_
 obtain ⟨h18,h⟩|⟨h18,h⟩:=zI h
 replace h:=h.symm
 refine zw 42 true ?_
 refine zh ?_
 refine zg ?_
 refine zU<|zl<|zn<|zq ?_
 cases h
 exact zT results38
 refine zw 42 false ?_
 refine zg ?_
 refine zg ?_
 refine zg ?_
 refine zg ?_
 obtain ⟨r19,h20,h⟩:=zB h
 refine zc (qfm x16 _ h20) ?_
 refine zg ?_
 obtain ⟨h21,h⟩|⟨h21,h⟩:=zI h
 refine zw 48 true ?_
 refine zg ?_
 obtain ⟨r22,h23,h⟩:=zB h
 replace h:=h.symm
 refine zc (qfm t2 _ h23) ?_
 refine zg ?_
 refine zg ?_
 refine zU<|zl<|zn<|zq ?_
 cases h
 exact zT results38
 replace h:=h.symm
 refine zw 48 false ?_
 refine zh ?_
 refine zg ?_
 refine zg ?_
 refine zU<|zl<|zn<|zq ?_
 cases h
 exact zT results38
 refine zw 35 false ?_
 refine zh ?_
 refine zU<|zl<|zn<|zq ?_
 cases h
 exact zT results38
theorem qc8 {D:Prop} (l1:List Int) (p2:List Int) (r3:Bool) (h:qbr l1 p2=some r3):Con D Tryz.prog 69 [(.slc (vhj (vk2 .i64) l1)),(.slc (vhj (vk2 .i64) p2))] (.bool r3):=by
 refine zP call69 func69 rfl ntmps69 fun X w hT=>?_
 simp only [qbr] at h
 refine zs<|zr ?_
 refine zU<|zl<|zn<|zs<|zs<|zr ?_
 refine zU<|zl<|zn<|zb ?_
 obtain ⟨o4,h5,h⟩:=zB h
 refine zO (fun (s:Int)=>⟨[(0,.p (.slc (vhj (vk2 .i64) l1))),(9,.p (.slc (vhj (vk2 .i64) p2))),(10,.p (.int .i64 (p2.length:Int))),(11,.p (.int .i64 s))],[]⟩) (fun (o:(Unit) ⊕ (Bool))=>match o with | .inl o6=>tE (cX Tryz.f69 X w D hT) (.exit 0) ⟨[],[]⟩ | .inr o7=>tR Tryz.prog Tryz.f69 (.bool o7)) h5 ?_ ?_
 clear h h5
 intro t8 x h
 simp only [qb6] at h
 refine zs<|zr ?_
 refine zU<|zl<|zn<|zs ?_
 obtain ⟨h9,h⟩|⟨h9,h⟩:=zI h
 refine zi<|zk<|zn<|zs<|zb<|zs<|zr ?_
 obtain ⟨x10,h11,h11a,h11b,h⟩:=zX h
 refine zU<|zl<|zn<|zs<|zr ?_
 refine zU ?_
 obtain ⟨r12,h13,h⟩:=zB h
 refine zc (qco l1 x10 _ h13) ?_
 refine zU<|zl<|zn<|zs<|zr ?_
 refine zU<|zl<|zn ?_
 obtain ⟨h14,h⟩|⟨h14,h⟩:=zI h
 refine zj<|zk<|yn<|zn<|zr ?_
 refine zU<|zl ?_
 cases h
 exact ⟨rfl,zE⟩
 refine zi<|zs<|zr ?_
 refine zU<|zl<|zn<|zq<|yr<|zt ?_
 cases h
 exact ⟨rfl,zT results69⟩
 refine zj<|zx<|ze ?_
 cases h
 exact ⟨rfl,zE⟩
 rcases o4 with ⟨⟩ | r15
 try simp only at h
 refine zA<|yh<|zn<|zs<|zr ?_
 refine zU<|zl<|zn<|zq ?_
 cases h
 exact zT results69
 try simp only at h
 refine zZ fun s hq=>?_
 refine yr<|zt ?_
 cases h
 exact hq
theorem qma {D:Prop} (h1:Hypergraph) (r2:Bool) (h:qet h1=some r2):Con D Tryz.prog 60 [(qaa h1)] (.bool r2):=by
 refine zP call60 func60 rfl ntmps60 fun X w hT=>?_
 simp only [qet] at h
 refine zs<|zr ?_
 refine zU<|zl<|zn<|zs<|zs<|zr ?_
 refine zU ?_
 obtain ⟨r3,h4,h⟩:=zB h
 refine zc (qeb h1.Vertices _ h4) ?_
 refine zU ?_
 obtain ⟨h5,h⟩|⟨h5,h⟩:=zI h
 refine zw 13 false ?_
 refine zg ?_
 refine zg ?_
 refine zg ?_
 refine zg ?_
 refine zU<|zl<|zn ?_
 obtain ⟨h6,h⟩|⟨h6,h⟩:=zI h
 refine zi<|zs<|zr ?_
 refine zU<|zl<|zn<|zq<|zt ?_
 cases h
 exact zT results60
 refine zj<|zk<|zn<|zs<|zs<|zr ?_
 refine zU<|zl<|zn<|zb ?_
 obtain ⟨o7,h8,h⟩:=zB h
 refine zO (fun (s:Int)=>⟨[(1,.loc 1 1 0 0),(20,.p (.slc (vhj (qc1 (vk2 .i64)) h1.Edges))),(21,.p (.int .i64 (h1.Edges.length:Int))),(22,.p (.int .i64 s))],[(1,.arr 28 2 1 [.p (qaa h1)])]⟩) (fun (o:(Unit) ⊕ (Bool))=>match o with | .inl o9=>tE (cX Tryz.f60 X w D hT) (.exit 0) ⟨[(1,.loc 1 1 0 0)],[(1,.arr 28 2 1 [.p (qaa h1)])]⟩ | .inr o10=>tR Tryz.prog Tryz.f60 (.bool o10)) h8 ?_ ?_
 clear h h4 h5 h6 h8
 intro t11 x h
 simp only [qdl] at h
 refine zs<|zr ?_
 refine zU<|zl<|zn<|zs ?_
 obtain ⟨h12,h⟩|⟨h12,h⟩:=zI h
 refine zi<|zk<|zn<|zs<|zb<|zs<|zr ?_
 obtain ⟨x13,h14,h14a,h14b,h⟩:=zX h
 refine zU<|zl<|zn<|zs<|zr ?_
 refine zU ?_
 obtain ⟨h15,h⟩|⟨h15,h⟩:=zI h
 refine zw 30 true ?_
 refine zh ?_
 refine zU ?_
 refine zh ?_
 refine zU ?_
 refine zh ?_
 refine zU<|zl<|zn ?_
 refine zi<|zs<|zr ?_
 refine zU<|zl<|zn<|zq<|yr<|zt ?_
 cases h
 exact ⟨rfl,zT results60⟩
 refine zw 30 false ?_
 refine zg ?_
 obtain ⟨r16,h17,h⟩:=zB h
 refine zc (qeb x13 _ h17) ?_
 refine zg ?_
 refine zU ?_
 obtain ⟨h18,h⟩|⟨h18,h⟩:=zI h
 refine zw 35 false ?_
 refine zg ?_
 refine zg ?_
 refine zg ?_
 obtain ⟨r19,h20,h⟩:=zB h
 refine zc (qc8 h1.Vertices x13 _ h20) ?_
 refine zg ?_
 refine zU ?_
 obtain ⟨h21,h⟩|⟨h21,h⟩:=zI h
 refine zw 42 false ?_
 refine zg ?_
 refine zg ?_
 refine zg ?_
 obtain ⟨h22,h⟩|⟨h22,h⟩:=zI h
 refine zw 45 true ?_
 refine zg ?_
 refine zg ?_
 refine zg ?_
 refine zg ?_
 obtain ⟨x23,h24,h24a,h24b,h⟩:=zX h
 refine zg ?_
 refine zg ?_
 refine zg ?_
 obtain ⟨r25,h26,h⟩:=zB h
 refine zc (qe4 x23 x13 _ h26) ?_
 refine zg ?_
 refine zg ?_
 refine zU<|zl<|zn ?_
 obtain ⟨h27,h⟩|⟨h27,h⟩:=zI h
 refine zi<|zs<|zr ?_
 refine zU<|zl<|zn<|zq<|yr<|zt ?_
 cases h
 exact ⟨rfl,zT results60⟩
 refine zj<|zk<|yn<|zn<|zr ?_
 refine zU<|zl ?_
 cases h
 exact ⟨rfl,zE⟩
 replace h:=h.symm
 refine zw 45 false ?_
 refine zh ?_
 refine zg ?_
 refine zU<|zl<|zn ?_
 refine zj<|zk<|yn<|zn<|zr ?_
 refine zU<|zl ?_
 cases h
 exact ⟨rfl,zE⟩
 refine zw 42 true ?_
 refine zh ?_
 refine zU<|zl<|zn ?_
 refine zi<|zs<|zr ?_
 refine zU<|zl<|zn<|zq<|yr<|zt ?_
 cases h
 exact ⟨rfl,zT results60⟩
 refine zw 35 true ?_
 refine zh ?_
 refine zU ?_
 refine zh ?_
 refine zU<|zl<|zn ?_
 refine zi<|zs<|zr ?_
 refine zU<|zl<|zn<|zq<|yr<|zt ?_
 cases h
 exact ⟨rfl,zT results60⟩
 refine zj<|zx<|ze ?_
 cases h
 exact ⟨rfl,zE⟩
 rcases o7 with ⟨⟩ | r28
 try simp only at h
 refine zA<|yh<|zn<|zs<|zs<|zr ?_
 refine zU<|zl<|zn<|zb ?_
 obtain ⟨o29,h30,h⟩:=zB h
 refine zO (fun (s:Int)=>⟨[(1,.loc 1 1 0 0),(59,.p (.slc (vhj (qc1 (vk2 .i64)) h1.Edges))),(60,.p (.int .i64 (h1.Edges.length:Int))),(61,.p (.int .i64 s))],[(1,.arr 28 2 1 [.p (qaa h1)])]⟩) (fun (o:(Unit) ⊕ (Bool))=>match o with | .inl o31=>tE (cX Tryz.f60 X w D hT) (.exit 2) ⟨[],[]⟩ | .inr o32=>tR Tryz.prog Tryz.f60 (.bool o32)) h30 ?_ ?_
 clear h h4 h5 h6 h8 h30
 intro t33 x h
 simp only [qdn] at h
 refine zs<|zr ?_
 refine zU<|zl<|zn<|zs ?_
 obtain ⟨h34,h⟩|⟨h34,h⟩:=zI h
 refine zi<|zk<|zn<|zs<|zb<|zs<|zr ?_
 obtain ⟨x35,h36,h36a,h36b,h⟩:=zX h
 refine zU<|zl<|zn<|zs<|zr ?_
 refine zU<|zl<|zn<|zb ?_
 obtain ⟨o37,h38,h⟩:=zB h
 refine zO (fun (s:Int)=>⟨[(1,.loc 1 1 0 0),(5,.p (.int .i64 t33)),(6,.p (.slc (vhj (vk2 .i64) x35))),(59,.p (.slc (vhj (qc1 (vk2 .i64)) h1.Edges))),(60,.p (.int .i64 (h1.Edges.length:Int))),(61,.p (.int .i64 t33)),(67,.p (.slc (vhj (qc1 (vk2 .i64)) h1.Edges))),(68,.p (.int .i64 (h1.Edges.length:Int))),(69,.p (.int .i64 s))],[(1,.arr 28 2 1 [.p (qaa h1)])]⟩) (fun (o:(Unit) ⊕ (Bool))=>match o with | .inl o39=>tE (cX Tryz.f60 X w D hT) (.exit 4) ⟨[(1,.loc 1 1 0 0),(59,.p (.slc (vhj (qc1 (vk2 .i64)) h1.Edges))),(60,.p (.int .i64 (h1.Edges.length:Int))),(61,.p (.int .i64 t33))],[(1,.arr 28 2 1 [.p (qaa h1)])]⟩ | .inr o40=>tR Tryz.prog Tryz.f60 (.bool o40)) h38 ?_ ?_
 clear h h34 h36 h36a h36b h38
 intro t41 x h
 simp only [qdm] at h
 refine zs<|zr ?_
 refine zU<|zl<|zn<|zs ?_
 obtain ⟨h42,h⟩|⟨h42,h⟩:=zI h
 refine zi<|zk<|zn<|zs<|zb<|zs<|zr ?_
 obtain ⟨x43,h44,h44a,h44b,h⟩:=zX h
 refine zU<|zl<|zn<|zs<|zr ?_
 refine zU ?_
 obtain ⟨h45,h⟩|⟨h45,h⟩:=zI h
 refine zw 77 true ?_
 refine zg ?_
 refine zg ?_
 obtain ⟨r46,h47,h⟩:=zB h
 refine zc (qc8 x35 x43 _ h47) ?_
 refine zU<|zl<|zn ?_
 obtain ⟨h48,h⟩|⟨h48,h⟩:=zI h
 refine zi<|zs<|zr ?_
 refine zU<|zl<|zn<|zq<|yr<|zt ?_
 cases h
 exact ⟨rfl,zT results60⟩
 refine zj<|zk<|yn<|zn<|zr ?_
 refine zU<|zl ?_
 cases h
 exact ⟨rfl,zE⟩
 refine zw 77 false ?_
 refine zh ?_
 refine zU<|zl<|zn ?_
 refine zj<|zk<|yn<|zn<|zr ?_
 refine zU<|zl ?_
 cases h
 exact ⟨rfl,zE⟩
 refine zj<|zx<|ze ?_
 cases h
 exact ⟨rfl,zE⟩
 rcases o37 with ⟨⟩ | r49
 try simp only at h
 refine zA<|yh<|yn<|zn<|zr ?_
 refine zU<|zl ?_
 cases h
 exact ⟨rfl,zE⟩
 try simp only at h
 refine zZ fun s hq=>?_
 refine yr<|yr<|zt ?_
 cases h
 refine ⟨rfl,?_⟩
 exact hq
 refine zj<|zx<|ze ?_
 cases h
 exact ⟨rfl,zE⟩
 rcases o29 with ⟨⟩ | r50
 try simp only at h
 refine zA<|yh<|zn<|zs<|zr ?_
 refine zU<|zl<|zn<|zq ?_
 cases h
 exact zT results60
 try simp only at h
 refine zZ fun s hq=>?_
 refine yr<|zt ?_
 cases h
 exact hq
 try simp only at h
 refine zZ fun s hq=>?_
 refine yr<|zt ?_
 cases h
 exact hq
 refine zw 13 true ?_
 refine zh ?_
 refine zU<|zl<|zn ?_
 refine zi<|zs<|zr ?_
 refine zU<|zl<|zn<|zq<|zt ?_
 cases h
 exact zT results60
theorem qcz {D:Prop} (h1:Hypergraph) (r2:Int) (h:qbx h1=some r2):Con D Tryz.prog 22 [(qaa h1)] (.int .i64 r2):=by
 refine zP call22 func22 rfl ntmps22 fun X w hT=>?_
 simp only [qbx] at h
 refine zs<|zr ?_
 refine zU<|zl<|zn<|zs<|zs<|zr ?_
 refine zU ?_
 obtain ⟨r3,h4,h⟩:=zB h
 refine zc (qma h1 _ h4) ?_
 refine zU<|zl<|zn ?_
 obtain ⟨h5,h⟩|⟨h5,h⟩:=zI h
 refine zj<|zk<|zn<|zs<|zs<|zr ?_
 refine zU<|zl<|zn ?_
 obtain ⟨h6,h⟩|⟨h6,h⟩:=zI h
 refine zi<|zs<|zr ?_
 refine zU<|zl<|zn<|zq<|zt ?_
 cases h
 exact zT results22
 refine zj<|zk<|zn<|zs<|zr ?_
 refine zU<|zl<|zn<|zq ?_
 cases h
 exact zT results22
 refine zi<|zs<|zr ?_
 refine zU<|zl<|zn<|zq<|zt ?_
 cases h
 exact zT results22
theorem qc0 {D:Prop} (s1:List Int) (v2:Int) (r3:Int) (h:qa5 s1 v2=some r3):Con D Tryz.prog 32 [(.slc (vhj (vk2 .i64) s1)),(.int .i64 v2)] (.int .i64 r3):=by
 refine zP call32 func32 rfl ntmps32 fun X w hT=>?_
 simp only [qa5] at h
 refine zs<|zr ?_
 refine zU<|zl<|zn<|zs<|zs<|zr ?_
 refine zU<|zl<|zn<|zb ?_
 obtain ⟨o4,h5,h⟩:=zB h
 refine zO (fun (s:Int)=>⟨[(0,.p (.slc (vhj (vk2 .i64) s1))),(1,.p (.int .i64 v2)),(7,.p (.int .i64 (s1.length:Int))),(8,.p (.int .i64 s))],[]⟩) (fun (o:(Unit) ⊕ (Int))=>match o with | .inl o6=>tE (cX Tryz.f32 X w D hT) (.exit 0) ⟨[],[]⟩ | .inr o7=>tR Tryz.prog Tryz.f32 (.int .i64 o7)) h5 ?_ ?_
 clear h h5
 intro t8 x h
 simp only [qbs] at h
 refine zs<|zr ?_
 refine zU<|zl<|zn<|zs ?_
 obtain ⟨h9,h⟩|⟨h9,h⟩:=zI h
 refine zi<|zk<|zn<|zs<|zb<|zs<|zr ?_
 refine zU<|zl<|zn<|zs<|zr ?_
 obtain ⟨x10,h11,h11a,h11b,h⟩:=zX h
 refine zU<|zl<|zn ?_
 obtain ⟨h12,h⟩|⟨h12,h⟩:=zI h
 refine zi<|zs<|zr ?_
 refine zU<|zl<|zn<|zq<|yr<|zt ?_
 cases h
 exact ⟨rfl,zT results32⟩
 refine zj<|zk<|yn<|zn<|zr ?_
 refine zU<|zl ?_
 cases h
 exact ⟨rfl,zE⟩
 refine zj<|zx<|ze ?_
 cases h
 exact ⟨rfl,zE⟩
 rcases o4 with ⟨⟩ | r13
 try simp only at h
 refine zA<|yh<|zn<|zs<|zr ?_
 refine zU<|zl<|zn<|zq ?_
 cases h
 exact zT results32
 try simp only at h
 refine zZ fun s hq=>?_
 refine yr<|zt ?_
 cases h
 exact hq
theorem qg4 {D:Prop} (s1:List Int) (f2:Int→Option (Bool)) (f2_k:FuncId) (f2_cs:List PV) (f2_h:∀(y3:Int) (r4:Bool),f2 y3=some r4→Con D Tryz.prog f2_k ((.int .u64 y3) :: f2_cs) (.bool r4)) (r5:Int) (h:qby s1 f2=some r5):Con D Tryz.prog 118 [(.slc (vhj (vk2 .u64) s1)),.func (.func f2_k) f2_cs] (.int .i64 r5):=by
 refine zP call118 func118 rfl ntmps118 fun X w hT=>?_
 simp only [qby] at h
 refine zs<|zr ?_
 refine zU<|zl<|zn<|zs<|zs<|zr ?_
 refine zU<|zl<|zn<|zb ?_
 obtain ⟨o6,h7,h⟩:=zB h
 refine zO (fun (s:Int)=>⟨[(0,.p (.slc (vhj (vk2 .u64) s1))),(1,.p (.func (.func f2_k) f2_cs)),(7,.p (.int .i64 (s1.length:Int))),(8,.p (.int .i64 s))],[]⟩) (fun (o:(Unit) ⊕ (Int))=>match o with | .inl o8=>tE (cX Tryz.f118 X w D hT) (.exit 0) ⟨[],[]⟩ | .inr o9=>tR Tryz.prog Tryz.f118 (.int .i64 o9)) h7 ?_ ?_
 clear h h7
 intro t10 x h
 simp only [qay] at h
 refine zs<|zr ?_
 refine zU<|zl<|zn<|zs ?_
 obtain ⟨h11,h⟩|⟨h11,h⟩:=zI h
 refine zi<|zk<|zn<|zs<|zb<|zs<|zr ?_
 refine zU<|zl<|zn<|zs<|zr ?_
 obtain ⟨x12,h13,h13a,h13b,h⟩:=zX h
 refine zU ?_
 obtain ⟨r14,h15,h⟩:=zB h
 refine zc (f2_h x12 _ h15) ?_
 refine zl<|zn ?_
 obtain ⟨h16,h⟩|⟨h16,h⟩:=zI h
 refine zi<|zs<|zr ?_
 refine zU<|zl<|zn<|zq<|yr<|zt ?_
 cases h
 exact ⟨rfl,zT results118⟩
 refine zj<|zk<|yn<|zn<|zr ?_
 refine zU<|zl ?_
 cases h
 exact ⟨rfl,zE⟩
 refine zj<|zx<|ze ?_
 cases h
 exact ⟨rfl,zE⟩
 rcases o6 with ⟨⟩ | r17
 try simp only at h
 refine zA<|yh<|zn<|zs<|zr ?_
 refine zU<|zl<|zn<|zq ?_
 cases h
 exact zT results118
 try simp only at h
 refine zZ fun s hq=>?_
 refine yr<|zt ?_
 cases h
 exact hq
theorem qbh {D:Prop} (s1:List Int) (f2:Int→Option (Bool)) (f2_k:FuncId) (f2_cs:List PV) (f2_h:∀(y3:Int) (r4:Bool),f2 y3=some r4→Con D Tryz.prog f2_k ((.int .u64 y3) :: f2_cs) (.bool r4)) (r5:Bool) (h:qae s1 f2=some r5):Con D Tryz.prog 66 [(.slc (vhj (vk2 .u64) s1)),.func (.func f2_k) f2_cs] (.bool r5):=by
 refine zP call66 func66 rfl ntmps66 fun X w hT=>?_
 simp only [qae] at h
 refine zs<|zr ?_
 refine zU<|zl<|zn<|zs<|zr ?_
 refine zU ?_
 obtain ⟨r6,h7,h⟩:=zB h
 refine zc (qg4 s1 f2 f2_k f2_cs f2_h _ h7) ?_
 refine zU<|zl<|zn<|zq ?_
 cases h
 exact zT results66
theorem qel {D:Prop} (e1:Int) (c2:Int) (r3:Bool) (h:qak e1 c2=some r3):Con D Tryz.prog 67 [(.int .u64 e1),.imm [.int .u64 c2]] (.bool r3):=by
 refine zP call67 func67 rfl ntmps67 fun X w hT=>?_
 simp only [qak] at h
 refine zs<|zr ?_
 refine zU<|zl<|zn<|zs<|zr ?_
 refine zU<|zl<|zn<|zq ?_
 cases h
 exact zT results67
theorem qdt {D:Prop} (e1:Int) (c2:Int) (c3:Int) (c4:Int) (r5:Bool) (h:qaf e1 c2 c3 c4=some r5):Con D Tryz.prog 117 [(.int .u64 e1),.imm [.int .i64 c2],.imm [.int .u64 c3],.imm [.int .u64 c4]] (.bool r5):=by
 refine zP call117 func117 rfl ntmps117 fun X w hT=>?_
 simp only [qaf] at h
 refine zs<|zr ?_
 refine zU<|zl<|zn<|zs<|zd ?_
 obtain ⟨h6,h⟩:=qem h
 refine yU ?_
 obtain ⟨h7,h⟩|⟨h7,h⟩:=zI h
 replace h:=h.symm
 refine yw 11 true ?_
 refine yg ?_
 refine yg ?_
 refine yg ?_
 refine yg ?_
 refine yg ?_
 refine yg ?_
 refine yg ?_
 refine yg ?_
 refine yg ?_
 refine yU ?_
 refine yd<|zn<|zq ?_
 cases h
 exact zT results117
 refine yw 11 false ?_
 refine yk ?_
 refine yU ?_
 refine yd<|zn<|zq ?_
 cases h
 exact zT results117
theorem qj3 {D:Prop} (h1:Hypergraph) (m2:Int) (w3:List Int) (r4:(List Int×Int×Int×Int)→Option (Bool×List Int)) (hrec_1320:∀(i5:List Int) (v6:Int) (i7:Int) (o8:Int) (t9:Bool) (i10:List Int),r4 (i5,v6,i7,o8)=some (t9,i10)→Ip D Tryz.prog 36 [.agg [.p (.int .i64 (h1.Vertices.length:Int)),.own 55 1 0 w3.length,.func (.func 61) [.loc 6 1 0 0,.loc 3 1 0 0]],.p (.int .i64 v6),.p (.int .u64 i7),.p (.int .u64 o8)] [(3,.arr 3 1 1 [.p (.int .i64 m2)]),(6,.arr 93 1 1 [.own 139 1 0 i5.length]),(55,.arr 96 1 1 (vhj AV.p (vhj (vk2 .u64) w3))),(139,.arr 96 1 1 (vhj AV.p (vhj (vk2 .u64) i5)))] (.p (.bool t9)) [(3,.arr 3 1 1 [.p (.int .i64 m2)]),(6,.arr 93 1 1 [.own 139 2 0 i10.length]),(55,.arr 96 1 1 (vhj AV.p (vhj (vk2 .u64) w3))),(139,.arr 96 1 2 (vhj AV.p (vhj (vk2 .u64) i10)))]) (i5:List Int) (v6:Int) (i7:Int) (o8:Int) (t9:Bool) (i10:List Int) (h:qbe h1 m2 w3 r4 (i5,v6,i7,o8)=some (t9,i10)):Ip D Tryz.prog 36 [.agg [.p (.int .i64 (h1.Vertices.length:Int)),.own 55 1 0 w3.length,.func (.func 61) [.loc 6 1 0 0,.loc 3 1 0 0]],.p (.int .i64 v6),.p (.int .u64 i7),.p (.int .u64 o8)] [(3,.arr 3 1 1 [.p (.int .i64 m2)]),(6,.arr 93 1 1 [.own 139 1 0 i5.length]),(55,.arr 96 1 1 (vhj AV.p (vhj (vk2 .u64) w3))),(139,.arr 96 1 1 (vhj AV.p (vhj (vk2 .u64) i5)))] (.p (.bool t9)) [(3,.arr 3 1 1 [.p (.int .i64 m2)]),(6,.arr 93 1 1 [.own 139 2 0 i10.length]),(55,.arr 96 1 1 (vhj AV.p (vhj (vk2 .u64) w3))),(139,.arr 96 1 2 (vhj AV.p (vhj (vk2 .u64) i10)))]:=by
 simp only [qbe] at h
 refine Ip.of_awp 59 ⟨[(8,.p (.bool t9))],[(3,.arr 3 1 1 [.p (.int .i64 m2)]),(6,.arr 93 1 1 [.own 139 2 0 i10.length]),(55,.arr 96 1 1 (vhj AV.p (vhj (vk2 .u64) w3))),(139,.arr 96 1 2 (vhj AV.p (vhj (vk2 .u64) i10)))]⟩ call36 func36 rfl ntmps36 (by simp) (by simp only [results36];simp only [go_sem,seval];all_goals exact rfl) fun X i11 w12 h13=>?_
 show AWp _ _ _ ⟨[(0,.agg [.p (.int .i64 (h1.Vertices.length:Int)),.own 55 1 0 w3.length,.func (.func 61) [.loc 6 1 0 0,.loc 3 1 0 0]]),(1,.p (.int .i64 v6)),(2,.p (.int .u64 i7)),(3,.p (.int .u64 o8))],[(3,.arr 3 1 1 [.p (.int .i64 m2)]),(6,.arr 93 1 1 [.own 139 1 0 i5.length]),(55,.arr 96 1 1 (vhj AV.p (vhj (vk2 .u64) w3))),(139,.arr 96 1 1 (vhj AV.p (vhj (vk2 .u64) i5)))]⟩
 refine zs<|zr ?_
 refine zU<|zl<|zn<|zs<|zd ?_
 obtain ⟨h14,h⟩:=qem h
 obtain ⟨h15,h⟩:=qem h
 refine yU ?_
 refine yd<|zn<|zs<|zs<|zr ?_
 refine zU<|zl<|zn<|zb ?_
 obtain ⟨o16,h17,h⟩:=zB h
 refine zO (fun (s:Int)=>⟨[(1,.p (.int .i64 v6)),(2,.p (.int .u64 i7)),(3,.p (.int .u64 o8)),(4,.loc 63 1 0 0),(9,.p (.int .u64 (vi4.wrap ((BitVec.ofInt 64 (vi4.wrap (18446744073709551615 * 2 ^ (min (v6).toNat 64))) &&& (BitVec.ofInt 64 (vi4.wrap ((vi4.wrap (1 * 2 ^ (min h1.Vertices.length 64))) - 1)))).toNat:Int)))),(19,.p (.int .i64 v6)),(20,.p (.int .i64 s))],[(3,.arr 3 1 1 [.p (.int .i64 m2)]),(6,.arr 93 1 1 [.own 139 1 0 i5.length]),(55,.arr 96 1 1 (vhj AV.p (vhj (vk2 .u64) w3))),(63,.arr 109 3 1 [.agg [.p (.int .i64 (h1.Vertices.length:Int)),.own 55 1 0 w3.length,.func (.func 61) [.loc 6 1 0 0,.loc 3 1 0 0]]]),(139,.arr 96 1 1 (vhj AV.p (vhj (vk2 .u64) i5)))]⟩) (fun (o:(Unit) ⊕ (Unit))=>match o with | .inl o18=>tE ⟨Tryz.prog,72,59,X,[(3,.arr 3 1 1 [.p (.int .i64 m2)]),(6,.arr 93 1 1 [.own 139 1 0 i5.length]),(55,.arr 96 1 1 (vhj AV.p (vhj (vk2 .u64) w3))),(139,.arr 96 1 1 (vhj AV.p (vhj (vk2 .u64) i5)))],i11,w12,D,h13⟩ (.exit 0) ⟨[(1,.p (.int .i64 v6)),(2,.p (.int .u64 i7)),(3,.p (.int .u64 o8)),(4,.loc 63 1 0 0)],[(3,.arr 3 1 1 [.p (.int .i64 m2)]),(6,.arr 93 1 1 [.own 139 1 0 i5.length]),(55,.arr 96 1 1 (vhj AV.p (vhj (vk2 .u64) w3))),(63,.arr 109 3 1 [.agg [.p (.int .i64 (h1.Vertices.length:Int)),.own 55 1 0 w3.length,.func (.func 61) [.loc 6 1 0 0,.loc 3 1 0 0]]]),(139,.arr 96 1 1 (vhj AV.p (vhj (vk2 .u64) i5)))]⟩ | .inr o19=>tE ⟨Tryz.prog,72,59,X,[(3,.arr 3 1 1 [.p (.int .i64 m2)]),(6,.arr 93 1 1 [.own 139 1 0 i5.length]),(55,.arr 96 1 1 (vhj AV.p (vhj (vk2 .u64) w3))),(139,.arr 96 1 1 (vhj AV.p (vhj (vk2 .u64) i5)))],i11,w12,D,h13⟩ .ret ⟨[(8,.p (.bool true))],[(3,.arr 3 1 1 [.p (.int .i64 m2)]),(6,.arr 93 1 1 [.own 139 1 0 i5.length]),(55,.arr 96 1 1 (vhj AV.p (vhj (vk2 .u64) w3))),(139,.arr 96 1 1 (vhj AV.p (vhj (vk2 .u64) i5)))]⟩) h17 ?_ ?_
 clear h h14 h15 h17
 intro t20 x h
 simp only [qbt] at h
 refine zs<|zr ?_
 refine zU<|zl<|zn<|zs ?_
 obtain ⟨h21,h⟩|⟨h21,h⟩:=zI h
 have h21T:=eq_true h21
 refine zi<|zk<|zn<|zs<|zb<|zs<|zr ?_
 refine zU<|zl<|zn<|zs<|zr ?_
 obtain ⟨h22,h⟩:=qem h
 refine zU ?_
 obtain ⟨h23,h⟩|⟨h23,h⟩:=zI h
 refine zw 28 true ?_
 refine zg ?_
 refine zg ?_
 refine zg ?_
 refine zg ?_
 refine zM ⟨[(1,.p (.int .i64 v6)),(2,.p (.int .u64 i7)),(3,.p (.int .u64 o8)),(4,.loc 63 1 0 0),(9,.p (.int .u64 (vi4.wrap ((BitVec.ofInt 64 (vi4.wrap (18446744073709551615 * 2 ^ (min (v6).toNat 64))) &&& (BitVec.ofInt 64 (vi4.wrap ((vi4.wrap (1 * 2 ^ (min h1.Vertices.length 64))) - 1)))).toNat:Int)))),(19,.p (.int .i64 v6)),(20,.p (.int .i64 t20)),(28,.p (.bool true)),(29,.agg [.p (.int .i64 (h1.Vertices.length:Int)),.own 55 1 0 w3.length,.func (.func 61) [.loc 6 1 0 0,.loc 3 1 0 0]]),(30,.p (.int .i64 t20)),(31,.p (.int .u64 i7)),(32,.p (.int .u64 (vi4.wrap ((BitVec.ofInt 64 (vi4.wrap (18446744073709551615 * 2 ^ (min (v6).toNat 64))) &&& (BitVec.ofInt 64 (vi4.wrap ((vi4.wrap (1 * 2 ^ (min h1.Vertices.length 64))) - 1)))).toNat:Int))))],[(3,.arr 3 1 1 [.p (.int .i64 m2)]),(6,.arr 93 1 1 [.own 139 1 0 i5.length]),(55,.arr 96 1 1 (vhj AV.p (vhj (vk2 .u64) w3))),(63,.arr 109 3 1 [.agg [.p (.int .i64 (h1.Vertices.length:Int)),.own 55 1 0 w3.length,.func (.func 61) [.loc 6 1 0 0,.loc 3 1 0 0]]]),(139,.arr 96 1 1 (vhj AV.p (vhj (vk2 .u64) i5)))]⟩ ?_
 refine qgv (avs:=[.agg [.p (.int .i64 (h1.Vertices.length:Int)),.own 55 1 0 w3.length,.func (.func 61) [.loc 6 1 0 0,.loc 3 1 0 0]],.p (.int .i64 t20),.p (.int .u64 i7),.p (.int .u64 (vi4.wrap ((BitVec.ofInt 64 (vi4.wrap (18446744073709551615 * 2 ^ (min (v6).toNat 64))) &&& (BitVec.ofInt 64 (vi4.wrap ((vi4.wrap (1 * 2 ^ (min h1.Vertices.length 64))) - 1)))).toNat:Int)))]) 131 rfl (qdw rfl rfl (by exact rfl) (by exact rfl)) rfl func65 rfl call65 ntmps65 (by simp) (by simp only [go_sem,seval,h21T,h23];all_goals rfl) ?_
 intro i24 w25 h26
 show AWp _ _ _ ⟨[(0,.agg [.p (.int .i64 (h1.Vertices.length:Int)),.own 55 1 0 w3.length,.func (.func 61) [.loc 6 1 0 0,.loc 3 1 0 0]]),(1,.p (.int .i64 t20)),(2,.p (.int .u64 i7)),(3,.p (.int .u64 (vi4.wrap ((BitVec.ofInt 64 (vi4.wrap (18446744073709551615 * 2 ^ (min (v6).toNat 64))) &&& (BitVec.ofInt 64 (vi4.wrap ((vi4.wrap (1 * 2 ^ (min h1.Vertices.length 64))) - 1)))).toNat:Int))))],[(3,.arr 3 1 1 [.p (.int .i64 m2)]),(6,.arr 93 1 1 [.own 139 1 0 i5.length]),(55,.arr 96 1 1 (vhj AV.p (vhj (vk2 .u64) w3))),(63,.arr 109 3 1 [.agg [.p (.int .i64 (h1.Vertices.length:Int)),.own 55 1 0 w3.length,.func (.func 61) [.loc 6 1 0 0,.loc 3 1 0 0]]]),(139,.arr 96 1 1 (vhj AV.p (vhj (vk2 .u64) i5)))]⟩
 refine zs<|zr ?_
 refine zU<|zl<|zn<|zs<|zr ?_
 refine zU ?_
 obtain ⟨r27,h28,h⟩:=zB h
 refine zc (qbh w3 (fun (y29:Int)=>qaf y29 t20 i7 (vi4.wrap ((BitVec.ofInt 64 (vi4.wrap (18446744073709551615 * 2 ^ (min (v6).toNat 64))) &&& (BitVec.ofInt 64 (vi4.wrap ((vi4.wrap (1 * 2 ^ (min h1.Vertices.length 64))) - 1)))).toNat:Int))) 117 [.imm [.int .i64 t20],.imm [.int .u64 i7],.imm [.int .u64 (vi4.wrap ((BitVec.ofInt 64 (vi4.wrap (18446744073709551615 * 2 ^ (min (v6).toNat 64))) &&& (BitVec.ofInt 64 (vi4.wrap ((vi4.wrap (1 * 2 ^ (min h1.Vertices.length 64))) - 1)))).toNat:Int))]] (fun y29 r h=>qdt y29 t20 i7 (vi4.wrap ((BitVec.ofInt 64 (vi4.wrap (18446744073709551615 * 2 ^ (min (v6).toNat 64))) &&& (BitVec.ofInt 64 (vi4.wrap ((vi4.wrap (1 * 2 ^ (min h1.Vertices.length 64))) - 1)))).toNat:Int)) r h) _ h28) ?_
 refine zU<|zl<|zn<|zq ?_
 refine qgf (by simp only [results65];simp only [go_sem,seval,h21T,h23];exact rfl) ?_
 refine zg ?_
 refine zU<|zl<|zn ?_
 obtain ⟨h30,h⟩|⟨h30,h⟩:=zI h
 refine zj<|zk<|yn<|zn<|zr ?_
 refine zU<|zl ?_
 cases h
 exact ⟨rfl,zE⟩
 refine zi<|zs<|zr ?_
 refine zU<|zl<|zn<|zq<|yr<|zt ?_
 cases h
 exact ⟨rfl,zE⟩
 refine zw 28 false ?_
 refine zh ?_
 refine zU<|zl<|zn ?_
 refine zj<|zk<|yn<|zn<|zr ?_
 refine zU<|zl ?_
 cases h
 exact ⟨rfl,zE⟩
 have h21T:=eq_false h21
 refine zj<|zx<|ze ?_
 cases h
 exact ⟨rfl,zE⟩
 rcases o16 with ⟨⟩ | ⟨⟩
 try simp only at h
 refine zA<|yh<|zn<|zs<|zs<|zr ?_
 refine zU<|zl<|zn ?_
 obtain ⟨h31,h⟩|⟨h31,h⟩:=zI h
 refine zi<|zs<|zr ?_
 refine zU ?_
 refine zM ⟨[(42,.func (.func 61) [.loc 6 1 0 0,.loc 3 1 0 0]),(43,.p (.int .u64 i7))],[(3,.arr 3 1 1 [.p (.int .i64 m2)]),(6,.arr 93 1 1 [.own 139 1 0 i5.length]),(55,.arr 96 1 1 (vhj AV.p (vhj (vk2 .u64) w3))),(139,.arr 96 1 1 (vhj AV.p (vhj (vk2 .u64) i5)))]⟩ ?_
 refine qgv (avs:=[.p (.int .u64 i7),.loc 6 1 0 0,.loc 3 1 0 0]) 144 rfl (qcb rfl) rfl func61 rfl call61 ntmps61 (by simp) (by simp only [go_sem,seval,h31];all_goals rfl) ?_
 intro i32 w33 h34
 show AWp _ _ _ ⟨[(0,.p (.int .u64 i7)),(1,.loc 6 1 0 0),(2,.loc 3 1 0 0)],[(3,.arr 3 1 1 [.p (.int .i64 m2)]),(6,.arr 93 1 1 [.own 139 1 0 i5.length]),(55,.arr 96 1 1 (vhj AV.p (vhj (vk2 .u64) w3))),(139,.arr 96 1 1 (vhj AV.p (vhj (vk2 .u64) i5)))]⟩
 refine zs<|zr ?_
 refine zU<|zl<|zn<|zs<|zr ?_
 obtain ⟨h35,h⟩:=qa1 h
 refine zU<|zl<|zn<|zs<|zr ?_
 refine zU<|zl<|zn<|zq ?_
 refine qgf (by simp only [results61];simp only [go_sem,seval,h31];exact rfl) ?_
 refine zU<|zl<|zn<|zq<|zt ?_
 cases h
 exact ⟨rfl,zE⟩
 refine zj<|zk<|zn<|zs<|zr ?_
 refine zU<|zl<|zn<|zs<|zs<|zr ?_
 refine zU ?_
 obtain ⟨r36,h37,h⟩:=zB h
 refine zc (qbh w3 (fun (y38:Int)=>qak y38 (vi4.wrap ((BitVec.ofInt 64 i7 ||| (BitVec.ofInt 64 (vi4.wrap (1 * 2 ^ (min (v6).toNat 64))))).toNat:Int))) 67 [.imm [.int .u64 (vi4.wrap ((BitVec.ofInt 64 i7 ||| (BitVec.ofInt 64 (vi4.wrap (1 * 2 ^ (min (v6).toNat 64))))).toNat:Int))]] (fun y38 r h=>qel y38 (vi4.wrap ((BitVec.ofInt 64 i7 ||| (BitVec.ofInt 64 (vi4.wrap (1 * 2 ^ (min (v6).toNat 64))))).toNat:Int)) r h) _ h37) ?_
 refine zU ?_
 obtain ⟨h39,h⟩|⟨h39,h⟩:=zI h
 refine zw 54 false ?_
 refine zh ?_
 refine zU<|zl<|zn ?_
 refine zj<|zk<|zn<|zs ?_
 refine zdl 8 ?_
 refine yU ?_
 refine ydl ?_
 refine zM ⟨[(63,.agg [.p (.int .i64 (h1.Vertices.length:Int)),.own 55 1 0 w3.length,.func (.func 61) [.loc 6 1 0 0,.loc 3 1 0 0]]),(65,.p (.int .i64 (vip.wrap (v6+1)))),(66,.p (.int .u64 i7)),(70,.p (.int .u64 (vi4.wrap ((BitVec.ofInt 64 o8 ||| (BitVec.ofInt 64 (vi4.wrap (1 * 2 ^ (min (v6).toNat 64))))).toNat:Int))))],[(3,.arr 3 1 1 [.p (.int .i64 m2)]),(6,.arr 93 1 1 [.own 139 1 0 i5.length]),(55,.arr 96 1 1 (vhj AV.p (vhj (vk2 .u64) w3))),(139,.arr 96 1 1 (vhj AV.p (vhj (vk2 .u64) i5)))]⟩ ?_
 refine zM ⟨[(63,.agg [.p (.int .i64 (h1.Vertices.length:Int)),.own 55 1 0 w3.length,.func (.func 61) [.loc 6 1 0 0,.loc 3 1 0 0]]),(65,.p (.int .i64 (vip.wrap (v6+1)))),(66,.p (.int .u64 i7)),(70,.p (.int .u64 (vi4.wrap ((BitVec.ofInt 64 o8 ||| (BitVec.ofInt 64 (vi4.wrap (1 * 2 ^ (min (v6).toNat 64))))).toNat:Int))))],[(3,.arr 3 1 1 [.p (.int .i64 m2)]),(6,.arr 93 1 1 [.own 139 1 0 i5.length]),(55,.arr 96 1 1 (vhj AV.p (vhj (vk2 .u64) w3))),(139,.arr 96 1 1 (vhj AV.p (vhj (vk2 .u64) i5)))]⟩ ?_
 obtain ⟨o40,h41,h⟩:=zB h
 obtain ⟨t42,i43⟩:=o40
 try simp only at h
 refine zIp [] (hrec_1320 i5 (vip.wrap (v6+1)) i7 (vi4.wrap ((BitVec.ofInt 64 o8 ||| (BitVec.ofInt 64 (vi4.wrap (1 * 2 ^ (min (v6).toNat 64))))).toNat:Int)) t42 i43 h41) ?_
 clear h41
 refine zM ⟨[(71,.p (.bool t42))],[(3,.arr 3 1 1 [.p (.int .i64 m2)]),(6,.arr 93 1 1 [.own 139 2 0 i43.length]),(55,.arr 96 1 1 (vhj AV.p (vhj (vk2 .u64) w3))),(139,.arr 96 1 2 (vhj AV.p (vhj (vk2 .u64) i43)))]⟩ ?_
 refine zU<|zl<|zn<|zq ?_
 cases h
 exact ⟨rfl,zE⟩
 refine zw 54 true ?_
 refine zg ?_
 refine zg ?_
 refine zg ?_
 refine zg ?_
 refine zg ?_
 refine zM ⟨[(1,.p (.int .i64 v6)),(2,.p (.int .u64 i7)),(3,.p (.int .u64 o8)),(4,.loc 63 1 0 0),(54,.p (.bool true)),(55,.agg [.p (.int .i64 (h1.Vertices.length:Int)),.own 55 1 0 w3.length,.func (.func 61) [.loc 6 1 0 0,.loc 3 1 0 0]]),(57,.p (.int .i64 (vip.wrap (v6+1)))),(58,.p (.int .u64 (vi4.wrap ((BitVec.ofInt 64 i7 ||| (BitVec.ofInt 64 (vi4.wrap (1 * 2 ^ (min (v6).toNat 64))))).toNat:Int)))),(59,.p (.int .u64 o8))],[(3,.arr 3 1 1 [.p (.int .i64 m2)]),(6,.arr 93 1 1 [.own 139 1 0 i5.length]),(55,.arr 96 1 1 (vhj AV.p (vhj (vk2 .u64) w3))),(63,.arr 109 3 1 [.agg [.p (.int .i64 (h1.Vertices.length:Int)),.own 55 1 0 w3.length,.func (.func 61) [.loc 6 1 0 0,.loc 3 1 0 0]]]),(139,.arr 96 1 1 (vhj AV.p (vhj (vk2 .u64) i5)))]⟩ ?_
 refine zM ⟨[(1,.p (.int .i64 v6)),(2,.p (.int .u64 i7)),(3,.p (.int .u64 o8)),(4,.loc 63 1 0 0),(54,.p (.bool true)),(55,.agg [.p (.int .i64 (h1.Vertices.length:Int)),.own 55 1 0 w3.length,.func (.func 61) [.loc 6 1 0 0,.loc 3 1 0 0]]),(57,.p (.int .i64 (vip.wrap (v6+1)))),(58,.p (.int .u64 (vi4.wrap ((BitVec.ofInt 64 i7 ||| (BitVec.ofInt 64 (vi4.wrap (1 * 2 ^ (min (v6).toNat 64))))).toNat:Int)))),(59,.p (.int .u64 o8))],[(3,.arr 3 1 1 [.p (.int .i64 m2)]),(6,.arr 93 1 1 [.own 139 1 0 i5.length]),(55,.arr 96 1 1 (vhj AV.p (vhj (vk2 .u64) w3))),(63,.arr 109 3 1 [.agg [.p (.int .i64 (h1.Vertices.length:Int)),.own 55 1 0 w3.length,.func (.func 61) [.loc 6 1 0 0,.loc 3 1 0 0]]]),(139,.arr 96 1 1 (vhj AV.p (vhj (vk2 .u64) i5)))]⟩ ?_
 obtain ⟨o44,h45,h⟩:=zB h
 obtain ⟨t46,i47⟩:=o44
 try simp only at h
 refine zIp [] (hrec_1320 i5 (vip.wrap (v6+1)) (vi4.wrap ((BitVec.ofInt 64 i7 ||| (BitVec.ofInt 64 (vi4.wrap (1 * 2 ^ (min (v6).toNat 64))))).toNat:Int)) o8 t46 i47 h45) ?_
 clear h45
 refine zM ⟨[(1,.p (.int .i64 v6)),(2,.p (.int .u64 i7)),(3,.p (.int .u64 o8)),(4,.loc 63 1 0 0),(54,.p (.bool true)),(60,.p (.bool t46))],[(3,.arr 3 1 1 [.p (.int .i64 m2)]),(6,.arr 93 1 1 [.own 139 2 0 i47.length]),(55,.arr 96 1 1 (vhj AV.p (vhj (vk2 .u64) w3))),(63,.arr 109 3 1 [.agg [.p (.int .i64 (h1.Vertices.length:Int)),.own 55 1 0 w3.length,.func (.func 61) [.loc 6 1 0 0,.loc 3 1 0 0]]]),(139,.arr 96 1 2 (vhj AV.p (vhj (vk2 .u64) i47)))]⟩ ?_
 refine zg ?_
 refine zU<|zl<|zn ?_
 obtain ⟨h48,h⟩|⟨h48,h⟩:=zI h
 refine zj<|zk<|zn<|zs ?_
 refine zdl 8 ?_
 refine yU ?_
 refine ydl ?_
 refine zM ⟨[(63,.agg [.p (.int .i64 (h1.Vertices.length:Int)),.own 55 1 0 w3.length,.func (.func 61) [.loc 6 1 0 0,.loc 3 1 0 0]]),(65,.p (.int .i64 (vip.wrap (v6+1)))),(66,.p (.int .u64 i7)),(70,.p (.int .u64 (vi4.wrap ((BitVec.ofInt 64 o8 ||| (BitVec.ofInt 64 (vi4.wrap (1 * 2 ^ (min (v6).toNat 64))))).toNat:Int))))],[(3,.arr 3 1 1 [.p (.int .i64 m2)]),(6,.arr 93 1 1 [.own 139 2 0 i47.length]),(55,.arr 96 1 1 (vhj AV.p (vhj (vk2 .u64) w3))),(139,.arr 96 1 2 (vhj AV.p (vhj (vk2 .u64) i47)))]⟩ ?_
 refine zM ⟨[(63,.agg [.p (.int .i64 (h1.Vertices.length:Int)),.own 55 1 0 w3.length,.func (.func 61) [.loc 6 1 0 0,.loc 3 1 0 0]]),(65,.p (.int .i64 (vip.wrap (v6+1)))),(66,.p (.int .u64 i7)),(70,.p (.int .u64 (vi4.wrap ((BitVec.ofInt 64 o8 ||| (BitVec.ofInt 64 (vi4.wrap (1 * 2 ^ (min (v6).toNat 64))))).toNat:Int))))],[(3,.arr 3 1 1 [.p (.int .i64 m2)]),(6,.arr 93 1 1 [.own 139 2 0 i47.length]),(55,.arr 96 1 1 (vhj AV.p (vhj (vk2 .u64) w3))),(139,.arr 96 1 2 (vhj AV.p (vhj (vk2 .u64) i47)))]⟩ ?_
 obtain ⟨o49,h50,h⟩:=zB h
 obtain ⟨t51,i52⟩:=o49
 try simp only at h
 refine zIp [(139,1)] (hrec_1320 i47 (vip.wrap (v6+1)) i7 (vi4.wrap ((BitVec.ofInt 64 o8 ||| (BitVec.ofInt 64 (vi4.wrap (1 * 2 ^ (min (v6).toNat 64))))).toNat:Int)) t51 i52 h50) ?_
 clear h50
 refine zM ⟨[(71,.p (.bool t51))],[(3,.arr 3 1 1 [.p (.int .i64 m2)]),(6,.arr 93 1 1 [.own 139 3 0 i52.length]),(55,.arr 96 1 1 (vhj AV.p (vhj (vk2 .u64) w3))),(139,.arr 96 1 3 (vhj AV.p (vhj (vk2 .u64) i52)))]⟩ ?_
 refine zU<|zl<|zn<|zq ?_
 cases h
 exact ⟨rfl,zE⟩
 refine zi<|zs<|zr ?_
 refine zU<|zl<|zn<|zq<|zt ?_
 cases h
 exact ⟨rfl,zE⟩
 try simp only at h
 refine zA<|yr<|zt ?_
 cases h
 exact ⟨rfl,zE⟩
theorem qjj {D:Prop} (h_978:Hypergraph) (most_979:Int) (w_1065:List Int) (n:Nat):∀(in_1252:List Int) (v_1253:Int) (in_1254:Int) (out_1255:Int) (t8_1250:Bool) (in_1251:List Int),q7k (qbe h_978 most_979 w_1065) n (in_1252,v_1253,in_1254,out_1255)=some (t8_1250,in_1251)→Ip D Tryz.prog 36 [.agg [.p (.int .i64 (h_978.Vertices.length:Int)),.own 55 1 0 w_1065.length,.func (.func 61) [.loc 6 1 0 0,.loc 3 1 0 0]],.p (.int .i64 v_1253),.p (.int .u64 in_1254),.p (.int .u64 out_1255)] [(3,.arr 3 1 1 [.p (.int .i64 most_979)]),(6,.arr 93 1 1 [.own 139 1 0 in_1252.length]),(55,.arr 96 1 1 (vhj AV.p (vhj (vk2 .u64) w_1065))),(139,.arr 96 1 1 (vhj AV.p (vhj (vk2 .u64) in_1252)))] (.p (.bool t8_1250)) [(3,.arr 3 1 1 [.p (.int .i64 most_979)]),(6,.arr 93 1 1 [.own 139 2 0 in_1251.length]),(55,.arr 96 1 1 (vhj AV.p (vhj (vk2 .u64) w_1065))),(139,.arr 96 1 2 (vhj AV.p (vhj (vk2 .u64) in_1251)))]:=by
  induction n with
  | zero=>intro in_1252 v_1253 in_1254 out_1255 t8_1250 in_1251 h;cases h
  | succ n ih=>intro in_1252 v_1253 in_1254 out_1255 t8_1250 in_1251 h;exact qj3 h_978 most_979 w_1065 _ ih in_1252 v_1253 in_1254 out_1255 t8_1250 in_1251 h
theorem qfk {D:Prop} (h1:Hypergraph) (m2:Int) (r3:List Int×Bool) (h:qcr h1 m2=some r3):Con D Tryz.prog 23 [(qaa h1),(.int .i64 m2)] (.tup [(.slc (vhj (vk2 .u64) r3.1)),(.bool r3.2)]):=by
 refine zP call23 func23 rfl ntmps23 fun X w hT=>?_
 simp only [qcr] at h
 refine zs<|zr ?_
 refine zU<|zl<|zn<|zs<|zr ?_
 refine zU<|zl<|zn<|zs<|zr ?_
 refine zU ?_
 refine zM ⟨[(6,.loc 6 1 0 0),(8,.p (qaa h1)),(9,.func (.func 61) [.loc 6 1 0 0,.loc 3 1 0 0])],[(3,.arr 3 1 1 [.p (.int .i64 m2)]),(6,.arr 93 1 1 [.nils])]⟩ ?_
 refine qgv (avs:=[.p (qaa h1),.func (.func 61) [.loc 6 1 0 0,.loc 3 1 0 0]]) 14 rfl (qcb rfl) rfl func33 rfl call33 ntmps33 (by simp) (by simp only [go_sem,seval];all_goals rfl) ?_
 intro i4 w5 h6
 show AWp _ _ _ ⟨[(0,.p (qaa h1)),(1,.func (.func 61) [.loc 6 1 0 0,.loc 3 1 0 0])],[(3,.arr 3 1 1 [.p (.int .i64 m2)]),(6,.arr 93 1 1 [.nils])]⟩
 refine zs<|zr ?_
 refine zU<|zl<|zn<|zs<|zr ?_
 refine zU<|zl<|zn<|zs<|zs<|zr ?_
 refine zU<|zl<|zn<|zb ?_
 obtain ⟨w7,h8,h⟩:=zB h
 refine zO (fun (s:List Int×Int)=>⟨[(2,.loc 16 1 0 0),(4,.loc 18 1 0 0),(5,.loc 19 1 0 0),(17,.p (.slc (vhj (qc1 (vk2 .i64)) h1.Edges))),(18,.p (.int .i64 (h1.Edges.length:Int))),(19,.p (.int .i64 s.2))],[(3,.arr 3 1 1 [.p (.int .i64 m2)]),(6,.arr 93 1 1 [.nils]),(16,.arr 28 2 1 [.p (qaa h1)]),(18,.arr 109 3 1 [.agg [.p (.int .i64 0),.nils,.p (.nilf)]]),(19,.arr 109 3 1 [.agg [.p (.int .i64 (h1.Vertices.length:Int)),.own 55 1 0 s.1.length,.func (.func 61) [.loc 6 1 0 0,.loc 3 1 0 0]]]),(55,.arr 96 1 1 (vhj AV.p (vhj (vk2 .u64) s.1)))]⟩) (fun (o9:List Int)=>tE ⟨Tryz.prog,45,14,X,[(3,.arr 3 1 1 [.p (.int .i64 m2)]),(6,.arr 93 1 1 [.nils])],i4,w5,D,h6⟩ (.exit 0) ⟨[(4,.loc 18 1 0 0),(5,.loc 19 1 0 0)],[(3,.arr 3 1 1 [.p (.int .i64 m2)]),(6,.arr 93 1 1 [.nils]),(18,.arr 109 3 1 [.agg [.p (.int .i64 0),.nils,.p (.nilf)]]),(19,.arr 109 3 1 [.agg [.p (.int .i64 (h1.Vertices.length:Int)),.own 55 1 0 o9.length,.func (.func 61) [.loc 6 1 0 0,.loc 3 1 0 0]]]),(55,.arr 96 1 1 (vhj AV.p (vhj (vk2 .u64) o9)))]⟩) h8 ?_ ?_
 clear h h8
 intro s x h
 obtain ⟨w10,t11⟩:=s
 simp only [qce] at h
 dsimp only
 refine zs<|zr ?_
 refine zU<|zl<|zn<|zs ?_
 obtain ⟨h12,h⟩|⟨h12,h⟩:=zI h
 refine zi<|zk<|zn<|zs<|zb<|zs<|zr ?_
 obtain ⟨x13,h14,h14a,h14b,h⟩:=zX h
 refine zU<|zl<|zn<|zs<|zr ?_
 refine zU<|zl<|zn<|zs<|zs<|zr ?_
 refine zU<|zl<|zn<|zb ?_
 obtain ⟨b15,h16,h⟩:=zB h
 refine zO (fun (s:Int×Int)=>⟨[(2,.loc 16 1 0 0),(4,.loc 18 1 0 0),(5,.loc 19 1 0 0),(8,.p (.int .u64 s.1)),(17,.p (.slc (vhj (qc1 (vk2 .i64)) h1.Edges))),(18,.p (.int .i64 (h1.Edges.length:Int))),(19,.p (.int .i64 t11)),(23,.p (.slc (vhj (vk2 .i64) x13))),(24,.p (.int .i64 (x13.length:Int))),(25,.p (.int .i64 s.2))],[(3,.arr 3 1 1 [.p (.int .i64 m2)]),(6,.arr 93 1 1 [.nils]),(16,.arr 28 2 1 [.p (qaa h1)]),(18,.arr 109 3 1 [.agg [.p (.int .i64 0),.nils,.p (.nilf)]]),(19,.arr 109 3 1 [.agg [.p (.int .i64 (h1.Vertices.length:Int)),.own 55 1 0 w10.length,.func (.func 61) [.loc 6 1 0 0,.loc 3 1 0 0]]]),(55,.arr 96 1 1 (vhj AV.p (vhj (vk2 .u64) w10)))]⟩) (fun (o17:Int)=>tE ⟨Tryz.prog,45,14,X,[(3,.arr 3 1 1 [.p (.int .i64 m2)]),(6,.arr 93 1 1 [.nils])],i4,w5,D,h6⟩ (.exit 2) ⟨[(2,.loc 16 1 0 0),(4,.loc 18 1 0 0),(5,.loc 19 1 0 0),(8,.p (.int .u64 o17)),(17,.p (.slc (vhj (qc1 (vk2 .i64)) h1.Edges))),(18,.p (.int .i64 (h1.Edges.length:Int))),(19,.p (.int .i64 t11))],[(3,.arr 3 1 1 [.p (.int .i64 m2)]),(6,.arr 93 1 1 [.nils]),(16,.arr 28 2 1 [.p (qaa h1)]),(18,.arr 109 3 1 [.agg [.p (.int .i64 0),.nils,.p (.nilf)]]),(19,.arr 109 3 1 [.agg [.p (.int .i64 (h1.Vertices.length:Int)),.own 55 1 0 w10.length,.func (.func 61) [.loc 6 1 0 0,.loc 3 1 0 0]]]),(55,.arr 96 1 1 (vhj AV.p (vhj (vk2 .u64) w10)))]⟩) h16 ?_ ?_
 clear h h12 h14 h14a h14b h16
 intro s x h
 obtain ⟨b18,t19⟩:=s
 simp only [qcu] at h
 dsimp only
 refine zs<|zr ?_
 refine zU<|zl<|zn<|zs ?_
 obtain ⟨h20,h⟩|⟨h20,h⟩:=zI h
 refine zi<|zk<|zn<|zs<|zb<|zs<|zr ?_
 obtain ⟨x21,h22,h22a,h22b,h⟩:=zX h
 refine zU<|zl<|zn<|zr ?_
 refine zU ?_
 obtain ⟨r23,h24,h⟩:=zB h
 refine zc (qc0 h1.Vertices x21 _ h24) ?_
 obtain ⟨h25,h⟩:=qem h
 refine zU<|zl<|yn<|zn<|zr ?_
 refine zU<|zl ?_
 cases h
 exact ⟨rfl,zE⟩
 refine zj<|zx<|ze ?_
 cases h
 exact ⟨rfl,zE⟩
 try simp only at h
 refine zA<|yh<|zn<|zr ?_
 obtain ⟨h26,h⟩:=qa1 h
 refine zU<|zl<|yn<|zn<|zr ?_
 refine zU<|zl ?_
 cases h
 exact ⟨rfl,zE⟩
 refine zj<|zx<|ze ?_
 cases h
 exact ⟨rfl,zE⟩
 try simp only at h
 refine zA<|yh<|zn<|zs<|zr ?_
 refine zU<|zl<|zn<|zq ?_
 refine qgf (by simp only [results33];simp only [go_sem,seval];exact rfl) ?_
 refine zM ⟨[(6,.loc 6 1 0 0),(10,.agg [.p (.int .i64 (h1.Vertices.length:Int)),.own 55 1 0 w7.length,.func (.func 61) [.loc 6 1 0 0,.loc 3 1 0 0]])],[(3,.arr 3 1 1 [.p (.int .i64 m2)]),(6,.arr 93 1 1 [.nils]),(55,.arr 96 1 1 (vhj AV.p (vhj (vk2 .u64) w7)))]⟩ ?_
 refine zM ⟨[(6,.loc 6 1 0 0),(10,.agg [.p (.int .i64 (h1.Vertices.length:Int)),.own 55 1 0 w7.length,.func (.func 61) [.loc 6 1 0 0,.loc 3 1 0 0]])],[(3,.arr 3 1 1 [.p (.int .i64 m2)]),(6,.arr 93 1 1 [.own 139 1 0 0]),(55,.arr 96 1 1 (vhj AV.p (vhj (vk2 .u64) w7))),(139,.arr 96 1 1 (vhj AV.p (vhj (vk2 .u64) [])))]⟩ ?_
 obtain ⟨o27,h28,h⟩:=zB h
 obtain ⟨t29,i30⟩:=o27
 try simp only at h
 refine zIp [] (qjj h1 m2 w7 64 [] 0 0 0 t29 i30 h28) ?_
 clear h28
 refine zM ⟨[(6,.loc 6 1 0 0),(11,.p (.bool t29))],[(6,.arr 93 1 1 [.own 139 1 0 i30.length]),(139,.arr 96 1 1 (vhj AV.p (vhj (vk2 .u64) i30)))]⟩ ?_
 refine zU<|zl<|zn<|zs<|zr ?_
 refine zU<|zl<|zn<|zq ?_
 cases h
 exact zT results23
theorem qic {D:Prop} (h1:Hypergraph) (s2:Int) (r3:List Int) (h:qen h1 s2=some r3):Con D Tryz.prog 24 [(qaa h1),(.int .u64 s2)] (.slc (vhj (vk2 .i64) r3)):=by
 refine zP call24 func24 rfl ntmps24 fun X w hT=>?_
 simp only [qen] at h
 refine zs<|zr ?_
 refine zU<|zl<|zn<|zs<|zr ?_
 refine zU<|zl<|zn<|zs<|zs<|zr ?_
 refine zU<|zl<|zn<|zb ?_
 obtain ⟨o4,h5,h⟩:=zB h
 refine zO (fun (s:List Int×Int)=>⟨[(1,.p (.int .u64 s2)),(5,.own 24 1 0 s.1.length),(9,.p (.slc (vhj (vk2 .i64) h1.Vertices))),(10,.p (.int .i64 (h1.Vertices.length:Int))),(11,.p (.int .i64 s.2))],[(24,.arr 2 1 1 (vhj AV.p (vhj (vk2 .i64) s.1)))]⟩) (fun (o6:List Int)=>tE (cX Tryz.f24 X w D hT) (.exit 0) ⟨[(5,.own 24 1 0 o6.length)],[(24,.arr 2 1 1 (vhj AV.p (vhj (vk2 .i64) o6)))]⟩) h5 ?_ ?_
 clear h h5
 intro s x h
 obtain ⟨o7,t8⟩:=s
 simp only [qd3] at h
 dsimp only
 refine zs<|zr ?_
 refine zU<|zl<|zn<|zs ?_
 obtain ⟨h9,h⟩|⟨h9,h⟩:=zI h
 refine zi<|zk<|zn<|zs<|zb<|zs<|zr ?_
 obtain ⟨x10,h11,h11a,h11b,h⟩:=zX h
 refine zU<|zl<|zn<|zs<|zr ?_
 obtain ⟨h12,h⟩:=qem h
 refine zU<|zl<|zn ?_
 obtain ⟨h13,h⟩|⟨h13,h⟩:=zI h
 refine zi<|zr ?_
 obtain ⟨h14,h⟩:=qa1 h
 refine zU<|zl<|yn<|zn<|zr ?_
 refine zU<|zl ?_
 cases h
 exact ⟨rfl,zE⟩
 refine zj<|zk<|yn<|zn<|zr ?_
 refine zU<|zl ?_
 cases h
 exact ⟨rfl,zE⟩
 refine zj<|zx<|ze ?_
 cases h
 exact ⟨rfl,zE⟩
 try simp only at h
 refine zA<|yh<|zn<|zs<|zr ?_
 refine zU<|zl<|zn<|zq ?_
 cases h
 exact zT results24
theorem qmu {D:Prop} (h1:Hypergraph) (m2:Int) (r3:List (List Int)×Int) (h:qfe h1 m2=some r3):Con D Tryz.prog 6 [(qaa h1),(.int .i64 m2)] (.tup [(.slc (vhj (qc1 (vk2 .i64)) r3.1)),(.int .i64 r3.2)]):=by
 refine zP call6 func6 rfl ntmps6 fun X w hT=>?_
 simp only [qfe] at h
 refine zs<|zr ?_
 refine zU<|zl<|zn<|zs<|zs<|zr ?_
 refine zU ?_
 obtain ⟨r4,h5,h⟩:=zB h
 refine zc (qcz h1 _ h5) ?_
 refine zU<|zl<|zn<|zs<|zr ?_
 refine zU<|zl<|zn ?_
 obtain ⟨h6,h⟩|⟨h6,h⟩:=zI h
 refine zi<|zs<|zr ?_
 refine zU<|zl<|zn<|zq<|zt ?_
 cases h
 exact zT results6
 refine zj<|zk<|zn<|zs<|zr ?_
 refine zU ?_
 obtain ⟨r7,h8,h⟩:=zB h
 refine zc (qfk h1 m2 _ h8) ?_
 refine zU<|zl<|zn<|zs<|zs<|zr ?_
 refine zU<|zl<|zn ?_
 obtain ⟨h9,h⟩|⟨h9,h⟩:=zI h
 refine zj<|zk<|zn<|zs<|zr ?_
 refine zU<|zl<|zn<|zs<|zs<|zr ?_
 refine zU<|zl<|zn<|zb ?_
 obtain ⟨o10,h11,h⟩:=zB h
 refine zO (fun (s:List (List Int)×Int)=>⟨[(2,.loc 2 1 0 0),(9,.own 36 1 0 s.1.length),(25,.p (.slc (vhj (vk2 .u64) r7.1))),(26,.p (.int .i64 (r7.1.length:Int))),(27,.p (.int .i64 s.2))],[(2,.arr 28 2 1 [.p (qaa h1)]),(36,.arr 25 1 1 (vhj AV.p (vhj (qc1 (vk2 .i64)) s.1)))]⟩) (fun (o12:List (List Int))=>tE (cX Tryz.f6 X w D hT) (.exit 0) ⟨[(9,.own 36 1 0 o12.length)],[(36,.arr 25 1 1 (vhj AV.p (vhj (qc1 (vk2 .i64)) o12)))]⟩) h11 ?_ ?_
 clear h h5 h6 h8 h9 h11
 intro s x h
 obtain ⟨o13,t14⟩:=s
 simp only [qd4] at h
 dsimp only
 refine zs<|zr ?_
 refine zU<|zl<|zn<|zs ?_
 obtain ⟨h15,h⟩|⟨h15,h⟩:=zI h
 refine zi<|zk<|zn<|zs<|zb<|zs<|zr ?_
 obtain ⟨x16,h17,h17a,h17b,h⟩:=zX h
 refine zU<|zl<|zn<|zr ?_
 refine zU ?_
 obtain ⟨r18,h19,h⟩:=zB h
 refine zc (qic h1 x16 _ h19) ?_
 obtain ⟨h20,h⟩:=qa1 h
 refine zU<|zl<|yn<|zn<|zr ?_
 refine zU<|zl ?_
 cases h
 exact ⟨rfl,zE⟩
 refine zj<|zx<|ze ?_
 cases h
 exact ⟨rfl,zE⟩
 try simp only at h
 refine zA<|yh<|zn<|zs<|zr ?_
 refine zU<|zl<|zn<|zq ?_
 cases h
 exact zT results6
 refine zi<|zs<|zr ?_
 refine zU<|zl<|zn<|zq<|zt ?_
 cases h
 exact zT results6
theorem qiu {D:Prop} (l:List Int) (r:List Int) (h:qc7 l=some r):Con D Tryz.prog 40 [(.slc (vhj (vk2 .i64) l))] (.slc (vhj (vk2 .i64) r)):=by
  obtain ⟨hc,h⟩:=qa1 h
  cases h
  refine ⟨call40,?_⟩
  refine qob func40 rfl ntmps40 (by simp) fun X w hT=>?_
  show AWp _ _ _ ⟨[(0,.p (.slc (vhj (vk2 .i64) l)))],[]⟩
  refine qik ?_
  refine qgl ?_
  refine qrt (by exact rfl) (by simp only [go_sem,seval];exact rfl) ?_
  refine qqh ?_
  refine qod ?_
  refine qik ?_
  refine qik ?_
  refine qgl ?_
  refine q1q 1 (by simp only [go_sem,seval];exact rfl) ?_
  refine q4x (by simp only [go_sem,seval];exact rfl) (by simp only [go_sem,seval]) underlying25 rfl ?_
  intro b hb
  refine qqh ?_
  refine qod ?_
  cases b
  · refine q68 (by simp only [go_sem,seval]) ?_
    refine qri ?_
    refine qod ?_
    refine qik ?_
    refine qgl ?_
    refine qrt (by exact rfl) (by simp only [go_sem,seval,hc];exact rfl) ?_
    refine qqh ?_
    refine qod ?_
    refine qrj ?_
    refine qru (by simp only [results40];simp only [go_sem,seval];exact rfl) ?_
    simp only [go_sem,seval]
    all_goals ((repeat' refine vkz ?_ ?_) <;> first | rfl | (simp;done) | (simp;rfl) | (simp [*];done) | (simp [*];rfl))
  · refine q67 (by simp only [go_sem,seval]) ?_
    have hl:l=[]:=by
      cases l with
      | nil=>rfl
      | cons x l=>exact absurd (hb (by simp)) (by simp)
    subst hl
    refine qik ?_
    refine qgl ?_
    refine qrt (by exact rfl) (by simp only [go_sem,seval];exact rfl) ?_
    refine qqh ?_
    refine qod ?_
    refine qrj ?_
    refine q03 ?_
    refine qru (by simp only [results40];simp only [go_sem,seval];exact rfl) ?_
    simp only [go_sem,seval]
    all_goals ((repeat' refine vkz ?_ ?_) <;> first | rfl | (simp;done) | (simp;rfl) | (simp [*];done) | (simp [*];rfl))
theorem qch {D:Prop} (i1:Int) (c2:List Int) (r3:Int) (h:qaw i1 c2=some r3):Con D Tryz.prog 114 [(.int .i64 i1),.imm [.slc (vhj (vk2 .i64) c2)]] (.int .i64 r3):=by
 refine zP call114 func114 rfl ntmps114 fun X w hT=>?_
 simp only [qaw] at h
 refine zs<|zr ?_
 refine zU<|zl<|zn<|zs<|zb ?_
 obtain ⟨i4,h5,h⟩:=zB h
 refine zO (fun (s:Int)=>⟨[(0,.p (.int .i64 s)),(1,.p (.imm [.slc (vhj (vk2 .i64) c2)]))],[]⟩) (fun (o6:Int)=>tE (cX Tryz.f114 X w D hT) (.exit 0) ⟨[(0,.p (.int .i64 o6))],[]⟩) h5 ?_ ?_
 clear h h5
 intro i7 x h
 simp only [qbu] at h
 refine zs<|zs<|zr ?_
 obtain ⟨x8,h9,h9a,h9b,h⟩:=zX h
 refine zU<|zl<|zn ?_
 obtain ⟨h10,h⟩|⟨h10,h⟩:=zI h
 refine zi<|zk<|zn<|zb<|zr ?_
 refine zU<|zl<|yn ?_
 cases h
 exact ⟨rfl,zE⟩
 refine zj<|zx<|ze ?_
 cases h
 exact ⟨rfl,zE⟩
 try simp only at h
 refine zA<|yh<|zn<|zs<|zr ?_
 refine zU<|zl<|zn<|zq ?_
 cases h
 exact zT results114
theorem qdc {D:Prop} (v1:Int) (c2:Hypergraph) (r3:Int) (h:qa9 v1 c2=some r3):Con D Tryz.prog 115 [(.int .i64 v1),.imm [.slc (vhj (vk2 .i64) c2.Vertices),.slc (vhj (qc1 (vk2 .i64)) c2.Edges)]] (.int .i64 r3):=by
 refine zP call115 func115 rfl ntmps115 fun X w hT=>?_
 simp only [qa9] at h
 refine zs<|zr ?_
 refine zU<|zl<|zn<|zs<|zr ?_
 refine zU ?_
 obtain ⟨r4,h5,h⟩:=zB h
 refine zc (qco c2.Vertices v1 _ h5) ?_
 refine zU<|zl<|zn<|zs<|zr ?_
 refine zU<|zl<|zn<|zq ?_
 cases h
 exact zT results115
theorem qfl {D:Prop} (h3:Hypergraph) (r4:List Hypergraph) (h:qba h3=some r4):Con D Tryz.prog 62 [(qaa h3)] (.slc (vhj qaa r4)):=by
 refine zP call62 func62 rfl ntmps62 fun X w hT=>?_
 simp only [qba] at h
 refine zs<|zr ?_
 refine zU<|zl<|zn<|zs<|zr ?_
 obtain ⟨h5,h⟩:=qa1 h
 obtain ⟨h6,h⟩:=qa1 h
 refine zU<|zl<|zn<|zs<|zs<|zr ?_
 refine zU<|zl<|zn<|zb ?_
 obtain ⟨p7,h8,h⟩:=zB h
 refine zO (fun (s:List Int×Int)=>⟨[(1,.loc 1 1 0 0),(3,.loc 3 1 0 0),(29,.p (.int .i64 ((h3.Vertices.length:Nat):Int))),(30,.p (.int .i64 s.2))],[(1,.arr 28 2 1 [.p (qaa h3)]),(3,.arr 77 1 1 [.own 27 1 0 s.1.length]),(27,.arr 3 1 1 (vhj AV.p (vhj (vk2 .i64) s.1)))]⟩) (fun (o9:List Int)=>tE (cX Tryz.f62 X w D hT) (.exit 0) ⟨[(1,.loc 1 1 0 0),(3,.loc 3 1 0 0)],[(1,.arr 28 2 1 [.p (qaa h3)]),(3,.arr 77 1 1 [.own 27 1 0 o9.length]),(27,.arr 3 1 1 (vhj AV.p (vhj (vk2 .i64) o9)))]⟩) h8 ?_ ?_
 clear h h5 h6 h8
 intro s x h
 obtain ⟨p10,t11⟩:=s
 simp only [qbj] at h
 dsimp only
 refine zs<|zr ?_
 refine zU<|zl<|zn<|zs ?_
 obtain ⟨h12,h⟩|⟨h12,h⟩:=zI h
 refine zi<|zk<|zn<|zs<|zb<|zs<|zr ?_
 refine zU<|zl<|zn<|zr ?_
 obtain ⟨x13,h14,h14a,h14b,h⟩:=zX h
 refine zU<|zl<|yn<|zn<|zr ?_
 refine zU<|zl ?_
 cases h
 exact ⟨rfl,zE⟩
 refine zj<|zx<|ze ?_
 cases h
 exact ⟨rfl,zE⟩
 try simp only at h
 refine zA<|yh<|zn<|zs<|zr ?_
 refine zU<|zl<|zn<|zs<|zr ?_
 refine zU<|zl<|zn<|zs<|zs<|zr ?_
 refine zU<|zl<|zn<|zb ?_
 obtain ⟨p15,h16,h⟩:=zB h
 refine zO (fun (s:List Int×Int)=>⟨[(1,.loc 1 1 0 0),(3,.loc 3 1 0 0),(5,.func (.func 114) [.loc 3 1 0 0]),(6,.func (.func 115) [.loc 1 1 0 0]),(41,.p (.slc (vhj (qc1 (vk2 .i64)) h3.Edges))),(42,.p (.int .i64 (h3.Edges.length:Int))),(43,.p (.int .i64 s.2))],[(1,.arr 28 2 1 [.p (qaa h3)]),(3,.arr 77 1 1 [.own 27 1 0 s.1.length]),(27,.arr 3 1 1 (vhj AV.p (vhj (vk2 .i64) s.1)))]⟩) (fun (o17:List Int)=>tE (cX Tryz.f62 X w D hT) (.exit 2) ⟨[(1,.loc 1 1 0 0),(5,.func (.func 114) [.loc 3 1 0 0]),(6,.func (.func 115) [.loc 1 1 0 0])],[(1,.arr 28 2 1 [.p (qaa h3)]),(3,.arr 77 1 1 [.own 27 1 0 o17.length]),(27,.arr 3 1 1 (vhj AV.p (vhj (vk2 .i64) o17)))]⟩) h16 ?_ ?_
 clear h h5 h6 h8 h16
 intro s x h
 obtain ⟨p18,t19⟩:=s
 simp only [qbl] at h
 dsimp only
 refine zs<|zr ?_
 refine zU<|zl<|zn<|zs ?_
 obtain ⟨h20,h⟩|⟨h20,h⟩:=zI h
 refine zi<|zk<|zn<|zs<|zb<|zs<|zr ?_
 obtain ⟨x21,h22,h22a,h22b,h⟩:=zX h
 refine zU<|zl<|zn<|zs<|zr ?_
 obtain ⟨h23,h⟩:=qa1 h
 refine zU<|zl<|zn<|zb ?_
 obtain ⟨p24,h25,h⟩:=zB h
 refine zO (fun (s:List Int×Int)=>⟨[(1,.loc 1 1 0 0),(3,.loc 3 1 0 0),(5,.func (.func 114) [.loc 3 1 0 0]),(6,.func (.func 115) [.loc 1 1 0 0]),(8,.p (.slc (vhj (vk2 .i64) x21))),(41,.p (.slc (vhj (qc1 (vk2 .i64)) h3.Edges))),(42,.p (.int .i64 (h3.Edges.length:Int))),(43,.p (.int .i64 t19)),(48,.p (.slc (vhj (vk2 .i64) ((x21.drop 1).take (x21.length - 1))))),(49,.p (.int .i64 (((x21.drop 1).take (x21.length - 1)).length:Int))),(50,.p (.int .i64 s.2))],[(1,.arr 28 2 1 [.p (qaa h3)]),(3,.arr 77 1 1 [.own 27 1 0 s.1.length]),(27,.arr 3 1 1 (vhj AV.p (vhj (vk2 .i64) s.1)))]⟩) (fun (o26:List Int)=>tE (cX Tryz.f62 X w D hT) (.exit 4) ⟨[(1,.loc 1 1 0 0),(3,.loc 3 1 0 0),(5,.func (.func 114) [.loc 3 1 0 0]),(6,.func (.func 115) [.loc 1 1 0 0]),(41,.p (.slc (vhj (qc1 (vk2 .i64)) h3.Edges))),(42,.p (.int .i64 (h3.Edges.length:Int))),(43,.p (.int .i64 t19))],[(1,.arr 28 2 1 [.p (qaa h3)]),(3,.arr 77 1 1 [.own 27 1 0 o26.length]),(27,.arr 3 1 1 (vhj AV.p (vhj (vk2 .i64) o26)))]⟩) h25 ?_ ?_
 clear h h20 h22 h22a h22b h23 h25
 intro s x h
 obtain ⟨p27,t28⟩:=s
 simp only [qbk] at h
 dsimp only
 refine zs<|zr ?_
 refine zU<|zl<|zn<|zs ?_
 obtain ⟨h29,h⟩|⟨h29,h⟩:=zI h
 refine zi<|zk<|zn<|zs<|zb<|zs<|zr ?_
 obtain ⟨x30,h31,h31a,h31b,h⟩:=zX h
 refine zU<|zl<|zn<|zs<|zr ?_
 obtain ⟨x32,h33,h33l,h33L,h⟩:=zY 0 h
 refine zU ?_
 obtain ⟨r34,h35,h⟩:=zB h
 refine zc (qdc x32 h3 _ h35) ?_
 obtain ⟨r36,h37,h⟩:=zB h
 refine zc (qch r34 p27 _ h37) ?_
 refine zU ?_
 obtain ⟨r38,h39,h⟩:=zB h
 refine zc (qdc x30 h3 _ h39) ?_
 obtain ⟨r40,h41,h⟩:=zB h
 refine zc (qch r38 p27 _ h41) ?_
 refine zU<|zl<|zn<|zr ?_
 obtain ⟨x42,h43,h43a,h43b,h⟩:=zX h
 refine zU<|zl<|yn<|zn<|zr ?_
 refine zU<|zl ?_
 cases h
 exact ⟨rfl,zE⟩
 refine zj<|zx<|ze ?_
 cases h
 exact ⟨rfl,zE⟩
 try simp only at h
 refine zA<|yh<|yn<|zn<|zr ?_
 refine zU<|zl ?_
 cases h
 exact ⟨rfl,zE⟩
 refine zj<|zx<|ze ?_
 cases h
 exact ⟨rfl,zE⟩
 try simp only at h
 refine zA<|yh<|zn<|zs<|zr ?_
 refine zU<|zl<|zn<|zs<|zr ?_
 refine zU<|zl<|zn<|zs<|zs<|zr ?_
 refine zU<|zl<|zn<|zb ?_
 obtain ⟨o44,h45,h⟩:=zB h
 refine zO (fun (s:List (List Int)×(List (Int×Int))×Int)=>⟨[(1,.loc 1 1 0 0),(5,.func (.func 114) [.loc 3 1 0 0]),(6,.func (.func 115) [.loc 1 1 0 0]),(13,.own 103 1 0 s.1.length),(14,.mapo 76 1),(78,.p (.slc (vhj (vk2 .i64) h3.Vertices))),(79,.p (.int .i64 (h3.Vertices.length:Int))),(80,.p (.int .i64 s.2.2))],((1,.arr 28 2 1 [.p (qaa h3)]) :: (3,.arr 77 1 1 [.own 27 1 0 p15.length]) :: (27,.arr 3 1 1 (vhj AV.p (vhj (vk2 .i64) p15))) :: (76,.map 1 (vhj AV.p (qpn (vk2 .i64) s.2.1)) (vhj AV.p (qqp (vk2 .i64) s.2.1))) :: (103,.arr 28 2 1 (qjd 103 2 1 1 (vk2 .i64) s.1)) :: qnk 103 2 1 1 (vk2 .i64) s.1 [])⟩) (fun (o46:List (List Int)×(List (Int×Int)))=>tE (cX Tryz.f62 X w D hT) (.exit 6) ⟨[(1,.loc 1 1 0 0),(5,.func (.func 114) [.loc 3 1 0 0]),(6,.func (.func 115) [.loc 1 1 0 0]),(13,.own 103 1 0 o46.1.length),(14,.mapo 76 1)],((1,.arr 28 2 1 [.p (qaa h3)]) :: (3,.arr 77 1 1 [.own 27 1 0 p15.length]) :: (27,.arr 3 1 1 (vhj AV.p (vhj (vk2 .i64) p15))) :: (76,.map 1 (vhj AV.p (qpn (vk2 .i64) o46.2)) (vhj AV.p (qqp (vk2 .i64) o46.2))) :: (103,.arr 28 2 1 (qjd 103 2 1 1 (vk2 .i64) o46.1)) :: qnk 103 2 1 1 (vk2 .i64) o46.1 [])⟩) h45 ?_ ?_
 clear h h5 h6 h8 h16 h45
 intro s x h
 obtain ⟨o47,i48,t49⟩:=s
 simp only [qa4] at h
 dsimp only
 refine zs<|zr ?_
 refine zU<|zl<|zn<|zs ?_
 obtain ⟨h50,h⟩|⟨h50,h⟩:=zI h
 refine zi<|zk<|zn<|zs<|zb<|zs<|zr ?_
 obtain ⟨x51,h52,h52a,h52b,h⟩:=zX h
 refine zU<|zl<|zn<|zs<|zr ?_
 refine zU ?_
 obtain ⟨r53,h54,h⟩:=zB h
 refine zc (qch t49 p15 _ h54) ?_
 refine zU<|zl<|zn<|zs<|zs<|zr ?_
 refine zU<|zl<|zn<|zs<|zr ?_
 refine zU<|zl<|zn ?_
 obtain ⟨h55,h⟩|⟨h55,h⟩:=zI h
 refine zj<|zk<|zn<|zs<|zr ?_
 obtain ⟨x56,h57,h57a,h57b,h⟩:=zX h
 refine zU<|zl<|zn<|zr ?_
 obtain ⟨h58,h⟩:=qa1 h
 refine zW 11 ?_
 refine zM ⟨[(1,.loc 1 1 0 0),(5,.func (.func 114) [.loc 3 1 0 0]),(6,.func (.func 115) [.loc 1 1 0 0]),(13,.own 103 1 0 ((o47.set (((qk2 i48 r53).getD 0).toNat) (x56++[x51]))).length),(14,.mapo 76 1),(78,.p (.slc (vhj (vk2 .i64) h3.Vertices))),(79,.p (.int .i64 (h3.Vertices.length:Int))),(80,.p (.int .i64 t49))],((1,.arr 28 2 1 [.p (qaa h3)]) :: (3,.arr 77 1 1 [.own 27 1 0 p15.length]) :: (27,.arr 3 1 1 (vhj AV.p (vhj (vk2 .i64) p15))) :: (76,.map 1 (vhj AV.p (qpn (vk2 .i64) i48)) (vhj AV.p (qqp (vk2 .i64) i48))) :: (103,.arr 28 2 1 (qjd 103 2 1 1 (vk2 .i64) (o47.set (((qk2 i48 r53).getD 0).toNat) (x56++[x51])))) :: qnk 103 2 1 1 (vk2 .i64) (o47.set (((qk2 i48 r53).getD 0).toNat) (x56++[x51])) [])⟩ ?_
 refine zl<|yn<|zn<|zr ?_
 refine zU<|zl ?_
 cases h
 exact ⟨rfl,zE⟩
 refine zi<|zs<|zr ?_
 refine zU<|zl<|zn<|zr ?_
 obtain ⟨h59,h⟩:=qa1 h
 refine zW 4 ?_
 refine zM ⟨[(1,.loc 1 1 0 0),(5,.func (.func 114) [.loc 3 1 0 0]),(6,.func (.func 115) [.loc 1 1 0 0]),(14,.mapo 76 1),(16,.p (.int .i64 x51)),(17,.p (.int .i64 r53)),(78,.p (.slc (vhj (vk2 .i64) h3.Vertices))),(79,.p (.int .i64 (h3.Vertices.length:Int))),(80,.p (.int .i64 t49)),(103,.own 103 1 0 (o47.length+1))],((1,.arr 28 2 1 [.p (qaa h3)]) :: (3,.arr 77 1 1 [.own 27 1 0 p15.length]) :: (27,.arr 3 1 1 (vhj AV.p (vhj (vk2 .i64) p15))) :: (76,.map 1 (vhj AV.p (qpn (vk2 .i64) (qp0 i48 r53 ((o47.length:Nat):Int)))) (vhj AV.p (qqp (vk2 .i64) (qp0 i48 r53 ((o47.length:Nat):Int))))) :: (103,.arr 28 2 1 (qjd 103 2 1 1 (vk2 .i64) (o47++[([]:List Int)]))) :: qnk 103 2 1 1 (vk2 .i64) (o47++[([]:List Int)]) [])⟩ ?_
 refine zU<|zl<|zn<|zs<|zr ?_
 obtain ⟨x60,h61,h61a,h61b,h⟩:=zX h
 have hx_2220C:=h61b
 simp only [List.length_append,vfg,List.length_cons,List.length_nil,Nat.zero_add] at hx_2220C
 refine zU<|zl<|zn<|zr ?_
 obtain ⟨h62,h⟩:=qa1 h
 refine zW 11 ?_
 refine zM ⟨[(1,.loc 1 1 0 0),(5,.func (.func 114) [.loc 3 1 0 0]),(6,.func (.func 115) [.loc 1 1 0 0]),(13,.own 103 1 0 (((o47++[([]:List Int)]).set (((qk2 (qp0 i48 r53 ((o47.length:Nat):Int)) r53).getD 0).toNat) (x60++[x51]))).length),(14,.mapo 76 1),(78,.p (.slc (vhj (vk2 .i64) h3.Vertices))),(79,.p (.int .i64 (h3.Vertices.length:Int))),(80,.p (.int .i64 t49))],((1,.arr 28 2 1 [.p (qaa h3)]) :: (3,.arr 77 1 1 [.own 27 1 0 p15.length]) :: (27,.arr 3 1 1 (vhj AV.p (vhj (vk2 .i64) p15))) :: (76,.map 1 (vhj AV.p (qpn (vk2 .i64) (qp0 i48 r53 ((o47.length:Nat):Int)))) (vhj AV.p (qqp (vk2 .i64) (qp0 i48 r53 ((o47.length:Nat):Int))))) :: (103,.arr 28 2 1 (qjd 103 2 1 1 (vk2 .i64) ((o47++[([]:List Int)]).set (((qk2 (qp0 i48 r53 ((o47.length:Nat):Int)) r53).getD 0).toNat) (x60++[x51])))) :: qnk 103 2 1 1 (vk2 .i64) ((o47++[([]:List Int)]).set (((qk2 (qp0 i48 r53 ((o47.length:Nat):Int)) r53).getD 0).toNat) (x60++[x51])) [])⟩ ?_
 refine zl<|yn<|zn<|zr ?_
 refine zU<|zl ?_
 cases h
 exact ⟨rfl,zE⟩
 refine zj<|zx<|ze ?_
 cases h
 exact ⟨rfl,zE⟩
 obtain ⟨o63,i65⟩:=o44
 try simp only at h
 refine zA<|yh<|zn<|zs<|zs<|zr ?_
 refine zU<|zl<|zn<|zb ?_
 refine zL ⟨[(5,.func (.func 114) [.loc 3 1 0 0]),(6,.func (.func 115) [.loc 1 1 0 0]),(13,.own 103 1 0 o63.length),(14,.mapo 76 1),(121,.p (.slc (vhj (qc1 (vk2 .i64)) h3.Edges))),(122,.p (.int .i64 (h3.Edges.length:Int))),(123,.p (.int .i64 0))],[(1,.arr 28 2 1 [.p (qaa h3)]),(3,.arr 77 1 1 [.own 27 1 0 p15.length]),(27,.arr 3 1 1 (vhj AV.p (vhj (vk2 .i64) p15))),(76,.map 1 (vhj AV.p (qpn (vk2 .i64) i65)) (vhj AV.p (qqp (vk2 .i64) i65))),(103,.arr 28 2 1 (vah (vk2 .i64) o63))]⟩ ?_
 refine zL ⟨[(5,.func (.func 114) [.loc 3 1 0 0]),(6,.func (.func 115) [.loc 1 1 0 0]),(13,.own 103 1 0 o63.length),(14,.mapo 76 1),(121,.p (.slc (vhj (qc1 (vk2 .i64)) h3.Edges))),(122,.p (.int .i64 (h3.Edges.length:Int))),(123,.p (.int .i64 0))],((1,.arr 28 2 1 [.p (qaa h3)]) :: (3,.arr 77 1 1 [.own 27 1 0 p15.length]) :: (27,.arr 3 1 1 (vhj AV.p (vhj (vk2 .i64) p15))) :: (76,.map 1 (vhj AV.p (qpn (vk2 .i64) i65)) (vhj AV.p (qqp (vk2 .i64) i65))) :: (103,.arr 28 2 1 (qkr 103 25 1 1 (qc1 (vk2 .i64)) (vk2 .i64) o63 (List.replicate o63.length ([]:List (List Int))))) :: qnk 103 25 1 1 (qc1 (vk2 .i64)) (List.replicate o63.length ([]:List (List Int))) [])⟩ ?_
 obtain ⟨l66,h67,h⟩:=zB h
 replace h67:=vih h67
 refine q02 (st':=⟨[(5,.func (.func 114) [.loc 3 1 0 0]),(6,.func (.func 115) [.loc 1 1 0 0]),(13,.own 103 1 0 l66.length),(14,.mapo 76 1),(121,.p (.slc (vhj (qc1 (vk2 .i64)) h3.Edges))),(122,.p (.int .i64 (h3.Edges.length:Int))),(123,.p (.int .i64 0))],((1,.arr 28 2 1 [.p (qaa h3)]) :: (3,.arr 77 1 1 [.own 27 1 0 p15.length]) :: (27,.arr 3 1 1 (vhj AV.p (vhj (vk2 .i64) p15))) :: (76,.map 1 (vhj AV.p (qpn (vk2 .i64) i65)) (vhj AV.p (qqp (vk2 .i64) i65))) :: (103,.arr 28 2 1 (qkr 103 25 1 1 (qc1 (vk2 .i64)) (vk2 .i64) o63 l66)) :: qnk 103 25 1 1 (qc1 (vk2 .i64)) l66 [])⟩) (by simp only [go_sem,seval,←h67];all_goals ((repeat' refine vkz ?_ ?_) <;> first | rfl | (simp;done) | (simp;rfl) | (simp [*];done) | (simp [*];rfl))) ?_
 clear h67
 obtain ⟨o68,h69,h⟩:=zB h
 refine zO (fun (s:List (List (List Int))×Int)=>⟨[(5,.func (.func 114) [.loc 3 1 0 0]),(6,.func (.func 115) [.loc 1 1 0 0]),(13,.own 103 1 0 s.1.length),(14,.mapo 76 1),(121,.p (.slc (vhj (qc1 (vk2 .i64)) h3.Edges))),(122,.p (.int .i64 (h3.Edges.length:Int))),(123,.p (.int .i64 s.2))],((1,.arr 28 2 1 [.p (qaa h3)]) :: (3,.arr 77 1 1 [.own 27 1 0 p15.length]) :: (27,.arr 3 1 1 (vhj AV.p (vhj (vk2 .i64) p15))) :: (76,.map 1 (vhj AV.p (qpn (vk2 .i64) i65)) (vhj AV.p (qqp (vk2 .i64) i65))) :: (103,.arr 28 2 1 (qkr 103 25 1 1 (qc1 (vk2 .i64)) (vk2 .i64) o63 s.1)) :: qnk 103 25 1 1 (qc1 (vk2 .i64)) s.1 [])⟩) (fun (o70:List (List (List Int)))=>tE (cX Tryz.f62 X w D hT) (.exit 8) ⟨[(13,.own 103 1 0 o70.length)],((103,.arr 28 2 1 (qkr 103 25 1 1 (qc1 (vk2 .i64)) (vk2 .i64) o63 o70)) :: qnk 103 25 1 1 (qc1 (vk2 .i64)) o70 [])⟩) h69 ?_ ?_
 clear h h5 h6 h8 h16 h45 h69
 intro s x h
 obtain ⟨o71,t72⟩:=s
 simp only [qbm] at h
 dsimp only
 refine zs<|zr ?_
 refine zU<|zl<|zn<|zs ?_
 obtain ⟨h73,h⟩|⟨h73,h⟩:=zI h
 refine zi<|zk<|zn<|zs<|zb<|zs<|zr ?_
 obtain ⟨x74,h75,h75a,h75b,h⟩:=zX h
 refine zU<|zl<|zn<|zs<|zr ?_
 obtain ⟨x76,h77,h77l,h77L,h⟩:=zY 0 h
 refine zU ?_
 obtain ⟨r78,h79,h⟩:=zB h
 refine zc (qdc x76 h3 _ h79) ?_
 obtain ⟨r80,h81,h⟩:=zB h
 refine zc (qch r78 p15 _ h81) ?_
 obtain ⟨x82,h83,h83a,h83b,h⟩:=zX h
 refine zU<|zl<|zn<|zd ?_
 refine yU ?_
 obtain ⟨r84,h85,h⟩:=zB h
 refine yc (qiu x74 _ h85) ?_
 obtain ⟨h86,h⟩:=qa1 h
 refine yU ?_
 refine ydS ?_
 refine yn<|zn ?_
 refine zL ⟨[(5,.func (.func 114) [.loc 3 1 0 0]),(6,.func (.func 115) [.loc 1 1 0 0]),(13,.own 103 1 0 ((o71.set (((qk2 i65 r80).getD 0).toNat) (x82++[r84]))).length),(14,.mapo 76 1),(121,.p (.slc (vhj (qc1 (vk2 .i64)) h3.Edges))),(122,.p (.int .i64 (h3.Edges.length:Int))),(123,.p (.int .i64 t72))],((1,.arr 28 2 1 [.p (qaa h3)]) :: (3,.arr 77 1 1 [.own 27 1 0 p15.length]) :: (27,.arr 3 1 1 (vhj AV.p (vhj (vk2 .i64) p15))) :: (76,.map 1 (vhj AV.p (qpn (vk2 .i64) i65)) (vhj AV.p (qqp (vk2 .i64) i65))) :: (103,.arr 28 2 1 (qkr 103 25 1 1 (qc1 (vk2 .i64)) (vk2 .i64) o63 (o71.set (((qk2 i65 r80).getD 0).toNat) (x82++[r84])))) :: qnk 103 25 1 1 (qc1 (vk2 .i64)) (o71.set (((qk2 i65 r80).getD 0).toNat) (x82++[r84])) [])⟩ ?_
 refine zr ?_
 refine zU<|zl ?_
 cases h
 exact ⟨rfl,zE⟩
 refine zj<|zx<|ze ?_
 cases h
 exact ⟨rfl,zE⟩
 try simp only at h
 refine zA<|yh<|zn<|zs<|zr ?_
 refine zU<|zl<|zn ?_
 obtain ⟨h87,h⟩:=qa1 h
 have h88:=fun (h h':List (Nat×AO)) (f e sz G:Nat) h1 h2=>qp4 (h:=h) (h':=h') (f:=f) (e:=e) (sz:=sz) (G:=G) (enc:=(qc1 (vk2 .i64))) (encV:=(vk2 .i64)) qaa Hypergraph.mk (fun _ _=>rfl) h87 h1 h2
 refine zL ⟨[(2,.own 103 1 0 ((List.zipWith Hypergraph.mk o63 o68)).length)],[(103,.arr 28 2 1 (vhj AV.p (vhj qaa (List.zipWith Hypergraph.mk o63 o68))))]⟩ ?_
 refine zq ?_
 cases h
 exact zT results62
theorem qk0 {D:Prop} (h1:Hypergraph) (r2:List Hypergraph×List (List Int)×Int×Int) (h:qff h1=some r2):Con D Tryz.prog 25 [(qaa h1)] (.tup [(.slc (vhj qaa r2.1)),(.slc (vhj (qc1 (vk2 .u64)) r2.2.1)),(.int .i64 r2.2.2.1),(.int .i64 r2.2.2.2)]):=by
 refine zP call25 func25 rfl ntmps25 fun X w hT=>?_
 simp only [qff] at h
 refine zs<|zr ?_
 refine zU<|zl<|zn<|zs<|zr ?_
 refine zU ?_
 obtain ⟨r3,h4,h⟩:=zB h
 refine zc (qfl h1 _ h4) ?_
 refine zU<|zl<|zn<|zs<|zr ?_
 refine zU<|zl<|zn<|zs<|zr ?_
 refine zU<|zl<|zn<|zs<|zs<|zr ?_
 refine zU<|zl<|zn<|zb ?_
 obtain ⟨o5,h6,h⟩:=zB h
 refine zO (fun (s:List (List Int)×Int×Int)=>⟨[(6,.p (.slc (vhj qaa r3))),(7,.own 31 1 0 s.1.length),(8,.p (.int .i64 s.2.1)),(15,.p (.slc (vhj qaa r3))),(16,.p (.int .i64 (r3.length:Int))),(17,.p (.int .i64 s.2.2))],[(31,.arr 93 1 1 (vhj AV.p (vhj (qc1 (vk2 .u64)) s.1)))]⟩) (fun (o:(List (List Int)×Int) ⊕ (List Hypergraph×List (List Int)×Int×Int))=>match o with | .inl o7=>tE (cX Tryz.f25 X w D hT) (.exit 0) ⟨[(6,.p (.slc (vhj qaa r3))),(7,.own 31 1 0 o7.1.length),(8,.p (.int .i64 o7.2))],[(31,.arr 93 1 1 (vhj AV.p (vhj (qc1 (vk2 .u64)) o7.1)))]⟩ | .inr o8=>tR Tryz.prog Tryz.f25 (.tup [(.slc (vhj qaa o8.1)),(.slc (vhj (qc1 (vk2 .u64)) o8.2.1)),(.int .i64 o8.2.2.1),(.int .i64 o8.2.2.2)])) h6 ?_ ?_
 clear h h4 h6
 intro s x h
 obtain ⟨l9,t10,t11⟩:=s
 simp only [qcm] at h
 dsimp only
 refine zs<|zr ?_
 refine zU<|zl<|zn<|zs ?_
 obtain ⟨h12,h⟩|⟨h12,h⟩:=zI h
 refine zi<|zk<|zn<|zs<|zb<|zs<|zr ?_
 obtain ⟨x13,h14,h14a,h14b,h⟩:=zX h
 refine zU<|zl<|zn<|zs<|zr ?_
 refine zU ?_
 obtain ⟨r15,h16,h⟩:=zB h
 refine zc (qfk x13 100000 _ h16) ?_
 refine zU<|zl<|zn<|zs<|zs<|zr ?_
 refine zU<|zl<|zn ?_
 obtain ⟨h17,h⟩|⟨h17,h⟩:=zI h
 refine zj<|zk<|zn<|zs<|zr ?_
 obtain ⟨h18,h⟩:=qa1 h
 refine zU<|zl<|zn<|zs<|zr ?_
 refine zU<|zl<|zn<|zs<|zr ?_
 refine zU<|zl<|zn ?_
 obtain ⟨h19,h⟩|⟨h19,h⟩:=zI h
 refine zi<|zs<|zr ?_
 refine zU<|zl<|zn<|zq<|yr<|zt ?_
 cases h
 exact ⟨rfl,zT results25⟩
 refine zj<|zk<|yn<|zn<|zr ?_
 refine zU<|zl ?_
 cases h
 exact ⟨rfl,zE⟩
 refine zi<|zs<|zr ?_
 refine zU<|zl<|zn<|zq<|zt<|yr<|zt ?_
 cases h
 exact ⟨rfl,zT results25⟩
 refine zj<|zx<|ze ?_
 cases h
 exact ⟨rfl,zE⟩
 rcases o5 with ⟨l20,t21⟩ | r22
 try simp only at h
 refine zA<|yh<|zn<|zs<|zr ?_
 refine zU<|zl<|zn<|zq ?_
 cases h
 exact zT results25
 try simp only at h
 refine zZ fun s hq=>?_
 refine yr<|zt ?_
 cases h
 exact hq
theorem qk1 {D:Prop} (h1:Hypergraph) (r2:Int×Int) (h:qej h1=some r2):Con D Tryz.prog 7 [(qaa h1)] (.tup [(.int .i64 r2.1),(.int .i64 r2.2)]):=by
 refine zP call7 func7 rfl ntmps7 fun X w hT=>?_
 simp only [qej] at h
 refine zs<|zr ?_
 refine zU<|zl<|zn<|zs<|zs<|zr ?_
 refine zU ?_
 obtain ⟨r3,h4,h⟩:=zB h
 refine zc (qcz h1 _ h4) ?_
 refine zU<|zl<|zn<|zs<|zr ?_
 refine zU<|zl<|zn ?_
 obtain ⟨h5,h⟩|⟨h5,h⟩:=zI h
 refine zi<|zs<|zr ?_
 refine zU<|zl<|zn<|zq<|zt ?_
 cases h
 exact zT results7
 refine zj<|zk<|zn<|zs<|zr ?_
 refine zU ?_
 obtain ⟨r6,h7,h⟩:=zB h
 refine zc (qk0 h1 _ h7) ?_
 refine zU<|zl<|zn<|zs<|zr ?_
 refine zU<|zl<|zn<|zq ?_
 cases h
 exact zT results7
theorem qci {D:Prop} (s1:List Int) (v2:Int) (r3:Bool) (h:qax s1 v2=some r3):Con D Tryz.prog 27 [(.slc (vhj (vk2 .i64) s1)),(.int .i64 v2)] (.bool r3):=by
 refine zP call27 func27 rfl ntmps27 fun X w hT=>?_
 simp only [qax] at h
 refine zs<|zr ?_
 refine zU<|zl<|zn<|zs<|zr ?_
 refine zU ?_
 obtain ⟨r4,h5,h⟩:=zB h
 refine zc (qc0 s1 v2 _ h5) ?_
 refine zU<|zl<|zn<|zq ?_
 cases h
 exact zT results27
theorem qiv {D:Prop} (e1:List Int) (c2:Int) (r3:Bool) (h:qbz e1 c2=some r3):Con D Tryz.prog 26 [(.slc (vhj (vk2 .i64) e1)),.imm [.int .i64 c2]] (.bool r3):=by
 refine zP call26 func26 rfl ntmps26 fun X w hT=>?_
 simp only [qbz] at h
 refine zs<|zr ?_
 refine zU<|zl<|zn<|zs<|zr ?_
 refine zU ?_
 obtain ⟨r4,h5,h⟩:=zB h
 refine zc (qci e1 c2 _ h5) ?_
 refine zU<|zl<|zn<|zq ?_
 cases h
 exact zT results26
theorem qg5 {D:Prop} (s1:List (List Int)) (f2:(List Int)→Option (Bool)) (f2_k:FuncId) (f2_cs:List PV) (f2_h:∀(y3:List Int) (r4:Bool),f2 y3=some r4→Con D Tryz.prog f2_k ((.slc (vhj (vk2 .i64) y3)) :: f2_cs) (.bool r4)) (r5:Int) (h:qb0 s1 f2=some r5):Con D Tryz.prog 63 [(.slc (vhj (qc1 (vk2 .i64)) s1)),.func (.func f2_k) f2_cs] (.int .i64 r5):=by
 refine zP call63 func63 rfl ntmps63 fun X w hT=>?_
 simp only [qb0] at h
 refine zs<|zr ?_
 refine zU<|zl<|zn<|zs<|zs<|zr ?_
 refine zU<|zl<|zn<|zb ?_
 obtain ⟨o6,h7,h⟩:=zB h
 refine zO (fun (s:Int)=>⟨[(0,.p (.slc (vhj (qc1 (vk2 .i64)) s1))),(1,.p (.func (.func f2_k) f2_cs)),(7,.p (.int .i64 (s1.length:Int))),(8,.p (.int .i64 s))],[]⟩) (fun (o:(Unit) ⊕ (Int))=>match o with | .inl o8=>tE (cX Tryz.f63 X w D hT) (.exit 0) ⟨[],[]⟩ | .inr o9=>tR Tryz.prog Tryz.f63 (.int .i64 o9)) h7 ?_ ?_
 clear h h7
 intro t10 x h
 simp only [qaz] at h
 refine zs<|zr ?_
 refine zU<|zl<|zn<|zs ?_
 obtain ⟨h11,h⟩|⟨h11,h⟩:=zI h
 refine zi<|zk<|zn<|zs<|zb<|zs<|zr ?_
 refine zU<|zl<|zn<|zs<|zr ?_
 obtain ⟨x12,h13,h13a,h13b,h⟩:=zX h
 refine zU ?_
 obtain ⟨r14,h15,h⟩:=zB h
 refine zc (f2_h x12 _ h15) ?_
 refine zl<|zn ?_
 obtain ⟨h16,h⟩|⟨h16,h⟩:=zI h
 refine zi<|zs<|zr ?_
 refine zU<|zl<|zn<|zq<|yr<|zt ?_
 cases h
 exact ⟨rfl,zT results63⟩
 refine zj<|zk<|yn<|zn<|zr ?_
 refine zU<|zl ?_
 cases h
 exact ⟨rfl,zE⟩
 refine zj<|zx<|ze ?_
 cases h
 exact ⟨rfl,zE⟩
 rcases o6 with ⟨⟩ | r17
 try simp only at h
 refine zA<|yh<|zn<|zs<|zr ?_
 refine zU<|zl<|zn<|zq ?_
 cases h
 exact zT results63
 try simp only at h
 refine zZ fun s hq=>?_
 refine yr<|zt ?_
 cases h
 exact hq
theorem qbi {D:Prop} (s1:List (List Int)) (f2:(List Int)→Option (Bool)) (f2_k:FuncId) (f2_cs:List PV) (f2_h:∀(y3:List Int) (r4:Bool),f2 y3=some r4→Con D Tryz.prog f2_k ((.slc (vhj (vk2 .i64) y3)) :: f2_cs) (.bool r4)) (r5:Bool) (h:qac s1 f2=some r5):Con D Tryz.prog 28 [(.slc (vhj (qc1 (vk2 .i64)) s1)),.func (.func f2_k) f2_cs] (.bool r5):=by
 refine zP call28 func28 rfl ntmps28 fun X w hT=>?_
 simp only [qac] at h
 refine zs<|zr ?_
 refine zU<|zl<|zn<|zs<|zr ?_
 refine zU ?_
 obtain ⟨r6,h7,h⟩:=zB h
 refine zc (qg5 s1 f2 f2_k f2_cs f2_h _ h7) ?_
 refine zU<|zl<|zn<|zq ?_
 cases h
 exact zT results28
theorem qfn {D:Prop} (e1:List Int) (c2:Int) (r3:Bool) (h:qa6 e1 c2=some r3):Con D Tryz.prog 29 [(.slc (vhj (vk2 .i64) e1)),.imm [.int .i64 c2]] (.bool r3):=by
 refine zP call29 func29 rfl ntmps29 fun X w hT=>?_
 simp only [qa6] at h
 refine zs<|zr ?_
 refine zU<|zl<|zn<|zs<|zd ?_
 refine yU ?_
 obtain ⟨h4,h⟩|⟨h4,h⟩:=zI h
 refine yw 7 true ?_
 refine yg ?_
 obtain ⟨x5,h6,h6l,h6L,h⟩:=zY 0 h
 replace h:=h.symm
 refine yg ?_
 refine yg ?_
 refine yg ?_
 refine yg ?_
 refine yU ?_
 refine yd<|zn<|zq ?_
 cases h
 exact zT results29
 refine yw 7 false ?_
 refine yk ?_
 refine yU ?_
 refine yd<|zn<|zq ?_
 cases h
 exact zT results29
theorem qj4 {D:Prop} (h1:Hypergraph) (r2:List Int×List Int×Int) (h:qd5 h1=some r2):Con D Tryz.prog 8 [(qaa h1)] (.tup [(.slc (vhj (vk2 .i64) r2.1)),(.slc (vhj (vk2 .i64) r2.2.1)),(.int .i64 r2.2.2)]):=by
 refine zP call8 func8 rfl ntmps8 fun X w hT=>?_
 simp only [qd5] at h
 refine zs<|zr ?_
 refine zU<|zl<|zn<|zs<|zs<|zr ?_
 refine zU ?_
 obtain ⟨r3,h4,h⟩:=zB h
 refine zc (qcz h1 _ h4) ?_
 refine zU<|zl<|zn<|zs<|zr ?_
 refine zU<|zl<|zn ?_
 obtain ⟨h5,h⟩|⟨h5,h⟩:=zI h
 refine zi<|zs<|zr ?_
 refine zU<|zl<|zn<|zq<|zt ?_
 cases h
 exact zT results8
 refine zj<|zk<|zn<|zs<|zr ?_
 refine zU<|zl<|zn<|zs<|zs<|zr ?_
 refine zU<|zl<|zn<|zb ?_
 obtain ⟨o6,h7,h⟩:=zB h
 refine zO (fun (s:List Int×List Int×Int)=>⟨[(1,.loc 1 1 0 0),(6,.own 32 1 0 s.1.length),(7,.own 41 1 0 s.2.1.length),(17,.p (.slc (vhj (vk2 .i64) h1.Vertices))),(18,.p (.int .i64 (h1.Vertices.length:Int))),(19,.p (.int .i64 s.2.2))],[(1,.arr 28 2 1 [.p (qaa h1)]),(32,.arr 2 1 1 (vhj AV.p (vhj (vk2 .i64) s.1))),(41,.arr 2 1 1 (vhj AV.p (vhj (vk2 .i64) s.2.1)))]⟩) (fun (o8:List Int×List Int)=>tE (cX Tryz.f8 X w D hT) (.exit 0) ⟨[(6,.own 32 1 0 o8.1.length),(7,.own 41 1 0 o8.2.length)],[(32,.arr 2 1 1 (vhj AV.p (vhj (vk2 .i64) o8.1))),(41,.arr 2 1 1 (vhj AV.p (vhj (vk2 .i64) o8.2)))]⟩) h7 ?_ ?_
 clear h h4 h5 h7
 intro s x h
 obtain ⟨a9,s10,t11⟩:=s
 simp only [qcx] at h
 dsimp only
 refine zs<|zr ?_
 refine zU<|zl<|zn<|zs ?_
 obtain ⟨h12,h⟩|⟨h12,h⟩:=zI h
 refine zi<|zk<|zn<|zs<|zb<|zs<|zr ?_
 obtain ⟨x13,h14,h14a,h14b,h⟩:=zX h
 refine zU<|zl<|zn<|zs<|zr ?_
 refine zU<|zl<|zn<|zs<|zs<|zr ?_
 refine zU ?_
 obtain ⟨r15,h16,h⟩:=zB h
 refine zc (qbi h1.Edges (fun (y17:List Int)=>qbz y17 x13) 26 [.imm [.int .i64 x13]] (fun y17 r h=>qiv y17 x13 r h) _ h16) ?_
 refine zU<|zl<|zn ?_
 obtain ⟨h18,h⟩|⟨h18,h⟩:=zI h
 refine zj<|zk<|zn<|zs<|zr ?_
 refine zU ?_
 obtain ⟨r19,h20,h⟩:=zB h
 refine zc (qbi h1.Edges (fun (y21:List Int)=>qa6 y21 x13) 29 [.imm [.int .i64 x13]] (fun y21 r h=>qfn y21 x13 r h) _ h20) ?_
 refine zU<|zl<|zn ?_
 obtain ⟨h22,h⟩|⟨h22,h⟩:=zI h
 refine zj<|zk<|yn<|zn<|zr ?_
 refine zU<|zl ?_
 cases h
 exact ⟨rfl,zE⟩
 refine zi<|zr ?_
 obtain ⟨h23,h⟩:=qa1 h
 refine zU<|zl<|yn<|zn<|zr ?_
 refine zU<|zl ?_
 cases h
 exact ⟨rfl,zE⟩
 refine zi<|zr ?_
 obtain ⟨h24,h⟩:=qa1 h
 refine zU<|zl<|zn<|zs<|zr ?_
 refine zU ?_
 obtain ⟨r25,h26,h⟩:=zB h
 refine zc (qbi h1.Edges (fun (y27:List Int)=>qa6 y27 x13) 29 [.imm [.int .i64 x13]] (fun y27 r h=>qfn y27 x13 r h) _ h26) ?_
 refine zU<|zl<|zn ?_
 obtain ⟨h28,h⟩|⟨h28,h⟩:=zI h
 refine zj<|zk<|yn<|zn<|zr ?_
 refine zU<|zl ?_
 cases h
 exact ⟨rfl,zE⟩
 refine zi<|zr ?_
 obtain ⟨h29,h⟩:=qa1 h
 refine zU<|zl<|yn<|zn<|zr ?_
 refine zU<|zl ?_
 cases h
 exact ⟨rfl,zE⟩
 refine zj<|zx<|ze ?_
 cases h
 exact ⟨rfl,zE⟩
 obtain ⟨a30,s31⟩:=o6
 try simp only at h
 refine zA<|yh<|zn<|zs<|zr ?_
 refine zU<|zl<|zn<|zq ?_
 cases h
 exact zT results8
theorem qfs {D:Prop} (s1:List Hypergraph) (f2:Hypergraph→Option (Bool)) (f2_k:FuncId) (f2_cs:List PV) (f2_h:∀(y3:Hypergraph) (r4:Bool),f2 y3=some r4→Con D Tryz.prog f2_k ((qaa y3) :: f2_cs) (.bool r4)) (r5:Int) (h:qau s1 f2=some r5):Con D Tryz.prog 30 [(.slc (vhj qaa s1)),.func (.func f2_k) f2_cs] (.int .i64 r5):=by
 refine zP call30 func30 rfl ntmps30 fun X w hT=>?_
 simp only [qau] at h
 refine zs<|zr ?_
 refine zU<|zl<|zn<|zs<|zs<|zr ?_
 refine zU<|zl<|zn<|zb ?_
 obtain ⟨o6,h7,h⟩:=zB h
 refine zO (fun (s:Int)=>⟨[(0,.p (.slc (vhj qaa s1))),(1,.p (.func (.func f2_k) f2_cs)),(7,.p (.int .i64 (s1.length:Int))),(8,.p (.int .i64 s))],[]⟩) (fun (o:(Unit) ⊕ (Int))=>match o with | .inl o8=>tE (cX Tryz.f30 X w D hT) (.exit 0) ⟨[],[]⟩ | .inr o9=>tR Tryz.prog Tryz.f30 (.int .i64 o9)) h7 ?_ ?_
 clear h h7
 intro t10 x h
 simp only [qan] at h
 refine zs<|zr ?_
 refine zU<|zl<|zn<|zs ?_
 obtain ⟨h11,h⟩|⟨h11,h⟩:=zI h
 refine zi<|zk<|zn<|zs<|zb<|zs<|zr ?_
 refine zU<|zl<|zn<|zs<|zr ?_
 obtain ⟨x12,h13,h13a,h13b,h⟩:=zX h
 refine zU ?_
 obtain ⟨r14,h15,h⟩:=zB h
 refine zc (f2_h x12 _ h15) ?_
 refine zl<|zn ?_
 obtain ⟨h16,h⟩|⟨h16,h⟩:=zI h
 refine zi<|zs<|zr ?_
 refine zU<|zl<|zn<|zq<|yr<|zt ?_
 cases h
 exact ⟨rfl,zT results30⟩
 refine zj<|zk<|yn<|zn<|zr ?_
 refine zU<|zl ?_
 cases h
 exact ⟨rfl,zE⟩
 refine zj<|zx<|ze ?_
 cases h
 exact ⟨rfl,zE⟩
 rcases o6 with ⟨⟩ | r17
 try simp only at h
 refine zA<|yh<|zn<|zs<|zr ?_
 refine zU<|zl<|zn<|zq ?_
 cases h
 exact zT results30
 try simp only at h
 refine zZ fun s hq=>?_
 refine yr<|zt ?_
 cases h
 exact hq
theorem qmb {D:Prop} (c1:Hypergraph) (c2:Int) (r3:Bool) (h:qda c1 c2=some r3):Con D Tryz.prog 31 [(qaa c1),.imm [.int .i64 c2]] (.bool r3):=by
 refine zP call31 func31 rfl ntmps31 fun X w hT=>?_
 simp only [qda] at h
 refine zs<|zr ?_
 refine zU<|zl<|zn<|zs<|zr ?_
 refine zU ?_
 obtain ⟨r4,h5,h⟩:=zB h
 refine zc (qci c1.Vertices c2 _ h5) ?_
 refine zU<|zl<|zn<|zq ?_
 cases h
 exact zT results31
theorem qne {D:Prop} (h1:Hypergraph) (i2:Int) (r3:List Int×Int) (h:qfx h1 i2=some r3):Con D Tryz.prog 9 [(qaa h1),(.int .i64 i2)] (.tup [(.slc (vhj (vk2 .i64) r3.1)),(.int .i64 r3.2)]):=by
 refine zP call9 func9 rfl ntmps9 fun X w hT=>?_
 simp only [qfx] at h
 refine zs<|zr ?_
 refine zU<|zl<|zn<|zs<|zs<|zr ?_
 refine zU ?_
 obtain ⟨r4,h5,h⟩:=zB h
 refine zc (qcz h1 _ h5) ?_
 refine zU<|zl<|zn<|zs<|zr ?_
 refine zU<|zl<|zn ?_
 obtain ⟨h6,h⟩|⟨h6,h⟩:=zI h
 refine zi<|zs<|zr ?_
 refine zU<|zl<|zn<|zq<|zt ?_
 cases h
 exact zT results9
 have h6F:=vgy.2 h6
 refine zj<|zk<|zn ?_
 obtain ⟨o7,h8,h⟩:=zB h
 refine zJ (fun (o9:List Hypergraph×List (List Int)×Int×Int)=>tE (cX Tryz.f9 X w D hT) .normal ⟨[(1,.p (.int .i64 i2)),(2,.loc 2 1 0 0),(7,.p (.slc (vhj qaa o9.1))),(8,.own 151 1 0 o9.2.1.length),(9,.p (.int .i64 o9.2.2.1)),(10,.p (.int .i64 o9.2.2.2))],[(2,.arr 28 2 1 [.p (qaa h1)]),(151,.arr 93 1 1 (vhj AV.p (vhj (qc1 (vk2 .u64)) o9.2.1)))]⟩) o7 ?_ ?_
 replace h:=h8
 clear h8
 refine zr ?_
 refine zU ?_
 refine zM ⟨[(1,.p (.int .i64 i2)),(2,.loc 2 1 0 0),(28,.p (qaa h1))],[(2,.arr 28 2 1 [.p (qaa h1)])]⟩ ?_
 refine qgv (avs:=[.p (qaa h1)]) 120 rfl (qcb rfl) rfl func25 rfl call25 ntmps25 (by simp) (by simp only [go_sem,seval,h6F];all_goals rfl) ?_
 intro i10 w11 h12
 show AWp _ _ _ ⟨[(0,.p (qaa h1))],[(2,.arr 28 2 1 [.p (qaa h1)])]⟩
 refine zs<|zr ?_
 refine zU<|zl<|zn<|zs<|zr ?_
 refine zU ?_
 obtain ⟨r13,h14,h⟩:=zB h
 refine zc (qfl h1 _ h14) ?_
 refine zU<|zl<|zn<|zs<|zr ?_
 refine zU<|zl<|zn<|zs<|zr ?_
 refine zU<|zl<|zn<|zs<|zs<|zr ?_
 refine zU<|zl<|zn<|zb ?_
 obtain ⟨o15,h16,h⟩:=zB h
 refine zO (fun (s:List (List Int)×Int×Int)=>⟨[(6,.p (.slc (vhj qaa r13))),(7,.own 151 1 0 s.1.length),(8,.p (.int .i64 s.2.1)),(15,.p (.slc (vhj qaa r13))),(16,.p (.int .i64 (r13.length:Int))),(17,.p (.int .i64 s.2.2))],[(2,.arr 28 2 1 [.p (qaa h1)]),(151,.arr 93 1 1 (vhj AV.p (vhj (qc1 (vk2 .u64)) s.1)))]⟩) (fun (o:(List (List Int)×Int) ⊕ (Unit))=>match o with | .inl o17=>tE ⟨Tryz.prog,42,120,X,[(2,.arr 28 2 1 [.p (qaa h1)])],i10,w11,D,h12⟩ (.exit 0) ⟨[(6,.p (.slc (vhj qaa r13))),(7,.own 151 1 0 o17.1.length),(8,.p (.int .i64 o17.2))],[(2,.arr 28 2 1 [.p (qaa h1)]),(151,.arr 93 1 1 (vhj AV.p (vhj (qc1 (vk2 .u64)) o17.1)))]⟩ | .inr o18=>tE ⟨Tryz.prog,42,120,X,[(2,.arr 28 2 1 [.p (qaa h1)])],i10,w11,D,h12⟩ .ret ⟨[(2,.nils),(3,.nils),(4,.p (.int .i64 0)),(5,.p (.int .i64 3))],[(2,.arr 28 2 1 [.p (qaa h1)])]⟩) h16 ?_ ?_
 clear h h5 h6 h6F h14 h16
 intro s x h
 obtain ⟨l19,t20,t21⟩:=s
 simp only [qdo] at h
 dsimp only
 refine zs<|zr ?_
 refine zU<|zl<|zn<|zs ?_
 obtain ⟨h22,h⟩|⟨h22,h⟩:=zI h
 refine zi<|zk<|zn<|zs<|zb<|zs<|zr ?_
 obtain ⟨x23,h24,h24a,h24b,h⟩:=zX h
 refine zU<|zl<|zn<|zs<|zr ?_
 refine zU ?_
 obtain ⟨r25,h26,h⟩:=zB h
 refine zc (qfk x23 100000 _ h26) ?_
 refine zU<|zl<|zn<|zs<|zs<|zr ?_
 refine zU<|zl<|zn ?_
 obtain ⟨h27,h⟩|⟨h27,h⟩:=zI h
 refine zj<|zk<|zn<|zs<|zr ?_
 obtain ⟨h28,h⟩:=qa1 h
 refine zU<|zl<|zn<|zs<|zr ?_
 refine zU<|zl<|zn<|zs<|zr ?_
 refine zU<|zl<|zn ?_
 obtain ⟨h29,h⟩|⟨h29,h⟩:=zI h
 refine zi<|zs<|zr ?_
 refine zU<|zl<|zn<|zq<|yr<|zt ?_
 cases h
 exact ⟨rfl,zE⟩
 refine zj<|zk<|yn<|zn<|zr ?_
 refine zU<|zl ?_
 cases h
 exact ⟨rfl,zE⟩
 refine zi<|zs<|zr ?_
 refine zU<|zl<|zn<|zq<|zt<|yr<|zt ?_
 cases h
 exact ⟨rfl,zE⟩
 refine zj<|zx<|ze ?_
 cases h
 exact ⟨rfl,zE⟩
 rcases o15 with ⟨l30,t31⟩ | ⟨⟩
 try simp only at h
 refine zA<|yh<|zn<|zs<|zr ?_
 refine zU<|zl<|zn<|zq ?_
 refine qgf (by simp only [results25];simp only [go_sem,seval,h6F];exact rfl) ?_
 refine zU<|zl ?_
 cases h
 exact ⟨rfl,zE⟩
 try simp only at h
 refine zA<|yr<|zt ?_
 refine qgf (by simp only [results25];simp only [go_sem,seval,h6F];exact rfl) ?_
 refine zU<|zl ?_
 cases h
 exact ⟨rfl,zE⟩
 obtain ⟨c32,l33,t34,e35⟩:=o7
 try simp only at h
 refine zA<|zn<|zs<|zs<|zr ?_
 refine zU<|zl<|zn ?_
 obtain ⟨h36,h⟩|⟨h36,h⟩:=zI h
 refine zi<|zs<|zr ?_
 refine zU<|zl<|zn<|zq<|zt ?_
 cases h
 exact zT results9
 refine zj<|zk<|zn<|zs<|zs<|zr ?_
 refine zU ?_
 obtain ⟨h37,h⟩|⟨h37,h⟩:=zI h
 refine zw 39 true ?_
 refine zh ?_
 refine zU<|zl<|zn ?_
 refine zi<|zs<|zr ?_
 refine zU<|zl<|zn<|zq<|zt ?_
 cases h
 exact zT results9
 refine zw 39 false ?_
 refine zg ?_
 refine zg ?_
 refine zg ?_
 refine zU<|zl<|zn ?_
 obtain ⟨h38,h⟩|⟨h38,h⟩:=zI h
 refine zi<|zs<|zr ?_
 refine zU<|zl<|zn<|zq<|zt ?_
 cases h
 exact zT results9
 refine zj<|zk<|zn<|zs<|zr ?_
 refine zU<|zl<|zn<|zs<|zs<|zr ?_
 refine zU<|zl<|zn<|zb ?_
 obtain ⟨o39,h40,h⟩:=zB h
 refine zO (fun (s:Int×List (List Int)×Int×List Int×Int)=>⟨[(1,.p (.int .i64 s.1)),(7,.p (.slc (vhj qaa c32))),(8,.own 151 1 0 s.2.1.length),(9,.p (.int .i64 s.2.2.1)),(11,.own 106 1 0 s.2.2.2.1.length),(45,.p (.slc (vhj (vk2 .i64) h1.Vertices))),(46,.p (.int .i64 (h1.Vertices.length:Int))),(47,.p (.int .i64 s.2.2.2.2))],[(106,.arr 2 1 1 (vhj AV.p (vhj (vk2 .i64) s.2.2.2.1))),(151,.arr 93 1 1 (vhj AV.p (vhj (qc1 (vk2 .u64)) s.2.1)))]⟩) (fun (o41:List Int)=>tE (cX Tryz.f9 X w D hT) (.exit 0) ⟨[(11,.own 106 1 0 o41.length)],[(106,.arr 2 1 1 (vhj AV.p (vhj (vk2 .i64) o41)))]⟩) h40 ?_ ?_
 clear h h5 h6 h6F h36 h37 h38 h40
 intro s x h
 obtain ⟨i42,l43,t44,o45,t46⟩:=s
 simp only [qdq] at h
 dsimp only
 refine zs<|zr ?_
 refine zU<|zl<|zn<|zs ?_
 obtain ⟨h47,h⟩|⟨h47,h⟩:=zI h
 refine zi<|zk<|zn<|zs<|zb<|zs<|zr ?_
 obtain ⟨x48,h49,h49a,h49b,h⟩:=zX h
 refine zU<|zl<|zn<|zs<|zr ?_
 refine zU ?_
 obtain ⟨r50,h51,h⟩:=zB h
 refine zc (qfs c32 (fun (y52:Hypergraph)=>qda y52 x48) 31 [.imm [.int .i64 x48]] (fun y52 r h=>qmb y52 x48 r h) _ h51) ?_
 refine zU<|zl<|zn<|zs<|zd ?_
 obtain ⟨x53,h54,h54a,h54b,h⟩:=zX h
 refine yU ?_
 obtain ⟨r55,h56,h⟩:=zB h
 refine yc (qc0 x53.Vertices x48 _ h56) ?_
 refine yU ?_
 refine yd<|zn<|zs<|zr ?_
 refine zU<|zl<|zn<|zs<|zs<|zr ?_
 obtain ⟨x57,h58,h58a,h58b,h⟩:=zX h
 refine zU<|zl<|zn<|zb ?_
 obtain ⟨o59,h60,h⟩:=zB h
 refine zO (fun (s:List Int×List Int×Int)=>⟨[(1,.p (.int .i64 i42)),(7,.p (.slc (vhj qaa c32))),(8,.own 151 1 0 l43.length),(9,.p (.int .i64 t44)),(11,.own 106 1 0 o45.length),(13,.loc 13 1 0 0),(14,.p (.int .i64 r50)),(15,.p (.int .i64 r55)),(16,.own 78 1 0 s.1.length),(17,.own 82 1 0 s.2.1.length),(45,.p (.slc (vhj (vk2 .i64) h1.Vertices))),(46,.p (.int .i64 (h1.Vertices.length:Int))),(47,.p (.int .i64 t46)),(64,.p (.slc (vhj (vk2 .u64) x57))),(65,.p (.int .i64 (x57.length:Int))),(66,.p (.int .i64 s.2.2))],[(13,.arr 2 1 1 [.p (.int .i64 x48)]),(78,.arr 96 1 1 (vhj AV.p (vhj (vk2 .u64) s.1))),(82,.arr 96 1 1 (vhj AV.p (vhj (vk2 .u64) s.2.1))),(106,.arr 2 1 1 (vhj AV.p (vhj (vk2 .i64) o45))),(151,.arr 93 1 1 (vhj AV.p (vhj (qc1 (vk2 .u64)) l43)))]⟩) (fun (o61:List Int×List Int)=>tE (cX Tryz.f9 X w D hT) (.exit 2) ⟨[(1,.p (.int .i64 i42)),(7,.p (.slc (vhj qaa c32))),(8,.own 151 1 0 l43.length),(9,.p (.int .i64 t44)),(11,.own 106 1 0 o45.length),(13,.loc 13 1 0 0),(14,.p (.int .i64 r50)),(16,.own 78 1 0 o61.1.length),(17,.own 82 1 0 o61.2.length),(45,.p (.slc (vhj (vk2 .i64) h1.Vertices))),(46,.p (.int .i64 (h1.Vertices.length:Int))),(47,.p (.int .i64 t46))],[(13,.arr 2 1 1 [.p (.int .i64 x48)]),(78,.arr 96 1 1 (vhj AV.p (vhj (vk2 .u64) o61.1))),(82,.arr 96 1 1 (vhj AV.p (vhj (vk2 .u64) o61.2))),(106,.arr 2 1 1 (vhj AV.p (vhj (vk2 .i64) o45))),(151,.arr 93 1 1 (vhj AV.p (vhj (qc1 (vk2 .u64)) l43)))]⟩) h60 ?_ ?_
 clear h h47 h49 h49a h49b h51 h54 h54a h54b h56 h58 h58a h58b h60
 intro s x h
 obtain ⟨w62,w63,t64⟩:=s
 simp only [qdp] at h
 dsimp only
 refine zs<|zr ?_
 refine zU<|zl<|zn<|zs ?_
 obtain ⟨h65,h⟩|⟨h65,h⟩:=zI h
 refine zi<|zk<|zn<|zs<|zb<|zs<|zr ?_
 obtain ⟨x66,h67,h67a,h67b,h⟩:=zX h
 refine zU<|zl<|zn<|zs<|zr ?_
 obtain ⟨h68,h⟩:=qem h
 refine zU<|zl<|zn ?_
 obtain ⟨h69,h⟩|⟨h69,h⟩:=zI h
 refine zi<|zr ?_
 obtain ⟨h70,h⟩:=qa1 h
 refine zU<|zl<|yn<|zn<|zr ?_
 refine zU<|zl ?_
 cases h
 exact ⟨rfl,zE⟩
 refine zj<|zr ?_
 obtain ⟨h71,h⟩:=qa1 h
 refine zU<|zl<|yn<|zn<|zr ?_
 refine zU<|zl ?_
 cases h
 exact ⟨rfl,zE⟩
 refine zj<|zx<|ze ?_
 cases h
 exact ⟨rfl,zE⟩
 obtain ⟨w72,w73⟩:=o59
 try simp only at h
 refine zA<|yh<|zn<|zs<|zr ?_
 obtain ⟨h74,h⟩:=qem h
 refine zU<|zl<|zn<|zs<|zr ?_
 refine zU<|zl<|zn<|zs<|zr ?_
 refine zU<|zl<|zn ?_
 obtain ⟨h75,h⟩|⟨h75,h⟩:=zI h
 refine zi<|zs<|zr ?_
 refine zW 5 ?_
 refine zM ⟨[(1,.p (.int .i64 i42)),(7,.p (.slc (vhj qaa c32))),(8,.own 151 1 0 l43.length),(11,.own 106 1 0 o45.length),(13,.loc 13 1 0 0),(45,.p (.slc (vhj (vk2 .i64) h1.Vertices))),(46,.p (.int .i64 (h1.Vertices.length:Int))),(47,.p (.int .i64 t46)),(100,.p (.slc (vhj (vk2 .u64) w72))),(101,.p (.int .i64 (vip.wrap ((vip.wrap (Int.tdiv t44 (x57.length:Int))) * ((w72.length:Nat):Int))))),(102,.loc 151 1 r50.toNat 0)],[(13,.arr 2 1 1 [.p (.int .i64 x48)]),(106,.arr 2 1 1 (vhj AV.p (vhj (vk2 .i64) o45))),(151,.arr 93 1 1 (vhj AV.p (vhj (qc1 (vk2 .u64)) l43)))]⟩ ?_
 refine zU<|zl<|zn<|zr ?_
 obtain ⟨h76,h⟩:=qa1 h
 refine zU<|zl<|yn<|zn<|zr ?_
 refine zU<|zl ?_
 cases h
 exact ⟨rfl,zE⟩
 refine zj<|zr ?_
 refine zW 11 ?_
 refine zM ⟨[(7,.p (.slc (vhj qaa c32))),(8,.own 151 1 0 l43.length),(11,.own 106 1 0 o45.length),(45,.p (.slc (vhj (vk2 .i64) h1.Vertices))),(46,.p (.int .i64 (h1.Vertices.length:Int))),(47,.p (.int .i64 t46)),(109,.p (.slc (vhj (vk2 .u64) w73))),(113,.p (.int .i64 (vip.wrap ((vip.wrap (Int.tdiv t44 (x57.length:Int))) * ((w73.length:Nat):Int))))),(116,.p (.int .i64 (vip.wrap (i42 - (vip.wrap ((vip.wrap (Int.tdiv t44 (x57.length:Int))) * ((w72.length:Nat):Int))))))),(117,.loc 151 1 r50.toNat 0)],[(106,.arr 2 1 1 (vhj AV.p (vhj (vk2 .i64) o45))),(151,.arr 93 1 1 (vhj AV.p (vhj (qc1 (vk2 .u64)) l43)))]⟩ ?_
 refine zU<|zl<|yn<|zn<|zr ?_
 refine zU<|zl ?_
 cases h
 exact ⟨rfl,zE⟩
 refine zj<|zx<|ze ?_
 cases h
 exact ⟨rfl,zE⟩
 try simp only at h
 refine zA<|yh<|zn<|zs<|zr ?_
 refine zU<|zl<|zn<|zq ?_
 cases h
 exact zT results9
theorem qj5 {D:Prop} (h1:Hypergraph) (l2:List Int) (w3:List Int) (r4:(List Int×Bool×Int×Int×Int)→Option (Bool×List Int×Bool)) (hrec_3690:∀(u5:List Int) (m6:Bool) (v7:Int) (i8:Int) (o9:Int) (t10:Bool) (u11:List Int) (m12:Bool),r4 (u5,m6,v7,i8,o9)=some (t10,u11,m12)→Ip D Tryz.prog 36 [.agg [.p (.int .i64 (h1.Vertices.length:Int)),.own 90 1 0 w3.length,.func (.func 34) [.loc 2 1 0 0,.loc 3 1 0 0,.loc 10 1 0 0,.loc 11 1 0 0]],.p (.int .i64 v7),.p (.int .u64 i8),.p (.int .u64 o9)] [(2,.arr 28 2 1 [.p (qaa h1)]),(3,.arr 25 1 1 [.p (.slc (vhj (vk2 .i64) l2))]),(10,.arr 25 1 1 [.p (.slc (vhj (vk2 .i64) u5))]),(11,.arr 4 1 1 [.p (.bool m6)]),(90,.arr 96 1 1 (vhj AV.p (vhj (vk2 .u64) w3)))] (.p (.bool t10)) [(2,.arr 28 2 1 [.p (qaa h1)]),(3,.arr 25 1 1 [.p (.slc (vhj (vk2 .i64) l2))]),(10,.arr 25 1 1 [.p (.slc (vhj (vk2 .i64) u11))]),(11,.arr 4 1 1 [.p (.bool m12)]),(90,.arr 96 1 1 (vhj AV.p (vhj (vk2 .u64) w3)))]) (u5:List Int) (m6:Bool) (v7:Int) (i8:Int) (o9:Int) (t10:Bool) (u11:List Int) (m12:Bool) (h:qbf h1 l2 w3 r4 (u5,m6,v7,i8,o9)=some (t10,u11,m12)):Ip D Tryz.prog 36 [.agg [.p (.int .i64 (h1.Vertices.length:Int)),.own 90 1 0 w3.length,.func (.func 34) [.loc 2 1 0 0,.loc 3 1 0 0,.loc 10 1 0 0,.loc 11 1 0 0]],.p (.int .i64 v7),.p (.int .u64 i8),.p (.int .u64 o9)] [(2,.arr 28 2 1 [.p (qaa h1)]),(3,.arr 25 1 1 [.p (.slc (vhj (vk2 .i64) l2))]),(10,.arr 25 1 1 [.p (.slc (vhj (vk2 .i64) u5))]),(11,.arr 4 1 1 [.p (.bool m6)]),(90,.arr 96 1 1 (vhj AV.p (vhj (vk2 .u64) w3)))] (.p (.bool t10)) [(2,.arr 28 2 1 [.p (qaa h1)]),(3,.arr 25 1 1 [.p (.slc (vhj (vk2 .i64) l2))]),(10,.arr 25 1 1 [.p (.slc (vhj (vk2 .i64) u11))]),(11,.arr 4 1 1 [.p (.bool m12)]),(90,.arr 96 1 1 (vhj AV.p (vhj (vk2 .u64) w3)))]:=by
 simp only [qbf] at h
 refine Ip.of_awp 94 ⟨[(8,.p (.bool t10))],[(2,.arr 28 2 1 [.p (qaa h1)]),(3,.arr 25 1 1 [.p (.slc (vhj (vk2 .i64) l2))]),(10,.arr 25 1 1 [.p (.slc (vhj (vk2 .i64) u11))]),(11,.arr 4 1 1 [.p (.bool m12)]),(90,.arr 96 1 1 (vhj AV.p (vhj (vk2 .u64) w3)))]⟩ call36 func36 rfl ntmps36 (by simp) (by simp only [results36];simp only [go_sem,seval];all_goals exact rfl) fun X i13 w14 h15=>?_
 show AWp _ _ _ ⟨[(0,.agg [.p (.int .i64 (h1.Vertices.length:Int)),.own 90 1 0 w3.length,.func (.func 34) [.loc 2 1 0 0,.loc 3 1 0 0,.loc 10 1 0 0,.loc 11 1 0 0]]),(1,.p (.int .i64 v7)),(2,.p (.int .u64 i8)),(3,.p (.int .u64 o9))],[(2,.arr 28 2 1 [.p (qaa h1)]),(3,.arr 25 1 1 [.p (.slc (vhj (vk2 .i64) l2))]),(10,.arr 25 1 1 [.p (.slc (vhj (vk2 .i64) u5))]),(11,.arr 4 1 1 [.p (.bool m6)]),(90,.arr 96 1 1 (vhj AV.p (vhj (vk2 .u64) w3)))]⟩
 refine zs<|zr ?_
 refine zU<|zl<|zn<|zs<|zd ?_
 obtain ⟨h16,h⟩:=qem h
 obtain ⟨h17,h⟩:=qem h
 refine yU ?_
 refine yd<|zn<|zs<|zs<|zr ?_
 refine zU<|zl<|zn<|zb ?_
 obtain ⟨o18,h19,h⟩:=zB h
 refine zO (fun (s:Int)=>⟨[(1,.p (.int .i64 v7)),(2,.p (.int .u64 i8)),(3,.p (.int .u64 o9)),(4,.loc 98 1 0 0),(9,.p (.int .u64 (vi4.wrap ((BitVec.ofInt 64 (vi4.wrap (18446744073709551615 * 2 ^ (min (v7).toNat 64))) &&& (BitVec.ofInt 64 (vi4.wrap ((vi4.wrap (1 * 2 ^ (min h1.Vertices.length 64))) - 1)))).toNat:Int)))),(19,.p (.int .i64 v7)),(20,.p (.int .i64 s))],[(2,.arr 28 2 1 [.p (qaa h1)]),(3,.arr 25 1 1 [.p (.slc (vhj (vk2 .i64) l2))]),(10,.arr 25 1 1 [.p (.slc (vhj (vk2 .i64) u5))]),(11,.arr 4 1 1 [.p (.bool m6)]),(90,.arr 96 1 1 (vhj AV.p (vhj (vk2 .u64) w3))),(98,.arr 109 3 1 [.agg [.p (.int .i64 (h1.Vertices.length:Int)),.own 90 1 0 w3.length,.func (.func 34) [.loc 2 1 0 0,.loc 3 1 0 0,.loc 10 1 0 0,.loc 11 1 0 0]]])]⟩) (fun (o:(Unit) ⊕ (Unit))=>match o with | .inl o20=>tE ⟨Tryz.prog,72,94,X,[(2,.arr 28 2 1 [.p (qaa h1)]),(3,.arr 25 1 1 [.p (.slc (vhj (vk2 .i64) l2))]),(10,.arr 25 1 1 [.p (.slc (vhj (vk2 .i64) u5))]),(11,.arr 4 1 1 [.p (.bool m6)]),(90,.arr 96 1 1 (vhj AV.p (vhj (vk2 .u64) w3)))],i13,w14,D,h15⟩ (.exit 0) ⟨[(1,.p (.int .i64 v7)),(2,.p (.int .u64 i8)),(3,.p (.int .u64 o9)),(4,.loc 98 1 0 0)],[(2,.arr 28 2 1 [.p (qaa h1)]),(3,.arr 25 1 1 [.p (.slc (vhj (vk2 .i64) l2))]),(10,.arr 25 1 1 [.p (.slc (vhj (vk2 .i64) u5))]),(11,.arr 4 1 1 [.p (.bool m6)]),(90,.arr 96 1 1 (vhj AV.p (vhj (vk2 .u64) w3))),(98,.arr 109 3 1 [.agg [.p (.int .i64 (h1.Vertices.length:Int)),.own 90 1 0 w3.length,.func (.func 34) [.loc 2 1 0 0,.loc 3 1 0 0,.loc 10 1 0 0,.loc 11 1 0 0]]])]⟩ | .inr o21=>tE ⟨Tryz.prog,72,94,X,[(2,.arr 28 2 1 [.p (qaa h1)]),(3,.arr 25 1 1 [.p (.slc (vhj (vk2 .i64) l2))]),(10,.arr 25 1 1 [.p (.slc (vhj (vk2 .i64) u5))]),(11,.arr 4 1 1 [.p (.bool m6)]),(90,.arr 96 1 1 (vhj AV.p (vhj (vk2 .u64) w3)))],i13,w14,D,h15⟩ .ret ⟨[(8,.p (.bool true))],[(2,.arr 28 2 1 [.p (qaa h1)]),(3,.arr 25 1 1 [.p (.slc (vhj (vk2 .i64) l2))]),(10,.arr 25 1 1 [.p (.slc (vhj (vk2 .i64) u5))]),(11,.arr 4 1 1 [.p (.bool m6)]),(90,.arr 96 1 1 (vhj AV.p (vhj (vk2 .u64) w3)))]⟩) h19 ?_ ?_
 clear h h16 h17 h19
 intro t22 x h
 simp only [qfh] at h
 refine zs<|zr ?_
 refine zU<|zl<|zn<|zs ?_
 obtain ⟨h23,h⟩|⟨h23,h⟩:=zI h
 have h23T:=eq_true h23
 refine zi<|zk<|zn<|zs<|zb<|zs<|zr ?_
 refine zU<|zl<|zn<|zs<|zr ?_
 obtain ⟨h24,h⟩:=qem h
 refine zU ?_
 obtain ⟨h25,h⟩|⟨h25,h⟩:=zI h
 refine zw 28 true ?_
 refine zg ?_
 refine zg ?_
 refine zg ?_
 refine zg ?_
 refine zM ⟨[(1,.p (.int .i64 v7)),(2,.p (.int .u64 i8)),(3,.p (.int .u64 o9)),(4,.loc 98 1 0 0),(9,.p (.int .u64 (vi4.wrap ((BitVec.ofInt 64 (vi4.wrap (18446744073709551615 * 2 ^ (min (v7).toNat 64))) &&& (BitVec.ofInt 64 (vi4.wrap ((vi4.wrap (1 * 2 ^ (min h1.Vertices.length 64))) - 1)))).toNat:Int)))),(19,.p (.int .i64 v7)),(20,.p (.int .i64 t22)),(28,.p (.bool true)),(29,.agg [.p (.int .i64 (h1.Vertices.length:Int)),.own 90 1 0 w3.length,.func (.func 34) [.loc 2 1 0 0,.loc 3 1 0 0,.loc 10 1 0 0,.loc 11 1 0 0]]),(30,.p (.int .i64 t22)),(31,.p (.int .u64 i8)),(32,.p (.int .u64 (vi4.wrap ((BitVec.ofInt 64 (vi4.wrap (18446744073709551615 * 2 ^ (min (v7).toNat 64))) &&& (BitVec.ofInt 64 (vi4.wrap ((vi4.wrap (1 * 2 ^ (min h1.Vertices.length 64))) - 1)))).toNat:Int))))],[(2,.arr 28 2 1 [.p (qaa h1)]),(3,.arr 25 1 1 [.p (.slc (vhj (vk2 .i64) l2))]),(10,.arr 25 1 1 [.p (.slc (vhj (vk2 .i64) u5))]),(11,.arr 4 1 1 [.p (.bool m6)]),(90,.arr 96 1 1 (vhj AV.p (vhj (vk2 .u64) w3))),(98,.arr 109 3 1 [.agg [.p (.int .i64 (h1.Vertices.length:Int)),.own 90 1 0 w3.length,.func (.func 34) [.loc 2 1 0 0,.loc 3 1 0 0,.loc 10 1 0 0,.loc 11 1 0 0]]])]⟩ ?_
 refine qgv (avs:=[.agg [.p (.int .i64 (h1.Vertices.length:Int)),.own 90 1 0 w3.length,.func (.func 34) [.loc 2 1 0 0,.loc 3 1 0 0,.loc 10 1 0 0,.loc 11 1 0 0]],.p (.int .i64 t22),.p (.int .u64 i8),.p (.int .u64 (vi4.wrap ((BitVec.ofInt 64 (vi4.wrap (18446744073709551615 * 2 ^ (min (v7).toNat 64))) &&& (BitVec.ofInt 64 (vi4.wrap ((vi4.wrap (1 * 2 ^ (min h1.Vertices.length 64))) - 1)))).toNat:Int)))]) 166 rfl (qdw rfl rfl (by exact rfl) (by exact rfl)) rfl func65 rfl call65 ntmps65 (by simp) (by simp only [go_sem,seval,h23T,h25];all_goals rfl) ?_
 intro i26 w27 h28
 show AWp _ _ _ ⟨[(0,.agg [.p (.int .i64 (h1.Vertices.length:Int)),.own 90 1 0 w3.length,.func (.func 34) [.loc 2 1 0 0,.loc 3 1 0 0,.loc 10 1 0 0,.loc 11 1 0 0]]),(1,.p (.int .i64 t22)),(2,.p (.int .u64 i8)),(3,.p (.int .u64 (vi4.wrap ((BitVec.ofInt 64 (vi4.wrap (18446744073709551615 * 2 ^ (min (v7).toNat 64))) &&& (BitVec.ofInt 64 (vi4.wrap ((vi4.wrap (1 * 2 ^ (min h1.Vertices.length 64))) - 1)))).toNat:Int))))],[(2,.arr 28 2 1 [.p (qaa h1)]),(3,.arr 25 1 1 [.p (.slc (vhj (vk2 .i64) l2))]),(10,.arr 25 1 1 [.p (.slc (vhj (vk2 .i64) u5))]),(11,.arr 4 1 1 [.p (.bool m6)]),(90,.arr 96 1 1 (vhj AV.p (vhj (vk2 .u64) w3))),(98,.arr 109 3 1 [.agg [.p (.int .i64 (h1.Vertices.length:Int)),.own 90 1 0 w3.length,.func (.func 34) [.loc 2 1 0 0,.loc 3 1 0 0,.loc 10 1 0 0,.loc 11 1 0 0]]])]⟩
 refine zs<|zr ?_
 refine zU<|zl<|zn<|zs<|zr ?_
 refine zU ?_
 obtain ⟨r29,h30,h⟩:=zB h
 refine zc (qbh w3 (fun (y31:Int)=>qaf y31 t22 i8 (vi4.wrap ((BitVec.ofInt 64 (vi4.wrap (18446744073709551615 * 2 ^ (min (v7).toNat 64))) &&& (BitVec.ofInt 64 (vi4.wrap ((vi4.wrap (1 * 2 ^ (min h1.Vertices.length 64))) - 1)))).toNat:Int))) 117 [.imm [.int .i64 t22],.imm [.int .u64 i8],.imm [.int .u64 (vi4.wrap ((BitVec.ofInt 64 (vi4.wrap (18446744073709551615 * 2 ^ (min (v7).toNat 64))) &&& (BitVec.ofInt 64 (vi4.wrap ((vi4.wrap (1 * 2 ^ (min h1.Vertices.length 64))) - 1)))).toNat:Int))]] (fun y31 r h=>qdt y31 t22 i8 (vi4.wrap ((BitVec.ofInt 64 (vi4.wrap (18446744073709551615 * 2 ^ (min (v7).toNat 64))) &&& (BitVec.ofInt 64 (vi4.wrap ((vi4.wrap (1 * 2 ^ (min h1.Vertices.length 64))) - 1)))).toNat:Int)) r h) _ h30) ?_
 refine zU<|zl<|zn<|zq ?_
 refine qgf (by simp only [results65];simp only [go_sem,seval,h23T,h25];exact rfl) ?_
 refine zg ?_
 refine zU<|zl<|zn ?_
 obtain ⟨h32,h⟩|⟨h32,h⟩:=zI h
 refine zj<|zk<|yn<|zn<|zr ?_
 refine zU<|zl ?_
 cases h
 exact ⟨rfl,zE⟩
 refine zi<|zs<|zr ?_
 refine zU<|zl<|zn<|zq<|yr<|zt ?_
 cases h
 exact ⟨rfl,zE⟩
 refine zw 28 false ?_
 refine zh ?_
 refine zU<|zl<|zn ?_
 refine zj<|zk<|yn<|zn<|zr ?_
 refine zU<|zl ?_
 cases h
 exact ⟨rfl,zE⟩
 have h23T:=eq_false h23
 refine zj<|zx<|ze ?_
 cases h
 exact ⟨rfl,zE⟩
 rcases o18 with ⟨⟩ | ⟨⟩
 try simp only at h
 refine zA<|yh<|zn<|zs<|zs<|zr ?_
 refine zU<|zl<|zn ?_
 obtain ⟨h33,h⟩|⟨h33,h⟩:=zI h
 refine zi<|zs<|zr ?_
 refine zU ?_
 refine zM ⟨[(42,.func (.func 34) [.loc 2 1 0 0,.loc 3 1 0 0,.loc 10 1 0 0,.loc 11 1 0 0]),(43,.p (.int .u64 i8))],[(2,.arr 28 2 1 [.p (qaa h1)]),(3,.arr 25 1 1 [.p (.slc (vhj (vk2 .i64) l2))]),(10,.arr 25 1 1 [.p (.slc (vhj (vk2 .i64) u5))]),(11,.arr 4 1 1 [.p (.bool m6)]),(90,.arr 96 1 1 (vhj AV.p (vhj (vk2 .u64) w3)))]⟩ ?_
 refine qgv (avs:=[.p (.int .u64 i8),.loc 2 1 0 0,.loc 3 1 0 0,.loc 10 1 0 0,.loc 11 1 0 0]) 179 rfl (qcb rfl) rfl func34 rfl call34 ntmps34 (by simp) (by simp only [go_sem,seval,h33];all_goals rfl) ?_
 intro i34 w35 h36
 show AWp _ _ _ ⟨[(0,.p (.int .u64 i8)),(1,.loc 2 1 0 0),(2,.loc 3 1 0 0),(3,.loc 10 1 0 0),(4,.loc 11 1 0 0)],[(2,.arr 28 2 1 [.p (qaa h1)]),(3,.arr 25 1 1 [.p (.slc (vhj (vk2 .i64) l2))]),(10,.arr 25 1 1 [.p (.slc (vhj (vk2 .i64) u5))]),(11,.arr 4 1 1 [.p (.bool m6)]),(90,.arr 96 1 1 (vhj AV.p (vhj (vk2 .u64) w3)))]⟩
 refine zs<|zr ?_
 refine zU<|zl<|zn<|zs<|zs<|zr ?_
 refine zU ?_
 obtain ⟨r37,h38,h⟩:=zB h
 refine zc (qic h1 i8 _ h38) ?_
 refine zU<|zl<|zn<|zs<|zr ?_
 refine zU ?_
 obtain ⟨r39,h40,h⟩:=zB h
 refine zc (qe4 r37 l2 _ h40) ?_
 refine zU<|zl<|zn ?_
 obtain ⟨h41,h⟩|⟨h41,h⟩:=zI h
 have h41T:=eq_true h41
 refine zi<|zr ?_
 refine zU<|zl<|zn<|zs<|zr ?_
 refine zU<|zl<|zn<|zq ?_
 refine qgf (by simp only [results34];simp only [go_sem,seval,h33,h41T];exact rfl) ?_
 refine zU<|zl<|zn<|zq<|zt ?_
 cases h
 exact ⟨rfl,zE⟩
 have h41T:=eq_false h41
 refine zj<|zk<|zn<|zs<|zr ?_
 refine zU<|zl<|zn<|zq ?_
 refine qgf (by simp only [results34];simp only [go_sem,seval,h33,h41T];exact rfl) ?_
 refine zU<|zl<|zn<|zq<|zt ?_
 cases h
 exact ⟨rfl,zE⟩
 refine zj<|zk<|zn<|zs<|zr ?_
 refine zU<|zl<|zn<|zs<|zs<|zr ?_
 refine zU ?_
 obtain ⟨r42,h43,h⟩:=zB h
 refine zc (qbh w3 (fun (y44:Int)=>qak y44 (vi4.wrap ((BitVec.ofInt 64 i8 ||| (BitVec.ofInt 64 (vi4.wrap (1 * 2 ^ (min (v7).toNat 64))))).toNat:Int))) 67 [.imm [.int .u64 (vi4.wrap ((BitVec.ofInt 64 i8 ||| (BitVec.ofInt 64 (vi4.wrap (1 * 2 ^ (min (v7).toNat 64))))).toNat:Int))]] (fun y44 r h=>qel y44 (vi4.wrap ((BitVec.ofInt 64 i8 ||| (BitVec.ofInt 64 (vi4.wrap (1 * 2 ^ (min (v7).toNat 64))))).toNat:Int)) r h) _ h43) ?_
 refine zU ?_
 obtain ⟨h45,h⟩|⟨h45,h⟩:=zI h
 refine zw 54 false ?_
 refine zh ?_
 refine zU<|zl<|zn ?_
 refine zj<|zk<|zn<|zs ?_
 refine zdl 8 ?_
 refine yU ?_
 refine ydl ?_
 refine zM ⟨[(63,.agg [.p (.int .i64 (h1.Vertices.length:Int)),.own 90 1 0 w3.length,.func (.func 34) [.loc 2 1 0 0,.loc 3 1 0 0,.loc 10 1 0 0,.loc 11 1 0 0]]),(65,.p (.int .i64 (vip.wrap (v7+1)))),(66,.p (.int .u64 i8)),(70,.p (.int .u64 (vi4.wrap ((BitVec.ofInt 64 o9 ||| (BitVec.ofInt 64 (vi4.wrap (1 * 2 ^ (min (v7).toNat 64))))).toNat:Int))))],[(2,.arr 28 2 1 [.p (qaa h1)]),(3,.arr 25 1 1 [.p (.slc (vhj (vk2 .i64) l2))]),(10,.arr 25 1 1 [.p (.slc (vhj (vk2 .i64) u5))]),(11,.arr 4 1 1 [.p (.bool m6)]),(90,.arr 96 1 1 (vhj AV.p (vhj (vk2 .u64) w3)))]⟩ ?_
 refine zM ⟨[(63,.agg [.p (.int .i64 (h1.Vertices.length:Int)),.own 90 1 0 w3.length,.func (.func 34) [.loc 2 1 0 0,.loc 3 1 0 0,.loc 10 1 0 0,.loc 11 1 0 0]]),(65,.p (.int .i64 (vip.wrap (v7+1)))),(66,.p (.int .u64 i8)),(70,.p (.int .u64 (vi4.wrap ((BitVec.ofInt 64 o9 ||| (BitVec.ofInt 64 (vi4.wrap (1 * 2 ^ (min (v7).toNat 64))))).toNat:Int))))],[(2,.arr 28 2 1 [.p (qaa h1)]),(3,.arr 25 1 1 [.p (.slc (vhj (vk2 .i64) l2))]),(10,.arr 25 1 1 [.p (.slc (vhj (vk2 .i64) u5))]),(11,.arr 4 1 1 [.p (.bool m6)]),(90,.arr 96 1 1 (vhj AV.p (vhj (vk2 .u64) w3)))]⟩ ?_
 obtain ⟨o46,h47,h⟩:=zB h
 obtain ⟨t48,u49,m50⟩:=o46
 try simp only at h
 refine zIp [] (hrec_3690 u5 m6 (vip.wrap (v7+1)) i8 (vi4.wrap ((BitVec.ofInt 64 o9 ||| (BitVec.ofInt 64 (vi4.wrap (1 * 2 ^ (min (v7).toNat 64))))).toNat:Int)) t48 u49 m50 h47) ?_
 clear h47
 refine zM ⟨[(71,.p (.bool t48))],[(2,.arr 28 2 1 [.p (qaa h1)]),(3,.arr 25 1 1 [.p (.slc (vhj (vk2 .i64) l2))]),(10,.arr 25 1 1 [.p (.slc (vhj (vk2 .i64) u49))]),(11,.arr 4 1 1 [.p (.bool m50)]),(90,.arr 96 1 1 (vhj AV.p (vhj (vk2 .u64) w3)))]⟩ ?_
 refine zU<|zl<|zn<|zq ?_
 cases h
 exact ⟨rfl,zE⟩
 refine zw 54 true ?_
 refine zg ?_
 refine zg ?_
 refine zg ?_
 refine zg ?_
 refine zg ?_
 refine zM ⟨[(1,.p (.int .i64 v7)),(2,.p (.int .u64 i8)),(3,.p (.int .u64 o9)),(4,.loc 98 1 0 0),(54,.p (.bool true)),(55,.agg [.p (.int .i64 (h1.Vertices.length:Int)),.own 90 1 0 w3.length,.func (.func 34) [.loc 2 1 0 0,.loc 3 1 0 0,.loc 10 1 0 0,.loc 11 1 0 0]]),(57,.p (.int .i64 (vip.wrap (v7+1)))),(58,.p (.int .u64 (vi4.wrap ((BitVec.ofInt 64 i8 ||| (BitVec.ofInt 64 (vi4.wrap (1 * 2 ^ (min (v7).toNat 64))))).toNat:Int)))),(59,.p (.int .u64 o9))],[(2,.arr 28 2 1 [.p (qaa h1)]),(3,.arr 25 1 1 [.p (.slc (vhj (vk2 .i64) l2))]),(10,.arr 25 1 1 [.p (.slc (vhj (vk2 .i64) u5))]),(11,.arr 4 1 1 [.p (.bool m6)]),(90,.arr 96 1 1 (vhj AV.p (vhj (vk2 .u64) w3))),(98,.arr 109 3 1 [.agg [.p (.int .i64 (h1.Vertices.length:Int)),.own 90 1 0 w3.length,.func (.func 34) [.loc 2 1 0 0,.loc 3 1 0 0,.loc 10 1 0 0,.loc 11 1 0 0]]])]⟩ ?_
 refine zM ⟨[(1,.p (.int .i64 v7)),(2,.p (.int .u64 i8)),(3,.p (.int .u64 o9)),(4,.loc 98 1 0 0),(54,.p (.bool true)),(55,.agg [.p (.int .i64 (h1.Vertices.length:Int)),.own 90 1 0 w3.length,.func (.func 34) [.loc 2 1 0 0,.loc 3 1 0 0,.loc 10 1 0 0,.loc 11 1 0 0]]),(57,.p (.int .i64 (vip.wrap (v7+1)))),(58,.p (.int .u64 (vi4.wrap ((BitVec.ofInt 64 i8 ||| (BitVec.ofInt 64 (vi4.wrap (1 * 2 ^ (min (v7).toNat 64))))).toNat:Int)))),(59,.p (.int .u64 o9))],[(2,.arr 28 2 1 [.p (qaa h1)]),(3,.arr 25 1 1 [.p (.slc (vhj (vk2 .i64) l2))]),(10,.arr 25 1 1 [.p (.slc (vhj (vk2 .i64) u5))]),(11,.arr 4 1 1 [.p (.bool m6)]),(90,.arr 96 1 1 (vhj AV.p (vhj (vk2 .u64) w3))),(98,.arr 109 3 1 [.agg [.p (.int .i64 (h1.Vertices.length:Int)),.own 90 1 0 w3.length,.func (.func 34) [.loc 2 1 0 0,.loc 3 1 0 0,.loc 10 1 0 0,.loc 11 1 0 0]]])]⟩ ?_
 obtain ⟨o51,h52,h⟩:=zB h
 obtain ⟨t53,u54,m55⟩:=o51
 try simp only at h
 refine zIp [] (hrec_3690 u5 m6 (vip.wrap (v7+1)) (vi4.wrap ((BitVec.ofInt 64 i8 ||| (BitVec.ofInt 64 (vi4.wrap (1 * 2 ^ (min (v7).toNat 64))))).toNat:Int)) o9 t53 u54 m55 h52) ?_
 clear h52
 refine zM ⟨[(1,.p (.int .i64 v7)),(2,.p (.int .u64 i8)),(3,.p (.int .u64 o9)),(4,.loc 98 1 0 0),(54,.p (.bool true)),(60,.p (.bool t53))],[(2,.arr 28 2 1 [.p (qaa h1)]),(3,.arr 25 1 1 [.p (.slc (vhj (vk2 .i64) l2))]),(10,.arr 25 1 1 [.p (.slc (vhj (vk2 .i64) u54))]),(11,.arr 4 1 1 [.p (.bool m55)]),(90,.arr 96 1 1 (vhj AV.p (vhj (vk2 .u64) w3))),(98,.arr 109 3 1 [.agg [.p (.int .i64 (h1.Vertices.length:Int)),.own 90 1 0 w3.length,.func (.func 34) [.loc 2 1 0 0,.loc 3 1 0 0,.loc 10 1 0 0,.loc 11 1 0 0]]])]⟩ ?_
 refine zg ?_
 refine zU<|zl<|zn ?_
 obtain ⟨h56,h⟩|⟨h56,h⟩:=zI h
 refine zj<|zk<|zn<|zs ?_
 refine zdl 8 ?_
 refine yU ?_
 refine ydl ?_
 refine zM ⟨[(63,.agg [.p (.int .i64 (h1.Vertices.length:Int)),.own 90 1 0 w3.length,.func (.func 34) [.loc 2 1 0 0,.loc 3 1 0 0,.loc 10 1 0 0,.loc 11 1 0 0]]),(65,.p (.int .i64 (vip.wrap (v7+1)))),(66,.p (.int .u64 i8)),(70,.p (.int .u64 (vi4.wrap ((BitVec.ofInt 64 o9 ||| (BitVec.ofInt 64 (vi4.wrap (1 * 2 ^ (min (v7).toNat 64))))).toNat:Int))))],[(2,.arr 28 2 1 [.p (qaa h1)]),(3,.arr 25 1 1 [.p (.slc (vhj (vk2 .i64) l2))]),(10,.arr 25 1 1 [.p (.slc (vhj (vk2 .i64) u54))]),(11,.arr 4 1 1 [.p (.bool m55)]),(90,.arr 96 1 1 (vhj AV.p (vhj (vk2 .u64) w3)))]⟩ ?_
 refine zM ⟨[(63,.agg [.p (.int .i64 (h1.Vertices.length:Int)),.own 90 1 0 w3.length,.func (.func 34) [.loc 2 1 0 0,.loc 3 1 0 0,.loc 10 1 0 0,.loc 11 1 0 0]]),(65,.p (.int .i64 (vip.wrap (v7+1)))),(66,.p (.int .u64 i8)),(70,.p (.int .u64 (vi4.wrap ((BitVec.ofInt 64 o9 ||| (BitVec.ofInt 64 (vi4.wrap (1 * 2 ^ (min (v7).toNat 64))))).toNat:Int))))],[(2,.arr 28 2 1 [.p (qaa h1)]),(3,.arr 25 1 1 [.p (.slc (vhj (vk2 .i64) l2))]),(10,.arr 25 1 1 [.p (.slc (vhj (vk2 .i64) u54))]),(11,.arr 4 1 1 [.p (.bool m55)]),(90,.arr 96 1 1 (vhj AV.p (vhj (vk2 .u64) w3)))]⟩ ?_
 obtain ⟨o57,h58,h⟩:=zB h
 obtain ⟨t59,u60,m61⟩:=o57
 try simp only at h
 refine zIp [] (hrec_3690 u54 m55 (vip.wrap (v7+1)) i8 (vi4.wrap ((BitVec.ofInt 64 o9 ||| (BitVec.ofInt 64 (vi4.wrap (1 * 2 ^ (min (v7).toNat 64))))).toNat:Int)) t59 u60 m61 h58) ?_
 clear h58
 refine zM ⟨[(71,.p (.bool t59))],[(2,.arr 28 2 1 [.p (qaa h1)]),(3,.arr 25 1 1 [.p (.slc (vhj (vk2 .i64) l2))]),(10,.arr 25 1 1 [.p (.slc (vhj (vk2 .i64) u60))]),(11,.arr 4 1 1 [.p (.bool m61)]),(90,.arr 96 1 1 (vhj AV.p (vhj (vk2 .u64) w3)))]⟩ ?_
 refine zU<|zl<|zn<|zq ?_
 cases h
 exact ⟨rfl,zE⟩
 refine zi<|zs<|zr ?_
 refine zU<|zl<|zn<|zq<|zt ?_
 cases h
 exact ⟨rfl,zE⟩
 try simp only at h
 refine zA<|yr<|zt ?_
 cases h
 exact ⟨rfl,zE⟩
theorem qjk {D:Prop} (h_3021:Hypergraph) (l_3022:List Int) (w_3470:List Int) (n:Nat):∀(u_3612:List Int) (more_3613:Bool) (v_3614:Int) (in_3615:Int) (out_3616:Int) (t8_3533:Bool) (u_3534:List Int) (more_3535:Bool),q7k (qbf h_3021 l_3022 w_3470) n (u_3612,more_3613,v_3614,in_3615,out_3616)=some (t8_3533,u_3534,more_3535)→Ip D Tryz.prog 36 [.agg [.p (.int .i64 (h_3021.Vertices.length:Int)),.own 90 1 0 w_3470.length,.func (.func 34) [.loc 2 1 0 0,.loc 3 1 0 0,.loc 10 1 0 0,.loc 11 1 0 0]],.p (.int .i64 v_3614),.p (.int .u64 in_3615),.p (.int .u64 out_3616)] [(2,.arr 28 2 1 [.p (qaa h_3021)]),(3,.arr 25 1 1 [.p (.slc (vhj (vk2 .i64) l_3022))]),(10,.arr 25 1 1 [.p (.slc (vhj (vk2 .i64) u_3612))]),(11,.arr 4 1 1 [.p (.bool more_3613)]),(90,.arr 96 1 1 (vhj AV.p (vhj (vk2 .u64) w_3470)))] (.p (.bool t8_3533)) [(2,.arr 28 2 1 [.p (qaa h_3021)]),(3,.arr 25 1 1 [.p (.slc (vhj (vk2 .i64) l_3022))]),(10,.arr 25 1 1 [.p (.slc (vhj (vk2 .i64) u_3534))]),(11,.arr 4 1 1 [.p (.bool more_3535)]),(90,.arr 96 1 1 (vhj AV.p (vhj (vk2 .u64) w_3470)))]:=by
  induction n with
  | zero=>intro u_3612 more_3613 v_3614 in_3615 out_3616 t8_3533 u_3534 more_3535 h;cases h
  | succ n ih=>intro u_3612 more_3613 v_3614 in_3615 out_3616 t8_3533 u_3534 more_3535 h;exact qj5 h_3021 l_3022 w_3470 _ ih u_3612 more_3613 v_3614 in_3615 out_3616 t8_3533 u_3534 more_3535 h
theorem qmc {D:Prop} (h1:Hypergraph) (l2:List Int) (r3:List Int×Bool×Int) (h:qeu h1 l2=some r3):Con D Tryz.prog 10 [(qaa h1),(.slc (vhj (vk2 .i64) l2))] (.tup [(.slc (vhj (vk2 .i64) r3.1)),(.bool r3.2.1),(.int .i64 r3.2.2)]):=by
 refine zP call10 func10 rfl ntmps10 fun X w hT=>?_
 simp only [qeu] at h
 refine zs<|zr ?_
 refine zU<|zl<|zn<|zs<|zs<|zr ?_
 refine zU ?_
 obtain ⟨r4,h5,h⟩:=zB h
 refine zc (qcz h1 _ h5) ?_
 refine zU<|zl<|zn<|zs<|zr ?_
 refine zU<|zl<|zn ?_
 obtain ⟨h6,h⟩|⟨h6,h⟩:=zI h
 refine zi<|zs<|zr ?_
 refine zU<|zl<|zn<|zq<|zt ?_
 cases h
 exact zT results10
 have h6F:=vgy.2 h6
 refine zj<|zk<|zn<|zs<|zs<|zr ?_
 refine zU<|zl<|zn<|zb ?_
 obtain ⟨o7,h8,h⟩:=zB h
 refine zO (fun (s:Int)=>⟨[(2,.loc 2 1 0 0),(3,.loc 3 1 0 0),(17,.p (.slc (vhj (vk2 .i64) l2))),(18,.p (.int .i64 (l2.length:Int))),(19,.p (.int .i64 s))],[(2,.arr 28 2 1 [.p (qaa h1)]),(3,.arr 25 1 1 [.p (.slc (vhj (vk2 .i64) l2))])]⟩) (fun (o:(Unit) ⊕ (List Int×Bool×Int))=>match o with | .inl o9=>tE (cX Tryz.f10 X w D hT) (.exit 0) ⟨[(2,.loc 2 1 0 0),(3,.loc 3 1 0 0)],[(2,.arr 28 2 1 [.p (qaa h1)]),(3,.arr 25 1 1 [.p (.slc (vhj (vk2 .i64) l2))])]⟩ | .inr o10=>tR Tryz.prog Tryz.f10 (.tup [(.slc (vhj (vk2 .i64) o10.1)),(.bool o10.2.1),(.int .i64 o10.2.2)])) h8 ?_ ?_
 clear h h5 h6 h6F h8
 intro t11 x h
 simp only [qdr] at h
 refine zs<|zr ?_
 refine zU<|zl<|zn<|zs ?_
 obtain ⟨h12,h⟩|⟨h12,h⟩:=zI h
 refine zi<|zk<|zn<|zs<|zb<|zs<|zr ?_
 obtain ⟨x13,h14,h14a,h14b,h⟩:=zX h
 refine zU<|zl<|zn<|zs<|zr ?_
 refine zU ?_
 obtain ⟨h15,h⟩|⟨h15,h⟩:=zI h
 refine zw 26 true ?_
 refine zg ?_
 refine zg ?_
 refine zg ?_
 refine zg ?_
 obtain ⟨x16,h17,h17a,h17b,h⟩:=zX h
 refine zg ?_
 refine zg ?_
 refine zg ?_
 refine zU ?_
 obtain ⟨h18,h⟩|⟨h18,h⟩:=zI h
 refine zw 35 true ?_
 refine zh ?_
 refine zU<|zl<|zn ?_
 refine zi<|zs<|zr ?_
 refine zU<|zl<|zn<|zq<|yr<|zt ?_
 cases h
 exact ⟨rfl,zT results10⟩
 refine zw 35 false ?_
 refine zg ?_
 refine zg ?_
 refine zg ?_
 obtain ⟨r19,h20,h⟩:=zB h
 refine zc (qci h1.Vertices x13 _ h20) ?_
 refine zg ?_
 refine zU<|zl<|zn ?_
 obtain ⟨h21,h⟩|⟨h21,h⟩:=zI h
 refine zj<|zk<|yn<|zn<|zr ?_
 refine zU<|zl ?_
 cases h
 exact ⟨rfl,zE⟩
 refine zi<|zs<|zr ?_
 refine zU<|zl<|zn<|zq<|yr<|zt ?_
 cases h
 exact ⟨rfl,zT results10⟩
 refine zw 26 false ?_
 refine zh ?_
 refine zU ?_
 refine zg ?_
 refine zg ?_
 refine zg ?_
 obtain ⟨r22,h23,h⟩:=zB h
 refine zc (qci h1.Vertices x13 _ h23) ?_
 refine zg ?_
 refine zU<|zl<|zn ?_
 obtain ⟨h24,h⟩|⟨h24,h⟩:=zI h
 refine zj<|zk<|yn<|zn<|zr ?_
 refine zU<|zl ?_
 cases h
 exact ⟨rfl,zE⟩
 refine zi<|zs<|zr ?_
 refine zU<|zl<|zn<|zq<|yr<|zt ?_
 cases h
 exact ⟨rfl,zT results10⟩
 refine zj<|zx<|ze ?_
 cases h
 exact ⟨rfl,zE⟩
 rcases o7 with ⟨⟩ | r25
 try simp only at h
 refine zA<|yh<|zn<|zs<|zr ?_
 refine zU<|zl<|zn<|zs<|zr ?_
 refine zU<|zl<|zn<|zs<|zr ?_
 refine zU ?_
 refine zM ⟨[(10,.loc 10 1 0 0),(11,.loc 11 1 0 0),(43,.p (qaa h1)),(44,.func (.func 34) [.loc 2 1 0 0,.loc 3 1 0 0,.loc 10 1 0 0,.loc 11 1 0 0])],[(2,.arr 28 2 1 [.p (qaa h1)]),(3,.arr 25 1 1 [.p (.slc (vhj (vk2 .i64) l2))]),(10,.arr 25 1 1 [.nils]),(11,.arr 4 1 1 [.p (.bool false)])]⟩ ?_
 refine qgv (avs:=[.p (qaa h1),.func (.func 34) [.loc 2 1 0 0,.loc 3 1 0 0,.loc 10 1 0 0,.loc 11 1 0 0]]) 49 rfl (qcb rfl) rfl func33 rfl call33 ntmps33 (by simp) (by simp only [go_sem,seval,h6F];all_goals rfl) ?_
 intro i26 w27 h28
 show AWp _ _ _ ⟨[(0,.p (qaa h1)),(1,.func (.func 34) [.loc 2 1 0 0,.loc 3 1 0 0,.loc 10 1 0 0,.loc 11 1 0 0])],[(2,.arr 28 2 1 [.p (qaa h1)]),(3,.arr 25 1 1 [.p (.slc (vhj (vk2 .i64) l2))]),(10,.arr 25 1 1 [.nils]),(11,.arr 4 1 1 [.p (.bool false)])]⟩
 refine zs<|zr ?_
 refine zU<|zl<|zn<|zs<|zr ?_
 refine zU<|zl<|zn<|zs<|zs<|zr ?_
 refine zU<|zl<|zn<|zb ?_
 obtain ⟨w29,h30,h⟩:=zB h
 refine zO (fun (s:List Int×Int)=>⟨[(2,.loc 51 1 0 0),(4,.loc 53 1 0 0),(5,.loc 54 1 0 0),(17,.p (.slc (vhj (qc1 (vk2 .i64)) h1.Edges))),(18,.p (.int .i64 (h1.Edges.length:Int))),(19,.p (.int .i64 s.2))],[(2,.arr 28 2 1 [.p (qaa h1)]),(3,.arr 25 1 1 [.p (.slc (vhj (vk2 .i64) l2))]),(10,.arr 25 1 1 [.nils]),(11,.arr 4 1 1 [.p (.bool false)]),(51,.arr 28 2 1 [.p (qaa h1)]),(53,.arr 109 3 1 [.agg [.p (.int .i64 0),.nils,.p (.nilf)]]),(54,.arr 109 3 1 [.agg [.p (.int .i64 (h1.Vertices.length:Int)),.own 90 1 0 s.1.length,.func (.func 34) [.loc 2 1 0 0,.loc 3 1 0 0,.loc 10 1 0 0,.loc 11 1 0 0]]]),(90,.arr 96 1 1 (vhj AV.p (vhj (vk2 .u64) s.1)))]⟩) (fun (o31:List Int)=>tE ⟨Tryz.prog,45,49,X,[(2,.arr 28 2 1 [.p (qaa h1)]),(3,.arr 25 1 1 [.p (.slc (vhj (vk2 .i64) l2))]),(10,.arr 25 1 1 [.nils]),(11,.arr 4 1 1 [.p (.bool false)])],i26,w27,D,h28⟩ (.exit 0) ⟨[(4,.loc 53 1 0 0),(5,.loc 54 1 0 0)],[(2,.arr 28 2 1 [.p (qaa h1)]),(3,.arr 25 1 1 [.p (.slc (vhj (vk2 .i64) l2))]),(10,.arr 25 1 1 [.nils]),(11,.arr 4 1 1 [.p (.bool false)]),(53,.arr 109 3 1 [.agg [.p (.int .i64 0),.nils,.p (.nilf)]]),(54,.arr 109 3 1 [.agg [.p (.int .i64 (h1.Vertices.length:Int)),.own 90 1 0 o31.length,.func (.func 34) [.loc 2 1 0 0,.loc 3 1 0 0,.loc 10 1 0 0,.loc 11 1 0 0]]]),(90,.arr 96 1 1 (vhj AV.p (vhj (vk2 .u64) o31)))]⟩) h30 ?_ ?_
 clear h h5 h6 h6F h8 h30
 intro s x h
 obtain ⟨w32,t33⟩:=s
 simp only [qfg] at h
 dsimp only
 refine zs<|zr ?_
 refine zU<|zl<|zn<|zs ?_
 obtain ⟨h34,h⟩|⟨h34,h⟩:=zI h
 refine zi<|zk<|zn<|zs<|zb<|zs<|zr ?_
 obtain ⟨x35,h36,h36a,h36b,h⟩:=zX h
 refine zU<|zl<|zn<|zs<|zr ?_
 refine zU<|zl<|zn<|zs<|zs<|zr ?_
 refine zU<|zl<|zn<|zb ?_
 obtain ⟨b37,h38,h⟩:=zB h
 refine zO (fun (s:Int×Int)=>⟨[(2,.loc 51 1 0 0),(4,.loc 53 1 0 0),(5,.loc 54 1 0 0),(8,.p (.int .u64 s.1)),(17,.p (.slc (vhj (qc1 (vk2 .i64)) h1.Edges))),(18,.p (.int .i64 (h1.Edges.length:Int))),(19,.p (.int .i64 t33)),(23,.p (.slc (vhj (vk2 .i64) x35))),(24,.p (.int .i64 (x35.length:Int))),(25,.p (.int .i64 s.2))],[(2,.arr 28 2 1 [.p (qaa h1)]),(3,.arr 25 1 1 [.p (.slc (vhj (vk2 .i64) l2))]),(10,.arr 25 1 1 [.nils]),(11,.arr 4 1 1 [.p (.bool false)]),(51,.arr 28 2 1 [.p (qaa h1)]),(53,.arr 109 3 1 [.agg [.p (.int .i64 0),.nils,.p (.nilf)]]),(54,.arr 109 3 1 [.agg [.p (.int .i64 (h1.Vertices.length:Int)),.own 90 1 0 w32.length,.func (.func 34) [.loc 2 1 0 0,.loc 3 1 0 0,.loc 10 1 0 0,.loc 11 1 0 0]]]),(90,.arr 96 1 1 (vhj AV.p (vhj (vk2 .u64) w32)))]⟩) (fun (o39:Int)=>tE ⟨Tryz.prog,45,49,X,[(2,.arr 28 2 1 [.p (qaa h1)]),(3,.arr 25 1 1 [.p (.slc (vhj (vk2 .i64) l2))]),(10,.arr 25 1 1 [.nils]),(11,.arr 4 1 1 [.p (.bool false)])],i26,w27,D,h28⟩ (.exit 2) ⟨[(2,.loc 51 1 0 0),(4,.loc 53 1 0 0),(5,.loc 54 1 0 0),(8,.p (.int .u64 o39)),(17,.p (.slc (vhj (qc1 (vk2 .i64)) h1.Edges))),(18,.p (.int .i64 (h1.Edges.length:Int))),(19,.p (.int .i64 t33))],[(2,.arr 28 2 1 [.p (qaa h1)]),(3,.arr 25 1 1 [.p (.slc (vhj (vk2 .i64) l2))]),(10,.arr 25 1 1 [.nils]),(11,.arr 4 1 1 [.p (.bool false)]),(51,.arr 28 2 1 [.p (qaa h1)]),(53,.arr 109 3 1 [.agg [.p (.int .i64 0),.nils,.p (.nilf)]]),(54,.arr 109 3 1 [.agg [.p (.int .i64 (h1.Vertices.length:Int)),.own 90 1 0 w32.length,.func (.func 34) [.loc 2 1 0 0,.loc 3 1 0 0,.loc 10 1 0 0,.loc 11 1 0 0]]]),(90,.arr 96 1 1 (vhj AV.p (vhj (vk2 .u64) w32)))]⟩) h38 ?_ ?_
 clear h h34 h36 h36a h36b h38
 intro s x h
 obtain ⟨b40,t41⟩:=s
 simp only [qhm] at h
 dsimp only
 refine zs<|zr ?_
 refine zU<|zl<|zn<|zs ?_
 obtain ⟨h42,h⟩|⟨h42,h⟩:=zI h
 refine zi<|zk<|zn<|zs<|zb<|zs<|zr ?_
 obtain ⟨x43,h44,h44a,h44b,h⟩:=zX h
 refine zU<|zl<|zn<|zr ?_
 refine zU ?_
 obtain ⟨r45,h46,h⟩:=zB h
 refine zc (qc0 h1.Vertices x43 _ h46) ?_
 obtain ⟨h47,h⟩:=qem h
 refine zU<|zl<|yn<|zn<|zr ?_
 refine zU<|zl ?_
 cases h
 exact ⟨rfl,zE⟩
 refine zj<|zx<|ze ?_
 cases h
 exact ⟨rfl,zE⟩
 try simp only at h
 refine zA<|yh<|zn<|zr ?_
 obtain ⟨h48,h⟩:=qa1 h
 refine zU<|zl<|yn<|zn<|zr ?_
 refine zU<|zl ?_
 cases h
 exact ⟨rfl,zE⟩
 refine zj<|zx<|ze ?_
 cases h
 exact ⟨rfl,zE⟩
 try simp only at h
 refine zA<|yh<|zn<|zs<|zr ?_
 refine zU<|zl<|zn<|zq ?_
 refine qgf (by simp only [results33];simp only [go_sem,seval,h6F];exact rfl) ?_
 refine zM ⟨[(10,.loc 10 1 0 0),(11,.loc 11 1 0 0),(45,.agg [.p (.int .i64 (h1.Vertices.length:Int)),.own 90 1 0 w29.length,.func (.func 34) [.loc 2 1 0 0,.loc 3 1 0 0,.loc 10 1 0 0,.loc 11 1 0 0]])],[(2,.arr 28 2 1 [.p (qaa h1)]),(3,.arr 25 1 1 [.p (.slc (vhj (vk2 .i64) l2))]),(10,.arr 25 1 1 [.nils]),(11,.arr 4 1 1 [.p (.bool false)]),(90,.arr 96 1 1 (vhj AV.p (vhj (vk2 .u64) w29)))]⟩ ?_
 refine zM ⟨[(10,.loc 10 1 0 0),(11,.loc 11 1 0 0),(45,.agg [.p (.int .i64 (h1.Vertices.length:Int)),.own 90 1 0 w29.length,.func (.func 34) [.loc 2 1 0 0,.loc 3 1 0 0,.loc 10 1 0 0,.loc 11 1 0 0]])],[(2,.arr 28 2 1 [.p (qaa h1)]),(3,.arr 25 1 1 [.p (.slc (vhj (vk2 .i64) l2))]),(10,.arr 25 1 1 [.p (.slc (vhj (vk2 .i64) []))]),(11,.arr 4 1 1 [.p (.bool false)]),(90,.arr 96 1 1 (vhj AV.p (vhj (vk2 .u64) w29)))]⟩ ?_
 obtain ⟨o49,h50,h⟩:=zB h
 obtain ⟨t51,u52,m53⟩:=o49
 try simp only at h
 refine zIp [] (qjk h1 l2 w29 64 [] false 0 0 0 t51 u52 m53 h50) ?_
 clear h50
 refine zM ⟨[(10,.loc 10 1 0 0),(11,.loc 11 1 0 0),(46,.p (.bool t51))],[(10,.arr 25 1 1 [.p (.slc (vhj (vk2 .i64) u52))]),(11,.arr 4 1 1 [.p (.bool m53)])]⟩ ?_
 refine zl<|zn<|zs<|zd ?_
 refine yU ?_
 refine yd<|zn<|zq ?_
 cases h
 exact zT results10
 try simp only at h
 refine zZ fun s hq=>?_
 refine yr<|zt ?_
 cases h
 exact hq
theorem qhq {D:Prop} (a1:List Int) (b2:List Int) (r3:Bool) (h:qd8 a1 b2=some r3):Con D Tryz.prog 11 [(.slc (vhj (vk2 .i64) a1)),(.slc (vhj (vk2 .i64) b2))] (.bool r3):=by
 refine zP call11 func11 rfl ntmps11 fun X w hT=>?_
 simp only [qd8] at h
 refine zs<|zr ?_
 refine zU<|zl<|zn<|zs<|zs<|zr ?_
 refine zU<|zl<|zn ?_
 obtain ⟨h4,h⟩|⟨h4,h⟩:=zI h
 refine zi<|zs<|zr ?_
 refine zU<|zl<|zn<|zq<|zt ?_
 cases h
 exact zT results11
 refine zj<|zk<|zn<|zs<|zs<|zr ?_
 refine zU<|zl<|zn<|zb ?_
 obtain ⟨o5,h6,h⟩:=zB h
 refine zO (fun (s:Int)=>⟨[(0,.p (.slc (vhj (vk2 .i64) a1))),(1,.p (.slc (vhj (vk2 .i64) b2))),(5,.p (.int .i64 s))],[]⟩) (fun (o:(Unit) ⊕ (Bool))=>match o with | .inl o7=>tE (cX Tryz.f11 X w D hT) (.exit 0) ⟨[],[]⟩ | .inr o8=>tR Tryz.prog Tryz.f11 (.bool o8)) h6 ?_ ?_
 clear h h4 h6
 intro i9 x h
 simp only [qds] at h
 refine zs<|zs<|zr ?_
 refine zU<|zl<|zn ?_
 obtain ⟨h10,h⟩|⟨h10,h⟩:=zI h
 refine zi<|zk<|zn<|zs<|zb<|zs<|zd ?_
 obtain ⟨x11,h12,h12a,h12b,h⟩:=zX h
 obtain ⟨x13,h14,h14a,h14b,h⟩:=zX h
 refine yU ?_
 refine yd<|zn ?_
 obtain ⟨h15,h⟩|⟨h15,h⟩:=zI h
 refine zi<|zs<|zr ?_
 refine zU<|zl<|zn<|zq<|yr<|zt ?_
 cases h
 exact ⟨rfl,zT results11⟩
 refine zj<|zk<|yn<|zn<|zr ?_
 refine zU<|zl ?_
 cases h
 exact ⟨rfl,zE⟩
 refine zj<|zx<|ze ?_
 cases h
 exact ⟨rfl,zE⟩
 rcases o5 with ⟨⟩ | r16
 try simp only at h
 refine zA<|yh<|zn<|zs<|zr ?_
 refine zU<|zl<|zn<|zq ?_
 cases h
 exact zT results11
 try simp only at h
 refine zZ fun s hq=>?_
 refine yr<|zt ?_
 cases h
 exact hq
end Go.Proofs.YtgklegblfboelaaGreatDoor
namespace Go.Proofs
open Go Go.Ab Go.Shelf Tryz
def YtgklegblfboelaaGreatDoor.clone40_ren:Go.Shelf.Ren:=⟨fun | 41=>40 | n=>n,fun | 22=>25 | 23=>2 | 4=>4 | n=>n,fun | n=>n⟩
theorem YtgklegblfboelaaGreatDoor.clone40:Go.Proofs.SlLaysE0.n41 Tryz.prog YtgklegblfboelaaGreatDoor.clone40_ren:={
  mixed:=by kernel_rfl
  f41:=⟨Tryz.f40.name,by decide,func40.trans (congrArg some (by kernel_rfl))⟩
  t4:=underlying4
  a4:=isAgg4
  z4:=sizeOf4
  v4:=zeroValue4
  t22:=underlying25
  a22:=isAgg25
  z22:=sizeOf25
  v22:=zeroValue25 }
def YtgklegblfboelaaGreatDoor.clone210_ren:Go.Shelf.Ren:=⟨fun | 41=>210 | n=>n,fun | 22=>50 | 23=>57 | 4=>4 | n=>n,fun | n=>n⟩
theorem YtgklegblfboelaaGreatDoor.clone210:Go.Proofs.SlLaysE0.n41 Tryz.prog YtgklegblfboelaaGreatDoor.clone210_ren:={
  mixed:=by kernel_rfl
  f41:=⟨Tryz.f210.name,by decide,func210.trans (congrArg some (by kernel_rfl))⟩
  t4:=underlying4
  a4:=isAgg4
  z4:=sizeOf4
  v4:=zeroValue4
  t22:=underlying50
  a22:=isAgg50
  z22:=sizeOf50
  v22:=zeroValue50 }
theorem YtgklegblfboelaaGreatDoor.cln40:Cln Tryz.prog 40 2 1 8:=AbE.cln YtgklegblfboelaaGreatDoor.clone40 call40 Tryz.t2 _ _ _ (by kernel_rfl) rfl rfl rfl rfl (by decide)
theorem YtgklegblfboelaaGreatDoor.cln210:Cln Tryz.prog 210 57 2 32:=AbE.cln YtgklegblfboelaaGreatDoor.clone210 call210 Tryz.t57 _ _ _ (by kernel_rfl) rfl rfl rfl rfl (by decide)
def YtgklegblfboelaaGreatDoor.ins39_ren:Go.Shelf.Ren:=⟨fun | 22=>39 | 29=>73 | 30=>74 | n=>n,fun | 24=>25 | 9=>2 | 3=>3 | 4=>4 | 0=>0 | n=>n,fun | n=>n⟩
theorem YtgklegblfboelaaGreatDoor.ins39_lay:InsLay Tryz.prog YtgklegblfboelaaGreatDoor.ins39_ren:={
  mixed:=by kernel_rfl
  fi:=⟨Tryz.f39.name,func39.trans (congrArg some (by kernel_rfl))⟩
  fo:=fun args w=>by
    show (callFunc 73 args).run Tryz.prog w=_;rw [run_callFunc_extern func73 (by kernel_rfl) (by kernel_rfl) (by kernel_rfl) (e:=Extern.SlicesOverlaps.overlaps #[25,25] #[4]) (by kernel_rfl)];rfl
  t0:=underlying0
  a0:=isAgg0
  z0:=sizeOf0
  v0:=zeroValue0
  t3:=underlying3
  a3:=isAgg3
  z3:=sizeOf3
  v3:=zeroValue3
  t4:=underlying4
  a4:=isAgg4
  z4:=sizeOf4
  v4:=zeroValue4
  t24:=underlying25
  a24:=isAgg25
  z24:=sizeOf25
  v24:=zeroValue25
  z9:=sizeOf2
  i9:=⟨Tryz.t2,.int .i64 0,by kernel_rfl,rfl,rfl,by decide,rfl⟩ }
theorem YtgklegblfboelaaGreatDoor.ins39:InsK Tryz.prog 39 2:=⟨⟨YtgklegblfboelaaGreatDoor.ins39_ren,YtgklegblfboelaaGreatDoor.ins39_lay,rfl,rfl⟩,call39,by kernel_rfl,by kernel_rfl,by kernel_rfl,by kernel_rfl⟩
end Go.Proofs
namespace Go.Proofs.YtgklegblfboelaaGreatDoor
open Go Go.Ab Tryz
theorem qhb {D:Prop} (m1:List Int) (c2:List Int) (r3:Bool) (h:qbn m1 c2=some r3):Con D Tryz.prog 70 [(.slc (vhj (vk2 .i64) m1)),.imm [.slc (vhj (vk2 .i64) c2)]] (.bool r3):=by
 refine zP call70 func70 rfl ntmps70 fun X w hT=>?_
 simp only [qbn] at h
 refine zs<|zr ?_
 refine zU<|zl<|zn<|zs<|zr ?_
 refine zU ?_
 obtain ⟨r4,h5,h⟩:=zB h
 refine zc (qc8 c2 m1 _ h5) ?_
 refine zU<|zl<|zn<|zq ?_
 cases h
 exact zT results70
theorem qe5 {D:Prop} (h1:Hypergraph) (l2:List Int) (r3:Bool) (h:qb7 h1 l2=some r3):Con D Tryz.prog 37 [(qaa h1),(.slc (vhj (vk2 .i64) l2))] (.bool r3):=by
 refine zP call37 func37 rfl ntmps37 fun X w hT=>?_
 simp only [qb7] at h
 refine zs<|zr ?_
 refine zU<|zl<|zn<|zs<|zs<|zr ?_
 refine zU ?_
 obtain ⟨r4,h5,h⟩:=zB h
 refine zc (qeb l2 _ h5) ?_
 refine zU ?_
 obtain ⟨h6,h⟩|⟨h6,h⟩:=zI h
 refine zw 8 false ?_
 refine zg ?_
 refine zg ?_
 refine zg ?_
 obtain ⟨r7,h8,h⟩:=zB h
 refine zc (qc8 h1.Vertices l2 _ h8) ?_
 refine zg ?_
 refine zU<|zl<|zn ?_
 obtain ⟨h9,h⟩|⟨h9,h⟩:=zI h
 refine zj<|zk<|zn<|zs<|zr ?_
 refine zU ?_
 obtain ⟨r10,h11,h⟩:=zB h
 refine zc (qbi h1.Edges (fun (y12:List Int)=>qbn y12 l2) 70 [.imm [.slc (vhj (vk2 .i64) l2)]] (fun y12 r h=>qhb y12 l2 r h) _ h11) ?_
 refine zU<|zl<|zn<|zq ?_
 cases h
 exact zT results37
 refine zi<|zs<|zr ?_
 refine zU<|zl<|zn<|zq<|zt ?_
 cases h
 exact zT results37
 refine zw 8 true ?_
 refine zh ?_
 refine zU<|zl<|zn ?_
 refine zi<|zs<|zr ?_
 refine zU<|zl<|zn<|zq<|zt ?_
 cases h
 exact zT results37
theorem qf9 (h1:Hypergraph) (l3:List Int) (r4:Bool) (h:qc3 h1 l3=some r4):Con False Tryz.prog 12 [(qaa h1),(.slc (vhj (vk2 .i64) l3))] (.bool r4):=by
 refine zP call12 func12 rfl ntmps12 fun X w hT=>?_
 simp only [qc3] at h
 refine zs<|zr ?_
 refine zU<|zl<|zn<|zs<|zs<|zr ?_
 refine zU ?_
 obtain ⟨r5,h6,h⟩:=zB h
 refine zc (qe5 h1 l3 _ h6) ?_
 refine zU<|zl<|zn ?_
 obtain ⟨h7,h⟩|⟨h7,h⟩:=zI h
 refine zj<|zk<|zn<|zs<|zs<|zr ?_
 refine zU<|zl<|zn<|zb ?_
 obtain ⟨o8,h9,h⟩:=zB h
 refine zO (fun (s:Int)=>⟨[(1,.p (.slc (vhj (vk2 .i64) l3))),(2,.loc 2 1 0 0),(14,.p (.slc (vhj (vk2 .i64) h1.Vertices))),(15,.p (.int .i64 (h1.Vertices.length:Int))),(16,.p (.int .i64 s))],[(2,.arr 28 2 1 [.p (qaa h1)])]⟩) (fun (o:(Unit) ⊕ (Bool))=>match o with | .inl o10=>tE (cX Tryz.f12 X w False hT) (.exit 0) ⟨[],[]⟩ | .inr o11=>tR Tryz.prog Tryz.f12 (.bool o11)) h9 ?_ ?_
 clear h h6 h7 h9
 intro t12 x h
 simp only [qcy] at h
 refine zs<|zr ?_
 refine zU<|zl<|zn<|zs ?_
 obtain ⟨h13,h⟩|⟨h13,h⟩:=zI h
 refine zi<|zk<|zn<|zs<|zb<|zs<|zr ?_
 obtain ⟨x14,h15,h15a,h15b,h⟩:=zX h
 refine zU<|zl<|zn<|zs<|zr ?_
 refine zU ?_
 obtain ⟨r16,h17,h⟩:=zB h
 refine zc (qco l3 x14 _ h17) ?_
 refine zU<|zl<|zn<|zs<|zd ?_
 refine yU ?_
 obtain ⟨h18,h⟩|⟨h18,h⟩:=zI h
 refine yw 28 false ?_
 refine yk ?_
 refine yU ?_
 refine yd<|zn ?_
 refine zj<|zk<|yn<|zn<|zr ?_
 refine zU<|zl ?_
 cases h
 exact ⟨rfl,zE⟩
 refine yw 28 true ?_
 refine yg ?_
 refine yg ?_
 obtain ⟨h19,h⟩:=qa1 h
 refine yK cln40 31 (vk2 .i64) l3 _ rfl ⟨by unfold maxLen;omega,by omega⟩ ?_
 have h20:=@q42 PV
 refine yg ?_
 refine yg ?_
 refine yg ?_
 obtain ⟨h21,h⟩:=qa1 h
 obtain ⟨h22,h⟩:=qa1 h
 refine yI (l:=31) (g:=1) (l2:=34) (g2:=1) ins39 l3 r16.1 x14 h21 h22 h19 ?_
 obtain ⟨r23,h24,h⟩:=zB h
 refine yc (qe5 h1 (qit l3 r16.1.toNat x14) _ h24) ?_
 refine yU ?_
 refine yd<|zn ?_
 obtain ⟨h25,h⟩|⟨h25,h⟩:=zI h
 refine zi<|zs<|zr ?_
 refine zU<|zl<|zn<|zq<|yr<|zt ?_
 cases h
 exact ⟨rfl,zT results12⟩
 refine zj<|zk<|yn<|zn<|zr ?_
 refine zU<|zl ?_
 cases h
 exact ⟨rfl,zE⟩
 refine zj<|zx<|ze ?_
 cases h
 exact ⟨rfl,zE⟩
 rcases o8 with ⟨⟩ | r26
 try simp only at h
 refine zA<|yh<|zn<|zs<|zr ?_
 refine zU<|zl<|zn<|zq ?_
 cases h
 exact zT results12
 try simp only at h
 refine zZ fun s hq=>?_
 refine yr<|zt ?_
 cases h
 exact hq
 refine zi<|zs<|zr ?_
 refine zU<|zl<|zn<|zq<|zt ?_
 cases h
 exact zT results12
theorem qid (g1:Drossref37_Graph) (r2:Bool) (h:qde g1=some r2):Con False Tryz.prog 3 [(qaj g1)] (.bool r2):=by
 refine zP call3 func3 rfl ntmps3 fun X w hT=>?_
 simp only [qde] at h
 refine zs<|zr ?_
 refine zU<|zl<|zn<|zs<|zr ?_
 refine zU ?_
 obtain ⟨r3,h4,h⟩:=zB h
 refine zc (qhw g1 _ h4) ?_
 refine zU<|zl<|zn<|zs ?_
 obtain ⟨t5,h6,h⟩:=zB h
 refine zJ (fun (o7:Bool)=>tE (cX Tryz.f3 X w False hT) .normal ⟨[(3,.loc 3 1 0 0),(34,.p (.bool o7))],[(3,.arr 28 2 1 [.p (qaa r3.1)])]⟩) t5 ?_ ?_
 replace h:=h6
 clear h6
 refine zr ?_
 obtain ⟨r8,h9,h⟩:=zB h
 refine zc (qf8  _ h9) ?_
 refine zU ?_
 obtain ⟨h10,h⟩|⟨h10,h⟩:=zI h
 replace h:=h.symm
 refine zw 31 false ?_
 refine zg ?_
 refine zg ?_
 refine zU<|zl ?_
 cases h
 exact ⟨rfl,zE⟩
 refine zw 31 true ?_
 refine zh ?_
 refine zU<|zl ?_
 cases h
 exact ⟨rfl,zE⟩
 try simp only at h
 refine zA<|zn ?_
 obtain ⟨h11,h⟩|⟨h11,h⟩:=zI h
 refine zi<|zs<|zr ?_
 obtain ⟨r12,h13,h⟩:=zB h
 refine zc (qf8  _ h13) ?_
 refine zU<|zl<|zn<|zq<|zt ?_
 cases h
 exact zT results3
 refine zj<|zk<|zn<|zs<|zr ?_
 refine zU ?_
 obtain ⟨r14,h15,h⟩:=zB h
 refine zc (qmu r3.1 1000 _ h15) ?_
 refine zU<|zl<|zn<|zs<|zr ?_
 refine zU ?_
 obtain ⟨r16,h17,h⟩:=zB h
 refine zc (qk1 r3.1 _ h17) ?_
 refine zU<|zl<|zn<|zs<|zr ?_
 refine zU ?_
 obtain ⟨r18,h19,h⟩:=zB h
 refine zc (qj4 r3.1 _ h19) ?_
 refine zU<|zl<|zn<|zs<|zs<|zr ?_
 refine zU ?_
 obtain ⟨h20,h⟩|⟨h20,h⟩:=zI h
 refine zw 54 true ?_
 refine zh ?_
 refine zU ?_
 refine zh ?_
 refine zU ?_
 refine zh ?_
 refine zU ?_
 refine zh ?_
 refine zU<|zl<|zn ?_
 refine zi<|zs<|zr ?_
 refine zU<|zl<|zn<|zq<|zt ?_
 cases h
 exact zT results3
 refine zw 54 false ?_
 refine zg ?_
 refine zg ?_
 refine zU ?_
 obtain ⟨h21,h⟩|⟨h21,h⟩:=zI h
 refine zw 58 true ?_
 refine zh ?_
 refine zU ?_
 refine zh ?_
 refine zU ?_
 refine zh ?_
 refine zU<|zl<|zn ?_
 refine zi<|zs<|zr ?_
 refine zU<|zl<|zn<|zq<|zt ?_
 cases h
 exact zT results3
 refine zw 58 false ?_
 refine zg ?_
 refine zg ?_
 refine zU ?_
 obtain ⟨h22,h⟩|⟨h22,h⟩:=zI h
 refine zw 62 true ?_
 refine zh ?_
 refine zU ?_
 refine zh ?_
 refine zU<|zl<|zn ?_
 refine zi<|zs<|zr ?_
 refine zU<|zl<|zn<|zq<|zt ?_
 cases h
 exact zT results3
 refine zw 62 false ?_
 refine zg ?_
 refine zg ?_
 refine zg ?_
 refine zg ?_
 refine zU ?_
 obtain ⟨h23,h⟩|⟨h23,h⟩:=zI h
 refine zw 68 true ?_
 refine zh ?_
 refine zU<|zl<|zn ?_
 refine zi<|zs<|zr ?_
 refine zU<|zl<|zn<|zq<|zt ?_
 cases h
 exact zT results3
 refine zw 68 false ?_
 refine zg ?_
 refine zg ?_
 refine zU<|zl<|zn ?_
 obtain ⟨h24,h⟩|⟨h24,h⟩:=zI h
 refine zi<|zs<|zr ?_
 refine zU<|zl<|zn<|zq<|zt ?_
 cases h
 exact zT results3
 refine zj<|zk<|zn<|zs<|zs<|zr ?_
 refine zU<|zl<|zn<|zb ?_
 obtain ⟨o25,h26,h⟩:=zB h
 refine zO (fun (s:Int)=>⟨[(3,.loc 3 1 0 0),(5,.p (.slc (vhj (qc1 (vk2 .i64)) r14.1))),(9,.p (.slc (vhj (vk2 .i64) r18.1))),(10,.p (.slc (vhj (vk2 .i64) r18.2.1))),(72,.p (.slc (vhj (qc1 (vk2 .i64)) r14.1))),(73,.p (.int .i64 (r14.1.length:Int))),(74,.p (.int .i64 s))],[(3,.arr 28 2 1 [.p (qaa r3.1)])]⟩) (fun (o:(Unit) ⊕ (Bool))=>match o with | .inl o27=>tE (cX Tryz.f3 X w False hT) (.exit 0) ⟨[(5,.p (.slc (vhj (qc1 (vk2 .i64)) r14.1))),(9,.p (.slc (vhj (vk2 .i64) r18.1))),(10,.p (.slc (vhj (vk2 .i64) r18.2.1)))],[]⟩ | .inr o28=>tR Tryz.prog Tryz.f3 (.bool o28)) h26 ?_ ?_
 clear h h4 h11 h15 h17 h19 h20 h21 h22 h23 h24 h26
 intro t29 x h
 simp only [qb1] at h
 refine zs<|zr ?_
 refine zU<|zl<|zn<|zs ?_
 obtain ⟨h30,h⟩|⟨h30,h⟩:=zI h
 refine zi<|zk<|zn<|zs<|zb<|zs<|zr ?_
 obtain ⟨x31,h32,h32a,h32b,h⟩:=zX h
 refine zU<|zl<|zn<|zs<|zr ?_
 refine zU ?_
 obtain ⟨r33,h34,h⟩:=zB h
 refine zc (qne r3.1 t29 _ h34) ?_
 refine zU<|zl<|zn<|zs<|zr ?_
 refine zU ?_
 obtain ⟨r35,h36,h⟩:=zB h
 refine zc (qmc r3.1 x31 _ h36) ?_
 refine zU<|zl<|zn<|zs<|zr ?_
 refine zU ?_
 obtain ⟨h37,h⟩|⟨h37,h⟩:=zI h
 refine zw 94 true ?_
 refine zh ?_
 refine zU ?_
 refine zh ?_
 refine zU ?_
 refine zh ?_
 refine zU ?_
 refine zh ?_
 refine zU ?_
 refine zh ?_
 refine zU ?_
 refine zh ?_
 refine zU ?_
 refine zh ?_
 refine zU<|zl<|zn ?_
 refine zi<|zs<|zr ?_
 refine zU<|zl<|zn<|zq<|yr<|zt ?_
 cases h
 exact ⟨rfl,zT results3⟩
 refine zw 94 false ?_
 refine zg ?_
 refine zg ?_
 refine zU ?_
 obtain ⟨h38,h⟩|⟨h38,h⟩:=zI h
 refine zw 98 true ?_
 refine zh ?_
 refine zU ?_
 refine zh ?_
 refine zU ?_
 refine zh ?_
 refine zU ?_
 refine zh ?_
 refine zU ?_
 refine zh ?_
 refine zU ?_
 refine zh ?_
 refine zU<|zl<|zn ?_
 refine zi<|zs<|zr ?_
 refine zU<|zl<|zn<|zq<|yr<|zt ?_
 cases h
 exact ⟨rfl,zT results3⟩
 refine zw 98 false ?_
 refine zg ?_
 refine zg ?_
 obtain ⟨r39,h40,h⟩:=zB h
 refine zc (qhq x31 r33.1 _ h40) ?_
 refine zg ?_
 refine zU ?_
 obtain ⟨h41,h⟩|⟨h41,h⟩:=zI h
 refine zw 104 false ?_
 refine zg ?_
 refine zg ?_
 refine zg ?_
 refine zg ?_
 refine zg ?_
 refine zg ?_
 refine zg ?_
 refine zU ?_
 obtain ⟨h42,h⟩|⟨h42,h⟩:=zI h
 refine zw 113 false ?_
 refine zg ?_
 refine zg ?_
 obtain ⟨h43,h⟩|⟨h43,h⟩:=zI h
 refine zw 115 true ?_
 refine zg ?_
 refine zg ?_
 refine zg ?_
 refine zg ?_
 obtain ⟨x44,h45,h45a,h45b,h⟩:=zX h
 refine zg ?_
 refine zg ?_
 obtain ⟨r46,h47,h⟩:=zB h
 refine zc (qhq r35.1 x44 _ h47) ?_
 refine zg ?_
 refine zg ?_
 refine zU ?_
 obtain ⟨h48,h⟩|⟨h48,h⟩:=zI h
 refine zw 126 false ?_
 refine zg ?_
 refine zg ?_
 obtain ⟨r49,h50,h⟩:=zB h
 refine zc (qf9 r3.1 x31 _ h50) ?_
 refine zg ?_
 refine zU ?_
 obtain ⟨h51,h⟩|⟨h51,h⟩:=zI h
 refine zw 132 false ?_
 refine zg ?_
 refine zg ?_
 obtain ⟨r52,h53,h⟩:=zB h
 refine zc (qck r18.1 x31 _ h53) ?_
 refine zg ?_
 refine zU ?_
 obtain ⟨h54,h⟩|⟨h54,h⟩:=zI h
 refine zw 138 false ?_
 refine zg ?_
 refine zg ?_
 obtain ⟨r55,h56,h⟩:=zB h
 refine zc (qck x31 r18.2.1 _ h56) ?_
 refine zg ?_
 refine zU<|zl<|zn ?_
 obtain ⟨h57,h⟩|⟨h57,h⟩:=zI h
 refine zj<|zk<|yn<|zn<|zr ?_
 refine zU<|zl ?_
 cases h
 exact ⟨rfl,zE⟩
 refine zi<|zs<|zr ?_
 refine zU<|zl<|zn<|zq<|yr<|zt ?_
 cases h
 exact ⟨rfl,zT results3⟩
 refine zw 138 true ?_
 refine zh ?_
 refine zU<|zl<|zn ?_
 refine zi<|zs<|zr ?_
 refine zU<|zl<|zn<|zq<|yr<|zt ?_
 cases h
 exact ⟨rfl,zT results3⟩
 refine zw 132 true ?_
 refine zh ?_
 refine zU ?_
 refine zh ?_
 refine zU<|zl<|zn ?_
 refine zi<|zs<|zr ?_
 refine zU<|zl<|zn<|zq<|yr<|zt ?_
 cases h
 exact ⟨rfl,zT results3⟩
 refine zw 126 true ?_
 refine zh ?_
 refine zU ?_
 refine zh ?_
 refine zU ?_
 refine zh ?_
 refine zU<|zl<|zn ?_
 refine zi<|zs<|zr ?_
 refine zU<|zl<|zn<|zq<|yr<|zt ?_
 cases h
 exact ⟨rfl,zT results3⟩
 refine zw 115 false ?_
 refine zh ?_
 refine zg ?_
 refine zU ?_
 refine zg ?_
 refine zg ?_
 obtain ⟨r58,h59,h⟩:=zB h
 refine zc (qf9 r3.1 x31 _ h59) ?_
 refine zg ?_
 refine zU ?_
 obtain ⟨h60,h⟩|⟨h60,h⟩:=zI h
 refine zw 132 false ?_
 refine zg ?_
 refine zg ?_
 obtain ⟨r61,h62,h⟩:=zB h
 refine zc (qck r18.1 x31 _ h62) ?_
 refine zg ?_
 refine zU ?_
 obtain ⟨h63,h⟩|⟨h63,h⟩:=zI h
 refine zw 138 false ?_
 refine zg ?_
 refine zg ?_
 obtain ⟨r64,h65,h⟩:=zB h
 refine zc (qck x31 r18.2.1 _ h65) ?_
 refine zg ?_
 refine zU<|zl<|zn ?_
 obtain ⟨h66,h⟩|⟨h66,h⟩:=zI h
 refine zj<|zk<|yn<|zn<|zr ?_
 refine zU<|zl ?_
 cases h
 exact ⟨rfl,zE⟩
 refine zi<|zs<|zr ?_
 refine zU<|zl<|zn<|zq<|yr<|zt ?_
 cases h
 exact ⟨rfl,zT results3⟩
 refine zw 138 true ?_
 refine zh ?_
 refine zU<|zl<|zn ?_
 refine zi<|zs<|zr ?_
 refine zU<|zl<|zn<|zq<|yr<|zt ?_
 cases h
 exact ⟨rfl,zT results3⟩
 refine zw 132 true ?_
 refine zh ?_
 refine zU ?_
 refine zh ?_
 refine zU<|zl<|zn ?_
 refine zi<|zs<|zr ?_
 refine zU<|zl<|zn<|zq<|yr<|zt ?_
 cases h
 exact ⟨rfl,zT results3⟩
 refine zw 113 true ?_
 refine zh ?_
 refine zU ?_
 refine zh ?_
 refine zU ?_
 refine zh ?_
 refine zU ?_
 refine zh ?_
 refine zU<|zl<|zn ?_
 refine zi<|zs<|zr ?_
 refine zU<|zl<|zn<|zq<|yr<|zt ?_
 cases h
 exact ⟨rfl,zT results3⟩
 refine zw 104 true ?_
 refine zh ?_
 refine zU ?_
 refine zh ?_
 refine zU ?_
 refine zh ?_
 refine zU ?_
 refine zh ?_
 refine zU ?_
 refine zh ?_
 refine zU<|zl<|zn ?_
 refine zi<|zs<|zr ?_
 refine zU<|zl<|zn<|zq<|yr<|zt ?_
 cases h
 exact ⟨rfl,zT results3⟩
 refine zj<|zx<|ze ?_
 cases h
 exact ⟨rfl,zE⟩
 rcases o25 with ⟨⟩ | r67
 try simp only at h
 refine zA<|yh<|zn<|zs<|zs<|zr ?_
 refine zU<|zl<|zn<|zb ?_
 obtain ⟨o68,h69,h⟩:=zB h
 refine zO (fun (s:Int)=>⟨[(5,.p (.slc (vhj (qc1 (vk2 .i64)) r14.1))),(9,.p (.slc (vhj (vk2 .i64) r18.1))),(145,.p (.slc (vhj (vk2 .i64) r18.2.1))),(146,.p (.int .i64 (r18.2.1.length:Int))),(147,.p (.int .i64 s))],[]⟩) (fun (o:(Unit) ⊕ (Bool))=>match o with | .inl o70=>tE (cX Tryz.f3 X w False hT) (.exit 2) ⟨[],[]⟩ | .inr o71=>tR Tryz.prog Tryz.f3 (.bool o71)) h69 ?_ ?_
 clear h h4 h11 h15 h17 h19 h20 h21 h22 h23 h24 h26 h69
 intro t72 x h
 simp only [qb2] at h
 refine zs<|zr ?_
 refine zU<|zl<|zn<|zs ?_
 obtain ⟨h73,h⟩|⟨h73,h⟩:=zI h
 refine zi<|zk<|zn<|zs<|zb<|zs<|zr ?_
 obtain ⟨x74,h75,h75a,h75b,h⟩:=zX h
 refine zU<|zl<|zn<|zs<|zr ?_
 refine zU<|zl<|zn<|zs<|zs<|zr ?_
 refine zU<|zl<|zn<|zb ?_
 obtain ⟨c76,h77,h⟩:=zB h
 refine zO (fun (s:Int×Int)=>⟨[(5,.p (.slc (vhj (qc1 (vk2 .i64)) r14.1))),(9,.p (.slc (vhj (vk2 .i64) r18.1))),(20,.p (.int .i64 x74)),(21,.p (.int .i64 s.1)),(145,.p (.slc (vhj (vk2 .i64) r18.2.1))),(146,.p (.int .i64 (r18.2.1.length:Int))),(147,.p (.int .i64 t72)),(151,.p (.slc (vhj (qc1 (vk2 .i64)) r14.1))),(152,.p (.int .i64 (r14.1.length:Int))),(153,.p (.int .i64 s.2))],[]⟩) (fun (o78:Int)=>tE (cX Tryz.f3 X w False hT) (.exit 4) ⟨[(5,.p (.slc (vhj (qc1 (vk2 .i64)) r14.1))),(9,.p (.slc (vhj (vk2 .i64) r18.1))),(20,.p (.int .i64 x74)),(21,.p (.int .i64 o78)),(145,.p (.slc (vhj (vk2 .i64) r18.2.1))),(146,.p (.int .i64 (r18.2.1.length:Int))),(147,.p (.int .i64 t72))],[]⟩) h77 ?_ ?_
 clear h h73 h75 h75a h75b h77
 intro s x h
 obtain ⟨c79,t80⟩:=s
 simp only [qbg] at h
 dsimp only
 refine zs<|zr ?_
 refine zU<|zl<|zn<|zs ?_
 obtain ⟨h81,h⟩|⟨h81,h⟩:=zI h
 refine zi<|zk<|zn<|zs<|zb<|zs<|zr ?_
 obtain ⟨x82,h83,h83a,h83b,h⟩:=zX h
 refine zU<|zl<|zn<|zs<|zr ?_
 refine zU ?_
 obtain ⟨r84,h85,h⟩:=zB h
 refine zc (qfj x82 x74 _ h85) ?_
 refine zl<|zn ?_
 obtain ⟨h86,h⟩|⟨h86,h⟩:=zI h
 refine zi<|zr ?_
 refine zU<|zl<|yn<|zn<|zr ?_
 refine zU<|zl ?_
 cases h
 exact ⟨rfl,zE⟩
 refine zj<|zk<|yn<|zn<|zr ?_
 refine zU<|zl ?_
 cases h
 exact ⟨rfl,zE⟩
 refine zj<|zx<|ze ?_
 cases h
 exact ⟨rfl,zE⟩
 try simp only at h
 refine zA<|yh<|zn<|zs<|zr ?_
 refine zU ?_
 obtain ⟨h87,h⟩|⟨h87,h⟩:=zI h
 refine zw 165 true ?_
 refine zh ?_
 refine zU<|zl<|zn ?_
 refine zi<|zs<|zr ?_
 refine zU<|zl<|zn<|zq<|yr<|zt ?_
 cases h
 exact ⟨rfl,zT results3⟩
 refine zw 165 false ?_
 refine zg ?_
 refine zg ?_
 refine zg ?_
 refine zg ?_
 refine zg ?_
 refine zg ?_
 obtain ⟨r88,h89,h⟩:=zB h
 refine zc (qfj r18.1 x74 _ h89) ?_
 refine zg ?_
 refine zU<|zl<|zn ?_
 obtain ⟨h90,h⟩|⟨h90,h⟩:=zI h
 refine zj<|zk<|yn<|zn<|zr ?_
 refine zU<|zl ?_
 cases h
 exact ⟨rfl,zE⟩
 refine zi<|zs<|zr ?_
 refine zU<|zl<|zn<|zq<|yr<|zt ?_
 cases h
 exact ⟨rfl,zT results3⟩
 refine zj<|zx<|ze ?_
 cases h
 exact ⟨rfl,zE⟩
 rcases o68 with ⟨⟩ | r91
 try simp only at h
 refine zA<|yh<|zn<|zs<|zr ?_
 refine zU<|zl<|zn<|zq ?_
 cases h
 exact zT results3
 try simp only at h
 refine zZ fun s hq=>?_
 refine yr<|zt ?_
 cases h
 exact hq
 try simp only at h
 refine zZ fun s hq=>?_
 refine yr<|zt ?_
 cases h
 exact hq
end Go.Proofs.YtgklegblfboelaaGreatDoor
