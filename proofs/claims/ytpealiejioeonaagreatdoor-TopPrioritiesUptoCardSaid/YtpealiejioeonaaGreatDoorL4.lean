/- -/
import Derived.Test.YtpealiejioeonaaGreatDoorL3
set_option linter.unusedVariables false
set_option linter.unusedSimpArgs false
open Bool renaming and_eq_true→vxh,eq_false_iff→vz4,eq_iff_iff→v2o,false_eq_true→vxj,not_eq_false→vxk,not_eq_false'→v2q,not_eq_true'→vxl,or_eq_false_iff→v2u,or_eq_true→vxm
open Int renaming toNat_natCast→v1w
open Go.IntKind renaming i64→vz8
open List renaming Pairwise→v3a,all_eq_true→v0e,append_nil→vxs,ext_getElem?→vxy,filter_congr→v47,filter_eq_self→v48,findIdx?_eq_none_iff→v3j,foldl_cons→v3l,getD_eq_getElem?_getD→v0k,getElem?_cons_zero→v0m,getElem?_eq_getElem→vx4,getElem?_eq_none→vx5,getElem?_eq_some_iff→vx6,getElem?_map→vx7,getElem?_replicate→vx9,getElem?_set→v3o,getElem?_set_ne→v0o,getElem?_set_self→v0p,getElem_inj→v49,getElem_mem→v3p,length_append→vyc,length_filter_le→v0s,length_filter_lt_length_iff_exists→v5a,length_map→vye,length_range→v0u,length_set→vyh,length_singleton→v12,mem_append→vym,mem_cons→v02,mem_cons_of_mem→v03,mem_cons_self→v04,mem_filter→v05,mem_iff_getElem?→v3t,mem_map→v06,mem_of_getElem?→vyo,mem_singleton→v09,nil_append→vyt,nodup_append→v5b,nodup_cons→v3v,nodup_nil→v5c,range→vyu,replicate→vyw
open Nat renaming and_le_left→v5d,le_refl→vza,lt_or_eq_of_le→v5e,lt_trichotomy→v1g,or_lt_two_pow→v4m,pow_lt_pow_right→v4o,pow_pos→v4p,testBit_and→v4s,testBit_or→v4v,testBit_two_pow→v4x,zero_le→v1m,zero_testBit→v42
open Option renaming bind_some→vzm,getD_some→vzo
open Option.some renaming inj→v1p
noncomputable section
namespace Go.Proofs.YtpealiejioeonaaGreatDoor
open Go Go.Ab
structure TJg (n:Nat) (idxL low:List Int) (on:List Bool) (stk:List Int) (c:Nat) (out:List (List Int)):Prop where
 il:idxL.length=n
 ll:low.length=n
 ol:on.length=n
 num:c=idxL.countP fun x=>decide (x≠0)
 rng:∀(i:Nat) x,idxL[i]?=some x→0≤x∧x≤(c:Int)
 onv:∀i,i < n→on[i]?=some (decide ((i:Int)∈stk))
 stv:∀y∈stk,∃i:Nat,i < n∧y=(i:Int)∧idxL[i]?≠some 0
 one:∀l∈out,∃x,l=[x]
 len:out.length+stk.length≤c
theorem TJg.few {n:Nat} {idxL low:List Int} {on:List Bool} {stk:List Int} {c:Nat} {out:List (List Int)} (H:TJg n idxL low on stk c out):c≤n:=by
 rw [H.num,←H.il];exact List.countP_le_length
theorem q92 {α:Type} {l:List α} {i:Nat} {x:α} (h:l[i]?=some x):l.set i x=l:=by
 refine vxy fun j=>?_
 rw [v3o];split
 ·rename_i e;subst e;rw [if_pos (qb9 h),h]
 ·rfl
theorem TJg.push {n:Nat} {idxL low:List Int} {on:List Bool} {stk:List Int} {c:Nat} {out:List (List Int)} (H:TJg n idxL low on stk c out) {v:Nat} (hv:v < n) (h0:idxL[v]?=some 0) :
  TJg n (idxL.set v ((c+1:Nat):Int)) (low.set v ((c+1:Nat):Int)) (on.set v true) (stk++[(v:Int)]) (c+1) out:=by
 have hvl:v < idxL.length:=by rw [H.il];exact hv
 have e0:idxL[v]=0:=by have:=vx4 hvl;rw [h0] at this;exact (v1p this).symm
 refine⟨by rw [vyh];exact H.il,by rw [vyh];exact H.ll,by rw [vyh];exact H.ol,?_,?_,?_,?_,H.one,?_⟩
 ·rw [List.countP_set hvl,e0,←H.num];have e1:decide ((((c+1:Nat):Int))≠0)=true:=decide_eq_true (by omega);have e2:decide ((0:Int)≠0)=false:=by simp
  rw [e1,e2];simp
 ·intro i x hx;rw [v3o] at hx;split at hx
  ·have:x=((c+1:Nat):Int):=by
    first | exact (v1p hx).symm | (split at hx;exact (v1p hx).symm;cases hx)
   omega
  ·have:=H.rng i x hx;omega
 ·intro i hi;rw [v3o];split
  ·rename_i e;subst e;rw [if_pos (by rw [H.ol];exact hv)];simp
  ·rename_i e;rw [H.onv i hi];congr 1;rw [decide_eq_decide,vym,v09];constructor
   ·exact .inl
   ·rintro (h | h)
    ·exact h
    ·exact absurd (by omega) e
 ·intro y hy;rcases vym.1 hy with hy | hy
  ·obtain⟨i,i1,i2,i3⟩:=H.stv y hy;refine⟨i,i1,i2,?_⟩;rw [v3o];split
   ·rename_i e;subst e;exact absurd h0 i3
   ·exact i3
  ·refine⟨v,hv,v09.1 hy,?_⟩;rw [v0p hvl];intro h;have:=v1p h;omega
 ·rw [vyc,v12];have:=H.len;omega
theorem vqj {stk:List Int} {v:Int} (h:v ∉ stk):(stk++[v]).findIdx? (fun y=>v == y)=some stk.length:=by
 have hn:stk.findIdx? (fun y=>v == y)=none:=v3j.2 fun x hx=>by
  rw [beq_eq_false_iff_ne];intro e;rw [e] at h;exact h hx
 rw [List.findIdx?_append,hn];simp
theorem vkl (on:List Bool) {v:Nat} (hv:v < on.length):qaj (qft [(v:Int)]) (on,0)=some (on.set v false):=by
 have hx:([(v:Int)]:List Int)[0]?=some (v:Int):=rfl;have ho:on[v]?=some on[v]:=vx4 hv;have h1:qft [(v:Int)] (on,0)=some (.next (on.set v false,1)):=by
  have e0:idx [(v:Int)] 0=some (v:Int):=rfl;simp only [qft,e0,vzm,qaf ho,v1w];rw [if_pos (by simp)];rfl
 rw [qa1 h1];exact qam (by simp [qft])
theorem vqk {n:Nat} (hn:n≤60) {A:List (List Int)} (hA:A.length=n) (mu:Nat→Nat) (hA2:∀(i:Nat) l,A[i]?=some l→l.length≤100000∧∀x∈l,∃k:Nat,x=(k:Int)∧k < n∧mu k < mu i) :
  ∀(f v:Nat) (idxL low:List Int) (on:List Bool) (stk:List Int) (c:Nat) (out:List (List Int)),v < n→mu v < f→TJg n idxL low on stk c out→idxL[v]?=some 0→(∀i:Nat,(i:Int)∈stk→mu v < mu i) →
  ∃idx' low' c' out',ve6 (qdc A) f (idxL,low,on,stk,(c:Int),out,(v:Int))=some (idx',low',on,stk,((c':Nat):Int),out')∧TJg n idx' low' on stk c' out'∧c < c' ∧
   (∀(i:Nat) x,idxL[i]?=some x→x≠0→idx'[i]?=some x∧low'[i]?=low[i]?)∧∃z,idx'[v]?=some z∧low'[v]?=some z∧(c:Int) < z:=by
 intro f
 induction f with
 | zero=>intro v _ _ _ _ _ _ _ h;omega
 | succ f ih =>
  intro v idxL low on stk c out hv hmu H h0 hst;have hcn:=H.few;have hlen:=H.len;have hvs:(v:Int) ∉ stk:=fun hm=>by
   obtain⟨i,_,i2,i3⟩:=H.stv _ hm;have:i=v:=by omega
   subst this;exact i3 h0
  obtain⟨lw,hlow⟩:∃lw,low[v]?=some lw:=⟨_,vx4 (by rw [H.ll];exact hv)⟩;have hon:on[v]?=some false:=by rw [H.onv v hv,decide_eq_false hvs]
  obtain⟨ch,hch⟩:∃ch,A[v]?=some ch:=⟨_,vx4 (by rw [hA];exact hv)⟩;obtain⟨hcl,hcm⟩:=hA2 v _ hch;have hP:=H.push hv h0;have hw:vz8.wrap ((c:Int)+1)=((c+1:Nat):Int):=qg9 (by omega)
  -- the neighbours
  obtain⟨⟨i1,l1,c1,o1⟩,e,J1,J2,J3,J4,J5⟩:=qhx (β:=List Int×List Int×Nat×List (List Int)) ch.length (fun b t=>(b.1,b.2.1,on.set v true,stk++[(v:Int)],((b.2.2.1:Nat):Int),b.2.2.2,t)) (qfs (v:Int) (ve6 (qdc A) f) ch) (fun b=>(b.1,b.2.1,on.set v true,stk++[(v:Int)],((b.2.2.1:Nat):Int),b.2.2.2))
   (fun _ b=>TJg n b.1 b.2.1 (on.set v true) (stk++[(v:Int)]) b.2.2.1 b.2.2.2∧c+1≤b.2.2.1∧b.1[v]?=some ((c+1:Nat):Int)∧b.2.1[v]?=some ((c+1:Nat):Int)∧∀(i:Nat) x,idxL[i]?=some x→x≠0→b.1[i]?=some x∧b.2.1[i]?=low[i]?)
   (b0:=(idxL.set v ((c+1:Nat):Int),low.set v ((c+1:Nat):Int),c+1,out)) (s0:=(idxL.set v ((c+1:Nat):Int),low.set v ((c+1:Nat):Int),on.set v true,stk++[(v:Int)],((c+1:Nat):Int),out,0)) rfl
   ⟨hP,vza _,v0p (by rw [H.il];exact hv),v0p (by rw [H.ll];exact hv),fun i x hx hx0=>by
    have hne:v≠i:=fun e=>by subst e;rw [h0] at hx;cases hx;exact hx0 rfl
    rw [v0o hne,v0o hne];exact⟨hx,rfl⟩⟩
   (fun t b ht hI=>by
    obtain⟨I1,I2,I3,I4,I5⟩:=hI;obtain⟨bi,bl,bc,bo⟩:=b;simp only at I1 I2 I3 I4 I5 ⊢;have hx:ch[t]?=some ch[t]:=vx4 ht;obtain⟨k,k1,k2,k3⟩:=hcm _ (v3p ht);have hw2:vz8.wrap ((t:Int)+1)=((t+1:Nat):Int):=qg9 (by omega);obtain⟨y,hik⟩:∃y,bi[k]?=some y:=⟨_,vx4 (by rw [I1.il];exact k2)⟩;by_cases hy0:y=0
    ·subst hy0;obtain⟨i2,l2,c2,o2,R1,R2,R3,R4,z,R5,R6,R7⟩:=ih k bi bl (on.set v true) (stk++[(v:Int)]) bc bo k2 (by omega) I1 hik (fun i hi=>by
      rcases vym.1 hi with hi | hi
      ·have:=hst i hi;omega
      ·have:i=v:=by have:=v09.1 hi;omega
       subst this;exact k3)
     obtain⟨q1,q2⟩:=R4 v _ I3 (by omega);rw [I4] at q2;have hz:¬z < ((c+1:Nat):Int):=by omega
     refine⟨(i2,l2,c2,o2),?_,R2,(by show c+1≤c2;omega),q1,q2,fun i x hx hx0=>?_⟩
     ·simp only [qfs,if_pos (qah hx),qaf hx,k1,qaf hik,vzm,beq_self_eq_true,if_true,R1,qaf q2,qaf R6,if_neg hz,v1w,q92 q2,hw2]
     ·obtain⟨p1,p2⟩:=I5 i x hx hx0;obtain⟨p3,p4⟩:=R4 i x p1 hx0;exact⟨p3,p4.trans p2⟩
    ·have hyb:(y == 0)=false:=by rw [beq_eq_false_iff_ne];exact hy0
     have hks:(k:Int) ∉ stk++[(v:Int)]:=fun hm=>by
      rcases vym.1 hm with hm | hm
      ·have:=hst k hm;omega
      ·have:k=v:=by have:=v09.1 hm;omega
       subst this;omega
     have hok:(on.set v true)[k]?=some false:=by rw [I1.onv k k2,decide_eq_false hks]
     refine⟨(bi,bl,bc,bo),?_,I1,I2,I3,I4,I5⟩;simp only [qfs,if_pos (qah hx),qaf hx,k1,qaf hik,vzm,hyb,vxj,if_false,qaf hok,hw2])
   (fun b _=>by simp [qfs])
  simp only at J1 J2 J3 J4 J5 e;have hJl:=J1.len;have hJn:=J1.few;rw [vyc,v12] at hJl;have hfi:=q4n (stk++[(v:Int)]) (v:Int) (by rw [vyc,v12];omega);rw [vqj hvs] at hfi;have hfi':qeg (stk++[(v:Int)]) (v:Int)=some ((stk.length:Nat):Int):=hfi;have hdrop:((stk++[(v:Int)]).drop stk.length).take ((stk++[(v:Int)]).length - stk.length)=[(v:Int)]:=by
   rw [List.drop_left];simp
  have htake:(stk++[(v:Int)]).take stk.length=stk:=List.take_left;have hoff:=vkl (on.set v true) (v:=v) (by rw [vyh,H.ol];exact hv);rw [List.set_set,q92 hon] at hoff;have hbne:((((c+1:Nat):Int)) != ((c+1:Nat):Int))=false:=by simp
  refine⟨i1,l1,c1,o1++[[(v:Int)]],?_,⟨J1.il,J1.ll,H.ol,J1.num,J1.rng,H.onv,fun y hy=>J1.stv y (List.mem_append_left _ hy),fun l hl=>?_,by rw [vyc,v12];omega⟩,by omega,J5,((c+1:Nat):Int),J3,J4,by omega⟩
  ·show qdc A (ve6 (qdc A) f) (idxL,low,on,stk,(c:Int),out,(v:Int))=_;simp only [qdc,qaf h0,qaf hlow,qaf hon,qaf hch,vzm,qt6 (show stk.length+1≤17592186044416 by omega),if_true,hw,v1w,e,qaf J3,qaf J4,hbne,vxj,if_false,hfi',
    if_pos (show (0:Int)≤((stk.length:Nat):Int) by omega),if_pos (show ((stk.length:Nat):Int)≤(((stk++[(v:Int)]).length:Nat):Int) by rw [vyc];omega),if_pos (show (stk++[(v:Int)]).length - stk.length≤1000000000 by rw [vyc,v12];omega),
    if_pos (show stk.length≤(stk++[(v:Int)]).length by rw [vyc];omega),hdrop,htake,hoff,RLE (o1.length+1) 24]
  ·rcases vym.1 hl with hl | hl
   ·exact J1.one l hl
   ·exact⟨_,v09.1 hl⟩
theorem vkm (x:Int):slices_Sort_int [x]=some ():=by
 obtain⟨r,hr⟩:=vjr (n:=1) (by omega);have hi:qby [x] 0 1=some ():=by
  unfold qby;have:qaj (qb2 [x] 0 1) (vz8.wrap (0+1))=some ():=qam (by
   simp only [qb2];rw [if_neg (by decide)])
  rw [this];rfl
 have hp:qb5 [x] 0 1 r=some ():=by
  unfold qb5;have:qaj (qc6 [x] 0 1) ()=some ():=qam (by
   simp only [qc6];rw [if_pos (by decide),hi];rfl)
  rw [this];rfl
 have hr':qrk (IntKind.u64.wrap (([x]:List Int).length:Int))=some r:=hr;have hp':qb5 [x] 0 (([x]:List Int).length:Int) r=some ():=hp;unfold slices_Sort_int;rw [hr',vzm,hp'];rfl
theorem vg0 (l:List (List Int)) (hl:l.length≤1000000) (h1:∀x∈l,∃a,x=[a]):∃s,qzi (fun (y:List Int) (z:List Int)=>qa3 y z) l=some s∧s.Perm l:=by
 have hc:∀x∈l,∀y∈l,qa3 x y=some (sgn (x.headD 0) (y.headD 0)):=fun x hx y hy=>by
  obtain⟨a,rfl⟩:=h1 x hx;obtain⟨b,rfl⟩:=h1 y hy;simp only [qa3,v0m,vzm,q0o];rfl
 have hs:∀a b:Int,sgn a b < 0↔a < b:=fun a b=>by unfold sgn;split <;> (try split) <;> omega
 have hok:qzh (fun x y=>(qa3 x y).getD 0) l:=by
  refine⟨fun x hx=>?_,fun x hx y hy z hz p q=>?_,fun x hx y hy z hz p q=>?_⟩
  ·show ¬(qa3 x x).getD 0 < 0;rw [hc x hx x hx,vzo,hs];omega
  ·replace p:(qa3 x y).getD 0 < 0:=p;replace q:(qa3 y z).getD 0 < 0:=q;show (qa3 x z).getD 0 < 0;rw [hc _ hx _ hy,vzo,hs] at p;rw [hc _ hy _ hz,vzo,hs] at q;rw [hc _ hx _ hz,vzo,hs];omega
  ·replace p:¬(qa3 x y).getD 0 < 0:=p;replace q:¬(qa3 y z).getD 0 < 0:=q;show ¬(qa3 x z).getD 0 < 0;rw [hc _ hx _ hy,vzo,hs] at p;rw [hc _ hy _ hz,vzo,hs] at q;rw [hc _ hx _ hz,vzo,hs];omega
 refine⟨srt (fun x y=>(qa3 x y).getD 0) l,?_,qtr hok⟩;unfold qzi;rw [if_pos ⟨fun x hx y hy=>by show (qa3 x y).isSome=true;rw [hc x hx y hy];rfl,hok,by omega⟩]
theorem q7u {n:Nat} (hn:n≤60) {E:List Arr2_int} (hE:E.length≤20000) (mu:Nat→Nat) (hmu:∀v,v < n→mu v < n) (hd:∀e∈E,∃i k:Nat,i < n∧k < n∧e=⟨(i:Int),(k:Int)⟩∧mu k < mu i) :
  ∃out,qkx (n:Int) E=some (out,0)∧out.length≤n∧∀l∈out,∃x,l=[x]:=by
 have hg:vjs n E:=fun e he=>by
  obtain⟨i,k,hi,hk,rfl,_⟩:=hd e he;simp only;omega
 have hA2:∀(i:Nat) l,(vf4 E n)[i]?=some l→l.length≤100000∧∀x∈l,∃k:Nat,x=(k:Int)∧k < n∧mu k < mu i:=fun i l hl=>by
  have hin:i < n:=by have:=qb9 hl;simpa [vf4] using this
  refine⟨?_,fun x hx=>?_⟩
  ·have hl':=hl;unfold vf4 at hl';rw [qwv _ hin] at hl';cases hl';have h2:(quz (qk4 E i)).length=(qk4 E i).length:=(qmd _).length_eq;have h3:(qk4 E i).length≤E.length:=by
    unfold qk4;rw [vye];exact v0s _ _
   unfold Lib.compact Lib.compactUpTo;rw [vye];have:=v0s (Lib.keeps (quz (qk4 E i)).toArray) (vyu (quz (qk4 E i)).length);rw [v0u] at this;omega
  ·obtain⟨w,rfl,hw,he⟩:=(vpy hin hg hl).1 hx;obtain⟨a,b,_,_,hab,hlt⟩:=hd _ he;have h1:=congrArg Arr2_int.x0 hab;have h2:=congrArg Arr2_int.x1 hab;simp only at h1 h2;have:a=i:=by omega
   have:b=w:=by omega
   subst a;subst b;exact⟨w,rfl,hw,hlt⟩
 have hAl:(vf4 E n).length=n:=by simp [vf4]
 have h00:TJg n (vyw n 0) (vyw n 0) (vyw n false) [] 0 []:=by
  refine⟨by simp,by simp,by simp,?_,fun i x hx=>?_,fun i hi=>?_,fun y hy=>(by cases hy),fun l hl=>(by cases hl),by simp⟩
  ·rw [List.countP_replicate];simp
  ·obtain⟨_,hx⟩:=vx6.1 hx;rw [List.getElem_replicate] at hx;omega
  ·rw [vx9,if_pos hi];simp
 obtain⟨⟨i1,l1,c1,o1⟩,e,J1⟩:=qhx (β:=List Int×List Int×Nat×List (List Int)) n (fun b t=>(b.1,b.2.1,vyw n false,[],((b.2.2.1:Nat):Int),b.2.2.2,t)) (qfu (n:Int) (vf4 E n)) (fun b=>(b.1,b.2.1,vyw n false,[],((b.2.2.1:Nat):Int),b.2.2.2))
  (fun _ b=>TJg n b.1 b.2.1 (vyw n false) [] b.2.2.1 b.2.2.2) (b0:=(vyw n 0,vyw n 0,0,[])) (s0:=(vyw n 0,vyw n 0,vyw n false,[],0,[],0)) rfl h00
  (fun v b hv hI=>by
   obtain⟨bi,bl,bc,bo⟩:=b;simp only at hI ⊢;have hw2:vz8.wrap ((v:Int)+1)=((v+1:Nat):Int):=qg9 (by omega);obtain⟨y,hik⟩:∃y,bi[v]?=some y:=⟨_,vx4 (by rw [hI.il];exact hv)⟩;have hvn:(v:Int) < (n:Int):=by omega
   by_cases hy0:y=0
   ·subst hy0;obtain⟨i2,l2,c2,o2,R1,R2,_⟩:=vqk hn hAl mu hA2 64 v bi bl _ [] bc bo hv (by have:=hmu v hv;omega) hI hik (fun i hi=>by cases hi);refine⟨(i2,l2,c2,o2),?_,R2⟩;simp only [qfu,if_pos hvn,qaf hik,vzm,beq_self_eq_true,if_true,R1,hw2]
   ·have hyb:(y == 0)=false:=by rw [beq_eq_false_iff_ne];exact hy0
    refine⟨(bi,bl,bc,bo),?_,hI⟩;simp only [qfu,if_pos hvn,qaf hik,vzm,hyb,vxj,if_false,hw2])
  (fun b _=>by simp [qfu])
 simp only at J1 e;have hl1:=J1.len;have hf1:=J1.few;rw [List.length_nil] at hl1;obtain⟨_,e2,_⟩:=qhx (β:=Unit) o1.length (fun _ i=>i) (qhi o1) (fun _=>()) (fun _ _=>True) (b0:=()) (s0:=0) rfl trivial
  (fun k _ hk _=>by
   have hx:o1[k]?=some o1[k]:=vx4 hk;obtain⟨x,hx1⟩:=J1.one _ (v3p hk);refine⟨(),?_,trivial⟩;simp only [qhi,if_pos (qah hx),qaf hx,vzm,hx1,vkm,wqn k])
  (fun _ _=>by simp [qhi])
 obtain⟨s,s1,s2⟩:=vg0 o1 (by omega) J1.one;refine⟨s,?_,by rw [s2.length_eq];omega,fun l hl=>J1.one l (s2.mem_iff.1 hl)⟩;simp only [qkx,vf3 n E (by omega) hE hg,q1z n E (by omega) (by omega) hg,vzm,bne_self_eq_false,vxj,if_false,if_pos (show (0:Int)≤(n:Int) by omega),v1w,RLE n 8,RLE n 1,if_true,e,e2,s1,s2.length_eq]
theorem vcq {n:Nat} (hn:n≤60) {E:List Arr2_int} (hE:E.length≤20000) (mu:Nat→Nat) (hmu:∀v,v < n→mu v < n) (hd:∀e∈E,∃i k:Nat,i < n∧k < n∧e=⟨(i:Int),(k:Int)⟩∧mu k < mu i) :
  qjk (n:Int) E=some ([],false):=by
 obtain⟨out,h1,h2,h3⟩:=q7u hn hE mu hmu hd;obtain⟨_,e1,_⟩:=qhx (β:=Unit) E.length (fun _ i=>i) (qi7 E) (fun _=>(Sum.inl ():Unit ⊕ (List Int×Bool))) (fun _ _=>True) (b0:=()) (s0:=0) rfl trivial
  (fun k _ hk _=>by
   have hx:E[k]?=some E[k]:=vx4 hk;obtain⟨i,j,_,_,he,hlt⟩:=hd _ (v3p hk);have hb:((i:Int) == (j:Int))=false:=by
    rw [beq_eq_false_iff_ne];intro h;have:i=j:=by omega
    subst this;omega
   refine⟨(),?_,trivial⟩;simp only [qi7,if_pos (qah hx),qaf hx,vzm,he,hb,vxj,if_false,wqn k])
  (fun _ _=>by simp [qi7])
 obtain⟨_,e2,_⟩:=qhx (β:=Unit) out.length (fun _ i=>i) (qi8 (n:Int) E (out,0)) (fun _=>(Sum.inl ():Unit ⊕ (List Int×Bool))) (fun _ _=>True) (b0:=()) (s0:=0) rfl trivial
  (fun k _ hk _=>by
   have hx:out[k]?=some out[k]:=vx4 hk;obtain⟨x,hx1⟩:=h3 _ (v3p hk);have hb:(((([x]:List Int).length:Nat):Int) == 1)=true:=rfl;refine⟨(),?_,trivial⟩;simp only [qi8,if_pos (qah hx),qaf hx,vzm,hx1,hb,if_true,wqn k])
  (fun _ _=>by simp [qi8])
 simp only [qjk,h1,vzm,bne_self_eq_false,vxj,if_false,e1,e2]
def qwz (n:Nat) (N:Nat→Nat):List Int:=(vyu n).map fun i=>((N i:Nat):Int)
theorem qw0 (n:Nat) (N:Nat→Nat):(qwz n N).length=n:=by simp [qwz]
theorem qka {n i:Nat} (N:Nat→Nat) (h:i < n):(qwz n N)[i]?=some ((N i:Nat):Int):=by
 unfold qwz;rw [vx7,List.getElem?_range h];rfl
theorem q2a {n i v:Nat} (N:Nat→Nat):(qwz n N).set i (v:Int)=qwz n fun j=>if j=i then v else N j:=by
 refine vxy fun j=>?_
 rw [v3o,qw0];by_cases hj:j < n
 ·rw [qka _ hj,qka _ hj];by_cases e:i=j
  ·subst e;rw [if_pos rfl,if_pos hj,if_pos rfl]
  ·rw [if_neg e,if_neg fun h=>e h.symm]
 ·have h1:(qwz n fun j=>if j=i then v else N j)[j]?=none:=vx5 (by rw [qw0];omega);have h2:(qwz n N)[j]?=none:=vx5 (by rw [qw0];omega);rw [h1,h2];split
  ·rw [if_neg (by omega)]
  ·rfl
theorem q5c (n:Nat):vyw n (0:Int)=qwz n fun _=>0:=by
 refine vxy fun j=>?_
 by_cases hj:j < n
 ·rw [qka _ hj,vx9,if_pos hj];rfl
 ·rw [vx5 (by simp;omega),vx5 (by rw [qw0];omega)]
theorem qmp {V:List Int} (E:List (List Int)) (hV:V.Pairwise (· < ·)) (hl:V.length≤1000) {x:Int} (hx:x∈V):qb4 ⟨V,E⟩ x=some ((qcf V x:Nat):Int):=by
 obtain⟨k,k1,k2,k3,k4⟩:=q0v V x hV hl;have hp:=(qin hx).2;have:k=qcf V x:=by
  rcases v1g k (qcf V x) with h | h | h
  ·have hk:V[k]?=some (V[k]'(by have:=qif hx;omega)):=vx4 _;have h1:=k4 k _ (vza _) hk;have h2:=qqv hV h hk hp;omega
  ·exact h
  ·have:=k3 _ _ h hp;omega
 subst this;simp only [qb4,k1,vzm,decide_eq_true hx,if_true]
def p0 (V e:List Int):Nat:=qcf V (e.getD 0 0)
def p1 (V e:List Int):Nat:=qcf V (e.getD 1 0)
def q2b (V:List Int) (N:Nat→Nat) (e:List Int):Nat→Nat:=fun j=>if j=p1 V e then N j ||| 2 ^ p0 V e else if j=p0 V e then N j ||| 2 ^ p1 V e else N j
def qei (V:List Int) (E:List (List Int)):Nat→Nat:=E.foldl (q2b V) fun _=>0
structure TwoE (V:List Int) (e:List Int):Prop where
 shape:∃a b,e=[a,b]∧a < b∧a∈V∧b∈V
theorem TwoE.lt {V e:List Int} (h:TwoE V e):p0 V e < V.length∧p1 V e < V.length:=by
 obtain⟨a,b,rfl,_,ha,hb⟩:=h.shape;exact⟨qif ha,qif hb⟩
theorem TwoE.ne {V e:List Int} (h:TwoE V e):p0 V e≠p1 V e:=by
 obtain⟨a,b,rfl,hab,ha,hb⟩:=h.shape;intro he;have h1:=(qin ha).2;have h2:=(qin hb).2;have he':qcf V a=qcf V b:=he;rw [he',h2] at h1;cases h1;omega
theorem qqx {V:List Int} {E:List (List Int)} (H:HV V E) (h2:∀e∈E,e.length=2) {e:List Int} (he:e∈E):TwoE V e:=by
 have hl:=h2 e he;have ha:=H.easc e he;have hs:=H.esub e he
 match e,hl,ha,hs with
 | [a,b],_,ha,hs=>exact⟨a,b,rfl,by simpa using ha,hs a (by simp),hs b (by simp)⟩
theorem qul (V:List Int):∀(L:List (List Int)) (N:Nat→Nat) (j x:Nat),(∀e∈L,p0 V e≠p1 V e)→((L.foldl (q2b V) N j).testBit x=true↔(N j).testBit x=true∨∃e∈L,(j=p1 V e∧x=p0 V e)∨(j=p0 V e∧x=p1 V e))
 | [],N,j,x,_=>by simp
 | e :: L,N,j,x,h=>by
  rw [v3l,qul V L _ j x fun e he=>h e (v03 _ he)];have hne:=h e v04;have hbit:∀a b:Nat,(2 ^ a).testBit b=true↔b=a:=fun a b=>by rw [v4x,decide_eq_true_eq];exact eq_comm
  have key:(q2b V N e j).testBit x=true↔(N j).testBit x=true∨(j=p1 V e∧x=p0 V e)∨(j=p0 V e∧x=p1 V e):=by
   unfold q2b;split
   ·rename_i hj;rw [v4v,vxm,hbit];constructor
    ·rintro (h | h)
     ·exact .inl h
     ·exact .inr (.inl ⟨hj,h⟩)
    ·rintro (h | ⟨_,h⟩|⟨h,_⟩)
     ·exact .inl h
     ·exact .inr h
     ·exact absurd (h.symm.trans hj) hne
   ·rename_i hj;split
    ·rename_i hj2;rw [v4v,vxm,hbit];constructor
     ·rintro (h | h)
      ·exact .inl h
      ·exact .inr (.inr ⟨hj2,h⟩)
     ·rintro (h | ⟨h,_⟩|⟨_,h⟩)
      ·exact .inl h
      ·exact absurd h hj
      ·exact .inr h
    ·rename_i hj2;constructor
     ·exact .inl
     ·rintro (h | ⟨h,_⟩|⟨h,_⟩)
      ·exact h
      ·exact absurd h hj
      ·exact absurd h hj2
  rw [key];constructor
  ·rintro ((h | h) | ⟨e',he',h⟩)
   ·exact .inl h
   ·exact .inr ⟨e,v04,h⟩
   ·exact .inr ⟨e',v03 _ he',h⟩
  ·rintro (hh | ⟨e',he',hh⟩)
   ·exact .inl (.inl hh)
   ·rcases v02.1 he' with rfl | he'
    ·exact .inl (.inr hh)
    ·exact .inr ⟨e',he',hh⟩
theorem q2c {V:List Int} (hV:V.Pairwise (· < ·)) {e:List Int} (h:TwoE V e) (j:Nat):(mkE V e).testBit j=true↔j=p0 V e∨j=p1 V e:=by
 obtain⟨a,b,rfl,hab,ha,hb⟩:=h.shape;rw [qyv hV (fun x hx=>by simp at hx;rcases hx with rfl | rfl <;> assumption)];have e0:p0 V [a,b]=qcf V a:=rfl;have e1:p1 V [a,b]=qcf V b:=rfl;rw [e0,e1];constructor
 ·rintro⟨x,hx,hj⟩;simp at hx;rcases hx with rfl | rfl
  ·exact .inl ((qje hV ha j).2 hj).symm
  ·exact .inr ((qje hV hb j).2 hj).symm
 ·rintro (h | h)
  ·exact⟨a,by simp,(qje hV ha j).1 h.symm⟩
  ·exact⟨b,by simp,(qje hV hb j).1 h.symm⟩
theorem vkn {V:List Int} {E:List (List Int)} (H:HV V E) (h2:∀e∈E,e.length=2):E2 V.length (msE V E) (qei V E):=by
 have hT:=fun e he=>qqx H h2 (e:=e) he
 refine⟨fun m hm=>?_,fun i hi j=>?_⟩
 ·obtain⟨e,he,rfl⟩:=qvm.1 hm;exact⟨p0 V e,p1 V e,(hT e he).lt.1,(hT e he).lt.2,(hT e he).ne,q2c H.asc (hT e he)⟩
 ·unfold qei;rw [qul V E _ i j fun e he=>(hT e he).ne];simp only [v42,vxj,false_or];constructor
  ·rintro⟨e,he,h⟩;have hne:=(hT e he).ne;refine⟨by rcases h with⟨rfl,rfl⟩|⟨rfl,rfl⟩ <;> omega,mkE V e,qvm.2 ⟨e,he,rfl⟩,?_,?_⟩
   ·rw [q2c H.asc (hT e he)];rcases h with⟨h,_⟩|⟨h,_⟩ <;> simp [h]
   ·rw [q2c H.asc (hT e he)];rcases h with⟨_,h⟩|⟨_,h⟩ <;> simp [h]
  ·rintro⟨hij,m,hm,m1,m2⟩;obtain⟨e,he,rfl⟩:=qvm.1 hm;rw [q2c H.asc (hT e he)] at m1 m2;refine⟨e,he,?_⟩;rcases m1 with m1 | m1 <;> rcases m2 with m2 | m2 <;> first | exact .inl ⟨m1,m2⟩ | exact .inr ⟨m1,m2⟩ | (exfalso;omega)
theorem qpc {n:Nat} (h:n≤6):2 ^ n≤64:=Nat.pow_le_pow_right (n:=2) (by omega) h
theorem near_lt {V:List Int} (L:List (List Int)) (N:Nat→Nat) (h:∀e∈L,TwoE V e) (hN:∀j,N j < 2 ^ V.length):∀j,L.foldl (q2b V) N j < 2 ^ V.length:=by
 induction L generalizing N with
 | nil=>exact hN
 | cons e L ih =>
  rw [v3l];refine ih _ (fun e he=>h e (v03 _ he)) fun j=>?_
  obtain⟨h1,h2⟩:=(h e v04).lt;unfold q2b;split
  ·exact v4m (hN j) (v4o (by omega) h1)
  ·split
   ·exact v4m (hN j) (v4o (by omega) h2)
   ·exact hN j
theorem vcr {V:List Int} {E:List (List Int)} (H:HV V E) (h2:∀e∈E,e.length=2) (hn:V.length≤6) (free:Int) :
  qaj (qex ⟨V,E⟩) (free,vyw V.length 0,0)=some (free,qwz V.length (qei V E)):=by
 have hT:=fun e he=>qqx H h2 (e:=e) he
 have hp:=qpc hn;have hel:=H.elen;refine qcl E (fun (N:Nat→Nat) (t:Int)=>(free,qwz V.length N,t)) (qex ⟨V,E⟩) (q2b V) (fun N=>(free,qwz V.length N)) (fun _ N=>∀j,N j < 2 ^ V.length) (b0:=fun _=>0) (by rw [q5c]) (fun j=>v4p (by omega))
  (fun k N e he hk hI=>?_) (fun N _=>by simp [qex])
 have hem:=vyo he;have hTe:=hT e hem;obtain⟨q0,q1⟩:=hTe.lt;have hne:=hTe.ne;refine⟨?_,fun j=>near_lt [e] N (fun e' he'=>by rw [v09.1 he'];exact hTe) hI j⟩;obtain⟨a,b,rfl,hab,ha,hb⟩:=hTe.shape;have e0:p0 V [a,b]=qcf V a:=rfl;have e1:p1 V [a,b]=qcf V b:=rfl;rw [e0,e1] at hne;rw [e0] at q0;rw [e1] at q1;have pa:=qmp E H.asc (by omega) ha;have pb:=qmp E H.asc (by omega) hb;have hbeq:(((qcf V a:Nat):Int) == ((qcf V b:Nat):Int))=false:=by rw [beq_eq_false_iff_ne];omega
 have hi1:idx [a,b] (vz8.wrap ((([a,b]:List Int).length:Int) - 1))=some b:=rfl;have hia:2 ^ qcf V a < 65536:=by
  have:2 ^ qcf V a < 2 ^ V.length:=v4o (by omega) q0;omega
 have hib:2 ^ qcf V b < 65536:=by
  have:2 ^ qcf V b < 2 ^ V.length:=v4o (by omega) q1;omega
 have hNa:=hI (qcf V a);have hNb:=hI (qcf V b);have g1:idx ((qwz V.length N).set (qcf V a) ((N (qcf V a) ||| 2 ^ qcf V b:Nat):Int)) ((qcf V b:Nat):Int)=some ((N (qcf V b):Nat):Int):=by
  rw [q6k,v0o hne,qka _ q1]
 have hfin:((qwz V.length N).set (qcf V a) ((N (qcf V a) ||| 2 ^ qcf V b:Nat):Int)).set (qcf V b) ((N (qcf V b) ||| 2 ^ qcf V a:Nat):Int)=qwz V.length (q2b V N [a,b]):=by
  rw [q2a,q2a];congr 1;funext j;unfold q2b;rw [e0,e1];by_cases h1:j=qcf V b
  ·rw [if_pos h1,if_pos h1,h1]
  ·rw [if_neg h1,if_neg h1];by_cases h3:j=qcf V a
   ·rw [if_pos h3,if_pos h3,h3]
   ·rw [if_neg h3,if_neg h3]
 simp only [qex,if_pos (qah he),qaf he,vzm,v0m,pa,hi1,pb,hbeq,vxj,if_false,qaf (qka N q0),if_neg (show ¬((qcf V b:Nat):Int) < 0 by omega),if_neg (show ¬((qcf V a:Nat):Int) < 0 by omega),v1w,
  vcp (show qcf V b < 16 by omega),vcp (show qcf V a < 16 by omega),vsn (show N (qcf V a) < 65536 by omega) hib,g1,vsn (show N (qcf V b) < 65536 by omega) hia,hfin,wqn k]
def qpp (V:List Int) (N:Nat→Nat) (x:Arr2_int64):Nat→Nat:=fun j=>if j=qcf V x.x1 then N j ||| 2 ^ qcf V x.x0 else N j
def qa4 (V:List Int) (p:List Arr2_int64):Nat→Nat:=p.foldl (qpp V) fun _=>0
theorem qrq (V:List Int):∀(p:List Arr2_int64) (N:Nat→Nat) (j x:Nat),(p.foldl (qpp V) N j).testBit x=true↔(N j).testBit x=true∨∃y∈p,j=qcf V y.x1∧x=qcf V y.x0
 | [],N,j,x=>by simp
 | y :: p,N,j,x=>by
  rw [v3l,qrq V p _ j x];have key:(qpp V N y j).testBit x=true↔(N j).testBit x=true∨(j=qcf V y.x1∧x=qcf V y.x0):=by
   unfold qpp;split
   ·rename_i hj;rw [v4v,vxm,v4x,decide_eq_true_eq];constructor
    ·rintro (h | h)
     ·exact .inl h
     ·exact .inr ⟨hj,h.symm⟩
    ·rintro (h | ⟨_,h⟩)
     ·exact .inl h
     ·exact .inr h.symm
   ·rename_i hj;constructor
    ·exact .inl
    ·rintro (h | ⟨h,_⟩)
     ·exact h
     ·exact absurd h hj
  rw [key];constructor
  ·rintro ((h | h) | ⟨e',he',h⟩)
   ·exact .inl h
   ·exact .inr ⟨y,v04,h⟩
   ·exact .inr ⟨e',v03 _ he',h⟩
  ·rintro (h | ⟨e',he',h⟩)
   ·exact .inl (.inl h)
   ·rcases v02.1 he' with rfl | he'
    ·exact .inl (.inr h)
    ·exact .inr ⟨e',he',h⟩
structure PrefG (V:List Int) (E:List (List Int)) (p:List Arr2_int64) (mu:Nat→Nat):Prop where
 few:p.length≤20000
 mem:∀x∈p,x.x0∈V∧x.x1∈V∧(qei V E (qcf V x.x0)).testBit (qcf V x.x1)=true∧mu (qcf V x.x1) < mu (qcf V x.x0)
 nod:p.Nodup
 mul:∀v,v < V.length→mu v < V.length
theorem above_lt {V:List Int} {E:List (List Int)} {p:List Arr2_int64} {mu:Nat→Nat} (hP:PrefG V E p mu):∀j,qa4 V p j < 2 ^ V.length:=by
 have:∀(l:List Arr2_int64) (N:Nat→Nat),(∀x∈l,x∈p)→(∀j,N j < 2 ^ V.length)→∀j,l.foldl (qpp V) N j < 2 ^ V.length:=by
  intro l
  induction l with
  | nil=>intro N _ h;exact h
  | cons y l ih =>
   intro N hl hN;rw [v3l];refine ih _ (fun x hx=>hl x (v03 _ hx)) fun j=>?_
   unfold qpp;split
   ·exact v4m (hN j) (v4o (by omega) (qif (hP.mem y (hl y v04)).1))
   ·exact hN j
 exact this p _ (fun x h=>h) fun j=>v4p (by omega)
def vql (V:List Int) (x:Arr2_int64):Arr2_int:=⟨((qcf V x.x0:Nat):Int),((qcf V x.x1:Nat):Int)⟩
theorem q7v {V:List Int} {E:List (List Int)} (H:HV V E) (h2:∀e∈E,e.length=2) (hn:V.length≤6) {p:List Arr2_int64} {mu:Nat→Nat} (hP:PrefG V E p mu) :
  qaj (qey ⟨V,E⟩ p (qwz V.length (qei V E))) (vyw V.length 0,[],0)=some (.inl (qwz V.length (qa4 V p),p.map (vql V))):=by
 have hp:=qpc hn;have hfew:=hP.few;have hnl:=near_lt E (fun _=>0) (fun e he=>qqx H h2 he) (V:=V) fun j=>v4p (by omega)
 have h:=qcl p (fun (b:(Nat→Nat)×List Arr2_int) (t:Int)=>(qwz V.length b.1,b.2,t)) (qey ⟨V,E⟩ p (qwz V.length (qei V E))) (fun b x=>(qpp V b.1 x,b.2++[vql V x])) (fun b=>(Sum.inl (qwz V.length b.1,b.2):(List Int×List Arr2_int) ⊕ (Option Priority_game×Int))) (fun k b=>(∀j,b.1 j < 2 ^ V.length)∧b.2.length=k)
  (b0:=(fun _=>0,[])) (s0:=(vyw V.length 0,[],0)) (by rw [q5c]) ⟨fun j=>v4p (by omega),rfl⟩
  (fun k b x hx hk hI=>by
   obtain⟨I1,I2⟩:=hI;obtain⟨N,es⟩:=b;simp only at I1 I2 ⊢;obtain⟨m1,m2,m3,_⟩:=hP.mem x (vyo hx);have pa:=qmp E H.asc (by omega) m1;have pb:=qmp E H.asc (by omega) m2;have q0:=qif m1;have q1:=qif m2;have hia:2 ^ qcf V x.x0 < 2 ^ V.length:=v4o (by omega) q0;have hnn:qei V E (qcf V x.x0) < 2 ^ V.length:=hnl _;have hNb:=I1 (qcf V x.x1);have hb:=vwt (a:=qei V E (qcf V x.x0)) (by omega) (k:=qcf V x.x1) (by omega);rw [m3] at hb;have qod:(qwz V.length N).set (qcf V x.x1) ((N (qcf V x.x1) ||| 2 ^ qcf V x.x0:Nat):Int)=qwz V.length (qpp V N x):=by
    rw [q2a];congr 1;funext j;unfold qpp;by_cases h1:j=qcf V x.x1
    ·rw [if_pos h1,if_pos h1,h1]
    ·rw [if_neg h1,if_neg h1]
   refine⟨?_,fun j=>?_,by rw [vyc,I2];rfl⟩
   ·simp only [qey,if_pos (qah hx),qaf hx,vzm,pa,pb,if_neg (show ¬((qcf V x.x0:Nat):Int) < 0 by omega),if_neg (show ¬((qcf V x.x1:Nat):Int) < 0 by omega),qaf (qka (qei V E) q0),v1w,hb,Bool.not_true,vxj,if_false,
     qaf (qka N q1),vcp (show qcf V x.x0 < 16 by omega),vsn (show N (qcf V x.x1) < 65536 by omega) (show 2 ^ qcf V x.x0 < 65536 by omega),qod,RLE (es.length+1) 16,if_true,wqn k]
    rfl
   ·unfold qpp;split
    ·exact v4m (I1 j) hia
    ·exact I1 j)
  (fun b _=>by simp [qey])
 rw [h];have hf:∀(l:List Arr2_int64) (b:(Nat→Nat)×List Arr2_int),l.foldl (fun b x=>(qpp V b.1 x,b.2++[vql V x])) b=(l.foldl (qpp V) b.1,b.2++l.map (vql V)):=by
  intro l
  induction l with
  | nil=>intro b;simp
  | cons x l ih=>intro b;rw [v3l,ih];simp
 rw [hf];rfl
theorem vko {α:Type} (c:α→α→Option Int) (key:α→Int) (l:List α) (hl:l.length≤1000000) (hc:∀x∈l,∀y∈l,c x y=some (key x - key y)):∃s,qzi c l=some s∧s.Perm l:=by
 have hok:qzh (fun x y=>(c x y).getD 0) l:=by
  refine⟨fun x hx=>?_,fun x hx y hy z hz p q=>?_,fun x hx y hy z hz p q=>?_⟩
  ·show ¬(c x x).getD 0 < 0;rw [hc x hx x hx,vzo];omega
  ·replace p:(c x y).getD 0 < 0:=p;replace q:(c y z).getD 0 < 0:=q;show (c x z).getD 0 < 0;rw [hc _ hx _ hy,vzo] at p;rw [hc _ hy _ hz,vzo] at q;rw [hc _ hx _ hz,vzo];omega
  ·replace p:¬(c x y).getD 0 < 0:=p;replace q:¬(c y z).getD 0 < 0:=q;show ¬(c x z).getD 0 < 0;rw [hc _ hx _ hy,vzo] at p;rw [hc _ hy _ hz,vzo] at q;rw [hc _ hx _ hz,vzo];omega
 refine⟨srt (fun x y=>(c x y).getD 0) l,?_,qtr hok⟩;unfold qzi;rw [if_pos ⟨fun x hx y hy=>by show (c x y).isSome=true;rw [hc x hx y hy];rfl,hok,by omega⟩]
theorem q5d (l:List Arr2_int) (h2:2≤l.length) (hl:l.length≤1000000) (hnd:l.Nodup):qaj (qez l) 1=some (.inl ()):=by
 obtain⟨o,e,ho⟩:=qmk (β:=Unit) l.length (fun _ i=>i) (qez l) (fun _ _=>True) (fun o=>o=(Sum.inl ():Unit ⊕ List Arr2_int)) (b0:=()) (s0:=1) 1 (by omega) rfl trivial
  (fun k _ hk1 hk _=>by
   have hx:l[k]?=some l[k]:=vx4 hk;have hy:l[k - 1]?=some l[k - 1]:=vx4 (by omega);have hw1:vz8.wrap ((k:Int) - 1)=((k - 1:Nat):Int):=by rw [wrap_i64 (by omega) (by omega)];omega
   have hne:l[k]≠l[k - 1]:=fun e=>by
    have:=(v49 hnd).1 e;omega
   have hb:((l[k].x0 == l[k - 1].x0) && (l[k].x1 == l[k - 1].x1))=false:=by
    rw [vz4];intro h;rw [vxh,beq_iff_eq,beq_iff_eq] at h;refine hne ?_;have key:∀a b:Arr2_int,a.x0=b.x0→a.x1=b.x1→a=b:=fun a b h1 h2=>by cases a;cases b;simp only at h1 h2;rw [h1,h2]
    exact key _ _ h.1 h.2
   refine .inl ⟨(),?_,trivial⟩;simp only [qez,if_pos (qah hx),qaf hx,vzm,hw1,qaf hy,hb,vxj,if_false,wqn k])
  (fun _ _=>⟨_,by simp [qez],rfl⟩)
 rw [e,ho]
theorem qno {V:List Int} {x y:Int} (hx:x∈V) (hy:y∈V) (h:qcf V x=qcf V y):x=y:=by
 have h1:=(qin hx).2;have h2:=(qin hy).2;rw [h,h2] at h1;exact (v1p h1).symm
def qem (V:List Int) (E:List (List Int)) (p:List Arr2_int64):Priority_game:=⟨⟨V,E⟩,((2 ^ V.length - 1:Nat):Int),qwz V.length (qei V E),qwz V.length (qa4 V p)⟩
theorem qyx {V:List Int} {E:List (List Int)} (H:HV V E) (h2:∀e∈E,e.length=2) (hn:V.length≤6) {p:List Arr2_int64} {mu:Nat→Nat} (hP:PrefG V E p mu) :
  qgc ⟨V,E⟩ p=some (some (qem V E p),0):=by
 have hp:=qpc hn;have hel:=H.elen;have hfew:=hP.few;have hC:qa6 E (fun y=>qef y)=some false:=by
  have h:=qhr E (qan E (fun y=>qef y)) (fun _=>false)
   (fun k y hx hk _=>by
    have hl:=h2 y (vyo hx);have hd:decide ((y.length:Int) > 2)=false:=decide_eq_false (by omega);simp only [qan,if_pos (qah hx),qaf hx,vzm,qef,hd,vxj,if_false,wqn k])
   (fun k y _ h=>by cases h) (by simp [qan])
  have hf:E.findIdx? (fun _=>false)=none:=v3j.2 fun _ _=>rfl
  rw [hf] at h;simp only [qa6,qat,h,vzm];rfl
 have hpos:1≤2 ^ V.length:=v4p (by omega);have hfree:IntKind.u16.wrap (IntKind.u16.wrap (1 * 2 ^ (min V.length 16)) - 1)=((2 ^ V.length - 1:Nat):Int):=by
  rw [vcp (show V.length < 16 by omega),qtw (by omega) (by omega)];omega
 -- the edges
 have hed:∀e∈p.map (vql V),∃i k:Nat,i < V.length∧k < V.length∧e=⟨(i:Int),(k:Int)⟩∧mu k < mu i:=fun e he=>by
  obtain⟨x,hx,rfl⟩:=v06.1 he;obtain⟨m1,m2,_,m4⟩:=hP.mem x hx;exact⟨_,_,qif m1,qif m2,rfl,m4⟩
 obtain⟨s,s1,s2⟩:=vko (fun (y:Arr2_int) (z:Arr2_int)=>qfr y z) (fun x=>20 * x.x0+x.x1) (p.map (vql V)) (by rw [vye];omega) (fun x hx y hy=>by
  obtain⟨i,k,hi,hk,rfl,_⟩:=hed x hx;obtain⟨i',k',hi',hk',rfl,_⟩:=hed y hy;simp only [qfr];rw [wrap_i64 (n:=(i:Int) - (i':Int)) (by omega) (by omega),wrap_i64 (n:=20 * ((i:Int) - (i':Int))) (by omega) (by omega),wrap_i64 (n:=20 * ((i:Int) - (i':Int))+(k:Int)) (by omega) (by omega),wrap_i64 (by omega) (by omega)];congr 1;omega)
 have hnd:s.Nodup:=s2.nodup_iff.2 (List.pairwise_map.2 (v3a.imp_of_mem (fun {x y} hx hy hxy h=>by
  obtain⟨m1,m2,_⟩:=hP.mem x hx;obtain⟨m3,m4,_⟩:=hP.mem y hy;have e0:=congrArg Arr2_int.x0 h;have e1:=congrArg Arr2_int.x1 h;simp only [vql] at e0 e1;refine hxy ?_;have key:∀a b:Arr2_int64,a.x0=b.x0→a.x1=b.x1→a=b:=fun a b h1 h2=>by cases a;cases b;simp only at h1 h2;rw [h1,h2]
  exact key x y (qno m1 m3 (by omega)) (qno m2 m4 (by omega))) hP.nod))
 have hsl:s.length=p.length:=by rw [s2.length_eq,vye]
 have hcy:=vcq (n:=V.length) (by omega) (E:=s) (by omega) mu hP.mul (fun e he=>hed e (s2.mem_iff.1 he));unfold qgc qem;simp only [q48 H,vzm,if_true,hC,vxj,if_false,if_neg (show ¬((V.length:Int) > 14) by omega),if_neg (show ¬((V.length:Int) < 0) by omega),if_pos (show (0:Int)≤(V.length:Int) by omega),RLE (V.length) 2,
  vcr H h2 hn,hfree,q7v H h2 hn hP,s1]
 by_cases hs2:((s.length:Nat):Int) < 2
 ·rw [if_pos hs2,hcy];rfl
 ·rw [if_neg hs2,q5d s (by omega) (by omega) hnd,vzm];simp only [hcy,vzm,vxj,if_false]
theorem q2d {l r:List Int} (hl:l.Pairwise (· < ·)) (hr:r.Pairwise (· < ·)) (hm:∀x,x∈l↔x∈r):l=r:=by
 have nd:∀{l:List Int},l.Pairwise (· < ·)→l.Nodup:=fun h=>h.imp fun hab e=>by omega
 exact List.Perm.eq_of_pairwise (le:=fun a b=>a < b) (fun a b _ _ h1 h2=>absurd h1 (by omega)) hl hr ((List.perm_ext_iff_of_nodup (nd hl) (nd hr)).2 hm)
theorem qyy {V:List Int} (hV:V.Pairwise (· < ·)) (S:Nat):(qel V S).Pairwise (· < ·):=v3a.sublist (qpb V S) hV
theorem qyz {V:List Int} (hV:V.Pairwise (· < ·)) {S:Nat} (hS:S < 2 ^ V.length):mkE V (qel V S)=S:=by
 have hsub:∀x∈qel V S,x∈V:=fun x hx=>(qpb V S).subset hx
 refine vgo (vgu hsub) hS fun i hi=>?_
 rw [v2o,qyv hV hsub];constructor
 ·rintro⟨x,hx,hi⟩;exact (qqw hV hi S).1 hx
 ·intro h;exact⟨V[i],(qqw hV (vx4 hi) S).2 h,vx4 hi⟩
theorem vg1 {V:List Int} (E:List (List Int)) (p:List Arr2_int64) (hV:V.Pairwise (· < ·)) (hn:V.length≤6) {S:Nat} (hS:S < 2 ^ V.length):qdp (qem V E p) (qel V S)=some (S:Int):=by
 have hp:=qpc hn;have hsub:=qpb V S;have hsl:=hsub.length_le;have h:=qcl (qel V S) (fun (b:Nat) (t:Int)=>((b:Int),t)) (qfb (qem V E p) (qel V S)) (fun b x=>b ||| 2 ^ qcf V x) (fun b=>(b:Int)) (fun _ b=>b < 2 ^ V.length) (b0:=0) (s0:=(0,0)) rfl (v4p (by omega))
  (fun k b x hx hk hI=>by
   have hxV:=hsub.subset (vyo hx);have hq:=qif hxV;have hpp:2 ^ qcf V x < 2 ^ V.length:=v4o (by omega) hq;have hpos:qb4 (qem V E p).h x=some ((qcf V x:Nat):Int):=qmp E hV (by omega) hxV;refine⟨?_,v4m hI hpp⟩;simp only [qfb,if_pos (qah hx),qaf hx,vzm,hpos,if_neg (show ¬((qcf V x:Nat):Int) < 0 by omega),v1w,vcp (show qcf V x < 16 by omega),vsn (show b < 65536 by omega) (show 2 ^ qcf V x < 65536 by omega),wqn k])
  (fun b _=>by simp [qfb])
 have hm:=qyz hV hS;unfold mkE at hm;rw [hm] at h;unfold qdp;rw [h];rfl
theorem q2e (V:List Int):qel V 0=[]:=by
 cases h:qel V 0 with
 | nil=>rfl
 | cons x l =>
  have:x∈qel V 0:=by rw [h];simp
  obtain⟨k,_,hk⟩:=qmo.1 this;simp at hk
theorem vg2 {V:List Int} (hV:V.Pairwise (· < ·)) (hn:V.length≤6) {S:Nat} (hS:S < 2 ^ V.length) (h0:S≠0):∃x,V[qio S]?=some x∧qel V S=x :: qel V (S &&& (S - 1)):=by
 have hp:=qpc hn;obtain⟨_,l1,l2,l3,_⟩:=qrp h0 (by omega);have hl:=qj9 hS l1;refine⟨V[qio S],vx4 hl,?_⟩;have hx:V[qio S]?=some V[qio S]:=vx4 hl;refine q2d (qyy hV S) (List.pairwise_cons.2 ⟨fun y hy=>?_,qyy hV _⟩) fun y=>?_
 ·obtain⟨k,k1,k2⟩:=qmo.1 hy;rw [l3,vxh,vxl,decide_eq_false_iff_not] at k2;have:qio S < k:=by
   rcases v1g (qio S) k with h | h | h
   ·exact h
   ·exact absurd h.symm k2.2
   ·have:=l2 k h;rw [k2.1] at this;cases this
  exact qqv hV this hx k1
 ·rw [v02,qmo,qmo];constructor
  ·rintro⟨k,k1,k2⟩;by_cases hk:k=qio S
   ·subst hk;rw [hx] at k1;exact .inl (v1p k1).symm
   ·exact .inr ⟨k,k1,by rw [l3,k2];simp [hk]⟩
  ·rintro (rfl | ⟨k,k1,k2⟩)
   ·exact⟨_,hx,l1⟩
   ·rw [l3,vxh] at k2;exact⟨k,k1,k2.1⟩
theorem vkp {V:List Int} (E:List (List Int)) (p:List Arr2_int64) (hV:V.Pairwise (· < ·)) (hn:V.length≤6):∀(m S:Nat) (out:List Int),S≤m→S < 2 ^ V.length→out.length≤1000 - 8 * S→qaj (qcd (qem V E p)) ((S:Int),out)=some (out++qel V S):=by
 have hp:=qpc hn;intro m
 induction m with
 | zero =>
  intro S out hm hS _;have:S=0:=by omega
  subst this;rw [q2e,vxs];exact qam (by simp [qcd])
 | succ m ih =>
  intro S out hm hS ho;by_cases h0:S=0
  ·subst h0;rw [q2e,vxs];exact qam (by simp [qcd])
  ·obtain⟨t1,l1,l2,l3,l4⟩:=qrp h0 (by omega);have hlt:=q91 h0 (by omega);obtain⟨x,hx,hids⟩:=vg2 hV hn hS h0;have hb:=q19 h0 (show S < 65536 by omega);have ha:=q5a (show S < 65536 by omega) (show S - 1 < 65536 by omega);have hx':idx (qem V E p).h.Vertices ((qio S:Nat):Int)=some x:=qaf (l:=V) hx;have hstep:qcd (qem V E p) ((S:Int),out)=some (.next (((S &&& (S - 1):Nat):Int),out++[x])):=by
    simp only [qcd,if_pos (show (S:Int) > 0 by omega),qa7,if_pos (show (0:Int)≤(S:Int)∧(S:Int) < 65536 by omega),v1w,vzm,t1,hx',qt6 (show out.length+1≤17592186044416 by omega),if_true,hb,ha]
   rw [qa1 hstep,ih _ _ (by omega) (by omega) (by rw [vyc,v12];omega),hids];simp
theorem vg3 {V:List Int} (E:List (List Int)) (p:List Arr2_int64) (hV:V.Pairwise (· < ·)) (hn:V.length≤6) {S:Nat} (hS:S < 2 ^ V.length):qf9 (qem V E p) (S:Int)=some (qel V S):=by
 have hp:=qpc hn;unfold qf9;rw [vkp E p hV hn S S [] (vza _) hS (by simp)];rfl
section
variable {V:List Int} {E:List (List Int)} {p:List Arr2_int64} {mu:Nat→Nat} (hn:V.length≤6) (hP:PrefG V E p mu)
include hn hP
theorem q7w {r s:Nat} (hr:r < 2 ^ V.length) (hs:s < 2 ^ V.length):∀(m x:Nat),x≤m→x < 2 ^ V.length→∃o,qaj (qbs (qem V E p) (r:Int) (s:Int)) (x:Int)=some o∧(o=.inl ()∨o=.inr false) ∧
  (o=.inl ()↔∀i,x.testBit i=true→∃y,(qa4 V p i).testBit y=true∧s.testBit y=true∧r.testBit y=false):=by
 have hp:=qpc hn;have ha:=above_lt hP;intro m
 induction m with
 | zero =>
  intro x hm hx;have:x=0:=by omega
  subst this;exact⟨_,qam (by simp [qbs]),.inl rfl,by simp⟩
 | succ m ih =>
  intro x hm hx;by_cases h0:x=0
  ·subst h0;exact⟨_,qam (by simp [qbs]),.inl rfl,by simp⟩
  ·obtain⟨t1,l1,l2,l3,l4⟩:=qrp h0 (by omega);have hlt:=q91 h0 (by omega);have hl:=qj9 hx l1;have hab:=ha (qio x);have hand:qa4 V p (qio x) &&& s≤qa4 V p (qio x):=v5d;have hx':idx (qem V E p).above ((qio x:Nat):Int)=some ((qa4 V p (qio x):Nat):Int):=qaf (qka _ hl);have e1:=q5a (show qa4 V p (qio x) < 65536 by omega) (show s < 65536 by omega);have e2:=q5b (show qa4 V p (qio x) &&& s < 65536 by omega) (show r < 65536 by omega);have e3:=q19 h0 (show x < 65536 by omega);have e4:=q5a (show x < 65536 by omega) (show x - 1 < 65536 by omega);have hb:((((dnN (qa4 V p (qio x) &&& s) r:Nat):Int)) == 0)=true↔¬∃y,(qa4 V p (qio x)).testBit y=true∧s.testBit y=true∧r.testBit y=false:=by
    rw [beq_iff_eq];have:((dnN (qa4 V p (qio x) &&& s) r:Nat):Int)=0↔dnN (qa4 V p (qio x) &&& s) r=0:=by omega
    rw [this,quj];constructor
    ·rintro h ⟨y,y1,y2,y3⟩;have:=h y;rw [qjn,v4s,y1,y2,y3] at this;cases this
    ·intro h y;rw [qjn,v4s];cases y1:(qa4 V p (qio x)).testBit y <;> cases y2:s.testBit y <;> cases y3:r.testBit y <;> first | rfl | exact absurd ⟨y,y1,y2,y3⟩ h
   by_cases hc:∃y,(qa4 V p (qio x)).testBit y=true∧s.testBit y=true∧r.testBit y=false
   ·have hbf:((((dnN (qa4 V p (qio x) &&& s) r:Nat):Int)) == 0)=false:=by
     rw [vz4];exact fun h=>hb.1 h hc
    obtain⟨o,o1,o2,o3⟩:=ih (x &&& (x - 1)) (by omega) (by omega);have hstep:qbs (qem V E p) (r:Int) (s:Int) (x:Int)=some (.next ((x &&& (x - 1):Nat):Int)):=by
     simp only [qbs,if_pos (show (x:Int) > 0 by omega),qa7,if_pos (show (0:Int)≤(x:Int)∧(x:Int) < 65536 by omega),v1w,vzm,t1,hx',e1,e2,hbf,vxj,if_false,e3,e4]
    refine⟨o,by rw [qa1 hstep];exact o1,o2,o3.trans ⟨fun h i hi=>?_,fun h i hi=>?_⟩⟩
    ·by_cases hil:i=qio x
     ·rw [hil];exact hc
     ·exact h i (by rw [l3,hi];simp [hil])
    ·rw [l3,vxh] at hi;exact h i hi.1
   ·have hbt:=hb.2 hc;refine⟨.inr false,qam ?_,.inr rfl,⟨fun h=>(by cases h),fun h=>absurd (h _ l1) hc⟩⟩;simp only [qbs,if_pos (show (x:Int) > 0 by omega),qa7,if_pos (show (0:Int)≤(x:Int)∧(x:Int) < 65536 by omega),v1w,vzm,t1,hx',e1,e2,hbt,if_true]
open Classical in
theorem vg4 {r s:Nat} (hr:r < 2 ^ V.length) (hs:s < 2 ^ V.length):qcj (qem V E p) (r:Int) (s:Int)=some (decide (vqf (qa4 V p) r s)):=by
 have hp:=qpc hn
 have hd:=q90 r s
 obtain⟨o,o1,o2,o3⟩:=q7w hn hP hr hs (dnN r s) (dnN r s) (vza _) (by omega)
 unfold qcj
 rw [q5b (show r < 65536 by omega) (show s < 65536 by omega),o1,vzm]
 rcases o2 with rfl | rfl
 ·have:=o3.1 rfl
  show some ((r:Int) != (s:Int))=_
  congr 1
  rw [v2o,bne_iff_ne,decide_eq_true_eq]
  constructor
  ·intro h
   exact⟨fun e=>h (by rw [e]),fun x h1 h2=>this x (by rw [qjn,h1,h2];rfl)⟩
  ·rintro⟨h,_⟩ e
   exact h (by omega)
 ·show some false=_
  congr 1
  symm
  rw [decide_eq_false_iff_not]
  rintro⟨_,h⟩
  have:=o3.2 fun i hi=>by
   rw [qjn,vxh,vxl] at hi
   exact h i hi.1 hi.2
  cases this
theorem q7x:∀(m b x:Nat),x≤m→x < 2 ^ V.length→b < 2 ^ V.length→∃b':Nat,qaj (qb1 (qem V E p)) ((b:Int),(x:Int))=some (b':Int)∧∀y,b'.testBit y=true↔b.testBit y=true∧∀i,x.testBit i=true→(qa4 V p i).testBit y=true:=by
 have hp:=qpc hn;have ha:=above_lt hP;intro m
 induction m with
 | zero =>
  intro b x hm hx hb;have:x=0:=by omega
  subst this;exact⟨b,qam (by simp [qb1]),by simp⟩
 | succ m ih =>
  intro b x hm hx hb;by_cases h0:x=0
  ·subst h0;exact⟨b,qam (by simp [qb1]),by simp⟩
  ·obtain⟨t1,l1,l2,l3,l4⟩:=qrp h0 (by omega);have hlt:=q91 h0 (by omega);have hl:=qj9 hx l1;have hab:=ha (qio x);have hx':idx (qem V E p).above ((qio x:Nat):Int)=some ((qa4 V p (qio x):Nat):Int):=qaf (qka _ hl);have e1:=q5a (show b < 65536 by omega) (show qa4 V p (qio x) < 65536 by omega);have e3:=q19 h0 (show x < 65536 by omega);have e4:=q5a (show x < 65536 by omega) (show x - 1 < 65536 by omega);have hand:b &&& qa4 V p (qio x)≤b:=v5d;obtain⟨b',q1,q2⟩:=ih (b &&& qa4 V p (qio x)) (x &&& (x - 1)) (by omega) (by omega) (by omega);have hstep:qb1 (qem V E p) ((b:Int),(x:Int))=some (.next (((b &&& qa4 V p (qio x):Nat):Int),((x &&& (x - 1):Nat):Int))):=by
    simp only [qb1,if_pos (show (x:Int) > 0 by omega),qa7,if_pos (show (0:Int)≤(x:Int)∧(x:Int) < 65536 by omega),v1w,vzm,t1,hx',e1,e3,e4]
   refine⟨b',by rw [qa1 hstep];exact q1,fun y=>?_⟩;rw [q2,v4s,vxh];constructor
   ·rintro⟨⟨h1,h2⟩,h3⟩;refine⟨h1,fun i hi=>?_⟩;by_cases hil:i=qio x
    ·rw [hil];exact h2
    ·exact h3 i (by rw [l3,hi];simp [hil])
   ·rintro⟨h1,h2⟩;refine⟨⟨h1,h2 _ l1⟩,fun i hi=>?_⟩;rw [l3,vxh] at hi;exact h2 i hi.1
open Classical in
theorem vg5 {r s:Nat} (hr:r < 2 ^ V.length) (hs:s < 2 ^ V.length):qck (qem V E p) (r:Int) (s:Int)=some (decide (parG (qa4 V p) r s)):=by
 have hp:=qpc hn
 have hd:=q90 r s
 have hd2:=q90 s r
 obtain⟨b',q1,q2⟩:=q7x hn hP (dnN r s) (dnN s r) (dnN r s) (vza _) (by omega) (by omega)
 unfold qck
 rw [q5b (show s < 65536 by omega) (show r < 65536 by omega),q5b (show r < 65536 by omega) (show s < 65536 by omega),q1,vzm]
 congr 1
 rw [v2o,bne_iff_ne,decide_eq_true_eq]
 have:((b':Nat):Int)≠0↔¬b'=0:=by omega
 rw [this,quj]
 constructor
 ·intro h
  obtain⟨y,hy⟩:=Classical.not_forall.1 h
  have hy':b'.testBit y=true:=by simpa using hy
  obtain⟨h1,h2⟩:=(q2 y).1 hy'
  rw [qjn,vxh,vxl] at h1
  exact⟨y,h1.1,h1.2,fun x h3 h4=>h2 x (by rw [qjn,h3,h4];rfl)⟩
 ·rintro⟨y,h1,h2,h3⟩ h
  have:=h y
  rw [(q2 y).2 ⟨by rw [qjn,h1,h2];rfl,fun i hi=>by
   rw [qjn,vxh,vxl] at hi
   exact h3 i hi.1 hi.2⟩] at this
  cases this
end
end Go.Proofs.YtpealiejioeonaaGreatDoor
namespace Go.Proofs.YtpealiejioeonaaGreatDoor
open Go Go.Ab
theorem q93 {V:List Int} {E:List (List Int)} (H:HV V E) (most:Int) (hm:((qiv V E).length:Int)≤most) (h6:V.length≤6):qf8 ⟨V,E⟩ most=some ((qiv V E).map (qel V),0)∧qaj (qcw ⟨V,E⟩ ((qiv V E).map fun (S:Nat)=>(S:Int),true)) ([],0)=some ((qiv V E).map (qel V)):=by
 have hl:=H.len;have hlen:(qiv V E).length≤64:=by
  have:=q42 V.length (msE V E) V.length 0 0;have:=qpc h6;unfold qiv;omega
 have hs:=q7s H.toHG most (by unfold qiv at hm;omega);have h:=qcl ((qiv V E).map fun (S:Nat)=>(S:Int)) (fun (b:List (List Int)) (i:Int)=>(b,i)) (qcw ⟨V,E⟩ ((qiv V E).map fun (S:Nat)=>(S:Int),true)) (fun b S=>b++[qel V S.toNat]) id (fun k b=>b.length=k) (b0:=[]) (s0:=([],0)) rfl rfl
  (fun k b x hx hk hI=>by
   obtain⟨S,hS,rfl⟩:=v06.1 (vyo hx);have hk':k < (qiv V E).length:=by simpa using hk
   refine⟨?_,by simp [hI]⟩;simp only [qcw,if_pos (qah hx),qaf hx,vzm,vgw V E hl (qrv hl (qjm hS)),v1w,RLE (b.length+1) 24,if_true,wqn k])
  (fun b _=>by simp [qcw])
 have hf:∀(l:List Nat) (b:List (List Int)),(l.map fun (S:Nat)=>(S:Int)).foldl (fun b S=>b++[qel V S.toNat]) b=b++l.map (qel V):=by
  intro l
  induction l with
  | nil=>intro b;simp
  | cons x l ih=>intro b;simp [ih]
 rw [hf,id,vyt] at h;refine⟨?_,h⟩;unfold qiv at h;unfold qf8;simp only [qyw H,vzm,bne_self_eq_false,vxj,if_false,hs,if_true,h];rfl
theorem q7y {V:List Int} {E:List (List Int)} (h6:V.length≤6):(qiv V E).length≤64:=by
 have:=q42 V.length (msE V E) V.length 0 0;have:=qpc h6;unfold qiv;omega
section
variable {V:List Int} {E:List (List Int)} (H:HV V E) (h2:∀e∈E,e.length=2) (hn:V.length≤6) {p:List Arr2_int64} {mu:Nat→Nat} (hP:PrefG V E p mu)
theorem allG:∀S,S∈qiv V E↔S < 2 ^ V.length∧vsk V.length (msE V E) S:=fun S=>by
 unfold qiv;exact q7q
open Classical in
include H hn in
theorem qy0 {r:Nat} (better:Int→Int→Option Bool) (Q:Nat→Nat→Prop) (hq:∀S∈qiv V E,better (r:Int) (S:Int)=some (decide (Q r S))) :
  ∃l,qcp (qem V E p) (r:Int) better=some (l,decide (∀S∈qiv V E,¬Q r S)):=by
 have hal:=q7y (E:=E) hn
 obtain⟨hA,_⟩:=q93 H 20000 (by omega) hn
 obtain⟨o,e,ho⟩:=qmk (β:=Unit) ((qiv V E).map (qel V)).length (fun _ i=>i) (qb6 (qem V E p) (r:Int) better ((qiv V E).map (qel V))) (fun k _=>∀S∈(qiv V E).take k,¬Q r S)
  (fun o=>(o=.inl ()∧∀S∈qiv V E,¬Q r S)∨∃l,o=.inr (l,false)∧∃S∈qiv V E,Q r S) (b0:=()) (s0:=0) 0 (v1m _) rfl (by simp)
  (fun k _ _ hk hI=>by
   rw [vye] at hk
   have hSk:(qiv V E)[k]?=some (qiv V E)[k]:=vx4 hk
   have hmem:=v3p hk
   have hx:((qiv V E).map (qel V))[k]?=some (qel V (qiv V E)[k]):=by rw [vx7,hSk];rfl
   have hof:=vg1 E p H.asc hn (qjm hmem)
   have hb:=hq _ hmem
   by_cases hc:Q r (qiv V E)[k]
   ·rw [decide_eq_true hc] at hb
    refine .inr ⟨.inr (qel V (qiv V E)[k],false),?_,.inr ⟨_,rfl,_,hmem,hc⟩⟩
    simp only [qb6,if_pos (qah hx),qaf hx,vzm,hof,hb,if_true]
   ·rw [decide_eq_false hc] at hb
    refine .inl ⟨(),?_,fun S hS=>?_⟩
    ·simp only [qb6,if_pos (qah hx),qaf hx,vzm,hof,hb,vxj,if_false,wqn k]
    ·rw [List.take_succ_eq_append_getElem hk] at hS
     rcases vym.1 hS with hS | hS
     ·exact hI S hS
     ·rw [v09.1 hS];exact hc)
  (fun _ hI=>by
   rw [vye,List.take_length] at hI
   exact⟨.inl (),by simp [qb6],.inl ⟨rfl,hI⟩⟩)
 have hr:qd6 (qem V E p)=some ((qiv V E).map (qel V)):=by
  unfold qd6 qem
  rw [hA];rfl
 unfold qcp
 rw [hr,vzm,e,vzm]
 rcases ho with⟨rfl,h⟩|⟨l,rfl,S,hS,h⟩
 ·exact⟨[],by rw [decide_eq_true h]⟩
 ·refine⟨l,?_⟩
  have:decide (∀S∈qiv V E,¬Q r S)=false:=decide_eq_false fun hh=>hh S hS h
  rw [this]
def q7z (V:List Int) (E:List (List Int)) (ab:Nat→Nat) (r:Nat):Prop:=∀S∈qiv V E,¬vqf ab r S
include H hn hP in
open Classical in
theorem q70 {r:Nat} (hr:r < 2 ^ V.length):qaz (qel V r) (qem V E p)=some (!decide (q7z V E (qa4 V p) r)):=by
 obtain⟨l,hl⟩:=qy0 H hn (p:=p) (r:=r) (fun (y:Int) (z:Int)=>qcj (qem V E p) y z) (fun r S=>vqf (qa4 V p) r S) (fun S hS=>vg4 hn hP hr (qjm hS))
 unfold qaz
 rw [vg1 E p H.asc hn hr,vzm,hl,vzm]
 congr 2
 exact decide_eq_decide.2 Iff.rfl
include H h2 hn hP in
open Classical in
theorem q0w:qfv ⟨V,E⟩ p=some (((qiv V E).filter fun r=>decide (q7z V E (qa4 V p) r)).map (qel V),0):=by
 have hal:=q7y (E:=E) hn
 obtain⟨_,hA⟩:=q93 H 20000 (by omega) hn
 have hs:=q7s H.toHG 20000 (by unfold qiv at hal;omega)
 have hB:=qyx H h2 hn hP
 have hA2:qaj (qjl (qem V E p) ((qiv V E).map fun (S:Nat)=>(S:Int),true)) ([],0)=some ((qiv V E).map (qel V)):=hA
 have hchk:qe7 (qem V E p).h=some 0:=qyw H
 have qod:qgb (qem V E p).h 20000=some ((qiv V E).map fun (S:Nat)=>(S:Int),true):=hs
 -- the filter on lists
 let L:=(qiv V E).map (qel V)
 let q:List Int→Bool:=fun l=>decide (q7z V E (qa4 V p) (mkE V l))
 have hLl:L.length≤64:=by show ((qiv V E).map (qel V)).length≤64;rw [vye];exact hal
 have h1:∀l∈L,qaz l (qem V E p)=some (!q l):=fun l hl=>by
  obtain⟨S,hS,rfl⟩:=v06.1 hl
  rw [q70 H hn hP (qjm hS)]
  show _=some (!decide (q7z V E (qa4 V p) (mkE V (qel V S))))
  rw [qyz H.asc (qjm hS)]
 have hfil:L.filter q=((qiv V E).filter fun r=>decide (q7z V E (qa4 V p) r)).map (qel V):=by
  show ((qiv V E).map (qel V)).filter q=_
  rw [List.filter_map]
  congr 1
  refine v47 fun S hS=>?_
  show decide (q7z V E (qa4 V p) (mkE V (qel V S)))=_
  rw [qyz H.asc (qjm hS)]
 have hI:qat L (fun (y:List Int)=>qaz y (qem V E p))=some (vb4 (L.findIdx? fun l=>!q l)):=by
  have h:=qhr L (qan L (fun (y:List Int)=>qaz y (qem V E p))) (fun l=>!q l)
   (fun k y hx hk hp=>by simp only [qan,if_pos (qah hx),qaf hx,vzm,h1 y (vyo hx),hp,vxj,if_false,wqn k])
   (fun k y hx hp=>by simp only [qan,if_pos (qah hx),qaf hx,vzm,h1 y (vyo hx),hp,if_true])
   (by simp [qan])
  simp only [qat,h,vzm]
  cases L.findIdx? (fun l=>!q l) <;> rfl
 have e0:(qem V E p).h=⟨V,E⟩:=rfl
 unfold qfv
 simp only [hB,vzm,bne_self_eq_false,vxj,if_false,hchk,qod,if_true,hA2]
 rw [show qat ((qiv V E).map (qel V)) (fun (y:List Int)=>qaz y (qem V E p))=some (vb4 (L.findIdx? fun l=>!q l)) from hI,vzm,←hfil]
 show (if (vb4 (L.findIdx? fun l=>!q l) == -1)=true then some (L,0) else _)=_
 cases hf:L.findIdx? (fun l=>!q l) with
 | none =>
  have hno:∀x∈L,q x=true:=by
   have:=v3j.1 hf
   exact fun x hx=>by simpa using this x hx
  have:(vb4 (none:Option Nat) == (-1:Int))=true:=rfl
  rw [if_pos this,v48.2 hno]
 | some i =>
  obtain⟨hi,ht⟩:=qzr q L i hf
  have hne:¬(vb4 (some i) == (-1:Int))=true:=by
   simp only [vb4,beq_iff_eq];omega
  rw [if_neg hne]
  have hpos:vb4 (some i)=(i:Int):=rfl
  rw [hpos,wqn i]
  obtain⟨s,k,e1,e2,e3,e4⟩:=qvl L q (qcz (qem V E p))
   (fun s i j x hs hsx hlx hij hj=>by
    have hw:vz8.wrap ((j:Int)+1)=((j+1:Nat):Int):=qg9 (by omega)
    have hwi:vz8.wrap ((i:Int)+1)=((i+1:Nat):Int):=qg9 (by omega)
    have hsi:s[i]?=some (s[i]'(by omega)):=vx4 _
    simp only [qcz,if_pos (show (j:Int) < ((s.length:Nat):Int) by omega),qaf hsx,vzm,h1 x (vyo hlx),qaf hsi,hw,hwi,v1w]
    cases q x <;> rfl)
   (fun s i hs=>by simp only [qcz];rw [if_neg (by omega)])
   (L.length - (i+1)) (i+1) L i (by omega) rfl (by omega) ht.symm (fun m _=>rfl)
  have e1':qaj (qcz (qem V E p)) ((qiv V E).map (qel V),(i:Int),((i+1:Nat):Int))=some (s,(k:Int)):=e1
  show (qaj (qcz (qem V E p)) ((qiv V E).map (qel V),(i:Int),((i+1:Nat):Int))).bind _=_
  rw [e1',vzm]
  have hrl:s.length=L.length:=e2
  obtain⟨c1,c2⟩:=vcl s k L.length ([]:List Int) e2 e3
  dsimp only
  simp only [v1w]
  rw [if_pos (by omega),if_pos (by omega),if_pos (by omega),if_pos (by simp only [List.length_take,List.length_replicate,List.length_drop];omega)]
  try simp only [vzm]
  rw [if_pos (by rw [c2];omega),c1,e4]
end
end Go.Proofs.YtpealiejioeonaaGreatDoor
namespace Go.Proofs.YtpealiejioeonaaGreatDoor
open Go Go.Ab
section
variable {V:List Int} {E:List (List Int)} (H:HV V E) (h2:∀e∈E,e.length=2) (hn:V.length≤6) {p:List Arr2_int64} {mu:Nat→Nat} (hP:PrefG V E p mu)
include H h2 hn hP
omit hn in
theorem q0x:GmG V.length (qei V E) (qa4 V p) (fun i=>V.length - mu i):=by
 have hE:=vkn H h2;have hsym:∀i j,i < V.length→j < V.length→(qei V E i).testBit j=true→(qei V E j).testBit i=true:=fun i j hi hj h=>by
  obtain⟨h1,m,h3,h4,h5⟩:=(hE.near_iff i hi j).1 h;exact (hE.near_iff j hj i).2 ⟨fun e=>h1 e.symm,m,h3,h5,h4⟩
 have hab:∀i j,(qa4 V p i).testBit j=true→∃y∈p,i=qcf V y.x1∧j=qcf V y.x0:=fun i j h=>by
  unfold qa4 at h;rw [qrq] at h;rcases h with h | h
  ·simp at h
  ·exact h
 refine⟨fun i _=>?_,fun i _=>above_lt hP i,hsym,fun i hi=>?_,fun i j hi h=>?_,fun i j hi h=>?_⟩
 ·exact near_lt E (fun _=>0) (fun e he=>qqx H h2 he) (V:=V) (fun j=>v4p (by omega)) i
 ·cases hb:(qei V E i).testBit i with
  | false=>rfl
  | true=>exact absurd rfl ((hE.near_iff i hi i).1 hb).1
 ·obtain⟨y,hy,rfl,rfl⟩:=hab i j h;obtain⟨m1,m2,m3,_⟩:=hP.mem y hy;exact hsym _ _ (qif m1) (qif m2) m3
 ·obtain⟨y,hy,rfl,rfl⟩:=hab i j h;obtain⟨m1,m2,_,m4⟩:=hP.mem y hy;have:=hP.mul _ (qif m1);show V.length - mu (qcf V y.x0) < V.length - mu (qcf V y.x1);omega
theorem vg6 {kept rest:Nat} (hk:kept < 2 ^ V.length) (hr:rest < 2 ^ V.length):∀(m x:Nat),x≤m→x < 2 ^ V.length→∃r,qaj (qa8 (qem V E p)) ((kept:Int),(rest:Int),false,(x:Int))=some r ∧
    ((∃i,x.testBit i=true∧(∀j,(qa4 V p i).testBit j=true→rest.testBit j=false)∧r=(((kept ||| 2 ^ i:Nat):Int),((dnN rest (2 ^ i ||| qei V E i):Nat):Int),true)) ∨
     ((∀i,x.testBit i=true→∃j,(qa4 V p i).testBit j=true∧rest.testBit j=true)∧r=((kept:Int),(rest:Int),false))):=by
  have hp:=qpc hn;have hG:=q0x H h2 hP;intro m
  induction m with
  | zero =>
    intro x hm hx;have:x=0:=by omega
    subst this;exact⟨_,qam (by simp [qa8]),.inr ⟨by simp,rfl⟩⟩
  | succ m ih =>
    intro x hm hx;by_cases h0:x=0
    · subst h0
      exact⟨_,qam (by simp [qa8]),.inr ⟨by simp,rfl⟩⟩
    · obtain⟨t1,l1,l2,l3,l4⟩:=qrp h0 (by omega)
      have hlt:=q91 h0 (by omega);have hl:=qj9 hx l1;have hab:=hG.above_lt _ hl;have hnb:=hG.near_lt _ hl;have hpw:2 ^ qio x < 2 ^ V.length:=v4o (by omega) hl;have hor:2 ^ qio x ||| qei V E (qio x) < 2 ^ V.length:=v4m hpw hnb;have hx':idx (qem V E p).above ((qio x:Nat):Int)=some ((qa4 V p (qio x):Nat):Int):=qaf (qka _ hl);have hy':idx (qem V E p).near ((qio x:Nat):Int)=some ((qei V E (qio x):Nat):Int):=qaf (qka _ hl);have e1:=q5a (show qa4 V p (qio x) < 65536 by omega) (show rest < 65536 by omega);have e3:=q19 h0 (show x < 65536 by omega);have e4:=q5a (show x < 65536 by omega) (show x - 1 < 65536 by omega);have hb:((((qa4 V p (qio x) &&& rest:Nat):Int)) == 0)=true↔∀j,(qa4 V p (qio x)).testBit j=true→rest.testBit j=false:=by
        rw [beq_iff_eq];have:((qa4 V p (qio x) &&& rest:Nat):Int)=0↔qa4 V p (qio x) &&& rest=0:=by omega
        rw [this,quj];constructor
        · intro h j hj
          have:=h j;rw [v4s,hj,Bool.true_and] at this;exact this
        · intro h j
          rw [v4s];cases hj:(qa4 V p (qio x)).testBit j with
          | false=>rfl
          | true=>rw [h j hj];rfl
      by_cases hc:∀j,(qa4 V p (qio x)).testBit j=true→rest.testBit j=false
      · have hbt:=hb.2 hc
        refine⟨_,?_,.inl ⟨qio x,l1,hc,rfl⟩⟩;have hstep:qa8 (qem V E p) ((kept:Int),(rest:Int),false,(x:Int))=some (.next (((kept ||| 2 ^ qio x:Nat):Int),((dnN rest (2 ^ qio x ||| qei V E (qio x)):Nat):Int),true,((x &&& (x - 1):Nat):Int))):=by
          simp only [qa8,if_pos (show (x:Int) > 0 by omega),vxj,if_false,qa7,if_pos (show (0:Int)≤(x:Int)∧(x:Int) < 65536 by omega),v1w,vzm,t1,hx',e1,hbt,if_true,if_neg (show ¬((qio x:Nat):Int) < 0 by omega),hy',
            vcp (show qio x < 16 by omega),vsn (show kept < 65536 by omega) (show 2 ^ qio x < 65536 by omega),vsn (show 2 ^ qio x < 65536 by omega) (show qei V E (qio x) < 65536 by omega),q5b (show rest < 65536 by omega) (show 2 ^ qio x ||| qei V E (qio x) < 65536 by omega),e3,e4]
        rw [qa1 hstep];refine qam ?_;by_cases hz:((x &&& (x - 1):Nat):Int) > 0
        · simp only [qa8,if_pos hz,if_true]
        · simp only [qa8,if_neg hz]
      · have hbf:((((qa4 V p (qio x) &&& rest:Nat):Int)) == 0)=false:=by
          rw [vz4];exact fun h=>hc (hb.1 h)
        obtain⟨r,r1,r2⟩:=ih (x &&& (x - 1)) (by omega) (by omega);have hstep:qa8 (qem V E p) ((kept:Int),(rest:Int),false,(x:Int))=some (.next ((kept:Int),(rest:Int),false,((x &&& (x - 1):Nat):Int))):=by
          simp only [qa8,if_pos (show (x:Int) > 0 by omega),vxj,if_false,qa7,if_pos (show (0:Int)≤(x:Int)∧(x:Int) < 65536 by omega),v1w,vzm,t1,hx',e1,hbf,e3,e4]
        refine⟨r,by rw [qa1 hstep];exact r1,?_⟩;rcases r2 with⟨i,i1,i2,i3⟩|⟨i1,i2⟩
        · rw [l3,vxh] at i1
          exact .inl ⟨i,i1.1,i2,i3⟩
        · refine .inr ⟨fun i hi=>?_,i2⟩
          by_cases hil:i=qio x
          · rw [hil]
            obtain⟨j,hj⟩:=Classical.not_forall.1 hc;obtain⟨j1,j2⟩:=Classical.not_imp.1 hj;exact⟨j,j1,by simpa using j2⟩
          · exact i1 i (by rw [l3,hi];simp [hil])
theorem q94 {al:Nat} (hal:al < 2 ^ V.length):∀(m rest kept:Nat),rest≤m→RunG V.length (qei V E) (qa4 V p) al kept rest →
    ∃o,qaj (qbj (qem V E p) (al:Int)) ((kept:Int),(rest:Int))=some o ∧
      ((∃K:Nat,o=.inl (K:Int)∧RunG V.length (qei V E) (qa4 V p) al K 0∧(∀i,kept.testBit i=true→K.testBit i=true)∧PathG (qei V E) (qa4 V p) K rest) ∨
       (∃K:Nat,o=.inr ((K:Int),false)∧∃rest',rest'≠0∧rest' < 2 ^ V.length∧∀i,rest'.testBit i=true→al.testBit i=true→∃j,(qa4 V p i).testBit j=true∧rest'.testBit j=true)):=by
  have hp:=qpc hn;have hG:=q0x H h2 hP;intro m
  induction m with
  | zero =>
    intro rest kept hm R;have:rest=0:=by omega
    subst this;exact⟨.inl (kept:Int),qam (by simp [qbj]),.inl ⟨kept,rfl,R,fun _ h=>h,.nil⟩⟩
  | succ m ih =>
    intro rest kept hm R;by_cases h0:rest=0
    · subst h0
      exact⟨.inl (kept:Int),qam (by simp [qbj]),.inl ⟨kept,rfl,R,fun _ h=>h,.nil⟩⟩
    · have hrl:=R.rlt
      have hkl:=R.klt;have hle:rest &&& al≤rest:=v5d;have e1:=q5a (show rest < 65536 by omega) (show al < 65536 by omega);obtain⟨r,r1,r2⟩:=vg6 H h2 hn hP hkl hrl (rest &&& al) (rest &&& al) (vza _) (by omega);rcases r2 with⟨i,i1,i2,rfl⟩|⟨i1,rfl⟩
      · rw [v4s,vxh] at i1
        have hrst:rstG (qei V E) rest i (dnN rest (2 ^ i ||| qei V E i)):=fun j=>by
          rw [qjn,v4v,v4x];congr 3;exact decide_eq_decide.2 eq_comm
        obtain⟨R',hlt⟩:=R.step hG i1.1 i1.2 i2 hrst;obtain⟨o,o1,o2⟩:=ih _ _ (by omega) R';have hstep:qbj (qem V E p) (al:Int) ((kept:Int),(rest:Int))=some (.next (((kept ||| 2 ^ i:Nat):Int),((dnN rest (2 ^ i ||| qei V E i):Nat):Int))):=by
          simp only [qbj,if_pos (show (rest:Int) > 0 by omega),e1,r1,vzm,if_true]
        refine⟨o,by rw [qa1 hstep];exact o1,?_⟩;rcases o2 with⟨K,rfl,k1,k2,k3⟩|⟨K,rfl,k1⟩
        · refine .inl ⟨K,rfl,k1,fun j hj=>k2 j ?_,.step i1.1 (k2 i ?_) i2 hrst k3⟩
          · rw [v4v,hj];rfl
          · rw [v4v,v4x];simp
        · exact .inr ⟨K,rfl,k1⟩
      · refine⟨.inr ((kept:Int),false),qam ?_,.inr ⟨kept,rfl,rest,h0,hrl,fun j hj ha=>i1 j (by rw [v4s,hj,ha];rfl)⟩⟩
        simp only [qbj,if_pos (show (rest:Int) > 0 by omega),e1,r1,vzm,vxj,if_false]
omit H h2 hn hP in
theorem qum {i:Nat} (hi:i < V.length):(2 ^ V.length - 1).testBit i=true:=by
 rw [Nat.testBit_two_pow_sub_one];simpa using hi
theorem vg7:∃K,qic ⟨V,E⟩ p=some (qel V K,0)∧K < 2 ^ V.length∧PathG (qei V E) (qa4 V p) K (2 ^ V.length - 1):=by
 have hp:=qpc hn;have hG:=q0x H h2 hP;have hpos:1≤2 ^ V.length:=v4p (by omega);have hB:=qyx H h2 hn hP;obtain⟨o,o1,o2⟩:=q94 H h2 hn hP (al:=2 ^ V.length - 1) (by omega) (2 ^ V.length - 1) (2 ^ V.length - 1) 0 (vza _) (RunG.start (by omega) fun i hi=>qum hi);rcases o2 with⟨K,rfl,k1,_,k3⟩|⟨K,rfl,rest',q1,q2,q3⟩
 ·refine⟨K,?_,k1.klt,k3⟩;have hr:qc4 (qem V E p) (qem V E p).free=some ((K:Int),true):=by
   unfold qc4;have e0:(qem V E p).free=((2 ^ V.length - 1:Nat):Int):=rfl;rw [e0];rw [show (qaj (qbj (qem V E p) ((2 ^ V.length - 1:Nat):Int)) (0,((2 ^ V.length - 1:Nat):Int)))=some (.inl (K:Int)) from o1];rfl
  unfold qic;simp only [hB,vzm,bne_self_eq_false,vxj,if_false,hr,vg3 E p H.asc hn k1.klt]
 ·exfalso;obtain⟨i,i1,i2⟩:=vqh hG q2 q1;obtain⟨j,j1,j2⟩:=q3 i i1 (qum (qj9 q2 i1));rw [i2 j j1] at j2;cases j2
theorem q71 {S:Nat} (hS:S∈qiv V E):qim ⟨V,E⟩ p (qel V S) (qel V S)=some (some (qem V E p),(S:Int),(S:Int),0):=by
 have hB:=qyx H h2 hn hP;have hM:=vgx H.toHG hS;have hof:=vg1 E p H.asc hn (qjm hS);unfold qim;simp only [hB,vzm,bne_self_eq_false,vxj,if_false,hM,if_true,hof]
theorem q2f {S:Nat} (hS:S∈qiv V E):∃b,qc5 ⟨V,E⟩ p (qel V S)=some (b,0)∧(b=true→q7z V E (qa4 V p) S):=by
 have hp:=qpc hn;have hG:=q0x H h2 hP;have hE:=vkn H h2;have hpos:1≤2 ^ V.length:=v4p (by omega);have hSl:=qjm hS;obtain⟨o,o1,o2⟩:=q94 H h2 hn hP hSl (2 ^ V.length - 1) (2 ^ V.length - 1) 0 (vza _) (RunG.start (by omega) fun i hi=>qum hi);have e0:(qem V E p).free=((2 ^ V.length - 1:Nat):Int):=rfl;have hr:qc4 (qem V E p) (S:Int)=(some o).bind (fun o=>match o with | .inl kept=>some (kept,true) | .inr r=>some r):=by
  unfold qc4;rw [e0];rw [show (qaj (qbj (qem V E p) (S:Int)) (0,((2 ^ V.length - 1:Nat):Int)))=some o from o1];rfl
 rcases o2 with⟨K,rfl,k1,_,k3⟩|⟨K,rfl,_⟩
 ·refine⟨true,?_,fun _ T hT=>?_⟩
  ·unfold qc5;rw [q71 H h2 hn hP hS,vzm];simp only [bne_self_eq_false,vxj,if_false,vzm,hr]
  ·have h1:=((allG S).1 hS).2;have h3:=((allG T).1 hT).2;rw [q18 hE hSl] at h1;rw [q18 hE (qjm hT)] at h3;exact k1.best h1 hSl h3 (qjm hT)
 ·refine⟨false,?_,fun h=>(by cases h)⟩;unfold qc5;rw [q71 H h2 hn hP hS,vzm];simp only [bne_self_eq_false,vxj,if_false,vzm,hr]
open Classical in
theorem vg8 {S:Nat} (hS:S∈qiv V E):∃l b,qgy ⟨V,E⟩ p (qel V S)=some (l,b,0)∧(q7z V E (qa4 V p) S→b=true):=by
 obtain⟨l,hl⟩:=qy0 H hn (p:=p) (r:=S) (fun (y:Int) (z:Int)=>qck (qem V E p) y z) (fun r S=>parG (qa4 V p) r S) (fun T hT=>vg5 hn hP (qjm hS) (qjm hT))
 refine⟨l,decide (∀T∈qiv V E,¬parG (qa4 V p) S T),?_,fun ho=>decide_eq_true fun T hT hp=>ho T hT (vqg hp)⟩
 unfold qgy
 rw [q71 H h2 hn hP hS,vzm]
 simp only [bne_self_eq_false,vxj,if_false,vzm,hl]
end
end Go.Proofs.YtpealiejioeonaaGreatDoor
namespace Go.Proofs.YtpealiejioeonaaGreatDoor
open Go Go.Ab
theorem q5e (p:List Arr2_int64) (a b:Int) (hl:p.length≤1000000):qgw p a b=some (decide ((⟨a,b⟩:Arr2_int64)∈p)):=by
 have h:=qfg p (qdl p a b) (fun x=>!((x.x0 == a) && (x.x1 == b))) true
  (fun k x hx hk hp=>by
   simp only [qdl,if_pos (qah hx),qaf hx,vzm,wqn k];cases h1:(x.x0 == a) with
   | false=>rfl
   | true =>
    cases h2:(x.x1 == b) with
    | false=>rfl
    | true=>rw [h1,h2] at hp;cases hp)
  (fun k x hx hp=>by
   simp only [qdl,if_pos (qah hx),qaf hx,vzm];rw [v2q,vxh] at hp;rw [if_pos hp.1,if_pos hp.2])
  (by simp [qdl])
 have hc:p.all (fun x=>!((x.x0 == a) && (x.x1 == b)))=!decide ((⟨a,b⟩:Arr2_int64)∈p):=by
  rw [v2o,v0e,vxl,decide_eq_false_iff_not];constructor
  ·intro h hm;have:=h _ hm;simp at this
  ·intro h x hx;rw [vxl,Bool.and_eq_false_iff];refine Classical.byContradiction fun hno=>?_
   rw [not_or,vxk,vxk,beq_iff_eq,beq_iff_eq] at hno;refine h ?_;have:x=⟨a,b⟩:=by cases x;simp only at hno;rw [hno.1,hno.2]
   rw [←this];exact hx
 unfold qgw;rw [h,hc,vzm];by_cases hm:(⟨a,b⟩:Arr2_int64)∈p
 ·simp [hm]
 ·simp [hm]
theorem vkq (p:List Arr2_int64) (l:List Int) (v:Int) (hp:p.length≤1000000) (hl:l.length≤1000):qid p l v=some (decide (∀y∈l,(⟨y,v⟩:Arr2_int64) ∉ p)):=by
 have h:=qfg l (qeb p l v) (fun y=>!decide ((⟨y,v⟩:Arr2_int64)∈p)) false
  (fun k x hx hk hq=>by
   rw [vxl] at hq;simp only [qeb,if_pos (qah hx),qaf hx,vzm,q5e p x v hp,hq,vxj,if_false,wqn k])
  (fun k x hx hq=>by
   rw [v2q] at hq;simp only [qeb,if_pos (qah hx),qaf hx,vzm,q5e p x v hp,hq,if_true])
  (by simp [qeb])
 have hc:l.all (fun y=>!decide ((⟨y,v⟩:Arr2_int64)∈p))=decide (∀y∈l,(⟨y,v⟩:Arr2_int64) ∉ p):=by
  rw [v2o,v0e,decide_eq_true_eq];exact forall_congr' fun y=>imp_congr_right fun _=>by rw [vxl,decide_eq_false_iff_not]
 unfold qid;rw [h,hc,vzm];by_cases hm:∀y∈l,(⟨y,v⟩:Arr2_int64) ∉ p
 ·rw [decide_eq_true hm];rfl
 ·rw [decide_eq_false hm];rfl
theorem q95 (V:List Int) (E:List (List Int)) (l:List Int) (hE:E.length≤1000000) (hl:∀e∈E,e.length≤1000):qgx ⟨V,E⟩ l=some (decide (l∈E)):=by
 have h:=qfg E (qec ⟨V,E⟩ l) (fun e=>!decide (e=l)) true
  (fun k x hx hk hq=>by
   rw [vxl] at hq;have:=hl x (vyo hx);simp only [qec,if_pos (qah hx),qaf hx,vzm,q9e x l (by omega),hq,vxj,if_false,wqn k])
  (fun k x hx hq=>by
   rw [v2q] at hq;have:=hl x (vyo hx);simp only [qec,if_pos (qah hx),qaf hx,vzm,q9e x l (by omega),hq,if_true])
  (by simp [qec])
 unfold qgx;rw [h,vzm];by_cases hm:l∈E
 ·have:E.all (fun e=>!decide (e=l))=false:=List.all_eq_false.2 ⟨l,hm,by simp⟩;rw [this,decide_eq_true hm];rfl
 ·have:E.all (fun e=>!decide (e=l))=true:=v0e.2 fun e he=>by
   rw [vxl,decide_eq_false_iff_not];intro h;rw [h] at he;exact hm he
  rw [this,decide_eq_false hm];rfl
section
variable {V:List Int} {E:List (List Int)} (H:HV V E) (h2:∀e∈E,e.length=2) (hn:V.length≤6) {p:List Arr2_int64} {mu:Nat→Nat} (hP:PrefG V E p mu)
include H h2 in
theorem nb_eq {a b:Int} (ha:a∈V) (hb:b∈V):qd7 ⟨V,E⟩ a b=some ((qei V E (qcf V a)).testBit (qcf V b)):=by
 have hel:=H.elen;have hE:=vkn H h2;have ed:=fun l=>q95 V E l (by omega) (fun e he=>by have:=h2 e he;omega)
 have hT:=fun e he=>qqx H h2 (e:=e) he
 have hbits:(qei V E (qcf V a)).testBit (qcf V b)=true↔∃e∈E,e=[b,a]∨e=[a,b]:=by
  unfold qei;rw [qul V E _ _ _ fun e he=>(hT e he).ne];simp only [v42,vxj,false_or];refine exists_congr fun e=>and_congr_right fun he=>?_
  obtain⟨x,y,rfl,hxy,hx,hy⟩:=(hT e he).shape;have e0:p0 V [x,y]=qcf V x:=rfl;have e1:p1 V [x,y]=qcf V y:=rfl;rw [e0,e1];constructor
  ·rintro (⟨q1,q2⟩|⟨q1,q2⟩)
   ·rw [qno ha hy q1,qno hb hx q2];exact .inl rfl
   ·rw [qno ha hx q1,qno hb hy q2];exact .inr rfl
  ·rintro (q | q)
   ·injection q with q1 q2
    injection q2 with q2 _
    rw [q1,q2];exact .inl ⟨rfl,rfl⟩
   ·injection q with q1 q2
    injection q2 with q2 _
    rw [q1,q2];exact .inr ⟨rfl,rfl⟩
 have hasc:∀x y:Int,[x,y]∈E→x < y:=fun x y h=>by
  obtain⟨x',y',he,hlt,_⟩:=(hT _ h).shape;injection he with q1 q2
  injection q2 with q2 _
  omega
 unfold qd7;by_cases hab:a=b
 ·subst hab;rw [if_neg (by simp)];congr 1;symm;rw [vz4];intro h;obtain⟨e,he,h⟩:=hbits.1 h;rcases h with rfl | rfl
  ·have:=hasc _ _ he;omega
  ·have:=hasc _ _ he;omega
 ·rw [if_pos (by rw [bne_iff_ne];exact hab),ed,vzm];congr 1;rw [v2o,decide_eq_true_eq,hbits];by_cases hlt:a < b
  ·rw [if_neg (by omega),if_pos hlt];constructor
   ·intro h;exact⟨_,h,.inr rfl⟩
   ·rintro⟨e,he,rfl | rfl⟩
    ·have:=hasc _ _ he;omega
    ·exact he
  ·rw [if_pos (by omega),if_neg (by omega)];constructor
   ·intro h;exact⟨_,h,.inl rfl⟩
   ·rintro⟨e,he,rfl | rfl⟩
    ·exact he
    ·have:=hasc _ _ he;omega
include H h2 hn hP in
theorem vkr {rest:Nat} {x:Int} (hx:x∈V):qhk ⟨V,E⟩ (qel V rest) x=some (qel V (dnN rest (2 ^ qcf V x ||| qei V E (qcf V x)))):=by
 have hG:=q0x H h2 hP;have hsub:=qpb V rest;have hsl:=hsub.length_le
 let q:Int→Bool:=fun y=>decide (y≠x) && !((qei V E (qcf V y)).testBit (qcf V x))
 have h:=qcl (qel V rest) (fun (b:List Int) (i:Int)=>(b,i)) (qfd ⟨V,E⟩ (qel V rest) x) (fun b y=>if q y=true then b++[y] else b) id (fun k b=>b.length≤k) (b0:=[]) (s0:=([],0)) rfl (vza _)
  (fun k b y hy hk hI=>by
   have hyV:=hsub.subset (vyo hy);have hnb:=nb_eq H h2 hyV hx;refine⟨?_,(by split;exact (by rw [vyc,v12];omega);omega)⟩;simp only [qfd,if_pos (qah hy),qaf hy,vzm,hnb,qt6 (show b.length+1≤17592186044416 by omega),if_true,wqn k];by_cases hyx:y=x
   ·have hq:q y=false:=by show (decide (y≠x) && _)=false;simp [hyx]
    have hb:¬(y != x)=true:=by simp [hyx]
    rw [if_neg hb,hq];rfl
   ·have hb:(y != x)=true:=by simpa using hyx
    rw [if_pos hb,vzm];have hq:q y=!((qei V E (qcf V y)).testBit (qcf V x)):=by show (decide (y≠x) && _)=_;simp [hyx]
    rw [hq];cases (qei V E (qcf V y)).testBit (qcf V x) <;> rfl)
  (fun b _=>by simp [qfd])
 rw [q7n q (fun y=>y),vyt,List.map_id'] at h;have hfin:(qel V rest).filter q=qel V (dnN rest (2 ^ qcf V x ||| qei V E (qcf V x))):=by
  refine q2d (v3a.sublist List.filter_sublist (qyy H.asc rest)) (qyy H.asc _) fun y=>?_
  rw [v05,qmo,qmo];have hpx:=qif hx;constructor
  ·rintro⟨⟨k,k1,k2⟩,hq⟩;have hyV:y∈V:=vyo k1;have hk:qcf V y=k:=(qje H.asc hyV k).2 k1;refine⟨k,k1,?_⟩;have hq':(decide (y≠x) && !((qei V E (qcf V y)).testBit (qcf V x)))=true:=hq;rw [vxh,decide_eq_true_eq,vxl,hk] at hq';rw [qjn,k2,v4v,v4x,Bool.true_and,vxl,v2u,decide_eq_false_iff_not];refine⟨fun e=>hq'.1 (qno hyV hx (hk.trans e.symm)),?_⟩;cases hb:(qei V E (qcf V x)).testBit k with
   | false=>rfl
   | true =>
    have:=hG.symm _ _ hpx (qb9 k1) hb;rw [hq'.2] at this;cases this
  ·rintro⟨k,k1,k2⟩;have hyV:y∈V:=vyo k1;have hk:qcf V y=k:=(qje H.asc hyV k).2 k1;rw [qjn,vxh,v4v,v4x,vxl,v2u,decide_eq_false_iff_not] at k2;refine⟨⟨k,k1,k2.1⟩,?_⟩;show (decide (y≠x) && !((qei V E (qcf V y)).testBit (qcf V x)))=true;rw [vxh,decide_eq_true_eq,vxl,hk];refine⟨fun e=>k2.2.1 (by rw [←hk,e]),?_⟩;cases hb:(qei V E k).testBit (qcf V x) with
   | false=>rfl
   | true =>
    have:=hG.symm _ _ (qb9 k1) hpx hb;rw [k2.2.2] at this;cases this
 unfold qhk;rw [h,←hfin];rfl
include H h2 hn in
theorem vks:qhl ⟨V,E⟩=some (qel V (2 ^ V.length - 1)):=by
 have hel:=H.elen;have ed:=fun l=>q95 V E l (by omega) (fun e he=>by have:=h2 e he;omega)
 have h:=qcl V (fun (b:List Int) (i:Int)=>(b,i)) (qfe ⟨V,E⟩) (fun b y=>b++[y]) id (fun k b=>b.length=k) (b0:=[]) (s0:=([],0)) rfl rfl
  (fun k b y hy hk hI=>by
   have hno:([y]:List Int) ∉ E:=fun h=>by have:=h2 _ h;simp at this
   refine⟨?_,by simp [hI]⟩;simp only [qfe,if_pos (qah hy),qaf hy,vzm,ed,decide_eq_false hno,vxj,if_false,qt6 (show b.length+1≤17592186044416 by omega),if_true,wqn k])
  (fun b _=>by simp [qfe])
 have hf:∀(l b:List Int),l.foldl (fun b y=>b++[y]) b=b++l:=by
  intro l
  induction l with
  | nil=>intro b;simp
  | cons x l ih=>intro b;simp [ih]
 rw [hf,vyt] at h;have hV:V=qel V (2 ^ V.length - 1):=q2d H.asc (qyy H.asc _) fun y=>by
  rw [qmo];constructor
  ·intro hy;obtain⟨k,hk⟩:=v3t.1 hy;exact⟨k,hk,qum (qb9 hk)⟩
  ·rintro⟨k,hk,_⟩;exact vyo hk
 unfold qhl;rw [h,vzm,id,←hV]
include H h2 hn hP in
theorem vwv {K:Nat} (hK:K < 2 ^ V.length):∀(f rest:Nat),rest < f→rest < 2 ^ V.length→∃b,qce f ⟨V,E⟩ p (qel V rest) (qel V K)=some b∧(PathG (qei V E) (qa4 V p) K rest→b=true):=by
 have hp:=qpc hn;have hG:=q0x H h2 hP;have hfew:=hP.few;intro f
 induction f with
 | zero=>intro rest h;omega
 | succ f ih =>
  intro rest hf hr;show ∃b,qe2 (qce f) ⟨V,E⟩ p (qel V rest) (qel V K)=some b∧_;by_cases h0:rest=0
  ·subst h0;refine⟨true,?_,fun _=>rfl⟩;unfold qe2;rw [q2e];rfl
  ·have hsub:=qpb V rest;have hsl:=hsub.length_le;have hKl:=(qpb V K).length_le;obtain⟨x0,_,hlow⟩:=vg2 H.asc hn hr h0;have hne:¬((((qel V rest).length:Nat):Int) == 0)=true:=by
    rw [hlow];simp;omega
   let nx:Int→Nat:=fun x=>dnN rest (2 ^ qcf V x ||| qei V E (qcf V x))
   have hnx:∀x∈qel V rest,nx x < rest:=fun x hx=>by
    obtain⟨k,k1,k2⟩:=qmo.1 hx;have hxV:=hsub.subset hx;have hk:qcf V x=k:=(qje H.asc hxV k).2 k1;have hle:=q90 rest (2 ^ qcf V x ||| qei V E (qcf V x));have hne:nx x≠rest:=fun e=>by
     have:=qjn rest (2 ^ qcf V x ||| qei V E (qcf V x)) k;have e':dnN rest (2 ^ qcf V x ||| qei V E (qcf V x))=rest:=e;rw [e',k2,v4v,v4x,hk] at this;simp at this
    exact Nat.lt_of_le_of_ne hle hne
   have hgood:∀x∈qel V rest,(∀y∈qel V rest,(⟨y,x⟩:Arr2_int64) ∉ p)↔∀j,(qa4 V p (qcf V x)).testBit j=true→rest.testBit j=false:=fun x hx=>by
    have hxV:=hsub.subset hx;constructor
    ·intro h j hj;unfold qa4 at hj;rw [qrq] at hj;rcases hj with hj | ⟨y,hy,q1,q2⟩
     ·simp at hj
     ·obtain⟨m1,m2,_⟩:=hP.mem y hy;cases hb:rest.testBit j with
      | false=>rfl
      | true =>
       exfalso;have hxe:x=y.x1:=qno hxV m2 q1;refine h y.x0 (qmo.2 ⟨j,by rw [q2];exact (qin m1).2,hb⟩) ?_;rw [hxe];exact hy
    ·intro h y hy hm;obtain⟨k,k1,k2⟩:=qmo.1 hy;have hyV:=hsub.subset hy;have hk:qcf V y=k:=(qje H.asc hyV k).2 k1;have:=h k (by
      unfold qa4;rw [qrq];exact .inr ⟨_,hm,rfl,hk.symm⟩)
     rw [k2] at this;cases this
   obtain⟨o,e,ho⟩:=qmk (β:=Unit) (qel V rest).length (fun _ i=>i) (qb8 ⟨V,E⟩ p (qel V rest) (qel V K) (qce f)) (fun k _=>PathG (qei V E) (qa4 V p) K rest→∃m x,k≤m∧(qel V rest)[m]?=some x∧x∈qel V K∧(∀j,(qa4 V p (qcf V x)).testBit j=true→rest.testBit j=false)∧PathG (qei V E) (qa4 V p) K (nx x))
    (fun o=>o=(.inr true:Unit ⊕ Bool)∨o=.inl ()∧¬PathG (qei V E) (qa4 V p) K rest) (b0:=()) (s0:=0) 0 (v1m _) rfl
    (fun hpath=>by
     cases hpath with
     | nil=>exact absurd rfl h0
     | @step _ i r' p1 p2 p3 p4 p5 =>
      have hi:=qj9 hr p1;have hx:V[i]?=some V[i]:=vx4 hi;have hk:qcf V V[i]=i:=(qje H.asc (v3p hi) i).2 hx;obtain⟨m,hm⟩:=v3t.1 ((qqw H.asc hx rest).2 p1);refine⟨m,V[i],v1m _,hm,(qqw H.asc hx K).2 p2,by rw [hk];exact p3,?_⟩;have:nx V[i]=r':=by
       show dnN rest (2 ^ qcf V V[i] ||| qei V E (qcf V V[i]))=r';rw [hk];refine Nat.eq_of_testBit_eq fun j=>?_
       rw [p4 j,qjn,v4v,v4x];congr 3;exact decide_eq_decide.2 eq_comm
      rw [this];exact p5)
    (fun k _ _ hk hI=>by
     have hx:(qel V rest)[k]?=some (qel V rest)[k]:=vx4 hk;have hxm:=v3p hk;generalize (qel V rest)[k]=x at hx hxm;have hxV:=hsub.subset hxm;have hHas:=vwf (qel V K) x (by omega);have hbest:=vkq p (qel V rest) x (by omega) (by omega);have haft:=vkr H h2 hn hP (rest:=rest) hxV;obtain⟨b',b1,b2⟩:=ih (nx x) (by have:=hnx x hxm;omega) (by have:=hnx x hxm;omega);have b1':qce f ⟨V,E⟩ p (qel V (dnN rest (2 ^ qcf V x ||| qei V E (qcf V x)))) (qel V K)=some b':=b1;have hw:=wqn k;by_cases c1:x∈qel V K
     ·by_cases c2:∀y∈qel V rest,(⟨y,x⟩:Arr2_int64) ∉ p
      ·cases b' with
       | true =>
        refine .inr ⟨.inr true,?_,.inl rfl⟩;simp only [qb8,if_pos (qah hx),qaf hx,vzm,hHas,decide_eq_true c1,if_true,hbest,decide_eq_true c2,haft,b1']
       | false =>
        refine .inl ⟨(),?_,fun hpath=>?_⟩
        ·simp only [qb8,if_pos (qah hx),qaf hx,vzm,hHas,decide_eq_true c1,if_true,hbest,decide_eq_true c2,haft,b1',vxj,if_false,hw]
        ·obtain⟨m,x',q1,q2,q3,q4,q5⟩:=hI hpath;refine⟨m,x',?_,q2,q3,q4,q5⟩;rcases v5e q1 with h | h
         ·exact h
         ·exfalso;rw [←h,hx] at q2;cases q2;have:=b2 q5;cases this
      ·refine .inl ⟨(),?_,fun hpath=>?_⟩
       ·simp only [qb8,if_pos (qah hx),qaf hx,vzm,hHas,decide_eq_true c1,if_true,hbest,decide_eq_false c2,vxj,if_false,hw]
       ·obtain⟨m,x',q1,q2,q3,q4,q5⟩:=hI hpath;refine⟨m,x',?_,q2,q3,q4,q5⟩;rcases v5e q1 with h | h
        ·exact h
        ·exfalso;rw [←h,hx] at q2;cases q2;exact c2 ((hgood x hxm).2 q4)
     ·refine .inl ⟨(),?_,fun hpath=>?_⟩
      ·simp only [qb8,if_pos (qah hx),qaf hx,vzm,hHas,decide_eq_false c1,vxj,if_false,hw]
      ·obtain⟨m,x',q1,q2,q3,q4,q5⟩:=hI hpath;refine⟨m,x',?_,q2,q3,q4,q5⟩;rcases v5e q1 with h | h
       ·exact h
       ·exfalso;rw [←h,hx] at q2;cases q2;exact c1 q3)
    (fun _ hI=>⟨.inl (),by simp [qb8],.inr ⟨rfl,fun hpath=>by
     obtain⟨m,x,q1,q2,_⟩:=hI hpath;have:=qb9 q2;omega⟩⟩)
   unfold qe2;rw [if_neg hne,e,vzm];rcases ho with rfl | ⟨rfl,hno⟩
   ·exact⟨true,rfl,fun _=>rfl⟩
   ·exact⟨false,rfl,fun h=>absurd h hno⟩
include H h2 hn hP in
theorem qzt {K:Nat} (hK:K < 2 ^ V.length) (hpath:PathG (qei V E) (qa4 V p) K (2 ^ V.length - 1)):qdd ⟨V,E⟩ p (qel V K)=some true:=by
 have hp:=qpc hn;have hpos:1≤2 ^ V.length:=v4p (by omega);obtain⟨b,b1,b2⟩:=vwv H h2 hn hP hK 64 (2 ^ V.length - 1) (by omega) (by omega);have hb:=b2 hpath;subst hb;unfold qdd qny;rw [vks H h2 hn,vzm,b1];rfl
end
end Go.Proofs.YtpealiejioeonaaGreatDoor
namespace Go.Proofs.YtpealiejioeonaaGreatDoor
open Go Go.Ab
theorem vg9 {n:Nat} (hn:n≤16) (l:List Drossref09_Dep) (h:∀d∈l,qhm d) (hl:l.length≤1000000):qib (n:Int) l=some (l.map fun d=>(⟨((d.L.toNat % 2 ^ n:Nat):Int),((d.R.toNat % 2 ^ n:Nat):Int)⟩:FD)):=by
 have h:=qcl l (fun (b:List FD) (i:Int)=>(b,i)) (qf6 l ((2 ^ n - 1:Nat):Int)) (fun b d=>b++[(⟨((d.L.toNat % 2 ^ n:Nat):Int),((d.R.toNat % 2 ^ n:Nat):Int)⟩:FD)]) id (fun k b=>b.length=k) (b0:=[]) (s0:=([],0)) rfl rfl
  (fun k b d hx hk hI=>by
   have hd:=h d (vyo hx);refine⟨?_,by simp [hI]⟩;simp only [qf6,if_pos (qah hx),qaf hx,vzm,vf8 hn (q9m hd.1),vf8 hn (q9m hd.2),qt6 (show b.length+1≤17592186044416 by omega),if_true,wqn k])
  (fun b _=>by simp [qf6])
 have hf:∀(l:List Drossref09_Dep) (b:List FD),l.foldl (fun b d=>b++[(⟨((d.L.toNat % 2 ^ n:Nat):Int),((d.R.toNat % 2 ^ n:Nat):Int)⟩:FD)]) b=b++l.map fun d=>(⟨((d.L.toNat % 2 ^ n:Nat):Int),((d.R.toNat % 2 ^ n:Nat):Int)⟩:FD):=by
  intro l
  induction l with
  | nil=>intro b;simp
  | cons x l ih=>intro b;rw [v3l,ih,List.map_cons,List.append_assoc];rfl
 unfold qib;rw [vpx hn,vzm,h,hf];rfl
theorem vkt {t:Table} (T:DT t) (h5:t.Attrs.length≤5) (hname:t.Name=[114]) (l:List FD) (hl:l.length≤3) (h:∀f∈l,∃s r:Nat,f=⟨(s:Int),(r:Int)⟩∧s < 2 ^ t.Attrs.length∧r < 2 ^ t.Attrs.length) :
  ∃R,qi5 l=some R∧R.length≤4∧∀c∈R,TwoV t c:=by
 obtain⟨R,e,r1,r2⟩:=qhx (β:=List Constraint) l.length (fun b i=>(b,i)) (qgs l) id (fun k b=>b.length=k∧∀c∈b,TwoV t c) (b0:=[]) (s0:=([],0)) rfl ⟨rfl,fun c hc=>(by cases hc)⟩
  (fun k b hk hI=>by
   obtain⟨i1,i2⟩:=hI;have hx:l[k]?=some l[k]:=vx4 hk;obtain⟨s,r,hf,hs,hr⟩:=h _ (v3p hk);have hw:IntKind.i32.wrap (vz8.wrap (97+(k:Int)))=97+(k:Int):=by
    rw [wrap_i64 (by omega) (by omega)];have:k=0∨k=1∨k=2:=by omega
    rcases this with rfl | rfl | rfl <;> decide
   refine⟨b++[Constraint.mk [UInt8.ofNat (97+(k:Int)).toNat] [114] 1 (FD.mk (s:Int) (r:Int)) (FD.mk 0 0) (IND.mk [] [] [] []) (CFD.mk [] 0 []) (OD.mk [] []) (Denial.mk 0 [])],?_,by simp [i1],fun c hc=>?_⟩
   ·simp only [qgs,if_pos (qah hx),qaf hx,vzm,hw,if_pos (show (0:Int)≤97+(k:Int) by omega),if_pos (show 97+(k:Int) < 128 by omega),RLE (b.length+1) 272,if_true,hf,wqn k]
   ·rcases vym.1 hc with hc | hc
    ·exact i2 c hc
    ·rw [v09.1 hc];exact vwu T h5 hname _ hs hr)
  (fun b _=>by simp [qgs])
 refine⟨R,?_,by omega,r2⟩;unfold qi5;rw [e];rfl
theorem vqm {V:List Int} (E:List (List Int)) (ranks:List Int) (hV:V.Pairwise (· < ·)) (hl:V.length≤1000) {x:Int} (hx:x∈V):qe8 ⟨V,E⟩ ranks x=some (ranks.getD (qcf V x) 0):=by
 have hp:=qif hx;obtain⟨o,e,ho⟩:=qmk (β:=Unit) V.length (fun _ i=>i) (qdb ⟨V,E⟩ ranks x) (fun k _=>k≤qcf V x∨ranks.length≤qcf V x)
  (fun o=>o=(.inr (ranks.getD (qcf V x) 0):Unit ⊕ Int)∨o=.inl ()∧ranks.length≤qcf V x) (b0:=()) (s0:=0) 0 (v1m _) rfl (.inl (v1m _))
  (fun k b _ hk hI=>by
   have hy:V[k]?=some V[k]:=vx4 hk;have hw:=wqn k;by_cases hkx:qcf V x=k
   ·have hyx:V[k]=x:=by
     have:=(qje hV hx k).1 hkx;rw [hy] at this;exact v1p this
    by_cases hr:k < ranks.length
    ·have hrx:ranks[k]?=some ranks[k]:=vx4 hr;refine .inr ⟨.inr ranks[k],?_,.inl ?_⟩
     ·simp only [qdb,if_pos (qah hy),qaf hy,vzm,hyx,beq_self_eq_true,if_true,decide_eq_true (show (k:Int) < (ranks.length:Int) by omega),qaf hrx]
     ·rw [hkx,v0k,hrx];rfl
    ·refine .inl ⟨(),?_,.inr (by omega)⟩;simp only [qdb,if_pos (qah hy),qaf hy,vzm,hyx,beq_self_eq_true,if_true,decide_eq_false (show ¬(k:Int) < (ranks.length:Int) by omega),vxj,if_false,hw]
   ·have hyx:(V[k] == x)=false:=by
     rw [beq_eq_false_iff_ne];intro h;exact hkx ((qje hV hx k).2 (by rw [hy,h]))
    refine .inl ⟨(),?_,?_⟩
    ·simp only [qdb,if_pos (qah hy),qaf hy,vzm,hyx,vxj,if_false,hw]
    ·rcases hI with h | h
     ·exact .inl (by omega)
     ·exact .inr h)
  (fun _ hI=>⟨.inl (),by simp [qdb],.inr ⟨rfl,by omega⟩⟩)
 unfold qe8;rw [e,vzm];rcases ho with rfl | ⟨rfl,h⟩
 ·rfl
 ·rw [v0k,vx5 h];rfl
def muR (ranks:List Int) (n v:Nat):Nat:=((vyu n).filter fun w=>decide (ranks.getD v 0 < ranks.getD w 0)).length
theorem vww (ranks:List Int) (n v:Nat) (h:v < n):muR ranks n v < n:=by
 have:((vyu n).filter fun w=>decide (ranks.getD v 0 < ranks.getD w 0)).length < (vyu n).length :=
  v5a.2 ⟨v,List.mem_range.2 h,by simp⟩
 rw [v0u] at this;exact this
theorem vku (ranks:List Int) (n a b:Nat) (hb:b < n) (h:ranks.getD a 0 < ranks.getD b 0):muR ranks n b < muR ranks n a:=by
 have e:(vyu n).filter (fun w=>decide (ranks.getD b 0 < ranks.getD w 0))=((vyu n).filter fun w=>decide (ranks.getD a 0 < ranks.getD w 0)).filter fun w=>decide (ranks.getD b 0 < ranks.getD w 0):=by
  rw [List.filter_filter];refine v47 fun w _=>?_
  rw [v2o,vxh,decide_eq_true_eq,decide_eq_true_eq];omega
 unfold muR;rw [e];exact v5a.2 ⟨b,v05.2 ⟨List.mem_range.2 hb,by simpa using h⟩,by simp⟩
theorem vkv {V:List Int} {E:List (List Int)} (H:HV V E) (h2:∀e∈E,e.length=2) (hn:V.length≤6) (ranks:List Int) :
  ∃p,qaj (qbd ranks (⟨V,E⟩,0)) ([],0)=some p∧PrefG V E p (muR ranks V.length):=by
 have hel:=H.elen;have hnd:=qvk H.srtdE
 let rk:Int→Int:=fun x=>ranks.getD (qcf V x) 0
 have hrk:∀x∈V,qe8 ⟨V,E⟩ ranks x=some (rk x):=fun x hx=>vqm E ranks H.asc (by omega) hx
 obtain⟨p,e,p1,p2,p3⟩:=qhx (β:=List Arr2_int64) E.length (fun b i=>(b,i)) (qbd ranks (⟨V,E⟩,0)) id
  (fun k b=>b.length≤k∧b.Nodup∧∀y∈b,∃(j:Nat),j < k∧(E[j]?=some [y.x0,y.x1]∨E[j]?=some [y.x1,y.x0])∧rk y.x0 < rk y.x1) (b0:=[]) (s0:=([],0)) rfl ⟨vza _,v5c,fun y hy=>(by cases hy)⟩
  (fun k b hk hI=>by
   obtain⟨i1,i2,i3⟩:=hI;have hx:E[k]?=some E[k]:=vx4 hk;obtain⟨u,v,huv,hlt,hu,hv⟩:=(qqx H h2 (v3p hk)).shape;rw [huv] at hx;have e0:([u,v]:List Int)[0]?=some u:=rfl;have e1:([u,v]:List Int)[1]?=some v:=rfl;have hw:=wqn k;have hrm:=RLE (b.length+1) 16;have hold:∀y∈b,∃(j:Nat),j < k+1∧(E[j]?=some [y.x0,y.x1]∨E[j]?=some [y.x1,y.x0])∧rk y.x0 < rk y.x1:=fun y hy=>by
    obtain⟨j,j1,j2⟩:=i3 y hy;exact⟨j,by omega,j2⟩
   have hnew:∀y:Arr2_int64,(y=⟨u,v⟩∨y=⟨v,u⟩)→y ∉ b:=fun y hy hm=>by
    obtain⟨j,j1,j2,_⟩:=i3 y hm;have hj:∀l:List Int,E[j]?=some l→l≠[u,v]:=fun l hl h=>by
     subst h;obtain⟨hjl,a1⟩:=vx6.1 hl;obtain⟨hkl,a2⟩:=vx6.1 hx;have:=(v49 hnd).1 (a1.trans a2.symm);omega
    have hasc:∀l:List Int,E[j]?=some l→l≠[v,u]:=fun l hl h=>by
     subst h;obtain⟨x',y',he,hlt',_⟩:=(qqx H h2 (vyo hl)).shape;injection he with q1 q2
     injection q2 with q2 _
     omega
    rcases hy with rfl | rfl <;> rcases j2 with j2 | j2
    ·exact hj _ j2 rfl
    ·exact hasc _ j2 rfl
    ·exact hasc _ j2 rfl
    ·exact hj _ j2 rfl
   by_cases c1:rk u < rk v
   ·have c2:¬rk v < rk u:=by omega
    refine⟨b++[⟨u,v⟩],?_,by rw [vyc,v12];omega,v5b.2 ⟨i2,v3v.2 ⟨(fun h=>(by cases h)),v5c⟩,fun a ha b' hb'=>?_⟩,fun y hy=>?_⟩
    ·simp only [qbd,if_pos (qah hx),qaf hx,vzm,e0,e1,hrk u hu,hrk v hv,if_pos c1,if_neg c2,hrm,if_true,hw]
    ·intro h;rw [h,v09.1 hb'] at ha;exact hnew _ (.inl rfl) ha
    ·rcases vym.1 hy with hy | hy
     ·exact hold y hy
     ·rw [v09.1 hy];exact⟨k,by omega,.inl hx,c1⟩
   ·by_cases c2:rk v < rk u
    ·refine⟨b++[⟨v,u⟩],?_,by rw [vyc,v12];omega,v5b.2 ⟨i2,v3v.2 ⟨(fun h=>(by cases h)),v5c⟩,fun a ha b' hb'=>?_⟩,fun y hy=>?_⟩
     ·simp only [qbd,if_pos (qah hx),qaf hx,vzm,e0,e1,hrk u hu,hrk v hv,if_pos c2,if_neg c1,hrm,if_true,hw]
     ·intro h;rw [h,v09.1 hb'] at ha;exact hnew _ (.inr rfl) ha
     ·rcases vym.1 hy with hy | hy
      ·exact hold y hy
      ·rw [v09.1 hy];exact⟨k,by omega,.inr hx,c2⟩
    ·refine⟨b,?_,by omega,i2,hold⟩;simp only [qbd,if_pos (qah hx),qaf hx,vzm,e0,e1,hrk u hu,hrk v hv,if_neg c2,if_neg c1,hw])
  (fun b _=>by simp [qbd])
 refine⟨p,e,⟨by omega,fun x hx=>?_,p2,fun v hv=>vww ranks V.length v hv⟩⟩;obtain⟨j,_,j2,j3⟩:=p3 x hx;have hsh:∃e∈E,e=[x.x0,x.x1]∨e=[x.x1,x.x0]:=by
  rcases j2 with j2 | j2
  ·exact⟨_,vyo j2,.inl rfl⟩
  ·exact⟨_,vyo j2,.inr rfl⟩
 obtain⟨e,he,hs⟩:=hsh;have m0:x.x0∈V:=H.esub e he _ (by rcases hs with rfl | rfl <;> simp);have m1:x.x1∈V:=H.esub e he _ (by rcases hs with rfl | rfl <;> simp);refine⟨m0,m1,?_,vku ranks V.length _ _ (qif m1) j3⟩;unfold qei;rw [qul V E _ _ _ fun e he=>(qqx H h2 he).ne];refine .inr ⟨e,he,?_⟩;rcases hs with rfl | rfl
 ·exact .inr ⟨rfl,rfl⟩
 ·exact .inl ⟨rfl,rfl⟩
theorem vkw (V:List Int) (E:List (List Int)) (mu:Nat→Nat) (h:∀v,v < V.length→mu v < V.length):PrefG V E [] mu :=
 ⟨by simp,fun x hx=>(by cases hx),v5c,h⟩
theorem q5f (l:List (List Int)) (hl:l.length≤1000000) (h:∀e∈l,e.length≤1000):qhj l l=some true:=by
 have e:=qfg l (qfc l l) (fun _=>true) false
  (fun k x hx hk _=>by
   have:=h x (vyo hx);simp only [qfc,if_pos (qah hx),qaf hx,vzm,q9e x x (by omega),decide_true,if_true,wqn k])
  (fun k x hx hp=>by cases hp)
  (by simp [qfc])
 unfold qhj;rw [if_neg (by simp),e,vzm];have:l.all (fun _=>true)=true:=by simp
 rw [this];rfl
theorem in_l4 (best:List (List Int)) (x:List Int) (hl:best.length≤1000000) (hx:x.length≤1000):qaj (qb7 (best,0) x) (false,0)=some (decide (x∈best)):=by
 have h:=qcl best (fun (b:Bool) (i:Int)=>(b,i)) (qb7 (best,0) x) (fun b y=>if b=true then true else decide (x=y)) id (fun _ _=>True) (b0:=false) (s0:=(false,0)) rfl trivial
  (fun k b y hy hk _=>by
   refine⟨?_,trivial⟩;have hw:=wqn k;simp only [qb7,if_pos (qah hy),qaf hy,vzm,q9e x y (by omega),hw];cases b <;> rfl)
  (fun b _=>by simp [qb7])
 rw [h,id];congr 1;have hf:∀(l:List (List Int)) (b:Bool),l.foldl (fun b y=>if b=true then true else decide (x=y)) b=(b || decide (x∈l)):=by
  intro l
  induction l with
  | nil=>intro b;simp
  | cons y l ih =>
   intro b;rw [v3l,ih];cases b
   ·simp
   ·simp
 rw [hf];simp
open Classical in
theorem qs5 (x:Drossref03_Recipe) (deps:List Drossref09_Dep) (ranks:List Int) (h0:qha x) (h1:okL qhm deps) (h2:okL (okI .u8) ranks):qfi x deps ranks=some true:=by
 unfold qfi
 rcases vkc x h0 with hT | ⟨t,hT,hok,hgood,h6,h5,hname⟩
 ·rw [hT];rfl
 ·rw [hT,vzm]
  by_cases h3:¬deps.length≤3
  ·have hd:decide ((deps.length:Int) > 3)=true:=decide_eq_true (by omega)
   simp only [qhe,vzm,if_true,hd]
  have h3:=Classical.not_not.1 h3
  have hd:decide ((deps.length:Int) > 3)=false:=decide_eq_false (by omega)
  have T:DT t:=dt_of hok hgood (by omega)
  have hL:=vg9 (n:=t.Attrs.length) (by omega) deps (fun d hd=>h1.2 d hd) (by omega)
  obtain⟨R,hR,hR4,hTw⟩:=vkt T h5 hname (deps.map fun d=>(⟨((d.L.toNat % 2 ^ t.Attrs.length:Nat):Int),((d.R.toNat % 2 ^ t.Attrs.length:Nat):Int)⟩:FD)) (by rw [vye];exact h3) (fun f hf=>by
   obtain⟨d,_,rfl⟩:=v06.1 hf
   exact⟨_,_,rfl,vf9 _ _,vf9 _ _⟩)
  obtain⟨E,hB,H,hE2⟩:=vgz T hR4 hTw
  generalize hV:t.Rows.map Row.ID=V at hB H
  have hn:V.length≤6:=by rw [←hV,vye];exact h6
  have hal:=q7y (E:=E) hn
  have hA:=vqc H (by omega)
  obtain⟨p,hp,hP⟩:=vkv H hE2 hn ranks
  have hP0:=vkw V E (muR ranks V.length) hP.mul
  have hO:=q0w H hE2 hn hP
  have hO0:=q0w H hE2 hn hP0
  have hall:(qiv V E).filter (fun r=>decide (q7z V E (qa4 V []) r))=qiv V E:=by
   refine v48.2 fun S hS=>decide_eq_true fun T' hT'=>?_
   have hE:=vkn H hE2
   have g1:=(allG S).1 hS
   have g2:=(allG T').1 hT'
   exact vgy ((q18 hE g1.1).1 g1.2) ((q18 hE g2.1).1 g2.2) g2.1
  rw [hall] at hO0
  obtain⟨K,hG,hK,hpath⟩:=vg7 H hE2 hn hP
  have hrc:=qzt H hE2 hn hP hK hpath
  have hLr:=q5f ((qiv V E).map (qel V)) (by rw [vye];omega) (fun e he=>by
   obtain⟨S,_,rfl⟩:=v06.1 he
   have:=(qpb V S).length_le
   omega)
  simp only [qhe,vzm,if_true,hd,vxj,if_false,hL,hR,hB,hA,bne_self_eq_false,hp,hO,hO0,hG,hLr,hrc]
  have h5:=qfg ((qiv V E).map (qel V)) (qct (⟨V,E⟩,0) ((qiv V E).map (qel V),0) p (((qiv V E).filter fun r=>decide (q7z V E (qa4 V p) r)).map (qel V),0)) (fun _=>true) false
   (fun k x hx hk _=>by
    obtain⟨S,hS,rfl⟩:=v06.1 (vyo hx)
    have hSl:=qjm hS
    have hlen:=(qpb V S).length_le
    have hk':k < (qiv V E).length:=by simpa using hk
    have hfl:=v0s (fun r=>decide (q7z V E (qa4 V p) r)) (qiv V E)
    have hg:=in_l4 (((qiv V E).filter fun r=>decide (q7z V E (qa4 V p) r)).map (qel V)) (qel V S) (by rw [vye];omega) (by omega)
    have hmem:qel V S∈((qiv V E).filter fun r=>decide (q7z V E (qa4 V p) r)).map (qel V)↔q7z V E (qa4 V p) S:=by
     rw [v06]
     constructor
     ·rintro⟨S',hS',he⟩
      obtain⟨m1,m2⟩:=v05.1 hS'
      have:S'=S:=by rw [←qyz H.asc (qjm m1),he,qyz H.asc hSl]
      rw [←this]
      exact of_decide_eq_true m2
     ·intro h
      exact⟨S,v05.2 ⟨hS,decide_eq_true h⟩,rfl⟩
    obtain⟨b,hb1,hb2⟩:=q2f H hE2 hn hP hS
    obtain⟨l,c,hc1,hc2⟩:=vg8 H hE2 hn hP hS
    have hw:=wqn k
    simp only [qct,if_pos (qah hx),qaf hx,vzm,hg,hb1,hc1,bne_self_eq_false,vxj,if_false,hw]
    by_cases ho:q7z V E (qa4 V p) S
    ·have hcc:=hc2 ho
     subst hcc
     rw [decide_eq_true (hmem.2 ho)]
     cases b <;> rfl
    ·have hbb:b=false:=by
      cases b with
      | false=>rfl
      | true=>exact absurd (hb2 rfl) ho
     subst hbb
     rw [decide_eq_false (fun h=>ho (hmem.1 h))]
     rfl)
   (fun k x hx hp=>by cases hp)
   (by simp [qct])
  rw [h5]
  have:((qiv V E).map (qel V)).all (fun _=>true)=true:=by simp
  rw [this]
  rfl
end Go.Proofs.YtpealiejioeonaaGreatDoor
