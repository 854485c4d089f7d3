/- -/
import Derived.Test.YtijpapagpebllaaGreatDoorL2
set_option linter.unusedVariables false
set_option linter.unusedSimpArgs false
open Bool renaming eq_iff_iff->v9y,false_eq_true->v5k,not_eq_true'->v5m
open Int renaming natCast_zero->v91,toNat_natCast->v93
open Go.IntKind renaming i64->v96
open List renaming Pairwise->uad,all_eq_true->v8d,getD_eq_getElem?_getD->v8i,getElem?_eq_getElem->v52,getElem?_eq_some_iff->v56,getElem?_map->v8n,getElem_mem->ubj,length_append->v6b,length_cons->v8r,length_eq_zero_iff->ubl,length_map->v6d,length_nil->v6e,length_replicate->ucf,length_set->v6f,length_singleton->v8s,length_take->v6g,map_append->v6h,map_congr_left->v8u,map_eq_nil_iff->ucg,map_singleton->uch,mem_append->v6k,mem_cons_of_mem->v8y,mem_cons_self->v8z,mem_filter->v80,mem_flatten->uci,mem_iff_getElem->ubp,mem_map->v81,mem_of_getElem?->v6m,mem_range->v83,mem_singleton->v84,pairwise_iff_getElem->ubu,pairwise_lt_range->ubv,pairwise_map->ubw,range->v6s,replicate->v6u,replicate_succ'->ucj,set_set->uck,take_length->ub3
open Nat renaming le_refl->v7a,lt_or_gt_of_ne->ucl,lt_trans->ub8,lt_trichotomy->v9a,not_lt_zero->ub9,one_le_two_pow->ucm,pow_le_pow_right->uar,strongRecOn->v9d,succ_mul->ucb,zero_le->v9f
open Option renaming bind_assoc->ucn,bind_some->v7m,getD_none->v7n,getD_some->v7o,isSome_none->ucc,isSome_some->ucd
open Option.some renaming inj->v9i
noncomputable section
namespace Go.Proofs.YtijpapagpebllaaGreatDoor
open Go Go.Ab
variable {M S p:List Nat} {es:List (List Nat)} {n v i j m c:Nat} {t:Table} {kn:List (Option Value)} {u:List (Int×Bool)} {H:Nat->Bool} {fds:List FD} {r:Nat->Nat} {l:List CellRef}
theorem qpt{u:Nat}(E:M.length=n)(A:v<n):mk (M.set v c) u=if u=v then c else mk M u:=by
 unfold mk;exact q5s (by omega)
theorem q54(E:M.length=n)(A:v<n)(h0:mk M v=0)(I:c≠0):opn n (M.set v c)=opn n M-1:=by
 unfold opn;rw[vca (f:=fun u=>if mk M u=0 then 1 else 0) (-1) A]
 ·rfl
 ·simp only[qpt E A,if_true,if_neg I,if_pos h0];rfl
 ·intro u _ H;simp only[qpt E A,if_neg H]
theorem vm2(E:M.length=n)(A:v<n)(h0:mk M v=0):q21 n (M.set v 1)=q21 n M+1:=by
 unfold q21;rw[vca (f:=fun u=>if mk M u=1 then 1 else 0) 1 A]
 ·simp only[qpt E A,if_true,h0,if_neg (show ¬(0:Nat)=1 by decide)];rfl
 ·intro u _ H;simp only[qpt E A,if_neg H]
theorem vm3(E:M.length=n)(A:v<n)(h0:mk M v=0):q21 n (M.set v 2)=q21 n M:=by
 unfold q21;refine qkt fun u H=>?_
 rw[qpt E A]
 grind
theorem ven(E:M.length=n)(A:v<n)(h0:mk M v=0):M.set v 0=M:=by
 apply List.ext_getElem?;intro j;rw[List.getElem?_set];by_cases e:v=j
 ·subst e;rw[if_pos rfl,if_pos (by omega),qw5 (by omega)];exact congrArg some h0.symm
 ·rw[if_neg e]
theorem veo(J:M.length=n)(E:v<n)(I:qyb n M H):(H v=true->qyb n (M.set v 1) H)/\(H v=false->qyb n (M.set v 2) H):=by
 constructor
 ·intro h u A;rw[qpt J E];by_cases e:u=v
  ·grind
  ·rw[if_neg e];exact I u A
 ·intro h u A;rw[qpt J E];by_cases e:u=v
  ·grind
  ·rw[if_neg e];exact I u A
theorem qxd(I:M.length=n)(E:v<n)(H:c<=2)(J:∀u,u<n->mk M u<=2):∀u,u<n->mk (M.set v c) u<=2:=fun u A=>by
 rw[qpt I E];split
 ·exact H
 ·exact J u A
theorem vm4(A:v<n)(h0:mk M v=0):1<=opn n M:=by
 unfold opn;have e:=vb8 (n:=n) 1 A;have:smN n (fun u=>if u=v then 1 else 0)<=smN n fun u=>if mk M u=0 then 1 else 0:=q12 n fun u E=>by
  grind
 omega
theorem vhj(n:Nat)(M:List Nat):0<=q21 n M/\q21 n M<=n:=by
 unfold q21;exact⟨vb9 fun v A=>(by split<;>decide),q9d fun v A=>(by split<;>decide)⟩
theorem vri(n:Nat)(M:List Nat)(H:Nat->Bool):0<=vcb n M H:=vb9 fun v A=>(by split<;>decide)
theorem qur(p:Nat->Bool):∀n,(((v6s n).filter p).length:Int)=smN n fun v=>if p v=true then 1 else 0
 |0=>rfl
 |n+1=>by
  rw[List.range_succ,List.filter_append,v6b];have:=qur p n;simp only[smN];cases h:p n
  ·simp[h];omega
  ·simp[h];omega
theorem vhk(n:Nat)(M:List Nat):((((v6s n).filter fun v=>decide (mk M v=1)).length:Nat):Int)=q21 n M:=by
 rw[qur];unfold q21
 grind
theorem HS.len(h:HS n es S):S.length<=n:=by
 have:=qqy S 0 n h.asc fun v A=>⟨v9f _,h.lt v A⟩
 omega
theorem vxd(HH:HI n es)(o:Nat):∀(f:Nat) (M:List Nat) (left:Int) (S:List Nat),o<f->opn n M=(o:Int)->M.length=n->(∀v,v<n->mk M v<=2)->(2:Int)^(o+1)<=left->left<=1000000->HS n es S ->
  ∃S' O,q8a (qfl (ql9 n es)) f (qa6 M,left,⟨qa6 S,((S.length:Nat):Int)⟩,q21 n M)=some (true,⟨qa6 S',((S'.length:Nat):Int)⟩,qa6 M,O)/\HS n es S'/\S'.length<=S.length/\O<=left/\left-O<=(2:Int)^(o+1)-1/\∀H,q3x es H->qyb n M H->((S'.length:Nat):Int)<=vrd n H:=by
 induction o using v9d with
 | _ o ih =>
  intro f M left S hf ho J h3 hl hl2 hS;obtain⟨g,rfl⟩:∃g,f=g+1:=⟨f-1,by omega⟩;have nine:=HH.nine;have pw:(1:Int)<=2^o:=by
   have:(1:Nat)<=2^o:=ucm
   grind
  have pw2:(2:Int)^(o+1)=2*2^o:=by rw[Int.pow_succ];omega
  have hSl:=hS.len;obtain⟨cb1,cb2⟩:=vhj n M;have w1:v96.wrap (left-1)=left-1:=qbg (by omega) (by omega);obtain⟨U,I,a2⟩:=q52 HH J (left-1);simp only[q8a,qfl,w1,if_pos (show left-1>=0 by omega),I,v7m];cases U with
  |true=>exact⟨S,left-1,rfl,hS,v7a _,by omega,by omega,fun H hh V=>absurd hh (vxb HH h3 (a2.1 rfl) V)⟩
  | false =>
   have nd:¬vcc es M:=fun h=>absurd (a2.2 h) (by simp)
   obtain⟨l,b1,b2,b3,b4,b5⟩:=q15 HH J h3 left;simp only[v5k,if_false];have w2:v96.wrap (q21 n M+qso l)=q21 n M+qso l:=qbg (by omega) (by omega);simp only[qeg,qmt (show n<=17592186044416 by omega),if_true,b1,v7m,w2];by_cases hge:q21 n M+qso l>=((S.length:Nat):Int)
   ·rw[if_pos hge];refine⟨S,left-1,rfl,hS,v7a _,by omega,by omega,fun H hh V=>?_⟩;have:=vre HH h3 b2 V hh;have:=q3y V h3;omega
   ·rw [if_neg hge];obtain⟨best,E,Z⟩:=q3z HH J (left - 1) nd;simp only [E,v7m];rcases Z with⟨rfl,Z⟩|⟨v,rfl,A,h0⟩
    ·simp only[if_pos (show(-1:Int)<0 by decide),vhd J (show n<=1000000 by omega),v7m];have hlen:=vhk n M;refine⟨(v6s n).filter fun v=>decide (mk M v=1),left-1,by rw[hlen],⟨ubv.filter _,fun v A=>v83.1 (v80.1 A).1,fun e he=>?_⟩,by omega,by omega,by omega,fun H hh V=>?_⟩
     ·obtain⟨v,A,hv1⟩:=Z e he;exact⟨v,A,v80.2 ⟨v83.2 (HH.lt e he v A),decide_eq_true hv1⟩⟩
     ·have:=q3y V h3;have:=vri n M H;omega
    ·have hop:=vm4 A h0;have hM1:(M.set v 1).length=n:=by rw[v6f];exact J
     have hM2:(M.set v 2).length=n:=by rw[v6f];exact J
     have o1e:opn n (M.set v 1)=((o-1:Nat):Int):=by rw[q54 J A h0 (by decide)];omega
     have o2e:opn n (M.set v 2)=((o-1:Nat):Int):=by rw[q54 J A h0 (by decide)];omega
     have pw3:(2:Int)^(o-1+1)=2^o:=by rw[show o-1+1=o by omega]
     obtain⟨S1,left1,e1,e2,e3,e4,e5,e6⟩:=ih (o-1) (by omega) g (M.set v 1) (left-1) S (by omega) o1e hM1 (qxd J A (by decide) h3) (by omega) (by omega) hS;obtain⟨S2,left2,f1,f2,f3,f4,f5,f6⟩:=ih (o-1) (by omega) g (M.set v 2) left1 S1 (by omega) o2e hM2 (qxd J A (by decide) h3) (by omega) (by omega) e2;have W:(qa6 M)[v]?=some ((mk M v:Nat):Int):=q13 J A;have gm1:(qa6 (M.set v 1))[v]?=some ((mk (M.set v 1) v:Nat):Int):=q13 hM1 A;have gm2:(qa6 (M.set v 2))[v]?=some ((mk (M.set v 2) v:Nat):Int):=q13 hM2 A;have w3:v96.wrap (q21 n M+1)=q21 n (M.set v 1):=by rw[vm2 J A h0,qbg (by omega) (by omega)]
     have s1:(qa6 M).set v 1=qa6 (M.set v 1):=qup M v 1;have s2:(qa6 (M.set v 1)).set v 2=qa6 (M.set v 2):=by rw[show(2:Int)=((2:Nat):Int) from rfl,qup,uck]
     have s3:(qa6 (M.set v 2)).set v 0=qa6 M:=by rw[show(0:Int)=((0:Nat):Int) from rfl,qup,uck,ven J A h0]
     rw[vm3 J A h0]at f1;refine⟨S2,left2,?_,f2,Nat.le_trans f3 e3,by omega,by omega,fun H hh V=>?_⟩
     ·simp only[if_neg (show ¬((v:Nat):Int)<0 by omega),qad W,qad (ql3 es A),v7m,v93,s1,w3,e1,qad gm1,if_true,s2,f1,qad gm2,s3]
     ·cases hb:H v with
      |true =>
       have:=e6 H hh ((veo J A V).1 hb);omega
      |false=>exact f6 H hh ((veo J A V).2 hb)
theorem q9f(n:Nat):v6u n (0:Int)=qa6 (v6u n 0):=by simp[qa6]
theorem qyc:mk (v6u n 0) v=0:=by
 unfold mk;rw[v8i];by_cases h:v<n
 ·simp[h]
 ·simp[h]
theorem vep(n:Nat):opn n (v6u n 0)=(n:Int):=by
 unfold opn;have:(smN n fun v=>if mk (v6u n 0) v=0 then 1 else 0)=smN n fun _=>1:=qkt fun v A=>by rw[if_pos qyc]
 rw[this];clear this
 induction n with
 |zero=>rfl
 |succ n ih=>simp only[smN,ih];omega
theorem vm5(n:Nat):q21 n (v6u n 0)=0:=by
 unfold q21;rw[qkt (g:=fun _=>0) (fun v A=>by rw[qyc];rfl),qxa]
theorem vm6(n:Nat)(H:Nat->Bool):qyb n (v6u n 0) H:=fun v A=>by rw[qyc];exact⟨fun h=>by omega,fun h=>by omega⟩
def vm7(n:Nat)(es:List (List Nat))(S:List Nat):Prop:=HS n es S/\∀H,q3x es H->((S.length:Nat):Int)<=vrd n H
theorem vxe(h:n<=9):(2:Int)^(n+1)<=1024:=by
 have:2^(n+1)<=2^10:=uar (by omega) (by omega)
 grind
theorem q30(A:HI n es):∃S,qg5 (ql9 n es) 1000000=some (qa6 S,((S.length:Nat):Int),0)/\vm7 n es S:=by
 have nine:=A.nine;obtain⟨U,I,E⟩:=vm0 A;have p:=vxe nine;obtain⟨S,left,J,O,Z,b4,b5,V⟩:=vxd A n 64 (v6u n 0) 1000000 U (by omega) (vep n) (by simp) (fun v W=>by rw[qyc];omega) (by omega) (by omega) E;rw[vm5,<-q9f]at J;refine⟨S,?_,O,fun H M=>V H M (vm6 n H)⟩;simp only[qg5,I,v7m,bne_self_eq_false,v5k,if_false,if_neg (show ¬(1000000:Int)<1 by decide),vm1 A E,qeg,if_pos (show(0:Int)<=((n:Nat):Int) by omega),qmt (show n<=17592186044416 by omega),if_true,J]
theorem vxf:@qns=@qdo:=rfl
theorem qyd{es:List (List Nat)}:∀(l:List (Nat×Int)) (v:Nat),(∀x∈l,0<=x.2/\x.2<=1000000)->0<=qkc es l v/\qkc es l v<=(l.length:Int)*1000000
 |[],_,_=>by simp[qkc]
 |x::l,v,h=>by
  have E:=qyd (es:=es) l v fun y A=>h y (v8y _ A)
  have H:=h x (v8z);simp only[qkc,v8r];split<;>omega
theorem q9g:∀(l:List (Nat×Int)),(∀x∈l,0<=x.2/\x.2<=1000000)->0<=qso l/\qso l<=(l.length:Int)*1000000
 |[],_=>by simp[qso]
 |x::l,h=>by
  have E:=q9g l fun y A=>h y (v8y _ A)
  have H:=h x (v8z);simp only[qso,v8r];omega
theorem vm8(l:List (Nat×Int))(v:Nat)(h:∀x∈l,0<=x.2/\x.2<=1000000)(i:Nat):qkc es (l.take i) v<=qkc es l v:=by
 have app:∀a b:List (Nat×Int),qkc es (a++b) v=qkc es a v+qkc es b v:=by
  intro a b
  induction a with
  |nil=>simp[qkc]
  |cons x a ih=>simp only[List.cons_append,qkc,ih];omega
 have e:=app (l.take i) (l.drop i);rw[List.take_append_drop]at e;have:=(qyd (es:=es) (l.drop i) v fun x A=>h x (List.mem_of_mem_drop A)).1;omega
theorem vrj(hM:M.length=n){x:Share}(hx1:0<=x.Amount)(hx2:x.Amount<=1000000){load:List Int}(hl:load.length=n){e:List Nat}(ha:e.Pairwise (· < ·))(he:∀v∈e,v<n)(hlen:e.length<=1000000)(hb:∀v,v<n->0<=load.getD v 0/\load.getD v 0<=1000000000000)(W:∀v∈e,mk M v=0->load.getD v 0+x.Amount<=1) :
  ∃A,qah (qgj (ql9 n es) (qa6 M) x (qa6 e)) (load,0)=some (.inl A)/\A.length=n/\∀v,v<n->A.getD v 0=load.getD v 0+(if v∈e then x.Amount else 0):=by
 obtain⟨b,e1,i1,i2⟩:=qa0 (β:=List Int) e.length (fun b y=>(b,y)) (qgj (ql9 n es) (qa6 M) x (qa6 e)) (fun b=>(Sum.inl b:List Int⊕Unit)) (fun k b=>b.length=n/\∀v,v<n->b.getD v 0=load.getD v 0+(if v∈e.take k then x.Amount else 0)) (b0:=load) (s0:=(load,0)) rfl ⟨hl,fun v E=>by simp⟩
  (fun k b I hI=>by
   obtain⟨i1,i2⟩:=hI;have hm:=ubj I;have E:=he _ hm;have Z:=qp7 I;have hg:=qen (l:=b) (i:=e[k]) 0 (by omega);have U:=q13 hM E;have J:=qrz ha I;have H:=i2 _ E;rw[if_neg J]at H;have hbb:=hb _ E;have w:v96.wrap (b.getD e[k] 0+x.Amount)=b.getD e[k] 0+x.Amount:=qbg (by omega) (by omega);have qo8:∀v,v<n->(b.set e[k] (b.getD e[k] 0+x.Amount)).getD v 0=load.getD v 0+(if v∈e.take (k+1) then x.Amount else 0):=fun v hvn=>by
    rw[qxb (by omega),qbv (v52 I)]
    grind
   have O:(b.set e[k] (b.getD e[k] 0+x.Amount)).length=n:=by rw[v6f];exact i1
   have g2:=qen (l:=b.set e[k] (b.getD e[k] 0+x.Amount)) (i:=e[k]) 0 (by omega);refine⟨_,?_,O,qo8⟩;simp only[qgj,if_pos (qan Z),qad Z,qad hg,qad U,v7m,v93,w,wqn k];by_cases h0:mk M e[k]=0
   ·have hle:=W _ hm h0;have V:(b.set e[k] (b.getD e[k] 0+x.Amount)).getD e[k] 0=b.getD e[k] 0+x.Amount:=by rw[qxb (by omega),if_pos rfl]
    rw[if_pos (by rw[h0];rfl),qad g2,v7m,qad (ql3 es E),v7m,V,if_neg (by omega)]
   ·grind)
  (fun b hI=>by simp[qgj,qb7])
 grind
set_option maxHeartbeats 1600000 in
theorem vhl {n:Nat} {es:List (List Nat)} (HH:HI n es) {M:List Nat} (hM:M.length=n) {l:List (Nat×Int)} (hs:ShOk n es M l) (hl:l.length<=1000) (v:Int) :
  qah (qgk (ql9 n es) (qa6 M) ⟨v,shL l⟩) (v6u n 0,0,0)=some (.inl (qso l)):=by
 have hb:∀x∈l,0<=x.2/\x.2<=1000000:=fun x hx=>by have:=hs.edge x hx;omega
 have few:=HH.few
 obtain⟨b,e1,i1,i2,i3⟩:=qa0 (β:=List Int×Int) l.length (fun b y=>(b.1,b.2,y)) (qgk (ql9 n es) (qa6 M) ⟨v,shL l⟩) (fun b=>(Sum.inl b.2:Int⊕Unit)) (fun i b=>b.1.length=n/\(∀v,v<n->b.1.getD v 0=qkc es (l.take i) v)/\b.2=qso (l.take i)) (b0:=(v6u n 0,0)) (s0:=(v6u n 0,0,0)) rfl
  ⟨by simp,fun v hv=>by simp[v8i,hv,qkc],by simp[qso]⟩
  (fun i b hi hI=>by
   obtain⟨load,sm⟩:=b
   obtain⟨i1,i2,i3⟩:=hI
   simp only at i1 i2 i3
   subst i3
   have hm:=ubj hi
   obtain⟨c1,c2,c3,c4⟩:=hs.edge _ hm
   have hx:(shL l)[i]?=some ⟨((l[i].1:Nat):Int),l[i].2⟩:=by unfold shL;rw[v8n,v52 hi];rfl
   have hge:es.getD l[i].1 []=es[l[i].1]:=by rw[v8i,v52 c1];rfl
   have hem:=ubj c1
   have hlen:=HH.len hem
   have hed:=q14 (n:=n) c1
   obtain⟨o1,a1,a2⟩:∃b,qbd ⟨ql9 n es,qa6 M,0⟩ (qa6 es[l[i].1]) 1=some b/\_:=vmu hM rfl 1 (HH.lt _ hem) (by omega)
   have hno:o1=false:=Bool.eq_false_iff.2 fun h=>by
    obtain⟨v,hv,hc⟩:=a2.1 h
    exact(hs.edge _ (ubj hi)).2.2.2 v (by rw[hge];exact hv) hc
   subst hno
   have htk:l.take (i+1)=l.take i++[l[i]]:=qbv (v52 hi)
   have hbt:∀x∈l.take i,0<=x.2/\x.2<=1000000:=fun x hx=>hb x (List.mem_of_mem_take hx)
   have hlt:(l.take i).length<=1000:=by rw[v6g];omega
   obtain⟨load',d1,d2,d3⟩:=vrj (es:=es) hM (x:=⟨((l[i].1:Nat):Int),l[i].2⟩) (by simp only;omega) (by simp only;omega) i1 (HH.asc _ hem) (HH.lt _ hem) (by omega)
    (fun u hu=>by
     rw[i2 u hu]
     have:=qyd (es:=es) (l.take i) u hbt
     omega)
    (fun u hu h0=>by
     have hun:=HH.lt _ hem u hu
     have h1:=hs.load u hun h0
     have h2:=vm8 (es:=es) l u hb (i+1)
     have h3:=qoa es l[i] u (l.take i)
     grind)
   have hsb:=q9g (l.take i) hbt
   have w:v96.wrap (qso (l.take i)+l[i].2)=qso (l.take i)+l[i].2:=qbg (by omega) (by omega)
   refine⟨(load',qso (l.take i)+l[i].2),?_,d2,fun u hu=>?_,?_⟩
   ·simp only[qgk,if_pos (qan hx),qad hx,v7m,if_neg (show ¬((l[i].1:Nat):Int)<0 by omega),qoo,if_neg (show ¬((l[i].1:Nat):Int)>=((es.length:Nat):Int) by omega),if_neg (show ¬l[i].2<1 by omega),if_neg (show ¬l[i].2>1000000000000 by omega),qad hed,a1,v5k,if_false,d1,w,wqn i]
   ·have h3:=qoa es l[i] u (l.take i)
    grind
   ·simp only[htk,qt1])
  (fun b hI=>by simp[qgk,shL])
 grind
theorem vm9(E:M.length=n)(A:v<n)(h0:mk M v=0)(J:H v=true):vcb n (M.set v 1) H=vcb n M H-1:=by
 unfold vcb;rw[vca (f:=fun u=>if H u=true/\mk M u=0 then 1 else 0) (-1) A]
 ·rfl
 ·simp only[qpt E A,if_true,J,h0,if_neg (show ¬(True/\(1:Nat)=0) by simp),and_self];rfl
 ·intro u _ I;simp only[qpt E A,if_neg I]
theorem vna(E:M.length=n)(A:v<n)(h0:mk M v=0)(J:H v=false):vcb n (M.set v 2) H=vcb n M H:=by
 unfold vcb;refine qkt fun u I=>?_
 rw[qpt E A]
 grind
theorem q31(I:M.length=n)(E:v<n)(h0:mk M v=0)(h:qyb n (M.set v c) H):qyb n M H:=fun u A=>by
 by_cases e:u=v
 ·subst e;rw[h0];exact⟨fun e=>by omega,fun e=>by omega⟩
 ·have:=h u A
  rwa [qpt I E,if_neg e]at this
def chkP(n:Nat)(es:List (List Nat))(o:Nat)(M:List Nat)(P:List Node)(A:Int):Prop :=
 ∀(rest:List Node) (f:Nat),o<f->q8a (qem (ql9 n es)) f (qa6 M,P++rest,A)=some (rest,true,qa6 M)
theorem q9h{A:Type}(x:A)(l:List A):(((x::l).drop 1).take ((x::l).length-1))=l:=by
 simp
theorem vnb(HH:HI n es)(o:Nat):∀(f:Nat) (M:List Nat) (left A:Int),o<f->opn n M=(o:Int)->M.length=n->(∀v,v<n->mk M v<=2)->(2:Int)^(o+1)<=left->left<=1000000->A<=100->-100<=A-(o:Int)->(∀H,q3x es H->qyb n M H->A<=vcb n M H) ->
  ∃P left',q8a (qhs (ql9 n es)) f (qa6 M,left,A)=some (P,0,qa6 M,left')/\left'<=left/\left-left'<=(2:Int)^(o+1)-1/\(P.length:Int)<=(2:Int)^(o+1)-1/\chkP n es o M P A:=by
 induction o using v9d with
 | _ o ih =>
  intro f M left A hf ho hM h3 hl hl2 hb1 hb2 hB;obtain⟨g,rfl⟩:∃g,f=g+1:=⟨f-1,by omega⟩;have nine:=HH.nine;have few:=HH.few;have pw:(1:Int)<=2^o:=by
   have:(1:Nat)<=2^o:=ucm
   grind
  have pw2:(2:Int)^(o+1)=2*2^o:=by rw[Int.pow_succ];omega
  have w1:v96.wrap (left-1)=left-1:=qbg (by omega) (by omega);obtain⟨U,I,a2⟩:=q52 HH hM (left-1);obtain⟨o0,a3,a4⟩:=q52 HH hM 0;have leaf:A<=0\/vcc es M->chkP n es o M [Node.mk (-1) []] A:=fun hd rest f hf=>by
   obtain⟨g,rfl⟩:∃g,f=g+1:=⟨f-1,by omega⟩;have t1:((([Node.mk (-1) []]:List Node)++rest).drop 1).take (([Node.mk (-1) []]++rest).length-1)=rest:=q9h _ _;have J:¬((([Node.mk (-1) []]++rest:List Node).length:Int)==0)=true:=by rw[beq_iff_eq];simp;omega
   have V:(1:Int)<=(([Node.mk (-1) []]++rest:List Node).length:Int):=by simp;omega
   have l3:([Node.mk (-1) []]++rest:List Node)[0]?=some (Node.mk (-1) []):=rfl;simp only[q8a,qem,if_neg J,l3,v7m,if_pos V,beq_self_eq_true,if_true,v6e,t1];simp only[v91,Int.ofNat_zero,beq_self_eq_true,if_true];by_cases hle:A<=0
   ·rw[if_pos hle]
   ·rw[if_neg hle,a3,v7m,a4.2 (hd.resolve_left hle)]
  simp only[q8a,qhs,w1,if_pos (show left-1>=0 by omega)];by_cases hle:A<=0
  ·rw[if_pos hle]
   grind
  rw[if_neg hle,I,v7m];cases U with
  |true =>
   have hd:=a2.1 rfl
   grind
  | false =>
   have nd:¬vcc es M:=fun h=>absurd (a2.2 h) (by simp)
   obtain⟨l,b1,b2,b3,b4,b5⟩:=q15 HH hM h3 left;simp only[v5k,if_false];simp only[qeg,qmt (show n<=17592186044416 by omega),if_true,vxf,b1,v7m];by_cases hge:qso l>=A
   ·rw[if_pos hge];refine⟨[Node.mk (-1) (shL l)],left-1,rfl,by omega,by omega,by simp;omega,fun rest f hf=>?_⟩;obtain⟨g,rfl⟩:∃g,f=g+1:=⟨f-1,by omega⟩;have t1:((([Node.mk (-1) (shL l)]:List Node)++rest).drop 1).take (([Node.mk (-1) (shL l)]++rest).length-1)=rest:=q9h _ _;have J:¬((([Node.mk (-1) (shL l)]++rest:List Node).length:Int)==0)=true:=by rw[beq_iff_eq];simp;omega
    have V:(1:Int)<=(([Node.mk (-1) (shL l)]++rest:List Node).length:Int):=by simp;omega
    have l3:([Node.mk (-1) (shL l)]++rest:List Node)[0]?=some (Node.mk (-1) (shL l)):=rfl;have hsl:(shL l).length=l.length:=by simp[shL]
    have hpos:l.length≠0:=fun h=>by
     have:l=[]:=ubl.1 h;subst this;simp only[qso]at hge;omega
    have hz:(((l.length:Nat):Int)==0)=false:=by rw[beq_eq_false_iff_ne];omega
    simp only[q8a,qem,if_neg J,l3,v7m,if_pos V,beq_self_eq_true,if_true,hz,v5k,if_false,t1,hsl,if_neg (show ¬((l.length:Nat):Int)>10000 by omega),qb7,hM,if_pos (show(0:Int)<=((n:Nat):Int) by omega),qmt (show n<=17592186044416 by omega),vhl HH hM b2 (show l.length<=1000 by omega) (-1),decide_eq_true hge]
   ·rw [if_neg hge];obtain⟨best,E,Z⟩:=q3z HH hM (left - 1) nd;simp only [E,v7m];rcases Z with⟨rfl,Z⟩|⟨v,rfl,O,h0⟩
    ·exfalso;have hc:qyb n M fun v=>decide (mk M v=1):=fun v O=>⟨fun h=>decide_eq_true h,fun h=>decide_eq_false (by omega)⟩
     have:=hB (fun v=>decide (mk M v=1)) (fun e he=>by
      grind) hc
     have hz:vcb n M (fun v=>decide (mk M v=1))=0:=by
      unfold vcb;rw[qkt (g:=fun _=>0) (fun v O=>if_neg (by rintro⟨h1,h2⟩;have:=of_decide_eq_true h1;omega)),qxa]
     omega
    ·have hop:=vm4 O h0;have hM1:(M.set v 1).length=n:=by rw[v6f];exact hM
     have hM2:(M.set v 2).length=n:=by rw[v6f];exact hM
     have o1e:opn n (M.set v 1)=((o-1:Nat):Int):=by rw[q54 hM O h0 (by decide)];omega
     have o2e:opn n (M.set v 2)=((o-1:Nat):Int):=by rw[q54 hM O h0 (by decide)];omega
     have pw3:(2:Int)^(o-1+1)=2^o:=by rw[show o-1+1=o by omega]
     have pw4:=vxe (show o<=9 by have:=q9d (f:=fun v=>if mk M v=0 then 1 else 0) (n:=n) (fun v O=>by split<;>decide);unfold opn at ho;omega);obtain⟨P1,left1,e1,e2,e3,e4,e5⟩:=ih (o-1) (by omega) g (M.set v 1) (left-1) (A-1) (by omega) o1e hM1 (qxd hM O (by decide) h3) (by omega) (by omega) (by omega) (by omega) (fun H hh hc=>by
      have hHv:H v=true:=(hc v O).1 (by rw[qpt hM O,if_pos rfl]);have:=hB H hh (q31 hM O h0 hc);rw[vm9 hM O h0 hHv];omega)
     obtain⟨P2,left2,f1,f2,f3,f4,f5⟩:=ih (o-1) (by omega) g (M.set v 2) left1 A (by omega) o2e hM2 (qxd hM O (by decide) h3) (by omega) (by omega) (by omega) (by omega) (fun H hh hc=>by
      have hHv:H v=false:=(hc v O).2 (by rw[qpt hM O,if_pos rfl]);have:=hB H hh (q31 hM O h0 hc);rw[vna hM O h0 hHv];omega)
     have W:(qa6 M)[v]?=some ((mk M v:Nat):Int):=q13 hM O;have gm1:(qa6 (M.set v 1))[v]?=some ((mk (M.set v 1) v:Nat):Int):=q13 hM1 O;have gm2:(qa6 (M.set v 2))[v]?=some ((mk (M.set v 2) v:Nat):Int):=q13 hM2 O;have w3:v96.wrap (A-1)=A-1:=qbg (by omega) (by omega);have s1:(qa6 M).set v 1=qa6 (M.set v 1):=qup M v 1;have s2:(qa6 (M.set v 1)).set v 2=qa6 (M.set v 2):=by rw[show(2:Int)=((2:Nat):Int) from rfl,qup,uck]
     have s3:(qa6 (M.set v 2)).set v 0=qa6 M:=by rw[show(0:Int)=((0:Nat):Int) from rfl,qup,uck,ven hM O h0]
     have hcat:qe0 [[Node.mk (v:Int) []],P1,P2]=some (Node.mk (v:Int) []::(P1++P2)):=by
      have e:[[Node.mk (v:Int) []],P1,P2].flatten=Node.mk (v:Int) []::(P1++P2):=by simp
      rw[vhi _ (by rw[e];simp only[v8r,v6b];omega) (by simp),e]
     refine⟨Node.mk (v:Int) []::(P1++P2),left2,?_,by omega,by omega,by simp only[v8r,v6b];omega,fun rest f hf=>?_⟩
     ·simp only[if_neg (show ¬((v:Nat):Int)<0 by omega),qad W,qad (ql3 es O),v7m,v93,s1,w3,e1,bne_self_eq_false,v5k,if_false,qad gm1,s2,f1,qad gm2,s3,hcat]
     ·obtain⟨g',rfl⟩:∃g,f=g+1:=⟨f-1,by omega⟩;have t1:(((Node.mk (v:Int) []::(P1++P2))++rest).drop 1).take (((Node.mk (v:Int) []::(P1++P2))++rest).length-1)=P1++(P2++rest):=by
       grind
      have J:¬((((Node.mk (v:Int) []::(P1++P2))++rest:List Node).length:Int)==0)=true:=by rw[beq_iff_eq];simp only[v6b,v8r];omega
      have V:(1:Int)<=(((Node.mk (v:Int) []::(P1++P2))++rest:List Node).length:Int):=by simp only[v6b,v8r];omega
      have l3:((Node.mk (v:Int) []::(P1++P2))++rest:List Node)[0]?=some (Node.mk (v:Int) []):=rfl;have hne:(((v:Nat):Int) == -1)=false:=by rw[beq_eq_false_iff_ne];omega
      have hmz:¬(((mk M v:Nat):Int) != 0)=true:=by rw[h0];simp
      have c1:=e5 (P2++rest) g' (by omega);have c2:=f5 rest g' (by omega);simp only[q8a,qem,if_neg J,l3,v7m,if_pos V,hne,v5k,if_false,if_neg (show ¬((v:Nat):Int)<0 by omega),qb7,hM,if_neg (show ¬((v:Nat):Int)>=((n:Nat):Int) by omega),v6e,if_neg (show ¬((0:Nat):Int)>0 by decide),qad W,if_neg hmz,qad (ql3 es O),v93,s1,t1,w3,c1,if_true,qad gm1,s2,c2,qad gm2,s3]
theorem vnc(n:Nat)(H:Nat->Bool):vcb n (v6u n 0) H=vrd n H:=by
 unfold vcb vrd;refine qkt fun v A=>?_
 rw[qyc];simp
theorem q17(A:HI n es)(E:vm7 n es S):∃P,qjn (ql9 n es) ((S.length:Nat):Int) 1000000=some (P,0)/\qlc (ql9 n es) ((S.length:Nat):Int) P=some true:=by
 have nine:=A.nine;have O:=E.1.len;have p:=vxe nine;obtain⟨P,left,I,Z,V,W,M⟩:=vnb A n 64 (v6u n 0) 1000000 ((S.length:Nat):Int) (by omega) (vep n) (by simp) (fun v U=>by rw[qyc];omega) (by omega) (by omega) (by omega) (by omega) (fun H J _=>by rw[vnc];exact E.2 H J);have c:=M [] 64 (by omega);rw[List.append_nil]at c;rw[<-q9f]at I c;refine⟨P,?_,?_⟩
 ·simp only[qjn,qxc A,v7m,bne_self_eq_false,v5k,if_false,if_neg (show ¬(1000000:Int)<1 by decide),if_neg (show ¬((S.length:Nat):Int) < -1000000000000000 by omega),if_neg (show ¬((S.length:Nat):Int)>1000000000000000 by omega),qeg,if_pos (show(0:Int)<=((n:Nat):Int) by omega),qmt (show n<=17592186044416 by omega),if_true,I]
 ·simp only[qlc,qxc A,v7m,bne_self_eq_false,v5k,if_false,if_neg (show ¬((S.length:Nat):Int) < -1000000000000000 by omega),if_neg (show ¬((S.length:Nat):Int)>1000000000000000 by omega),qeg,if_pos (show(0:Int)<=((n:Nat):Int) by omega),qmt (show n<=17592186044416 by omega),if_true,c];rfl
structure UT(t:Table)(fds:List FD):Prop extends FT t where
 ok:TableOk t
 err:qdi t=0
 nine:qik t<=9
 num:∀r∈t.Rows,∀v∈r.Values,v.Kind=3->v.Num<=1000
 fds3:fds.length<=3
 fdn:∀f∈fds,∃s q:Nat,f=⟨(s:Int),(q:Int)⟩/\s<2^t.Attrs.length/\q<2^t.Attrs.length
theorem UT.pow(H:UT t fds):2^t.Attrs.length<=65536:=by
 have:2^t.Attrs.length<=2^16:=uar (by omega) H.att;simpa using this
theorem UT.fdsN{t:Table}{fds:List FD}(H:UT t fds):fdsN fds:=by
 have:=H.pow;refine⟨by have:=H.fds3;omega,fun f A=>?_⟩;obtain⟨s,q,e,h1,E⟩:=H.fdn f A;exact⟨s,q,e,by omega,by omega⟩
theorem vnd(H:UT t fds):qgu (t.Attrs.length:Int) fds=some 0:=by
 have att:=H.att;have few:=H.fds3;have M:=H.pow;obtain⟨_,J,_⟩:=qa0 (β:=Unit) fds.length (fun _ i=>i) (qc6 (t.Attrs.length:Int) fds) (fun _=>(Sum.inl ():Unit⊕Int)) (fun _ _=>True) (b0:=()) (s0:=0) rfl trivial
  (fun k _ A _=>by
   have E:fds[k]?=some fds[k]:=v52 A;obtain⟨s,q,e,h1,I⟩:=H.fdn _ (ubj A);refine⟨(),?_,trivial⟩;simp only[qc6,if_pos (qan E),qad E,v7m,if_neg (show ¬(t.Attrs.length:Int)<0 by omega),e,q3o (show s<4294967296 by omega) (show q<4294967296 by omega),vsz (show t.Attrs.length<=32 by omega) (Nat.or_lt_two_pow h1 I),bne_self_eq_false,v5k,if_false,wqn k])
  (fun _ _=>by simp[qc6])
 simp only[qgu,if_neg (show ¬(t.Attrs.length:Int)<0 by omega),if_neg (show ¬(t.Attrs.length:Int)>16 by omega),if_neg (show ¬(fds.length:Int)>64 by omega),J,v7m]
theorem vne(ha:qyt l)(hl:l.length<=1000000):qkn l=some true:=by
 have key:∀(d k:Nat),l.length-k=d->1<=k->qah (qfh l) (k:Int)=some (.inl ()):=by
  intro d
  induction d with
  |zero=>intro k I _;exact qap (by simp only[qfh,if_neg (show ¬(k:Int)<(l.length:Int) by omega)])
  |succ d ih =>
   intro k I h1;have E:k<l.length:=by omega
   have H:l[k]?=some l[k]:=v52 E;have J:l[k-1]?=some l[k-1]:=v52 (by omega);have w:v96.wrap ((k:Int)-1)=((k-1:Nat):Int):=by rw[qbg (by omega) (by omega)];omega
   have A:=ubu.1 ha (k-1) k (by omega) E (by omega);have M:=(qty l[k-1] l[k]).2 A;rw[qas (s':=((k+1:Nat):Int)) (by simp only[qfh,if_pos (qan H),w,qad J,qad H,v7m,qg8,if_neg (show ¬vic l[k-1] l[k]>=0 by omega),wqn k])];exact ih (k+1) (by omega) (by omega)
 have h:=key (l.length-1) 1 rfl (v7a _);have h':qah (qfh l) 1=some (.inl ()):=h;simp only[qkn,h',v7m]
theorem v4y(H:FT t)(hi:i<t.Rows.length):∃k,qqp t (qf2 t i).ID=some (k,true):=by
 have few:=H.few;have E:=qsm t.Rows (fun y=>qm7 y (qf2 t i).ID) (fun y=>y.ID==(qf2 t i).ID) (fun x _=>rfl) (by omega);cases A:t.Rows.findIdx? (fun y=>y.ID==(qf2 t i).ID) with
 |none =>
  rw[List.findIdx?_eq_none_iff]at A;have:=A _ (ql2 hi);simp at this
 |some k =>
  rw[A]at E;simp only[qqp,E,v7m];exact⟨_,by rw[decide_eq_true (show((k:Nat):Int)>=0 by omega)]⟩
theorem q55(H:UT t fds)(ha:qyt l)(M:∀c∈l,∃j,j<qik t/\qf3 t j=c)(hl:l.length<=1000000):qh9 t fds l=some 0:=by
 have few:=H.few;have att:=H.att;have nine:=H.nine;obtain⟨_,W,_⟩:=qa0 (β:=Unit) l.length (fun _ i=>i) (qji t l) (fun _=>(Sum.inl ():Unit⊕Int)) (fun _ _=>True) (b0:=()) (s0:=0) rfl trivial
  (fun k _ E _=>by
   have I:l[k]?=some l[k]:=v52 E;obtain⟨j,V,e⟩:=M _ (ubj E);obtain⟨J,q2,q3⟩:=qlh V;obtain⟨q,Z⟩:=v4y H.toFT J;refine⟨(),?_,trivial⟩;have U:l[k].ID=(qf2 t (j/t.Attrs.length)).ID:=by rw[<-e];rfl
   have O:l[k].Attr=((j%t.Attrs.length:Nat):Int):=by rw[<-e];rfl
   simp only[qji,if_pos (qan I),qad I,v7m,U,Z,if_true,O,if_neg (show ¬((j%t.Attrs.length:Nat):Int)<0 by omega),if_neg (show ¬((j%t.Attrs.length:Nat):Int)>=(t.Attrs.length:Int) by omega),wqn k])
  (fun _ _=>by simp[qji])
 have A:(t.Rows.length:Int)*(t.Attrs.length:Int)=((qik t:Nat):Int):=by unfold qik;simp
 have w:v96.wrap ((qik t:Nat):Int)=((qik t:Nat):Int):=qbg (by omega) (by omega);simp only[qh9,qfr t H.ok,H.err,v7m,bne_self_eq_false,v5k,if_false,vnd H,A,w,if_neg (show ¬((qik t:Nat):Int)>60 by omega),vne ha hl,if_true,W]
theorem vxg:@qp4=@qe7:=rfl
theorem vhm:@qnt=@qez:=rfl
def qye(t:Table)(x:Int):Prop:=∃r∈t.Rows,∃v∈r.Values,v.Kind=3/\v.Num=x
theorem vhn(A:List (Int×Bool))(r:Row)(hl:r.Values.length<=1000000):∃u,qah (qf9 r) (A,0)=some u/\∀x,(qg3 u x).getD false=true↔((qg3 A x).getD false=true\/∃v∈r.Values,v.Kind=3/\v.Num=x):=by
 obtain⟨b,U,O⟩:=qa0 (β:=List (Int×Bool)) r.Values.length (fun b i=>(b,i)) (qf9 r) id (fun k b=>∀x,(qg3 b x).getD false=true↔((qg3 A x).getD false=true\/∃v∈r.Values.take k,v.Kind=3/\v.Num=x)) (b0:=A) (s0:=(A,0)) rfl (fun x=>by simp)
  (fun k b I J=>by
   have E:r.Values[k]?=some r.Values[k]:=v52 I;have M:=qbv E;simp only[qf9,if_pos (qan E),qad E,v7m,wqn k];by_cases H:r.Values[k].Kind=3
   ·rw[if_pos (by rw[H];rfl)];refine⟨_,rfl,fun x=>?_⟩;rw[qqu]
    grind
   ·rw[if_neg (by rw[beq_iff_eq];exact H)]
    grind)
  (fun b J=>by simp[qf9])
 grind
theorem vho(H:FT t):∃u,qah (qga t) ([],0)=some u/\∀x,(qg3 u x).getD false=true↔qye t x:=by
 have few:=H.few;have att:=H.att;obtain⟨b,O,I⟩:=qa0 (β:=List (Int×Bool)) t.Rows.length (fun b i=>(b,i)) (qga t) id (fun k b=>∀x,(qg3 b x).getD false=true↔∃r∈t.Rows.take k,∃v∈r.Values,v.Kind=3/\v.Num=x) (b0:=[]) (s0:=([],0)) rfl (fun x=>by simp[qg3])
  (fun k b E J=>by
   have A:t.Rows[k]?=some t.Rows[k]:=v52 E;have U:=qbv A;obtain⟨u,M,V⟩:=vhn b t.Rows[k] (by rw[H.len _ (ubj E)];omega);refine⟨u,by simp only[qga,if_pos (qan A),qad A,v7m,M,wqn k],fun x=>?_⟩
   grind)
  (fun b J=>by simp[qga])
 rw[ub3]at I;exact⟨b,O,I⟩
theorem q9i(E:∀x,(qg3 u x).getD false=true↔qye t x)(hn:∀x,qye t x->x<=1000){a:Int}(h0:0<=a)(ha:a<=1000000):∃k,qah (qgb u) a=some k/\a<=k/\k<=max a 1001/\¬qye t k :=
 qzt (B:=qgb u) (fun x=>a<=x/\x<=max a 1001) (fun x=>(1001-x).toNat) (fun k=>a<=k/\k<=max a 1001/\¬qye t k)
  (fun x H=>by
   by_cases A:qye t x
   ·have:=hn x A;have w:v96.wrap (x+1)=x+1:=qbg (by omega) (by omega);exact Or.inl ⟨x+1,by simp only[qgb,if_pos ((E x).2 A),w],⟨by omega,by omega⟩,by omega⟩
   ·exact Or.inr ⟨x,by simp only[qgb,if_neg (fun h=>A ((E x).1 h))],H.1,H.2,A⟩) _ a (v7a _) ⟨Int.le_refl _,by omega⟩
def vN(kn:List (Option Value))(r:Nat->Nat)(A:List (Int×Value))(j:Nat):Value:=vib kn r (fun q=>(qg3 A (q:Int)).getD ⟨0,0,[]⟩) j
structure NI(t:Table)(kn:List (Option Value))(r:Nat->Nat)(J:Nat)(number:Int)(nm:List (Int×Value)):Prop where
 val:∀x v,qg3 nm x=some v->∃k:Int,v=⟨3,k,[]⟩/\1<=k/\k<=number/\¬qye t k
 inj:∀x y v,qg3 nm x=some v->qg3 nm y=some v->x=y
 seen:∀j,j<J->kn.getD (r j) none=none->∃v,qg3 nm ((r j:Nat):Int)=some v
 lo:0<=number
 hi:number<=1001+(J:Int)
theorem vs5{E A:List (Int×Value)}(h:∀x v,qg3 E x=some v->qg3 A x=some v)(I:kn.getD (r j) none=none->∃v,qg3 E ((r j:Nat):Int)=some v):vN kn r A j=vN kn r E j:=by
 unfold vN vib;cases H:kn.getD (r j) none with
 |some v=>rfl
 |none =>
  grind
theorem vnf(h:n<=1073741824):qa8 n 32=true:=qc3 h (by omega)
theorem vhp(H:FT t)(hm:m=qik t)(h9:m<=1000)(C:CK m kn p r)(hu:∀x,(qg3 u x).getD false=true↔qye t x)(hn:∀x,qye t x->x<=1000)(hi:i<t.Rows.length){E:Int}{nm:List (Int×Value)}(N:NI t kn r (i*t.Attrs.length) E nm) :
  ∃J U,qah (qgc t kn (qa6 p) u (i:Int)) (E,nm,[],0)=some (J,U,(v6s t.Attrs.length).map fun a=>vN kn r U (i*t.Attrs.length+a))/\NI t kn r (i*t.Attrs.length+t.Attrs.length) J U/\∀x v,qg3 nm x=some v->qg3 U x=some v:=by
 have few:=H.few;have att:=H.att;obtain⟨b,e1,I,i2,i3⟩:=qa0 (β:=Int×List (Int×Value)×List Value) t.Attrs.length (fun b x=>(b.1,b.2.1,b.2.2,x)) (qgc t kn (qa6 p) u (i:Int)) id (fun a b=>NI t kn r (i*t.Attrs.length+a) b.1 b.2.1/\b.2.2=((v6s a).map fun a=>vN kn r b.2.1 (i*t.Attrs.length+a))/\∀x v,qg3 nm x=some v->qg3 b.2.1 x=some v) (b0:=(E,nm,[])) (s0:=(E,nm,[],0)) rfl ⟨N,rfl,fun x v h=>h⟩
  (fun a b ha hI=>by
   obtain⟨nu,A,row⟩:=b;obtain⟨I,i2,i3⟩:=hI;simp only at I i2 i3;subst i2;have hj:i*t.Attrs.length+a<m:=by rw[hm];exact qh3 hi ha
   have hroot:=q89 (N:=t.Attrs.length) (kn:=kn) C.toRK hj;have hlt:=C.lt _ hj;have hg:=qen (l:=kn) (i:=r (i*t.Attrs.length+a)) none (by rw[C.kl];exact hlt);have hlen:((v6s a).map fun a=>vN kn r A (i*t.Attrs.length+a)).length=a:=by simp
   have hpl:=q1y (show i*t.Attrs.length+a<4611686018427387904 by omega);simp only[qgc,if_pos (show(a:Int)<(t.Attrs.length:Int) by omega),hpl,hroot,v7m,qad hg,hlen,vnf (show a+1<=1073741824 by omega),if_true,wqn a];cases hk:kn.getD (r (i*t.Attrs.length+a)) none with
   | some v =>
    simp only[ucd,if_true,v7m];refine⟨(nu,A,_),rfl,⟨I.val,I.inj,fun j hj2 M=>?_,I.lo,by have:=I.hi;simp only;omega⟩,?_,i3⟩
    ·by_cases e:j=i*t.Attrs.length+a
     ·grind
     ·exact I.seen j (by omega) M
    ·simp only;rw[qg9];have:vN kn r A (i*t.Attrs.length+a)=v:=by unfold vN vib;rw[hk];rfl
     rw[this]
   | none =>
    simp only[ucc,v5k,if_false,v7m];cases hq:qg3 A ((r (i*t.Attrs.length+a):Nat):Int) with
    | some v =>
     simp only[ucd,if_true,v7o];refine⟨(nu,A,_),rfl,⟨I.val,I.inj,fun j hj2 M=>?_,I.lo,by have:=I.hi;simp only;omega⟩,?_,i3⟩
     ·by_cases e:j=i*t.Attrs.length+a
      ·grind
      ·exact I.seen j (by omega) M
     ·simp only;rw[qg9];have:vN kn r A (i*t.Attrs.length+a)=v:=by unfold vN vib;rw[hk];simp only[v7n,hq,v7o]
      rw[this]
    | none =>
     have hhi:=I.hi;have hlo:=I.lo;have w:v96.wrap (nu+1)=nu+1:=qbg (by omega) (by omega);obtain⟨k,k1,k2,k3,k4⟩:=q9i hu hn (a:=nu+1) (by omega) (by omega);simp only[ucc,v5k,if_false,w,k1,v7m];have hmm:∀x,qg3 (qnx A ((r (i*t.Attrs.length+a):Nat):Int) (⟨3,k,[]⟩:Value)) x=if x=((r (i*t.Attrs.length+a):Nat):Int) then some ⟨3,k,[]⟩ else qg3 A x:=fun x=>qqu _ _ _ _
     have O:(qg3 (qnx A ((r (i*t.Attrs.length+a):Nat):Int) (⟨3,k,[]⟩:Value)) ((r (i*t.Attrs.length+a):Nat):Int)).getD (⟨0,0,[]⟩:Value)=⟨3,k,[]⟩:=by rw[hmm,if_pos rfl];rfl
     have W:∀x v,qg3 A x=some v->qg3 (qnx A ((r (i*t.Attrs.length+a):Nat):Int) (⟨3,k,[]⟩:Value)) x=some v:=fun x v V=>by
      grind
     rw[O];refine⟨(k,qnx A ((r (i*t.Attrs.length+a):Nat):Int) ⟨3,k,[]⟩,_),rfl,⟨fun x v V=>?_,fun x y v Z hy=>?_,fun j hj2 M=>?_,by simp only;omega,by simp only;omega⟩,?_,fun x v V=>W x v (i3 x v V)⟩
     ·simp only at V ⊢;rw[hmm]at V;by_cases e:x=((r (i*t.Attrs.length+a):Nat):Int)
      ·grind
      ·rw[if_neg e]at V;obtain⟨q,q1,q2,q3,q4⟩:=I.val x v V
       grind
     ·simp only at Z hy;rw[hmm]at Z hy;by_cases e:x=((r (i*t.Attrs.length+a):Nat):Int)
      ·by_cases e2:y=((r (i*t.Attrs.length+a):Nat):Int)
       ·rw[e,e2]
       ·rw[if_pos e]at Z;rw[if_neg e2]at hy;obtain⟨q,q1,q2,q3,q4⟩:=I.val y v hy
        grind
      ·by_cases e2:y=((r (i*t.Attrs.length+a):Nat):Int)
       ·rw[if_neg e]at Z;rw[if_pos e2]at hy;obtain⟨q,q1,q2,q3,q4⟩:=I.val x v Z
        grind
       ·rw[if_neg e]at Z;rw[if_neg e2]at hy;exact I.inj x y v Z hy
     ·simp only;by_cases e:j=i*t.Attrs.length+a
      ·grind
      ·obtain⟨v,V⟩:=I.seen j (by omega) M
       grind
     ·simp only;rw[qg9];have e1:vN kn r (qnx A ((r (i*t.Attrs.length+a):Nat):Int) ⟨3,k,[]⟩) (i*t.Attrs.length+a)=⟨3,k,[]⟩:=by unfold vN vib;rw[hk];simp only[v7n,O]
      rw[e1];congr 1;refine v8u fun a' ha'=>?_
      have:=v83.1 ha';exact(vs5 W (fun hk'=>I.seen _ (by omega) hk')).symm)
  (fun b hI=>by simp[qgc])
 grind
def qkd(t:Table)(V:Nat->Value):Table:=⟨t.Name,t.Attrs,(v6s t.Rows.length).map fun i=>⟨(qf2 t i).ID,(v6s t.Attrs.length).map fun a=>V (i*t.Attrs.length+a)⟩⟩
theorem vhq(H:FT t)(hm:m=qik t)(h9:m<=1000)(C:CK m kn p r)(hu:∀x,(qg3 u x).getD false=true↔qye t x)(hn:∀x,qye t x->x<=1000) :
  ∃A I,qah (qgd t kn (qa6 p) u) ([],0,[],0)=some ((qkd t (vN kn r I)).Rows)/\NI t kn r m A I:=by
 have few:=H.few;have att:=H.att;obtain⟨b,e1,J,O⟩:=qa0 (β:=List Row×Int×List (Int×Value)) t.Rows.length (fun b x=>(b.1,b.2.1,b.2.2,x)) (qgd t kn (qa6 p) u) (fun b=>b.1) (fun i b=>NI t kn r (i*t.Attrs.length) b.2.1 b.2.2/\b.1=(v6s i).map fun i=>(⟨(qf2 t i).ID,(v6s t.Attrs.length).map fun a=>vN kn r b.2.2 (i*t.Attrs.length+a)⟩:Row)) (b0:=([],0,[])) (s0:=([],0,[],0)) rfl ⟨⟨fun x v h=>(by cases h),fun x y v h=>(by cases h),fun j hj=>(by simp at hj),by simp,by simp⟩,rfl⟩
  (fun i b hi hI=>by
   obtain⟨out,nu,I⟩:=b;obtain⟨J,O⟩:=hI;simp only at J O;subst O;have hx:=qkx hi;obtain⟨W,E,c1,c2,c3⟩:=vhp H hm h9 C hu hn hi J;have M:((v6s i).map fun i=>(⟨(qf2 t i).ID,(v6s t.Attrs.length).map fun a=>vN kn r I (i*t.Attrs.length+a)⟩:Row)).length=i:=by simp
   refine⟨(((v6s i).map fun i=>(⟨(qf2 t i).ID,(v6s t.Attrs.length).map fun a=>vN kn r I (i*t.Attrs.length+a)⟩:Row))++[⟨(qf2 t i).ID,(v6s t.Attrs.length).map fun a=>vN kn r E (i*t.Attrs.length+a)⟩],W,E),by simp only[qgd,if_pos (qan hx),qad hx,v7m,c1,M,vnf (show i+1<=1073741824 by omega),if_true,wqn i],by rw[ucb];exact c2,?_⟩;simp only;rw[qg9];congr 1;refine v8u fun i' U=>?_
   have Z:=v83.1 U;congr 1;refine v8u fun a ha=>?_
   have V:=qh3 Z (v83.1 ha);exact(vs5 c3 (fun hk=>J.seen _ V hk)).symm)
  (fun b hI=>by simp[qgd])
 refine⟨b.2.1,b.2.2,?_,by rw[hm];exact J⟩;rw[e1,O];rfl
theorem vng(H:FT t)(J:j<qik t)(I:(qo0 t j).Kind=3):qye t (qo0 t j).Num:=by
 obtain⟨A,E,M⟩:=qlh J;exact⟨_,ql2 A,_,v6m (qt0 H A E),I,rfl⟩
theorem vxh(H:UT t fds){cells:List CellRef}(ha:qyt cells)(hm:∀c∈cells,∃j,j<qik t/\qf3 t j=c)(hl:cells.length<=1000000)(hc:vid t fds cells) :
  ∃W,qmk t fds cells=some (qkd t W,0)/\v4v t fds cells W/\∀j,j<qik t->(∃i,i<qik t/\W j=qo0 t i)\/∃k:Int,1<=k/\k<=2000/\W j=⟨3,k,[]⟩:=by
 have few:=H.few;have nine:=H.nine;have att:=H.att;obtain⟨o,e1,e2⟩:=q9a (kn:=(v6s (qik t)).map (qxu t cells)) H.fdsN (show qik t=t.Rows.length*t.Attrs.length from rfl) H.toFT.num (by omega) (by omega) t rfl rfl (by simp);rcases e2 with⟨p,r,rfl,U,c2⟩|⟨p,rfl,U,c2⟩
 ·have hn:∀x,qye t x->x<=1000:=fun x ⟨r,hr,v,A,h3,hx⟩=>by rw[<-hx];exact H.num r hr v A h3
  obtain⟨u,u1,u2⟩:=vho H.toFT;obtain⟨nu,nm,w1,N⟩:=vhq H.toFT rfl (by omega) U u2 hn;have J:=q1n t.Attrs (by omega);refine⟨vN ((v6s (qik t)).map (qxu t cells)) r nm,?_,qz1.1 ⟨vl8 U _,q9b rfl (fun i k hi I=>vea U (fun i k hi I Z rk ni nk E=>?_) (fun i k hi I Z ni E=>?_) hi I) c2⟩,fun j hj=>?_⟩
  ·simp only[qmk,q55 H ha hm hl,v7m,bne_self_eq_false,v5k,if_false,vxg,vei H.toFT ha (show cells.length<=1048576 by omega),vhm,e1,qb7,U.len,List.length_range,if_true,u1,J,w1];rfl
  ·obtain⟨v,A⟩:=N.seen i hi (by rw[Z];exact ni);obtain⟨v',M⟩:=N.seen k I (by rw[rk];exact nk);rw[Z]at A;rw[rk]at M;simp only[A,M,v7o]at E;subst E;have:=N.inj _ _ _ A M;omega
  ·obtain⟨v,A⟩:=N.seen i hi (by rw[Z];exact ni);rw[Z]at A;simp only[A,v7o]at E;obtain⟨q,q1,q2,q3,q4⟩:=N.val _ _ A;rw[q5y I]at E;unfold qxu at E;by_cases O:qf3 t k∈cells
   ·grind
   ·rw[if_neg O]at E;have E:=v9i E;rw[q1]at E;refine q4 ?_;have:=vng H.toFT I (by rw[E])
    grind
  ·unfold vN vib;cases I:((v6s (qik t)).map (qxu t cells)).getD (r j) none with
   |none =>
    right;obtain⟨v,A⟩:=N.seen j hj I;obtain⟨q,q1,q2,q3,q4⟩:=N.val _ _ A;have:=N.hi
    grind
   |some v =>
    left;have hr:=U.lt j hj;refine⟨r j,hr,?_⟩;rw[q5y hr]at I;unfold qxu at I
    grind
 ·obtain⟨V,hV⟩:=hc;exact absurd (qz1.2 hV) (c2 V)
end Go.Proofs.YtijpapagpebllaaGreatDoor
namespace Go.Ab
theorem qke{I:Type}:∀{l r:List I},l.Nodup->(∀x∈l,x∈r)->l.length<=r.length
 |[],_,_,_=>v9f _
 | x :: l,r,hn,hs=>by
  obtain⟨H,E,rfl⟩:=List.append_of_mem (hs x v8z);rw[List.nodup_cons]at hn;have:=qke (l:=l) (r:=H++E) hn.2 (fun y A=>by
   have:=hs y (v8y _ A);rw[v6k,List.mem_cons]at this;rw[v6k];rcases this with h|rfl|h
   ·exact .inl h
   ·exact absurd A hn.1
   ·exact .inr h)
  simp only[v6b,v8r]at *;omega
end Go.Ab
namespace Go.Proofs.YtijpapagpebllaaGreatDoor
open Go Go.Ab
variable {t:Table} {cells C:List CellRef} {E:List (List Int)} {fds:List FD} {A L:List (List CellRef)} {W:Nat->Value} {R:List Constraint} {V:List Int} {c:CellRef} {S:List Nat} {i n k j:Nat} {x:Int} {σ:Type}
def q79(n:Nat):Nat:=n*(n-1)/2
def qy9:List CellRef->List Int
 |[]=>[]
 |c::l=>c.ID::c.Attr::qy9 l
theorem q9j:∀{a b:List CellRef},qy9 a=qy9 b->a=b
 |[],[],_=>rfl
 |[],_::_,h=>by simp[qy9]at h
 |_::_,[],h=>by simp[qy9]at h
 |x::a,y::b,h=>by
  simp only[qy9,List.cons.injEq]at h;have:=q9j h.2.2;rw[this];congr 1;cases x;cases y;simp only[CellRef.mk.injEq];exact⟨h.1,h.2.1⟩
def q2c(a b:List CellRef):Bool:=ltL (qy9 a) (qy9 b)
theorem q9k(x y:CellRef)(a b:List CellRef):q2c (x::a) (y::b)=if x=y then q2c a b else ltQ x y:=by
 unfold q2c ltQ;simp only[qy9,ltL];have A:x=y↔x.ID=y.ID/\x.Attr=y.Attr:=by cases x;cases y;simp
 grind
theorem vxi{x y:CellRef}(h:x≠y):vic x y≠0:=fun e=>h ((q10 x y).1 e)
theorem qyw(a b:List CellRef)(ha:a.length<=1000000)(W:b.length<=1000000):∀(A E:List CellRef) (k:Nat),a.drop k=A->b.drop k=E->k<=a.length->k<=b.length ->
  ∃o,qah (qa3 a b fun y z=>qam y z) (k:Int)=some o/\((match o with|.inl ()=>if(a.length:Int)<(b.length:Int) then(-1:Int) else 0|.inr r=>r)<0↔q2c A E=true)
 |[],[],k,h1,h2,h3,h4=>by
  have I:=qpp h1 h3;have U:=qpp h2 h4;refine⟨.inl (),qap (by simp[qa3,I]),?_⟩;simp only;rw[if_neg (by omega)];simp[q2c,qy9,ltL]
 |[],y::E,k,h1,h2,h3,h4=>by
  have I:=qpp h1 h3;have U:=(qpo h2).2.2;refine⟨.inl (),qap (by simp[qa3,I]),?_⟩;simp only;rw[if_pos (by omega)];simp[q2c,qy9,ltL]
 |x::A,[],k,h1,h2,h3,h4=>by
  have U:=qpp h2 h4;obtain⟨x1,x2,J⟩:=qpo h1;refine⟨.inr 1,qap (by simp only[qa3,if_pos (qan x1),qad x1,v7m,if_pos (show(k:Int)>=(b.length:Int) by omega)]),?_⟩;simp[q2c,qy9,ltL]
 | x :: A,y :: E,k,h1,h2,h3,h4=>by
  obtain⟨x1,x2,J⟩:=qpo h1;obtain⟨O,V,Z⟩:=qpo h2;by_cases e:x=y
  ·subst e;obtain⟨o,M,H⟩:=qyw a b ha W A E (k+1) x2 V J Z;refine⟨o,?_,?_⟩
   ·have hz:(vic x x != 0)=false:=by rw[(q10 x x).2 rfl];rfl
    rw[qas (s':=((k+1:Nat):Int)) (by simp only[qa3,if_pos (qan x1),if_neg (show ¬(k:Int)>=(b.length:Int) by omega),qad x1,qad O,v7m,qg8,hz,v5k,if_false,qcs J (show a.length<=4611686018427387904 by omega)])];exact M
   ·rw[H,q9k,if_pos rfl]
  ·refine⟨.inr (vic x y),qap ?_,?_⟩
   ·have:(vic x y != 0)=true:=by simpa using vxi e
    simp only[qa3,if_pos (qan x1),if_neg (show ¬(k:Int)>=(b.length:Int) by omega),qad x1,qad O,v7m,qg8,this,if_true]
   ·simp only;rw[q9k,if_neg e,qty]
theorem qyf(a b:List CellRef)(ha:a.length<=1000000)(H:b.length<=1000000):∃z,qbk a b=some z/\(z<0↔q2c a b=true):=by
 obtain⟨o,h1,E⟩:=qyw a b ha H a b 0 rfl rfl (v9f _) (v9f _);have A:qah (qa3 a b fun y z=>qam y z) 0=some o:=h1;refine⟨_,?_,E⟩;simp only[qbk,qdy,A,v7m]
 grind
theorem srtLQ(l:List (List CellRef))(hl:l.length<=1000000)(U:∀a∈l,a.length<=1000000)(hn:l.Nodup):∃s,qxt (fun(y:List CellRef) (z:List CellRef)=>qbk y z) l=some s/\s.Perm l/\s.Pairwise fun a b=>q2c a b=true:=by
 have I:∀x∈l,∀y∈l,((qbk x y).getD 0<0↔q2c x y=true):=fun x A y H=>by
  obtain⟨z,e1,e2⟩:=qyf x y (U x A) (U y H)
  grind
 have J:q2q (fun x y=>(qbk x y).getD 0) l:=by
  refine⟨fun x A=>?_,fun x A y H z O h1 E=>?_,fun x A y H z O h1 E=>?_⟩
  ·show ¬(qbk x x).getD 0<0;rw[I x A x A];unfold q2c;rw[qru];simp
  ·replace h1:(qbk x y).getD 0<0:=h1;replace E:(qbk y z).getD 0<0:=E;show(qbk x z).getD 0<0;rw[I _ A _ H]at h1;rw[I _ H _ O]at E;rw[I _ A _ O];exact qtu _ _ _ h1 E
  ·replace h1:¬(qbk x y).getD 0<0:=h1;replace E:¬(qbk y z).getD 0<0:=E;show ¬(qbk x z).getD 0<0;rw[I _ A _ H]at h1;rw[I _ H _ O]at E;rw[I _ A _ O];have h1':q2c x y=false:=by simpa using h1
   have W:q2c y z=false:=by simpa using E
   unfold q2c at*;rw[q1t _ _ _ h1' W];simp
 have V:=quh J;refine⟨srt (fun x y=>(qbk x y).getD 0) l,?_,V,?_⟩
 ·unfold qxt;rw[if_pos ⟨fun x A y H=>by
   obtain⟨z,e1,e2⟩:=qyf x y (U x A) (U y H);show(qbk x y).isSome=true;rw[e1];rfl,J,by omega⟩]
 ·have Z:(srt (fun x y=>(qbk x y).getD 0) l).Nodup:=V.nodup_iff.2 hn;have E:=uad.and (qui J) Z;refine uad.imp_of_mem ?_ E;intro a b ha hb M;obtain⟨M,g2⟩:=M;replace M:¬(qbk b a).getD 0<0:=M;rw[I _ (V.mem_iff.1 hb) _ (V.mem_iff.1 ha)]at M;cases hlt:q2c a b with
  |true=>rfl
  |false =>
   exfalso;have g1':q2c b a=false:=by simpa using M
   exact g2 (q9j (qqw _ _ hlt g1'))
def qyx(cells:List CellRef)(c:CellRef):Nat:=cells.findIdx fun x=>decide (x=c)
theorem vxj(hn:cells.Nodup)(h:cells[k]?=some c):qyx cells c=k:=by
 obtain⟨E,e⟩:=v56.1 h;unfold qyx;rw[List.findIdx_eq E];refine⟨by rw[e];simp,fun j H=>?_⟩;rw[decide_eq_false_iff_not];intro A;have:=(List.getElem_inj hn).1 (A.trans e.symm);omega
theorem qxe(h:c∈cells):cells[qyx cells c]?=some c:=by
 unfold qyx
 grind
theorem vxk(h:c∈cells):qyx cells c<cells.length:=qdc (qxe h)
theorem vrk(ha:qyt cells){d:CellRef}(I:c∈cells)(J:d∈cells)(h:ltQ c d=true):qyx cells c<qyx cells d:=by
 obtain⟨h1,E⟩:=v56.1 (qxe I);obtain⟨H,A⟩:=v56.1 (qxe J);rcases v9a (qyx cells c) (qyx cells d) with g|g|g
 ·exact g
 ·exfalso;have:cells[qyx cells c]=cells[qyx cells d]:=by congr 1
  rw[E,A]at this;subst this;rw[q1z]at h;cases h
 ·exfalso;have:=ubu.1 ha _ _ H h1 g;rw[E,A]at this;have:=veg _ _ this
  grind
def q9l(A:List (List CellRef)):List (List Nat):=A.map fun K=>K.map (qyx (qqx A.flatten))
theorem vrl{K:List CellRef}(ha:qyt cells)(hl:cells.length<=1048576)(M:∀c∈K,c∈cells)(U:K.length<=1000000):qah (qer cells K) ([],0)=some (qa6 (K.map (qyx cells))):=by
 obtain⟨b,e1,Z⟩:=qa0 (β:=List Int) K.length (fun b i=>(b,i)) (qer cells K) id (fun k b=>b=qa6 ((K.take k).map (qyx cells))) (b0:=[]) (s0:=([],0)) rfl (by simp[qa6])
  (fun k b E I=>by
   subst I;have A:K[k]?=some K[k]:=v52 E;obtain⟨q,J,W⟩:=qry cells K[k] ha hl;have V:=vxj (qx9 ha) (W (M _ (ubj E)));have H:(qa6 ((K.take k).map (qyx cells))).length<=k:=by rw[qb7,v6d,v6g];omega
   refine⟨_,?_,rfl⟩;have O:qa6 ((K.take (k+1)).map (qyx cells))=qa6 ((K.take k).map (qyx cells))++[(q:Int)]:=by
    rw[qbv A,v6h];unfold qa6;rw[v6h,uch,uch,V]
   rw[O];simp only[qer,if_pos (qan A),qad A,v7m,J,qmt (show(qa6 ((K.take k).map (qyx cells))).length+1<=17592186044416 by omega),if_true,wqn k])
  (fun b I=>by simp[qer])
 grind
theorem veq(cells:List CellRef)(hl:cells.length<=1000000):qah (qcw cells) ([],0)=some (v6u cells.length 1):=by
 obtain⟨b,E,H⟩:=qa0 (β:=List Int) cells.length (fun b i=>(b,i)) (qcw cells) id (fun k b=>b=v6u k 1) (b0:=[]) (s0:=([],0)) rfl rfl
  (fun k b I A=>by
   subst A;refine⟨_,?_,rfl⟩;simp only[qcw,if_pos (show(k:Int)<((cells.length:Nat):Int) by omega),ucf,qmt (show k+1<=17592186044416 by omega),if_true,wqn k];rw[ucj])
  (fun b A=>by simp[qcw])
 rw[E,H];rfl
theorem q9m(ha:qyt cells)(hl:cells.length<=1048576)(O:∀K∈A,(∀c∈K,c∈cells)/\K.length<=1000000)(hn:A.length<=100000):qah (qcx A cells) ([],0)=some ((A.map fun K=>K.map (qyx cells)).map qa6):=by
 obtain⟨b,W,V⟩:=qa0 (β:=List (List Int)) A.length (fun b i=>(b,i)) (qcx A cells) id (fun k b=>b=((A.take k).map fun K=>K.map (qyx cells)).map qa6) (b0:=[]) (s0:=([],0)) rfl (by simp)
  (fun k b H J=>by
   subst J;have E:A[k]?=some A[k]:=v52 H;obtain⟨h1,M⟩:=O _ (ubj H);have I:(((A.take k).map fun K=>K.map (qyx cells)).map qa6).length<=k:=by simp only[v6d,v6g];omega
   refine⟨_,?_,rfl⟩;have U:((A.take (k+1)).map fun K=>K.map (qyx cells)).map qa6=((A.take k).map fun K=>K.map (qyx cells)).map qa6++[qa6 (A[k].map (qyx cells))]:=by
    rw[qbv E,v6h,v6h];rfl
   rw[U];simp only[qcx,if_pos (qan E),qad E,v7m,vrl ha hl h1 M,RLE ((((A.take k).map fun K=>K.map (qyx cells)).map qa6).length+1) 24,if_true,wqn k])
  (fun b J=>by simp[qcx])
 grind
theorem q9n{m:Nat}(h:∀K∈L,K.length<=m):L.flatten.length<=L.length*m:=by
 induction L with
 |nil=>simp
 |cons K L ih =>
  have h1:=h K (v8z);have H:=ih fun A E=>h A (v8y _ E)
  rw[List.flatten_cons,v6b,v8r,ucb];omega
structure CoresOk(t:Table)(cores:List (List CellRef)):Prop where
 few:cores.length<=1000
 asc:∀K∈cores,qyt K
 innQ:∀K∈cores,∀c∈K,∃j,j<qik t/\qf3 t j=c
 ne:∀K∈cores,K≠[]
theorem qnl{l:List CellRef}(ha:qyt l)(h:∀c∈l,∃j,j<qik t/\qf3 t j=c):l.length<=qik t:=by
 have:=qke (r:=(v6s (qik t)).map (qf3 t)) (qx9 ha) fun c A=>by
  grind
 simpa using this
theorem q32(h9:qik t<=9)(C:CoresOk t A) :
  qko A=some (ql9 (qqx A.flatten).length (q9l A),qqx A.flatten)/\HI (qqx A.flatten).length (q9l A)/\(qqx A.flatten).length<=9/\∀c∈qqx A.flatten,∃j,j<qik t/\qf3 t j=c:=by
 have few:=C.few;have M:∀K∈A,K.length<=9:=fun K E=>by have:=qnl (C.asc K E) (C.innQ K E);omega
 have hfl:=q9n M;have I:∀c,c∈qqx A.flatten↔∃K∈A,c∈K:=fun c=>by rw[qz0,uci]
 have U:∀c∈qqx A.flatten,∃j,j<qik t/\qf3 t j=c:=fun c J=>by
  obtain⟨K,E,V⟩:=(I c).1 J;exact C.innQ K E c V
 have ha:=q5v A.flatten;have Z:=qnl ha U;have H:∀K∈A,∀c∈K,c∈qqx A.flatten:=fun K E c J=>(I c).2 ⟨K,E,J⟩
 have c1:(0:Int)<=(A.flatten.length:Int):=by omega
 have c2:(A.flatten.length:Int)<=1000000000000:=by omega
 have W:=qyu A.flatten (by omega);refine⟨?_,⟨by omega,by simp only[q9l,v6d];exact few,fun e O=>?_,fun e O=>?_,fun e O v hv=>?_⟩,by omega,U⟩
 ·have e:qko A=(qah (qck A) (0,0)).bind fun size=>if 0<=size then if size<=1000000000000 then
   (qah (qcl A) (([]:List CellRef),0)).bind fun ns=>(qxt (fun(x:CellRef) (y:CellRef)=>qam x y) ns).bind fun l=>(vmp l).bind fun cells =>
    (qah (qcw cells) ([],0)).bind fun ws=>(qah (qcx A cells) ([],0)).bind fun es=>some ((Instance.mk ws es),cells) else none else none:=rfl
  rw[e,qtz A (by omega) (by omega),v7m,if_pos c1,if_pos c2,qvu A (by omega) (by omega),v7m,<-ucn,W,v7m,veq _ (by omega),v7m,q9m ha (by omega) (fun K E=>⟨H K E,by have:=M K E;omega⟩) (by omega),v7m];rfl
 ·obtain⟨K,E,rfl⟩:=v81.1 O;intro h;exact C.ne K E (ucg.1 h)
 ·obtain⟨K,E,rfl⟩:=v81.1 O;refine ubw.2 (uad.imp_of_mem (fun {a b} hma hmb h=>?_) (C.asc K E));exact vrk ha (H K E a hma) (H K E b hmb) h
 ·obtain⟨K,E,rfl⟩:=v81.1 O;obtain⟨c,J,rfl⟩:=v81.1 hv;exact vxk (H K E c J)
def cdN:Nat->(Nat->Bool)->Nat
 |0,_=>0
 |n+1,p=>cdN n p+if p n=true then 2^n else 0
theorem q9o(p:Nat->Bool):∀n,cdN n p<2^n
 |0=>by simp[cdN]
 |n+1=>by
  have:=q9o p n;simp only[cdN,Nat.pow_succ];split<;>omega
theorem vce{p q:Nat->Bool}:∀n,cdN n p=cdN n q->∀j,j<n->p j=q j
 |0,_,j,hj=>absurd hj (ub9 _)
 | n+1,h,j,hj=>by
  have h1:=q9o p n;have A:=q9o q n;simp only[cdN]at h;have hn:p n=q n/\cdN n p=cdN n q:=by
   grind
  by_cases e:j=n
  ·grind
  ·exact vce n hn.2 j (by omega)
theorem q9p(I:qik t<=9)(hn:L.Nodup)(ha:∀K∈L,qyt K)(J:∀K∈L,∀c∈K,∃j,j<qik t/\qf3 t j=c):L.length<=512:=by
 have E:(L.map fun K=>cdN (qik t) fun j=>decide (qf3 t j∈K)).Nodup:=by
  refine ubw.2 (uad.imp_of_mem (fun {A B} hA hB hne e=>hne ?_) hn);have O:=vce _ e;refine vl3 ltQ q1z veg (ha A hA) (ha B hB) fun x=>?_
  grind
 have:=qke (r:=v6s 512) E fun x H=>by
  obtain⟨K,_,rfl⟩:=v81.1 H;have h1:=q9o (fun j=>decide (qf3 t j∈K)) (qik t);have M:2^qik t<=2^9:=uar (by omega) I
  grind
 simpa using this
def qn4(cells:List CellRef)(S:List Nat):List CellRef:=S.map fun v=>cells.getD v ⟨0,0⟩
theorem ver(ha:qyt cells)(H:S.Pairwise (· < ·))(hl:∀v∈S,v<cells.length):qyt (qn4 cells S):=by
 refine ubw.2 (uad.imp_of_mem (fun {a b} hA hB h=>?_) H);have h1:=hl a hA;have A:=hl b hB;have E:cells.getD a ⟨0,0⟩=cells[a]:=by rw[v8i,v52 h1];rfl
 have I:cells.getD b ⟨0,0⟩=cells[b]:=by rw[v8i,v52 A];rfl
 rw[E,I];exact ubu.1 ha a b h1 A h
theorem vrm(hl:∀v∈S,v<cells.length)(h:c∈qn4 cells S):c∈cells:=by
 obtain⟨v,A,rfl⟩:=v81.1 h
 grind
theorem vnh(hl:∀v∈S,v<cells.length)(U:S.length<=1000000)(w e:Int):qah (qc8 cells (qa6 S,w,e)) ([],0)=some (qn4 cells S):=by
 obtain⟨b,V,O⟩:=qa0 (β:=List CellRef) S.length (fun b i=>(b,i)) (qc8 cells (qa6 S,w,e)) id (fun k b=>b=qn4 cells (S.take k)) (b0:=[]) (s0:=([],0)) rfl (by simp[qn4])
  (fun k b A I=>by
   subst I;have E:=qp7 A;have J:=qen (l:=cells) (i:=S[k]) ⟨0,0⟩ (hl _ (ubj A));have H:(qn4 cells (S.take k)).length<=k:=by simp only[qn4,v6d,v6g];omega
   have M:qn4 cells (S.take (k+1))=qn4 cells (S.take k)++[cells.getD S[k] ⟨0,0⟩]:=by
    rw[qbv (v52 A)];unfold qn4;rw[v6h];rfl
   refine⟨_,?_,rfl⟩;rw[M];simp only[qc8,if_pos (qan E),qad E,qad J,v7m,vb7 (show(qn4 cells (S.take k)).length+1<=1073741824 by omega),if_true,wqn k])
  (fun b I=>by simp[qc8,qb7])
 grind
def vcf(t:Table)(fds:List FD)(b:Int)(A:List (List CellRef))(E:Instance)(cells:List CellRef):Option (LS (List CellRef×List (List CellRef)) (Update×Int)) :=
 (qg5 E b).bind fun r=>if(r.2.2 != 0)=true then some (.done ((Update.mk [] (Table.mk [] [] []) [] []),13)) else
  (qah (qc8 cells r) ([],0)).bind fun u=>(qgy t fds u).bind fun e=>if e=true then
   (qjn E r.2.1 b).bind fun p=>if(p.2 != 0)=true then some (.done ((Update.mk [] (Table.mk [] [] []) [] []),13)) else(qmk t fds u).bind fun f=>some (.done ((Update.mk u f.1 A p.1),0))
  else(qml t u).bind fun a=>(qmm t fds a).bind fun k=>if qa8 (A.length+1) 24=true then
   (qxt (fun(y:List CellRef) (z:List CellRef)=>qbk y z) (A++[k])).bind fun l=>some (.next (u,l)) else none
theorem vrn(h9:qik t<=9)(C:CoresOk t A)(b:Int)(c:List CellRef):qc9 t fds b (c,A)=vcf t fds b A (ql9 (qqx A.flatten).length (q9l A)) (qqx A.flatten):=by
 have few:=C.few;have J:∀K∈A,K.length<=9:=fun K E=>by have:=qnl (C.asc K E) (C.innQ K E);omega
 have hfl:=q9n J;have H:∀c,c∈qqx A.flatten↔∃K∈A,c∈K:=fun c=>by rw[qz0,uci]
 have M:∀c∈qqx A.flatten,∃j,j<qik t/\qf3 t j=c:=fun c O=>by
  obtain⟨K,E,U⟩:=(H c).1 O;exact C.innQ K E c U
 have ha:=q5v A.flatten;have W:=qnl ha M;have I:∀K∈A,∀c∈K,c∈qqx A.flatten:=fun K E c O=>(H c).2 ⟨K,E,O⟩
 have c1:(0:Int)<=(A.flatten.length:Int):=by omega
 have Z:(A.flatten.length:Int)<=1000000000000:=by omega
 have V:=qyu A.flatten (by omega);have e:qc9 t fds b (c,A)=(qah (qck A) (0,0)).bind fun size=>if 0<=size then if size<=1000000000000 then
   (qah (qcl A) (([]:List CellRef),0)).bind fun ns=>(qxt (fun(x:CellRef) (y:CellRef)=>qam x y) ns).bind fun l=>(vmp l).bind fun cells =>
    (qah (qcw cells) ([],0)).bind fun ws=>(qah (qcx A cells) ([],0)).bind fun es=>vcf t fds b A (Instance.mk ws es) cells else none else none:=rfl
 rw[e,qtz A (by omega) (by omega),v7m,if_pos c1,if_pos Z,qvu A (by omega) (by omega),v7m,<-ucn,V,v7m,veq _ (by omega),v7m,q9m ha (by omega) (fun K E=>⟨I K E,by have:=J K E;omega⟩) (by omega),v7m];rfl
structure OptR(t:Table)(fds:List FD)(C:List CellRef)(W:Nat->Value)(cores:List (List CellRef))(P:List Node):Prop where
 asc:qyt C
 innQ:∀c∈C,∃j,j<qik t/\qf3 t j=c
 fit:v4v t fds C W
 val:∀j,j<qik t->(∃i,i<qik t/\W j=qo0 t i)\/∃k:Int,1<=k/\k<=2000/\W j=⟨3,k,[]⟩
 cok:CoresOk t cores
 srt:cores.Pairwise fun a b=>q2c a b=true
 nec:∀K∈cores,vel t fds K
 prf:qlc (ql9 (qqx cores.flatten).length (q9l cores)) (C.length:Int) P=some true
 least:∀D:List CellRef,vid t fds D->C.length<=D.length
theorem vni{a b:List CellRef}(h:q2c a b=true):a≠b:=fun e=>by
 subst e;unfold q2c at h;rw[qru]at h;cases h
theorem vro(H:UT t fds)(C:CoresOk t A)(hs:A.Pairwise fun a b=>q2c a b=true)(hn:∀K∈A,vel t fds K)(c:List CellRef) :
  (∃u l,qc9 t fds 1000000 (c,A)=some (.next (u,l))/\CoresOk t l/\(l.Pairwise fun a b=>q2c a b=true)/\(∀K∈l,vel t fds K)/\l.length=A.length+1) \/
  ∃D W P,qc9 t fds 1000000 (c,A)=some (.done (⟨D,qkd t W,A,P⟩,0))/\OptR t fds D W A P:=by
 have nine:=H.nine;obtain⟨_,HH,hlen9,hin⟩:=q32 nine C;have hca:=q5v A.flatten;rw[vrn nine C];obtain⟨S,m1,M⟩:=q30 HH;have hSl:=M.1.len;have hp:=vnh (cells:=qqx A.flatten) (S:=S) M.1.lt (by omega) ((S.length:Nat):Int) 0;have hD:=ver hca M.1.asc M.1.lt;have O:∀c∈qn4 (qqx A.flatten) S,∃j,j<qik t/\qf3 t j=c:=fun c U=>hin c (vrm M.1.lt U)
 have hDl:(qn4 (qqx A.flatten) S).length=S.length:=by simp[qn4]
 obtain⟨b,e1,e2⟩:=q11 H.toFT H.fdsN hD (by omega);simp only[vcf,m1,v7m,bne_self_eq_false,v5k,if_false,hp,e1];cases b with
 | true =>
  right;have hcan:=e2.1 rfl;obtain⟨P,p1,p2⟩:=q17 HH M;obtain⟨W,f1,f2,f3⟩:=vxh H hD O (by omega) hcan;refine⟨qn4 (qqx A.flatten) S,W,P,by simp only[if_true,p1,v7m,bne_self_eq_false,v5k,if_false,f1],hD,O,f2,f3,C,hs,hn,by rw[hDl];exact p2,fun D hDc=>?_⟩;rw[hDl];have hh:=M.2 (fun v=>decide ((qqx A.flatten).getD v ⟨0,0⟩∈D)) (fun e he=>by
   obtain⟨K,I,rfl⟩:=v81.1 he;obtain⟨j,hj,j1,j2⟩:=vmt hDc (hn K I);refine⟨qyx (qqx A.flatten) (qf3 t j),v81.2 ⟨_,j2,rfl⟩,?_⟩;have hm:qf3 t j∈qqx A.flatten:=(qz0 _ _).2 (uci.2 ⟨K,I,j2⟩);have hg:=qxe hm
   grind)
  have hf:=qur (fun v=>decide ((qqx A.flatten).getD v ⟨0,0⟩∈D)) (qqx A.flatten).length;have hle:((v6s (qqx A.flatten).length).filter fun v=>decide ((qqx A.flatten).getD v ⟨0,0⟩∈D)).length<=D.length:=by
   have:=qke (l:=qn4 (qqx A.flatten) ((v6s (qqx A.flatten).length).filter fun v=>decide ((qqx A.flatten).getD v ⟨0,0⟩∈D))) (r:=D) (qx9 (ver hca (ubv.filter _) fun v hv=>v83.1 (v80.1 hv).1)) fun x hx=>by
     obtain⟨v,hv,rfl⟩:=v81.1 hx
     grind
   simpa[qn4] using this
  unfold vrd at hh
  grind
 | false =>
  left;have hnc:¬vid t fds (qn4 (qqx A.flatten) S):=fun h=>by have:=e2.2 h;cases this
  have hal:=vej t (qn4 (qqx A.flatten) S);have hKn:vel t fds (vie t (qn4 (qqx A.flatten) S)):=fun h=>hnc (vms.1 h)
  obtain⟨L,J,V,l3⟩:=vw9 H.toFT H.fdsN (q5z H.toFT _) (show(vie t (qn4 (qqx A.flatten) S)).length<=1048576 by omega) hKn;have hLa:qyt L:=(q5z H.toFT _).sublist V;have hLin:∀c∈L,∃j,j<qik t/\qf3 t j=c:=fun c U=>(qps.1 (V.subset U)).1
  have hLnew:L ∉ A:=fun hm=>by
   obtain⟨v,hv,hvS⟩:=M.1.hit _ (v81.2 ⟨L,hm,rfl⟩);obtain⟨c,U,rfl⟩:=v81.1 hv;have hcm:c∈qqx A.flatten:=(qz0 _ _).2 (uci.2 ⟨L,hm,U⟩);have hg:=qxe hcm;have:c∈qn4 (qqx A.flatten) S:=v81.2 ⟨_,hvS,by rw[v8i,hg];rfl⟩;exact(qps.1 (V.subset U)).2 this
  have E:∀K∈A++[L],qyt K/\(∀c∈K,∃j,j<qik t/\qf3 t j=c)/\vel t fds K:=fun K I=>by
   rcases v6k.1 I with I|I
   ·exact⟨C.asc K I,C.innQ K I,hn K I⟩
   ·grind
  have hnd:(A++[L]).Nodup:=by
   rw[List.nodup_append];refine⟨hs.imp fun h=>vni h,by simp,fun a ha b hb e=>?_⟩
   grind
  have h512:=q9p nine hnd (fun K I=>(E K I).1) (fun K I=>(E K I).2.1);obtain⟨s,s1,Z,s3⟩:=srtLQ (A++[L]) (by omega) (fun K I=>by have:=qnl (E K I).1 (E K I).2.1;omega) hnd;have few:=C.few;refine⟨qn4 (qqx A.flatten) S,s,?_,⟨by rw[Z.length_eq];omega,fun K I=>(E K (Z.mem_iff.1 I)).1,fun K I=>(E K (Z.mem_iff.1 I)).2.1,fun K I=>v4x (E K (Z.mem_iff.1 I)).2.2⟩,s3,fun K I=>(E K (Z.mem_iff.1 I)).2.2,by rw[Z.length_eq];simp⟩;simp only[v5k,if_false,vek H.toFT hD (show(qn4 (qqx A.flatten) S).length<=1048576 by omega),J,v7m,RLE (A.length+1) 24,if_true,s1]
theorem qyy(H:UT t fds):∃D W A P,qi0 t fds 1000000=some (⟨D,qkd t W,A,P⟩,0)/\OptR t fds D W A P:=by
 obtain⟨o,e1,D,W,A,P,e2,e3⟩:=qzt (B:=qc9 t fds 1000000) (fun s=>CoresOk t s.2/\(s.2.Pairwise fun a b=>q2c a b=true)/\∀K∈s.2,vel t fds K) (fun s=>513-s.2.length) (fun o=>∃D W A P,o=(⟨D,qkd t W,A,P⟩,0)/\OptR t fds D W A P)
  (fun s hI=>by
   obtain⟨c,A⟩:=s;obtain⟨h1,V,h3⟩:=hI;rcases vro H h1 V h3 c with⟨u,l,I,J,U,Z,a5⟩|⟨D,W,P,I,J⟩
   ·refine Or.inl ⟨(u,l),I,⟨J,U,Z⟩,?_⟩;have O:=q9p H.nine (U.imp fun h=>vni h) J.asc J.innQ
    grind
   ·grind)
  513 ([],[]) (by simp) ⟨⟨by simp,fun K E=>(by cases E),fun K E=>(by cases E),fun K E=>(by cases E)⟩,by simp,fun K E=>(by cases E)⟩
 refine⟨D,W,A,P,?_,e3⟩;have M:=q55 H (l:=[]) (by simp) (fun c M=>(by cases M)) (by simp);simp only[qi0,M,v7m,bne_self_eq_false,v5k,if_false,if_neg (show ¬(1000000:Int)<1 by decide),e1,e2]
theorem qoq(t:Table)(W:Nat->Value):(qkd t W).Attrs=t.Attrs:=rfl
theorem ql4(t:Table)(W:Nat->Value):(qkd t W).Rows.length=t.Rows.length:=by simp[qkd]
theorem vnj(t:Table)(W:Nat->Value):qik (qkd t W)=qik t:=by unfold qik;rw[ql4];rfl
theorem q9q(t:Table)(W:Nat->Value)(hi:i<t.Rows.length):qf2 (qkd t W) i=⟨(qf2 t i).ID,(v6s t.Attrs.length).map fun a=>W (i*t.Attrs.length+a)⟩:=by
 unfold qf2 qkd;simp only;rw[v8i,v8n,List.getElem?_range hi];rfl
theorem q9r(t:Table)(W:Nat->Value)(E:j<qik t):qo0 (qkd t W) j=W j:=by
 obtain⟨A,H,I⟩:=qlh E;unfold qo0;rw[qoq,q9q t W A];unfold qdj
 grind
theorem qus{r:Row}(h:r∈(qkd t W).Rows):∃i,i<t.Rows.length/\r=⟨(qf2 t i).ID,(v6s t.Attrs.length).map fun a=>W (i*t.Attrs.length+a)⟩:=by
 obtain⟨i,hi,rfl⟩:=v81.1 h
 grind
theorem q56(H:FT t)(W:Nat->Value):FT (qkd t W):=by
 refine⟨by rw[ql4];exact H.few,H.att,fun r hr=>?_,?_⟩
 ·obtain⟨i,hi,rfl⟩:=qus hr;simp[qoq]
 ·unfold qkd;refine ubw.2 (uad.imp_of_mem (fun {a b} ha hb h=>?_) ubv);exact vb6 H (v83.1 hb) h
theorem vrp(H:UT t fds)(J:j<qik t):ql1 (qo0 t j)=true/\(qo0 t j).Str.length<=1073741824:=by
 obtain⟨A,M,O⟩:=qlh J;have E:qo0 t j∈(qf2 t (j/t.Attrs.length)).Values:=v6m (qt0 H.toFT A M);have hr:=ql2 A;have I:=(qpl _ _ _ (qtr H.err).2.2).1 _ hr;exact⟨v8d.1 I.2.1 _ E,H.ok.short _ hr _ E⟩
theorem vcg(H:UT t fds)(J:∀j,j<qik t->(∃i,i<qik t/\W j=qo0 t i)\/∃k:Int,1<=k/\k<=2000/\W j=⟨3,k,[]⟩):TableOk (qkd t W)/\qdi (qkd t W)=0:=by
 have I:∀j,j<qik t->ql1 (W j)=true/\(W j).Str.length<=1073741824:=fun j M=>by
  rcases J j M with⟨i,hi,e⟩|⟨k,O,U,e⟩
  ·rw[e];exact vrp H hi
  ·rw[e];refine⟨?_,by simp⟩;unfold ql1
   grind
 have few:=H.few;have att:=H.att;have A:=qpl _ _ _ (qtr H.err).2.2;refine⟨⟨by rw[qoq];omega,by rw[ql4];omega,fun r hr=>?_,fun r hr v E=>?_⟩,?_⟩
 ·obtain⟨i,hi,rfl⟩:=qus hr
  grind
 ·obtain⟨i,hi,rfl⟩:=qus hr;obtain⟨a,ha,rfl⟩:=v81.1 E;exact(I _ (qh3 hi (v83.1 ha))).2
 ·refine vqy H.err (qkd t W).Rows (by rw[ql4];exact v7a _) (qw4 _ _ _ (fun r hr=>?_) (q56 H.toFT W).asc);obtain⟨i,hi,rfl⟩:=qus hr;refine⟨by simp,?_,(A.1 _ (ql2 hi)).2.2⟩;rw[v8d];intro v E;obtain⟨a,ha,rfl⟩:=v81.1 E;exact(I _ (qh3 hi (v83.1 ha))).1
theorem q9s(a:List (List UInt8))(ha:a.length<=1000000):qf0 a a=some true:=by
 obtain⟨_,H,_⟩:=qa0 (β:=Unit) a.length (fun _ i=>i) (qd3 a a) (fun _=>(Sum.inl ():Unit⊕Bool)) (fun _ _=>True) (b0:=()) (s0:=0) rfl trivial
  (fun k _ E _=>by
   have A:a[k]?=some a[k]:=v52 E;refine⟨(),?_,trivial⟩;simp only[qd3,if_pos (qan A),qad A,v7m,beq_self_eq_true,if_true,wqn k])
  (fun _ _=>by simp[qd3])
 simp only[qf0,bne_self_eq_false,v5k,if_false,H,v7m]
theorem vxl(H:FT t)(W:Nat->Value):qnb t (qkd t W)=some true:=by
 have few:=H.few;have att:=H.att;obtain⟨_,O,_⟩:=qa0 (β:=Unit) t.Rows.length (fun _ i=>i) (qdq t.Rows (qkd t W).Rows fun y z=>qi3 y z) (fun _=>(Sum.inl ():Unit⊕Bool)) (fun _ _=>True) (b0:=()) (s0:=0) rfl trivial
  (fun k _ E _=>by
   have J:=qkx E;have M:=qkx (t:=qkd t W) (i:=k) (by rw[ql4];exact E);rw[q9q t W E]at M;refine⟨(),?_,trivial⟩;simp only[qdq,if_pos (qan J),qad J,qad M,v7m,qi3,beq_self_eq_true,if_true,wqn k])
  (fun _ _=>by simp[qdq])
 have A:((t.Rows.length:Int) != ((qkd t W).Rows.length:Int))=false:=by rw[ql4];simp
 have I:(t.Name==(qkd t W).Name)=true:=by unfold qkd;simp
 simp only[qnb,I,if_true,qoq,q9s t.Attrs (by omega),v7m,qhg,A,v5k,if_false,O]
theorem q9t(H:FT t)(hW:∀j,j<qik t->qf3 t j ∉ C->W j=qo0 t j)(hi:i<t.Rows.length){E:List CellRef}(ho:∀c∈E,c∈C)(hl:E.length<=i*t.Attrs.length) :
  ∃A,qah (qee (qkd t W) (i:Int) (qf2 t i)) (E,0)=some A/\(∀c∈A,c∈C)/\A.length<=i*t.Attrs.length+t.Attrs.length:=by
 have few:=H.few;have att:=H.att;have hnum:=H.num;have M:=H.len _ (ql2 hi);obtain⟨b,e1,O,i2⟩:=qa0 (β:=List CellRef) t.Attrs.length (fun b x=>(b,x)) (qee (qkd t W) (i:Int) (qf2 t i)) id (fun a b=>(∀c∈b,c∈C)/\b.length<=i*t.Attrs.length+a) (b0:=E) (s0:=(E,0)) rfl ⟨ho,hl⟩
  (fun a b ha hI=>by
   obtain⟨O,i2⟩:=hI;have hj:i*t.Attrs.length+a<qik t:=qh3 hi ha;have U:=qt0 H hi ha;have hy:=qkx (t:=qkd t W) (i:=i) (by rw[ql4];exact hi);have Z:=qt0 (q56 H W) (i:=i) (a:=a) (by rw[ql4];exact hi) ha;have e1:qdj (qf2 (qkd t W) i) a=W (i*t.Attrs.length+a):=by rw[<-q9r t W hj];exact(qya (t:=qkd t W) (i:=i) ha).symm
   rw[e1]at Z;have e2:qdj (qf2 t i) a=qo0 t (i*t.Attrs.length+a):=(qya ha).symm;rw[e2]at U;simp only[qee,M,if_pos (show(a:Int)<((t.Attrs.length:Nat):Int) by omega),qad U,qad hy,qad Z,v7m,qit,wqn a,vb7 (show b.length+1<=1073741824 by omega),if_true];by_cases V:qo0 t (i*t.Attrs.length+a)=W (i*t.Attrs.length+a)
   ·rw[if_neg (by rw[(qp6 _ _).2 V];simp)]
    grind
   ·have J:(qzv (qo0 t (i*t.Attrs.length+a)) (W (i*t.Attrs.length+a)) != 0)=true:=by
     rw[bne_iff_ne];exact fun h=>V ((qp6 _ _).1 h)
    rw[if_pos J];refine⟨_,rfl,fun c I=>?_,by simp only[v6b,v8s];omega⟩;rcases v6k.1 I with I|I
    ·exact O c I
    ·rw[v84.1 I,<-quq ha]
     grind)
  (fun b hI=>by simp[qee,M])
 grind
theorem vch(H:FT t)(hW:∀j,j<qik t->qf3 t j ∉ C->W j=qo0 t j):∃A,qip t (qkd t W)=some A/\(∀c∈A,c∈C)/\A.length<=qik t:=by
 have few:=H.few;obtain⟨b,e1,I,J⟩:=qa0 (β:=List CellRef) t.Rows.length (fun b x=>(b,x)) (qf1 t (qkd t W)) id (fun i b=>(∀c∈b,c∈C)/\b.length<=i*t.Attrs.length) (b0:=[]) (s0:=([],0)) rfl ⟨fun c V=>(by cases V),by simp⟩
  (fun i b hi O=>by
   obtain⟨I,J⟩:=O;have M:=qkx hi;obtain⟨E,Z,U,c3⟩:=q9t H hW hi I J;exact⟨E,by simp only[qf1,if_pos (qan M),qad M,v7m,Z,wqn i],U,by rw[ucb];exact c3⟩)
  (fun b O=>by simp[qf1])
 exact⟨b,by simp only[qip,e1,v7m];rfl,I,J⟩
theorem vhr(H:UT t fds){P:List Node}(O:OptR t fds C W A P):qnc t fds ⟨C,qkd t W,A,P⟩=some true:=by
 have few:=H.few;have att:=H.att;have nine:=H.nine;have hCl:=qnl O.asc O.innQ;obtain⟨v1,v2⟩:=vcg H O.val;obtain⟨I,E,Z,d3⟩:=vch H.toFT O.fit.1;obtain⟨_,J,_⟩:=qa0 (β:=Unit) I.length (fun _ i=>i) (qjp ⟨C,qkd t W,A,P⟩ I) (fun _=>(Sum.inl ():Unit⊕Bool)) (fun _ _=>True) (b0:=()) (s0:=0) rfl trivial
  (fun k _ M _=>by
   have hx:I[k]?=some I[k]:=v52 M;obtain⟨q,hq,_⟩:=qry C I[k] O.asc (by omega);rw[decide_eq_true (Z _ (ubj M))]at hq;refine⟨(),?_,trivial⟩;simp only[qjp,if_pos (qan hx),qad hx,v7m,hq,if_true,wqn k])
  (fun _ _=>by simp[qjp])
 have cfew:=O.cok.few;have U:∀K∈A,K.length<=9:=fun K hK=>by have:=qnl (O.cok.asc K hK) (O.cok.innQ K hK);omega
 obtain⟨_,V,_⟩:=qa0 (β:=Unit) A.length (fun _ i=>i) (qjq t fds ⟨C,qkd t W,A,P⟩) (fun _=>(Sum.inl ():Unit⊕Bool)) (fun _ _=>True) (b0:=()) (s0:=0) rfl trivial
  (fun k _ M _=>by
   have hx:A[k]?=some A[k]:=v52 M;have hm:=ubj M;have hkl:=U _ hm;have hc:=q55 H (O.cok.asc _ hm) (O.cok.innQ _ hm) (by omega);obtain⟨b,n1,n2⟩:=qyv H.toFT H.fdsN (O.cok.asc _ hm) (show A[k].length<=1048576 by omega);have hb:b=true:=n2.2 (O.nec _ hm);subst hb;refine⟨(),?_,trivial⟩;simp only[qjq,if_pos (qan hx),qad hx,v7m,hc,bne_self_eq_false,v5k,if_false,n1,if_true,wqn k];by_cases h0:(k:Int)>0
   ·have hy:A[k-1]?=some A[k-1]:=v52 (by omega);have w:v96.wrap ((k:Int)-1)=((k-1:Nat):Int):=by rw[qbg (by omega) (by omega)];omega
    have hm2:A[k-1]∈A:=ubj _;have hkl2:=U _ hm2;obtain⟨z,z1,z2⟩:=qyf A[k-1] A[k] (by omega) (by omega);have hlt:=ubu.1 O.srt (k-1) k (by omega) M (by omega);have hz:=z2.2 hlt;simp only[if_pos h0,w,qad hy,v7m,z1,if_neg (show ¬z>=0 by omega)]
   ·grind)
  (fun _ _=>by simp[qjq])
 obtain⟨p1,_,_,_⟩:=q32 nine O.cok;obtain⟨b,n1,n2⟩:=q11 (q56 H.toFT W) H.fdsN (cells:=[]) (by simp) (by simp);have hb:b=true:=n2.2 ⟨W,fun j hj _=>by rw[vnj]at hj;rw[q9r t W hj],by rw[qoq,ql4];exact O.fit.2⟩;subst hb;have hcC:=q55 H O.asc O.innQ (by omega);simp only[qnc,hcC,v7m,bne_self_eq_false,v5k,if_false,qfr _ v1,v2,vxl H.toFT W,if_true,E,J,V,p1,n1,O.prf]
def vhs(k:Nat)(f:FD):Constraint:=Constraint.mk (q5t k) [114] 1 f (FD.mk 0 0) (IND.mk [] [] [] []) (CFD.mk [] 0 []) (OD.mk [] []) (Denial.mk 0 [])
def vzz(l:List FD)(k:Nat):List Row->Prop:=vq1 (fdL (l.getD k ⟨0,0⟩).Lhs.toNat (l.getD k ⟨0,0⟩).Rhs.toNat)
theorem ves(hn:n<=5)(l:List FD)(hl:l.length<=3)(h:∀f∈l,∃s r:Nat,f=⟨(s:Int),(r:Int)⟩/\s<2^n/\r<2^n) :
  ∃R,qei l=some R/\R.length=l.length/\RL n R (vzz l):=by
 obtain⟨R,e,J,r2⟩:=qa0 (β:=List Constraint) l.length (fun b i=>(b,i)) (qhv l) id (fun k b=>b.length=k/\∀j,j<k->b[j]?=some (vhs j (l.getD j ⟨0,0⟩))) (b0:=[]) (s0:=([],0)) rfl ⟨rfl,fun j M=>absurd M (ub9 _)⟩
  (fun k b E W=>by
   obtain⟨U,i2⟩:=W;have I:l[k]?=some l[k]:=v52 E;have hg:l.getD k ⟨0,0⟩=l[k]:=by rw[v8i,I];rfl
   have Z:IntKind.i32.wrap (v96.wrap (97+(k:Int)))=97+(k:Int):=by
    rw[qbg (by omega) (by omega)];have:k=0\/k=1\/k=2:=by omega
    rcases this with rfl|rfl|rfl<;>decide
   have A:[UInt8.ofNat (97+(k:Int)).toNat]=q5t k:=by
    unfold q5t
    grind
   refine⟨b++[vhs k l[k]],?_,by simp[U],fun j M=>?_⟩
   ·simp only[qhv,if_pos (qan I),qad I,v7m,Z,if_pos (show(0:Int)<=97+(k:Int) by omega),if_pos (show 97+(k:Int)<128 by omega),RLE (b.length+1) 272,if_true,A,wqn k];rfl
   ·grind)
  (fun b _=>by simp[qhv])
 refine⟨R,?_,J,by omega,fun k c H=>?_⟩
 ·unfold qei;rw[e];rfl
 ·have E:=qdc H;rw[J]at E;rw[r2 k E]at H;obtain rfl:=v9i H;have V:l.getD k ⟨0,0⟩∈l:=v6m (qen _ E);obtain⟨s,r,e,O,hr⟩:=h _ V;refine⟨rfl,?_⟩;unfold vzz vhs;rw[e];exact v4s hn _ O hr
def vif(t:Table)(fds:List FD)(i k:Nat):Prop:=∃f∈fds.map qk3,(∀a,a<t.Attrs.length->f.1 a=true->qo0 t (i*t.Attrs.length+a)=qo0 t (k*t.Attrs.length+a))/\∃a,a<t.Attrs.length/\f.2 a=true/\qo0 t (i*t.Attrs.length+a)≠qo0 t (k*t.Attrs.length+a)
theorem q9u(h:vif t fds i k):vif t fds k i:=by
 obtain⟨f,E,h1,a,ha,A,I⟩:=h;exact⟨f,E,fun a ha H=>(h1 a ha H).symm,a,ha,A,fun e=>I e.symm⟩
theorem q9v(i k s:Nat):qw0 t.Attrs.length (qf2 t i) (qf2 t k) s↔∀a,a<t.Attrs.length->s.testBit a=true->qo0 t (i*t.Attrs.length+a)=qo0 t (k*t.Attrs.length+a):=by
 unfold qw0;refine forall_congr' fun a=>forall_congr' fun ha=>forall_congr' fun _=>?_
 rw[qya ha,qya ha,qp6]
theorem vs6(H:UT t fds)(V:R.length=fds.length)(i k:Nat):PP R (vzz fds) [qf2 t i,qf2 t k]↔vif t fds i k:=by
 have att:=H.att;have one:∀f∈fds,vq1 (fdL f.Lhs.toNat f.Rhs.toNat) [qf2 t i,qf2 t k]↔(∀a,a<t.Attrs.length->(qk3 f).1 a=true->qo0 t (i*t.Attrs.length+a)=qo0 t (k*t.Attrs.length+a))/\∃a,a<t.Attrs.length/\(qk3 f).2 a=true/\qo0 t (i*t.Attrs.length+a)≠qo0 t (k*t.Attrs.length+a):=fun f I=>by
  obtain⟨s,r,rfl,M,hr⟩:=H.fdn f I;have A:=vl1 (n:=t.Attrs.length) (by omega) M hr (qf2 t i) (qf2 t k);have h1:vq1 (fdL s r) [qf2 t i,qf2 t k]↔∃d∈fdL s r,d.Atoms.all (q5n [qf2 t i,qf2 t k])=true:=by
   unfold vq1;refine exists_congr fun d=>and_congr_right fun U=>?_
   obtain⟨x,_,rfl⟩:=v81.1 U;exact⟨fun h=>h.2,fun h=>⟨rfl,h⟩⟩
  simp only[v93];rw[h1,A];unfold fdP;rw[Bool.and_eq_true,v5m,<-qw8 (by omega) M,<-Bool.not_eq_true,<-qw8 (by omega) hr,q9v,q9v];refine and_congr Iff.rfl ?_;simp only[qk3,v93]
  grind
 unfold PP vif;constructor
 ·rintro⟨j,J,h⟩;rw[V]at J;have O:fds.getD j ⟨0,0⟩∈fds:=v6m (qen _ J);exact⟨_,v81.2 ⟨_,O,rfl⟩,(one _ O).1 h⟩
 ·rintro⟨f,I,h⟩;obtain⟨f,E,rfl⟩:=v81.1 I;obtain⟨j,J,e⟩:=ubp.1 E;refine⟨j,by omega,?_⟩;unfold vzz
  grind
theorem vnk{x:Row}(h:x∈t.Rows):∃i,i<t.Rows.length/\x=qf2 t i:=by
 obtain⟨i,hi,rfl⟩:=ubp.1 h;refine⟨i,hi,?_⟩;unfold qf2
 grind
theorem vet(H:UT t fds)(W:R.length=fds.length){rows:List Row}(O:∀x∈rows,x∈t.Rows) :
  (∀a,Tog rows a->¬PP R (vzz fds) a)↔∀i k,i<t.Rows.length->k<i->qf2 t i∈rows->qf2 t k∈rows->¬vif t fds i k:=by
 constructor
 ·intro h i k hi J m1 m2 I;have:=vb6 H.toFT hi J;exact h _ (tog2 m1 m2 (by omega)) ((vs6 H W i k).2 I)
 ·intro h a ha hp;obtain⟨j,hj,d,M,h1,h2⟩:=hp;obtain⟨x,_,rfl⟩:=v81.1 M;obtain⟨U,p2,p3,p4⟩:=ha;have A:a.length=2:=h1;obtain⟨y,z,rfl⟩:∃y z,a=[y,z]:=by
   match a,A with
   |[y,z],_=>exact⟨y,z,rfl⟩
  have Z:=U y (by simp);have V:=U z (by simp);obtain⟨i,hi,rfl⟩:=vnk (O _ Z);obtain⟨k,J,rfl⟩:=vnk (O _ V);have E:i≠k:=fun e=>by
   grind
  have I:=(vs6 H W i k).1 ⟨j,hj,_,M,h1,h2⟩;rcases ucl E with g|g
  ·exact h k i J g V Z (q9u I)
  ·grind
theorem vxm:v4p t.Attrs.length t.Rows.length (fds.map qk3) (qo0 t)↔∀i k,i<t.Rows.length->k<i->¬vif t fds i k:=by
 constructor
 ·rintro h i k hi A ⟨f,H,h1,a,ha,I,O⟩;exact O (h f H i k hi A h1 a ha I)
 ·intro h f H i k hi A J a ha M;exact Classical.byContradiction fun E=>h i k hi A ⟨f,H,J,a,ha,M,E⟩
theorem vht(E:V.Pairwise (· < ·))(hl:V.length<=1000)(H:x∈V):qaz V x=some (((qv7 V x:Nat):Int),true):=by
 obtain⟨k,M,O,U,I⟩:=vg0 V x E hl;have J:=(qrw H).2;have:k=qv7 V x:=by
  rcases v9a k (qv7 V x) with h|h|h
  ·have A:k<V.length:=by have:=vb1 H;omega
   have a:=I k V[k] (v7a _) (v52 A);have b:=q1x E h (v52 A) J;omega
  ·exact h
  ·grind
 grind
def esV(V:List Int)(E:List (List Int)):List (List Nat):=E.map fun e=>e.map (qv7 V)
theorem vxn(E:V.Pairwise (· < ·)){y:Int}(H:x∈V)(I:y∈V)(h:x<y):qv7 V x<qv7 V y:=by
 have h1:=(qrw H).2;have A:=(qrw I).2;rcases v9a (qv7 V x) (qv7 V y) with g|g|g
 ·exact g
 ·grind
 ·have:=q1x E g A h1;omega
theorem q9w(O:V.length<=4)(H:HV V E):E.length<=16:=by
 have J:(E.map fun e=>cdN V.length fun k=>decide (V.getD k 0∈e)).Nodup:=by
  refine ubw.2 (uad.imp_of_mem (fun {A B} hA hB hlt e=>?_) H.srtdE);have U:=vce _ e;have:A=B:=by
   refine vl3 (fun a b:Int=>decide (a<b)) (fun x=>by simp) (fun x y h=>by simp only[decide_eq_true_eq,decide_eq_false_iff_not]at *;omega) ((H.easc A hA).imp fun h=>decide_eq_true h) ((H.easc B hB).imp fun h=>decide_eq_true h) fun x=>?_
   have key:∀x,x∈V->(x∈A↔x∈B):=fun x I=>by
    have h1:=vb1 I;have M:=(qrw I).2
    grind
   exact⟨fun h=>(key x (H.esub A hA x h)).1 h,fun h=>(key x (H.esub B hB x h)).2 h⟩
  rw[this,qru]at hlt;cases hlt
 have:=qke (r:=v6s 16) J fun x I=>by
  obtain⟨e,_,rfl⟩:=v81.1 I;have h1:=q9o (fun k=>decide (V.getD k 0∈e)) V.length;have M:2^V.length<=2^4:=uar (by omega) O
  grind
 simpa using this
theorem v4z(J:V.length<=4)(H:HV V E):HI V.length (esV V E):=by
 have:=q9w J H;refine⟨by omega,by simp only[esV,v6d];omega,fun e A=>?_,fun e A=>?_,fun e A v M=>?_⟩
 ·obtain⟨a,ha,rfl⟩:=v81.1 A;intro h;exact H.ene a ha (ucg.1 h)
 ·obtain⟨a,ha,rfl⟩:=v81.1 A;exact ubw.2 (uad.imp_of_mem (fun {x y} I hy h=>vxn H.asc (H.esub a ha x I) (H.esub a ha y hy) h) (H.easc a ha))
 ·obtain⟨a,ha,rfl⟩:=v81.1 A;obtain⟨x,I,rfl⟩:=v81.1 M;exact vb1 (H.esub a ha x I)
theorem vxo(H:HV V E){e:List Int}(U:e∈E)(hl:e.length<=1000)(z:Int):qah (qfo (⟨V,E⟩,z) e) ([],0)=some (qa6 (e.map (qv7 V))):=by
 have hVl:=H.len;obtain⟨b,Z,J⟩:=qa0 (β:=List Int) e.length (fun b i=>(b,i)) (qfo (⟨V,E⟩,z) e) id (fun k b=>b=qa6 ((e.take k).map (qv7 V))) (b0:=[]) (s0:=([],0)) rfl (by simp[qa6])
  (fun k b I O=>by
   subst O;have A:e[k]?=some e[k]:=v52 I;have W:=vht H.asc (by omega) (H.esub e U _ (ubj I));have M:(qa6 ((e.take k).map (qv7 V))).length<=k:=by rw[qb7,v6d,v6g];omega
   have e2:qa6 ((e.take (k+1)).map (qv7 V))=qa6 ((e.take k).map (qv7 V))++[((qv7 V e[k]:Nat):Int)]:=by
    rw[qbv A,v6h];unfold qa6;rw[v6h,uch,uch]
   refine⟨_,?_,rfl⟩;rw[e2];simp only[qfo,if_pos (qan A),qad A,v7m,W,qmt (show(qa6 ((e.take k).map (qv7 V))).length+1<=17592186044416 by omega),if_true,wqn k])
  (fun b O=>by simp[qfo])
 rw[ub3]at J;rw[Z,J];rfl
theorem vxp(H:HV V E)(hl:E.length<=1000)(W:∀e∈E,e.length<=3)(z:Int):qah (qfp (⟨V,E⟩,z)) ([],0)=some ((esV V E).map qa6):=by
 obtain⟨b,e1,J⟩:=qa0 (β:=List (List Int)) E.length (fun b i=>(b,i)) (qfp (⟨V,E⟩,z)) id (fun k b=>b=((E.take k).map fun e=>e.map (qv7 V)).map qa6) (b0:=[]) (s0:=([],0)) rfl (by simp)
  (fun k b I U=>by
   subst U;have A:E[k]?=some E[k]:=v52 I;have M:=ubj I;have O:(((E.take k).map fun e=>e.map (qv7 V)).map qa6).length<=k:=by simp only[v6d,v6g];omega
   have Z:((E.take (k+1)).map fun e=>e.map (qv7 V)).map qa6=((E.take k).map fun e=>e.map (qv7 V)).map qa6++[qa6 (E[k].map (qv7 V))]:=by
    rw[qbv A,v6h,v6h];rfl
   refine⟨_,?_,rfl⟩;rw[Z];simp only[qfp,if_pos (qan A),qad A,v7m,vxo H M (by have:=W _ M;omega),RLE ((((E.take k).map fun e=>e.map (qv7 V)).map qa6).length+1) 24,if_true,wqn k])
  (fun b U=>by simp[qfp])
 rw[ub3]at J;rw[e1,J];rfl
theorem vxq(t:Table)(hl:t.Rows.length<=1000):qah (qfn t) ([],0)=some (v6u t.Rows.length 1):=by
 obtain⟨b,E,H⟩:=qa0 (β:=List Int) t.Rows.length (fun b i=>(b,i)) (qfn t) id (fun k b=>b=v6u k 1) (b0:=[]) (s0:=([],0)) rfl rfl
  (fun k b I A=>by
   subst A;refine⟨_,?_,rfl⟩;simp only[qfn,if_pos (show(k:Int)<(t.Rows.length:Int) by omega),ucf,qmt (show k+1<=17592186044416 by omega),if_true,wqn k];rw[ucj])
  (fun b A=>by simp[qfn])
 rw[E,H];rfl
theorem v40(hl:∀v∈S,v<t.Rows.length)(U:S.length<=1000000)(w e:Int):qah (qfq t (qa6 S,w,e)) ([],0)=some (S.map fun v=>(qf2 t v).ID):=by
 obtain⟨b,V,O⟩:=qa0 (β:=List Int) S.length (fun b i=>(b,i)) (qfq t (qa6 S,w,e)) id (fun k b=>b=(S.take k).map fun v=>(qf2 t v).ID) (b0:=[]) (s0:=([],0)) rfl (by simp)
  (fun k b A I=>by
   subst I;have E:=qp7 A;have J:=qkx (hl _ (ubj A));have H:((S.take k).map fun v=>(qf2 t v).ID).length<=k:=by simp only[v6d,v6g];omega
   have M:((S.take (k+1)).map fun v=>(qf2 t v).ID)=((S.take k).map fun v=>(qf2 t v).ID)++[(qf2 t S[k]).ID]:=by
    rw[qbv (v52 A),v6h];rfl
   refine⟨_,?_,rfl⟩;rw[M];simp only[qfq,if_pos (qan E),qad E,qad J,v7m,qmt (show((S.take k).map fun v=>(qf2 t v).ID).length+1<=17592186044416 by omega),if_true,wqn k])
  (fun b I=>by simp[qfq,qb7])
 grind
theorem q9x(h4:t.Rows.length<=4)(Z:qg7 t R=some (⟨t.Rows.map Row.ID,E⟩,0))(H:HV (t.Rows.map Row.ID) E)(U:∀e∈E,e.length<=3) :
  ∃S P,qi2 t R [] 1000000=some (⟨S.map fun v=>(qf2 t v).ID,((S.length:Nat):Int),P⟩,0)/\vm7 t.Rows.length (esV (t.Rows.map Row.ID) E) S:=by
 have M:(t.Rows.map Row.ID).length=t.Rows.length:=by rw[v6d]
 have I:=v4z (by omega) H;rw[M]at I;have hE:=q9w (by omega) H;obtain⟨S,O,J⟩:=q30 I;obtain⟨P,V,p2⟩:=q17 I J;have W:=J.1.len;have A:(Instance.mk (v6u t.Rows.length 1) ((esV (t.Rows.map Row.ID) E).map qa6))=ql9 t.Rows.length (esV (t.Rows.map Row.ID) E):=rfl;have hp:qkr t R []=some (ql9 t.Rows.length (esV (t.Rows.map Row.ID) E),0):=by
  simp only[qkr,Z,v7m,bne_self_eq_false,v5k,if_false,v6e,if_neg (show ¬((0:Nat):Int)>0 by decide),qmt (show 0<=17592186044416 by omega),if_true];simp only[v91,beq_self_eq_true,if_true,vxq t (by omega),vxp H (by omega) U,v7m,A,qxc I,bne_self_eq_false,v5k,if_false]
 refine⟨S,P,?_,J⟩;simp only[qi2,hp,v7m,bne_self_eq_false,v5k,if_false,if_neg (show ¬(1000000:Int)<1 by decide),O,V,v40 J.1.lt (show S.length<=1000000 by omega)]
theorem vnl(hn:n<=16)(l:List Drossref09_Dep)(h:∀d∈l,qis d)(hl:l.length<=1000000):qjh (n:Int) l=some (l.map fun d=>(⟨((d.L.toNat%2^n:Nat):Int),((d.R.toNat%2^n:Nat):Int)⟩:FD)):=by
 have h:=qe8 l (fun(b:List FD) (i:Int)=>(b,i)) (qgt l ((2^n-1:Nat):Int)) (fun b d=>b++[(⟨((d.L.toNat%2^n:Nat):Int),((d.R.toNat%2^n:Nat):Int)⟩:FD)]) id (fun k b=>b.length=k) (b0:=[]) (s0:=([],0)) rfl rfl
  (fun k b d A J H=>by
   have E:=h d (v6m A);refine⟨?_,by simp[H]⟩;simp only[qgt,if_pos (qan A),qad A,v7m,vlp hn (vdz E.1),vlp hn (vdz E.2),qmt (show b.length+1<=17592186044416 by omega),if_true,wqn k])
  (fun b _=>by simp[qgt])
 have I:∀(l:List Drossref09_Dep) (b:List FD),l.foldl (fun b d=>b++[(⟨((d.L.toNat%2^n:Nat):Int),((d.R.toNat%2^n:Nat):Int)⟩:FD)]) b=b++l.map fun d=>(⟨((d.L.toNat%2^n:Nat):Int),((d.R.toNat%2^n:Nat):Int)⟩:FD):=by
  intro l
  induction l with
  |nil=>intro b;simp
  |cons x l ih=>intro b;rw[List.foldl_cons,ih,List.map_cons,List.append_assoc];rfl
 unfold qjh;rw[vwj hn,v7m,h,I];rfl
def LoopX{A:Type}(B:σ->Option (LS σ A))(s:σ):Option A:=qah B s
def v42{A:Type}(B:σ->Option (LS σ A))(s:σ):Option A:=match qtd B 64 s with|some t=>some t|none=>LoopX B s
theorem veu{A:Type}:@qah σ A=v42:=by
 funext B s;unfold v42;cases h:qtd B 64 s with
 |some t=>exact q4p h
 |none=>rfl
theorem vxr:qhy ⟨[1,2,3],[[1,2]]⟩=some (2,0):=by
 delta qhy qlw qm2 qg2 qmn qhw qki qaz qae qmp qmo qly qih qi6 qi5 qdg qch qi7 qi8 qlx qm3 qmr qmq qjc qhx qms qcq qff
 simp only[veu];decide +kernel
theorem vxs(c:Int):(ofV c).Kind=3->(ofV c).Num<=1000:=by
 have h:=(q3r c).1;generalize ofV c=v at h;unfold qc5 at h
 repeat' split at h
 all_goals(obtain rfl:=v9i h;decide)
theorem vnm(T:Drossref03_Recipe)(J:n<4)(M:T.Rows.length<=4)(V:T.Rows.length*n<=9)(O:fds.length<=3)(U:∀f∈fds,∃s q:Nat,f=⟨(s:Int),(q:Int)⟩/\s<2^n/\q<2^n) :
  UT (q3s T n) fds/\TT (q3s T n).Attrs.length (q3s T n)/\(q3s T n).Attrs.length=n/\(q3s T n).Rows.length=T.Rows.length:=by
 have A:(q3s T n).Attrs.length=n:=by simp only[q3s,v6g];rw[show qpm.length=8 from rfl];omega
 have H:(q3s T n).Rows.length=T.Rows.length:=by simp[q3s]
 have G:Good (q3s T n):=⟨vgm _ _ (by omega) (by omega),vgl _ _ (by omega) (by omega),by omega,by omega⟩;have E:=vwp T n (by omega) (by omega);have D:DT (q3s T n):=dt_of E G (by omega);refine⟨⟨⟨by omega,by omega,fun r hr=>(D.code.1 r hr).1,D.code.2⟩,D.ok,D.err,by unfold qik;rw[A,H];omega,fun r hr v I=>?_,O,by rw[A];exact U⟩,⟨D,G,G.gt E,rfl,rfl⟩,A,H⟩;obtain⟨i,_,rfl⟩:=v81.1 hr;obtain⟨k,_,rfl⟩:=v81.1 I;exact vxs _
theorem q9y{v:Nat}(h:v<t.Rows.length):(t.Rows.map Row.ID)[v]?=some (qf2 t v).ID:=by
 rw[v8n,qkx h];rfl
theorem vxt(A:HV (t.Rows.map Row.ID) E)(hi:i<t.Rows.length):qv7 (t.Rows.map Row.ID) (qf2 t i).ID=i:=(vqz A.asc (v6m (q9y hi)) i).2 (q9y hi)
theorem vnn(A:x∈t.Rows.map Row.ID):∃i,i<t.Rows.length/\x=(qf2 t i).ID:=by
 obtain⟨r,hr,rfl⟩:=v81.1 A;obtain⟨i,hi,rfl⟩:=vnk hr;exact⟨i,hi,rfl⟩
theorem vno(A:HV (t.Rows.map Row.ID) E)(hi:i<t.Rows.length)(I:k<t.Rows.length)(H:(qf2 t i).ID=(qf2 t k).ID):i=k:=by
 rw[<-vxt A hi,<-vxt A I,H]
theorem vs7{l:List FD}(H:UT t l)(r2:R.length=l.length)(hH:HV (t.Rows.map Row.ID) E)
  (hind:∀q,(∀x∈q,x∈t.Rows.map Row.ID)->(v4n (t.Rows.map Row.ID) E q=true↔∀a,Tog (vg8 t q).Rows a->¬PP R (vzz l) a)) (p:Nat->Bool) :
  (∀i k,i<t.Rows.length->k<i->p i=true->p k=true->¬vif t l i k)↔∀e∈E,∃x∈e,∃i,i<t.Rows.length/\x=(qf2 t i).ID/\p i=false:=by
 have O:=fun i k (hi:i<t.Rows.length) (M:k<t.Rows.length)=>vno hH hi M
 have V:=fun x (I:x∈t.Rows.map Row.ID)=>vnn I
 have U:∀x∈((v6s t.Rows.length).filter p).map fun i=>(qf2 t i).ID,x∈t.Rows.map Row.ID:=fun x I=>by
  obtain⟨i,hi,rfl⟩:=v81.1 I;exact v81.2 ⟨_,ql2 (v83.1 (v80.1 hi).1),rfl⟩
 have A:∀i,i<t.Rows.length->((qf2 t i).ID∈((v6s t.Rows.length).filter p).map (fun i=>(qf2 t i).ID)↔p i=true):=fun i hi=>by
  rw[v81];constructor
  ·rintro⟨k,M,W⟩;obtain⟨k1,k2⟩:=v80.1 M;rw[<-O k i (v83.1 k1) hi W];exact k2
  ·intro Z;exact⟨i,v80.2 ⟨v83.2 hi,Z⟩,rfl⟩
 have h1:=hind _ U;rw[vet H r2 (fun x I=>(qnk.1 I).1)]at h1;have h2:(∀i k,i<t.Rows.length->k<i->p i=true->p k=true->¬vif t l i k)↔∀i k,i<t.Rows.length->k<i->qf2 t i∈(vg8 t (((v6s t.Rows.length).filter p).map fun i=>(qf2 t i).ID)).Rows->qf2 t k∈(vg8 t (((v6s t.Rows.length).filter p).map fun i=>(qf2 t i).ID)).Rows->¬vif t l i k:=by
  constructor
  ·intro h i k hi M m1 m2;exact h i k hi M ((A i hi).1 (qnk.1 m1).2) ((A k (ub8 M hi)).1 (qnk.1 m2).2)
  ·intro h i k hi M m1 m2;exact h i k hi M (qnk.2 ⟨ql2 hi,(A i hi).2 m1⟩) (qnk.2 ⟨ql2 (ub8 M hi),(A k (ub8 M hi)).2 m2⟩)
 rw[h2,<-h1];unfold v4n;have J:((((v6s t.Rows.length).filter p).map fun i=>(qf2 t i).ID).all fun x=>decide (x∈t.Rows.map Row.ID))=true:=by
  rw[v8d];intro x I;exact decide_eq_true (U x I)
 rw[J,Bool.true_and,v5m,List.any_eq_false];constructor
 ·intro h e W;have:=h e W;rw[v8d]at this;refine Classical.byContradiction fun hn=>this fun x I=>?_
  obtain⟨i,hi,rfl⟩:=V x (hH.esub e W x I);refine decide_eq_true ((A i hi).2 ?_);cases Z:p i with
  |true=>rfl
  |false=>exact absurd ⟨_,I,i,hi,rfl,Z⟩ hn
 ·intro h e W J;obtain⟨x,I,i,hi,rfl,Z⟩:=h e W;have:=of_decide_eq_true (v8d.1 J _ I);rw[A i hi,Z]at this;cases this
def qz2:Table:=q3s ⟨2,0,[[0,1],[0,2],[1,1]]⟩ 2
theorem q33 : qgi = some true := by
  have hx : qz2 = ⟨[114], [[97], [98]], [⟨1, [ofV 0, ofV 1]⟩, ⟨2, [ofV 0, ofV 2]⟩, ⟨3, [ofV 1, ofV 1]⟩]⟩ := rfl
  have hrows : qah (qed [[0, 1], [0, 2], [1, 1]]) ([], 0) = some [⟨1, [ofV 0, ofV 1]⟩, ⟨2, [ofV 0, ofV 2]⟩, ⟨3, [ofV 1, ofV 1]⟩] := by
    rw [qas (s' := ([⟨1, [ofV 0, ofV 1]⟩], 1)) (by simp only [qed]; rw [show idx ([[0, 1], [0, 2], [1, 1]] : List (List Int)) 0 = some [0, 1] from rfl, v7m, q1p _ (by decide)]; rfl),
      qas (s' := ([⟨1, [ofV 0, ofV 1]⟩, ⟨2, [ofV 0, ofV 2]⟩], 2)) (by simp only [qed]; rw [show idx ([[0, 1], [0, 2], [1, 1]] : List (List Int)) 1 = some [0, 2] from rfl, v7m, q1p _ (by decide)]; rfl),
      qas (s' := ([⟨1, [ofV 0, ofV 1]⟩, ⟨2, [ofV 0, ofV 2]⟩, ⟨3, [ofV 1, ofV 1]⟩], 3)) (by simp only [qed]; rw [show idx ([[0, 1], [0, 2], [1, 1]] : List (List Int)) 2 = some [1, 1] from rfl, v7m, q1p _ (by decide)]; rfl)]
    exact qap rfl
  obtain⟨H, T, hn, hR⟩ := vnm ⟨2, 0, [[0, 1], [0, 2], [1, 1]]⟩ (n := 2) (by decide) (by decide) (by decide) (fds := [⟨1, 2⟩]) (by decide) (fun f hf => by rw [v84.1 hf]; exact⟨1, 2, rfl, by decide, by decide⟩)
  change UT qz2 _ at H
  change TT qz2.Attrs.length qz2 at T
  change qz2.Attrs.length = 2 at hn
  change qz2.Rows.length = 3 at hR
  obtain⟨C, W, cores, P, o1, O⟩ := qyy H
  obtain⟨R, r1, r2, r3⟩ := ves (n := qz2.Attrs.length) (by omega) [⟨1, 2⟩] H.fds3 H.fdn
  obtain⟨E, b1, hH, hE3, hind⟩ := vee T r3
  obtain⟨S, Q, s1, s2, s3⟩ := q9x (by omega) b1 hH hE3
  have hfree := vs7 H r2 hH hind
  have v : ∀ i a, a < 2 → qo0 qz2 (i * qz2.Attrs.length + a) = qdj (qf2 qz2 i) a := fun i a ha => qya (by omega)
  have d01 : ofV 1 ≠ ofV 0 := by decide +kernel
  have d12 : ofV 2 ≠ ofV 1 := by decide +kernel
  have hf1 : ∀ f ∈ [(⟨1, 2⟩ : FD)].map qk3, f = qk3 ⟨1, 2⟩ := fun f hf => by simpa using hf
  have bad : vif qz2 [⟨1, 2⟩] 1 0 := ⟨qk3 ⟨1, 2⟩, v84.2 rfl, fun a ha hb => by
    match a, ha, hb with
    | 0, _, _ => rfl
    | 1, _, hb => cases hb
    | a + 2, ha, _ => omega, 1, by omega, rfl, by rw [v 1 1 (by decide), v 0 1 (by decide)]; exact d12⟩
  have nb : ∀ k, k < 2 → ¬ vif qz2 [⟨1, 2⟩] 2 k := by
    rintro k hk ⟨f, hf, h1, -⟩
    rw [hf1 f hf] at h1
    have := h1 0 (by omega) rfl
    rw [v 2 0 (by decide), v k 0 (by decide)] at this
    match k, hk with
    | 0, _ => exact d01 this
    | 1, _ => exact d01 this
  have hin : ∀ (q : Nat), q < 2 → ∀ e ∈ E, ((q : Int) + 1) ∈ e := fun q hq e he => by
    obtain⟨x, hx, i, hi, rfl, hp⟩ := (hfree fun i => decide (i ≠ q)).1 (fun i k hi hk m1 m2 => by
      have m1 := of_decide_eq_true m1
      have m2 := of_decide_eq_true m2
      have : i = 2 := by omega
      subst this
      exact nb k hk) e he
    have : i = q := by simpa using hp
    subst this
    match i, hq with
    | 0, _ => exact hx
    | 1, _ => exact hx
  obtain⟨e0, he0, h12⟩ : ∃ e ∈ E, ∀ x ∈ e, x = 1 ∨ x = 2 := by
    refine Classical.byContradiction fun hno => (hfree fun i => decide (i ≠ 2)).2 (fun e he => ?_) 1 0 (by omega) (by decide) rfl rfl bad
    refine Classical.byContradiction fun hn => hno ⟨e, he, fun x hx => ?_⟩
    obtain⟨i, hi, rfl⟩ := vnn (hH.esub e he x hx)
    rw [hR] at hi
    match i, hi with
    | 0, _ => exact Or.inl rfl
    | 1, _ => exact Or.inr rfl
    | 2, _ => exact absurd ⟨_, hx, 2, by omega, rfl, rfl⟩ hn
  have heq : e0 = [1, 2] := by
    have a1 := hin 0 (by decide) e0 he0
    have a2 := hin 1 (by decide) e0 he0
    have a3 := hH.easc e0 he0
    match e0, a1, a2, a3, h12 with
    | [], a1, _, _, _ => cases a1
    | [x], a1, a2, _, _ => simp at a1 a2; omega
    | [x, y], a1, a2, a3, h => simp at a1 a2 a3; have : x = 1 := by omega
                               have : y = 2 := by omega
                               simp [*]
    | x :: y :: z :: r, _, _, a3, h =>
      have b1 := h x (by simp); have b2 := h y (by simp); have b3 := h z (by simp)
      simp at a3; omega
  have hE : E = [[1, 2]] := by
    have key : ∀ i k, i < E.length → k < E.length → E[k]? = some e0 → i = k := fun i k hi hk h => Classical.byContradiction fun hne => by
      obtain⟨x, hx, hx2⟩ := hH.anti i k _ _ (v52 hi) h hne
      rcases h12 x hx with rfl | rfl
      · exact hx2 (hin 0 (by decide) _ (ubj hi))
      · exact hx2 (hin 1 (by decide) _ (ubj hi))
    obtain⟨k, hk, hk2⟩ := ubp.1 he0
    have hk3 : E[k]? = some e0 := by rw [v52 hk, hk2]
    match E, hk, hk3, key with
    | [e], hk, hk3, _ =>
      have : k = 0 := by simpa using hk
      subst this
      rw [← heq]; simpa using hk3
    | e :: e' :: r, hk, hk3, key =>
      have k0 := key 0 k (by simp) hk hk3
      have k1 := key 1 k (by simp) hk hk3
      omega
  have hS : S.length = 1 := by
    subst hE
    have hes : esV (qz2.Rows.map Row.ID) [[1, 2]] = [[0, 1]] := by decide +kernel
    have h1 := s3 (fun v => decide (v = 0)) (fun e he => by
      rw [hes] at he
      rw [v84.1 he]; exact⟨0, by simp, rfl⟩)
    have h2 : vrd qz2.Rows.length (fun v => decide (v = 0)) = 1 := by rw [hR]; rfl
    obtain⟨u, _, hu⟩ := s2.hit [0, 1] (by rw [hes]; simp)
    have := List.length_pos_of_mem hu
    omega
  have hC : C.length = 1 := by
    have h1 := O.least [qf3 qz2 1] ⟨fun j => if j = 1 then qo0 qz2 3 else qo0 qz2 j, fun j hj hc => by
      have : j ≠ 1 := fun e => hc (by rw [e]; simp)
      simp [this], fun f hf i k hi hk hL a ha hb => by
      rw [hf1 f hf] at hL hb
      have a1 : a = 1 := by
        match a, ha, hb with
        | 0, _, hb => cases hb
        | 1, _, _ => rfl
        | a + 2, ha, _ => omega
      subst a1
      have h0 := hL 0 (by omega) rfl
      rw [hR] at hi
      rw [hn] at h0 ⊢
      match i, k, hi, hk with
      | 1, 0, _, _ => rfl
      | 2, 0, _, _ => exact absurd h0 d01
      | 2, 1, _, _ => exact absurd h0 d01⟩
    have h2 : C ≠ [] := fun e => by
      subst e
      have hW : ∀ j, j < qik qz2 → W j = qo0 qz2 j := fun j hj => O.fit.1 j hj (by simp)
      obtain⟨f, hf, g1, a, ha, g2, g3⟩ := bad
      have w1 : ∀ i a, i < 3 → a < qz2.Attrs.length → W (i * qz2.Attrs.length + a) = qo0 qz2 (i * qz2.Attrs.length + a) := fun i a hi ha => hW _ (qh3 (by omega) ha)
      have := O.fit.2 f hf 1 0 (by omega) (by decide) (fun a ha hb => by rw [w1 1 a (by decide) ha, w1 0 a (by decide) ha]; exact g1 a ha hb) a ha g2
      rw [w1 1 a (by decide) ha, w1 0 a (by decide) ha] at this
      exact g3 this
    have := List.length_pos_iff.2 h2
    simp only [v8s] at h1
    omega
  have hRe : R = [vhs 0 ⟨1, 2⟩] := by
    have e : qei [⟨1, 2⟩] = some [vhs 0 ⟨1, 2⟩] := by
      delta qei
      simp only [veu]
      rfl
    rw [e] at r1; exact (v9i r1).symm
  subst hE
  have hcnt : qhy ⟨qz2.Rows.map Row.ID, [[1, 2]]⟩ = some (2, 0) := vxr
  unfold qgi
  rw [v7m, hrows, v7m, ← hx, r1, v7m, s1, v7m, b1, hRe]
  simp only [List.getElem?_cons_zero, v7m, vhs, o1, hcnt, hS, hC, beq_self_eq_true, if_true]
  rfl
theorem tmod4{a:Int}(h:0<=a/\a<=255):v96.wrap (Int.tmod a 4)=((a.toNat%4:Nat):Int):=by
 have e:Int.tmod a 4=((a.toNat%4:Nat):Int):=by
  grind
 rw[e,qbg (by omega) (by omega)]
theorem of45(c:Drossref45_Case)(h:qkb c):(∃t l,qj3 c=some (t,l,false))\/∃t l,qj3 c=some (t,l,true)/\UT t l/\TT t.Attrs.length t/\t.Rows.length<=4/\t.Attrs.length<=5:=by
 obtain⟨⟨h1,M,h3⟩,W⟩:=h;have I:=vdz h1;have O:=vdz M;have hn:=tmod4 I;generalize hN:c.T.Attrs.toNat%4=n at hn;have V:n<4:=by omega
 unfold qj3;by_cases hr:(c.T.Rows.length:Int)>4
 ·rw[if_pos hr];exact Or.inl ⟨_,_,rfl⟩
 rw[if_neg hr,hn];have E:c.T.Rows.length<=4:=by omega
 have A:(c.T.Rows.length:Int)*((n:Nat):Int)=((c.T.Rows.length*n:Nat):Int):=by simp
 have U:c.T.Rows.length*n<=4*4:=Nat.mul_le_mul E (by omega);have w:v96.wrap ((c.T.Rows.length*n:Nat):Int)=((c.T.Rows.length*n:Nat):Int):=qbg (by omega) (by omega);rw[A,w];by_cases J:((c.T.Rows.length*n:Nat):Int)>9
 ·rw[if_pos J];exact Or.inl ⟨_,_,rfl⟩
 rw[if_neg J];by_cases H:(c.F.length:Int)>3
 ·rw[if_pos H];exact Or.inl ⟨_,_,rfl⟩
 rw[if_neg H,vwi c.T n (by omega) (by omega) (fun r hr=>(h3.2 r hr).1) O,v7m,vnl (n:=n) (by omega) c.F W.2 (by omega),v7m];right;obtain⟨u1,Z,u3,u4⟩:=vnm c.T (n:=n) (by omega) E (by omega) (fds:=c.F.map fun d=>(⟨((d.L.toNat%2^n:Nat):Int),((d.R.toNat%2^n:Nat):Int)⟩:FD)) (by rw[v6d];omega) (fun f H=>by
  obtain⟨d,_,rfl⟩:=v81.1 H;exact⟨_,_,rfl,vlq _ _,vlq _ _⟩)
 exact⟨_,_,rfl,u1,Z,by omega,by omega⟩
theorem q23(c:Drossref45_Case)(h0:qkb c):qj9 c=some true:=by
 unfold qj9;rcases of45 c h0 with⟨t,l,e⟩|⟨t,l,e,H,T,h4,h5⟩
 ·rw[e,q33];rfl
 rw[e,v7m];obtain⟨C,W,A,P,U,O⟩:=qyy H;obtain⟨R,r1,r2,r3⟩:=ves h5 l H.fds3 H.fdn;obtain⟨E,b1,hH,hE3,hind⟩:=vee T r3;obtain⟨S,Q,s1,s2,s3⟩:=q9x h4 b1 hH hE3;obtain⟨clB,q1,q2⟩:=vq8 T r3;have hchk:=vhr H O;have nine:=H.nine;have hCl:=qnl O.asc O.innQ;have hSl:=s2.len;have hVl:(t.Rows.map Row.ID).length=t.Rows.length:=by rw[v6d]
 have hplc:=fun i (hi:i<t.Rows.length)=>vxt hH hi
 have hmemV:=fun x (hx:x∈t.Rows.map Row.ID)=>vnn hx
 have hidinj:=fun i k (hi:i<t.Rows.length) (J:k<t.Rows.length)=>vno hH hi J
 have V:=vs7 H r2 hH hind
 -- a deletion is at most as long as an update
 have ineq1:S.length<=C.length:=by
  have hh:=s3 (fun v=>decide (∃c∈C,c.ID=(qf2 t v).ID)) (fun e he=>by
   obtain⟨a,ha,rfl⟩:=v81.1 he;have J:=(V fun v=>!decide (∃c∈C,c.ID=(qf2 t v).ID)).1 (fun i k hi J m1 m2 I=>by
    have n1:¬∃c∈C,c.ID=(qf2 t i).ID:=by simpa using m1
    have n2:¬∃c∈C,c.ID=(qf2 t k).ID:=by simpa using m2
    have f1:∀a,a<t.Attrs.length->W (i*t.Attrs.length+a)=qo0 t (i*t.Attrs.length+a):=fun a ha=>O.fit.1 _ (qh3 hi ha) fun hm=>n1 ⟨_,hm,by rw[quq ha]⟩
    have f2:∀a,a<t.Attrs.length->W (k*t.Attrs.length+a)=qo0 t (k*t.Attrs.length+a):=fun a ha=>O.fit.1 _ (qh3 (ub8 J hi) ha) fun hm=>n2 ⟨_,hm,by rw[quq ha]⟩
    obtain⟨f,hf,g1,a,ha,g2,g3⟩:=I;have:=O.fit.2 f hf i k hi J (fun a ha I=>by rw[f1 a ha,f2 a ha];exact g1 a ha I) a ha g2;rw[f1 a ha,f2 a ha]at this;exact g3 this) a ha
   obtain⟨x,hx,i,hi,rfl,hp⟩:=J;refine⟨qv7 (t.Rows.map Row.ID) (qf2 t i).ID,v81.2 ⟨_,hx,rfl⟩,?_⟩;rw[hplc i hi];simpa using hp)
  have hf:=qur (fun v=>decide (∃c∈C,c.ID=(qf2 t v).ID)) t.Rows.length;have hle:((v6s t.Rows.length).filter fun v=>decide (∃c∈C,c.ID=(qf2 t v).ID)).length<=C.length:=by
   have hnd:(((v6s t.Rows.length).filter fun v=>decide (∃c∈C,c.ID=(qf2 t v).ID)).map fun v=>(qf2 t v).ID).Nodup:=by
    refine ubw.2 (uad.imp_of_mem (fun {a b} ha I hab he=>?_) ((ubv (n:=t.Rows.length)).filter _));have:=hidinj a b (v83.1 (v80.1 ha).1) (v83.1 (v80.1 I).1) he;omega
   have:=qke (r:=C.map CellRef.ID) hnd fun x hx=>by
    obtain⟨v,hv,rfl⟩:=v81.1 hx;obtain⟨c,hc,he⟩:=of_decide_eq_true (v80.1 hv).2;exact v81.2 ⟨c,hc,he⟩
   simpa using this
  unfold vrd at hh;rw[<-hf]at hh;omega
 -- the cells of the deleted rows are enough
 have ineq2:C.length<=S.length*t.Attrs.length:=by
  have hD:vid t l (S.flatMap fun v=>(v6s t.Attrs.length).map fun a=>(⟨(qf2 t v).ID,((a:Nat):Int)⟩:CellRef)):=by
   have M:∀i a,i<t.Rows.length->a<t.Attrs.length->i∈S->qf3 t (i*t.Attrs.length+a)∈S.flatMap fun v=>(v6s t.Attrs.length).map fun a=>(⟨(qf2 t v).ID,((a:Nat):Int)⟩:CellRef):=fun i a hi ha hS=>by
    rw[quq ha];exact List.mem_flatMap.2 ⟨i,hS,v81.2 ⟨a,v83.2 ha,rfl⟩⟩
   by_cases hall:∀i,i<t.Rows.length->i∈S
   ·refine qw9 (fun j hj _=>?_) (vem (t:=t) (fds:=l));obtain⟨j1,j2,j3⟩:=qlh hj;rw[j3];exact M _ _ j1 j2 (hall _ j1)
   ·obtain⟨k0,hk0⟩:=Classical.not_forall.1 hall;obtain⟨hk0,hk0S⟩:=Classical.not_imp.1 hk0;have Z:=(V fun v=>decide (v ∉ S)).2 (fun e he=>by
     obtain⟨v,hv,hvS⟩:=s2.hit _ (v81.2 ⟨e,he,rfl⟩);obtain⟨x,hx,rfl⟩:=v81.1 hv;obtain⟨i,hi,rfl⟩:=hmemV x (hH.esub e he x hx);rw[hplc i hi]at hvS;exact⟨_,hx,i,hi,rfl,decide_eq_false (fun h=>h hvS)⟩)
    have hpair:∀i k,i<t.Rows.length->k<t.Rows.length->i ∉ S->k ∉ S->i≠k->¬vif t l i k:=fun i k hi J m1 m2 hne I=>by
     rcases ucl hne with g|g
     ·exact Z k i J g (decide_eq_true m2) (decide_eq_true m1) (q9u I)
     ·exact Z i k hi g (decide_eq_true m1) (decide_eq_true m2) I
    refine⟨fun j=>qo0 t ((if j/t.Attrs.length∈S then k0 else j/t.Attrs.length)*t.Attrs.length+j%t.Attrs.length),fun j hj hc=>?_,fun f hf i k hi J hL a ha I=>?_⟩
    ·obtain⟨j1,j2,j3⟩:=qlh hj;have hnS:j/t.Attrs.length ∉ S:=fun hS=>hc (by rw[j3];exact M _ _ j1 j2 hS)
     simp only[if_neg hnS];rw[<-j3]
    ·have hkt:=ub8 J hi;have ev:∀i a,a<t.Attrs.length->(fun j=>qo0 t ((if j/t.Attrs.length∈S then k0 else j/t.Attrs.length)*t.Attrs.length+j%t.Attrs.length)) (i*t.Attrs.length+a)=qo0 t ((if i∈S then k0 else i)*t.Attrs.length+a):=fun i a ha=>by
      simp only[q5w ha,q5x ha]
     have hρ:∀i,i<t.Rows.length->(if i∈S then k0 else i)<t.Rows.length/\(if i∈S then k0 else i) ∉ S:=fun i hi=>by
      by_cases hS:i∈S
      ·rw[if_pos hS];exact⟨hk0,hk0S⟩
      ·rw[if_neg hS];exact⟨hi,hS⟩
     rw[ev i a ha,ev k a ha];by_cases he:(if i∈S then k0 else i)=(if k∈S then k0 else k)
     ·rw[he]
     ·refine Classical.byContradiction fun hne=>hpair _ _ (hρ i hi).1 (hρ k hkt).1 (hρ i hi).2 (hρ k hkt).2 he ⟨f,hf,fun a ha I=>?_,a,ha,I,hne⟩
      have:=hL a ha I;rw[ev i a ha,ev k a ha]at this;exact this
  have:=O.least _ hD;have hlen:(S.flatMap fun v=>(v6s t.Attrs.length).map fun a=>(⟨(qf2 t v).ID,((a:Nat):Int)⟩:CellRef)).length=S.length*t.Attrs.length:=by
   clear this hD hchk O
   induction S with
   |nil=>simp
   | cons x S ih =>
    have:∀S:List Nat,(S.flatMap fun v=>(v6s t.Attrs.length).map fun a=>(⟨(qf2 t v).ID,((a:Nat):Int)⟩:CellRef)).length=S.length*t.Attrs.length:=fun S=>by
     induction S with
     |nil=>simp
     |cons y S ih2=>rw[List.flatMap_cons,v6b,ih2,v8r,ucb];simp;omega
    exact this _
  omega
 -- clean tables need no update
 have hclean:clB=decide (C.length=0):=by
  rw[v9y,q2,decide_eq_true_eq,vet H r2 (fun x hx=>hx)];constructor
  ·intro h;have hs:=vxm.2 fun i k hi J=>h i k hi J (ql2 hi) (ql2 (ub8 J hi))
   have:=O.least [] ⟨qo0 t,fun j _ _=>rfl,hs⟩;simpa using this
  ·intro h i k hi J _ _ I;have hC:C=[]:=ubl.1 h;have hW:∀j,j<qik t->W j=qo0 t j:=fun j hj=>O.fit.1 j hj (by rw[hC];simp)
   obtain⟨f,hf,g1,a,ha,g2,g3⟩:=I;have w1:∀a,a<t.Attrs.length->W (i*t.Attrs.length+a)=qo0 t (i*t.Attrs.length+a):=fun a ha=>hW _ (qh3 hi ha)
   have w2:∀a,a<t.Attrs.length->W (k*t.Attrs.length+a)=qo0 t (k*t.Attrs.length+a):=fun a ha=>hW _ (qh3 (ub8 J hi) ha)
   have:=O.fit.2 f hf i k hi J (fun a ha I=>by rw[w1 a ha,w2 a ha];exact g1 a ha I) a ha g2;rw[w1 a ha,w2 a ha]at this;exact g3 this
 have hmul:((S.length:Nat):Int)*(t.Attrs.length:Int)=((S.length*t.Attrs.length:Nat):Int):=by simp
 have hle:S.length*t.Attrs.length<=9*5:=Nat.mul_le_mul (by omega) h5;have w:v96.wrap ((S.length*t.Attrs.length:Nat):Int)=((S.length*t.Attrs.length:Nat):Int):=qbg (by omega) (by omega);have hsl:((S.map fun v=>(qf2 t v).ID).length:Int)=((S.length:Nat):Int):=by simp
 have hz:(((C.length:Nat):Int)==0)=decide (C.length=0):=by
  rw[v9y,beq_iff_eq,decide_eq_true_eq];omega
 simp only[q33,v7m,if_true,Bool.not_true,v5k,if_false,U,r1,s1,bne_self_eq_false,hchk,qj8,q1,beq_self_eq_true,hmul,w,hsl,if_pos (show((C.length:Nat):Int)<=((S.length*t.Attrs.length:Nat):Int) by omega),if_pos (show((S.length:Nat):Int)<=((C.length:Nat):Int) by omega),hclean,hz]
end Go.Proofs.YtijpapagpebllaaGreatDoor
