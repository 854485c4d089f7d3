/- -/
import Derived.Laws.IdiomCopy
import Derived.KernelRfl
import Derived.OrdersHeld
import Derived.Lib.SlicesCompact
import Derived.LoopN
import Derived.Lib.AppendZeros
import Derived.Shelf.Spec.SlicesInsertGrow
import Derived.Test.YtijpapagpebllaaGreatDoorA2
set_option linter.unusedVariables false
set_option linter.unusedSimpArgs false
open Array renaming getD_eq_getD_getElem?->v9k,getElem?_append->v5c,getElem?_eq_some_iff->v5d,getElem?_replicate->v9l,getElem?_setIfInBounds_ne->v5e,length_toList->v5f,replicate->v9m
open Bool renaming and_eq_true->v5i,eq_false_iff->v78,false_eq_true->v5k,or_eq_true->v79
open Iff renaming rfl->v9n
open Go.IntKind renaming u16->v9o,u32->v9p
open Go.Lib renaming byteCells->v8b
open List renaming any_append->v9q,cons_append->v8g,eq_nil_of_length_eq_zero->v5x,getD_eq_getElem?_getD->v8i,getElem?_append_left->v8j,getElem?_append_right->v8k,getElem?_eq_getElem->v52,getElem?_eq_some_iff->v56,getElem?_map->v8n,getElem?_mapIdx->v9r,getElem?_set_ne->v8p,getElem?_set_self->v8q,getElem?_take->v59,length_append->v6b,length_cons->v8r,length_drop->v6c,length_map->v6d,length_set->v6f,length_take->v6g,map->v8t,mem_cons->v9s,mem_filter->v80,mem_flatMap->v6l,mem_map->v81,mem_or_eq_of_mem_set->v6p,range'->v85,range'_succ->v9t,replicate->v6u,size_toArray->v6v,take_of_length_le->v6y
open Nat renaming add_right_cancel->v9u,beq->v9v,le_refl->v7a,le_succ->v7b,lt_of_lt_of_le->v7d,lt_trichotomy->v9a,mul_le_mul_right->v7h,strongRecOn->v9d,sub_zero->v7k,zero_add->v7l,zero_le->v9f,zero_mul->v9w
open Option renaming bind_some->v7m,map_eq_some_iff->v7q
open Option.some renaming inj->v9i,injEq->v7s
open Go.Result renaming andThen_ok->v7u
open Go.Sem renaming run_bind->v7w,run_pure->v7x
noncomputable section
namespace Go.Ab
variable {D:Prop}
open Go
variable {E:List UInt8}
structure Bld(P:Program)(kw ks T e:Nat):Prop where
 bodyW:HasBody P kw
 bodyS:HasBody P ks
 write:∀(b c:Nat) (p v:Value) (bs:List UInt8) (s:List UInt8) (w:World),1<=c->Lib.PairAt T b p v (c*2) w->(p=.pointer none\/p=.pointer (some ⟨b,0,none⟩))->w.ownsRow 0 e 1 v bs.length (v8b bs)->v.ownBlock≠some b->bs.length+s.length<=140737488355328 ->
  Calls P kw #[.pointer (some ⟨b,0,none⟩),.string ⟨s.toArray⟩] w fun e' w'=>e'=.returned (.tuple #[.int .i64 s.length,.nilIface]) /\
   ∃v',Lib.PairAt T b (.pointer (some ⟨b,0,none⟩)) v' (c*2) w'/\w'.ownsRow 0 e 1 v' (bs++s).length (v8b (bs++s))/\v'.ownBlock≠some b/\(∀g,v'.ownBlock=some g->v.ownBlock=some g\/w.heap.size<=g)/\Lib.OnlyAt b v.ownBlock w w'
 string:∀(b n:Nat) (p v:Value) (l:List UInt8) (w:World),Lib.PairAt T b p v n w->w.ownsRow 0 e 1 v l.length (v8b l) ->
  Calls P ks #[.pointer (some ⟨b,0,none⟩)] w fun e' w'=>e'=.returned (.string ⟨l.toArray⟩)/\Lib.OnlyRow v.ownBlock w w'
def qgp(E:List UInt8):List AV:=E.map fun c=>.p (.int .u8 ((c.toNat:Nat):Int))
@[simp,go_sem]theorem q43(E:List UInt8):(qgp E).length=E.length:=by simp[qgp]
theorem qti {X:Nat->Prop} {inj:Inj} {σ:Nat->AO} {w:World}:∀{E:List UInt8} {vs:List Value},ARs X inj σ w (qgp E) vs↔vs=v8b E
 |[],vs=>v9n
 |c::E,vs=>by
  constructor
  ·rintro⟨v,r,rfl,h1,A⟩;simp only[AR,PR]at h1;rw[h1,qti.1 A];rfl
  ·rintro rfl;exact⟨_,_,rfl,rfl,qti.2 rfl⟩
theorem qj2(E:List UInt8):(∀v∈v8b E,v.cells.size=1)/\(∀v∈v8b E,v.oneCell'=true):=by
 constructor <;>
 ·intro v A;obtain⟨x,_,rfl⟩:=v81.1 A;rfl
structure BldA(σ:Nat->AO)(T e l g m gm:Nat)(a0 a1:AV)(bs:List UInt8):Prop where
 hl:σ l=.arr T 2 g [.agg [a0,a1]]
 ha0:a0=.p .nilp\/a0=.loc l g 0 0
 ha1:(a1=.nils/\bs=[]/\σ m=.dead gm)\/(a1=.own m gm 0 bs.length/\σ m=.arr e 1 gm (qgp bs))
 ne:l≠m
theorem vdi{X:Nat->Prop}{inj:Inj}{σ:Nat->AO}{w:World}(h:HR X inj σ w){T e l g m W:Nat}{V I:AV}(A:BldA σ T e l g m W V I E){Z:Value}(J:vip inj σ l g 0 0 Z) :
  ∃b c p v,inj l=some (b,c)/\Z=.pointer (some ⟨b,0,none⟩)/\1<=c/\c<=maxLen/\¬X b/\Lib.PairAt T b p v (c*2) w/\(p=.pointer none\/p=.pointer (some ⟨b,0,none⟩))/\w.ownsRow 0 e 1 v E.length (v8b E) /\
   (∀g',v.ownBlock=some g'->∃c',inj m=some (g',c')/\(σ m).alive=true):=by
 obtain⟨vs,U,O,o3,o4⟩:=(A.hl▸h.obj l _ rfl:OR X inj σ w l (.arr T 2 g [.agg [V,I]]));obtain⟨_,k2⟩:=J;obtain⟨_,k3⟩:=k2 _ A.hl;obtain⟨b,c,k4,k5⟩:=k3 rfl T 2 _ rfl;obtain⟨u,r,rfl,⟨us,rfl,hus,_⟩,hr⟩:=U;simp only[ARs]at hr;subst hr;obtain⟨p,r,rfl,hp,v,r',rfl,hv,hr'⟩:=hus;simp only[ARs]at hr';subst hr';rcases o4 with⟨_,o4⟩|⟨M,c',cur,p1,p2,p3,p4,p5,p6,p7⟩
 ·cases o4
 rw[k4]at p1;cases p1;simp only[v9w,v7l]at k5;refine⟨b,c,p,v,k4,k5,by simpa using p4,p5,p2,⟨cur,p3,p6,by simpa[flat,Value.cells] using p7⟩,?_,?_⟩
 ·rcases A.ha0 with rfl|rfl
  ·exact .inl hp
  ·obtain⟨_,q2⟩:=hp;obtain⟨_,q3⟩:=q2 _ A.hl;obtain⟨b1,c1,q4,q5⟩:=q3 rfl T 2 _ rfl
   grind
 ·rcases A.ha1 with⟨rfl,rfl,_⟩|⟨rfl,hm⟩
  ·simp only[AR]at hv;subst hv;exact⟨World.ownsRow_nil _ _ _ _,fun g' H=>by cases H⟩
  ·obtain⟨ms,s1,s2,s3,s4⟩:=(hm▸h.obj m _ rfl:OR X inj σ w m (.arr e 1 W (qgp E)));rw[qti]at s1;subst s1;obtain⟨_,q2⟩:=hv;obtain⟨_,q3⟩:=q2 _ hm;obtain⟨_,q4⟩:=q3 rfl e 1 _ rfl;have hfl:flat (v8b E)=v8b E:=qlp (qj2 E).2;rcases q4 with⟨q5,rfl,_,q6⟩|⟨b1,c1,a,q5,rfl,q6,q7⟩
   ·have hb:E=[]:=v5x q6;subst hb;exact⟨World.ownsRow_nil _ _ _ _,fun g' H=>by cases H⟩
   ·have ha:a=some ⟨b1,0,none⟩:=by
     grind
    subst ha;rcases s4 with⟨s4,_⟩|⟨b2,c2,cur2,t1,t2,t3,t4,t5,t6,t7⟩
    ·grind
    ·rw[q5]at t1;cases t1;rw[hfl]at t7;simp only[q43]at t4 t7;refine⟨⟨by simp[Lib.byteCells_length],.inr ⟨b1,c1,cur2,by simp,v9f _,t3,t4,t5,t6,t7⟩⟩,fun g' H=>?_⟩;simp only[Value.ownBlock,v7s]at H;subst H;exact⟨c1,q5,by rw[hm];rfl⟩
variable {C:Cx} {Q:Exit->St->Prop} {st:St}
theorem q74(a:Act)(v:Value):a.put none v=a:=rfl
theorem v1e{ops:Array Oper}{o:Oper}{rest:List Oper}{f:Operand}{args:Array Operand}{J:Array TypeId}{M ks T e l g m W:Nat}{V I:AV}{s:List UInt8}
  (S:Bld C.P M ks T e) (hD:C.D->False) (ho:o.op=.call ⟨.value f,args,J⟩) (hg:qbh ops st.env o=some true) (hd:qb2 C.N o=true)
  (hk:qb4 st.env f args.toList=some (M,[.loc l g 0 0,.p (.str s)])) (A:BldA st.sig T e l g m W V I E) (hroom:E.length+s.length<=140737488355328)
  (h:AL C ops rest Q ⟨qfa st.env o.dst (.p (.tup [.int .i64 s.length,.nili])),qo8 (qo8 st.heap m (.arr e 1 (W+1) (qgp (E++s)))) l (.arr T 2 g [.agg [.loc l g 0 0,.own m (W+1) 0 (E++s).length]])⟩):AL C ops (o::rest) Q st:=by
 intro inj a w hs;simp only[wpList,qb3 hs hg,if_true];refine .inl ?_;obtain⟨vs,hrun,hars⟩:=qm0 hs ho S.bodyW hk;unfold Oper.wp;rw[hrun];simp only[Oper.upon];obtain⟨Z,r1,rfl,hloc,vs2,r2,rfl,hstr,hr2⟩:=hars;simp only[ARs]at hr2;subst hr2;simp only[AR,PR]at hstr;subst hstr;simp only[AR]at hloc;obtain⟨b,c,p,v,i1,rfl,i2,i3,i4,i5,i6,i7,i8⟩:=vdi hs.hr A hloc;have hvb:v.ownBlock≠some b:=fun e=>by
  obtain⟨c',H,e2⟩:=i8 b e;exact A.ne (hs.hr.inj1 l m _ _ b c c' rfl rfl (by rw[A.hl];rfl) e2 i1 H)
 refine(S.write b c p v E s w i2 i5 i6 i7 hvb hroom).mono ?_;rintro e' w' ⟨rfl,v',k1,k2,k3,k4,k5⟩;obtain⟨cur0,p1,p2,p3⟩:=i5.ex;have hbw:b<w.heap.size:=i5.lt;have hbw':b<w'.heap.size:=k1.lt;obtain⟨cur1,u1,u2,u3⟩:=k1.ex
 -- the bytes change first
 let w1:World:={ w' with heap:=w'.heap.setIfInBounds b (.cells cur0 T (0,0)) }
 have w1b:∀k,w1.heap[k]?=if k=b then w.heap[b]? else w'.heap[k]?:=by
  grind
 have w1s:w1.heap.size=w'.heap.size:=by simp[w1]
 have w1o:∀k,k≠b->w1.heap[k]?=w'.heap[k]?:=fun k hk=>by rw[w1b,if_neg hk]
 have fz1:∀x:Addr,x.block<w.heap.size->w1.frozen? x=w.frozen? x:=by
  intro x hx;by_cases hxb:x.block=b
  ·exact World.frozen?_of_block (by rw[w1b,if_pos hxb,hxb])
  ·rw[World.frozen?_of_block (w1o _ hxb)];exact k5.fz x hx
 have blk1:∀k,k<w.heap.size->some k≠v.ownBlock->w1.heap[k]?=w.heap[k]?:=by
  intro k hk hkr;rw[w1b];split
  ·grind
  ·rename_i e;exact k5.block k hk e hkr
 have U:(st.sig m).gen=W:=by rcases A.ha1 with⟨_,_,e⟩|⟨_,e⟩<;>rw[e]<;>rfl
 have hfl:flat (v8b (E++s))=v8b (E++s):=qlp (qj2 _).2
 -- where the bytes lie
 have hx:∃x:Option (Nat×Nat),(∀b1 c1,x=some (b1,c1)->v'.ownBlock=some b1)/\OR C.X (fun k=>if k=m then x else inj k) (qmz st.sig m (.arr e 1 (W+1) (qgp (E++s)))) w1 m (.arr e 1 (W+1) (qgp (E++s))) /\
   ve6 (fun k=>if k=m then x else inj k) (qmz st.sig m (.arr e 1 (W+1) (qgp (E++s)))) m (W+1) 0 (E++s).length v':=by
  rcases k2.2 with⟨hv,hz⟩|⟨g1,cap,cur,hv,_,q1,q2,q3,q4,q5⟩
  ·have hn:E++s=[]:=v5x hz;refine⟨none,(fun _ _ h=>by cases h),⟨v8b (E++s),qti.2 rfl,(qj2 _).1,by rw[hfl];exact(qj2 _).2,.inl ⟨by simp,by rw[hn];rfl⟩⟩,?_⟩;refine⟨⟨_,_,_,hv⟩,fun oo hoo=>?_⟩;have:oo=.arr e 1 (W+1) (qgp (E++s)):=by rw[<-hoo];exact qc1 _ _ _
   subst this;exact⟨v7a _,fun _ H sz1 es1 he=>by cases he;exact⟨by simp,.inl ⟨by simp,hv,rfl,hz⟩⟩⟩
  ·have hg1:g1≠b:=fun e=>k3 (by rw[hv,e];rfl)
   refine⟨some (g1,cap),(fun _ _ h=>by cases h;rw[hv];rfl),⟨v8b (E++s),qti.2 rfl,(qj2 _).1,by rw[hfl];exact(qj2 _).2,.inr ⟨g1,cap,cur,by simp,?_,by rw[w1o _ hg1];exact q1,by simpa using q2,q3,q4,by rw[hfl];simpa using q5⟩⟩,?_⟩
   ·intro hX;rcases k4 g1 (by rw[hv];rfl) with H|H
    ·obtain⟨c',e2,e3⟩:=i8 g1 H;exact(hs.hr.flt (D:=fun _=>false) ⟨m,c',_,rfl,e3,rfl,e2⟩).2 hX
    ·have:=hs.hr.xlt g1 hX;omega
   ·rw[hv];exact qo6 (qc1 _ _ _) (if_pos rfl) (by simp) q2
 obtain⟨x,hx1,hx2,hx3⟩:=hx;obtain⟨ev1,hr1⟩:=hs.hr.update (D:=C.D) (w':=w1) (l:=m) (o:=st.sig m) (o':=.arr e 1 (W+1) (qgp (E++s))) (x:=x) rfl k5.os k5.tape k5.output (fun d=>(hD d).elim) (by rw[w1s];exact k5.size) fz1
  (fun k hk hn=>blk1 k hk fun H=>by
   grind)
  (fun b1 c1 H=>by
   grind)
  ⟨by rw[U];exact v7b _,fun _ he=>by rw[U]at he;simp[AO.gen]at he⟩
 have hH1:=hr1 hx2;have hSR1:=hs.put (o:={ o with dst:=none }) (u:=some (m,.arr e 1 (W+1) (qgp (E++s)))) rfl (v:=.any) (val:=.tuple #[]) hH1 ev1 trivial;rw[q74]at hSR1
 -- then the struct
 have hl1:qmz st.sig m (.arr e 1 (W+1) (qgp (E++s))) l=.arr T 2 g [.agg [V,I]]:=by rw[qme _ _ _ A.ne];exact A.hl
 have O:(fun k=>if k=m then x else inj k) l=some (b,c):=by simp only[if_neg A.ne];exact i1
 have blk2:∀k,k≠b->w'.heap[k]?=w1.heap[k]?:=fun k hk=>(w1o k hk).symm
 obtain⟨ev2,hr2⟩:=hH1.update (D:=C.D) (w':=w') (l:=l) (o:=.arr T 2 g [.agg [V,I]]) (o':=.arr T 2 g [.agg [.loc l g 0 0,.own m (W+1) 0 (E++s).length]]) (x:=some (b,c)) hl1 rfl rfl rfl (fun d=>(hD d).elim) (by rw[w1s];exact v7a _)
  (fun y _=>by
   by_cases hyb:y.block=b
   ·have H:w1.heap[y.block]?=some (.cells cur0 T (0,0)):=by rw[w1b,if_pos hyb];exact p1
    have e2:w'.heap[y.block]?=some (.cells cur1 T (0,0)):=by rw[hyb];exact u1
    simp[World.frozen?,H,e2]
   ·exact World.frozen?_of_block (blk2 _ hyb))
  (fun k _ hn=>blk2 k fun H=>hn rfl c (by rw[H];exact O))
  (fun b1 c1 H=>by cases H;exact .inr ⟨rfl,c,O⟩)
  ⟨v7a _,fun _ _=>⟨O.symm,.inl ⟨T,2,_,_,rfl,rfl,rfl⟩⟩⟩
 have hij:∀k,(fun k=>if k=l then some (b,c) else(fun k=>if k=m then x else inj k) k) k=(fun k=>if k=m then x else inj k) k:=by
  grind
 have hij':(fun k=>if k=l then some (b,c) else(fun k=>if k=m then x else inj k) k)=(fun k=>if k=m then x else inj k):=funext hij;rw[hij']at ev2 hr2;have hown:ve6 (fun k=>if k=m then x else inj k) (qmz (qmz st.sig m (.arr e 1 (W+1) (qgp (E++s)))) l (.arr T 2 g [.agg [.loc l g 0 0,.own m (W+1) 0 (E++s).length]])) m (W+1) 0 (E++s).length v':=by
  obtain⟨y1,y2⟩:=hx3;refine⟨y1,fun oo hoo=>y2 oo ?_⟩;rw[qme _ _ _ (fun e=>A.ne e.symm)]at hoo;exact hoo
 have hv1:v'.oneCell'=true:=by obtain⟨⟨_,_,_,rfl⟩,_⟩:=hx3;rfl
 have hvc:v'.cells=#[v']:=by obtain⟨⟨_,_,_,rfl⟩,_⟩:=hx3;rfl
 have hone:qbp [Value.pointer (some ⟨b,0,none⟩),v']:=by
  intro u hu;simp only[v9s,List.not_mem_nil,or_false]at hu;rcases hu with rfl|rfl
  ·rfl
  ·exact hv1
 have hlocN:vip (fun k=>if k=m then x else inj k) (qmz (qmz st.sig m (.arr e 1 (W+1) (qgp (E++s)))) l (.arr T 2 g [.agg [.loc l g 0 0,.own m (W+1) 0 (E++s).length]])) l g 0 0 (.pointer (some ⟨b,0,none⟩)):=by
  have hq:=q37 (inj:=fun k=>if k=m then x else inj k) (qc1 (qmz st.sig m (.arr e 1 (W+1) (qgp (E++s)))) l (.arr T 2 g [.agg [.loc l g 0 0,.own m (W+1) 0 (E++s).length]])) O 0 0
  grind
 have hfl2:flat [Value.agg #[.pointer (some ⟨b,0,none⟩),v']]=[.pointer (some ⟨b,0,none⟩),v']:=by simp[flat,Value.cells]
 have hH2:=hr2 ⟨[.agg #[.pointer (some ⟨b,0,none⟩),v']],⟨_,_,rfl,⟨[.pointer (some ⟨b,0,none⟩),v'],rfl,⟨_,_,rfl,hlocN,_,_,rfl,hown,rfl⟩,hone⟩,rfl⟩,
  fun u hu=>by
   have:u=.agg #[.pointer (some ⟨b,0,none⟩),v']:=by simpa using hu
   subst this;rfl,
  by rw[hfl2];exact hone,.inr ⟨b,c,cur1,O,i4,u1,i2,i3,u2,by rw[hfl2];simpa using u3⟩⟩
 have hs1:(⟨st.env,qo8 st.heap m (.arr e 1 (W+1) (qgp (E++s)))⟩:St).sig=qmz st.sig m (.arr e 1 (W+1) (qgp (E++s))):=qs7 _ _ _;have hSR2:=hSR1.put (o:=o) (u:=some (l,.arr T 2 g [.agg [.loc l g 0 0,.own m (W+1) 0 (E++s).length]])) hd (v:=.p (.tup [.int .i64 s.length,.nili])) (val:=.tuple #[.int .i64 s.length,.nilIface])
  (by show HR C.X _ (qmz (St.sig ⟨st.env,qo8 st.heap m _⟩) l _) w';rw[hs1];exact hH2) (by show Ev C.D C.X _ (St.sig ⟨st.env,qo8 st.heap m _⟩) w1 _ (qmz (St.sig ⟨st.env,qo8 st.heap m _⟩) l _) w';rw[hs1];exact ev2) ⟨[.int .i64 s.length,.nilIface],rfl,_,_,rfl,rfl,_,_,rfl,rfl,rfl⟩
 exact h _ _ _ hSR2
mutual
theorem AR.keepO{X inj σ w inj' σ' w'}(k:Keeps (fun b=>X b\/F inj σ b) (fun b=>X b\/F inj' σ' b) w w')(h:Ev True X inj σ w inj' σ' w):∀(p:AV) (v:Value),AR X inj σ w p v->AR X inj' σ' w' p v
 |.any,_,_=>trivial
 |.p x,v,r=>PR.keep k x v r
 |.nils,_,r=>r
 |.loc l g i off,_,r=>vip.ev h r
 |.own l g off len,_,r=>ve6.ev h r
 |.mapo l g,_,r=>vsc.ev h r
 |.func fn cs,v,r=>by
  obtain⟨vs,h1,A⟩:=r
  exact⟨vs,h1,ARs.keepO k h cs vs A⟩
 |.agg cs,v,r=>by
  obtain⟨vs,h1,A,E⟩:=r
  exact⟨vs,h1,ARs.keepO k h cs vs A,E⟩
 |.tup cs,v,r=>by
  obtain⟨vs,h1,A⟩:=r
  exact⟨vs,h1,ARs.keepO k h cs vs A⟩
theorem ARs.keepO{X inj σ w inj' σ' w'}(k:Keeps (fun b=>X b\/F inj σ b) (fun b=>X b\/F inj' σ' b) w w')(h:Ev True X inj σ w inj' σ' w):∀(ps:List AV) (vs:List Value),ARs X inj σ w ps vs->ARs X inj' σ' w' ps vs
 |[],_,r=>r
 |p::ps,vs,r=>by
  obtain⟨v,rs,h1,A,E⟩:=r
  exact⟨v,rs,h1,AR.keepO k h p v A,ARs.keepO k h ps rs E⟩
end
variable {E:List UInt8} {o:Oper}
theorem v1f{T e l g m W:Nat}{V I:AV}{inj:Inj}{a:Act}{w w':World}{v:Value}
  (H:SR C st inj a w) (hH0:C.H0=[]) (hD:C.D->False) (hd:qb2 C.N o=true) (A:BldA st.sig T e l g m W V I E) (i8:∀g',v.ownBlock=some g'->∃c',inj m=some (g',c')/\(st.sig m).alive=true) (k:Lib.OnlyRow v.ownBlock w w') :
  SR C ⟨qfa st.env o.dst (.p (.str E)),qo8 (qo8 st.heap m (.dead (W+1))) l (.dead (g+1))⟩ inj (a.put o.dst (.string ⟨E.toArray⟩)) w':=by
 have hgenm:(st.sig m).gen=W:=by rcases A.ha1 with⟨_,_,e⟩|⟨_,e⟩<;>rw[e]<;>rfl
 have hsig:(⟨qfa st.env o.dst (.p (.str E)),qo8 (qo8 st.heap m (.dead (W+1))) l (.dead (g+1))⟩:St).sig=qmz (qmz st.sig m (.dead (W+1))) l (.dead (g+1)):=by
  show qav _=_;rw[qs7,qs7]
 have other:∀j o',qmz (qmz st.sig m (.dead (W+1))) l (.dead (g+1)) j=o'->o'.alive=true->j≠l/\j≠m/\st.sig j=o':=by
  intro j o' hj ha;by_cases Z:j=l
  ·subst Z;rw[qc1]at hj;subst hj;cases ha
  ·rw[qme _ _ _ Z]at hj;by_cases M:j=m
   ·subst M;rw[qc1]at hj;subst hj;cases ha
   ·rw[qme _ _ _ M]at hj;exact⟨Z,M,hj⟩
 have fp:∀x,F inj (qmz (qmz st.sig m (.dead (W+1))) l (.dead (g+1))) x->F inj st.sig x:=by
  rintro x ⟨j,c',o',h1,h2,_,h3⟩;obtain⟨_,_,h4⟩:=other j o' h1 h2;exact⟨j,c',o',h4,h2,rfl,h3⟩
 have e0:Ev True C.X inj st.sig w inj (qmz (qmz st.sig m (.dead (W+1))) l (.dead (g+1))) w:=by
  refine⟨rfl,rfl,rfl,fun _=>v7a _,v7a _,fun _ _=>rfl,fun _ _ _=>rfl,fun x J=>.inl (fp x J),fun j=>?_⟩;by_cases Z:j=l
  ·subst Z;rw[qc1,A.hl];exact⟨v7b _,fun ha=>by cases ha⟩
  ·rw[qme _ _ _ Z];by_cases M:j=m
   ·subst M;rw[qc1];exact⟨by rw[hgenm];exact v7b _,fun ha=>by cases ha⟩
   ·rw[qme _ _ _ M];exact(OEv.refl _).of fun _=>rfl
 have hrow:∀x,¬F inj st.sig x->some x≠v.ownBlock:=fun x J Z=>by
  obtain⟨c',M,e3⟩:=i8 x Z.symm;exact J ⟨m,c',_,rfl,e3,rfl,M⟩
 have K:Keeps (fun x=>C.X x\/F inj st.sig x) (fun x=>C.X x\/F inj (qmz (qmz st.sig m (.dead (W+1))) l (.dead (g+1))) x) w w' :=
  ⟨k.size,fun x J hn=>k.block x J (hrow x fun hf=>hn (.inr hf)),fun x J hn hn'=>hn (hn'.imp id (fp x))⟩
 have hnoF:∀x,¬F C.inj0 (qav C.H0) x:=by
  rintro x ⟨j,c',o',h1,h2,_⟩;rw[hH0]at h1;simp only[qav]at h1;subst h1;cases h2
 have hnew:∀x,x<C.w0.heap.size->some x≠v.ownBlock:=fun x J Z=>by
  obtain⟨c',M,e3⟩:=i8 x Z.symm;rcases H.ev.fp x ⟨m,c',_,rfl,e3,rfl,M⟩ with h1|h1
  ·exact hnoF x h1
  ·omega
 refine⟨fun t=>?_,?_,?_,?_,?_⟩
 ·rw[hsig];cases hdst:o.dst with
  |none=>simpa[qfa,Act.put] using AR.keepO K e0 _ _ (H.env t)
  | some d =>
   simp only[qb2,hdst,decide_eq_true_eq]at hd;simp only[qfa,Act.put,Env.get];by_cases ht:d=t
   ·subst ht;rw[if_pos rfl];have:(a.tmps.setIfInBounds d (.string ⟨E.toArray⟩)).getD d undef=.string ⟨E.toArray⟩:=by simp[H.size,hd]
    rw[this];rfl
   ·rw[if_neg ht];have:(a.tmps.setIfInBounds d (.string ⟨E.toArray⟩)).getD t undef=a.tmps.getD t undef:=by simp[v5e ht]
    rw[this];exact AR.keepO K e0 _ _ (H.env t)
 ·cases hdst:o.dst<;>simp[Act.put,H.size]
 ·cases hdst:o.dst<;>simp[Act.put,H.defers]
 ·rw [hsig];refine⟨fun j o' hj=>?_,fun j j' U O x c1 c2 h1 h2 I a2 q1 q2=>?_,fun x J=>v7d (H.hr.xlt x J) k.size⟩
  ·by_cases ha:o'.alive=true
   ·obtain⟨n1,n2,hj'⟩:=other j o' hj ha;have h0:=H.hr.obj j o' hj';have hne:∀x c1,inj j=some (x,c1)->w'.heap[x]?=w.heap[x]?:=fun x c1 hi =>
     k.block x (H.hr.flt (D:=fun _=>false) ⟨j,c1,o',hj',ha,rfl,hi⟩).1 fun Z=>by
      obtain⟨c',M,e3⟩:=i8 x Z.symm;exact n2 (H.hr.inj1 j m o' _ x c1 c' hj' rfl ha e3 hi M)
    cases o' with
    |dead g'=>cases ha
    |arr e' sz g' es =>
     obtain⟨vs,q1,q2,q3,q4⟩:=h0;refine⟨vs,ARs.keepO K e0 es vs q1,q2,q3,?_⟩;rcases q4 with q4|⟨x,c1,cur,q5,q6,q7,q8⟩
     ·exact .inl q4
     ·exact .inr ⟨x,c1,cur,q5,q6,by rw[hne x c1 q5];exact q7,q8⟩
    |map g' ks' vs' =>
     obtain⟨x,c1,ms,clock,q5,q6,q7,q8,q9⟩:=h0;exact⟨x,c1,ms,clock,q5,q6,by rw[hne x c1 q5];exact q7,ARs.keepO K e0 ks' _ q8,ARs.keepO K e0 vs' _ q9⟩
   ·cases o' with
    |dead g'=>trivial
    |arr _ _ _ _=>exact absurd rfl ha
    |map _ _ _=>exact absurd rfl ha
  ·obtain⟨_,_,h1'⟩:=other j U h1 I;obtain⟨_,_,h2'⟩:=other j' O h2 a2;exact H.hr.inj1 j j' U O x c1 c2 h1' h2' I a2 q1 q2
 ·rw[hsig];refine⟨k.os.trans H.ev.os,k.tape.trans H.ev.tape,k.output.trans H.ev.output,fun d=>(hD d).elim,Nat.le_trans H.ev.size k.size,fun x J=>?_,fun x J hf=>?_,fun x J=>H.ev.fp x (fp x J),fun j=>(H.ev.objs j).trans (e0.objs j) fun p q=>q.trans p⟩
  ·rw[World.frozen?_of_block (k.block _ (v7d J H.ev.size) (hnew _ J))];exact H.ev.fz x J
  ·rw[k.block x (v7d J H.ev.size) (hnew x J)];exact H.ev.blk x J hf
theorem v1g{ops:Array Oper}{rest:List Oper}{f:Operand}{args:Array Operand}{J:Array TypeId}{M ks T e l g m W:Nat}{V I:AV}
  (S:Bld C.P M ks T e) (hH0:C.H0=[]) (hD:C.D->False) (ho:o.op=.call ⟨.value f,args,J⟩) (hg:qbh ops st.env o=some true) (hd:qb2 C.N o=true)
  (hk:qb4 st.env f args.toList=some (ks,[.loc l g 0 0])) (A:BldA st.sig T e l g m W V I E)
  (h:AL C ops rest Q ⟨qfa st.env o.dst (.p (.str E)),qo8 (qo8 st.heap m (.dead (W+1))) l (.dead (g+1))⟩):AL C ops (o::rest) Q st:=by
 intro inj a w hs;simp only[wpList,qb3 hs hg,if_true];refine .inl ?_;obtain⟨vs,U,hars⟩:=qm0 hs ho S.bodyS hk;unfold Oper.wp;rw[U];simp only[Oper.upon];obtain⟨Z,r1,rfl,H,O⟩:=hars;simp only[ARs]at O;subst O;simp only[AR]at H;obtain⟨b,c,p,v,i1,rfl,i2,i3,i4,i5,i6,i7,i8⟩:=vdi hs.hr A H;refine(S.string b (c*2) p v E w i5 i7).mono ?_;rintro e' w' ⟨rfl,k⟩;exact h _ _ _ (v1f hs hH0 hD hd A i8 k)
end Go.Ab
namespace Go.Ab
variable {D:Prop}
open Go
variable {C:Cx} {Q:Exit->St->Prop} {st:St}
variable {args:Array Operand} {ops: Array Oper} {rest: List Oper} {J:Array TypeId} {x: Operand} {k: IntKind} {f:Operand} {o: Oper} {g: Nat}
theorem vkf{P:Program}{T d:Nat}(E:P.cellsOf T=2)(A:P.depth=d+1)(H:sameLayout P P.depth T T=true)(c:Nat)(h:1<=c):liesAt P P.depth T (c*2/P.cellsOf T) 0 T 1=true:=by
 have e:c*2/P.cellsOf T=c:=by rw[E];omega
 rw[e,A];unfold liesAt;have h1:rowAt P (fun x=>sameLayout P P.depth x T) P.depth T c 0 1=true:=by
  rw[A];unfold rowAt;rw[<-A];simp only[E,H]
  grind
 grind
@[go_sem]theorem vx9(σ σ':Nat->AO)(E:List UInt8):qkv σ σ' (qgp E) (qgp E)=True:=by
 have h:qgp E=(E.map fun c=>PV.int .u8 ((c.toNat:Nat):Int)).map AV.p:=by simp[qgp]
 rw[h];exact eq_true (qyn σ σ' _)
@[go_sem]theorem vya:qgp []=[]:=rfl
@[go_sem]theorem LeV_opt(σ σ':Nat->AO)(b:Bool)(l g g' i off:Nat):LeV σ σ' (if b=true then .loc l g i off else .p .nilp) (if b=true then .loc l g' i off else .p .nilp)=(b=true->LeV σ σ' (.loc l g i off) (.loc l g' i off)):=by
 cases b
 ·simp[LeV,view]
 ·simp
theorem vsp{α:Type}{b:Bool}{x y:α}:(if b=true then x else y)=y\/(if b=true then x else y)=x:=by cases b<;>simp
theorem zBw{ops:Array Oper}{o:Oper}{rest:List Oper}{M ks T e g W O:Nat}{V:AV}
  (S:Bld C.P M ks T e) (l m:Nat) (E s:List UInt8) (n:Nat) (A:E.length+s.length<=140737488355328)
  (h:AL C ops rest Q ⟨qfa st.env o.dst (.p (.tup [.int .i64 s.length,.nili])),qo8 (qo8 st.heap m (.arr e 1 (W+1) (qgp (E++s)))) l (.arr T 2 g [.agg [.loc l g 0 0,.own m (W+1) 0 n]])⟩)
  (hn:(E++s).length=n:=by simp) (hD:C.D->False:=by exact id) (ho:o.op=.call ⟨.value f,args,J⟩:=by rfl) (Z:qbh ops st.env o=some true:=by first|exact qao rfl|exact qbr rfl rfl (by exact rfl) (by exact rfl)) (hd:qb2 C.N o=true:=by rfl)
  (U:qb4 st.env f args.toList=some (M,[.loc l g 0 0,.p (.str s)]):=by simp only[go_sem,seval, *];all_goals first|exact rfl|exact⟨rfl,rfl⟩)
  (hl:qav st.heap l=.arr T 2 g [.agg [V,.own m W 0 O]]:=by simp only[go_sem,seval, *];all_goals first|exact rfl|exact⟨rfl,rfl⟩)
  (ha0:V=.p .nilp\/V=.loc l g 0 0:=by first|exact .inl rfl|exact .inr rfl|exact vsp)
  (hm:qav st.heap m=.arr e 1 W (qgp E):=by simp only[go_sem,seval, *];all_goals first|exact rfl|exact⟨rfl,rfl⟩) (H:O=E.length:=by first|rfl|(simp;done)) (I:l≠m:=by decide):AL C ops (o::rest) Q st:=by
 subst hn;subst H;exact v1e S hD ho Z hd U ⟨hl,ha0,.inr ⟨rfl,hm⟩,I⟩ A h
theorem zBs{ops:Array Oper}{o:Oper}{rest:List Oper}{M ks T e g W O:Nat}{V:AV}
  (S:Bld C.P M ks T e) (l m:Nat) (E:List UInt8) (h:AL C ops rest Q ⟨qfa st.env o.dst (.p (.str E)),qo8 (qo8 st.heap m (.dead (W+1))) l (.dead (g+1))⟩)
  (I:C.H0=[]:=by rfl) (hD:C.D->False:=by exact id) (ho:o.op=.call ⟨.value f,args,J⟩:=by rfl) (Z:qbh ops st.env o=some true:=by first|exact qao rfl|exact qbr rfl rfl (by exact rfl) (by exact rfl)) (hd:qb2 C.N o=true:=by rfl)
  (U:qb4 st.env f args.toList=some (ks,[.loc l g 0 0]):=by simp only[go_sem,seval, *];all_goals first|exact rfl|exact⟨rfl,rfl⟩)
  (hl:qav st.heap l=.arr T 2 g [.agg [V,.own m W 0 O]]:=by simp only[go_sem,seval, *];all_goals first|exact rfl|exact⟨rfl,rfl⟩)
  (ha0:V=.p .nilp\/V=.loc l g 0 0:=by first|exact .inl rfl|exact .inr rfl|exact vsp)
  (hm:qav st.heap m=.arr e 1 W (qgp E):=by simp only[go_sem,seval, *];all_goals first|exact rfl|exact⟨rfl,rfl⟩) (A:O=E.length:=by first|rfl|(simp;done)) (H:l≠m:=by decide):AL C ops (o::rest) Q st:=by
 subst A;exact v1g S I hD ho Z hd U ⟨hl,ha0,.inr ⟨rfl,hm⟩,H⟩ h
theorem vpo{C:Cx}{st:St}{inj:Inj}{a:Act}{w:World}(A:SR C st inj a w)(E:C.P.globalNamed "math/bits.deBruijn32tab" = some g):q99 (fun b=>C.X b\/F inj st.sig b) w g 0 (qoy.map (Value.int .u8)):=qo9 A.ev g E
theorem v1h{t A: Nat}{i:Nat}(U:C.P.globalNamed "math/bits.deBruijn32tab" = some g)(ho:o.op=.indexAddr t (.global g) x)(hg:qbh ops st.env o=some true)(hd:qb2 C.N o=true)
  (O:C.P.underlying t=some (.array 32 A)) (V:qsc C.P A=true) (hc:C.P.cellsOf A=1) (hx:ev st.env x=.p (.int k (i:Int))) (hi:i<32)
  (h:AL C ops rest Q ⟨qfa st.env o.dst (.p (.imm [.int .u8 (qoy.getD i 0)])),st.heap⟩):AL C ops (o::rest) Q st:=by
 intro inj a w H;simp only[wpList,qb3 H hg,if_true];refine .inl ?_;have hr:=vpo H U;have W:=H.eval x;rw[hx]at W;simp only[AR,PR]at W;have M:=qgn V w;rw[hc]at M;have J:(Instr.indexAt t (.pointer (some ⟨g,0,none⟩)) (a.eval x)).run C.P w=.ok (.pointer (some ⟨g,i,none⟩)) w:=by
  rw[W];have h1:((i:Int)<32):=by omega
  simp[Instr.indexAt,asIntOf,run_underlying O,Instr.sureAddr,hi,h1,M,Addr.add_lit]
 have I:i<qoy.length:=by simpa[qoy] using hi
 have E:PR (fun b=>C.X b\/F inj st.sig b) w (.imm [.int .u8 (qoy.getD i 0)]) (.pointer (some ⟨g,i,none⟩)):=by
  refine⟨g,i,[.int .u8 (qoy.getD i 0)],rfl,⟨_,_,rfl,rfl,rfl⟩,by intro u O;have Z:u=.int .u8 (qoy.getD i 0):=(by simpa using O);subst Z;rfl,hr.1,hr.2.1,?_⟩;intro j u hj;cases j with
  |zero =>
   simp only[List.getElem?_cons_zero,v7s]at hj;subst hj;have:=hr.2.2 i (.int .u8 (qoy.getD i 0)) (by rw[v8n,v8i,v52 I];rfl);simpa using this
  |succ j=>simp at hj
 obtain⟨dst,op,ty,pos,af,gd⟩:=o;simp only at ho;subst ho;refine qs6 (s:=Instr.indexAt t (a.eval (.global g)) (a.eval x)) rfl J ?_
 ·exact h inj _ _ (H.put (u:=none) hd H.hr (Ev.refl _ _ _ _) E)
theorem zTab{t A: Nat}(i:Nat)(E:C.P.globalNamed "math/bits.deBruijn32tab" = some g)(I:C.P.underlying t=some (.array 32 A))(hi:i<32)(O:ev st.env x=.p (.int k (i:Int)))
  (h:AL C ops rest Q ⟨qfa st.env o.dst (.p (.imm [.int .u8 (qoy.getD i 0)])),st.heap⟩) (H:qsc C.P A=true:=by kernel_rfl) (J:C.P.cellsOf A=1:=by kernel_rfl)
  (ho:o.op=.indexAddr t (.global g) x:=by rfl) (U:qbh ops st.env o=some true:=by exact qao rfl) (M:qb2 C.N o=true:=by rfl):AL C ops (o::rest) Q st:=v1h E ho U M I H J O hi h
def tzI(n:Nat):Nat:=(n&&&(4294967296-n))*125613361%4294967296/134217728
def tz32(n:Nat):Int:=if n=0 then 32 else qoy.getD (tzI n) 0
theorem vsq(n:Nat):tzI n<32:=by unfold tzI;omega
theorem wrapU(n:Nat):v9p.wrap (n:Int)=((n%4294967296:Nat):Int):=by
 simp only[IntKind.wrap,IntKind.signed,IntKind.bits]
 grind
theorem v1i{n:Nat}(h0:n≠0)(h:n<4294967296):Int.fdiv (v9p.wrap ((v9p.wrap ((BitVec.ofInt 32 (n:Int)&&&BitVec.ofInt 32 (v9p.wrap (0-(n:Int)))).toNat:Int))*125613361)) (2^(min 27 32))=((tzI n:Nat):Int):=by
 have A:v9p.wrap (0-(n:Int))=((4294967296-n:Nat):Int):=by
  simp only[IntKind.wrap,IntKind.signed,IntKind.bits]
  grind
 rw[A,vj3,BitVec.toNat_and,qwp h,qwp (a:=4294967296-n) (by omega)];have E:((n&&&(4294967296-n):Nat):Int)*125613361=(((n&&&(4294967296-n))*125613361:Nat):Int):=by simp
 rw[E,wrapU];unfold tzI
 grind
theorem v1j:∀i,i<32->0<=qoy.getD i 0/\qoy.getD i 0<32:=by decide
theorem vkg{n:Nat}:IntKind.i64.wrap (qoy.getD (tzI n) 0)=qoy.getD (tzI n) 0:=by
 have h:=v1j (tzI n) (vsq n);exact qbg (by omega) (by omega)
end Go.Ab
namespace Go.Ab
variable {D:Prop}
open Go
variable {X:Nat->Prop} {inj:Inj} {σ:Nat->AO} {w:World} {P:Program}
variable {ops:Array Oper} {rest:List Oper} {v:Value} {a:Act} {l d:Nat}
theorem vbf(h:HR X inj σ w){g i off e sz b c:Nat}{es:List AV}{x y v:AV}{J:Value}(ho:σ l=.arr e sz g es)(a4:inj l=some (b,c))(hx:es[i]?=some x)(hp:qqb x off v=some y)(hv:AR X inj σ w v J) :
  ∃w',(storeCells ⟨b,i*sz+off,none⟩ J.cells.toList).run P w=.ok () w'/\HR X inj (upd σ (some (l,.arr e sz g (es.set i y)))) w'/\Ev D X inj σ w inj (upd σ (some (l,.arr e sz g (es.set i y)))) w':=by
 obtain⟨vs,U,O,o3,o4⟩:=(ho▸h.obj l _ rfl:OR X inj σ w l (.arr e sz g es));obtain⟨u,hu,hau⟩:=U.get hx;have E:u∈vs:=List.mem_of_getElem? hu;have hone:qbp u.cells.toList:=fun c hc=>o3 c (v6l.2 ⟨u,E,hc⟩)
 obtain⟨s1,s2,s3,u',s4,s5,s6⟩:=qs0 hau hv (O u E) hone hp;rcases o4 with⟨o4,_⟩|⟨M,c',cur,p1,p2,p3,p4,p5,p6,p7⟩
 ·grind
 rw[a4]at p1;cases p1;have hi:i<vs.length:=(v56.1 hu).1;have hel:es.length=vs.length:=U.length;have hmul:(i+1)*sz<=vs.length*sz:=v7h _ hi;have V:es.length*sz<=c*sz:=v7h _ p4;rw[hel]at V;rw[Nat.add_mul,Nat.one_mul]at hmul;have H:J.cells.toList.length=v.cells.length:=by rw[v5f,s3]
 have Z:=run_storeCells_at P b (i*sz+off) e J.cells.toList 0 cur w p3 (by rw[H,p6];omega) s2;simp only[Nat.add_zero]at Z;have W:cur.toList.length=c*sz:=by rw[v5f,p6]
 have A:i*sz+off+J.cells.toList.length<=cur.toList.length:=by rw[H,W];omega
 have hup:=h.update (D:=D) (w':=w.setRow b (splice cur.toList (i*sz+off) J.cells.toList).toArray) (l:=l) (o:=.arr e sz g es) (o':=.arr e sz g (es.set i y)) (x:=inj l) ho rfl rfl rfl (fun _=>v7a _) (by simp)
  (fun a _=>frozen_setRow w b _ a) (fun k hk hne=>setRow_other w b k _ (fun e=>hne rfl c (by rw[e];exact a4)))
  (fun b1 c1 h1=>.inr ⟨rfl,c1,h1⟩) ⟨v7a _,fun _ _=>⟨rfl,.inl ⟨e,sz,es,_,rfl,rfl,by simp⟩⟩⟩
 rw[quc]at hup;obtain⟨hev,hhr⟩:=hup;refine⟨_,Z,hhr ?_,hev⟩;refine⟨vs.set i u',(ARs.ev hev h.xlt es vs U).set (AR.ev hev h.xlt y u' s4),?_,?_,.inr ⟨b,c,_,a4,p2,setRow_heap w b cur _ e _ p3,by simpa using p4,p5,?_,?_⟩⟩
 ·intro q I;rcases v6p I with h1|h1
  ·exact O q h1
  ·rw[h1,<-v5f,s5,qic _ _ _ (by rw[H,show u.cells.toList.length=sz by rw[v5f,O u E]];exact s1),v5f,O u E]
 ·intro q I;obtain⟨z,hz,I⟩:=v6l.1 I;rcases v6p hz with h1|h1
  ·exact o3 q (v6l.2 ⟨z,h1,I⟩)
  ·rw[h1]at I;exact s6 q I
 ·rw[v6v,qic _ _ _ A,W]
 ·rw[vcu O hu s5 (by rw[H];exact s1),<-p7,v6f];apply List.ext_getElem?;intro k;have hA:i*sz+off+J.cells.toList.length<=(cur.toList.take (es.length*sz)).length:=by
   grind
  rw[v59,qmg _ _ _ A,qmg _ _ _ hA,v59]
  grind
theorem vdj{o:AO}(h:σ l=o):upd σ (some (l,o))=σ:=by
 funext k;simp only[upd,qmz];by_cases A:k=l
 ·subst A;simp[h]
 ·simp[A]
theorem q75(at_:Array TypeId)(ty:TypeId)(cs:Array Bool)(args:Array Value):builtin .copy at_ ty cs args=(do pure (Next.value (<-Builtin.copy_ at_ ty args))):=rfl
def vpp(a b c:Int):AV:=.p (.agg [.int .i64 a,.int .i64 b,.int .i64 c])
theorem vkh(E A H:Int)(L:List Int)(h:L≠[]):qqb (vpp E A H) 0 (.p (.agg ((L.take 3).map (PV.int .i64))))=some (vpp (L.getD 0 E) (L.getD 1 A) (L.getD 2 H)):=by
 cases L with
 |nil=>exact absurd rfl h
 | cons a L =>
  cases L with
  |nil=>rfl
  | cons b L =>
   cases L with
   |nil=>rfl
   |cons c L =>
    have e:(a::b::c::L).take 3=[a,b,c]:=rfl;rw[e];rfl
theorem vvj(L:List Int)(X:Nat->Prop)(inj:Inj)(σ:Nat->AO)(w:World):AR X inj σ w (.p (.agg (L.map (PV.int .i64)))) (.agg (L.map (Value.int .i64)).toArray):=by
 simp only[AR,PR];refine⟨L.map (Value.int .i64),rfl,?_,?_⟩
 ·induction L with
  |nil=>simp[PRs]
  |cons a L ih=>exact⟨_,_,rfl,rfl,ih⟩
 ·intro u A;obtain⟨a,_,rfl⟩:=v81.1 A;rfl
theorem vdk(h:d<a.tmps.size):(a.put (some d) v).eval (.tmp d)=v:=by
 simp[Act.eval,Act.put,h]
theorem vki{t:Nat}(h:t≠d):(a.put (some d) v).eval (.tmp t)=a.eval (.tmp t):=by
 simp[Act.eval,Act.put,v5e (Ne.symm h)]
variable {C:Cx} {Q:Exit->St->Prop} {st:St}
theorem v1k{U O o3:Oper}{M A dT sT:TypeId}{x y:Operand}{E Z g:Nat}{c0 c1 c2:Int}{L:List Int}
  (h1:U.op=.slice M x none none none) (hd1:U.dst=some E) (h2:O.op=.move y) (hd2:O.dst=some Z) (h3:o3.op=.call ⟨.builtin .copy,#[.tmp E,.tmp Z],#[dT,sT]⟩)
  (g1:U.guard=none) (g2:O.guard=none) (g3:o3.guard=none) (n1:qb2 C.N U=true) (n2:qb2 C.N O=true) (n3:qb2 C.N o3=true) (hne:E≠Z)
  (hu:C.P.underlying M=some (.array 3 A)) (hte:qsc C.P A=true) (hc:C.P.cellsOf A=1) (hdT:C.P.underlying dT=some (.slice A)) (hy:y≠.tmp E)
  (hx:ev st.env x=.loc l g 0 0) (ho:qav st.heap l=.arr M 3 g [vpp c0 c1 c2]) (hyv:ev st.env y=.p (.slc (L.map (PV.int .i64))))
  (h:AL C ops rest Q ⟨qfa (qfa (qfa st.env U.dst .any) O.dst (.p (.slc (L.map (PV.int .i64))))) o3.dst .any,qo8 st.heap l (.arr M 3 g [vpp (L.getD 0 c0) (L.getD 1 c1) (L.getD 2 c2)])⟩):AL C ops (U::O::o3::rest) Q st:=by
 intro inj a w hs;have hg:∀(o:Oper) (st':St),o.guard=none->qbh ops st'.env o=some true:=fun o st' e=>by unfold qbh;rw[e]
 have hloc:=hs.eval x;rw[hx]at hloc;obtain⟨_,a2⟩:=hloc;have hσ:st.sig l=.arr M 3 g [vpp c0 c1 c2]:=ho;obtain⟨_,a3⟩:=a2 _ hσ;obtain⟨b,c,a4,hptr⟩:=a3 rfl M 3 _ rfl;simp only[v9w,v7l]at hptr
 -- the slice
 have r1:(Instr.sliceAt M (a.eval x) none none none).run C.P w=.ok (.slice (some ⟨b,0,none⟩) 3 3) w:=by
  rw[hptr];simp[Instr.sliceAt,run_underlying hu,Instr.sureAddr,Instr.sliceBounds,qgn hte w,Addr.add_lit]
 simp only[wpList,qb3 hs (hg U st g1),if_true];refine .inl ?_;obtain⟨dst1,op1,ty1,pos1,af1,gd1⟩:=U;simp only at h1 hd1;subst h1 hd1;refine qs6 (s:=Instr.sliceAt M (a.eval x) none none none) rfl r1 ?_;have J:=hs.put (o:=⟨some E,.slice M x none none none,ty1,pos1,af1,gd1⟩) (v:=.any) (val:=.slice (some ⟨b,0,none⟩) 3 3) (u:=none) n1 hs.hr (Ev.refl _ _ _ _) trivial;simp only[qut]at J
 -- the source
 have hd1N:E<C.N:=by simpa[qb2] using n1
 have e1:∀t,t≠E->(a.put (some E) (.slice (some ⟨b,0,none⟩) 3 3)).tmps.getD t undef=a.tmps.getD t undef:=fun t ht=>by
  simp[Act.put,v5e (Ne.symm ht)]
 have hy1:ev (qfa st.env (some E) .any) y=.p (.slc (L.map (PV.int .i64))):=by
  cases y with
  |tmp t =>
   have ht:t≠E:=fun e=>hy (by rw[e])
   simp only[ev,qfa,Env.get];rw[if_neg (Ne.symm ht)];exact hyv
  |const v=>exact hyv
  |global g=>exact hyv
  |func f=>exact hyv
 simp only[wpList,qb3 J (hg O _ g2),if_true];refine .inl ?_;obtain⟨dst2,op2,ty2,pos2,af2,gd2⟩:=O;simp only at h2 hd2;subst h2 hd2;have H:=J.eval y;simp only at H;rw[hy1]at H;refine qs6 (s:=pure ((a.put (some E) (.slice (some ⟨b,0,none⟩) 3 3)).eval y)) (by simp[execOp]) (v7x _ _ _) ?_;have hs2:=J.put (o:=⟨some Z,.move y,ty2,pos2,af2,gd2⟩) (v:=.p (.slc (L.map (PV.int .i64)))) (u:=none) n2 J.hr (Ev.refl _ _ _ _) H;simp only[qut]at hs2;simp only[AR,PR]at H;obtain⟨sa,I,vs,hva,hcap,hvs,hsl⟩:=H;have hvs':=vda hvs;subst hvs';rw[v6d]at hva hcap;generalize hV:(a.put (some E) (.slice (some ⟨b,0,none⟩) 3 3)).eval y=vy at*;subst hva
 -- the copy
 simp only[wpList,qb3 hs2 (hg o3 _ g3),if_true];refine .inl ?_;obtain⟨dst3,op3,ty3,pos3,af3,gd3⟩:=o3;simp only at h3;subst h3;have hd2N:Z<C.N:=by simpa[qb2] using n2
 have v1:((a.put (some E) (.slice (some ⟨b,0,none⟩) 3 3)).put (some Z) (.slice sa L.length I)).eval (.tmp E)=.slice (some ⟨b,0,none⟩) 3 3:=by
  rw[vki hne];exact vdk (by rw[hs.size];exact hd1N)
 have v2:((a.put (some E) (.slice (some ⟨b,0,none⟩) 3 3)).put (some Z) (.slice sa L.length I)).eval (.tmp Z)=.slice sa L.length I:=vdk (by rw[J.size];exact hd2N);have key:∃(rv:Value) (w':World),(Builtin.copy_ #[dT,sT] ty3 #[.slice (some ⟨b,0,none⟩) 3 3,.slice sa L.length I]).run C.P w=.ok rv w'/\HR C.X inj (upd st.sig (some (l,.arr M 3 g [vpp (L.getD 0 c0) (L.getD 1 c1) (L.getD 2 c2)]))) w'/\Ev C.D C.X inj st.sig w inj (upd st.sig (some (l,.arr M 3 g [vpp (L.getD 0 c0) (L.getD 1 c1) (L.getD 2 c2)]))) w':=by
  obtain⟨inf,hinf⟩:=Option.isSome_iff_exists.1 hte;have V:inf.size=1:=by
   unfold Program.cellsOf at hc;rw[hinf]at hc;simpa using hc
  have hinfs:(C.P.info? A).map (·.size)=some 1:=by rw[hinf];simp[V]
  by_cases hL:L=[]
  ·subst hL;refine⟨goInt 0,w,?_,?_,?_⟩
   ·exact run_copy_none w dT sT ty3 A _ _ _ _ _ _ hdT hinfs rfl
   ·have:=vdj hσ;simp only[List.getD_nil]at this ⊢;rw[this];exact hs.hr
   ·have:=vdj hσ;simp only[List.getD_nil]at this ⊢;rw[this];exact Ev.refl _ _ _ _
  ·obtain⟨w',q1,q2,q3⟩:=vbf (D:=C.D) (P:=C.P) hs.hr hσ a4 (i:=0) (off:=0) (x:=vpp c0 c1 c2) rfl (vkh c0 c1 c2 L hL) (vvj (L.take 3) _ _ _ _);simp only[v9w,v7l,List.set_cons_zero]at q1 q2 q3;refine⟨goInt (Nat.min L.length 3),w',?_,q2,q3⟩;rcases hsl with hsl|⟨sb,so,sz,rfl,hcs,hone,hrow⟩
   ·exact absurd (by simpa using hsl) hL
   ·have hflat:flat (L.map (Value.int .i64))=L.map (Value.int .i64):=by
     unfold flat;rw[List.flatMap_map];have:∀l:List Int,(l.flatMap fun n=>(Value.int .i64 n).cells.toList)=l.map (Value.int .i64):=by
      intro l
      induction l with
      |nil=>rfl
      |cons n l ih=>rw[List.flatMap_cons,ih];rfl
     exact this L
    rw[hflat]at hrow;have hcl:((L.take 3).map (Value.int .i64)).length=Nat.min L.length 3:=by rw[v6d,v6g];exact Nat.min_comm _ _
    have W:=run_loadCells_list (P:=C.P) w ⟨sb,so,none⟩ ((L.take 3).map (Value.int .i64)) (fun j v hv=>by
     rw[List.map_take,v59]at hv;split at hv
     ·have:=hrow.2.2 j v hv;simpa[Addr.add_lit] using this
     ·cases hv)
    rw[hcl]at W;have hq1:(storeCells ⟨b,0,none⟩ (List.take 3 (L.map (Value.int .i64)))).run C.P w=.ok () w':=by
     rw[<-List.map_take];exact q1
    simp[Builtin.copy_,run_underlying hdT,Builtin.lenOf,Builtin.firstCells,sizeOf,typeInfo,hinf,V,W,hq1]
 obtain⟨rv,w',k1,k2,k3⟩:=key;have hexec:(execOp ((a.put (some E) (.slice (some ⟨b,0,none⟩) 3 3)).put (some Z) (.slice sa L.length I)).eval ⟨dst3,.call ⟨.builtin .copy,#[.tmp E,.tmp Z],#[dT,sT]⟩,ty3,pos3,af3,gd3⟩).run C.P w=.ok (Next.value rv) w':=by
  simp only[execOp,resolve,v7w,v7x,v7u,invoke,q75];have:(#[Operand.tmp E,Operand.tmp Z]:Array Operand).map ((a.put (some E) (.slice (some ⟨b,0,none⟩) 3 3)).put (some Z) (.slice sa L.length I)).eval=#[.slice (some ⟨b,0,none⟩) 3 3,.slice sa L.length I]:=by
   simp[v1,v2]
  rw[this,k1];simp
 unfold Oper.wp;rw[hexec];simp only[Oper.upon];refine h inj _ _ ?_;have hs3:=hs2.put (o:=⟨dst3,.call ⟨.builtin .copy,#[.tmp E,.tmp Z],#[dT,sT]⟩,ty3,pos3,af3,gd3⟩) (v:=.any) (val:=rv) (u:=some (l,.arr M 3 g [vpp (L.getD 0 c0) (L.getD 1 c1) (L.getD 2 c2)])) n3 k2 k3 trivial;exact hs3
theorem zCpa{U O H:Oper}{I A dT sT:TypeId}{x y:Operand}{E Z g:Nat}(l:Nat)(c0 c1 c2:Int)(L:List Int)
  (hu:C.P.underlying I=some (.array 3 A)) (W:C.P.underlying dT=some (.slice A))
  (h:AL C ops rest Q ⟨qfa (qfa (qfa st.env U.dst .any) O.dst (.p (.slc (L.map (PV.int .i64))))) H.dst .any,qo8 st.heap l (.arr I 3 g [.p (.agg [.int .i64 (L.getD 0 c0),.int .i64 (L.getD 1 c1),.int .i64 (L.getD 2 c2)])])⟩)
  (h1:U.op=.slice I x none none none:=by rfl) (hd1:U.dst=some E:=by rfl) (h2:O.op=.move y:=by rfl) (hd2:O.dst=some Z:=by rfl) (h3:H.op=.call ⟨.builtin .copy,#[.tmp E,.tmp Z],#[dT,sT]⟩:=by rfl)
  (g1:U.guard=none:=by rfl) (g2:O.guard=none:=by rfl) (g3:H.guard=none:=by rfl) (n1:qb2 C.N U=true:=by rfl) (n2:qb2 C.N O=true:=by rfl) (n3:qb2 C.N H=true:=by rfl) (J:E≠Z:=by decide)
  (V:qsc C.P A=true:=by kernel_rfl) (hc:C.P.cellsOf A=1:=by kernel_rfl) (hy:y≠.tmp E:=by simp)
  (hx:ev st.env x=.loc l g 0 0:=by simp only[go_sem,seval, *];all_goals first|exact rfl|exact⟨rfl,rfl⟩)
  (ho:qav st.heap l=.arr I 3 g [.p (.agg [.int .i64 c0,.int .i64 c1,.int .i64 c2])]:=by simp only[go_sem,seval, *];all_goals first|exact rfl|exact⟨rfl,rfl⟩)
  (M:ev st.env y=.p (.slc (L.map (PV.int .i64))):=by simp only[go_sem,seval, *];all_goals first|exact rfl|exact⟨rfl,rfl⟩):AL C ops (U::O::H::rest) Q st :=
 v1k h1 hd1 h2 hd2 h3 g1 g2 g3 n1 n2 n3 J hu V hc W hy hx ho M h
end Go.Ab
namespace Go.Ab
open Go
section
def q44(rows:List (Nat×List Value))(w:World):Prop:=∀r∈rows,∀(j:Nat) (u:Value),r.2[j]?=some u->w.cell? ⟨r.1,j,none⟩=some u
def QN(C:Cx)(Q:Exit->St->Prop):Exit->Act->World->Prop:=fun ex a w=>ex=.normal/\vn7 C Q .normal a w
variable {C:Cx} {Q:Exit->St->Prop} {st:St} {inj:Inj} {a:Act} {w:World}
theorem vge{P:Program}{o:Oper}{a:Act}{w:World}{K I:Act->World->Prop}{Q H:Exit->Act->World->Prop}(h:∀a w,K a w->I a w)(J:∀c a w,Q (.panic c) a w->H (.panic c) a w)(hl:LetsOut Q->LetsOut H)
  (A:o.wp P a w K Q):o.wp P a w I H:=by
 unfold Oper.wp at*;generalize (execOp a.eval o).run P w=r at*;cases r with
 | ok n w' =>
  cases n<;>simp only[Oper.upon]at A ⊢ <;>
   first
    |exact h _ _ A
    |exact Calls.mono A (fun e M E=>by cases e<;>first|exact h _ _ E|exact J _ _ _ E|exact hl E)
    |exact Rows.mono A (fun _ _ E=>h _ _ E)
 |halt x w'=>cases x<;>simp only[Oper.upon]at A ⊢ <;> exact J _ _ _ A
mutual
def vsr:PV->Bool
 |.int _ _=>true
 |.bool _=>true
 |.str _=>true
 |.nilp=>true
 |.nilf=>true
 |.nili=>true
 |.nilm=>true
 |.agg cs=>vkj cs
 |_=>false
def vkj:List PV->Bool
 |[]=>true
 |p::ps=>vsr p&&vkj ps
end
theorem vvk{rows:List (Nat×List Value)}{y:AV}{o:Oper}{xo:Operand}(ho:o.op=.move xo\/o.op=.assign xo)(I:ev st.env xo=y) :
  ∀inj a w,SR C st inj a w->q44 rows w->∃v,(∀w',q44 rows w'->(execOp a.eval o).run C.P w'=.ok (.value v) w')/\AR C.X inj st.sig w y v:=by
 intro inj a w E J;have A:=E.eval xo;rw[I]at A;refine⟨a.eval xo,fun w' H=>?_,A⟩;obtain⟨dst,op,ty,pos,af,gd⟩:=o;simp only at ho;rcases ho with rfl|rfl<;>simp[execOp]
end
section
variable {C:Cx} {Q:Exit->St->Prop} {st:St}
def vyb:AO->Bool
 |.arr _ _ _ [_]=>true
 |_=>false
theorem vpq(e sz g:Nat)(x:AV):vyb (.arr e sz g [x])=true:=rfl
def vpr(h:List (Nat×AO)):List Nat->Prop
 |[]=>True
 |p::ps=>vyb (qav h p)=true/\vpr h ps
theorem vkk(h:List (Nat×AO)):vpr h []=True:=rfl
theorem vgf(h:List (Nat×AO))(p:Nat)(ps:List Nat):vpr h (p::ps)=(vyb (qav h p)=true/\vpr h ps):=rfl
attribute [go_sem] vpq vkk vgf
def isLoc:AV->Bool
 |.loc _ _ _ _=>true
 |_=>false
theorem vkl(l g i off:Nat):isLoc (.loc l g i off)=true:=rfl
attribute [go_sem] vkl
section
variable {α:Type} {h h' H0 rest:List (Nat×AO)} {f f' k e sz G G' e' sz':Nat} {o:AO} {enc:α->PV} {ll:List (List α)}
def q05(h:List (Nat×AO))(f e sz:Nat)(enc:α->PV)(ll:List (List α)):Prop:=∃G,qft h f e sz G enc ll
theorem vbg(A:k<1048576):q05 ((k,o)::h) f e sz enc ll=q05 h f e sz enc ll:=by simp only[q05,q3l A]
theorem q76:q05 (qhd f e sz G enc ll rest) f e sz enc ll=True:=by
 rw[eq_iff_iff,iff_true];exact⟨G,by rw[q0y];trivial⟩
theorem q2t(h1:q05 h f e sz enc ll)(E:qft h' f e sz G enc ll)(I:1<=G)(H:qrh H0 f G):qkf (qav h) (qav h') H0 (qhd f e sz G enc ll rest)=qkf (qav h) (qav h') H0 rest:=by
 obtain⟨J,h1⟩:=h1;exact qog fun i x A=>q0z (h1 i x A) (E i x A) I fun ha=>.inr (H i ha)
end
def vkm{β:Type}(n:Nat)(ll:List β):Prop:=n<=ll.length
section
variable {β:Type} {f n e sz G:Nat} {ll ll':List β}
theorem vbh:vkm ll.length ll=True:=by simp[vkm]
end
def vps(rest:List (Nat×AO))(f a n:Nat):Prop:=∀i,i<n->a<=i->(rest.any fun x=>x.1==fx f i)=true
theorem vbi{α:Type}{f n e sz G:Nat}{enc:α->PV}{ll:List (List α)}{rest:List (Nat×AO)}:qri (qhd f e sz G enc ll rest) f n=(vkm n ll\/vps rest f ll.length n):=by
 rw[eq_iff_iff];constructor
 ·intro H;by_cases hn:n<=ll.length
  ·exact .inl hn
  ·refine .inr fun i hi hl=>?_
   have:=H i hi;unfold qhd at this;rw[v9q,v79]at this;rcases this with this|this
   ·rw[List.any_eq_true]at this;obtain⟨x,I,A⟩:=this;obtain⟨k,E,rfl⟩:=List.mem_mapIdx.1 I;simp only[beq_iff_eq,q3k]at A;omega
   ·exact this
 ·rintro(E|hr) i hi
  ·have h1:qri (qhd f e sz G enc ll rest) f ll.length:=by rw[qtf];trivial
   exact h1 i (v7d hi E)
  ·by_cases hl:i<ll.length
   ·have h1:qri (qhd f e sz G enc ll rest) f ll.length:=by rw[qtf];trivial
    exact h1 i hl
   ·unfold qhd;rw[v9q,v79];exact .inr (hr i hi (by omega))
attribute [go_sem] vbh vbi true_or vbg q76 q2t
theorem zSwA{c:Code}(x y:Nat)(h:AWp C c Q ⟨vh5 (swp x y) st.env,vgd (swp x y) st.heap⟩)
  (h1:qy4 (qav C.H0 x) (qav st.heap y):=by simp only[go_sem,seval, *];all_goals first|exact fun h=>h|(simp;done)|(simp[*];done)) (A:qy4 (qav C.H0 y) (qav st.heap x):=by simp only[go_sem,seval, *];all_goals first|exact fun h=>h|(simp;done)|(simp[*];done)):AWp C c Q st:=vvh x y h1 A h
end
section
def inner(ops:Array Oper):Bool:=ops.toList.all fun o=>(o.after.toList.all fun e=>decide (e.on<ops.size))&&(match o.guard with|some (g,_)=>decide (g<ops.size)|none=>true)
variable {C:Cx} {Q:Exit->St->Prop} {st:St}
end
section
theorem vkn(D:Nat->Bool)(l g off len:Nat):view D 6 (.own l g off len)=qxy D 5 l g off len:=rfl
theorem vko(D:Nat->Bool)(cs:List AV):view D 6 (.agg cs)=(qba (view D 5) cs).bind fun A=>.ret (.agg A):=rfl
theorem vvl(D:Nat->Bool)(x:PV):view D 5 (.p x)=.ret x:=rfl
theorem vgg(D:Nat->Bool):view D 5 .nils=.ret (.slc []):=rfl
theorem vkp(D:Nat->Bool)(l g off len:Nat):view D 5 (.own l g off len)=qxy D 4 l g off len:=rfl
theorem vvm(D:Nat->Bool)(x:PV):view D 4 (.p x)=.ret x:=rfl
attribute [go_sem] vkn vko vvl vgg vkp vvm
end
section
set_option linter.constructorNameAsVariable false
variable {α:Type}
theorem nbeq(a b:Nat):v9v a b=decide (a=b):=by
 by_cases h:a=b
 ·subst h;simp[Nat.beq_eq]
 ·simp only[h,decide_false];exact v78.2 fun e=>h (Nat.eq_of_beq_eq_true e)
inductive Ps where
 |z|o (p:Ps)|i (p:Ps)
 deriving DecidableEq
def Ps.of:Nat->Nat->Ps
 |0,_=>.z
 |f+1,k=>bif v9v k 0 then .z else bif v9v (Nat.mod k 2) 1 then .o (Ps.of f (Nat.div k 2)) else .i (Ps.of f (Nat.pred (Nat.div k 2)))
abbrev pth(k:Nat):Ps:=Ps.of (Nat.succ k) k
def Ps.num:Ps->Nat
 |.z=>0
 |.o p=>2*p.num+1
 |.i p=>2*p.num+2
inductive Ty (α:Type) where
 |e
 |n (v:α) (l r:Ty α)
def Ty.get(d:α)(t:Ty α)(p:Ps):α :=
 @Ps.rec (fun _=>Ty α->α) (fun t=>@Ty.rec α (fun _=>α) d (fun v _ _ _ _=>v) t) (fun _ A t=>@Ty.rec α (fun _=>α) d (fun _ l _ _ _=>A l) t) (fun _ A t=>@Ty.rec α (fun _=>α) d (fun _ _ r _ _=>A r) t) p t
def Ty.set(d:α)(v:α)(t:Ty α)(p:Ps):Ty α :=
 @Ps.rec (fun _=>Ty α->Ty α) (fun t=>@Ty.rec α (fun _=>Ty α) (.n v .e .e) (fun _ l r _ _=>.n v l r) t) (fun _ A t=>@Ty.rec α (fun _=>Ty α) (.n d (A .e) .e) (fun w l r _ _=>.n w (A l) r) t)
  (fun _ A t=>@Ty.rec α (fun _=>Ty α) (.n d .e (A .e)) (fun w l r _ _=>.n w l (A r)) t) p t
def ho(h:Ty AO)(l:Nat):AO:=Ty.get (.dead 0) h (pth l)
def eo(e:Ty AV)(t:Nat):AV:=Ty.get .any e (pth t)
mutual
def q45:AV->List Nat
 |.own l _ _ _=>[l]
 |.loc l _ _ _=>[l]
 |.mapo l _=>[l]
 |.func _ cs=>qql cs
 |.agg cs=>qql cs
 |.tup cs=>qql cs
 |_=>[]
def qql:List AV->List Nat
 |[]=>[]
 |v::r=>q45 v++qql r
end
def qy5:AO->List Nat
 |.arr _ _ _ es=>qql es
 |.map _ ks vs=>qql ks++qql vs
 |.dead _=>[]
def q93(l:Nat):List Nat->Bool
 |[]=>false
 |k::r=>bif v9v k l then true else q93 l r
theorem q06{l:Nat}:∀{s:List Nat},q93 l s=decide (l∈s)
 |[]=>by simp[q93]
 |k::r=>by
  simp only[q93,nbeq,q06 (s:=r),v9s];by_cases h:k=l
  ·subst h;simp
  ·simp[h,Ne.symm h]
def vss:Fn->Fn->Bool
 |.func f,.func f'=>v9v f f'
 |_,_=>false
mutual
def PV.same:PV->PV->Bool
 |.int k n,.int k' n'=>decide (k=k')&&decide (n=n')
 |.bool a,.bool b=>a==b
 |.str s,.str s'=>decide (s=s')
 |.nilp,.nilp=>true
 |.nilf,.nilf=>true
 |.nili,.nili=>true
 |.nilm,.nilm=>true
 |.slc es,.slc es'=>PV.sames es es'
 |.nnil es,.nnil es'=>PV.sames es es'
 |.clip es,.clip es'=>PV.sames es es'
 |.imm es,.imm es'=>PV.sames es es'
 |.func f es,.func f' es'=>vss f f'&&PV.sames es es'
 |.agg es,.agg es'=>PV.sames es es'
 |.tup es,.tup es'=>PV.sames es es'
 |_,_=>false
def PV.sames:List PV->List PV->Bool
 |[],[]=>true
 |x::xs,y::ys=>PV.same x y&&PV.sames xs ys
 |_,_=>false
end
mutual
def AV.same:AV->AV->Bool
 |.any,.any=>true
 |.p x,.p y=>PV.same x y
 |.nils,.nils=>true
 |.loc l g i o,.loc l' g' i' o'=>v9v l l'&&(v9v g g'&&(v9v i i'&&v9v o o'))
 |.own l g i o,.own l' g' i' o'=>v9v l l'&&(v9v g g'&&(v9v i i'&&v9v o o'))
 |.mapo l g,.mapo l' g'=>v9v l l'&&v9v g g'
 |.func f es,.func f' es'=>vss f f'&&AV.sames es es'
 |.agg es,.agg es'=>AV.sames es es'
 |.tup es,.tup es'=>AV.sames es es'
 |_,_=>false
def AV.sames:List AV->List AV->Bool
 |[],[]=>true
 |x::xs,y::ys=>AV.same x y&&AV.sames xs ys
 |_,_=>false
end
def AO.same:AO->AO->Bool
 |.dead g,.dead g'=>v9v g g'
 |.arr e sz g es,.arr e' sz' g' es'=>(v9v e e'&&v9v sz sz')&&(v9v g g'&&AV.sames es es')
 |.map g ks vs,.map g' ks' vs'=>v9v g g'&&(AV.sames ks ks'&&AV.sames vs vs')
 |_,_=>false
end
section
def ovr:List (Nat×AO)->(Nat->AO)->Nat->AO
 |[],σ,l=>σ l
 |(k,o)::r,σ,l=>if k=l then o else ovr r σ l
def Upd.list:Upd->List (Nat×AO)
 |none=>[]
 |some p=>[p]
theorem vpt(us:List (Nat×AO))(h:List (Nat×AO)):qav (us++h)=ovr us (qav h):=by
 funext l
 induction us with
 |nil=>rfl
 |cons p r ih =>
  obtain⟨k,o⟩:=p;simp only[v8g,qav,ovr,ih]
def OpM(P:Program)(o:Oper)(ρ:Operand->AV)(σ:Nat->AO)(v:AV)(us:List (Nat×AO))(rs:List Nat):Prop :=
 ∀(D:Prop) (X:Nat->Prop) (A:Operand->AV) (σ':Nat->AO),(∀x∈o.op.operands,A x=ρ x)->(∀l∈rs,σ' l=σ l) ->
  ∀{inj:Inj} {w:World} {a:Act} {next:Act->World->Prop} {Q:Exit->Act->World->Prop},HR X inj σ' w->TabOk P (fun b=>X b\/F inj σ' b) w->(∀x,AR X inj σ' w (A x) (a.eval x)) ->
   (∀val w' inj',HR X inj' (ovr us σ') w'->Ev D X inj σ' w inj' (ovr us σ') w'->AR X inj' (ovr us σ') w' v val->next (a.put o.dst val) w')->o.wp P a w next Q
def v1l(D:Prop)(P:Program)(o:Oper)(ρ:Operand->AV)(σ:Nat->AO)(v:AV)(us:List (Nat×AO))(rs:List Nat):Prop :=
 ∀(X:Nat->Prop) (A:Operand->AV) (σ':Nat->AO),(∀x∈o.op.operands,A x=ρ x)->(∀l∈rs,σ' l=σ l) ->
  ∀{inj:Inj} {w:World} {a:Act} {next:Act->World->Prop} {Q:Exit->Act->World->Prop},HR X inj σ' w->TabOk P (fun b=>X b\/F inj σ' b) w->(∀x,AR X inj σ' w (A x) (a.eval x)) ->
   (∀val w' inj',HR X inj' (ovr us σ') w'->Ev D X inj σ' w inj' (ovr us σ') w'->AR X inj' (ovr us σ') w' v val->next (a.put o.dst val) w')->o.wp P a w next Q
variable {C:Cx} {Q:Exit->St->Prop} {st:St}
end
section
set_option linter.constructorNameAsVariable false
inductive Opd where
 |t (p:Ps)
 |c (v:AV)
inductive Ry where
 |no
 |v (x:AV) (rs:List Nat)
 |w (x:AV) (l:Nat) (o:AO) (rs:List Nat)
 |new (x:AV) (o:AO) (rs:List Nat)
abbrev G:=Ty AV->Ty AO->Nat->Ry
def Free(h:Ty AO)(f:Nat):Prop:=∀l,f<=l->ho h l=.dead 0
def RyOk(P:Program)(o:Oper)(e:Ty AV)(h:Ty AO)(f:Nat):Ry->Prop
 |.no=>True
 |.v x rs=>OpM P o (evf (eo e)) (ho h) x [] rs
 |.w x l ob rs=>OpM P o (evf (eo e)) (ho h) x [(l,ob)] rs
 |.new x ob rs=>OpM P o (evf (eo e)) (ho h) x [(f,ob)] rs
def GOk(P:Program)(o:Oper)(g:G):Prop:=∀e h f,Free h f->o.dst.getD 0<=f->RyOk P o e h f (g e h f)
end
section
set_option linter.constructorNameAsVariable false
variable {P:Program} {dst:Option Tmp} {ty:TypeId} {pos:String} {af:Array Edge} {gd:Option (Nat×Bool)}
end
section
structure EvM where
 v:AV
 us:List (Nat×AO)
 rs:List Nat
def EvM.ks(e:EvM):List Nat:=e.us.map (·.1)
def q77(C:Cx)(ops:Array Oper)(o:Oper)(I:Nat->AV)(σ:Nat->AO)(e:EvM):Prop :=
 qb2 C.N o=true/\((qqi ops I o=some true/\v1l C.D C.P o (evf I) σ e.v e.us e.rs)\/(qqi ops I o=some false/\e=⟨.p (.tup []),[],[]⟩))
theorem v1l.frame{D:Prop}{P:Program}{o:Oper}{ρ A:Operand->AV}{σ τ:Nat->AO}{v:AV}{us:List (Nat×AO)}{rs:List Nat}(h:v1l D P o ρ σ v us rs)(hρ:∀x∈o.op.operands,ρ x=A x)(E:∀l∈rs,τ l=σ l):v1l D P o A τ v us rs :=
 fun X I H h1 M=>h X I H (fun x J=>(h1 x J).trans (hρ x J).symm) fun l hl=>(M l hl).trans (E l hl)
theorem q77.frame{C:Cx}{ops:Array Oper}{o:Oper}{I A:Nat->AV}{σ τ:Nat->AO}{e:EvM}(h:q77 C ops o I σ e)(M:∀t∈o.looksAt ops,A t=I t)(E:∀l∈e.rs,τ l=σ l) :
  q77 C ops o A τ e:=by
 obtain⟨W,h⟩:=h;have Z:qqi ops A o=qqi ops I o:=by
  unfold qqi;split
  ·rfl
  ·rename_i j O J;split
   ·rename_i d H;rw[M d (by unfold Oper.looksAt;refine List.mem_append.2 (.inr ?_);rw[J];simp[H])]
   ·rfl
 refine⟨W,?_⟩;rw[Z];rcases h with⟨h1,U⟩|h
 ·refine .inl ⟨h1,U.frame (fun x V=>?_) E⟩;cases x with
  |tmp t=>exact(M t (qqk V)).symm
  |_=>rfl
 ·exact .inr h
def apM(ops:Array Oper):List EvM->Nat->(Nat->Bool)->(Nat->AV)×(Nat->AO)->(Nat->AV)×(Nat->AO)
 |[],_,_,s=>s
 |e::es,i,D,s=>apM ops es (i+1) D (if D i then(qxs s.1 ((ops[i]?).bind (·.dst)) e.v,ovr e.us s.2) else s)
def q78(C:Cx)(ops:Array Oper):List EvM->Nat->(Nat->AV)×(Nat->AO)->Prop
 |[],_,_=>True
 |e::es,i,s=>(∃o,ops[i]?=some o/\q77 C ops o s.1 s.2 e)/\q78 C ops es (i+1) (qxs s.1 ((ops[i]?).bind (·.dst)) e.v,ovr e.us s.2)
theorem q78.at{C:Cx}{ops:Array Oper}:∀{es:List EvM} {i:Nat} {s:(Nat->AV)×(Nat->AO)},q78 C ops es i s->∀j e,i<=j->es[j-i]?=some e ->
  ∃o,ops[j]?=some o/\q77 C ops o (apM ops es i (fun m=>decide (m<j)) s).1 (apM ops es i (fun m=>decide (m<j)) s).2 e
 |[],i,s,h,j,e,hj,he=>by simp at he
 | e0 :: es,i,s,h,j,e,hj,he=>by
  obtain⟨⟨o,ho,I⟩,A⟩:=h;have E:∀(es':List EvM) (m:Nat) (s':(Nat->AV)×(Nat->AO)),j<=m->apM ops es' m (fun m=>decide (m<j)) s'=s':=by
   intro es'
   induction es' with
   |nil=>intro m s' _;rfl
   |cons x xs ih=>intro m s' M;simp only[apM];rw[if_neg (by simp;omega)];exact ih (m+1) s' (by omega)
  by_cases H:j=i
  ·grind
  ·have J:i<j:=by omega
   have:=q78.at A j e (by omega) (by rw[show j-i=(j-(i+1))+1 by omega]at he;simpa using he);simp only[apM]
   grind
inductive DChM (C:Cx) (ops:Array Oper):List Oper->St->List EvM->St->Prop
 |nil {st}:DChM C ops [] st [] st
 | cons {o rest st e es st'} (hd:qb2 C.N o=true) (h:(qbh ops st.env o=some true∧v1l C.D C.P o (ev st.env) st.sig e.v e.us e.rs)∨(qbh ops st.env o=some false∧e=⟨.p (.tup []),[],[]⟩))
   (hr:DChM C ops rest ⟨qfa st.env o.dst e.v,e.us++st.heap⟩ es st'):DChM C ops (o::rest) st (e::es) st'
theorem DChM.chain{C:Cx}{ops:Array Oper}{l:List Oper}{st:St}{es:List EvM}{st':St}(h:DChM C ops l st es st'):∀i,(∀j,j<l.length->ops[i+j]?=l[j]?) ->
  es.length=l.length/\q78 C ops es i (st.env.get,st.sig)/\apM ops es i (fun _=>true) (st.env.get,st.sig)=(st'.env.get,st'.sig):=by
 induction h with
 |nil=>intro i hi;exact⟨rfl,trivial,rfl⟩
 | @cons o rest st e es st' hd h hr ih =>
  intro i hi;have h0:ops[i]?=some o:=by have:=hi 0 (by simp);simpa using this
  obtain⟨A,h1,E⟩:=ih (i+1) (fun j I=>by have:=hi (j+1) (by simp;omega);rw[show i+1+j=i+(j+1) by omega,this];simp);have H:((qxs st.env.get ((ops[i]?).bind (·.dst)) e.v,ovr e.us st.sig):(Nat->AV)×(Nat->AO))=((⟨qfa st.env o.dst e.v,e.us++st.heap⟩:St).env.get,(⟨qfa st.env o.dst e.v,e.us++st.heap⟩:St).sig):=by
   rw[h0];simp only[v7m,qzs,St.sig,vpt]
  refine⟨by simp[A],⟨⟨o,h0,hd,?_⟩,?_⟩,?_⟩
  ·rw[q0k,qqj];exact h
  ·grind
  ·simp only[apM,if_true]
   grind
variable {C:Cx} {Q:Exit->St->Prop} {st:St}
section
variable {X X':Nat->Prop} {inj inj':Inj} {σ σ':Nat->AO} {w:World}
theorem v1m(A:∀b,b<w.heap.size->(X' b\/F inj' σ' b)->X b\/F inj σ b){x:PV}{v:Value}(h:PR (fun b=>X b\/F inj σ b) w x v):PR (fun b=>X' b\/F inj' σ' b) w x v :=
 PR.keep ⟨v7a _,fun _ _ _=>rfl,fun b E H hn=>H (A b E hn)⟩ x v h
mutual
theorem vkq(H:∀b,b<w.heap.size->(X' b\/F inj' σ' b)->X b\/F inj σ b):∀(x:AV) (v:Value),(∀l∈q45 x,σ' l=σ l/\inj' l=inj l)->AR X inj σ w x v->AR X' inj' σ' w x v
 |.any,_,_,_=>trivial
 |.p x,v,_,h=>v1m H h
 |.nils,_,_,h=>h
 |.loc l g i off,v,hl,h=>by
  obtain⟨h1,A⟩:=hl l (by simp[q45])
  obtain⟨I,E⟩:=h
  refine⟨I,fun o ho=>?_⟩
  rw[h1]at ho
  rw[A]
  exact E o ho
 |.own l g off len,v,hl,h=>by
  obtain⟨h1,A⟩:=hl l (by simp[q45])
  obtain⟨I,E⟩:=h
  refine⟨I,fun o ho=>?_⟩
  rw[h1]at ho
  rw[A]
  exact E o ho
 |.mapo l g,v,hl,h=>by
  obtain⟨h1,A⟩:=hl l (by simp[q45])
  obtain⟨I,E⟩:=h
  refine⟨I,fun o ho=>?_⟩
  rw[h1]at ho
  rw[A]
  exact E o ho
 |.func fn cs,v,hl,h=>by
  obtain⟨vs,h1,A⟩:=h
  exact⟨vs,h1,qpc H cs vs (by simpa[q45] using hl) A⟩
 |.agg cs,v,hl,h=>by
  obtain⟨vs,h1,A,J⟩:=h
  exact⟨vs,h1,qpc H cs vs (by simpa[q45] using hl) A,J⟩
 |.tup cs,v,hl,h=>by
  obtain⟨vs,h1,A⟩:=h
  exact⟨vs,h1,qpc H cs vs (by simpa[q45] using hl) A⟩
theorem qpc(H:∀b,b<w.heap.size->(X' b\/F inj' σ' b)->X b\/F inj σ b):∀(A:List AV) (vs:List Value),(∀l∈qql A,σ' l=σ l/\inj' l=inj l)->ARs X inj σ w A vs->ARs X' inj' σ' w A vs
 |[],_,_,h=>h
 |x::A,_,hl,h=>by
  obtain⟨v,r,rfl,h1,I⟩:=h
  exact⟨v,r,rfl,vkq H x v (fun l E=>hl l (by simp[qql,E])) h1,qpc H A r (fun l E=>hl l (by simp[qql,E])) I⟩
end
theorem vkr{l:Nat}{o:AO}(M:∀b,b<w.heap.size->(X' b\/F inj' σ' b)->X b\/F inj σ b)(W:∀b c,inj l=some (b,c)->o.alive=true->¬X b->¬X' b)(hi:inj' l=inj l)(hl:∀k∈qy5 o,σ' k=σ k/\inj' k=inj k)
  (h:OR X inj σ w l o):OR X' inj' σ' w l o:=by
 cases o with
 |dead g=>trivial
 |arr e sz g es =>
  obtain⟨vs,U,O,o3,I⟩:=h;refine⟨vs,qpc M es vs (by simpa[qy5] using hl) U,O,o3,?_⟩;rw[hi];rcases I with I|⟨b,c,cur,E,J,V⟩
  ·exact .inl I
  ·exact .inr ⟨b,c,cur,E,W b c E rfl J,V⟩
 |map g ks vs =>
  obtain⟨b,c,ms,A,E,J,V,p4,Z⟩:=h;refine⟨b,c,ms,A,by rw[hi];exact E,W b c E rfl J,V,qpc M ks _ (fun k H=>hl k (by simp[qy5,H])) p4,qpc M vs _ (fun k H=>hl k (by simp[qy5,H])) Z⟩
end
def qrm(σ:Nat->AO)(S:List Nat)(l:Nat):AO:=if l∈S then σ l else .dead 0
def v1n(σ:Nat->AO)(S:List Nat):Prop:=∀l∈S,∀k∈qy5 (σ l),k∈S
def XO(X:Nat->Prop)(inj:Inj)(σ:Nat->AO)(S:List Nat)(b:Nat):Prop:=X b\/∃l c,l ∉ S/\(σ l).alive=true/\inj l=some (b,c)
section
variable {X:Nat->Prop} {inj:Inj} {σ:Nat->AO} {w:World} {S:List Nat}
theorem qmi{l:Nat}(h:(qrm σ S l).alive=true):l∈S/\qrm σ S l=σ l:=by
 unfold qrm at h ⊢;by_cases hl:l∈S
 ·simp[hl]
 ·simp[hl,AO.alive]at h
theorem vks(b:Nat):(XO X inj σ S b\/F inj (qrm σ S) b)↔(X b\/F inj σ b):=by
 constructor
 ·rintro((h|⟨l,c,h1,h2,h3⟩)|⟨l,c,o,h1,h2,_,h3⟩)
  ·exact .inl h
  ·exact .inr ⟨l,c,σ l,rfl,h2,rfl,h3⟩
  ·obtain⟨E,A⟩:=qmi (h1▸h2);exact .inr ⟨l,c,o,by rw[<-h1,A],h2,rfl,h3⟩
 ·rintro(h|⟨l,c,o,h1,h2,_,h3⟩)
  ·exact .inl (.inl h)
  ·by_cases hl:l∈S
   ·exact .inr ⟨l,c,o,by unfold qrm;rw[if_pos hl];exact h1,h2,rfl,h3⟩
   ·exact .inl (.inr ⟨l,c,hl,by rw[h1];exact h2,h3⟩)
theorem HR.part(h:HR X inj σ w)(hs:v1n σ S):HR (XO X inj σ S) inj (qrm σ S) w:=by
 refine⟨fun l o ho=>?_,fun l A o o' b c U h1 V h3 Z h5 h6=>?_,fun b O=>?_⟩
 ·by_cases hl:l∈S
  ·have E:σ l=o:=by unfold qrm at ho;rw[if_pos hl]at ho;exact ho
   refine vkr (fun b _ J=>(vks b).1 J) (fun b c hi ha hx=>?_) rfl (fun k W=>?_) (h.obj l o E)
   ·rintro(J|⟨m,U,M,H,I⟩)
    ·exact hx J
    ·have:=h.inj1 l m o (σ m) b c U E rfl ha H hi I;subst this;exact M hl
   ·rw[<-E]at W;exact⟨by unfold qrm;rw[if_pos (hs l hl k W)],rfl⟩
  ·unfold qrm at ho;rw[if_neg hl]at ho;subst ho;trivial
 ·obtain⟨M,H⟩:=qmi (l:=l) (by rw[h1];exact h3);obtain⟨I,q4⟩:=qmi (l:=A) (by rw[V];exact Z);exact h.inj1 l A o o' b c U (by rw[<-H];exact h1) (by rw[<-q4];exact V) h3 Z h5 h6
 ·rcases O with O|⟨l,c,M,H,I⟩
  ·exact h.xlt b O
  ·exact(h.flt (D:=fun _=>false) ⟨l,c,σ l,rfl,H,rfl,I⟩).1
end
theorem HR.frame{D:Prop}{X:Nat->Prop}{inj inj1:Inj}{σ τ:Nat->AO}{w w':World}{S E:List Nat}(h:HR X inj σ w)(hs:v1n σ S)(hsub:∀l∈S,l∈E)(hnew:∀l∈E,l ∉ S->σ l=.dead 0)
  (h1:HR (XO X inj σ S) inj1 τ w') (hτ:∀l,l ∉ E->τ l=.dead 0) (hs':v1n τ E) (W:Ev D (XO X inj σ S) inj (qrm σ S) w inj1 τ w') :
  HR X (fun l=>if l∈E then inj1 l else inj l) (fun l=>if l∈E then τ l else σ l) w'/\Ev D X inj σ w (fun l=>if l∈E then inj1 l else inj l) (fun l=>if l∈E then τ l else σ l) w' /\
  ∀x v,(∀l∈q45 x,l∈E)->AR (XO X inj σ S) inj1 τ w' x v->AR X (fun l=>if l∈E then inj1 l else inj l) (fun l=>if l∈E then τ l else σ l) w' x v:=by
 -- what is protected
 have hF:∀b,b<w'.heap.size->(X b\/F (fun l=>if l∈E then inj1 l else inj l) (fun l=>if l∈E then τ l else σ l) b)->XO X inj σ S b\/F inj1 τ b:=by
  rintro b _ (hb|⟨l,c,o,H,I,_,J⟩)
  ·exact .inl (.inl hb)
  ·by_cases hl:l∈E
   ·simp only[hl,if_true]at H J;exact .inr ⟨l,c,o,H,I,rfl,J⟩
   ·simp only[hl,if_false]at H J;exact .inl (.inr ⟨l,c,fun hh=>hl (hsub l hh),by rw[H];exact I,J⟩)
 have hev:Ev D X inj σ w (fun l=>if l∈E then inj1 l else inj l) (fun l=>if l∈E then τ l else σ l) w':=by
  refine⟨W.os,W.tape,W.output,W.dr,W.size,W.fz,fun b hb hf=>?_,fun b hb=>?_,fun l=>?_⟩
  ·refine W.blk b hb fun hf'=>hf ?_
   obtain⟨l,c,o,H,I,_,J⟩:=hf';obtain⟨r1,r2⟩:=qmi (H▸I);exact⟨l,c,o,by rw[<-H,r2],I,rfl,J⟩
  ·obtain⟨l,c,o,H,I,_,J⟩:=hb;by_cases hl:l∈E
   ·simp only[hl,if_true]at H J;rcases W.fp b ⟨l,c,o,H,I,rfl,J⟩ with⟨k,V,o',r1,r2,_,r3⟩|r
    ·obtain⟨t1,t2⟩:=qmi (r1▸r2);exact .inl ⟨k,V,o',by rw[<-r1,t2],r2,rfl,r3⟩
    ·exact .inr r
   ·simp only[hl,if_false]at H J;exact .inl ⟨l,c,o,H,I,rfl,J⟩
  ·by_cases hl:l∈E
   ·simp only[hl,if_true];have:=W.objs l;by_cases hlS:l∈S
    ·unfold qrm at this;rw[if_pos hlS]at this;exact this
    ·unfold qrm at this;rw[if_neg hlS]at this;rw[hnew l hl hlS];exact this
   ·simp only[hl,if_false];exact(OEv.refl _).of fun _=>trivial
 have hval:∀x v,(∀l∈q45 x,l∈E)->AR (XO X inj σ S) inj1 τ w' x v->AR X (fun l=>if l∈E then inj1 l else inj l) (fun l=>if l∈E then τ l else σ l) w' x v:=fun x v hx hv =>
  vkq hF x v (fun l hl=>by simp[hx l hl]) hv
 refine⟨⟨fun l o ho=>?_,fun l A o o' b c V H I J q4 q5 Z=>?_,fun b hb=>v7d (h.xlt b hb) W.size⟩,hev,hval⟩
 ·by_cases hl:l∈E
  ·simp only[hl,if_true]at ho;refine vkr hF (fun b c hi ha hx hX=>hx (.inl hX)) (by simp[hl]) (fun k hk=>?_) (h1.obj l o ho);rw[<-ho]at hk;have:=hs' l hl k hk;simp[this]
  ·simp only[hl,if_false]at ho;have h0:=h.obj l o ho;have hlS:l ∉ S:=fun hh=>hl (hsub l hh)
   have blk:∀b c,inj l=some (b,c)->o.alive=true->b<w.heap.size->w'.heap[b]?=w.heap[b]?:=fun b c hi ha hb=>W.blk b hb fun hf=>by
    obtain⟨k,V,ok,r1,r2,_,r3⟩:=hf;obtain⟨t1,t2⟩:=qmi (r1▸r2);have:=h.inj1 l k o ok b c V ho (by rw[<-t2];exact r1) ha r2 hi r3;subst this;exact hlS t1
   cases o with
   |dead g=>trivial
   |arr e sz g es =>
    obtain⟨vs,U,O,o3,o4⟩:=h0;refine⟨vs,ARs.ev hev h.xlt es vs U,O,o3,?_⟩;simp only[hl,if_false];rcases o4 with o4|⟨b,c,cur,p1,p2,p3,p4⟩
    ·exact .inl o4
    ·exact .inr ⟨b,c,cur,p1,p2,by rw[blk b c p1 rfl (v5d.1 p3).1];exact p3,p4⟩
   |map g ks vs =>
    obtain⟨b,c,ms,clock,p1,p2,p3,p4,p5⟩:=h0;refine⟨b,c,ms,clock,by simp only[hl,if_false];exact p1,p2,by rw[blk b c p1 rfl (v5d.1 p3).1];exact p3,ARs.ev hev h.xlt ks _ p4,ARs.ev hev h.xlt vs _ p5⟩
 · -- different blocks
  have key:∀(l A:Nat) (o o':AO) (b c V:Nat),l∈E->A ∉ E->τ l=o->σ A=o'->o.alive=true->o'.alive=true->inj1 l=some (b,c)->inj A=some (b,V)->False:=by
   intro l A o o' b c V hl M H I J q4 q5 Z;have hb:=(h.flt (D:=fun _=>false) ⟨A,V,o',I,q4,rfl,Z⟩).1;rcases W.fp b ⟨l,c,o,H,J,rfl,q5⟩ with⟨k,ck,ok,r1,r2,_,r3⟩|r
   ·obtain⟨t1,t2⟩:=qmi (r1▸r2);have:=h.inj1 k A ok o' b ck V (by rw[<-t2];exact r1) I r2 q4 r3 Z;subst this;exact M (hsub _ t1)
   ·omega
  by_cases hl:l∈E<;>by_cases M:A∈E
  ·simp only[hl,M,if_true]at H I q5 Z;exact h1.inj1 l A o o' b c V H I J q4 q5 Z
  ·simp only[hl,M,if_true,if_false]at H I q5 Z;exact(key l A o o' b c V hl M H I J q4 q5 Z).elim
  ·simp only[hl,M,if_true,if_false]at H I q5 Z;exact(key A l o' o b V c M hl I H q4 J Z q5).elim
  ·simp only[hl,M,if_false]at H I q5 Z;exact h.inj1 l A o o' b c V H I J q4 q5 Z
end
section
variable {D:Prop}
mutual
def shA(δ:Nat->Nat):AV->AV
 |.any=>.any
 |.p x=>.p x
 |.nils=>.nils
 |.loc l g i off=>.loc l (g+δ l) i off
 |.own l g off len=>.own l (g+δ l) off len
 |.mapo l g=>.mapo l (g+δ l)
 |.func fn cs=>.func fn (quv δ cs)
 |.agg cs=>.agg (quv δ cs)
 |.tup cs=>.tup (quv δ cs)
def quv(δ:Nat->Nat):List AV->List AV
 |[]=>[]
 |v::r=>shA δ v::quv δ r
end
variable {δ:Nat->Nat} {d:Nat}
def shO(δ:Nat->Nat)(d:Nat):AO->AO
 |.dead g=>.dead (g+d)
 |.arr e sz g es=>.arr e sz (g+d) (quv δ es)
 |.map g ks vs=>.map (g+d) (quv δ ks) (quv δ vs)
def shS(δ:Nat->Nat)(σ:Nat->AO):Nat->AO:=fun l=>shO δ (δ l) (σ l)
def shH(δ:Nat->Nat):List (Nat×AO)->List (Nat×AO)
 |[]=>[]
 |(l,o)::r=>(l,shO δ (δ l) o)::shH δ r
theorem qk0(δ:Nat->Nat):∀(l:List AV),(quv δ l).length=l.length
 |[]=>rfl
 |_::r=>by simp only[quv,v8r,qk0 δ r]
theorem q46(δ:Nat->Nat):∀(l:List PV),quv δ (l.map AV.p)=l.map AV.p
 |[]=>rfl
 |x::r=>by simp only[List.map_cons,quv,shA,q46 δ r]
theorem qlr(δ:Nat->Nat)(d:Nat)(o:AO):(shO δ d o).gen=o.gen+d:=by cases o<;>rfl
theorem qqm(δ:Nat->Nat)(d:Nat)(o:AO):(shO δ d o).alive=o.alive:=by cases o<;>rfl
theorem vkt{o:AO}{e sz g:Nat}{es:List AV}(h:shO δ d o=.arr e sz (g+d) es):∃A,o=.arr e sz g A/\es=quv δ A:=by
 cases o with
 |arr e' sz' g' es' =>
  simp only[shO,AO.arr.injEq]at h;obtain⟨rfl,rfl,E,rfl⟩:=h;exact⟨es',by rw[v9u E],rfl⟩
 |dead g'=>simp[shO]at h
 |map g' ks vs=>simp[shO]at h
theorem vvn{o:AO}{g:Nat}{ks vs:List AV}(h:shO δ d o=.map (g+d) ks vs):∃A E,o=.map g A E/\ks=quv δ A/\vs=quv δ E:=by
 cases o with
 |map g' k' v' =>
  simp only[shO,AO.map.injEq]at h;obtain⟨H,rfl,rfl⟩:=h;exact⟨k',v',by rw[v9u H],rfl,rfl⟩
 |dead g'=>simp[shO]at h
 |arr e sz g' es=>simp[shO]at h
section
variable {X:Nat->Prop} {inj inj':Inj} {σ σ':Nat->AO} {w w':World} {δ:Nat->Nat}
variable {v:Value}
theorem shF(E:Nat->Bool)(b:Nat):q2f E inj (shS δ σ) b↔q2f E inj σ b:=by
 constructor
 ·rintro⟨l,c,o,h1,A,I,H⟩;exact⟨l,c,σ l,rfl,by rw[<-h1]at A;simpa[shS,qqm] using A,I,H⟩
 ·rintro⟨l,c,o,h1,A,I,H⟩;exact⟨l,c,shS δ σ l,rfl,by rw[<-h1]at A;simpa[shS,qqm] using A,I,H⟩
theorem shFe(inj:Inj)(σ:Nat->AO)(δ:Nat->Nat):F inj (shS δ σ)=F inj σ:=funext fun b=>propext (shF _ b)
theorem vvo{l g i off:Nat}:vip inj (shS δ σ) l (g+δ l) i off v↔vip inj σ l g i off v:=by
 constructor
 ·rintro⟨h1,E⟩;refine⟨h1,fun o ho=>?_⟩;obtain⟨I,A⟩:=E _ rfl;simp only[shS,ho,qlr]at I A;refine⟨by omega,fun M e sz es J=>A (by omega) e sz (quv δ es) ?_⟩;rw[J];rfl
 ·rintro⟨h1,E⟩;refine⟨h1,fun o ho=>?_⟩;obtain⟨I,A⟩:=E _ rfl;subst ho;simp only[shS,qlr];refine⟨by omega,fun M e sz es J=>?_⟩;obtain⟨H,O,U⟩:=vkt J;exact A (by omega) e sz H O
theorem vvp{l g off len:Nat}:ve6 inj (shS δ σ) l (g+δ l) off len v↔ve6 inj σ l g off len v:=by
 constructor
 ·rintro⟨h1,E⟩;refine⟨h1,fun o ho=>?_⟩;obtain⟨I,A⟩:=E _ rfl;simp only[shS,ho,qlr]at I A;refine⟨by omega,fun M e sz es J=>?_⟩;have:=A (by omega) e sz (quv δ es) (by rw[J];rfl);rw[qk0]at this;exact this
 ·rintro⟨h1,E⟩;refine⟨h1,fun o ho=>?_⟩;obtain⟨I,A⟩:=E _ rfl;subst ho;simp only[shS,qlr];refine⟨by omega,fun M e sz es J=>?_⟩;obtain⟨H,O,U⟩:=vkt J;rw[U,qk0];exact A (by omega) e sz H O
theorem vvq{l g:Nat}:vsc inj (shS δ σ) l (g+δ l) v↔vsc inj σ l g v:=by
 constructor
 ·rintro⟨h1,E⟩;refine⟨h1,fun o ho=>?_⟩;obtain⟨I,A⟩:=E _ rfl;simp only[shS,ho,qlr]at I A;exact⟨by omega,fun M ks vs H=>A (by omega) (quv δ ks) (quv δ vs) (by rw[H];rfl)⟩
 ·rintro⟨h1,E⟩;refine⟨h1,fun o ho=>?_⟩;obtain⟨I,A⟩:=E _ rfl;subst ho;simp only[shS,qlr];refine⟨by omega,fun M ks vs H=>?_⟩;obtain⟨J,U,O,_,_⟩:=vvn H;exact A (by omega) J U O
mutual
theorem v1o:∀(x:AV) (v:Value),AR X inj (shS δ σ) w (shA δ x) v↔AR X inj σ w x v
 |.any,_=>v9n
 |.p x,v=>by
  simp only[shA,AR]
  rw[show(fun b=>X b\/F inj (shS δ σ) b)=(fun b=>X b\/F inj σ b) from by rw[shFe]]
 |.nils,_=>v9n
 |.loc l g i off,v=>vvo
 |.own l g off len,v=>vvp
 |.mapo l g,v=>vvq
 |.func fn cs,v=>by
  simp only[shA,AR]
  exact exists_congr fun vs=>and_congr_right fun _=>qyp cs vs
 |.agg cs,v=>by
  simp only[shA,AR]
  exact exists_congr fun vs=>and_congr_right fun _=>and_congr_left fun _=>qyp cs vs
 |.tup cs,v=>by
  simp only[shA,AR]
  exact exists_congr fun vs=>and_congr_right fun _=>qyp cs vs
theorem qyp:∀(A:List AV) (vs:List Value),ARs X inj (shS δ σ) w (quv δ A) vs↔ARs X inj σ w A vs
 |[],_=>v9n
 |x::A,vs=>by
  simp only[quv,ARs]
  exact exists_congr fun v=>exists_congr fun r=>and_congr_right fun _=>and_congr (v1o x v) (qyp A r)
end
theorem v1p{l:Nat}(o:AO):OR X inj (shS δ σ) w l (shO δ (δ l) o)↔OR X inj σ w l o:=by
 cases o with
 |dead g=>exact v9n
 | arr e sz g es =>
  simp only[shO,OR,qk0];refine exists_congr fun vs=>and_congr (qyp es vs) (and_congr_right fun _=>and_congr_right fun _=>?_)
  have:quv δ es=[]↔es=[]:=by
   constructor
   ·intro h;have:=qk0 δ es;rw[h]at this;exact v5x this.symm
   ·rintro rfl;rfl
  rw[this]
 |map g ks vs =>
  simp only[shO,OR];exact exists_congr fun b=>exists_congr fun c=>exists_congr fun E=>exists_congr fun A=>and_congr_right fun _=>and_congr_right fun _=>and_congr_right fun _=>and_congr (qyp ks _) (qyp vs _)
theorem v1q:HR X inj (shS δ σ) w↔HR X inj σ w:=by
 constructor
 ·intro h;refine⟨fun l o ho=>?_,fun l A o o' b c O h1 I H E J M=>?_,h.xlt⟩
  ·exact(v1p o).1 (h.obj l _ (by simp only[shS,ho]))
  ·exact h.inj1 l A _ _ b c O rfl rfl (by simp only[shS,qqm,h1,H]) (by simp only[shS,qqm,I,E]) J M
 ·intro h;refine⟨fun l o ho=>?_,fun l A o o' b c O h1 I H E J M=>?_,h.xlt⟩
  ·subst ho;exact(v1p _).2 (h.obj l _ rfl)
  ·subst h1 I;simp only[shS,qqm]at H E;exact h.inj1 l A _ _ b c O rfl rfl H E J M
theorem v1r{o o':AO}{d:Nat}{p:Prop}(h:OEv o o' p):OEv (shO δ d o) (shO δ d o') p:=by
 obtain⟨h1,J⟩:=h;refine⟨by rw[qlr,qlr];omega,fun ha M=>?_⟩;rw[qqm]at ha;rw[qlr,qlr]at M;obtain⟨O,V⟩:=J ha (by omega);refine⟨O,?_⟩;rcases V with⟨e,sz,es,es',A,H,U⟩|⟨ks,vs,E,I,A,H⟩
 ·refine .inl ⟨e,sz,quv δ es,quv δ es',?_,?_,?_⟩
  ·rw[qlr];conv=>lhs;rw[A]
   rfl
  ·rw[qlr,H];rfl
  ·rw[qk0,qk0,U]
 ·refine .inr ⟨quv δ ks,quv δ vs,quv δ E,quv δ I,?_,?_⟩
  ·rw[qlr];conv=>lhs;rw[A]
   rfl
  ·rw[qlr,H];rfl
theorem Ev_sh(h:Ev D X inj σ w inj' σ' w'):Ev D X inj (shS δ σ) w inj' (shS δ σ') w' :=
 ⟨h.os,h.tape,h.output,h.dr,h.size,h.fz,fun b E H=>h.blk b E fun A=>H ((shF _ b).2 A),fun b E=>(h.fp b ((shF _ b).1 E)).imp (fun A=>(shF _ b).2 A) id,fun l=>v1r (h.objs l)⟩
end
def Ip(D:Prop)(P:Program)(k:FuncId)(avs:List AV)(H:List (Nat×AO))(v:AV)(A:List (Nat×AO)):Prop :=
 HasBody P k/\∀(X:Nat->Prop) (inj:Inj) (w:World) (vs:List Value),HR X inj (qav H) w->TabOk P (fun b=>X b\/F inj (qav H) b) w->ARs X inj (qav H) w avs vs ->
  Calls P k vs.toArray w fun e w'=>∃val,e=.returned val/\∃inj',HR X inj' (qav A) w'/\Ev D X inj (qav H) w inj' (qav A) w'/\AR X inj' (qav A) w' v val
theorem Ip.of_awp{P:Program}{k:FuncId}{avs:List AV}{H:List (Nat×AO)}{v:AV}{fn:Func}{c:Code}{N:Nat}(B:Nat)(S:St)(U:HasBody P k)(hf:P.funcs[k]?=some fn)(W:fn.body=some c)(V:fn.ntmps=N)(hn:avs.length<=N)
  (hr:vh3 P S fn.results.toList=some v)
  (h:∀X inj w hT,AWp ⟨P,N,B,X,H,inj,w,D,hT⟩ c (tE ⟨P,N,B,X,H,inj,w,D,hT⟩ .ret S) ⟨qrg 0 avs,H⟩):Ip D P k avs H v S.heap:=by
 subst V;refine⟨U,fun X inj w vs Z hT A=>?_⟩;have hl:=A.length;refine calls_of_wp hf W (wp_mono (h X inj w hT inj _ w ⟨fun t=>?_,?_,rfl,Z,Ev.refl _ _ _ _⟩) ?_)
 ·have:=qpa avs vs 0 t A;simp only[v9f,if_true,v7k]at this;have e:(vs.toArray++v9m (fn.ntmps-vs.toArray.size) undef).getD t undef=vs.getD t undef:=by
   by_cases M:t<vs.length
   ·simp[v5c,M]
   ·simp only[v9k,v5c,v6v,M,if_false,v9l];rw[v8i,List.getElem?_eq_none (by omega)];split<;>rfl
  rw[e];exact this
 ·simp[<-hl];omega
 ·rintro e a' w' ⟨s,inj0,J,rfl,I⟩;have E:=I.sr J;obtain⟨val,h1,O⟩:=qug E hr;exact⟨E.defers,val,h1,val,rfl,_,E.hr,E.ev,O⟩
def qf4:List (Nat×AO)->List Nat
 |[]=>[]
 |(l,_)::r=>l::qf4 r
def q79(p:Nat->Prop):List Nat->Prop
 |[]=>True
 |l::r=>p l/\q79 p r
theorem qpd{p:Nat->Prop}:∀{s:List Nat},q79 p s->∀l∈s,p l
 |_::_,h,l,hl=>by
  rcases v9s.1 hl with rfl|hl
  ·exact h.1
  ·exact qpd h.2 l hl
theorem q07:∀{H:List (Nat×AO)} {l:Nat},l ∉ qf4 H->qav H l=.dead 0
 |[],_,_=>rfl
 |(k,o)::r,l,h=>by
  simp only[qf4,v9s,not_or]at h;simp only[qav];rw[if_neg (Ne.symm h.1)];exact q07 h.2
theorem vdl(δ:Nat->Nat):∀(H:List (Nat×AO)) (l:Nat),l∈qf4 H->qav (shH δ H) l=shO δ (δ l) (qav H l)
 |(k,o)::r,l,h=>by
  simp only[shH,qav];by_cases e:k=l
  ·subst e;simp
  ·rw[if_neg e,if_neg e];simp only[qf4,v9s]at h;exact vdl δ r l (h.resolve_left fun h=>e h.symm)
theorem vdm(K:List (Nat×AO)):∀(H:List (Nat×AO)) (l:Nat),(l∈qf4 H->qav (H++K) l=qav H l)/\(l ∉ qf4 H->qav (H++K) l=qav K l)
 |[],l=>⟨(fun h=>by cases h),fun _=>rfl⟩
 |(k,o)::r,l=>by
  simp only[qf4,v9s,v8g,qav];by_cases e:k=l
  ·subst e;simp
  ·rw[if_neg e,if_neg e];have:=vdm K r l;exact⟨fun h=>this.1 (h.resolve_left fun h=>e h.symm),fun h=>this.2 fun A=>h (.inr A)⟩
theorem vdn(δ:Nat->Nat):∀(H:List (Nat×AO)),qf4 (shH δ H)=qf4 H
 |[]=>rfl
 |(k,o)::r=>by simp only[shH,qf4,vdn δ r]
def q08(S:List Nat):List (Nat×AO)->Prop
 |[]=>True
 |(_,o)::r=>q79 (fun k=>q93 k S=true) (qy5 o)/\q08 S r
theorem qx2{S:List Nat}:∀{H:List (Nat×AO)},q08 S H->∀l,∀k∈qy5 (qav H l),k∈S
 |[],_,l,k,hk=>by simp[qav,qy5]at hk
 |(j,o)::r,h,l,k,hk=>by
  simp only[qav]at hk;split at hk
  ·have:=qpd h.1 k hk;rw[q06]at this;exact of_decide_eq_true this
  ·exact qx2 h.2 l k hk
theorem q09:∀(l:List PV),qql (l.map AV.p)=[]
 |[]=>rfl
 |x::r=>by simp only[List.map_cons,qql,q45,q09 r,List.append_nil]
mutual
theorem vku(δ:Nat->Nat):∀(x:AV),q45 (shA δ x)=q45 x
 |.any=>rfl
 |.p _=>rfl
 |.nils=>rfl
 |.loc ..=>rfl
 |.own ..=>rfl
 |.mapo ..=>rfl
 |.func _ cs=>by simp only[shA,q45,qul δ cs]
 |.agg cs=>by simp only[shA,q45,qul δ cs]
 |.tup cs=>by simp only[shA,q45,qul δ cs]
theorem qul(δ:Nat->Nat):∀(A:List AV),qql (quv δ A)=qql A
 |[]=>rfl
 |x::A=>by simp only[quv,qql,vku δ x,qul δ A]
end
theorem vdo(δ:Nat->Nat)(d:Nat)(o:AO):qy5 (shO δ d o)=qy5 o:=by
 cases o<;>simp only[shO,qy5,qul]
def dlt:List (Nat×Nat)->Nat->Nat
 |[],_=>0
 |(k,d)::r,l=>if k=l then d else dlt r l
def dks:List (Nat×Nat)->List Nat
 |[]=>[]
 |(k,_)::r=>k::dks r
theorem vkv:∀{A:List (Nat×Nat)} {l:Nat},l ∉ dks A->dlt A l=0
 |[],_,_=>rfl
 |(k,d)::r,l,h=>by
  simp only[dks,v9s,not_or]at h;simp only[dlt];rw[if_neg (Ne.symm h.1)];exact vkv h.2
variable {C:Cx} {Q:Exit->St->Prop} {st:St}
theorem AL_ip{ops:Array Oper}{o:Oper}{rest:List Oper}{f:Operand}{args:Array Operand}{J:Array TypeId}{k:FuncId}{avs V:List AV}{H E:List (Nat×AO)}{v:AV}(A:List (Nat×Nat))
  (hp:Ip C.D C.P k V H v E) (ho:o.op=.call ⟨.value f,args,J⟩) (hg:qbh ops st.env o=some true) (hd:qb2 C.N o=true) (hc:qb4 st.env f args.toList=some (k,avs)) (ha:quv (dlt A) V=avs)
  (hds:q79 (fun l=>q93 l (qf4 H)=true) (dks A))
  (hS:q79 (fun l=>qav st.heap l=shO (dlt A) (dlt A l) (qav H l)) (qf4 H)) (hR:q08 (qf4 H) H) (hA:q79 (fun l=>q93 l (qf4 H)=true) (qql V))
  (hsub:q79 (fun l=>q93 l (qf4 E)=true) (qf4 H)) (hnew:q79 (fun l=>q93 l (qf4 H)=true\/qav st.heap l=.dead 0) (qf4 E)) (hR':q08 (qf4 E) E) (hv:q79 (fun l=>q93 l (qf4 E)=true) (q45 v))
  (h:AL C ops rest Q ⟨qfa st.env o.dst (shA (dlt A) v),shH (dlt A) E++st.heap⟩):AL C ops (o::rest) Q st:=by
 have U:∀{l:Nat} {S:List Nat},q93 l S=true->l∈S:=fun hm=>by rw[q06]at hm;exact of_decide_eq_true hm
 obtain⟨hb,hW⟩:=hp;intro inj a w M;simp only[wpList,qb3 M hg,if_true];refine .inl ?_;obtain⟨vs,hrun,hars⟩:=qm0 M ho hb hc;unfold Oper.wp;rw[hrun];simp only[Oper.upon];have W:∀l∈qf4 H,st.sig l=shO (dlt A) (dlt A l) (qav H l):=qpd hS;have hd0:∀l,l ∉ qf4 H->dlt A l=0:=fun l hl=>vkv fun hh=>hl (U (qpd hds l hh))
 have hkk:∀l∈qf4 H,l∈qf4 E:=fun l hl=>U (qpd hsub l hl)
 have hsh:v1n st.sig (qf4 H):=fun l hl j hj=>by
  rw[W l hl,vdo]at hj;exact qx2 hR l j hj
 have O:qrm st.sig (qf4 H)=shS (dlt A) (qav H):=by
  funext l;unfold qrm;split
  ·rename_i hl;exact W l hl
  ·rename_i hl;simp only[shS,q07 hl,hd0 l hl,shO]
 have hin:∀l∈qql avs,qrm st.sig (qf4 H) l=st.sig l/\inj l=inj l:=fun l hl=>by
  rw[<-ha,qul]at hl;exact⟨by unfold qrm;rw[if_pos (U (qpd hA l hl))],rfl⟩
 have I:ARs (XO C.X inj st.sig (qf4 H)) inj (qrm st.sig (qf4 H)) w avs vs:=qpc (fun b _ hh=>(vks b).1 hh) _ _ hin hars;have hT':TabOk C.P (fun b=>XO C.X inj st.sig (qf4 H) b\/F inj (qrm st.sig (qf4 H)) b) w:=(qo9 M.ev).keep ⟨v7a _,fun _ _ _=>rfl,fun b _ hx hn=>hx ((vks b).1 hn)⟩;have hr':=M.hr.part hsh;rw[O]at I hT' hr';rw[<-ha]at I;rw[shFe]at hT';refine(hW (XO C.X inj st.sig (qf4 H)) inj w vs (v1q.1 hr') hT' ((qyp _ _).1 I)).mono ?_;rintro e' w' ⟨val,rfl,inj1,q1,q2,q3⟩;have t1:HR (XO C.X inj st.sig (qf4 H)) inj1 (shS (dlt A) (qav E)) w':=v1q.2 q1;have t2:Ev C.D (XO C.X inj st.sig (qf4 H)) inj (qrm st.sig (qf4 H)) w inj1 (shS (dlt A) (qav E)) w':=by rw[O];exact Ev_sh q2
 have t3:AR (XO C.X inj st.sig (qf4 H)) inj1 (shS (dlt A) (qav E)) w' (shA (dlt A) v) val:=(v1o _ _).2 q3;have hτ:∀l,l ∉ qf4 E->shS (dlt A) (qav E) l=.dead 0:=fun l hl=>by
  simp only[shS,q07 hl,hd0 l (fun hh=>hl (hkk l hh)),shO]
 have hτS:v1n (shS (dlt A) (qav E)) (qf4 E):=fun l hl j hj=>by
  simp only[shS,vdo]at hj;exact qx2 hR' l j hj
 have hnew':∀l∈qf4 E,l ∉ qf4 H->st.sig l=.dead 0:=fun l hl hn=>(qpd hnew l hl).resolve_left fun hh=>hn (U hh)
 obtain⟨z1,z2,z3⟩:=HR.frame M.hr hsh hkk hnew' t1 hτ hτS t2;have hov:(fun l=>if l∈qf4 E then shS (dlt A) (qav E) l else st.sig l)=qav (shH (dlt A) E++st.heap):=by
  funext l;have:=vdm st.heap (shH (dlt A) E) l;rw[vdn]at this;split
  ·rename_i hl;rw[this.1 hl,vdl _ _ _ hl];rfl
  ·rename_i hl;rw[this.2 hl]
 have z4:=z3 (shA (dlt A) v) val (fun l hl=>by rw[vku]at hl;exact U (qpd hv l hl)) t3;rw[hov]at z1 z2 z4;refine h (fun l=>if l∈qf4 E then inj1 l else inj l) _ _ ?_;have h3:=M.put (o:=o) (u:=none) hd M.hr (Ev.refl _ _ _ _) (v:=.any) (val:=val) trivial;refine⟨fun t=>?_,h3.size,h3.defers,z1,M.ev.trans z2⟩;cases Z:o.dst with
 |none =>
  have:=h3.env t;rw[Z]at this;simpa[qfa,Act.put] using AR.ev z2 M.hr.xlt _ _ (M.env t)
 | some d =>
  simp only[qb2,Z,decide_eq_true_eq]at hd;simp only[qfa,Act.put,Env.get];by_cases ht:d=t
  ·subst ht;rw[if_pos rfl];have:(a.tmps.setIfInBounds d val).getD d undef=val:=by simp[M.size,hd]
   rw[this];exact z4
  ·rw[if_neg ht];have:(a.tmps.setIfInBounds d val).getD t undef=a.tmps.getD t undef:=by simp[v5e ht]
   rw[this];exact AR.ev z2 M.hr.xlt _ _ (M.env t)
theorem zFo{P:Prop}(h:P:=by(repeat' refine And.intro ?_ ?_)<;>first|rfl|exact .inl rfl|exact .inr rfl|(simp;done)):P:=h
section
variable {σ τ:Type}
def q8a(B:(σ->Option τ)->σ->Option τ):Nat->σ->Option τ
 |0,_=>none
 |n+1,s=>B (q8a B n) s
end
attribute [go_sem] shA quv shO shH q46 dlt dks qf4 q79 q08 qy5 q45 qql q09
theorem zIp(A:List (Nat×Nat)){ops:Array Oper}{o:Oper}{rest:List Oper}{f:Operand}{args:Array Operand}{J:Array TypeId}{k:FuncId}{avs E:List AV}{H I:List (Nat×AO)}{v:AV}
  (hp:Ip C.D C.P k E H v I) (h:AL C ops rest Q ⟨qfa st.env o.dst (shA (dlt A) v),shH (dlt A) I++st.heap⟩)
  (ho:o.op=.call ⟨.value f,args,J⟩:=by rfl) (hg:qbh ops st.env o=some true:=by first|exact qao rfl|exact qbr rfl rfl (by exact rfl) (by exact rfl)) (hd:qb2 C.N o=true:=by rfl)
  (Z:qb4 st.env f args.toList=some (k,avs):=by simp only[go_sem,seval, *];exact rfl) (ha:quv (dlt A) E=avs:=by simp only[go_sem,seval];all_goals exact zF)
  (V:q79 (fun l=>q93 l (qf4 H)=true) (dks A):=by simp only[go_sem,seval];all_goals exact zF)
  (hS:q79 (fun l=>qav st.heap l=shO (dlt A) (dlt A l) (qav H l)) (qf4 H):=by simp only[go_sem,seval];all_goals exact zF)
  (hR:q08 (qf4 H) H:=by simp only[go_sem,seval];all_goals exact zF) (hA:q79 (fun l=>q93 l (qf4 H)=true) (qql E):=by simp only[go_sem,seval];all_goals exact zF)
  (O:q79 (fun l=>q93 l (qf4 I)=true) (qf4 H):=by simp only[go_sem,seval];all_goals exact zF) (M:q79 (fun l=>q93 l (qf4 H)=true\/qav st.heap l=.dead 0) (qf4 I):=by simp only[go_sem,seval];all_goals exact zFo)
  (U:q08 (qf4 I) I:=by simp only[go_sem,seval];all_goals exact zF) (W:q79 (fun l=>q93 l (qf4 I)=true) (q45 v):=by simp only[go_sem,seval];all_goals exact zF):AL C ops (o::rest) Q st :=
 AL_ip A hp ho hg hd Z ha V hS hR hA O M U W h
end
section
variable {D:Prop}
def tE2(C:Cx)(S:St):Exit->St->Prop:=fun e s=>(e=.normal\/e=.ret)/\Le C s S
theorem Ip.of_awp2{P:Program}{k:FuncId}{avs:List AV}{H:List (Nat×AO)}{v:AV}{fn:Func}{c:Code}{N:Nat}(B:Nat)(S:St)(U:HasBody P k)(hf:P.funcs[k]?=some fn)(Z:fn.body=some c)(W:fn.ntmps=N)(hn:avs.length<=N)
  (hr:vh3 P S fn.results.toList=some v)
  (h:∀X inj w hT,AWp ⟨P,N,B,X,H,inj,w,D,hT⟩ c (tE2 ⟨P,N,B,X,H,inj,w,D,hT⟩ S) ⟨qrg 0 avs,H⟩):Ip D P k avs H v S.heap:=by
 subst W;refine⟨U,fun X inj w vs hR hT A=>?_⟩;have hl:=A.length;refine calls_of_wp hf Z (wp_mono (h X inj w hT inj _ w ⟨fun t=>?_,?_,rfl,hR,Ev.refl _ _ _ _⟩) ?_)
 ·have:=qpa avs vs 0 t A;simp only[v9f,if_true,v7k]at this;have e:(vs.toArray++v9m (fn.ntmps-vs.toArray.size) undef).getD t undef=vs.getD t undef:=by
   by_cases O:t<vs.length
   ·simp[v5c,O]
   ·simp only[v9k,v5c,v6v,O,if_false,v9l]
    grind
  grind
 ·grind
 ·rintro e a' w' ⟨s,inj0,J,V,I⟩;have E:=I.sr J;obtain⟨val,h1,M⟩:=qug E hr;rcases V with rfl|rfl
  ·exact⟨E.defers,val,h1,val,rfl,_,E.hr,E.ev,M⟩
  ·exact⟨E.defers,val,h1,val,rfl,_,E.hr,E.ev,M⟩
variable {C:Cx} {Q:Exit->St->Prop} {st:St}
end
section
theorem v1s(x y:BitVec 16):@HOr.hOr (BitVec 16) (BitVec 16) (BitVec 16) (@instHOrOfOrOp (BitVec v9o.bits) (@BitVec.instOrOp v9o.bits)) x y=x|||y:=rfl
theorem vvr(x y:BitVec 16):@HAnd.hAnd (BitVec 16) (BitVec 16) (BitVec 16) (@instHAndOfAndOp (BitVec v9o.bits) (@BitVec.instAndOp v9o.bits)) x y=x&&&y:=rfl
attribute [go_sem] v1s vvr
variable {C:Cx} {Q:Exit->St->Prop} {st:St}
def quw:List AV->Option (List PV)
 |[]=>some []
 |.p x::r=>(quw r).map (x :: ·)
 |.nils::r=>(quw r).map (PV.slc [] :: ·)
 |_::_=>none
theorem qrn{X:Nat->Prop}{inj:Inj}{σ:Nat->AO}{w:World}:∀{avs:List AV} {ps:List PV} {vs:List Value},quw avs=some ps->ARs X inj σ w avs vs->PRs (fun b=>X b\/F inj σ b) w ps vs
 |[],ps,vs,h,ha=>by
  simp only[quw,v7s]at h;subst h;simpa[ARs,PRs] using ha
 |.p x::r,ps,vs,h,ha=>by
  simp only[quw,v7q]at h;obtain⟨E,h1,rfl⟩:=h;obtain⟨v,u,rfl,I,A⟩:=ha;exact⟨v,u,rfl,I,qrn h1 A⟩
 |.nils::r,ps,vs,h,ha=>by
  simp only[quw,v7q]at h;obtain⟨E,h1,rfl⟩:=h;obtain⟨v,u,rfl,I,A⟩:=ha;simp only[AR]at I;subst I;exact⟨_,u,rfl,⟨none,0,[],rfl,v7a _,rfl,.inl rfl⟩,qrn h1 A⟩
 |.any::_,_,_,h,_=>by simp[quw]at h
 |.loc .. :: _,_,_,h,_=>by simp[quw]at h
 |.own .. :: _,_,_,h,_=>by simp[quw]at h
 |.mapo .. :: _,_,_,h,_=>by simp[quw]at h
 |.func .. :: _,_,_,h,_=>by simp[quw]at h
 |.agg _::_,_,_,h,_=>by simp[quw]at h
 |.tup _::_,_,_,h,_=>by simp[quw]at h
theorem zcN{ops:Array Oper}{o:Oper}{rest:List Oper}{f:Operand}{args:Array Operand}{J:Array TypeId}{k:FuncId}{avs:List AV}{I:List PV}{r:PV}{st':St}
  (O:Con C.D C.P k I r) (h:AL C ops rest Q st')
  (ho:o.op=.call ⟨.value f,args,J⟩:=by rfl) (V:qbh ops st.env o=some true:=by first|exact qao rfl|exact qbr rfl rfl (by exact rfl) (by exact rfl)) (Z:qb2 C.N o=true:=by rfl)
  (W:qb4 st.env f args.toList=some (k,avs):=by simp only[go_sem,seval, *];exact rfl) (U:quw avs=some I:=by rfl)
  (A:(⟨qfa st.env o.dst (.p r),st.heap⟩:St)=st':=by rfl):AL C ops (o::rest) Q st:=by
 subst A;intro inj a w A;simp only[wpList,qb3 A V,if_true];refine .inl ?_;obtain⟨vs,E,H⟩:=qm0 A ho O.1 W;unfold Oper.wp;rw[E];simp only[Oper.upon];refine(O.2 (fun b=>C.X b\/F inj st.sig b) w vs (fun b hb=>hb.elim (A.hr.xlt b) fun hf=>(A.hr.flt hf).1) (qo9 A.ev) (qrn U H)).mono ?_;rintro e w' ⟨v,rfl,h1,M⟩;exact h inj _ _ (A.put (u:=none) Z (A.hr.fr M) M.ev h1)
end
section
theorem q1a{P:Program}{w:World}{α:Type}{e:Sem α}(h:Sem.events P e w #[]=#[])(A:noRoomEvent∈Sem.events P e w #[]):False:=by
 rw[h]at A;simp at A
section
variable {P:Program} {ops:Array Oper} {Q:Exit->Act->World->Prop}
variable {K:Act->World->Prop} {x:Operand} {w:World} {d:Nat} {a:Act} {o:Oper}
def neT:Operand->Nat->Bool
 |.tmp s,d=>decide (s≠d)
 |_,_=>true
theorem vdp(h:neT x d=true):x≠.tmp d:=by
 rintro rfl;simp[neT]at h
def q8b:Op->Option Operand
 |.extract x _=>some x
 |.move x=>some x
 |.assign x=>some x
 |_=>none
def vvs:Op->Value->Option Value
 |.extract _ ix,.tuple vs=>vs[ix]?
 |.move _,v=>some v
 |.assign _,v=>some v
 |_,_=>none
theorem q8c{i:Nat}(hi:ops[i]?=some o)(ho:q8b o.op=some x)(H:o.guard=none)(I:o.dst=some d)(h:wpOp P ops Q i K a w) :
  ∃v,vvs o.op (a.eval x)=some v/\K (a.put (some d) v) w:=by
 obtain⟨dst,op,ty,pos,af,gd⟩:=o;simp only at ho H I;subst H I;unfold wpOp at h;rw[hi]at h;simp only[Region.wanted,if_true]at h;unfold q8b at ho;split at ho
 ·rename_i J ix;cases ho;cases A:a.eval x with
  | tuple vs =>
   cases E:vs[ix]? with
   |some v =>
    refine⟨v,by simpa[vvs] using E,?_⟩;rcases h with h|⟨h,_⟩
    ·simpa[Oper.wp,execOp,Instr.extract,A,E,Oper.upon] using h
    ·simp[Oper.asks,execOp,Instr.extract,A,E]at h;exact(q1a rfl h).elim
   |none =>
    exfalso;rcases h with h|⟨h,_⟩
    ·simp[Oper.wp,execOp,Instr.extract,A,E,Oper.upon]at h
    ·simp[Oper.asks,execOp,Instr.extract,A,E]at h;exact q1a rfl h
  |_ =>
   exfalso;rcases h with h|⟨h,_⟩
   ·simp[Oper.wp,execOp,Instr.extract,A,Oper.upon]at h
   ·simp[Oper.asks,execOp,Instr.extract,A]at h;exact q1a rfl h
 ·cases ho;refine⟨_,rfl,?_⟩;rcases h with h|⟨h,_⟩
  ·simpa[Oper.wp,execOp,Oper.upon] using h
  ·simp[Oper.asks,execOp]at h;exact(q1a rfl h).elim
 ·cases ho;refine⟨_,rfl,?_⟩;rcases h with h|⟨h,_⟩
  ·simpa[Oper.wp,execOp,Oper.upon] using h
  ·simp[Oper.asks,execOp]at h;exact(q1a rfl h).elim
 ·cases ho
theorem vdq{i:Nat}{v:Value}(hi:ops[i]?=some o)(ho:q8b o.op=some x)(E:o.guard=none)(H:o.dst=some d)(h1:vvs o.op (a.eval x)=some v)
  (h:K (a.put (some d) v) w):wpOp P ops Q i K a w:=by
 obtain⟨dst,op,ty,pos,af,gd⟩:=o;simp only at ho E H;subst E H;unfold wpOp;rw[hi];simp only[Region.wanted,if_true];left;unfold q8b at ho;split at ho
 ·rename_i J ix;cases ho;cases A:a.eval x with
  |tuple vs =>
   have I:vs[ix]?=some v:=by simpa[vvs,A] using h1
   simpa[Oper.wp,execOp,Instr.extract,A,I,Oper.upon] using h
  |_=>simp[vvs,A]at h1
 ·cases ho;simp only[vvs,v7s]at h1;subst h1;simpa[Oper.wp,execOp,Oper.upon] using h
 ·cases ho;simp only[vvs,v7s]at h1;subst h1;simpa[Oper.wp,execOp,Oper.upon] using h
 ·cases ho
theorem vdr{b:Act}{z:Value}(hn:x≠.tmp d):(b.put (some d) z).eval x=b.eval x:=by
 cases x with
 |tmp s =>
  have:d≠s:=fun e=>hn (by rw[e])
  simp[Act.put,Act.eval,v9k,Array.getElem?_setIfInBounds,this]
 |_=>rfl
theorem vpu{q E Z:Nat}{x1 x2:Operand}{U O:Oper}(h1:ops[q]?=some U)(A:ops[q+1]?=some O)(e1:q8b U.op=some x1)(W:q8b O.op=some x2)(V:U.guard=none)(H:O.guard=none)
  (J:U.dst=some E) (M:O.dst=some Z) (n1:E≠Z) (n2:x2≠.tmp E) (n3:x1≠.tmp Z) (h:wpOp P ops Q q (wpOp P ops Q (q+1) K) a w):wpOp P ops Q (q+1) (wpOp P ops Q q K) a w:=by
 obtain⟨v,I,a3⟩:=q8c h1 e1 V J h;obtain⟨v',b1,b3⟩:=q8c A W H M a3;rw[vdr n2]at b1;refine vdq A W H M b1 (vdq h1 e1 V J (by rw[vdr n3];exact I) ?_);have:((a.put (some Z) v').put (some E) v)=((a.put (some E) v).put (some Z) v'):=by
  simp only[Act.put,Act.mk.injEq,and_true]
  grind
 grind
end
variable {ops:Array Oper} {sw:Nat->Bool} {P:Program} {n:Nat} {l r:List Oper}
theorem vbj{Q:Exit->Act->World->Prop}(hsl:qkh ops=true)(hsw:∀q,sw q=true->∀K a w,wpOp P ops Q q (wpOp P ops Q (q+1) K) a w->wpOp P ops Q (q+1) (wpOp P ops Q q K) a w)
  (V:∀j,n<=j->j<ops.size->∀i,i<j->(n<=i/\j=i+1/\sw i=true)\/Reach ops j i) :
  ∀(k m fuel:Nat) (listed:Array Bool) (a:Act) (w:World),n<=m->m+k=ops.size->listed.size=ops.size->(∀j,j<m->listed.getD j false=true)->(∀j,m<=j->j<ops.size->listed.getD j false=false)->k<=fuel ->
   wpOps P ops Q (v85 m k) a w->wpAny P .any ops Q fuel listed a w:=by
 have W:∀{listed:Array Bool} {i:Nat} {o:Oper},ops[i]?=some o->(∀e∈o.after,Region.binds .any e=true->listed.getD e.on false=true)->∀m∈qc7 ops i,listed.getD m false=true:=by
  intro listed i o ho E m hm;unfold qc7 at hm;rw[ho]at hm;obtain⟨e,he,rfl⟩:=v81.1 hm;obtain⟨he1,he2⟩:=v80.1 he;exact E e (by simpa using he1) he2
 have O:∀(listed:Array Bool) (m:Nat),listed.size=ops.size->m<ops.size->listed.getD m false=false->(∀p∈qc7 ops m,listed.getD p false=true)->m∈Region.ready .any ops listed:=by
  intro listed m I hm H hp;refine mem_ready.2 ⟨getD_in (by omega) H,ops[m]'(by omega),by simp[hm],fun e he hb=>?_⟩;refine hp _ ?_;unfold qc7;simp only[hm,getElem?_pos];exact v81.2 ⟨e,v80.2 ⟨by simpa using he,hb⟩,rfl⟩
 intro k
 induction k using v9d with
 |_ k ih =>
 intro m fuel listed a w hnm hm I A H hk M;cases k with
 | zero =>
  have hr:Region.ready .any ops listed=[]:=by
   cases hrd:Region.ready .any ops listed with
   |nil=>rfl
   |cons i _ =>
    exfalso;have hi:i∈Region.ready .any ops listed:=by rw[hrd];exact List.mem_cons_self
    obtain⟨h0,o,ho,_⟩:=mem_ready.1 hi;have hlt:=(v5d.1 ho).1;have:=A i (by omega);rw[getD_both h0]at this;cases this
  have hq'':Q .normal a w:=M;cases fuel with
  |zero=>exact⟨hr,hq''⟩
  |succ fuel=>exact⟨fun _=>hq'',fun i hi=>by rw[hr]at hi;cases hi⟩
 | succ k =>
  cases fuel with
  |zero=>omega
  |succ fuel =>
  have hcl:qyo ops (fun j=>listed.getD j false):=by
   intro j U p hp;have hjm:j<m:=by
    by_cases hjm:j<m
    ·exact hjm
    ·have J:j<ops.size:=by
      by_cases J:j<ops.size
      ·exact J
      ·have:listed.getD j false=false:=by simp[show ¬j<listed.size by omega]
       simp only[this]at U;cases U
     have:=H j (by omega) J;simp only[this]at U;cases U
   have:=qfc hsl (by omega:j<ops.size) p hp;exact A p (by omega)
  refine⟨fun hr=>?_,fun i hi=>?_⟩
  ·exfalso;have:m∈Region.ready .any ops listed:=O listed m I (by omega) (H m (v7a _) (by omega)) fun p hp=>A _ (qfc hsl (by omega) _ hp)
   rw[hr]at this;cases this
  ·obtain⟨h0,o,ho,E⟩:=mem_ready.1 hi;have hlt:=(v5d.1 ho).1;have hpre':=W ho E;have him:i=m\/(i=m+1/\sw m=true):=by
    rcases v9a i m with h|h|h
    ·have:=A i h;rw[getD_both h0]at this;cases this
    ·exact .inl h
    ·rcases V i (by omega) hlt m h with h'|h'
     ·exact .inr h'.2
     ·exfalso;have:=h'.ready (D:=fun j=>listed.getD j false) hcl hpre';simp only[H m (v7a _) (by omega)]at this;cases this
   rw[v9t,wpOps_cons]at M;rcases him with rfl|⟨rfl,hm2⟩
   ·refine wpOp_mono (fun a' w' M=>ih k (by omega) (i+1) fuel _ a' w' (by omega) (by omega) (by simp[I]) (fun j U=>?_) (fun j U J=>?_) (by omega) M) M
    ·by_cases Z:i=j
     ·subst Z;simp[I,hlt]
     ·rw[getD_set_ne false Z];exact A j (by omega)
    ·rw[getD_set_ne false (by omega)];exact H j (by omega) J
   · -- the second extract comes first
    obtain⟨k,rfl⟩:∃k',k=k'+1:=⟨k-1,by omega⟩;rw[v9t]at M;have hq2:wpOp P ops Q m (wpOp P ops Q (m+1) (wpOps P ops Q (v85 (m+1+1) k))) a w:=wpOp_mono (fun a' w' h=>by rw[wpOps_cons]at h;exact h) M;refine wpOp_mono (fun a' w' hq3=>?_) (hsw _ hm2 _ _ _ hq2);have hL:∀j,j≠m+1->(listed.setIfInBounds (m+1) true).getD j false=listed.getD j false:=fun j U=>getD_set_ne false (Ne.symm U)
    have hL1:(listed.setIfInBounds (m+1) true).getD (m+1) false=true:=by simp[I,hlt]
    have hmno:=H m (v7a _) (by omega);cases fuel with
    |zero=>omega
    |succ fuel =>
    have hcl2:qyo ops (fun j=>(listed.setIfInBounds (m+1) true).getD j false):=by
     intro j U p hp;by_cases hjq:j=m+1
     ·subst hjq;have h1:=hpre' p hp;show(listed.setIfInBounds (m+1) true).getD p false=true;have:p≠m+1:=fun e=>by
       have:=qfc hsl hlt p hp;omega
      rw[hL p this];exact h1
     ·have hj':listed.getD j false=true:=by
       have:(listed.setIfInBounds (m+1) true).getD j false=true:=U;rw[hL j hjq]at this;exact this
      have h1:listed.getD p false=true:=hcl j hj' p hp;show(listed.setIfInBounds (m+1) true).getD p false=true;by_cases hpq:p=m+1
      ·subst hpq;exact hL1
      ·rw[hL p hpq];exact h1
    refine⟨fun hr=>?_,fun i hi=>?_⟩
    ·exfalso;have:m∈Region.ready .any ops (listed.setIfInBounds (m+1) true):=O _ m (by simp[I]) (by omega) (by rw[hL m (by omega)];exact hmno) fun p hp=>by
      have:=qfc hsl (by omega:m<ops.size) p hp;rw[hL p (by omega)];exact A _ this
     rw[hr]at this;cases this
    ·obtain⟨h0,o,ho,E⟩:=mem_ready.1 hi;have hlti:=(v5d.1 ho).1;have hpre2:=W ho E;have hib:=getD_both h0;have him:i=m:=by
      rcases v9a i m with h|h|h
      ·rw[hL i (by omega)]at hib;have:=A i h;rw[hib]at this;cases this
      ·exact h
      ·exfalso;by_cases hiq:i=m+1
       ·subst hiq;rw[hL1]at hib;cases hib
       ·have:=((V i (by omega) hlti m h).resolve_left (by omega)).ready (D:=fun j=>(listed.setIfInBounds (m+1) true).getD j false) hcl2 hpre2;simp only[hL m (by omega),hmno]at this;cases this
     subst him;refine wpOp_mono (fun a'' w'' hq4=>ih k (by omega) (i+1+1) fuel _ a'' w'' (by omega) (by omega) (by simp[I]) (fun j U=>?_) (fun j U J=>?_) (by omega) hq4) hq3
     ·by_cases Z:i=j
      ·subst Z;simp[I,hlti]
      ·rw[getD_set_ne false Z];by_cases hjq:j=i+1
       ·subst hjq;exact hL1
       ·rw[hL j hjq];exact A j (by omega)
     ·rw[getD_set_ne false (by omega),hL j (by omega)];exact H j (by omega) J
theorem vbk{C:Cx}{es:List Evt}{s0:(Nat->AV)×(Nat->AO)}{Q:Exit->Act->World->Prop}(hn:n<ops.size)(hlen:es.length=n)(hch:q0x C ops es 0 s0)(hsl:qkh ops=true)(hev:qwi ops es=true)(hsw:∀q,sw q=true->∀K a w,wpOp C.P ops Q q (wpOp C.P ops Q (q+1) K) a w->wpOp C.P ops Q (q+1) (wpOp C.P ops Q q K) a w)(hlast:∀j,n<=j->j<ops.size->∀i,i<j->(n<=i/\j=i+1/\sw i=true)\/Reach ops j i)(hQ:∀a w inj,SRf C (apD ops es 0 (fun _=>true) s0).1 (apD ops es 0 (fun _=>true) s0).2 inj a w->wpOps C.P ops Q (v85 n (ops.size-n)) a w) :
  ∀(fuel:Nat) (listed:Array Bool) (a:Act) (w:World) (inj:Inj),listed.size=ops.size->qyo ops (fun j=>listed.getD j false)->(∀j,n<=j->j<ops.size->listed.getD j false=false)->(listed.toList.filter (! ·)).length<=fuel ->
   SRf C (apD ops es 0 (fun j=>listed.getD j false) s0).1 (apD ops es 0 (fun j=>listed.getD j false) s0).2 inj a w->wpAny C.P .any ops Q fuel listed a w:=by
 have U:∀(listed:Array Bool),listed.size=ops.size->listed.getD n false=false->Region.ready .any ops listed≠[]:=by
  intro listed W M hr;have all:∀j,j<ops.size->listed.getD j false=true:=by
   intro j
   induction j using v9d with
   | _ j ih =>
    intro hj;by_cases hl:listed.getD j false=true
    ·exact hl
    ·have:j∈Region.ready .any ops listed:=by
      refine mem_ready.2 ⟨getD_in (by omega) (by simpa using hl),ops[j],by simp[hj],fun e he hb=>?_⟩;have hp:e.on∈qc7 ops j:=by
       unfold qc7;simp only[hj,getElem?_pos];exact v81.2 ⟨e,v80.2 ⟨by simpa using he,hb⟩,rfl⟩
      have H:=qfc hsl hj _ hp;exact ih _ H (by omega)
     rw[hr]at this;cases this
  have:=all n hn;rw[M]at this;cases this
 have count:∀(k:Nat) (l:List Bool) (m:Nat),m+k=l.length->(∀j,m<=j->j<l.length->l[j]?=some false)->k<=(l.filter (! ·)).length:=by
  intro k l m Z h;have h1:(l.drop m).length=k:=by rw[v6c];omega
  have h2:((l.drop m).filter (! ·))=l.drop m:=by
   rw[List.filter_eq_self];intro b hb;obtain⟨j,hj,rfl⟩:=List.mem_iff_getElem.1 hb;have:=h (m+j) (by omega) (by rw[v6c]at hj;omega);rw[List.getElem_drop];obtain⟨_,h3⟩:=v56.1 this;rw[h3];rfl
  have h3:((l.drop m).filter (! ·)).length<=(l.filter (! ·)).length:=by
   conv=>rhs;rw[<-List.take_append_drop m l,List.filter_append,v6b]
   omega
  rw[h2,h1]at h3;exact h3
 intro fuel
 induction fuel with
 |zero =>
  intro listed a w inj W I M hf hs;exfalso;have H:n<listed.size:=by omega
  have Z:listed[n]'H∈listed.toList:=by simp
  have h0':listed[n]'H=false:=by simpa[H] using M n (v7a _) hn
  have:listed[n]'H∈listed.toList.filter (! ·):=v80.2 ⟨Z,by rw[h0'];rfl⟩;have:0<(listed.toList.filter (! ·)).length:=List.length_pos_of_mem this;omega
 | succ fuel ih =>
  intro listed a w inj W I M hf hs;by_cases V:∀j,j<n->listed.getD j false=true
  ·rw[qp2 ops es 0 _ (fun _=>true) s0 fun j _ h2=>V j (by omega)]at hs;refine vbj hsl hsw hlast (ops.size-n) n _ listed a w (v7a _) (by omega) W V M ?_ (hQ a w inj hs);refine Nat.le_trans (count _ listed.toList n (by simp;omega) (fun j h1 h2=>?_)) hf;have:=M j h1 (by simp at h2;omega);have h3:j<listed.size:=by simpa using h2
   rw[Array.getElem?_toList];simpa[h3] using this
  refine⟨fun hr=>absurd hr (U listed W (M n (v7a _) hn)),fun i hi=>?_⟩;obtain⟨h0,o,ho,hpre⟩:=mem_ready.1 hi;have H:=(v5d.1 ho).1;have hltn:i<n:=by
   by_cases hltn:i<n
   ·exact hltn
   ·exfalso;apply V;intro j hj;have E:∀m∈qc7 ops i,listed.getD m false=true:=by
     intro m Z;unfold qc7 at Z;rw[ho]at Z;obtain⟨e,he,rfl⟩:=v81.1 Z;obtain⟨he1,he2⟩:=v80.1 he;exact hpre e (by simpa using he1) he2
    exact((hlast i (by omega) H j (by omega)).resolve_left (by omega)).ready (D:=fun j=>listed.getD j false) I E
  have O:listed.getD i false=false:=getD_both h0;have E:∀m∈qc7 ops i,listed.getD m false=true:=by
   intro m Z;unfold qc7 at Z;rw[ho]at Z;obtain⟨e,he,rfl⟩:=v81.1 Z;obtain⟨he1,he2⟩:=v80.1 he;exact hpre e (by simpa using he1) he2
  obtain⟨e,he⟩:∃e,es[i]?=some e:=⟨es[i]'(by omega),v52 (by omega)⟩;obtain⟨o',ho',hst⟩:=hch.at i e (v9f _) (by simpa using he);have:o'=o:=v9i (ho'.symm.trans ho);subst this
  -- which are listed,compared with the text's order
  have cmpSlot:∀t∈o'.looksAt ops,(apD ops es 0 (fun j=>listed.getD j false) s0).1 t=(apD ops es 0 (fun m=>decide (m<i)) s0).1 t:=by
   intro t ht;refine qzq ops t es 0 _ _ s0 s0 rfl fun j _ hj hd=>?_
   obtain⟨oj,hoj⟩:∃oj,ops[j]?=some oj:=⟨ops[j]'(by omega),by simp[show j<ops.size by omega]⟩;rw[hoj]at hd;simp only[v7m]at hd;rcases v9a j i with A|A|A
   ·simp only[A,decide_true];rcases qgo hsl A hoj ho with hr|hr
    ·exact hr.ready (D:=fun j=>listed.getD j false) I E
    ·exact absurd ht ((Oper.apart_spec hr).1 t hd)
   ·subst A;simpa using O
   ·have:decide (j<i)=false:=by simp;omega
    rw[this];rcases qgo hsl A ho hoj with hr|hr
    ·by_cases hl:listed.getD j false=true
     ·have:=hr.closed (D:=fun j=>listed.getD j false) I hl;simp only[O]at this;cases this
     ·simpa using hl
    ·exact absurd ht ((Oper.apart_spec hr).2.2 t hd)
  have cmpLoc:∀l∈e.reads,(apD ops es 0 (fun j=>listed.getD j false) s0).2 l=(apD ops es 0 (fun m=>decide (m<i)) s0).2 l:=by
   intro l hl;refine q4n ops l es 0 _ _ s0 s0 rfl fun j ej _ J hw=>?_
   simp only[v7k]at J;have hjn:j<ops.size:=by have:=(v56.1 J).1;omega
   rcases v9a j i with A|A|A
   ·simp only[A,decide_true];rcases qj1 hev A H J he with hr|hr
    ·exact hr.ready (D:=fun j=>listed.getD j false) I E
    ·exact absurd hl (hr.1 l hw).1
   ·subst A;simpa using O
   ·have:decide (j<i)=false:=by simp;omega
    rw[this];rcases qj1 hev A hjn he J with hr|hr
    ·by_cases hl':listed.getD j false=true
     ·have:=hr.closed (D:=fun j=>listed.getD j false) I hl';simp only[O]at this;cases this
     ·simpa using hl'
    ·exact absurd hl (hr.2 l hw)
  have hst':=hst.frame cmpSlot cmpLoc;obtain⟨hdst,hst'⟩:=hst';have hjoin:=qzr ops i e es 0 (fun j=>listed.getD j false) s0 (v9f _) (by simpa using he) O (by
   intro j ej hij J hD;simp only[v7k]at J;have hjn:j<ops.size:=by have:=(v56.1 J).1;omega
   obtain⟨oj,hoj⟩:∃oj,ops[j]?=some oj:=⟨ops[j]'(by omega),by simp[show j<ops.size by omega]⟩;have nr:¬Reach ops j i:=fun hr=>by
    have:=hr.closed (D:=fun j=>listed.getD j false) I hD;simp only[O]at this;cases this
   constructor
   ·rcases qgo hsl hij ho hoj with hr|hr
    ·exact(nr hr).elim
    ·rw[hoj,ho];simp only[v7m];cases hd:oj.dst with
     |none=>exact .inl rfl
     |some d =>
      refine .inr fun hh=>?_
      exact(Oper.apart_spec hr).2.1 d hh.symm hd
   ·rcases qj1 hev hij hjn he J with hr|hr
    ·exact(nr hr).elim
    ·cases hw:ej.wr with
     |none=>exact .inl rfl
     |some l =>
      refine .inr fun hh=>?_
      exact(hr.1 l hh.symm).2 hw)
  have hD':apD ops es 0 (fun j=>(listed.setIfInBounds i true).getD j false) s0=apD ops es 0 (fun j=>j==i||listed.getD j false) s0:=by
   refine qp2 ops es 0 _ _ s0 fun j _ hj=>?_
   by_cases A:i=j
   ·subst A;simp[W,H]
   ·rw[getD_set_ne false A];have:(j==i)=false:=by simp;omega
    simp[this]
  have next:∀a' w' inj',SRf C (qxs (apD ops es 0 (fun j=>listed.getD j false) s0).1 o'.dst e.v) (upd (apD ops es 0 (fun j=>listed.getD j false) s0).2 e.u) inj' a' w' ->
    wpAny C.P .any ops Q fuel (listed.setIfInBounds i true) a' w':=by
   intro a' w' inj' hs';refine ih (listed.setIfInBounds i true) a' w' inj' (by simp[W]) ?_ (fun j hj hjs=>by rw[getD_set_ne false (by omega)];exact M j hj hjs) ?_ ?_
   ·intro j hj m Z;by_cases A:i=j
    ·subst A;exact getD_set_true (E m Z)
    ·have hj':(listed.setIfInBounds i true).getD j false=true:=hj;rw[getD_set_ne false A]at hj';exact getD_set_true (I j hj' m Z)
   ·have hli:listed[i]?=some false:=by
     have:i<listed.size:=by omega
     simp[this]at O ⊢;exact O
    have key:∀(l:List Bool) (i:Nat),l[i]?=some false->((l.set i true).filter (! ·)).length+1=(l.filter (! ·)).length:=by
     intro l
     induction l with
     |nil=>intro i h;simp at h
     | cons b l ihl =>
      intro i h;cases i with
      |zero=>simp at h;subst h;simp
      |succ i =>
       simp only[List.getElem?_cons_succ]at h;have:=ihl i h;cases b<;>simp[this]<;>omega
    have:=key listed.toList i (by simpa using hli);rw[Array.toList_setIfInBounds];omega
   ·rw[hD',hjoin,ho];exact hs'
  unfold wpOp;rw[ho];simp only;rcases hst' with⟨hg,hdo⟩|⟨hg,rfl⟩
  ·rw[qk7 hs hg];simp only[if_true];exact .inl (hdo.sound hs hdst next)
  ·rw[qk7 hs hg];simp only[v5k,if_false];exact next _ _ inj (hs.put (u:=none) hdst hs.hr (Ev.refl _ _ _ _) ⟨[],rfl,rfl⟩)
def swpB(ops:Array Oper)(q:Nat):Bool :=
 match ops[q]?,ops[q+1]? with
 |some o1,some o2 =>
  match q8b o1.op,q8b o2.op,o1.dst,o2.dst,o1.guard,o2.guard with
  |some x1,some x2,some d1,some d2,none,none=>decide (d1≠d2)&&(neT x2 d1&&neT x1 d2)
  |_,_,_,_,_,_=>false
 |_,_=>false
theorem vkw{Q:Exit->Act->World->Prop}{q:Nat}(A:swpB ops q=true)(K:Act->World->Prop)(a:Act)(w:World)(h:wpOp P ops Q q (wpOp P ops Q (q+1) K) a w):wpOp P ops Q (q+1) (wpOp P ops Q q K) a w:=by
 unfold swpB at A;split at A
 ·rename_i U O h1 H;split at A
  ·rename_i x1 x2 E Z e1 W J M V I;simp only[v5i,decide_eq_true_eq]at A;exact vpu h1 H e1 W V I J M A.1 (vdp A.2.1) (vdp A.2.2) h
  ·cases A
 ·cases A
def q47(ops:Array Oper)(n:Nat):Bool:=decide (n<ops.size)&&(v85 n (ops.size-n)).all fun j=>(List.range j).all fun i=>(decide (n<=i)&&(decide (j=i+1)&&swpB ops i))||vax (vju ops ops.size) j i
theorem q8d(h:q47 ops n=true):n<ops.size/\∀j,n<=j->j<ops.size->∀i,i<j->(n<=i/\j=i+1/\swpB ops i=true)\/Reach ops j i:=by
 simp only[q47,v5i,decide_eq_true_eq,List.all_eq_true,List.mem_range,List.mem_range'_1,v79]at h;refine⟨h.1,fun j h1 A i hi=>?_⟩;rcases h.2 j ⟨h1,by omega⟩ i hi with h'|h'
 ·exact .inl h'
 ·exact .inr (qrd h')
variable {C:Cx} {Q:Exit->St->Prop} {st:St}
theorem q1b(n:Nat){id:Nat}(hm:C.P.follows .mixedOrders=true)(Z:qkh l.toArray=true)(hls:q47 l.toArray n=true)(h:DGo C l.toArray (l.take n) st [] (DKL C l.toArray (l.drop n) Q)):AWp C (.region id l.toArray true) Q st:=by
 obtain⟨es,st',h1,h2,h3⟩:=h;obtain⟨E,H⟩:=q8d hls;have hsz:n<l.length:=by simpa using E
 obtain⟨hel,U,V⟩:=h1.chainP 0 (fun j hj=>by
  grind)
 have M:es.length=n:=by rw[hel,v6g];omega
 simp only[List.reverse_nil,List.nil_append]at h2;intro inj a w J;refine wp_region_any hm ?_;have hf:Fr C.D w { w with drawn:=w.drawn+1 }:=⟨rfl,rfl,rfl,fun _=>v7b _,v7a _,fun _ _=>rfl,fun _ _=>rfl⟩;have hE:Ev C.D C.X inj st.sig w inj st.sig { w with drawn:=w.drawn+1 }:=hf.ev;refine vbk E M U Z h2 (fun q hq=>vkw hq) H ?_ _ _ _ _ inj (by simp) ?_ ?_ ?_ ?_
 ·intro a' w' inj' A;rw[V]at A;have W:=h3 inj' a' w' ⟨A.env,A.size,A.defers,A.hr,A.ev⟩;have O:=wpOps_eq_wpList (P:=C.P) (ops:=l.toArray) (Q:=vn7 C Q) (l.drop n) n (fun j=>by rw[List.getElem?_drop];simp);rw[v6c]at O;rw[v6v,O];exact W
 ·intro j hj;simp only[getD_replicate_false]at hj;cases hj
 ·intro j _ _;exact getD_replicate_false _ _
 ·grind
 ·rw[qp2 l.toArray es 0 _ (fun _=>false) _ fun j _ _=>getD_replicate_false _ _];have I:∀(es:List Evt) (i:Nat) (s:(Nat->AV)×(Nat->AO)),apD l.toArray es i (fun _=>false) s=s:=by
   intro es
   induction es with
   |nil=>intro i s;rfl
   |cons e es ih=>intro i s;simp only[apD,v5k,if_false];exact ih (i+1) s
  rw[I];exact⟨fun t=>AR.ev hE J.hr.xlt _ _ (J.env t),J.size,J.defers,J.hr.fr hf,J.ev.trans hE⟩
theorem DKL.congr{l:Array Oper}(es:List Evt)(s s':St)(h1:s.env.get=s'.env.get)(E:s.heap=s'.heap)(h:DKL C l r Q es s):DKL C l r Q es s':=by
 refine⟨h.1,fun inj a w A=>h.2 inj a w ?_⟩;obtain⟨e,I⟩:=s;obtain⟨e',H⟩:=s';simp only at h1 E;subst E;exact⟨fun t=>by show AR _ _ _ _ (e.get t) _;rw[h1];exact A.env t,A.size,A.defers,A.hr,A.ev⟩
theorem ywL{M:Array Oper}(d:Nat)(b:Bool){h:List (Nat×AO)}{env:Env}{E:List Evt}(k:DGo C M l ⟨(d,.p (.bool b))::env,h⟩ E (DKL C M r Q))(J:env.get d=.p (.bool b):=by simp only[go_sem,seval, *];all_goals first|assumption|exact Bool.eq_false_iff.2 (by assumption)):DGo C M l ⟨env,h⟩ E (DKL C M r Q):=by
 obtain⟨es,st',O,U⟩:=k;obtain⟨A,V,I,H⟩:=O.known (st:=⟨env,h⟩) (q0q env J) rfl;exact⟨es,A,V,DKL.congr _ _ _ I H U⟩
end
section
variable {C:Cx} {Q:Exit->St->Prop} {st:St}
variable {listed:Array Bool} {ops:Array Oper} {rows:List (Nat×List Value)} {o:Oper} {fuel id i:Nat} {xo:Operand} {l:List Oper} {inj:Inj} {w:World} {t:TypeId}
def vvt:AV->Bool
 |.p (.slc _)=>true
 |.nils=>true
 |.own _ _ _ _=>true
 |_=>false
theorem vpv(es:List PV):vvt (.p (.slc es))=true:=rfl
theorem vkx:vvt .nils=true:=rfl
theorem vpw(l g off len:Nat):vvt (.own l g off len)=true:=rfl
attribute [go_sem] vpv vkx vpw
theorem vky{X:Nat->Prop}{σ:Nat->AO}{x:AV}{v:Value}(h:vvt x=true)(A:AR X inj σ w x v):∃a n c,v=.slice a n c:=by
 unfold vvt at h;split at h
 ·simp only[AR,PR]at A
  grind
 ·simp only[AR]at A
  grind
 ·obtain⟨⟨a,n,c,rfl⟩,_⟩:=A
  grind
 ·cases h
theorem v1t{y:AV}{e:TypeId}(ho:o.op=.call ⟨.builtin .len,#[xo],#[t]⟩)(J:C.P.underlying t=some (.slice e))(M:vvt (ev st.env xo)=true)
  (U:(aop.lenT C.P t (ev st.env xo)).run (qav st.heap)=some y) :
  ∀inj a w,SR C st inj a w->q44 rows w->∃v,(∀w',q44 rows w'->(execOp a.eval o).run C.P w'=.ok (.value v) w')/\AR C.X inj st.sig w y v:=by
 intro inj a w E V;have H:=E.eval xo;obtain⟨b,n,c,O⟩:=vky M H;obtain⟨val,h1,I⟩:=q3c (P:=C.P) (ty:=o.type) E.hr H U;have A:∀(ty:TypeId) (w':World),(Builtin.len_ #[t] ty #[a.eval xo]).run C.P w'=.ok (goInt n) w':=fun ty w'=>by
  rw[O];simp[Builtin.len_,run_underlying J]
 rw[A]at h1;cases h1;refine⟨_,fun w' _=>?_,I⟩;obtain⟨dst,op,ty,pos,af,gd⟩:=o;simp only at ho;subst ho;simp only[execOp,resolve,v7w,v7x,v7u,invoke,q0c];have:(#[xo]:Array Operand).map a.eval=#[a.eval xo]:=by simp
 rw[this,A];simp
def isInt:AV->Bool
 |.p (.int _ _)=>true
 |_=>false
theorem vkz(k:IntKind)(n:Int):isInt (.p (.int k n))=true:=rfl
def v1u:AV->Bool
 |.p p=>vsr p
 |_=>false
theorem vk0(k:IntKind)(n:Int):v1u (.p (.int k n))=true:=rfl
theorem vgh(b:Bool):v1u (.p (.bool b))=true:=rfl
attribute [go_sem] vkz vk0 vgh
def FZ(C:Cx)(w:World):Prop:=∀b,b<C.w0.heap.size->¬F C.inj0 (qav C.H0) b->w.heap[b]?=C.w0.heap[b]?
theorem v1v{s:St}{a:Act}(h:SR C s inj a w):FZ C w:=fun b E A=>h.ev.blk b E A
def HI(C:Cx)(ops:Array Oper)(Q:Exit->St->Prop)(fuel:Nat)(listed:Array Bool)(st:St):Prop :=
 ∀a,SR C st C.inj0 a C.w0->wpAnyH C.P .any ops (QN C Q) (FZ C) fuel listed a C.w0
def HF(C:Cx)(ops:Array Oper)(Q:Exit->St->Prop)(fuel:Nat)(listed:Array Bool)(st:St):Prop :=
 ∀inj a w,SR C st inj a w->wpAnyH C.P .any ops (QN C Q) (FZ C) fuel listed a w
theorem vk1(U:C.P.follows .mixedOrders=true)
  (h:∀inj w hT,HI ⟨C.P,C.N,C.B,C.X,st.heap,inj,w,C.D,hT⟩ l.toArray Q l.toArray.size (v9m l.toArray.size false) st):AWp C (.region id l.toArray true) Q st:=by
 intro inj a w H;have O:Fr C.D w { w with drawn:=w.drawn+1 }:=⟨rfl,rfl,rfl,fun _=>v7b _,v7a _,fun _ _=>rfl,fun _ _=>rfl⟩;have M:Ev C.D C.X inj st.sig w inj st.sig { w with drawn:=w.drawn+1 }:=O.ev;have A:SR C st inj a { w with drawn:=w.drawn+1 }:=⟨fun t=>AR.ev M H.hr.xlt _ _ (H.env t),H.size,H.defers,H.hr.fr O,H.ev.trans M⟩;generalize J:({ w with drawn:=w.drawn+1 }:World)=w1 at A;have W:=h inj w1 (qo9 A.ev) a ⟨A.env,A.size,A.defers,A.hr,Ev.refl _ _ _ _⟩;have I:(Code.region id l.toArray true).wp C.P (QN ⟨C.P,C.N,C.B,C.X,st.heap,inj,w1,C.D,qo9 A.ev⟩ Q) a w:=wp_region_held U (by rw[J];exact W);refine wp_mono I ?_;rintro e a' w' ⟨rfl,s,inj',E,V⟩;exact⟨s,inj',⟨E.env,E.size,E.defers,E.hr,A.ev.trans E.ev⟩,V⟩
theorem q48{y:AV}(hi:ops[i]?=some o)(H:Region.noSelect ops=true)(U:Region.free .any ops listed i=true)(hr:(Region.ready .any ops listed).contains i=true)
  (I:o.guard=none) (J:qb2 C.N o=true) (O:∀a,SR C st C.inj0 a C.w0->∃v,(∀w',FZ C w'->(execOp a.eval o).run C.P w'=.ok (.value v) w')/\AR C.X C.inj0 st.sig C.w0 y v)
  (h:HI C ops Q fuel (listed.setIfInBounds i true) ⟨qfa st.env o.dst y,st.heap⟩):HI C ops Q (fuel+1) listed st:=by
 intro a A;obtain⟨v,h1,E⟩:=O a A;refine wpAnyH_take hi H U hr (fun c a w M=>by cases M.1) (.inl ⟨by simp[Region.wanted,I],h1⟩) (v1v A) ?_;have:=A.put (o:=o) (v:=y) (val:=v) (u:=none) J A.hr (Ev.refl _ _ _ _) E;exact h _ this
theorem vvu(hi:ops[i]?=some o)(hr:Region.ready .any ops listed=[i])
  (h:AL C ops [o] (fun ex s=>ex=.normal/\HF C ops Q fuel (listed.setIfInBounds i true) s) st):HF C ops Q (fuel+1) listed st:=by
 intro inj a w I;refine wpAnyH_all hr (by simp) ?_;intro j M;obtain rfl:=List.mem_singleton.1 M;have h1:=h inj a w I;have key:∀a' w',vn7 C (fun ex s=>ex=.normal/\HF C ops Q fuel (listed.setIfInBounds j true) s) .normal a' w'->FZ C w'/\wpAnyH C.P .any ops (QN C Q) (FZ C) fuel (listed.setIfInBounds j true) a' w':=by
  rintro a' w' ⟨s,inj',E,_,H⟩;exact⟨v1v E,H inj' a' w' E⟩
 unfold wpOp;simp only[hi];simp only[wpList]at h1;split
 ·rename_i J;rw[if_pos J]at h1;rcases h1 with h1|⟨_,a',w',s,inj',_,A⟩
  ·refine .inl (vge (fun a' w' H=>key a' w' H) (fun c a' w' A=>?_) (fun hl=>?_) h1)
   ·obtain⟨s,inj',_,A⟩:=A;cases A.1
   ·obtain⟨a',w',s,inj',_,A⟩:=hl;cases A.1
  ·cases A.1
 ·grind
theorem vvv(hr:Region.ready .any ops listed=[])(h:Q .normal st):HF C ops Q fuel listed st :=
 fun inj a w A=>wpAnyH_done hr ⟨rfl,st,inj,A,h⟩ fuel
theorem hi_of(h:HF C ops Q fuel listed st):HI C ops Q fuel listed st:=fun a A=>h _ a _ A
theorem vk2{y:AV}(h:∀inj a w,SR C st inj a w->q44 [] w->∃v,(∀w',q44 [] w'->(execOp a.eval o).run C.P w'=.ok (.value v) w')/\AR C.X inj st.sig w y v) :
  ∀a,SR C st C.inj0 a C.w0->∃v,(∀w',FZ C w'->(execOp a.eval o).run C.P w'=.ok (.value v) w')/\AR C.X C.inj0 st.sig C.w0 y v:=by
 intro a A;have nil:∀w:World,q44 [] w:=fun w r hr=>by cases hr
 grind
def vpx:AV->Bool
 |.p (.imm _)=>true
 |_=>false
theorem vk3(cs:List PV):vpx (.p (.imm cs))=true:=rfl
attribute [go_sem] vk3
theorem vk4{s f:Nat}{y:AV}(ho:o.op=.fieldAddr s xo f)(A:qk6 C.P s f (ev st.env xo)=some y)(hl:vpx (ev st.env xo)=true) :
  ∀inj a w,SR C st inj a w->q44 rows w->∃v,(∀w',q44 rows w'->(execOp a.eval o).run C.P w'=.ok (.value v) w')/\AR C.X inj st.sig w y v:=by
 intro inj a w U hR;have M:=U.eval xo;obtain⟨v,H,q2⟩:=qsd (P:=C.P) M A;refine⟨v,fun w' V=>?_,q2⟩;have Z:∃b,a.eval xo=.pointer (some b):=by
  generalize ev st.env xo=z at*;unfold vpx at hl;split at hl
  ·simp only[AR,PR]at M
   grind
  ·cases hl
 obtain⟨b,W⟩:=Z;have h1:(Instr.fieldAt s (a.eval xo) f).run C.P w'=.ok v w':=by
  rw[W]at H ⊢;unfold qk6 qau at A;cases E:C.P.underlying s with
  |none=>simp[E]at A
  | some d =>
   cases d with
   | struct fs =>
    cases O:fs[f]? with
    |none=>simp[E,O]at A
    | some fd =>
     by_cases J:C.P.cellsOf fd.type=0
     ·grind
     ·have I:∀w,(sizeOf fd.type).run C.P w=.ok (C.P.cellsOf fd.type) w:=by
       intro w;unfold Program.cellsOf at J ⊢;cases hi:C.P.info? fd.type with
       |none=>simp[hi]at J
       |some i=>simp[sizeOf,typeInfo,hi]
      simp[Instr.fieldAt,run_underlying E,O,Instr.sureAddr,fieldPlace,I,J]at H ⊢;exact H
   |_=>simp[E]at A
 obtain⟨dst,op,ty,pos,af,gd⟩:=o;simp only at ho;subst ho;simp[execOp,h1]
theorem v1w{cs:List PV}{y:AV}{bb:Bool}(hh:st.heap=C.H0)(ho:o.op=.load t xo)(hv:ev st.env xo=.p (.imm cs))(hy:(qz3 C.P t (.p (.imm cs))).run (qav st.heap)=some y)(hle:C.P.cellsOf t<=cs.length)(hlt:0<cs.length)(hb:qat C.P t=some bb) :
  ∀a,SR C st C.inj0 a C.w0->∃v,(∀w',FZ C w'->(execOp a.eval o).run C.P w'=.ok (.value v) w')/\AR C.X C.inj0 st.sig C.w0 y v:=by
 intro a hs;have V:=hs.eval xo;rw[hv]at V;obtain⟨u1,q1,q2⟩:=qvf (P:=C.P) hs.hr V hy;simp only[AR,PR]at V;obtain⟨b,off,vs,A,W,hone,hb1,Z,U⟩:=V;have hF:¬F C.inj0 (qav C.H0) b:=fun h=>Z (.inr (by rw[show st.sig=qav C.H0 from by rw[<-hh]];exact h))
 have H:∀w',FZ C w'->∀(j:Nat) (v:Value),vs[j]?=some v->w'.cell? ⟨b,off+j,none⟩=some v:=fun w' I j v O=>by
  have h1:=U j v O;have h2:=I b hb1 hF;simp only[World.cell?]at h1 ⊢
  grind
 have hlen:vs.length=cs.length:=W.length.symm;have E:∃v,∀w',FZ C w'->(Instr.loadAt t (a.eval xo)).run C.P w'=.ok v w':=by
  cases bb with
  | true =>
   refine⟨.agg (vs.take (C.P.cellsOf t)).toArray,fun w' I=>?_⟩;rw[A];have:=qod (P:=C.P) (w:=w') hb (a:=⟨b,off,none⟩) (cs:=vs.take (C.P.cellsOf t)) (fun j v O=>by
    rw[v59]at O;split at O
    ·rw[Addr.add_lit]
     grind
    ·cases O) (by rw[v6g];omega)
   simpa[Instr.loadAt,Instr.sureAddr] using this
  |false =>
   have M:vs[0]?=some (vs[0]'(by omega)):=v52 _;refine⟨vs[0]'(by omega),fun w' I=>?_⟩;rw[A];have:=qsz (P:=C.P) (w:=w') hb (a:=⟨b,off,none⟩) (by have:=H w' I 0 _ M;simpa using this);simpa[Instr.loadAt,Instr.sureAddr] using this
 obtain⟨v,J⟩:=E;have:=J C.w0 (fun _ _ _=>rfl);rw[q1]at this;cases this;refine⟨u1,fun w' I=>?_,q2⟩;obtain⟨dst,op,ty,pos,af,gd⟩:=o;simp only at ho;subst ho;have h1:=J w' I;simp[execOp,h1]
theorem zF0{n:Nat}{I:Array Bool}(E:C.P.follows .mixedOrders=true)
  (h:∀inj w hT,HI ⟨C.P,C.N,C.B,C.X,st.heap,inj,w,C.D,hT⟩ l.toArray Q n I st) (hn:l.toArray.size=n:=by rfl) (A:Array.replicate n false=I:=by rfl):AWp C (.region id l.toArray true) Q st:=by
 subst hn;subst A;exact vk1 E h
section
variable {ops:Array Oper} {fuel:Nat} {listed listed':Array Bool} {o:Oper} {y:AV} {st':St} {xo:Operand}
variable {t:TypeId}
theorem zF0l{cs:List PV}{W:Bool}(i:Nat)(h:HI C ops Q fuel listed' st')(J:Region.noSelect ops=true:=by kernel_rfl)(hi:ops[i]?=some o:=by rfl)(ho:o.op=.load t xo:=by rfl)
  (hf:Region.free .any ops listed i=true:=by kernel_rfl) (hr:(Region.ready .any ops listed).contains i=true:=by kernel_rfl) (O:o.guard=none:=by rfl) (V:qb2 C.N o=true:=by rfl) (U:st.heap=C.H0:=by rfl)
  (M:ev st.env xo=.p (.imm cs):=by simp only[go_sem,seval, *];all_goals exact zF) (hy:(qz3 C.P t (.p (.imm cs))).run (qav st.heap)=some y:=by simp only[go_sem,seval, *];all_goals exact zF)
  (E:C.P.cellsOf t<=cs.length:=by simp only[go_sem,seval,List.length_cons,List.length_nil];all_goals decide) (I:0<cs.length:=by simp) (Z:qat C.P t=some W:=by simp only[qat,go_sem,seval];all_goals exact rfl)
  (A:listed.setIfInBounds i true=listed':=by rfl) (H:(⟨qfa st.env o.dst y,st.heap⟩:St)=st':=by rfl):HI C ops Q (fuel+1) listed st:=by
 subst A;subst H;exact q48 hi J hf hr O V (v1w U ho M hy E I Z) h
theorem zF0f{s f:Nat}(i:Nat)(h:HI C ops Q fuel listed' st')(H:Region.noSelect ops=true:=by kernel_rfl)(hi:ops[i]?=some o:=by rfl)(ho:o.op=.fieldAddr s xo f:=by rfl)
  (O:Region.free .any ops listed i=true:=by kernel_rfl) (hr:(Region.ready .any ops listed).contains i=true:=by kernel_rfl) (I:o.guard=none:=by rfl) (J:qb2 C.N o=true:=by rfl)
  (hl:vpx (ev st.env xo)=true:=by simp only[go_sem,seval, *];done) (M:qk6 C.P s f (ev st.env xo)=some y:=by simp only[go_sem,seval, *];all_goals exact zF)
  (A:listed.setIfInBounds i true=listed':=by rfl) (E:(⟨qfa st.env o.dst y,st.heap⟩:St)=st':=by rfl):HI C ops Q (fuel+1) listed st:=by
 subst A;subst E;exact q48 hi H O hr I J (vk2 (vk4 ho M hl)) h
theorem zF0m(i:Nat)(h:HI C ops Q fuel listed' st')(H:Region.noSelect ops=true:=by kernel_rfl)(hi:ops[i]?=some o:=by rfl)(ho:o.op=.move xo\/o.op=.assign xo:=by first|exact .inl rfl|exact .inr rfl)
  (O:Region.free .any ops listed i=true:=by kernel_rfl) (hr:(Region.ready .any ops listed).contains i=true:=by kernel_rfl) (I:o.guard=none:=by rfl) (J:qb2 C.N o=true:=by rfl)
  (M:ev st.env xo=y:=by simp only[go_sem,seval, *];all_goals exact rfl)
  (A:listed.setIfInBounds i true=listed':=by rfl) (E:(⟨qfa st.env o.dst y,st.heap⟩:St)=st':=by rfl):HI C ops Q (fuel+1) listed st:=by
 subst A;subst E;exact q48 hi H O hr I J (vk2 (vvk ho M)) h
theorem zF0b{e:TypeId}(i:Nat)(H:C.P.underlying t=some (.slice e))(h:HI C ops Q fuel listed' st')(I:Region.noSelect ops=true:=by kernel_rfl)(hi:ops[i]?=some o:=by rfl)(ho:o.op=.call ⟨.builtin .len,#[xo],#[t]⟩:=by rfl)
  (U:Region.free .any ops listed i=true:=by kernel_rfl) (hr:(Region.ready .any ops listed).contains i=true:=by kernel_rfl) (J:o.guard=none:=by rfl) (M:qb2 C.N o=true:=by rfl)
  (hl:vvt (ev st.env xo)=true:=by simp only[go_sem,seval, *];done) (O:(aop.lenT C.P t (ev st.env xo)).run (qav st.heap)=some y:=by simp only[go_sem,seval, *];all_goals exact zF)
  (A:listed.setIfInBounds i true=listed':=by rfl) (E:(⟨qfa st.env o.dst y,st.heap⟩:St)=st':=by rfl):HI C ops Q (fuel+1) listed st:=by
 subst A;subst E;exact q48 hi I U hr J M (vk2 (v1t ho H hl O)) h
def HFK(C:Cx)(ops:Array Oper)(Q:Exit->St->Prop)(fuel:Nat)(listed:Array Bool):Exit->St->Prop:=fun ex s=>ex=.normal/\HF C ops Q fuel listed s
theorem zF1(h:HF C ops Q fuel listed st):HI C ops Q fuel listed st:=hi_of h
theorem zFs(i:Nat)(h:AL C ops [o] (HFK C ops Q fuel listed') st)(hi:ops[i]?=some o:=by rfl)(hr:Region.ready .any ops listed=[i]:=by kernel_rfl)(A:listed.setIfInBounds i true=listed':=by rfl):HF C ops Q (fuel+1) listed st:=by
 subst A;exact vvu hi hr h
theorem zFk(h:HF C ops Q fuel listed st):HFK C ops Q fuel listed .normal st:=⟨rfl,h⟩
theorem zFe(h:Q .normal st)(hr:Region.ready .any ops listed=[]:=by kernel_rfl):HF C ops Q fuel listed st:=vvv hr h
end
end
section
variable {args:Array Operand} {J:Array TypeId} {k:FuncId} {o:Oper}
theorem vpy{D:Prop}{P:Program}{ρ:Operand->AV}{σ:Nat->AO}{I:List PV}{r:PV}(Z:Con D P k I r)(ho:o.op=.call ⟨.value (.func k),args,J⟩)
  (hv:quw (args.toList.map ρ)=some I):OpU D P o ρ σ (.p r) none []:=by
 intro X A σ' hρ _ inj w a next Q hr hT ha hnx
 have E:=qrc (fun x=>ha x) args.toList;have hm:args.toList.map A=args.toList.map ρ:=List.map_congr_left fun x W=>hρ x (by rw[ho];simp[Op.operands,Call.operands]at W ⊢;exact .inr W)
 rw[hm]at E;have H:(execOp a.eval o).run P w=.ok (.enter k (args.toList.map a.eval).toArray) w:=by
  obtain⟨dst,op,V,pos,O,M⟩:=o;simp only at ho;subst ho;simp only[execOp,resolve,Deferred.ofValue,Act.eval,v7w,v7x,v7u,invoke];rw[Z.1];simp
  grind
 unfold Oper.wp;rw[H];simp only[Oper.upon];refine(Z.2 (fun b=>X b\/F inj σ' b) w (args.toList.map a.eval) (fun b hb=>hb.elim (hr.xlt b) fun hf=>(hr.flt hf).1) hT (qrn hv E)).mono ?_;rintro e w' ⟨v,rfl,h1,U⟩;exact hnx _ w' inj (hr.fr U) U.ev h1
variable {C:Cx} {Q:Exit->St->Prop} {st:St}
theorem ycN{ops:Array Oper}{K:List Evt->St->Prop}{rest:List Oper}{E:List Evt}{I:List PV}{r:PV}{st':St}(U:Con C.D C.P k I r)
  (h:DGo C ops rest st' (⟨.p r,none,[]⟩::E) K)
  (ho:o.op=.call ⟨.value (.func k),args,J⟩:=by rfl) (H:qbh ops st.env o=some true:=by first|exact qao rfl|exact qbr rfl rfl (by exact rfl) (by exact rfl)) (A:qb2 C.N o=true:=by rfl)
  (O:quw (args.toList.map (ev st.env))=some I:=by simp only[go_sem,seval, *];exact rfl) (M:(⟨qfa st.env o.dst (.p r),st.heap⟩:St)=st':=by rfl):DGo C ops (o::rest) st E K:=by
 subst M;exact DGo.ext (vpy U ho O) H A rfl h
theorem vpz(δ:Nat->Nat)(n:Nat)(x:PV):quv δ (v6u n (.p x))=v6u n (.p x):=by
 have h:v6u n (AV.p x)=(v6u n x).map AV.p:=by simp
 rw[h,q46]
theorem vk5(n:Nat)(x:PV):qql (v6u n (.p x))=[]:=by
 have h:v6u n (AV.p x)=(v6u n x).map AV.p:=by simp
 rw[h,q09]
attribute [go_sem] vpz vk5
end
section
variable {x:Operand} {o:Oper} {n:Int}
theorem vvw{n:Nat}(hn:n<128):Utf8.encode (n:Int)=⟨#[UInt8.ofNat n]⟩:=by
 have A:∀m:Fin 128,(Utf8.encode (m.val:Int)).data=#[UInt8.ofNat m.val]:=by decide +kernel
 have:=A ⟨n,hn⟩;cases E:Utf8.encode (n:Int) with
 |mk d=>rw[E]at this;exact congrArg ByteArray.mk this
theorem vvx{D:Prop}{P:Program}{s d:TypeId}{ρ:Operand->AV}{σ:Nat->AO}{k U:IntKind}(ho:o.op=.convert s d x)
  (V:P.underlying s=some (.int U)) (W:P.underlying d=some .string) (I:ρ x=.p (.int k n)) (h0:0<=n) (hn:n<128):OpU D P o ρ σ (.p (.str [UInt8.ofNat n.toNat])) none []:=by
 intro X A σ' hρ _ inj w a next Q hr hT ha hnx
 have J:=ha x;rw[hρ x (by rw[ho];simp[Op.operands]),I]at J;simp only[AR,PR]at J;obtain⟨m,rfl⟩:=Int.eq_ofNat_of_zero_le h0;have Z:=vvw (n:=m) (by omega);have E:(execOp a.eval o).run P w=.ok (.value (.string ⟨#[UInt8.ofNat m]⟩)) w:=by
  obtain⟨dst,op,O,pos,M,H⟩:=o;simp only at ho;subst ho;simp[execOp,convert,run_underlying V,run_underlying W,J,Conv.intToString,Z]
 unfold Oper.wp;rw[E];exact hnx _ w inj hr (Ev.refl _ _ _ _) rfl
variable {C:Cx} {Q:Exit->St->Prop} {st:St}
theorem zChr{ops:Array Oper}{rest:List Oper}{s d:TypeId}{k I:IntKind}(h0:0<=n)(hn:n<128)(M:C.P.underlying s=some (.int I))(U:C.P.underlying d=some .string)
  (h:AL C ops rest Q ⟨qfa st.env o.dst (.p (.str [UInt8.ofNat n.toNat])),st.heap⟩)
  (ho:o.op=.convert s d x:=by rfl) (H:qbh ops st.env o=some true:=by first|exact qao rfl|exact qbr rfl rfl (by exact rfl) (by exact rfl)) (E:qb2 C.N o=true:=by rfl)
  (O:ev st.env x=.p (.int k n):=by simp only[go_sem,seval, *];all_goals rfl):AL C ops (o::rest) Q st:=by
 intro inj a w A;simp only[wpList,qb3 A H,if_true];exact .inl (vvx ho M U O h0 hn C.X (ev st.env) st.sig (fun _ _=>rfl) (fun _ _=>rfl) A.hr (qo9 A.ev) (fun x=>A.eval x) fun val w' inj' h1 J V=>h inj' _ _ (A.put (u:=none) E h1 J V))
end
section
section
variable {α β:Type} {h h' H0 rest:List (Nat×AO)} {f e sz G G' i:Nat} {enc:α->PV} {encV:β->PV} {ll:List (List α)} {vs:List (List β)}
def qtj(f e sz G:Nat)(enc:α->PV)(ll:List (List α)):List AV:=ll.mapIdx fun i x=>.agg [.own (fx f i) G 0 x.length,.nils]
def qvn(f e sz G:Nat)(enc:α->PV)(encV:β->PV)(vs:List (List β))(ll:List (List α)):List AV:=ll.mapIdx fun i x=>.agg [.p (.slc (v8t encV (vs.getD i []))),.own (fx f i) G 0 x.length]
def vvy(encV:β->PV)(vs:List (List β)):List AV:=vs.map fun x=>.agg [.p (.slc (v8t encV x)),.nils]
theorem qoh(i:Nat):(qtj f e sz G enc ll)[i]?=(ll[i]?).map fun x=>AV.agg [.own (fx f i) G 0 x.length,.nils]:=by simp[qtj,v9r]
theorem qqn(i:Nat):(qvn f e sz G enc encV vs ll)[i]?=(ll[i]?).map fun x=>AV.agg [.p (.slc (v8t encV (vs.getD i []))),.own (fx f i) G 0 x.length]:=by simp[qvn,v9r]
theorem qje:(qtj f e sz G enc ll).length=ll.length:=by simp[qtj]
theorem qm6:(qvn f e sz G enc encV vs ll).length=ll.length:=by simp[qvn]
theorem q49:(vvy encV vs).length=vs.length:=by simp[vvy]
theorem vk6:qtj f e sz G enc []=[]:=rfl
theorem qm1{σ σ':Nat->AO}{a b a' M:AV}:LeV σ σ' (.agg [a,b]) (.agg [a',M])=(LeV σ σ' a a'/\LeV σ σ' b M):=by
 show(AV.isAgg (.agg [a,b])=true/\qkv σ σ' [a,b] [a',M])=_;simp only[AV.isAgg,qkv,and_true,true_and]
theorem qws{σ σ':Nat->AO}(x:PV):LeV σ σ' (.p x) (.p x):=by simp[LeV,view]
theorem qqo{σ σ':Nat->AO}:LeV σ σ' .nils .nils:=rfl
theorem q8e(h1:qft h f e sz G enc ll)(I:qft h' f e sz G' enc ll):qkv (qav h) (qav h') (qtj f e sz G enc ll) (qtj f e sz G' enc ll)=True:=by
 rw[eq_iff_iff,iff_true];refine qjb (by rw[qje,qje]) fun j c J E A=>?_
 rw[qoh]at E A;cases H:ll[j]? with
 |none=>rw[H]at E;cases E
 |some x =>
  rw[H]at E A;cases E;cases A;rw[qm1];exact⟨qtg (h1 j x H) (I j x H),qqo⟩
theorem q8f(h1:qft h f e sz G enc ll)(I:qft h' f e sz G' enc ll):qkv (qav h) (qav h') (qvn f e sz G enc encV vs ll) (qvn f e sz G' enc encV vs ll)=True:=by
 rw[eq_iff_iff,iff_true];refine qjb (by rw[qm6,qm6]) fun j c J E A=>?_
 rw[qqn]at E A;cases H:ll[j]? with
 |none=>rw[H]at E;cases E
 |some x =>
  rw[H]at E A;cases E;cases A;rw[qm1];exact⟨qws _,qtg (h1 j x H) (I j x H)⟩
theorem q5a{y:List α}{g m:Nat}(h1:qnr h f i e sz G enc ll)(U:qft h' f e sz G enc (ll.set i y))(V:(qav h (fx f i)).gen=g)(ha:(qav h (fx f i)).alive=true)(O:q7w m y) :
  qkv (qav h) (qav h') ((qtj f e sz G enc ll).set i (.agg [.own (fx f i) g 0 m,.nils])) (qtj f e sz G enc (ll.set i y))=True:=by
 rw[eq_iff_iff,iff_true];unfold q7w at O;subst O;refine qjb (by rw[v6f,qje,qje,v6f]) fun j c W H A=>?_
 rw[qoh]at A;cases E:(ll.set i y)[j]? with
 |none=>rw[E]at A;cases A
 |some x =>
  rw[E]at A;cases A;have M:=U j x E;have I:j<ll.length:=by have:=(v56.1 E).1;simpa using this
  by_cases J:j=i
  ·subst J;rw[v8q (by rw[qje];exact I)]at H;cases H;rw[v8q I]at E;cases E;rw[qm1];exact⟨.inl ⟨by rw[V],by rw[M];rfl,by rw[M];rfl,ha⟩,qqo⟩
  ·rw[v8p (fun e=>J e.symm),qoh]at H;rw[v8p (fun e=>J e.symm)]at E;rw[E]at H;cases H;rw[qm1];exact⟨qtg (h1 j x J E) M,qqo⟩
theorem q5b{y:List α}{g m:Nat}{v:PV}(h1:qnr h f i e sz G enc ll)(U:qft h' f e sz G enc (ll.set i y))(W:(qav h (fx f i)).gen=g)(ha:(qav h (fx f i)).alive=true)(O:q7w m y)(V:v=.slc (v8t encV (vs.getD i []))) :
  qkv (qav h) (qav h') ((qvn f e sz G enc encV vs ll).set i (.agg [.p v,.own (fx f i) g 0 m])) (qvn f e sz G enc encV vs (ll.set i y))=True:=by
 rw[eq_iff_iff,iff_true];unfold q7w at O;subst O;subst V;refine qjb (by rw[v6f,qm6,qm6,v6f]) fun j c Z H A=>?_
 rw[qqn]at A;cases E:(ll.set i y)[j]? with
 |none=>rw[E]at A;cases A
 |some x =>
  rw[E]at A;cases A;have M:=U j x E;have I:j<ll.length:=by have:=(v56.1 E).1;simpa using this
  by_cases J:j=i
  ·subst J;rw[v8q (by rw[qm6];exact I)]at H;cases H;rw[v8q I]at E;cases E;rw[qm1];exact⟨qws _,.inl ⟨by rw[W],by rw[M];rfl,by rw[M];rfl,ha⟩⟩
  ·rw[v8p (fun e=>J e.symm),qqn]at H;rw[v8p (fun e=>J e.symm)]at E;rw[E]at H;cases H;rw[qm1];exact⟨qws _,qtg (h1 j x J E) M⟩
theorem q2u(h1:qft h f e sz G enc ll)(U:qft h' f e sz G enc (ll++[[]]))(V:(qav h (fx f ll.length)).alive=false) :
  qkv (qav h) (qav h') (qtj f e sz G enc ll++[.agg [.nils,.nils]]) (qtj f e sz G enc (ll++[[]]))=True:=by
 rw[eq_iff_iff,iff_true];refine qjb (by simp[qje]) fun j c W H A=>?_
 rw[qoh]at A;cases E:(ll++[[]])[j]? with
 |none=>rw[E]at A;cases A
 | some x =>
  rw[E]at A;cases A;have M:=U j x E;by_cases O:j<ll.length
  ·rw[v8j (by rw[qje];exact O),qoh]at H;rw[v8j O]at E;rw[E]at H;cases H;rw[qm1];exact⟨qtg (h1 j x E) M,qqo⟩
  ·have I:=(v56.1 E).1;simp only[v6b,List.length_singleton]at I;have:j=ll.length:=by omega
   subst this;rw[v8k (by rw[qje];exact v7a _),qje,Nat.sub_self]at H;cases H;have J:x=[]:=by
    rw[v8k (v7a _),Nat.sub_self]at E;exact(v9i E).symm
   subst J;rw[qm1];exact⟨.inr ⟨rfl,rfl,rfl,V,by rw[M];rfl⟩,qqo⟩
theorem vp0{x:List α}(h1:qav h (fx f i)=.arr e sz G (v8t AV.p (v8t enc x)))(A:(qav h' (fx f i)).alive=false):LeV (qav h) (qav h') (.own (fx f i) G 0 x.length) (.p (.slc (v8t enc x))):=by
 show(view (fun l=>!(qav h' l).alive) 9 (.own (fx f i) G 0 x.length)).run (qav h)=some _;have E:(!(qav h' (fx f i)).alive)=true:=by rw[A];rfl
 simp only[view,E,if_true,L.run_look,h1];rw[if_pos ⟨trivial,by simp⟩];rw[L.run_bind',List.drop_zero,v6y (by simp),qlm];rfl
theorem q5c(h1:qft h f e sz G enc ll)(I:qlq h' f):qkv (qav h) (qav h') (qtj f e sz G enc ll) (vvy enc ll)=True:=by
 rw[eq_iff_iff,iff_true];refine qjb (by rw[qje,q49]) fun j c J E A=>?_
 rw[qoh]at E;cases H:ll[j]? with
 |none=>rw[H]at E;cases E
 |some x =>
  rw[H]at E;cases E;rw[vvy,v8n,H]at A;cases A;rw[qm1];exact⟨vp0 (h1 j x H) (I j),qqo⟩
theorem vbl(O:qlq h f)(M:qft h' f e sz G enc (v6u vs.length [])):qkv (qav h) (qav h') (vvy encV vs) (qvn f e sz G enc encV vs (v6u vs.length []))=True:=by
 rw[eq_iff_iff,iff_true];refine qjb (by rw[q49,qm6,List.length_replicate]) fun j c V H A=>?_
 rw[qqn]at A;cases E:(v6u vs.length ([]:List α))[j]? with
 |none=>rw[E]at A;cases A
 | some x =>
  rw[E]at A;cases A;have U:=M j x E;have J:x=[]:=by
   rw[List.getElem?_replicate]at E;split at E
   ·exact(v9i E).symm
   ·cases E
  subst J;rw[vvy,v8n]at H;cases I:vs[j]? with
  |none=>rw[I]at H;cases H
  |some v =>
   rw[I]at H;cases H;rw[qm1,v8i,I];exact⟨qws _,.inr ⟨rfl,rfl,rfl,O j,by rw[U];rfl⟩⟩
theorem q2v{U:Type}(E:U->PV)(mk:List β->List α->U)(M:∀a b,E (mk a b)=.agg [.slc (v8t encV a),.slc (v8t enc b)])(hl:vs.length=ll.length)(h1:qft h f e sz G enc ll)(V:qlq h' f) :
  qkv (qav h) (qav h') (qvn f e sz G enc encV vs ll) (v8t AV.p (v8t E (List.zipWith mk vs ll)))=True:=by
 rw[eq_iff_iff,iff_true];refine qjb (by rw[qm6];simp[hl]) fun j c c' I H=>?_
 rw[qqn]at I;cases J:ll[j]? with
 |none=>rw[J]at I;cases I
 | some x =>
  rw[J]at I;cases I;have hjl:=(v56.1 J).1;have W:vs[j]?=some (vs.getD j []):=by rw[v8i,v52 (by omega)];rfl
  rw[v8n,v8n,List.getElem?_zipWith,W,J]at H;simp only[Option.map_some,v7s]at H;subst H;rw[M];show(view (fun l=>!(qav h' l).alive) 9 (.agg [.p (.slc (v8t encV (vs.getD j []))),.own (fx f j) G 0 x.length])).run (qav h)=_;have O:(view (fun l=>!(qav h' l).alive) 8 (.own (fx f j) G 0 x.length)).run (qav h)=some (.slc (v8t enc x)):=by
   have hD:(!(qav h' (fx f j)).alive)=true:=by rw[V j];rfl
   simp only[view,hD,if_true,L.run_look,h1 j x J];rw[if_pos ⟨trivial,by simp⟩];rw[L.run_bind',List.drop_zero,v6y (by simp),qlm];rfl
  have Z:(view (fun l=>!(qav h' l).alive) 8 (.p (.slc (v8t encV (vs.getD j []))))).run (qav h)=some (.slc (v8t encV (vs.getD j []))):=rfl;show((qba (view (fun l=>!(qav h' l).alive) 8) [.p (.slc (v8t encV (vs.getD j []))),.own (fx f j) G 0 x.length]).bind fun A=>L.ret (PV.agg A)).run (qav h)=_;simp only[qba,L.run_bind',O,Z];rfl
theorem vbm{A:Type}{f:A->PV}{x:List (List A)}{y:List A}:va3 (v8t AV.p (v8t (qal f) x++[PV.slc (v8t f y)])) (qal f) (x++[y])=True:=by simp[va3,qal]
end
attribute [go_sem] vbm qoh qqn qje qm6 q49 vk6 q8e q8f q5a q5b q2u q5c vbl Nat.min_self List.length_zipWith
end
section
variable {c:Operand} {b:Bool}
theorem swp_l(x y:Nat):swp x y x=y:=by simp[swp]
theorem swp_r(x y:Nat):swp x y y=x:=by unfold swp;split<;>simp_all
attribute [go_sem] vj9 swp_l swp_r qta vc1
theorem not_t(h:b=true):(!b)=false:=by rw[h];rfl
theorem not_f(h:¬b=true):(!b)=true:=by simpa using h
variable {C:Cx} {Q:Exit->St->Prop} {st:St}
theorem zin{x y:Code}(h:AWp C x Q st)(A:ev st.env c=.p (.bool true):=by simp only[go_sem,seval, *];all_goals first|assumption|exact Bool.eq_false_iff.2 (by assumption)|exact not_f (by assumption)):AWp C (.cond c x y) Q st:=vc4 A h
theorem zjn{x y:Code}(h:AWp C y Q st)(A:ev st.env c=.p (.bool false):=by simp only[go_sem,seval, *];all_goals first|assumption|exact Bool.eq_false_iff.2 (by assumption)|exact not_t (by assumption)):AWp C (.cond c x y) Q st:=vc5 A h
theorem zSwO{ops:Array Oper}{l:List Oper}(x y:Nat)(h:AL C ops l Q ⟨vh5 (swp x y) st.env,vgd (swp x y) st.heap⟩)
  (h1:qy4 (qav C.H0 x) (qav st.heap y):=by simp only[go_sem,seval, *];all_goals first|exact fun h=>h|(simp;done)|(simp[*];done)) (A:qy4 (qav C.H0 y) (qav st.heap x):=by simp only[go_sem,seval, *];all_goals first|exact fun h=>h|(simp;done)|(simp[*];done)):AL C ops l Q st:=v1d x y h1 A h
end
end Go.Ab
namespace Go.Ab
open Go Go.Proofs Go.Shelf Go.RowKit Go.Lib
variable {P:Program} {ρ:Ren}
end Go.Ab
namespace Go.Ab
open Go Go.Proofs Go.Shelf
variable {P:Program} {ρ:Ren} {D:Prop}
end Go.Ab
namespace Go.Ab
open Go Go.Shelf
variable {C:Cx} {st:St}
end Go.Ab
namespace Go.Ab
variable {D:Prop}
open Go
end Go.Ab
namespace Go.Ab
structure Bx(q:Prop):Prop where
 o:q
variable {p q r:Prop}
theorem M0(h:r)(H:Bx r->p:=by intro h;obtain⟨h⟩:=h;refine zU<|zl ?_;cases h;exact⟨rfl,zE⟩):p:=H ⟨h⟩
theorem M1(h:r)(H:Bx r->p:=by intro h;obtain⟨h⟩:=h;refine zj<|zx<|ze ?_;cases h;exact⟨rfl,zE⟩):p:=H ⟨h⟩
theorem M2(h:r)(e:q)(H:Bx r->Bx q->p:=by intro h k;obtain⟨h⟩:=h;refine zU<|zl<|zn<|zq ?_;cases h;exact zT k.1):p:=H ⟨h⟩ ⟨e⟩
theorem M3(k:q)(H:Bx q->p:=by intro k;refine yg ?_;refine yg ?_;refine yg ?_;refine yg ?_;refine yg ?_;refine yg ?_;refine yg ?_;exact k.1):p:=H ⟨k⟩
theorem M4(k:q)(H:Bx q->p:=by intro k;refine zU<|zl<|zn<|zs<|zr ?_;exact k.1):p:=H ⟨k⟩
theorem M5(k:q)(H:Bx q->p:=by intro k;refine zU<|zl<|zn<|zs<|zs<|zr ?_;refine zU<|zl<|zn<|zb ?_;exact k.1):p:=H ⟨k⟩
theorem M6(h:r)(e:q)(H:Bx r->Bx q->p:=by intro h k;obtain⟨h⟩:=h;refine zi<|zs<|zr ?_;refine zU<|zl<|zn<|zq<|zt ?_;cases h;exact zT k.1):p:=H ⟨h⟩ ⟨e⟩
theorem M7(k:q)(H:Bx q->p:=by intro k;refine zg ?_;refine zg ?_;refine zg ?_;exact k.1):p:=H ⟨k⟩
theorem M8(k:q)(H:Bx q->p:=by intro k;refine zs<|zr ?_;refine zU<|zl<|zn<|zs ?_;exact k.1):p:=H ⟨k⟩
theorem M9(k:q)(H:Bx q->p:=by intro k;refine zi<|zk<|zn<|zs<|zb<|zs<|zr ?_;exact k.1):p:=H ⟨k⟩
theorem Ma(h:r)(H:Bx r->p:=by intro h;obtain⟨h⟩:=h;try simp only at h;refine zZ fun s hq=>?_;refine yr<|zt ?_;cases h;exact hq):p:=H ⟨h⟩
theorem Mb(k:q)(H:Bx q->p:=by intro k;refine zi<|zs<|zr ?_;refine zU<|zl<|zn<|zq<|yr<|zt ?_;exact k.1):p:=H ⟨k⟩
theorem Mc(k:q)(H:Bx q->p:=by intro k;refine zU<|zl<|zn ?_;exact k.1):p:=H ⟨k⟩
theorem Md(k:q)(H:Bx q->p:=by intro k;refine zU<|zl<|zn<|zs<|zs<|zr ?_;exact k.1):p:=H ⟨k⟩
theorem Me(k:q)(H:Bx q->p:=by intro k;refine zA<|yh<|zn<|zs<|zr ?_;exact k.1):p:=H ⟨k⟩
theorem Mf(k:q)(H:Bx q->p:=by intro k;refine zj<|zk<|yn<|zn<|zr ?_;exact k.1):p:=H ⟨k⟩
theorem Mg(k:q)(H:Bx q->p:=by intro k;refine yg ?_;refine yg ?_;refine yg ?_;exact k.1):p:=H ⟨k⟩
theorem Mh(k:q)(H:Bx q->p:=by intro k;refine zh ?_;refine zU ?_;refine zh ?_;exact k.1):p:=H ⟨k⟩
theorem Mi(k:q)(H:Bx q->p:=by intro k;refine zj<|zk<|zn<|zs<|zr ?_;exact k.1):p:=H ⟨k⟩
theorem Mj(k:q)(H:Bx q->p:=by intro k;refine zj<|zk<|zn<|zs<|zs<|zr ?_;exact k.1):p:=H ⟨k⟩
theorem Mk(k:q)(H:Bx q->p:=by intro k;refine zU<|zl<|yn<|zn<|zr ?_;exact k.1):p:=H ⟨k⟩
theorem Ml(k:q)(H:Bx q->p:=by intro k;refine zi<|zs<|zr ?_;refine zU<|zl<|zn<|zq<|zt<|yr<|zt ?_;exact k.1):p:=H ⟨k⟩
theorem Mm(k:q)(H:Bx q->p:=by intro k;refine zs<|zr ?_;exact k.1):p:=H ⟨k⟩
theorem Mn(k:q)(H:Bx q->p:=by intro k;refine zg ?_;refine zg ?_;exact k.1):p:=H ⟨k⟩
theorem Mo(k:q)(H:Bx q->p:=by intro k;refine zU<|zl<|zn<|zb ?_;exact k.1):p:=H ⟨k⟩
theorem Mp(h:r)(e:q)(H:Bx r->Bx q->p:=by intro h k;obtain⟨h⟩:=h;refine yU ?_;refine yd<|zn<|zq ?_;cases h;exact zT k.1):p:=H ⟨h⟩ ⟨e⟩
theorem Mq(k:q)(H:Bx q->p:=by intro k;refine zi<|zs<|zr ?_;refine zU<|zl<|zn<|zq<|zt ?_;exact k.1):p:=H ⟨k⟩
theorem Mr(k:q)(H:Bx q->p:=by intro k;refine yU ?_;refine yd<|zn ?_;exact k.1):p:=H ⟨k⟩
theorem Ms(h:r)(H:Bx r->p:=by intro h;obtain⟨h⟩:=h;cases h;exact⟨rfl,zE⟩):p:=H ⟨h⟩
theorem Mt(k:q)(H:Bx q->p:=by intro k;refine zU<|zl<|zn<|zq ?_;exact k.1):p:=H ⟨k⟩
theorem Mu(k:q)(H:Bx q->p:=by intro k;refine zU<|zl<|zn<|zs<|zd ?_;exact k.1):p:=H ⟨k⟩
theorem Mv(k:q)(H:Bx q->p:=by intro k;refine zU<|zl<|zn<|zr ?_;exact k.1):p:=H ⟨k⟩
theorem Mw(k:q)(H:Bx q->p:=by intro k;dsimp only;refine zs<|zs<|zr ?_;exact k.1):p:=H ⟨k⟩
theorem Mx(k:q)(H:Bx q->p:=by intro k;refine zA<|yh<|yn<|zn<|zr ?_;exact k.1):p:=H ⟨k⟩
theorem My(k:q)(H:Bx q->p:=by intro k;refine zA<|yh<|zn<|zs<|zs<|zr ?_;exact k.1):p:=H ⟨k⟩
theorem Mz(k:q)(H:Bx q->p:=by intro k;refine yU ?_;refine yd<|yn<|zn<|zr ?_;exact k.1):p:=H ⟨k⟩
theorem T0(k:q)(H:Bx q->p:=by intro k;refine zi<|zs<|zr ?_;exact k.1):p:=H ⟨k⟩
theorem T1(k:q)(H:Bx q->p:=by intro k;refine yg ?_;refine yg ?_;exact k.1):p:=H ⟨k⟩
theorem T2(k:q)(H:Bx q->p:=by intro k;refine yk ?_;refine yU ?_;refine yk ?_;exact k.1):p:=H ⟨k⟩
theorem T3(k:q)(H:Bx q->p:=by intro k;refine zU<|zl<|zn<|zq<|yr<|zt ?_;exact k.1):p:=H ⟨k⟩
theorem T4(k:q)(H:Bx q->p:=by intro k;refine zi<|zx<|ze<|yh<|zn<|zr ?_;exact k.1):p:=H ⟨k⟩
theorem T5(k:q)(H:Bx q->p:=by intro k;refine zU<|zl<|zn<|zq<|zt ?_;exact k.1):p:=H ⟨k⟩
theorem T6(h:r)(e:q)(H:Bx r->Bx q->p:=by intro h k;obtain⟨h⟩:=h;cases h;exact zT k.1):p:=H ⟨h⟩ ⟨e⟩
theorem T7(k:q)(H:Bx q->p:=by intro k;refine zg ?_;refine zU ?_;exact k.1):p:=H ⟨k⟩
theorem T8(k:q)(H:Bx q->p:=by intro k;refine zj<|zs<|zr ?_;exact k.1):p:=H ⟨k⟩
theorem T9(k:q)(H:Bx q->p:=by intro k;refine yU ?_;refine yd<|zn<|zs<|zr ?_;exact k.1):p:=H ⟨k⟩
theorem Ta(k:q)(H:Bx q->p:=by intro k;refine zi<|zk<|zn<|zs<|zb<|zs<|zd ?_;exact k.1):p:=H ⟨k⟩
theorem Tb(k:q)(H:Bx q->p:=by intro k;refine zj<|zk<|yn<|zn<|zs<|zr ?_;exact k.1):p:=H ⟨k⟩
theorem Tc(k:q)(H:Bx q->p:=by intro k;refine zi<|zk<|zn<|zs<|zb<|zr ?_;exact k.1):p:=H ⟨k⟩
theorem Td(k:q)(H:Bx q->p:=by intro k;refine zl<|zn<|zs<|zr ?_;exact k.1):p:=H ⟨k⟩
theorem Te(k:q)(H:Bx q->p:=by intro k;refine zi<|zk<|zn<|zb<|zs<|zr ?_;exact k.1):p:=H ⟨k⟩
theorem Tf(k:q)(H:Bx q->p:=by intro k;refine zU<|zl<|yn<|zn<|zs<|zr ?_;exact k.1):p:=H ⟨k⟩
theorem Tg(k:q)(H:Bx q->p:=by intro k;refine zj<|zk<|zn<|zs<|zd ?_;exact k.1):p:=H ⟨k⟩
theorem Th(k:q)(H:Bx q->p:=by intro k;refine zU ?_;refine zh ?_;exact k.1):p:=H ⟨k⟩
theorem Ti(k:q)(H:Bx q->p:=by intro k;refine zU<|zl<|zn<|zd ?_;refine yU ?_;exact k.1):p:=H ⟨k⟩
theorem Tj(k:q)(H:Bx q->p:=by intro k;refine zi<|zr ?_;exact k.1):p:=H ⟨k⟩
theorem Tk(k:q)(H:Bx q->p:=by intro k;refine zA<|yh<|zn<|zr ?_;exact k.1):p:=H ⟨k⟩
theorem Tl(k:q)(H:Bx q->p:=by intro k;refine zU<|zl<|zn<|zs<|zb ?_;exact k.1):p:=H ⟨k⟩
theorem Tm(k:q)(H:Bx q->p:=by intro k;refine zs<|zs<|zr ?_;exact k.1):p:=H ⟨k⟩
theorem Tn(k:q)(H:Bx q->p:=by intro k;refine zr ?_;refine zU ?_;exact k.1):p:=H ⟨k⟩
theorem Tp(k:q)(H:Bx q->p:=by intro k;refine zl<|zn ?_;exact k.1):p:=H ⟨k⟩
theorem Tq(k:q)(H:Bx q->p:=by intro k;refine zU<|zl<|zn<|zb<|zs<|zr ?_;exact k.1):p:=H ⟨k⟩
end Go.Ab
