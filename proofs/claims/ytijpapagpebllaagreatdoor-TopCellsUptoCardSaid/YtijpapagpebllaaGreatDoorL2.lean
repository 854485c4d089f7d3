/- -/
import Derived.Test.YtijpapagpebllaaGreatDoorL1
import Derived.Test.YtijpapagpebllaaGreatDoorA3
set_option linter.unusedVariables false
set_option linter.unusedSimpArgs false
open Bool renaming and_eq_true->v5i,eq_iff_iff->v9y,false_eq_true->v5k,not_eq_true->uay,not_eq_true'->v5m,not_false->uaz,or_eq_true->v79
open Function renaming comp->ua0
open Int renaming eq_ofNat_of_zero_le->ua1,fdiv->v90,fdiv_eq_ediv_of_nonneg->ua2,le_antisymm->ua3,le_refl->ua4,natCast_ediv->ua5,natCast_nonneg->ua6,natCast_zero->v91,tmod->v92,toNat_natCast->v93
open Go.IntKind renaming i64->v96,max->ua7,min->ua8,u64->v98
open List renaming Pairwise->uad,Perm->ua9,all_append->uba,all_eq_true->v8d,any_eq_false->ubb,any_eq_true->v8f,append_assoc->v5r,append_nil->v5s,cons_append->v8g,countP_cons->ubc,countP_le_length->ubd,drop_drop->uae,ext_getElem?->v5y,filter_append->uaf,filter_congr->ube,filter_eq_self->ubf,findIdx?_eq_some_iff_getElem->ubg,flatMap_cons->v8h,flatten_append->ubh,flatten_cons->ubi,foldl_cons->uaj,getD->uak,getD_eq_getElem?_getD->v8i,getElem?_drop->v51,getElem?_eq_getElem->v52,getElem?_eq_none->v54,getElem?_eq_some_iff->v56,getElem?_map->v8n,getElem?_range->ual,getElem_mem->ubj,getElem_take->ubk,length->uan,length_append->v6b,length_cons->v8r,length_drop->v6c,length_eq_zero_iff->ubl,length_filter_le->ubm,length_map->v6d,length_nil->v6e,length_range->uao,length_reverse->ubn,length_set->v6f,length_singleton->v8s,length_take->v6g,map_append->v6h,map_set->ubo,mem_append->v6k,mem_cons->v9s,mem_cons_of_mem->v8y,mem_cons_self->v8z,mem_filter->v80,mem_flatMap->v6l,mem_iff_getElem->ubp,mem_iff_getElem?->ubq,mem_map->v81,mem_of_getElem?->v6m,mem_of_mem_drop->v6n,mem_range->v83,mem_reverse->ubr,mem_singleton->v84,nil_append->v6r,pairwise_append->ubs,pairwise_cons->ubt,pairwise_iff_getElem->ubu,pairwise_lt_range->ubv,pairwise_map->ubw,pairwise_reverse->ubx,pairwise_singleton->uby,range->v6s,range_succ->ubz,replicate->v6u,reverse_perm->ub0,take_add_one->ub1,take_append_drop->v88,take_append_of_le_length->ub2,take_length->ub3,take_of_length_le->v6y,take_set_of_le->ub4,take_succ_eq_append_getElem->ub5
open Nat renaming add_assoc->v61,div_eq_of_lt->ub6,le_refl->v7a,le_trans->v7c,lt_or_ge->ub7,lt_trans->ub8,lt_trichotomy->v9a,min_eq_left->v9b,mul_le_mul_right->v7h,not_lt_zero->ub9,pow_le_pow_right->uar,pow_pos->uca,strongRecOn->v9d,succ_mul->ucb,zero_le->v9f
open Option renaming bind_some->v7m,getD_some->v7o,isSome_none->ucc,isSome_some->ucd
open Option.some renaming inj->v9i
open Prod.mk renaming inj->uce
noncomputable section
namespace Go.Proofs.YtijpapagpebllaaGreatDoor
open Go Go.Ab
variable {t:Table} {A:Type} {s n i k:Nat} {l:List Nat}
structure GT(t:Table):Prop where
 ok:TableOk t
 err:qdi t=0
 num:∀r∈t.Rows,∀v∈r.Values,q5g v
theorem GT.attrs(h:GT t):t.Attrs.length<=16:=by
 have:=h.err;unfold qdi at this;split at this
 ·cases this
 ·split at this
  ·cases this
  ·omega
theorem GT.rows(h:GT t):t.Rows.length<=1000:=by
 have:=h.err;unfold qdi at this
 grind
theorem GT.code(h:GT t):qds t.Attrs.length 0 t.Rows=0:=by
 have:=h.err;unfold qdi at this
 grind
theorem q8x:∀(rows:List Row) (n:Nat) (b:Int),qds n b rows=0->∀r∈rows,r.Values.length=n/\∀v∈r.Values,ql1 v=true
 |[],_,_,_=>by simp
 | r :: rows,n,b,h=>by
  simp only[qds]at h;by_cases h1:r.ID<=b
  ·rw[if_pos h1]at h;cases h
  ·rw[if_neg h1]at h;by_cases A:r.Values.length=n
   ·by_cases E:r.Values.all ql1=true
    ·simp only[A,E,ne_eq,not_true_eq_false,if_false,if_true,Bool.not_true,v5k,Bool.true_eq_false]at h;intro x H;rcases v9s.1 H with rfl|H
     ·exact⟨A,by simpa using E⟩
     ·exact q8x rows n _ h x H
    ·simp[A,E]at h
   ·simp[A]at h
def qlg(t:Table)(i:Nat):Row:=t.Rows.getD i ⟨0,[]⟩
theorem qpn(h:i<t.Rows.length):t.Rows[i]?=some (qlg t i):=by
 simp[qlg,uak,v52 h]
theorem qun(h:i<t.Rows.length):qlg t i∈t.Rows:=v6m (qpn h)
theorem GT.cell(G:GT t)(hi:i<t.Rows.length)(H:k<t.Attrs.length):(qlg t i).Values[k]?=some (qdj (qlg t i) k)/\ql1 (qdj (qlg t i) k)=true/\q5g (qdj (qlg t i) k):=by
 obtain⟨h1,E⟩:=q8x _ _ _ G.code _ (qun hi);have A:(qlg t i).Values[k]?=some (qdj (qlg t i) k):=by
  have hl:k<(qlg t i).Values.length:=by omega
  simp[qdj,uak,v52 hl]
 exact⟨A,E _ (v6m A),G.num _ (qun hi) _ (v6m A)⟩
def q5j(s:Nat)(r:Row):List UInt8:=(qfs s).flatMap fun k=>q3p (qdj r k)
theorem qmw(A:s<2^n)(h:k∈qfs s):k<n:=by
 have:=(qpk h).2;apply Classical.byContradiction;intro E;rw[q1i A (by omega)]at this;cases this
theorem q1q:∀(l:List Nat) (a b:Row),(∀k∈l,ql1 (qdj a k)=true/\q5g (qdj a k)/\ql1 (qdj b k)=true/\q5g (qdj b k)) ->
  ((l.flatMap fun k=>q3p (qdj a k))=(l.flatMap fun k=>q3p (qdj b k))↔∀k∈l,qdj a k=qdj b k)
 |[],a,b,_=>by simp
 | k :: l,a,b,h=>by
  obtain⟨h1,H,J,I⟩:=h k (by simp);simp only[v8h];constructor
  ·intro e;obtain⟨O,M⟩:=vqa h1 J H I e;intro x A;rcases v9s.1 A with rfl|A
   ·exact O
   ·exact(q1q l a b fun y E=>h y (by simp[E])).1 M x A
  ·intro e;rw[e k (by simp),(q1q l a b fun y E=>h y (by simp[E])).2 fun x A=>e x (by simp[A])]
def agN(t:Table)(s i k:Nat):Bool:=decide (q5j s (qlg t i)=q5j s (qlg t k))
theorem vlg(G:GT t)(A:s<2^t.Attrs.length)(hi:i<t.Rows.length)(E:k<t.Rows.length):agN t s i k=true↔qw0 t.Attrs.length (qlg t i) (qlg t k) s:=by
 unfold agN q5j;rw[decide_eq_true_eq,q1q _ _ _ fun a ha=>⟨(G.cell hi (qmw A ha)).2.1,(G.cell hi (qmw A ha)).2.2,(G.cell E (qmw A ha)).2.1,(G.cell E (qmw A ha)).2.2⟩];unfold qw0;constructor
 ·intro h a ha H;rw[qp6];exact h a (by unfold qfs;rw[v80,v83];exact⟨by have:=G.attrs;omega,H⟩)
 ·intro h a ha;have:=h a (qmw A ha) (qpk ha).2
  rwa [qp6]at this
theorem vlh(hn:n<=16)(A:s<2^n):s<4294967296:=ub8 A (q1h (by omega))
theorem vqh(G:GT t)(V:s<2^t.Attrs.length)(hi:i<t.Rows.length) :
  ∃b,qah (qh0 ((qfs s).map fun(k:Nat)=>(k:Int)) (qlg t i)) (false,[],0)=some (b,q5j s (qlg t i)):=by
 have key:∀(r:List Nat) (j:Nat) (b:Bool) (o:List UInt8),(qfs s).drop j=r->j<=(qfs s).length->o.length<=1000*j ->
   ∃M,qah (qh0 ((qfs s).map fun(k:Nat)=>(k:Int)) (qlg t i)) (b,o,(j:Int))=some (M,o++r.flatMap fun k=>q3p (qdj (qlg t i) k)):=by
  have Z:=qtp s;intro r
  induction r with
  | nil =>
   intro j b o A hj ho;have:j=(qfs s).length:=by
    have:=congrArg uan A
    grind
   subst this;exact⟨b,qap (by simp[qh0])⟩
  | cons k r ih =>
   intro j b o A hj ho;have H:(qfs s)[j]?=some k:=by
    have:=congrArg (·[0]?) A;simpa[v51] using this
   have J:(qfs s).drop (j+1)=r:=by rw[<-uae,A];rfl
   have O:=qdc H;have E:k∈qfs s:=v6m H;obtain⟨c1,U,c3⟩:=G.cell hi (qmw V E);have I:(((j:Nat):Int)<(((qfs s).map fun(k:Nat)=>(k:Int)).length:Int)):=by rw[v6d];omega
   have W:idx ((qfs s).map fun(k:Nat)=>(k:Int)) (j:Int)=some (k:Int):=by
    rw[qvm,v8n,H];rfl
   have hkl:=vqb U;have hr:o.length+(q3p (qdj (qlg t i) k)).length<=140737488355328:=by omega
   obtain⟨M,h⟩:=ih (j+1) true (o++q3p (qdj (qlg t i) k)) J O (by rw[v6b];omega);refine⟨M,?_⟩;rw[qas (s':=(true,o++q3p (qdj (qlg t i) k),((j+1:Nat):Int))) (by
    simp only[qh0,if_pos I,W,v7m,qad c1,q8r U c3,if_pos hr,wqn j]),h]
   simp
 obtain⟨b,h⟩:=key (qfs s) 0 false [] rfl (v9f _) (v9f _);exact⟨b,by simpa[q5j] using h⟩
theorem vli(G:GT t)(U:s<2^t.Attrs.length) :
  qah (qh1 t ((qfs s).map fun(k:Nat)=>(k:Int))) (v6u t.Rows.length [],0)=some ((v6s t.Rows.length).map fun i=>q5j s (qlg t i)):=by
 have hn:=G.rows;have O:=qx3 t.Rows (fun(_:Unit) (k:Int)=>(vh6 t.Rows.length k.toNat (fun i=>q5j s (qlg t i)) [],k)) (qh1 t ((qfs s).map fun(k:Nat)=>(k:Int))) (fun _ _=>(Sum.inl ():Unit⊕List (List UInt8))) (fun _=>(v6s t.Rows.length).map fun i=>q5j s (qlg t i)) (fun _ _=>True)
  (b0:=()) (s0:=(v6u t.Rows.length [],0)) (by simp only[Int.toNat_zero,vld]) trivial
  (fun k b x H A _=>by
   refine⟨fun M J=>⟨?_,trivial⟩,fun t Z=>by cases Z⟩;have E:(k:Int)<(t.Rows.length:Int):=by omega
   have I:x=qlg t k:=by rw[qpn A]at H;exact(v9i H).symm
   obtain⟨bb,J⟩:=vqh G U A;have W:=q5h (f:=fun i=>q5j s (qlg t i)) (z:=[]) (k:=k) A;have V:=vqd (f:=fun i=>q5j s (qlg t i)) (z:=[]) A;subst I;simp only[qh1,if_pos E,v93,qad H,v7m,J,qad W,wqn k];rw[V])
  (fun b _=>by
   have:vh6 t.Rows.length t.Rows.length (fun i=>q5j s (qlg t i)) []=(v6s t.Rows.length).map fun i=>q5j s (qlg t i):=by
    unfold vh6;apply List.map_congr_left
    grind
   simp only[qh1,v93,this];simp)
 rw[O,q1k]
def qys(l:List Nat):List Int:=l.map fun(k:Nat)=>(k:Int)
def qjv(l:List (List Nat)):List (List Int):=l.map qys
theorem qw1(l:List Nat):(qys l).length=l.length:=by simp[qys]
theorem qw2(l:List (List Nat)):(qjv l).length=l.length:=by simp[qjv]
theorem q8y(l:List (List Nat))(j:Nat):(qjv l)[j]?=(l[j]?).map qys:=by simp[qjv]
theorem vlj(l:List (List Nat))(j:Nat)(x:List Nat):(qjv l).set j (qys x)=qjv (l.set j x):=by simp[qjv,ubo]
theorem vlk(l:List Nat)(x:Nat):qys l++[(x:Int)]=qys (l++[x]):=by simp[qys]
def vsw[DecidableEq A](m:List (A×Int))(ks:List A):Prop:=∀k,qg3 m k=(ks.findIdx? fun x=>decide (k=x)).map fun(j:Nat)=>(j:Int)
theorem v4f[DecidableEq A]{m:List (A×Int)}{ks:List A}(h:vsw m ks){k:A}(I:k∈ks):∃j:Nat,ks[j]?=some k/\qg3 m k=some (j:Int):=by
 have:=h k;cases E:ks.findIdx? fun x=>decide (k=x) with
 |none =>
  grind
 |some j =>
  rw[E]at this;obtain⟨J,H⟩:=ubg.1 E |>.imp fun a b=>b.1
  grind
theorem vwk[DecidableEq A]{m:List (A×Int)}{ks:List A}(h:vsw m ks){k:A}(E:k ∉ ks):qg3 m k=none:=by
 rw[h k];have:(ks.findIdx? fun x=>decide (k=x))=none:=by
  grind
 rw[this];rfl
theorem v4g[DecidableEq A]{m:List (A×Int)}{ks:List A}(h:vsw m ks){k:A}(H:k ∉ ks):vsw (qnx m k (ks.length:Int)) (ks++[k]):=by
 intro x;rw[qqu,List.findIdx?_append];by_cases E:x=k
 ·grind
 ·rw[if_neg E,h x]
  grind
theorem v4h[DecidableEq A]:vsw ([]:List (A×Int)) []:=fun k=>rfl
theorem vgn{E:Type}[DecidableEq E]{key:Nat->E}{m:List (E×Int)}(h:vsw m (qiu key l))(x:Nat) :
  (key x∈qiu key l/\∃(j:Nat) (c:List Nat),qg3 m (key x)=some (j:Int)/\(qb6 key l)[j]?=some c/\qb6 key (l++[x])=(qb6 key l).set j (c++[x])/\qiu key (l++[x])=qiu key l) \/
  (key x ∉ qiu key l/\qg3 m (key x)=none/\qb6 key (l++[x])=qb6 key l++[[x]]/\vsw (qnx m (key x) ((qb6 key l).length:Int)) (qiu key (l++[x]))):=by
 by_cases A:key x∈qiu key l
 ·left;obtain⟨j,h1,H⟩:=v4f h A;obtain⟨J,I⟩:=qrq key l x h1;exact⟨A,j,_,H,I,J,by rw[qmv,q8k,if_pos A]⟩
 ·right;refine⟨A,vwk h A,qrp key l x A,?_⟩;have:(qb6 key l).length=(qiu key l).length:=by simp[qb6]
  rw[this,qmv,q8k,if_neg A];exact v4g h A
theorem qvr(A:Type)[DecidableEq A](key:Nat->A)(l:List Nat):(qb6 key l).length<=l.length:=by
 induction l using qzw with
 |h0=>simp[q1g]
 |h1 l x ih =>
  by_cases h:key x∈qiu key l
  ·obtain⟨j,E⟩:=ubq.1 h;rw[(qrq key l x E).1,v6f,v6b];omega
  ·rw[qrp key l x h];simp;exact ih
theorem q8z[DecidableEq A]{key:Nat->A}{c:List Nat}(h:c∈qb6 key l):c.length<=l.length:=by
 obtain⟨x,_,rfl⟩:=(qvp key l c).1 h
 grind
theorem vbt(qf4:List (List UInt8))(hn:qf4.length<=1000000):∀(r k:Nat) (m:List (List UInt8×Int)),k+r=qf4.length->vsw m (qiu (fun i=>qf4.getD i []) (v6s k)) ->
  qah (qb0 qf4) (m,qjv (qb6 (fun i=>qf4.getD i []) (v6s k)),(k:Int))=some (qjv (qb6 (fun i=>qf4.getD i []) (v6s qf4.length))):=by
 intro r
 induction r with
 |zero =>
  intro k m hk Z;have:k=qf4.length:=by omega
  subst this;exact qap (by simp[qb0])
 | succ r ih =>
  intro k m hk Z;have V:k<qf4.length:=by omega
  have W:qf4[k]?=some (qf4.getD k []):=by simp[uak,v52 V]
  have E:((k:Int)<(qf4.length:Int)):=by omega
  have I:=qvr (List UInt8) (fun i=>qf4.getD i []) (v6s k);rw[uao]at I;have hw:=wqn k;have A:v6s (k+1)=v6s k++[k]:=ubz;rcases vgn Z k with⟨h0,j,c,h1,H,O,h4⟩|⟨h0,h1,H,O⟩
  ·have M:=q8z (v6m H);rw[uao]at M;have J:idx (qjv (qb6 (fun i=>qf4.getD i []) (v6s k))) (j:Int)=some (qys c):=by
    rw[qvm,q8y,H];rfl
   have hr:qa8 ((qys c).length+1) 8=true:=qmt (by rw[qw1];omega);rw[qas (s':=(m,qjv (qb6 (fun i=>qf4.getD i []) (v6s (k+1))),((k+1:Nat):Int))) (by
    simp only[qb0,if_pos E,qad W,v7m,h1,ucd,if_true,v7o,J,hr,hw,v93];rw[vlk,vlj,A,O])]
   grind
  ·have hr:qa8 ((qjv (qb6 (fun i=>qf4.getD i []) (v6s k))).length+1) 24=true:=qc3 (by rw[qw2];omega) (by omega);have J:idx (qjv (qb6 (fun i=>qf4.getD i []) (v6s k))++[[]]) (((qjv (qb6 (fun i=>qf4.getD i []) (v6s k))).length:Nat):Int)=some []:=by
    rw[qvm,List.getElem?_append_right (v7a _)];simp
   have U:qa8 (([]:List Int).length+1) 8=true:=by decide
   have qo8:((qjv (qb6 (fun i=>qf4.getD i []) (v6s k)))++[[]]).set (qjv (qb6 (fun i=>qf4.getD i []) (v6s k))).length [(k:Int)]=qjv (qb6 (fun i=>qf4.getD i []) (v6s k)++[[k]]):=by
    rw[List.set_append_right _ _ (v7a _)];simp[qjv,qys]
   rw[qas (s':=(qnx m (qf4.getD k []) ((qjv (qb6 (fun i=>qf4.getD i []) (v6s k))).length:Int),qjv (qb6 (fun i=>qf4.getD i []) (v6s (k+1))),((k+1:Nat):Int))) (by
    simp only[qb0,if_pos E,qad W,v7m,h1,ucc,v5k,if_false,hr,if_true,J,U,hw,v93,v6r]
    grind)]
   exact ih (k+1) _ (by omega) (by rw[qw2,A];exact O)
def big(l:List (List Nat)):List (List Nat):=l.filter fun c=>decide (2<=c.length)
theorem vll(l:List (List Nat)):(qjv l).filter (fun c=>!decide ((c.length:Int)<2))=qjv (big l):=by
 unfold qjv big;rw[List.filter_map];congr 1;apply ube;intro c _;simp only[ua0,qw1]
 grind
theorem q5k(p:A->Bool)(l:List A)(i:Nat)(h:l.findIdx? (fun x=>!p x)=some i):i<l.length/\(l.take (i+1)).filter p=l.take i:=by
 obtain⟨hi,h1,J⟩:=ubg.1 h;refine⟨hi,?_⟩;have I:l.take (i+1)=l.take i++[l[i]]:=by
  rw[ub1,v52 hi];rfl
 rw[I,uaf];have H:[l[i]].filter p=[]:=by
  grind
 rw[H,v5s,ubf];intro x E;obtain⟨j,M,rfl⟩:=ubp.1 E
 grind
theorem vgo(l:List (List Int))(hl:l.length<=1000000):qcg l (fun y=>qa4 y)=some (vsu (l.findIdx? fun c=>decide ((c.length:Int)<2))):=by
 have h:=qka l (qa9 l (fun y=>qa4 y)) (fun c=>decide ((c.length:Int)<2))
  (fun k x A H E=>by simp only[qa9,if_pos (qan A),qad A,v7m,qa4,E,v5k,if_false,wqn k])
  (fun k x A E=>by simp only[qa9,if_pos (qan A),qad A,v7m,qa4,E,if_true])
  (by simp[qa9])
 simp only[qcg];rw[h];cases l.findIdx? fun c=>decide ((c.length:Int)<2) with
 |none=>rfl
 |some i=>rfl
theorem vlm(qf4:List (List UInt8))(hn:qf4.length<=1000000):qdr qf4=some (qjv (big (qb6 (fun i=>qf4.getD i []) (v6s qf4.length)))):=by
 have h1:=vbt qf4 hn qf4.length 0 [] (by omega) v4h;have I:=qvr (List UInt8) (fun i=>qf4.getD i []) (v6s qf4.length);rw[uao]at I;simp only[v91,List.range_zero,q1g]at h1;generalize hL:qb6 (fun i=>qf4.getD i []) (v6s qf4.length)=L at*;have U:(qjv L).length<=1000000:=by rw[qw2];omega
 simp only[qdr];rw[show(([]:List (List UInt8×Int)),([]:List (List Int)),(0:Int))=([],qjv [],0) from rfl,h1];simp only[v7m,vgo _ U];have hp:∀c:List Int,decide ((c.length:Int)<2)=!(!decide ((c.length:Int)<2)):=fun c=>by simp
 cases hf:(qjv L).findIdx? fun c=>decide ((c.length:Int)<2) with
 |none =>
  simp only[vsu,beq_self_eq_true,if_true];rw[<-vll,ubf.2]
  grind
 | some i =>
  have H:((i:Int) == -1)=false:=by rw[beq_eq_false_iff_ne];omega
  simp only[vsu,H,v5k,if_false];obtain⟨f1,f2⟩:=q5k (fun c:List Int=>!decide ((c.length:Int)<2)) (qjv L) i (by rw[<-hf];congr 1;funext c;exact(hp c).symm);have hw:v96.wrap ((i:Int)+1)=((i+1:Nat):Int):=qe4 (by omega);obtain⟨s',A,E,Z,d3,d4⟩:=q5i (qjv L) (fun c:List Int=>!decide ((c.length:Int)<2)) qcr
   (fun s i j x V hx hij hj=>by
    have M:((j:Int)<((s.length:Nat):Int)):=by omega
    have O:i<s.length:=by omega
    have J:s[i]?=some s[i]:=v52 O;simp only[qcr,if_pos M,qad hx,v7m,qa4,wqn j];by_cases I:(x.length:Int)<2
    ·simp[I]
    ·simp[I,qad J,wqn i])
   (fun s i V=>by simp[qcr,V])
   ((qjv L).length-(i+1)) (i+1) (qjv L) i (by omega) rfl (by omega) f2.symm (fun m _=>rfl)
  rw[hw,E];simp only[v7m,v93];have W:(0:Int)<=(A:Int):=by omega
  have c2:(A:Int)<=((s'.length:Nat):Int):=by omega
  have t1:(s'.take A).length=A:=by rw[v6g];omega
  have t2:(s'.drop (A+(s'.length-A))).length=0:=by rw[v6c];omega
  have c3:(A:Int)<=((((s'.take A).length+(v6u (s'.length-A) ([]:List Int)).length)+(s'.drop (A+(s'.length-A))).length:Nat):Int):=by
   grind
  have c4:A<=((s'.take A++v6u (s'.length-A) ([]:List Int))++s'.drop (A+(s'.length-A))).length:=by
   grind
  rw[if_pos W,if_pos c2,if_pos W,if_pos c3,if_pos c4];congr 1;rw[v5r,ub2 (by rw[t1];exact v7a _),List.take_take,Nat.min_self,d4,vll]
def vh7(t:Table)(s:Nat):List (List Nat):=qb6 (fun i=>q5j s (qlg t i)) (v6s t.Rows.length)
theorem q5l{W H:Type}[DecidableEq W][DecidableEq H]{f:Nat->W}{g:Nat->H}:∀(l:List Nat),(∀x∈l,∀y∈l,f x=f y↔g x=g y)->qb6 f l=qb6 g l:=by
 intro l
 induction l using qzw with
 |h0=>intro _;rfl
 | h1 l x ih =>
  intro h;have I:=ih fun a ha b hb=>h a (by simp[ha]) b (by simp[hb])
  have A:f x∈qiu f l↔g x∈qiu g l:=by
   rw[qn9,qn9]
   grind
  by_cases O:f x∈qiu f l
  ·have M:=A.1 O;obtain⟨j,hj⟩:=ubq.1 O;obtain⟨j',J⟩:=ubq.1 M;obtain⟨p1,U⟩:=qrq f l x hj;obtain⟨q1,q2⟩:=qrq g l x J;have E:(l.filter fun y=>decide (f y=f x))=l.filter fun y=>decide (g y=g x):=by
    apply ube
    grind
   have hjj:j=j':=by
    -- the class of x stands at one place
    rw[I]at U;rw[E]at U;obtain⟨y,hy,V⟩:=(qn9 g l _).1 M;have hyc:y∈l.filter fun z=>decide (g z=g x):=v80.2 ⟨hy,by simp[V]⟩
    have Z:(qiu g l)[j]?=some (g x):=by
     unfold qb6 at U
     grind
    exact(List.getElem?_inj (v56.1 Z).1 (qyr g l)).1 (by rw[Z,J])
   grind
  ·rw[qrp f l x O,qrp g l x (fun e=>O (A.2 e)),I]
theorem of_eq(G:GT t)(A:s<2^t.Attrs.length):qnf t (s:Int)=some ⟨(t.Rows.length:Int),qjv (big (vh7 t s))⟩:=by
 have hr:=G.rows;have h0:(0:Int)<=(t.Rows.length:Int):=by omega
 have h1:qa8 t.Rows.length 16=true:=qc3 (by omega) (by omega);simp only[qnf,qvq (vlh G.attrs A),v7m,if_pos h0,h1,if_true,vli G A,vlm _ (show((v6s t.Rows.length).map fun i=>q5j s (qlg t i)).length<=1000000 by simp;omega)];congr 3;rw[v6d,uao];congr 1;unfold vh7;apply q5l
 grind
theorem vln(G:GT t)(H:s<4294967296):qiq t (s:Int)=some (decide (s<2^t.Attrs.length)):=by
 have h1:¬((t.Attrs.length:Int)<0):=by omega
 have ha:=G.attrs;simp only[qiq,if_neg h1,v93,v9b (show t.Attrs.length<=64 by omega),vdv (n:=(s:Int)) (by omega) (by omega),qwq];congr 1;rw[v9y];simp only[beq_iff_eq,decide_eq_true_eq];have E:0<2^t.Attrs.length:=uca (by omega);constructor
 ·intro h;have:s/2^t.Attrs.length=0:=by omega
  rcases ub7 s (2^t.Attrs.length) with A|A
  ·exact A
  ·have:=Nat.div_pos A E;omega
 ·intro h;rw[ub6 h];rfl
theorem Of_eq(G:GT t)(A:s<2^t.Attrs.length):qng t (s:Int)=some (⟨(t.Rows.length:Int),qjv (big (vh7 t s))⟩,0):=by
 have h:decide (s<2^t.Attrs.length)=true:=decide_eq_true A;simp only[qng,qfr t G.ok,G.err,v7m,bne_self_eq_false,v5k,if_false,vln G (vlh G.attrs A),h,if_true,of_eq G A]
theorem qwq(a k:Nat):v90 (a:Int) (2^k)=((a/2^k:Nat):Int):=by
 have e:(2:Int)^k=((2^k:Nat):Int):=by simp
 rw[e];exact(Int.ofNat_fdiv a (2^k)).symm
theorem vwl{n:Int}(h:okI .i64 n):-9223372036854775808<=n/\n<=9223372036854775807:=by
 have h':(decide (ua8 .i64<=n)&&decide (n<=ua7 .i64))=true:=h;simp only[v5i,decide_eq_true_eq]at h';have A:ua8 .i64=-9223372036854775808:=by decide
 have E:ua7 .i64=9223372036854775807:=by decide
 rw[A,E]at h';exact h'
theorem gt_of(h:qx5 t)(A:qdi t=0):GT t:=by
 refine⟨vdu h,A,fun r hr v E=>?_⟩;exact vwl ((h.2.2.2 r hr).2.2 v E).2.1
def q1r(t:Table)(a:List Row):List (List Row):=(t.Rows.filter fun r=>!(a.any fun x=>x.ID==r.ID)).map fun r=>a++[r]
def q94(t:Table):Nat->List (List Row)
 |0=>[[]]
 |k+1=>(q94 t k).flatMap (q1r t)
def vbu(t:Table):Nat->List Row->List (List Row)
 |0,a=>[a]
 |m+1,a=>(q1r t a).flatMap (vbu t m)
theorem vd2(t:Table):∀(m k:Nat),(q94 t k).flatMap (vbu t m)=q94 t (k+m)
 | 0,k=>by
  have:∀l:List (List Row),l.flatMap (vbu t 0)=l:=by
   intro l
   induction l with
   |nil=>rfl
   |cons a l ih=>rw[v8h,ih];rfl
  rw[this];rfl
 |m+1,k=>by
  have h:=vd2 t m (k+1);rw[show k+1+m=k+(m+1) by omega]at h;rw[<-h];show _=((q94 t k).flatMap (q1r t)).flatMap (vbu t m);rw[List.flatMap_assoc];rfl
theorem vqi(t:Table)(m:Nat):vbu t m []=q94 t m:=by
 have:=vd2 t m 0;simp only[q94,v8h,List.flatMap_nil,v5s,Nat.zero_add]at this;exact this
def vgp(A:List (List Int))(l:List Int):List (List Int):=if l∈A then A else A++[l]
theorem vqj(A:List (List Int))(l z:List Int):z∈vgp A l↔z∈A\/z=l:=by
 unfold vgp;by_cases h:l∈A
 ·rw[if_pos h];constructor
  ·intro E;exact .inl E
  ·rintro(E|rfl)
   ·exact E
   ·exact h
 ·rw[if_neg h];simp
theorem qrt(z:List Int):∀(l A:List (List Int)),z∈l.foldl vgp A↔z∈A\/z∈l
 |[],A=>by simp
 |x::l,A=>by
  rw[uaj,qrt z l,vqj];simp only[v9s,or_assoc]
theorem vgq(A:List (List Int))(l:List Int)(h:A.Nodup):(vgp A l).Nodup:=by
 unfold vgp;by_cases E:l∈A
 ·rw[if_pos E];exact h
 ·rw[if_neg E,List.nodup_append];refine⟨h,by simp,?_⟩;intro a ha b H e;have:b=l:=by simpa using H
  rw[e,this]at ha;exact E ha
theorem qts:∀(l A:List (List Int)),A.Nodup->(l.foldl vgp A).Nodup
 |[],_,h=>h
 |x::l,A,h=>qts l _ (vgq A x h)
def vbv(l:List Int):Arr3_int64:=⟨l.getD 0 0,l.getD 1 0,l.getD 2 0⟩
theorem vqk(hn:n<=3){l m:List Int}(hl:l.length=n)(E:m.length=n)(h:vbv l=vbv m):l=m:=by
 unfold vbv at h;obtain⟨h0,h1,A⟩:=Arr3_int64.mk.inj h;apply v5y;intro j;by_cases H:j<n
 ·have g:∀(q:List Int),q.length=n->q[j]?=some (q.getD j 0):=fun q I=>by
   simp[uak,v52 (show j<q.length by omega)]
  rw[g l hl,g m E];have:j=0\/j=1\/j=2:=by omega
  rcases this with rfl|rfl|rfl
  ·rw[h0]
  ·rw[h1]
  ·rw[A]
 ·rw[v54 (by omega),v54 (by omega)]
def v4i:Value:=⟨0,0,[]⟩
def q2y(n A:Int)(t:Term):Bool:=if t.Var=0 then decide (t.Attr=0)&&ql1 t.Value else decide (0<t.Var/\t.Var<=A/\0<=t.Attr/\t.Attr<n)&&((t.Value.Kind==0)&&((t.Value.Num==0)&&(t.Value.Str==[])))
def q5m(n A:Int)(a:Atom):Bool:=decide (1<=a.Op/\a.Op<=4)&&(q2y n A a.Left&&q2y n A a.Right)
def vh8(n:Int)(d:Denial):Bool:=decide (1<=d.Vars/\d.Vars<=3/\d.Atoms.length<=20)&&d.Atoms.all (q5m n d.Vars)
theorem q80(n A:Int)(t:Term):qgg n A t=some (q2y n A t):=by
 unfold qgg q2y;by_cases h:t.Var=0
 ·rw[if_pos (by simpa using h),if_pos h];by_cases h1:t.Attr=0
  ·simp[h1,qp5]
  ·simp[h1]
 ·grind
theorem vgr(a:Atom)(n:Int)(d:Denial):qi1 a n d=some (!q5m n d.Vars a):=by
 unfold qi1 q5m;by_cases h1:a.Op<1
 ·grind
 ·rw[if_neg h1];by_cases A:a.Op>4
  ·grind
  ·rw[if_neg A];have E:1<=a.Op/\a.Op<=4:=by omega
   simp only[q80,v7m,E,and_self,decide_true,Bool.true_and]
   grind
theorem qx7(l:List Atom)(f:Atom->Option Bool)(p:Atom->Bool)(H:∀x∈l,f x=some (p x))(hl:l.length<=1073741824):qel l f=some (match l.findIdx? p with|some i=>(i:Int)|none=>-1):=by
 have h:=qka l (qcf l f) p
  (fun k x A I E=>by simp[qcf,qan A,qad A,H x (v6m A),E,qcs I (by omega)])
  (fun k x A E=>by simp[qcf,qan A,qad A,H x (v6m A),E])
  (by simp[qcf])
 simp only[qel,h,v7m]
 grind
theorem quy(l:List Atom)(f:Atom->Option Bool)(p:Atom->Bool)(A:∀x∈l,f x=some (p x))(hl:l.length<=1073741824):qdf l f=some (l.any p):=by
 simp only[qdf,qx7 l f p A hl,v7m];exact congrArg some (qmu p l)
theorem qtt(l:List Row)(f:Row->Option Bool)(p:Row->Bool)(A:∀x∈l,f x=some (p x))(hl:l.length<=1073741824):qb5 l f=some (l.any p):=by
 simp only[qb5,qsm l f p A hl,v7m];exact congrArg some (qmu p l)
theorem vwm(p:A->Bool)(l:List A):(!l.any fun x=>!p x)=l.all p:=by
 induction l with
 |nil=>rfl
 |cons x l ih=>simp[ih]
theorem vlo(n:Int)(d:Denial)(hl:d.Atoms.length<=1048576):qm8 n d=some (vh8 n d):=by
 unfold qm8 vh8;by_cases h1:d.Vars<1
 ·grind
 ·rw[if_neg h1];by_cases A:d.Vars>3
  ·grind
  ·rw[if_neg A];by_cases H:(d.Atoms.length:Int)>20
   ·grind
   ·rw[if_neg H];have E:1<=d.Vars/\d.Vars<=3/\d.Atoms.length<=20:=by omega
    rw[quy d.Atoms _ (fun a=>!q5m n d.Vars a) (fun x _=>vgr x n d) (by omega)];simp only[v7m,vwm,E,and_self,decide_true,Bool.true_and]
def vwn(rows:List Row)(t:Term):Value:=if t.Var=0 then t.Value else(rows.getD (t.Var-1).toNat ⟨0,[]⟩).Values.getD t.Attr.toNat v4i
def opB(op n:Int):Bool:=if op=1 then decide (n=0) else if op=2 then decide (n≠0) else if op=3 then decide (n<0) else decide (n<=0)
def q5n(rows:List Row)(a:Atom):Bool:=opB a.Op (qzv (vwn rows a.Left) (vwn rows a.Right))
structure RowsN(n:Nat)(vars:Int)(rows:List Row):Prop where
 len:(rows.length:Int)=vars
 few:rows.length<=3
 vals:∀r∈rows,r.Values.length=n/\∀v∈r.Values,v.Str.length<=1048576
theorem vsx{l:List A}{i:Int}(h:0<=i):idx l i=l[i.toNat]?:=by
 obtain⟨k,rfl⟩:=ua1 h;rw[qvm];simp
theorem vql{A:Int}{rows:List Row}(R:RowsN n A rows){t:Term}(H:q2y n A t=true)(h0:t.Var≠0) :
  ∃r v,idx rows (v96.wrap (t.Var-1))=some r/\idx r.Values t.Attr=some v/\vwn rows t=v/\r∈rows/\v∈r.Values:=by
 unfold q2y at H;rw[if_neg h0,v5i,decide_eq_true_eq]at H;obtain⟨⟨h1,V,M,W⟩,_⟩:=H;have J:=R.len;have O:v96.wrap (t.Var-1)=t.Var-1:=qbg (by have:=R.few;omega) (by have:=R.few;omega);have hi:(t.Var-1).toNat<rows.length:=by omega
 have hr:rows[(t.Var-1).toNat]?=some (rows[(t.Var-1).toNat]'hi):=v52 hi;have I:rows[(t.Var-1).toNat]'hi∈rows:=ubj hi;have E:t.Attr.toNat<(rows[(t.Var-1).toNat]'hi).Values.length:=by rw[(R.vals _ I).1];omega
 refine⟨rows[(t.Var-1).toNat]'hi,(rows[(t.Var-1).toNat]'hi).Values[t.Attr.toNat]'E,?_,?_,?_,I,ubj E⟩
 ·rw[O,vsx (by omega)];exact hr
 ·rw[vsx M];exact v52 E
 ·unfold vwn;rw[if_neg h0];have U:rows.getD (t.Var-1).toNat ⟨0,[]⟩=rows[(t.Var-1).toNat]'hi:=by rw[v8i,hr];rfl
  rw[U,v8i,v52 E];rfl
theorem vd3{A:Int}{rows:List Row}(R:RowsN n A rows){t:Term}(E:q2y n A t=true):qn8 rows t=some (vwn rows t):=by
 unfold qn8;by_cases h0:t.Var=0
 ·rw[if_pos (by simpa using h0)];unfold vwn;rw[if_pos h0]
 ·rw[if_neg (by simpa using h0)];obtain⟨r,v,h1,H,I,_⟩:=vql R E h0
  grind
theorem q81{A:Int}{rows:List Row}(R:RowsN n A rows)(l:List Atom)(hl:l.length<=1000000)(h:∀a∈l,q5m n A a=true):qio rows l=some (l.all (q5n rows)):=by
 have parts:∀a∈l,(1<=a.Op/\a.Op<=4)/\q2y n A a.Left=true/\q2y n A a.Right=true:=fun a ha=>by
  have:=h a ha;simpa only[q5m,v5i,decide_eq_true_eq] using this
 have O:qah (qd9 rows l) 0=some (if l.all (q5n rows) then .inl () else .inr false):=by
  refine q8i l _ (q5n rows) false (fun k x E M J=>?_) (fun k x E J=>?_) (by simp[qd9])
  ·obtain⟨h1,H,I⟩:=parts x (v6m E);simp only[qd9,if_pos (qan E),qad E,v7m,vd3 R H,vd3 R I,qit,qcs M (show l.length<=4611686018427387904 by omega)];unfold q5n opB at J
   grind
  ·obtain⟨h1,H,I⟩:=parts x (v6m E);simp only[qd9,if_pos (qan E),qad E,v7m,vd3 R H,vd3 R I,qit];unfold q5n opB at J
   grind
 unfold qio
 grind
theorem qzn{A β:Type}(f:A->β):∀l:List A,(l.flatMap fun i=>[f i])=l.map f
 |[]=>rfl
 |x::l=>by rw[v8h,qzn f l];rfl
theorem q5o{l A:List Int}(H:l.Perm A)(h1:l.Pairwise (·<=·))(E:A.Pairwise (· < ·)):l=A :=
 ua9.eq_of_pairwise (le:=(·<=·)) (fun a b _ _ h1 E=>ua3 h1 E) h1 (E.imp fun {a b} h=>Int.le_of_lt h) H
def vsy:List Value:=[⟨1,0,[]⟩,⟨1,1,[]⟩,⟨1,2,[]⟩,⟨0,0,[]⟩,⟨2,0,[97]⟩,⟨2,0,[98]⟩,⟨2,0,[]⟩,⟨3,1,[]⟩,⟨1,-1,[]⟩,⟨2,0,[97,98]⟩,⟨3,2,[]⟩,⟨1,7,[]⟩]
theorem vwo(c:Int):∃v,qc5 c=some v/\v∈vsy:=by
 unfold qc5;by_cases h0:(v92 c 12==0)=true
 ·rw[if_pos h0];exact⟨_,rfl,by decide⟩
 rw[if_neg h0];by_cases h1:(v92 c 12==1)=true
 ·rw[if_pos h1];exact⟨_,rfl,by decide⟩
 rw[if_neg h1];by_cases E:(v92 c 12==2)=true
 ·rw[if_pos E];exact⟨_,rfl,by decide⟩
 rw[if_neg E];by_cases O:(v92 c 12==3)=true
 ·rw[if_pos O];exact⟨_,rfl,by decide⟩
 rw[if_neg O];by_cases J:(v92 c 12==4)=true
 ·rw[if_pos J];exact⟨_,rfl,by decide⟩
 rw[if_neg J];by_cases H:(v92 c 12==5)=true
 ·rw[if_pos H];exact⟨_,rfl,by decide⟩
 rw[if_neg H];by_cases U:(v92 c 12==6)=true
 ·rw[if_pos U];exact⟨_,rfl,by decide⟩
 rw[if_neg U];by_cases M:(v92 c 12==7)=true
 ·rw[if_pos M];exact⟨_,rfl,by decide⟩
 rw[if_neg M];by_cases V:(v92 c 12==8)=true
 ·rw[if_pos V];exact⟨_,rfl,by decide⟩
 rw[if_neg V];by_cases I:(v92 c 12==9)=true
 ·rw[if_pos I];exact⟨_,rfl,by decide⟩
 rw[if_neg I];by_cases A:(v92 c 12==10)=true
 ·rw[if_pos A];exact⟨_,rfl,by decide⟩
 rw[if_neg A];exact⟨_,rfl,by decide⟩
theorem v4j(c:Int):vk7 (ofV c):=by
 obtain⟨v,h1,E⟩:=vwo c;have:ofV c=v:=by unfold ofV;rw[h1];rfl
 rw[this];have A:∀w∈vsy,((Lit.int .i64 w.Kind).wf&&(Lit.int .i64 w.Num).wf&&decide (w.Str.length<=1048576))=true:=by decide
 have:=A v E;simp only[v5i,decide_eq_true_eq]at this;exact⟨this.1.1,this.1.2,this.2⟩
theorem v4k{n:Int}(h1:-9223372036854775808<=n)(A:n<=9223372036854775807):okI .i64 n:=by
 show(decide (ua8 .i64<=n)&&decide (n<=ua7 .i64))=true;have E:ua8 .i64=-9223372036854775808:=by decide
 have H:ua7 .i64=9223372036854775807:=by decide
 rw[E,H,v5i,decide_eq_true_eq,decide_eq_true_eq];exact⟨h1,A⟩
theorem vwp(x:Drossref03_Recipe)(n:Nat)(hn:n<=8)(hr:x.Rows.length<=8):qx5 (q3s x n):=by
 refine⟨by show okS [114];unfold okS;decide,⟨?_,fun s A=>?_⟩,⟨?_,fun r h=>?_⟩⟩
 ·simp only[q3s,v6g];omega
 ·have E:s∈qpm:=List.mem_of_mem_take A;have:∀w∈qpm,w.length<=1048576:=by decide
  exact this s E
 ·simp only[q3s,v6d,uao];omega
 ·obtain⟨i,hi,rfl⟩:=v81.1 h;have H:=v83.1 hi;have A:qux x<=3:=by unfold qux;omega
  have E:i*qux x<=8*3:=Nat.mul_le_mul (by omega) A;refine⟨v4k (by simp only[vdy];omega) (by simp only[vdy];omega),?_,fun v I=>?_⟩
  ·simp only[vdy,v6d,uao];omega
  ·obtain⟨k,_,rfl⟩:=v81.1 I;exact v4j _
theorem Good.gt(G:Good t)(h:qx5 t):GT t:=gt_of h G.err
theorem vlp(hn:n<=16){l:Int}(h:0<=l/\l<=255):IntKind.u32.wrap ((BitVec.ofInt 32 (IntKind.u32.wrap l)&&&(BitVec.ofInt 32 ((2^n-1:Nat):Int))).toNat:Int)=((l.toNat%2^n:Nat):Int):=by
 obtain⟨k,rfl⟩:∃k:Nat,l=(k:Int):=⟨l.toNat,by omega⟩;have A:2^n<4294967296:=q1h (by omega);rw[q4v (n:=(k:Int)) (by omega) (by omega),vla (show k<4294967296 by omega) (show 2^n-1<4294967296 by omega),Nat.and_two_pow_sub_one_eq_mod,v93]
theorem vlq(n:Nat)(k:Nat):k%2^n<2^n:=Nat.mod_lt _ (uca (by omega))
end Go.Proofs.YtijpapagpebllaaGreatDoor
namespace Go.Ab
open Go
def vh9{A:Type}(lt:A->A->Bool)(x:A):List A->List A
 |[]=>[x]
 |y::p=>if lt x y then y::vh9 lt x p else x::y::p
theorem q5p{A:Type}(lt:A->A->Bool)(x:A):∀(p:List A) (z:A),z∈vh9 lt x p↔z=x\/z∈p
 |[],z=>by simp[vh9]
 | y :: p,z=>by
  simp only[vh9];split
  ·rw[v9s,q5p lt x p z,v9s];constructor
   ·rintro(h|h|h)
    ·exact .inr (.inl h)
    ·exact .inl h
    ·exact .inr (.inr h)
   ·rintro(h|h|h)
    ·exact .inr (.inl h)
    ·exact .inl h
    ·exact .inr (.inr h)
  ·rw[v9s]
theorem vd4{A:Type}(lt:A->A->Bool)(x:A):∀p:List A,(vh9 lt x p).length=p.length+1
 |[]=>rfl
 |y::p=>by
  simp only[vh9];split
  ·simp[vd4 lt x p]
  ·simp
theorem q1s{M:Type}(lt:M->M->Bool)(A:∀x y,lt x y=true->lt y x=false)(I:∀x y z,lt x y=false->lt y z=false->lt x z=false)(x:M):∀p:List M,p.Pairwise (fun a b=>lt a b=false)->(vh9 lt x p).Pairwise (fun a b=>lt a b=false)
 |[],_=>by simp[vh9]
 | y :: p,h=>by
  obtain⟨h1,O⟩:=ubt.1 h;simp only[vh9];by_cases J:lt x y=true
  ·rw[if_pos J];refine ubt.2 ⟨fun z E=>?_,q1s lt A I x p O⟩;rcases(q5p lt x p z).1 E with rfl|E
   ·exact A _ _ J
   ·exact h1 z E
  ·rw[if_neg J];have H:lt x y=false:=by simpa using J
   refine ubt.2 ⟨fun z E=>?_,h⟩;rcases v9s.1 E with rfl|E
   ·exact H
   ·exact I _ _ _ H (h1 z E)
end Go.Ab
namespace Go.Proofs.YtijpapagpebllaaGreatDoor
open Go Go.Ab
end Go.Proofs.YtijpapagpebllaaGreatDoor
namespace Go.Ab
open Go
end Go.Ab
namespace Go.Proofs.YtijpapagpebllaaGreatDoor
open Go Go.Ab
def befN(q z:Nat×Nat):Prop:=lexN q.1 z.1\/(q.1=z.1/\q.2<z.2)
instance instDecBefN(q z:Nat×Nat):Decidable (befN q z):=by unfold befN;exact inferInstance
end Go.Proofs.YtijpapagpebllaaGreatDoor
namespace Go.Ab
open Go
theorem q82{A:Type}(lt:A->A->Bool)(x:A):∀p:List A,(vh9 lt x p).Perm (x::p)
 |[]=>ua9.refl _
 |y::p=>by
  simp only[vh9];split
  ·exact((q82 lt x p).cons y).trans (ua9.swap x y p)
  ·exact ua9.refl _
end Go.Ab
namespace Go.Proofs.YtijpapagpebllaaGreatDoor
open Go Go.Ab
variable {t:Table} {d:Denial} {l:List (List Int)} {a:List Row} {n k s:Nat} {A:Type}
def ltL:List Int->List Int->Bool
 |[],[]=>false
 |[],_::_=>true
 |_::_,[]=>false
 |x::a,y::b=>if x=y then ltL a b else decide (x<y)
theorem qru:∀a:List Int,ltL a a=false
 |[]=>rfl
 |x::a=>by rw[ltL,if_pos rfl,qru a]
theorem qzx:∀a b:List Int,ltL a b=true->ltL b a=false
 |[],[],h=>rfl
 |[],_::_,h=>rfl
 |_::_,[],h=>by cases h
 |x::a,y::b,h=>by
  rw[ltL]at h ⊢;by_cases e:x=y
  ·subst e;rw[if_pos rfl]at h ⊢;exact qzx a b h
  ·rw[if_neg e]at h;rw[if_neg (fun A=>e A.symm)];simp at h ⊢;omega
theorem qqw:∀a b:List Int,ltL a b=false->ltL b a=false->a=b
 |[],[],_,_=>rfl
 |[],_::_,h,_=>by cases h
 |_::_,[],_,h=>by cases h
 |x::a,y::b,h1,h2=>by
  rw[ltL]at h1 h2;by_cases e:x=y
  ·subst e;rw[if_pos rfl]at h1 h2;rw[qqw a b h1 h2]
  ·rw[if_neg e]at h1;rw[if_neg (fun A=>e A.symm)]at h2;simp at h1 h2;omega
theorem qtu:∀a b c:List Int,ltL a b=true->ltL b c=true->ltL a c=true
 |[],[],_,h,_=>by cases h
 |_::_,[],_,h,_=>by cases h
 |_,_::_,[],_,h=>by cases h
 |[],_::_,_::_,_,_=>rfl
 | x :: a,y :: b,z :: c,h1,h2=>by
  rw[ltL]at h1 h2 ⊢;by_cases A:x=y
  ·subst A;rw[if_pos rfl]at h1;by_cases E:x=z
   ·subst E;rw[if_pos rfl]at h2 ⊢;exact qtu a b c h1 h2
   ·grind
  ·grind
theorem q1t(a b c:List Int)(h1:ltL a b=false)(E:ltL b c=false):ltL a c=false:=by
 cases h:ltL a c with
 |false=>rfl
 | true =>
  exfalso;cases A:ltL b a with
  |true =>
   have:=qtu b a c A h
   grind
  |false =>
   have:=qqw a b h1 A
   grind
theorem q3t:∀{l m:List (List Int)},l.Pairwise (fun a b=>ltL a b=true)->m.Pairwise (fun a b=>ltL a b=true)->(∀z,z∈l↔z∈m)->l=m
 |[],[],_,_,_=>rfl
 |[],y::m,_,_,h=>by have:=(h y).2 (by simp);cases this
 |x::l,[],_,_,h=>by have:=(h x).1 (by simp);cases this
 | x :: l,y :: m,hl,hm,h=>by
  rw[ubt]at hl hm;have E:x=y:=by
   have A:=(h x).1 (by simp);have I:=(h y).2 (by simp);rcases v9s.1 A with e|A
   ·exact e
   ·rcases v9s.1 I with e|I
    ·exact e.symm
    ·have h1:=hl.1 y I;have J:=hm.1 x A;rw[qzx x y h1]at J;cases J
  subst E;have M:∀{l:List (List Int)},(∀a∈l,ltL x a=true)->x ∉ l:=fun H A=>by
   have:=H x A;rw[qru]at this;cases this
  rw[q3t hl.2 hm.2 fun z=>?_]
  grind
theorem qpo{l:List A}{x:A}{r:List A}(h:l.drop k=x::r):l[k]?=some x/\l.drop (k+1)=r/\k<l.length:=by
 have h1:l[k]?=some x:=by
  have:=congrArg (·[0]?) h;simpa[v51] using this
 exact⟨h1,by rw[<-uae,h];rfl,qdc h1⟩
theorem qpp{l:List A}(h:l.drop k=[])(E:k<=l.length):k=l.length:=by
 have:=congrArg uan h;simp at this;omega
theorem qva(a b:List Int)(ha:a.length<=1000000)(W:b.length<=1000000):∀(A E:List Int) (k:Nat),a.drop k=A->b.drop k=E->k<=a.length->k<=b.length ->
  ∃o,qah (qbl a b) (k:Int)=some o/\(match o with|.inl ()=>if(a.length:Int)<(b.length:Int) then -1 else 0|.inr r=>r)=if ltL A E=true then(-1:Int) else if ltL E A=true then 1 else 0
 |[],[],k,h1,h2,h3,h4=>by
  have I:=qpp h1 h3;have U:=qpp h2 h4;refine⟨.inl (),qap (by simp[qbl,I]),?_⟩;simp only;rw[if_neg (by omega)];rfl
 |[],y::E,k,h1,h2,h3,h4=>by
  have I:=qpp h1 h3;have U:=(qpo h2).2.2;refine⟨.inl (),qap (by simp[qbl,I]),?_⟩;simp only;rw[if_pos (by omega)];rfl
 |x::A,[],k,h1,h2,h3,h4=>by
  have U:=qpp h2 h4;obtain⟨x1,x2,J⟩:=qpo h1;refine⟨.inr 1,qap (by simp only[qbl,if_pos (qan x1),qad x1,v7m,if_pos (show(k:Int)>=(b.length:Int) by omega)]),?_⟩;simp[ltL]
 | x :: A,y :: E,k,h1,h2,h3,h4=>by
  obtain⟨x1,x2,J⟩:=qpo h1;obtain⟨O,V,Z⟩:=qpo h2;by_cases e:x=y
  ·subst e;obtain⟨o,M,H⟩:=qva a b ha W A E (k+1) x2 V J Z;refine⟨o,?_,?_⟩
   ·rw[qas (s':=((k+1:Nat):Int)) (by simp only[qbl,if_pos (qan x1),if_neg (show ¬(k:Int)>=(b.length:Int) by omega),qad x1,qad O,v7m,qpi,vp2,bne_self_eq_false,v5k,if_false,qcs J (show a.length<=4611686018427387904 by omega)])];exact M
   ·rw[H,ltL,ltL,if_pos rfl,if_pos rfl]
  ·refine⟨.inr (sgn x y),qap ?_,?_⟩
   ·have:(sgn x y != 0)=true:=by simpa using vst e
    simp only[qbl,if_pos (qan x1),if_neg (show ¬(k:Int)>=(b.length:Int) by omega),qad x1,qad O,v7m,qpi,this,if_true]
   ·simp only[ltL,if_neg e,if_neg (fun e'=>e e'.symm:¬y=x)];unfold sgn;by_cases h:x<y
    ·simp[h]
    ·have:y<x:=by omega
     simp[h,this]
def vgs(a b:List Int):Int:=if ltL a b=true then -1 else if ltL b a=true then 1 else 0
theorem qpq(a b:List Int)(ha:a.length<=1000000)(E:b.length<=1000000):qae a b=some (vgs a b):=by
 obtain⟨o,h1,H⟩:=qva a b ha E a b 0 rfl rfl (v9f _) (v9f _);have A:qah (qbl a b) 0=some o:=h1;unfold qae vgs
 grind
theorem qhh(a b:List Int):vgs a b<0↔ltL a b=true:=by
 unfold vgs;cases h:ltL a b with
 |true=>simp
 |false =>
  cases ltL b a<;>simp
theorem vgt(l:List (List Int))(hl:l.length<=1000000)(O:∀a∈l,a.length<=1000000)(hn:l.Nodup) :
  ∃s,qxt (fun(a:List Int) (b:List Int)=>qae a b) l=some s/\s.Perm l/\s.Pairwise (fun a b=>ltL a b=true):=by
 have I:∀x∈l,∀y∈l,(qae x y).getD 0=vgs x y:=fun x A y H=>by rw[qpq x y (O x A) (O y H)];rfl
 have J:q2q (fun x y=>(qae x y).getD 0) l:=by
  refine⟨fun x A=>?_,fun x A y H z M h1 E=>?_,fun x A y H z M h1 E=>?_⟩
  ·show ¬(qae x x).getD 0<0;rw[I x A x A,qhh,qru];simp
  ·replace h1:(qae x y).getD 0<0:=h1;replace E:(qae y z).getD 0<0:=E;show(qae x z).getD 0<0;rw[I _ A _ H,qhh]at h1;rw[I _ H _ M,qhh]at E;rw[I _ A _ M,qhh];exact qtu x y z h1 E
  ·replace h1:¬(qae x y).getD 0<0:=h1;replace E:¬(qae y z).getD 0<0:=E;show ¬(qae x z).getD 0<0;rw[I _ A _ H,qhh]at h1;rw[I _ H _ M,qhh]at E;rw[I _ A _ M,qhh];have h1':ltL x y=false:=by simpa using h1
   have Z:ltL y z=false:=by simpa using E
   rw[q1t x y z h1' Z];simp
 have V:=quh J;refine⟨srt (fun x y=>(qae x y).getD 0) l,?_,V,?_⟩
 ·unfold qxt;rw[if_pos ⟨fun x A y H=>by show(qae x y).isSome=true;rw[qpq x y (O x A) (O y H)];rfl,J,by omega⟩]
 ·have h1:=qui J;have W:(srt (fun x y=>(qae x y).getD 0) l).Nodup:=V.nodup_iff.2 hn;refine uad.imp_of_mem ?_ (h1.and W);intro a b ha hb hab;have ha':=V.mem_iff.1 ha;have hb':=V.mem_iff.1 hb;obtain⟨U,g2⟩:=hab;replace U:¬(qae b a).getD 0<0:=U;rw[I _ hb' _ ha',qhh]at U;cases h:ltL a b with
  |true=>rfl
  |false=>exact absurd (qqw a b h (by simpa using U)) g2
def q3u(l:List (List Int)):Prop:=l.Pairwise fun a b=>ltL a b=true
def vlr(A:List (List Int))(x:List Int):List (List Int):=if x∈A then A else(vh9 ltL x A.reverse).reverse
theorem vqm(A:List (List Int))(x z:List Int):z∈vlr A x↔z∈A\/z=x:=by
 unfold vlr;by_cases h:x∈A
 ·rw[if_pos h];constructor
  ·intro E;exact .inl E
  ·rintro(E|rfl)
   ·exact E
   ·exact h
 ·rw[if_neg h,ubr,q5p,ubr];exact Or.comm
theorem vwq(h:l.Pairwise fun a b=>ltL b a=false)(hn:l.Nodup):q3u l:=by
 refine uad.imp ?_ (h.and hn);rintro a b ⟨h1,A⟩;cases E:ltL a b with
 |true=>rfl
 |false=>exact absurd (qqw a b E h1) A
theorem q3v(h:q3u l):l.Nodup:=by
 refine uad.imp ?_ h;intro a b A e;subst e;rw[qru]at A;cases A
theorem vqn{A:List (List Int)}(x:List Int)(h:q3u A):q3u (vlr A x):=by
 unfold vlr;by_cases E:x∈A
 ·rw[if_pos E];exact h
 ·rw[if_neg E];have h1:A.reverse.Pairwise fun a b=>ltL a b=false:=by
   rw[ubx];exact h.imp fun {a b} hab=>qzx a b hab
  have H:=q1s ltL qzx q1t x A.reverse h1;refine vwq ?_ ?_
  ·rw[ubx];exact H
  ·rw[(ub0 _).nodup_iff,(q82 ltL x A.reverse).nodup_iff,List.nodup_cons];exact⟨by rw[ubr];exact E,(ub0 A).nodup_iff.2 (q3v h)⟩
theorem vqo(A:List (List Int))(x:List Int):(vlr A x).length<=A.length+1:=by
 unfold vlr;split
 ·omega
 ·rw[ubn,vd4,ubn];exact v7a _
def vgu(l:List (List Int)):List (List Int):=l.foldl vlr []
theorem q83(z:List Int):∀(l A:List (List Int)),z∈l.foldl vlr A↔z∈A\/z∈l
 |[],A=>by simp
 |x::l,A=>by
  rw[uaj,q83 z l,vqm];simp only[v9s,or_assoc]
theorem q84:∀(l A:List (List Int)),q3u A->q3u (l.foldl vlr A)
 |[],_,h=>h
 |x::l,A,h=>q84 l _ (vqn x h)
theorem q85:∀(l A:List (List Int)),(l.foldl vlr A).length<=A.length+l.length
 |[],A=>by simp
 |x::l,A=>by
  rw[uaj];have h1:=q85 l (vlr A x);have E:=vqo A x;simp only[v8r];omega
theorem vd5(l:List (List Int))(z:List Int):z∈vgu l↔z∈l:=by unfold vgu;rw[q83];simp
theorem vqp(l:List (List Int)):q3u (vgu l):=q84 l [] uad.nil
theorem vqq(l:List (List Int)):(vgu l).length<=l.length:=by have:=q85 l [];simpa[vgu] using this
theorem vwr{m:List (List Int)}(A:q3u m)(h:∀z,z∈l↔z∈m):vgu l=m:=q3t (vqp l) A fun z=>by rw[vd5];exact h z
def qq8(rows:List Row):List Int:=vj1 (rows.map Row.ID)
theorem qw3(rows:List Row):(qq8 rows).length=rows.length:=by
 unfold qq8;rw[(qte _).length_eq,v6d]
def qtv(t:Table)(d:Denial):Int:=if qdi t≠0 then qdi t else if vh8 t.Attrs.length d=true then(if d.Vars=3/\200<t.Rows.length then 3 else 0) else 1
theorem vqr(t:Table)(d:Denial)(b:Bool):(if b=true then(if(d.Vars==3)=true then(if(t.Rows.length:Int)>200 then some 3 else some 0) else some 0) else some 1)=some (if b=true then(if d.Vars=3/\200<t.Rows.length then(3:Int) else 0) else 1):=by
 cases b with
 |false=>rfl
 | true =>
  simp only[if_true];by_cases A:d.Vars=3
  ·rw[if_pos (by simpa using A)];by_cases E:200<t.Rows.length
   ·rw[if_pos (by omega),if_pos ⟨A,E⟩]
   ·rw[if_neg (by omega),if_neg (by rintro⟨_,h⟩;exact E h)]
  ·rw[if_neg (by simpa using A),if_neg (by rintro⟨h,_⟩;exact A h)]
theorem vgv(t:Table)(d:Denial)(T:TableOk t)(hl:d.Atoms.length<=1048576):qkp t d=some (qtv t d):=by
 unfold qkp qtv;rw[qfr t T,v7m];by_cases h:qdi t=0
 ·simp only[h,bne_self_eq_false,v5k,if_false,ne_eq,not_true_eq_false,vlo _ d hl,v7m];exact vqr t d _
 ·have h':(qdi t != 0)=true:=by simpa using h
  simp only[h',if_true,ne_eq,h,not_false_eq_true]
structure DT(t:Table):Prop where
 ok:TableOk t
 err:qdi t=0
 few:t.Rows.length<=7
 str:∀r∈t.Rows,∀v∈r.Values,v.Str.length<=1048576
theorem DT.code(H:DT t):(∀r∈t.Rows,r.Values.length=t.Attrs.length/\r.Values.all ql1=true/\0<r.ID)/\t.Rows.Pairwise (fun x y=>x.ID<y.ID):=qpl _ _ _ (qtr H.err).2.2
theorem vls(t:Table)(a:List Row):(q1r t a).length<=t.Rows.length:=by
 unfold q1r;rw[v6d];exact ubm _ _
theorem vlt{b:List Row}(h:b∈q1r t a):∃r∈t.Rows,b=a++[r]/\∀x∈a,x.ID≠r.ID:=by
 unfold q1r at h;obtain⟨r,hr,rfl⟩:=v81.1 h;obtain⟨h1,A⟩:=v80.1 hr;refine⟨r,h1,rfl,fun x E e=>?_⟩;simp only[v5m,ubb]at A;exact A x E (by simpa using e)
theorem vd6{t:Table}(hn:t.Rows.length<=7):∀k,(q94 t k).length<=7^k
 |0=>by simp[q94]
 | k+1=>by
  have A:=vd6 hn k;have key:∀l:List (List Row),(l.flatMap (q1r t)).length<=7*l.length:=by
   intro l
   induction l with
   |nil=>simp
   |cons a l ihl =>
    rw[v8h,v6b,v8r];have:=vls t a;omega
  have:=key (q94 t k);rw[Nat.pow_succ];show((q94 t k).flatMap (q1r t)).length<=_;omega
theorem q5q{t:Table}:∀{k:Nat} {a:List Row},a∈q94 t k->a.length=k/\(∀r∈a,r∈t.Rows)/\a.Pairwise fun x y=>x.ID≠y.ID
 |0,a,h=>by
  have:a=[]:=by simpa[q94] using h
  subst this;exact⟨rfl,by simp,uad.nil⟩
 | k+1,a,h=>by
  obtain⟨b,J,H⟩:=v6l.1 (show a∈(q94 t k).flatMap (q1r t) from h);obtain⟨r,hr,rfl,E⟩:=vlt H;obtain⟨h1,I,M⟩:=q5q J;refine⟨by simp[h1],fun x A=>?_,?_⟩
  ·rcases v6k.1 A with A|A
   ·exact I x A
   ·rw[v84.1 A];exact hr
  ·rw[ubs];exact⟨M,by simp,fun x A y O=>by rw[v84.1 O];exact E x A⟩
theorem vlu{t:Table}:∀{k:Nat} {a:List Row},a.length=k->(∀r∈a,r∈t.Rows)->a.Pairwise (fun x y=>x.ID≠y.ID)->a∈q94 t k
 |0,a,h,_,_=>by
  rw[List.eq_nil_of_length_eq_zero h];simp[q94]
 |k+1,a,h,h2,h3=>by
  have A:a≠[]:=by intro e;rw[e]at h;cases h
  have e:=(List.dropLast_concat_getLast A).symm;generalize a.getLast A=r at e;generalize a.dropLast=b at e;subst e;rw[ubs]at h3;refine v6l.2 ⟨b,vlu (by simpa using h) (fun x E=>h2 x (by simp[E])) h3.1,?_⟩;unfold q1r;refine v81.2 ⟨r,v80.2 ⟨h2 r (by simp),?_⟩,rfl⟩;simp only[v5m,ubb];intro x E;have:=h3.2.2 x E r (by simp);simpa using this
def qsu(t:Table)(d:Denial):List (List Int):=((q94 t d.Vars.toNat).filter fun a=>d.Atoms.all (q5n a)).map qq8
theorem vlv(hn:t.Rows.length<=7)(h:d.Vars<=3):(qsu t d).length<=343:=by
 unfold qsu;rw[v6d];refine v7c (ubm _ _) ?_;have:=vd6 hn d.Vars.toNat;have A:7^d.Vars.toNat<=7^3:=uar (by omega) (by omega);have:7^3=343:=by decide
 omega
theorem vbw{z:List Int}(h:z∈qsu t d):z.length=d.Vars.toNat:=by
 unfold qsu at h;obtain⟨a,ha,rfl⟩:=v81.1 h;rw[qw3];exact(q5q (v80.1 ha).1).1
theorem qx8{n:Int}(h:vh8 n d=true):(1<=d.Vars/\d.Vars<=3/\d.Atoms.length<=20)/\∀a∈d.Atoms,q5m n d.Vars a=true:=by
 simpa only[vh8,v5i,decide_eq_true_eq,v8d] using h
def vws(t:Table)(d:Denial):List (List Int)×Int:=if qtv t d=0 then(vgu (qsu t d),0) else([],qtv t d)
theorem q1u(h:qtv t d=0):qdi t=0/\vh8 t.Attrs.length d=true:=by
 unfold qtv at h;by_cases h1:qdi t=0
 ·rw[if_neg (by simp[h1])]at h;refine⟨h1,?_⟩;cases A:vh8 t.Attrs.length d with
  |true=>rfl
  |false=>rw[A]at h;simp at h
 ·rw[if_pos h1]at h;exact absurd h h1
abbrev qrv:=List (Arr3_int64×Bool)×List (List Int)
def q2z(d:Denial)(a:List Row)(b:qrv):qrv:=if d.Atoms.all (q5n a)=true then(if qq8 a∈b.2 then b else(qnx b.1 (vbv (qq8 a)) true,b.2++[qq8 a])) else b
def q6i(t:Table)(d:Denial):Nat->List Row->qrv->qrv
 |0,a,b=>q2z d a b
 |m+1,a,b=>t.Rows.foldl (fun b r=>if(a.any fun x=>x.ID==r.ID)=true then b else q6i t d m (a++[r]) b) b
structure SeenOk(n:Nat)(b:qrv):Prop where
 len:∀z∈b.2,z.length=n
 seen:∀z:List Int,z.length=n->((qg3 b.1 (vbv z)).getD false=true↔z∈b.2)
theorem vqs(hn:n<=3){b:qrv}(ha:a.length=n)(h:SeenOk n b):SeenOk n (q2z d a b)/\(q2z d a b).2.length<=b.2.length+1:=by
 unfold q2z;split
 ·by_cases H:qq8 a∈b.2
  ·grind
  ·rw[if_neg H];have hl:(qq8 a).length=n:=by rw[qw3,ha]
   refine⟨⟨fun z A=>?_,fun z A=>?_⟩,by simp⟩
   ·rcases v6k.1 A with A|A
    ·exact h.len z A
    ·grind
   ·simp only[qqu,v6k,v84];by_cases E:vbv z=vbv (qq8 a)
    ·rw[if_pos E];have:=vqk hn A hl E;simp[this]
    ·rw[if_neg E,h.seen z A]
     grind
 ·grind
theorem vbx{n:Nat}(hn:n<=3){t:Table}(H:t.Rows.length<=7){d:Denial}:∀(m:Nat) (a:List Row) (b:qrv),a.length+m=n->SeenOk n b->SeenOk n (q6i t d m a b)/\(q6i t d m a b).2.length<=b.2.length+7^m
 |0,a,b,ha,h=>vqs hn (by omega) h
 | m+1,a,b,ha,h=>by
  have key:∀(l:List Row) (b:qrv),SeenOk n b->SeenOk n (l.foldl (fun b r=>if(a.any fun x=>x.ID==r.ID)=true then b else q6i t d m (a++[r]) b) b) /\
    (l.foldl (fun b r=>if(a.any fun x=>x.ID==r.ID)=true then b else q6i t d m (a++[r]) b) b).2.length<=b.2.length+l.length*7^m:=by
   intro l
   induction l with
   |nil=>intro b h;exact⟨h,by simp⟩
   | cons r l ih =>
    intro b h;rw[uaj];by_cases E:(a.any fun x=>x.ID==r.ID)=true
    ·rw[if_pos E];obtain⟨h1,A⟩:=ih b h;refine⟨h1,?_⟩;rw[v8r,ucb]
     grind
    ·rw[if_neg E];obtain⟨I,J⟩:=vbx hn H m (a++[r]) b (by simp;omega) h;obtain⟨h1,A⟩:=ih _ I;refine⟨h1,?_⟩;rw[v8r,ucb]
     grind
  obtain⟨h1,A⟩:=key t.Rows b h;refine⟨h1,?_⟩;have:t.Rows.length*7^m<=7*7^m:=v7h _ H;rw[Nat.pow_succ];show(t.Rows.foldl _ b).2.length<=_;omega
theorem vlw(d:Denial)(a:List Row)(b:qrv):(q2z d a b).2=if d.Atoms.all (q5n a)=true then vgp b.2 (qq8 a) else b.2:=by
 unfold q2z vgp
 grind
theorem vd7(t:Table)(d:Denial):∀(m:Nat) (a:List Row) (b:qrv),(q6i t d m a b).2=(((vbu t m a).filter fun x=>d.Atoms.all (q5n x)).map qq8).foldl vgp b.2
 |0,a,b=>by
  show(q2z d a b).2=_;rw[vlw];show _=(([a].filter fun x=>d.Atoms.all (q5n x)).map qq8).foldl vgp b.2
  grind
 | m+1,a,b=>by
  have key:∀(l:List Row) (b:qrv),(l.foldl (fun b r=>if(a.any fun x=>x.ID==r.ID)=true then b else q6i t d m (a++[r]) b) b).2 =
    (((((l.filter fun r=>!(a.any fun x=>x.ID==r.ID)).map fun r=>a++[r]).flatMap (vbu t m)).filter fun x=>d.Atoms.all (q5n x)).map qq8).foldl vgp b.2:=by
   intro l
   induction l with
   |nil=>intro b;rfl
   |cons r l ih =>
    intro b;rw[uaj,ih,List.filter_cons];by_cases A:(a.any fun x=>x.ID==r.ID)=true
    ·grind
    ·rw[if_neg A,if_pos (by simpa using A),vd7 t d m (a++[r]) b,List.map_cons,v8h,uaf,v6h,List.foldl_append]
  exact key t.Rows b
theorem vlx(l:List Row)(hl:l.length<=1000):q0v (l.map Row.ID)=some (qq8 l):=by
 unfold q0v qq8;rw[if_pos (by rw[v6d];omega)]
theorem q5r(a:List Row)(r:Row)(ha:a.length<=1000):qb5 a (fun y=>qg6 y r)=some (a.any fun x=>x.ID==r.ID) :=
 qtt a _ (fun x=>x.ID==r.ID) (fun x _=>rfl) (by omega)
theorem vqt(H:DT t)(hn:n<=3)(ha:a.length=n)(A:∀r∈a,r∈t.Rows):RowsN t.Attrs.length (n:Int) a :=
 ⟨by omega,by omega,fun r hr=>⟨((H.code).1 r (A r hr)).1,H.str r (A r hr)⟩⟩
theorem vly(A:∀r∈a,r∈t.Rows){x:Row}(E:t.Rows[k]?=some x):∀r∈a++[x],r∈t.Rows:=by
 grind
theorem vgw(t:Table)(d:Denial)(hn:n<=3)(V:t.Rows.length<=7)(W:d.Vars=(n:Int)) :
  qxt (fun(a:List Int) (b:List Int)=>qae a b) (q6i t d n [] (([]:List (Arr3_int64×Bool)),([]:List (List Int)))).2=some (vgu (qsu t d)):=by
 have h0:SeenOk n (([]:List (Arr3_int64×Bool)),([]:List (List Int))):=⟨by simp,fun z _=>by simp[qg3]⟩;obtain⟨h1,I⟩:=vbx hn V (d:=d) n [] _ (by simp) h0;have A:=vd7 t d n [] (([]:List (Arr3_int64×Bool)),([]:List (List Int)));have e:n=d.Vars.toNat:=by omega
 rw[vqi]at A;have H:(q6i t d n [] (([]:List (Arr3_int64×Bool)),([]:List (List Int)))).2=(qsu t d).foldl vgp []:=by
  rw[A];unfold qsu;rw[<-e]
 rw[H]at I ⊢;have Z:7^n<=7^3:=uar (by omega) hn;have J:7^3=343:=by decide
 have E:=qts (qsu t d) [] List.nodup_nil;obtain⟨s,O,M,U⟩:=vgt ((qsu t d).foldl vgp []) (by simp at I;omega) (fun a ha=>by
  rcases(qrt a (qsu t d) []).1 ha with h|h
  ·cases h
  ·rw[vbw h];omega) E
 rw[O];congr 1;refine(vwr U fun z=>?_).symm;rw[M.mem_iff,qrt];simp
theorem v4l(h:qx5 t):∀r∈t.Rows,∀v∈r.Values,v.Str.length<=1048576:=fun r hr v A=>((h.2.2.2 r hr).2.2 v A).2.2
theorem dt_of(h:qx5 t)(G:Good t)(hn:t.Rows.length<=7):DT t:=⟨vdu h,G.err,hn,v4l h⟩
def atT(v a:Int):Term:=⟨v,a,⟨0,0,[]⟩⟩
def q1v(op a:Int):Atom:=⟨atT 1 a,op,atT 2 a⟩
def q20(s a:Nat):Denial:=⟨2,((qfs s).map fun x:Nat=>q1v 1 (x:Int))++[q1v 2 (a:Int)]⟩
def fdL(s r:Nat):List Denial:=(qfs (qy8 r s)).map (q20 s)
theorem vlz(op a:Int):qom op a=some (q1v op a):=rfl
theorem vgx(hn:n<=32)(h:s<2^n):qfs s=(v6s n).filter fun i=>s.testBit i:=by
 unfold qfs;obtain⟨m,hm⟩:∃m,32=n+m:=⟨32-n,by omega⟩;rw[hm,List.range_add,uaf];have:(List.map (fun x=>n+x) (v6s m)).filter (fun i=>s.testBit i)=[]:=by
  rw[List.filter_eq_nil_iff];intro i hi;obtain⟨j,_,rfl⟩:=v81.1 hi;rw[q1i h (by omega)];simp
 rw[this,v5s]
def fdB(n s r:Nat):Bool:=decide ((s|||r)<2^n)
theorem one_of{y x:A}(h:[y][k]?=some x):x=y:=v84.1 (v6m h)
theorem vgy{r:Nat}(hn:n<=16)(I:s<4294967296)(hr:r<4294967296):qgu (n:Int) [⟨(s:Int),(r:Int)⟩]=some (if fdB n s r=true then 0 else 1):=by
 have O:=v4a I hr;have H:((v90 (((s|||r:Nat):Int)) (2^(min ((n:Int)).toNat 32))) != 0)=!fdB n s r:=by
  rw[v93,v9b (show n<=32 by omega),qwq];unfold fdB;by_cases h:(s|||r)<2^n
  ·rw[ub6 h];simp[h]
  ·have U:=Nat.div_pos (show 2^n<=(s|||r) by omega) (uca (n:=n) (show 0<2 by omega));simp only[h,decide_false,uaz,bne_iff_ne,ne_eq];omega
 have h:=q8i [(⟨(s:Int),(r:Int)⟩:FD)] (qc6 (n:Int) [⟨(s:Int),(r:Int)⟩]) (fun _=>fdB n s r) (1:Int)
  (fun k x A M J=>by
   have E:=one_of A;subst E;simp only[qc6,if_pos (qan A),qad A,v7m,q3o I hr,if_neg (show ¬(n:Int)<0 by omega),H,J,Bool.not_true,v5k,if_false,qcs M (show[(⟨(s:Int),(r:Int)⟩:FD)].length<=4611686018427387904 by simp)])
  (fun k x A J=>by
   have E:=one_of A;subst E;simp only[qc6,if_pos (qan A),qad A,v7m,q3o I hr,if_neg (show ¬(n:Int)<0 by omega),H,J,uaz,if_true])
  (by simp[qc6])
 unfold qgu;rw[if_neg (by omega),if_neg (by omega),if_neg (by simp),h,v7m];cases V:fdB n s r<;>simp
theorem vqu(l:List Nat)(hl:l.length<=32):qah (qgf (l.map fun x:Nat=>(x:Int))) ([],0)=some (l.map fun x:Nat=>q1v 1 (x:Int)):=by
 have h:=qe8 (l.map fun x:Nat=>(x:Int)) (fun(b:List Atom) (i:Int)=>(b,i)) (qgf (l.map fun x:Nat=>(x:Int))) (fun b x=>b++[q1v 1 x]) id (fun k b=>b.length=k) (b0:=[]) (s0:=([],0)) rfl rfl
  (fun k b x E A H=>by
   refine⟨?_,by simp[H]⟩;rw[v6d]at A;simp only[qgf,if_pos (qan E),qad E,v7m,vlz,RLE (b.length+1) 104,if_true,qcs A (show l.length<=4611686018427387904 by omega)])
  (fun b _=>by simp[qgf])
 have key:∀(l:List Int) (b:List Atom),l.foldl (fun b x=>b++[q1v 1 x]) b=b++l.map (q1v 1):=by
  intro l
  induction l with
  |nil=>intro b;simp
  |cons x l ih=>intro b;rw[uaj,ih];simp
 rw[h,id,key,v6r,List.map_map];rfl
theorem vl0{r:Nat}(hn:n<=16)(A:s<4294967296)(hr:r<4294967296):qlv (n:Int) ⟨(s:Int),(r:Int)⟩=some (if fdB n s r=true then(fdL s r,0) else([],1)):=by
 unfold qlv;rw[vgy hn A hr,v7m];by_cases E:fdB n s r=true
 ·have O:=vp7 (b:=s) hr;simp only[E,if_true,bne_self_eq_false,v5k,if_false,vp4 hr A,qvq O,v7m];have h:=qe8 (qfs (qy8 r s)) (fun(b:List Denial) (i:Int)=>(b,i)) (qin ⟨(s:Int),(r:Int)⟩ ((qfs (qy8 r s)).map fun x:Nat=>(x:Int))) (fun b x=>b++[q20 s x]) id (fun k b=>b.length=k) (b0:=[]) (s0:=([],0)) rfl rfl
   (fun k b x M J U=>by
    refine⟨?_,by simp[U]⟩;have hl:=qtp (qy8 r s);have H:=qtp s;have I:((qfs (qy8 r s)).map fun x:Nat=>(x:Int))[k]?=some (x:Int):=by rw[v8n,M];rfl
    simp only[qin,v6d,if_pos (show(k:Int)<((qfs (qy8 r s)).length:Int) by omega),qad I,v7m,qvq A,vqu (qfs s) H,vlz,v6d,RLE ((qfs s).length+1) 104,RLE (b.length+1) 32,if_true,qcs J (show(qfs (qy8 r s)).length<=4611686018427387904 by omega)];rfl)
   (fun b _=>by simp[qin])
  rw[h,v7m];have key:∀(l:List Nat) (b:List Denial),l.foldl (fun b x=>b++[q20 s x]) b=b++l.map (q20 s):=by
   intro l
   induction l with
   |nil=>intro b;simp
   |cons x l ih=>intro b;rw[uaj,ih];simp
  rw[id,key,v6r];rfl
 ·rw[if_neg E,if_neg E];rfl
end Go.Proofs.YtijpapagpebllaaGreatDoor
namespace Go.Ab
open Go
end Go.Ab
namespace Go.Proofs.YtijpapagpebllaaGreatDoor
open Go Go.Ab
variable {n s:Nat}
theorem vqv(a b:Row)(op:Int)(x:Nat):q5n [a,b] (q1v op (x:Int))=opB op (qzv (qdj a x) (qdj b x)):=by
 unfold q5n q1v atT vwn;simp[qdj,v4i]
def agP(n:Nat)(s:Int)(a b:Row):Bool:=decide (vqe a b (v4e n s)=0)
def fdP(n:Nat)(s r:Int)(a b:Row):Bool:=agP n s a b&&!agP n r a b
theorem qzy(hn:n<=16)(H:s<2^n)(a b:Row):agP n (s:Int) a b=true↔∀y∈qfs s,qzv (qdj a y) (qdj b y)=0:=by
 have A:s<4294967296:=ub8 H (q1h (by omega));unfold agP;rw[decide_eq_true_eq,vqg];constructor
 ·intro h y M;obtain⟨h1,E⟩:=qpk M;have J:y<n:=by
   rcases ub7 y n with h'|h'
   ·exact h'
   ·rw[q1i H h']at E;cases E
  have:=h (y:Int) (by omega) (by omega) (by rw[vd1 A (by omega)];exact E);simpa using this
 ·intro h i h0 h1 I;obtain⟨k,rfl⟩:=ua1 h0;rw[vd1 A (by omega)]at I;rw[v93];refine h k ?_;unfold qfs;rw[v80,v83];exact⟨by omega,I⟩
theorem vd8(n:Nat)(s:Int)(a b:Row):agP n s b a=agP n s a b:=by
 unfold agP;rw[v9y,decide_eq_true_eq,decide_eq_true_eq,vd0 a b];omega
theorem vqw(n:Nat)(s r:Int)(a b:Row):fdP n s r b a=fdP n s r a b:=by unfold fdP;rw[vd8,vd8 n r]
theorem vl1{r:Nat}(hn:n<=16)(V:s<2^n)(hr:r<2^n)(a b:Row):(∃d∈fdL s r,d.Atoms.all (q5n [a,b])=true)↔fdP n (s:Int) (r:Int) a b=true:=by
 have A:∀x,(q20 s x).Atoms.all (q5n [a,b])=true↔(∀y∈qfs s,qzv (qdj a y) (qdj b y)=0)/\qzv (qdj a x) (qdj b x)≠0:=by
  intro x;unfold q20;simp only[uba,List.all_map,v5i,v8d,List.all_cons,List.all_nil,Bool.and_true,ua0,vqv,opB,if_true,decide_eq_true_eq,show ¬(2:Int)=1 by decide,if_false]
 unfold fdP;rw[v5i,v5m,qzy hn V];constructor
 ·rintro⟨d,W,E⟩;obtain⟨x,Z,rfl⟩:=v81.1 W;obtain⟨h1,I⟩:=(A x).1 E;refine⟨h1,?_⟩;cases U:agP n (r:Int) a b with
  |false=>rfl
  |true =>
   exfalso;obtain⟨M,J⟩:=qpk Z;rw[qqv,v5i]at J;refine I ((qzy hn hr a b).1 U x ?_);unfold qfs;rw[v80,v83];exact⟨M,J.1⟩
 ·rintro⟨h1,I⟩;have:¬∀y∈qfs r,qzv (qdj a y) (qdj b y)=0:=fun h=>by
   rw[(qzy hn hr a b).2 h]at I;cases I
  obtain⟨y,hy⟩:=Classical.not_forall.1 this;obtain⟨O,H⟩:=Classical.not_imp.1 hy;obtain⟨M,J⟩:=qpk O;refine⟨q20 s y,v81.2 ⟨y,?_,rfl⟩,(A y).2 ⟨h1,H⟩⟩;unfold qfs;rw[v80,v83,qqv,J];refine⟨M,?_⟩;cases hb:s.testBit y with
  |false=>rfl
  |true =>
   exfalso;refine H (h1 y ?_);unfold qfs;rw[v80,v83];exact⟨M,hb⟩
theorem q1w(hn:n<=16)(A:s<2^n):(qfs s).length<=n:=by
 rw[vgx (by omega) A];have:=ubm (fun i=>s.testBit i) (v6s n);rw[uao]at this;exact this
theorem q86{x:Nat}(A:x<n){op:Int}(ho:1<=op/\op<=4):q5m (n:Int) 2 (q1v op (x:Int))=true:=by
 unfold q5m q1v atT q2y;simp only[v5i,decide_eq_true_eq];refine⟨ho,?_,?_⟩
 ·rw[if_neg (by decide)];simp only[v5i,decide_eq_true_eq];exact⟨⟨by omega,by omega,by omega,by omega⟩,by decide⟩
 ·rw[if_neg (by decide)];simp only[v5i,decide_eq_true_eq];exact⟨⟨by omega,by omega,by omega,by omega⟩,by decide⟩
theorem vl2{x:Nat}(E:s<2^n)(H:x∈qfs s):x<n:=by
 obtain⟨h1,A⟩:=qpk H;rcases ub7 x n with h'|h'
 ·exact h'
 ·rw[q1i E h']at A;cases A
theorem vd9{t:Table}(H:DT t)(hn:t.Attrs.length<=16){r:Nat}(I:s<2^t.Attrs.length)(hr:r<2^t.Attrs.length):∀d∈fdL s r,qtv t d=0:=by
 intro d M;obtain⟨x,J,rfl⟩:=v81.1 M;have E:x<t.Attrs.length:=by
  obtain⟨h1,A⟩:=qpk J;rw[qqv,v5i]at A;rcases ub7 x t.Attrs.length with h'|h'
  ·exact h'
  ·rw[q1i hr h']at A;cases A.1
 have O:vh8 t.Attrs.length (q20 s x)=true:=by
  unfold vh8 q20;have:=q1w hn I;simp only[v5i,decide_eq_true_eq,v6b,v6d,v8s,uba,List.all_map,v8d,List.all_cons,List.all_nil,Bool.and_true,ua0];exact⟨⟨by omega,by omega,by omega⟩,fun y U=>q86 (vl2 I U) (by omega),q86 E (by omega)⟩
 unfold qtv;rw[if_neg (by simp[H.err]),if_pos O,if_neg (by rintro⟨h,_⟩;cases h)]
theorem qa0{β σ E:Type}(n:Nat)(S:β->Int->σ)(B:σ->Option (LS σ E))(fin:β->E)(I:Nat->β->Prop){b0:β}{s0:σ}(A:s0=S b0 0)(h0:I 0 b0)
  (O:∀(k:Nat) b,k<n->I k b->∃M,B (S b (k:Int))=some (.next (S M ((k+1:Nat):Int)))/\I (k+1) M)
  (Z:∀b,I n b->B (S b (n:Int))=some (.done (fin b))):∃b,qah B s0=some (fin b)/\I n b:=by
 have key:∀(m k:Nat) (b:β),k+m=n->I k b->∃M,qah B (S b (k:Int))=some (fin M)/\I n M:=by
  intro m
  induction m with
  |zero =>
   intro k b J hi;have:k=n:=by omega
   subst this;exact⟨b,qap (Z b hi),hi⟩
  |succ m ih =>
   intro k b J hi;obtain⟨M,h1,H⟩:=O k b (by omega) hi;obtain⟨W,V,U⟩:=ih (k+1) M (by omega) H;exact⟨W,by rw[qas h1];exact V,U⟩
 subst A;exact key n 0 b0 (by omega) h0
theorem qnj{β σ J:Type}(n:Nat)(S:β->Int->σ)(B:σ->Option (LS σ J))(I:Nat->β->Prop)(T:J->Prop){b0:β}{s0:σ}(m:Nat)(hm:m<=n)(E:s0=S b0 (m:Int))(h0:I m b0)
  (U:∀(k:Nat) b,m<=k->k<n->I k b->(∃M,B (S b (k:Int))=some (.next (S M ((k+1:Nat):Int)))/\I (k+1) M)\/∃t,B (S b (k:Int))=some (.done t)/\T t)
  (Z:∀b,I n b->∃t,B (S b (n:Int))=some (.done t)/\T t):∃o,qah B s0=some o/\T o:=by
 have key:∀(j k:Nat) (b:β),k+j=n->m<=k->I k b->∃o,qah B (S b (k:Int))=some o/\T o:=by
  intro j
  induction j with
  |zero =>
   intro k b O _ hi;have:k=n:=by omega
   subst this;obtain⟨t,ht,h⟩:=Z b hi;exact⟨t,qap ht,h⟩
  |succ j ih =>
   intro k b O H hi;rcases U k b H (by omega) hi with⟨M,h1,A⟩|⟨t,h1,A⟩
   ·obtain⟨o,W,V⟩:=ih (k+1) M (by omega) (by omega) A;exact⟨o,by rw[qas h1];exact W,V⟩
   ·exact⟨t,qap h1,A⟩
 subst E;exact key (n-m) m b0 (by omega) (v7a _) h0
theorem qvs(a b:List Int)(ha:a.length<=1000)(J:b.length<=1000):qbj [a,b]=some (a++b):=by
 have h1:qah (qbt [a,b]) (0,0)=some (((a.length+b.length:Nat):Int)):=by
  have w1:v96.wrap (0+(a.length:Int))=(a.length:Int):=by rw[Int.zero_add];exact qbg (by omega) (by omega)
  have I:v96.wrap ((a.length:Int)+(b.length:Int))=((a.length+b.length:Nat):Int):=by rw[qbg (by omega) (by omega)];omega
  have A:qbt [a,b] (0,0)=some (.next ((a.length:Int),1)):=by
   have e:idx [a,b] 0=some a:=rfl;simp only[qbt,e,v8r,v6e,if_pos (show(0:Int)<((0+1+1:Nat):Int) by decide),v7m,w1,if_neg (show ¬(a.length:Int)<0 by omega)];rfl
  have E:qbt [a,b] ((a.length:Int),1)=some (.next (((a.length+b.length:Nat):Int),2)):=by
   have e:idx [a,b] 1=some b:=rfl;simp only[qbt,e,v8r,v6e,if_pos (show(1:Int)<((0+1+1:Nat):Int) by decide),v7m,I,if_neg (show ¬((a.length+b.length:Nat):Int)<0 by omega)];rfl
  rw[qas A,qas E];exact qap (by simp[qbt])
 have H:qah (qbu [a,b]) (([]:List Int),0)=some (a++b):=by
  have A:qbu [a,b] ([],0)=some (.next (a,1)):=by
   have e:idx [a,b] 0=some a:=rfl;simp only[qbu,e,v8r,v6e,if_pos (show(0:Int)<((0+1+1:Nat):Int) by decide),v7m,qmt (show 0+a.length<=17592186044416 by omega),if_true,v6r];rfl
  have E:qbu [a,b] (a,1)=some (.next (a++b,2)):=by
   have e:idx [a,b] 1=some b:=rfl;simp only[qbu,e,v8r,v6e,if_pos (show(1:Int)<((0+1+1:Nat):Int) by decide),v7m,qmt (show a.length+b.length<=17592186044416 by omega),if_true];rfl
  rw[qas A,qas E];exact qap (by simp[qbu])
 simp only[qbj,h1,v7m,if_pos (show(0:Int)<=((a.length+b.length:Nat):Int) by omega),if_pos (show((a.length+b.length:Nat):Int)<=1000000000000 by omega),H]
theorem vsz{a:Nat}(hn:n<=32)(ha:a<2^n):v90 (a:Int) (2^(min ((n:Int)).toNat 32))=0:=by
 rw[v93,v9b hn];have e:((2:Int)^n)=((2^n:Nat):Int):=by simp
 rw[e,ua2 _ (ua6 _),<-ua5,ub6 ha];rfl
theorem vwt(a b:Int):qla [a,b]=some (if a≠0 then a else b):=by
 have E:qbo [a,b] 0=if a≠0 then some (.done (.inr a)) else some (.next 1):=by
  have h0:idx [a,b] 0=some a:=rfl;have h1:(0:Int)<(([a,b]:List Int).length:Int):=by simp
  have H:v96.wrap (0+1)=1:=by decide
  simp only[qbo,if_pos h1,h0,v7m,H];by_cases h:a=0
  ·rw[if_neg (by simpa using h),if_neg (by simpa using h)]
  ·rw[if_pos (by simpa using h),if_pos h]
 have A:qbo [a,b] 1=if b≠0 then some (.done (.inr b)) else some (.next 2):=by
  have h0:idx [a,b] 1=some b:=rfl;have h1:(1:Int)<(([a,b]:List Int).length:Int):=by simp
  have H:v96.wrap (1+1)=2:=by decide
  simp only[qbo,if_pos h1,h0,v7m,H];by_cases h:b=0
  ·rw[if_neg (by simpa using h),if_neg (by simpa using h)]
  ·rw[if_pos (by simpa using h),if_pos h]
 have J:qbo [a,b] 2=some (.done (.inl ())):=by simp[qbo]
 simp only[qla];by_cases h:a=0
 ·rw[if_neg (by simpa using h)]at E;rw[qas E];by_cases I:b=0
  ·rw[if_neg (by simpa using I)]at A;rw[qas A,qap J];simp[h,I]
  ·rw[if_pos I]at A;rw[qap A];simp[h]
 ·rw[if_pos h]at E;rw[qap E];simp[h]
end Go.Proofs.YtijpapagpebllaaGreatDoor
namespace Go.Ab
end Go.Ab
namespace Go.Proofs.YtijpapagpebllaaGreatDoor
open Go Go.Ab
def qp0(x:Str):Value:=if x=[63] then⟨0,0,[]⟩ else match x with
 |[c]=>if 48<=c.toNat/\c.toNat<=57 then⟨1,(c.toNat:Int)-48,[]⟩ else⟨2,0,x⟩
 |_=>⟨2,0,x⟩
theorem v4m{n:Nat}(h:n<=1073741824):qa8 n 32=true:=qc3 h (by omega)
end Go.Proofs.YtijpapagpebllaaGreatDoor
namespace Go.Ab
open Go
variable {A:Type}
theorem vl3{H:Type}(lt:H->H->Bool)(I:∀x,lt x x=false)(A:∀x y,lt x y=true->lt y x=false){l r:List H}(hl:l.Pairwise fun a b=>lt a b=true)(hr:r.Pairwise fun a b=>lt a b=true)(O:∀x,x∈l↔x∈r):l=r:=by
 have M:∀{l:List H},(l.Pairwise fun a b=>lt a b=true)->l.Nodup:=fun h=>h.imp fun E e=>by subst e;rw[I]at E;cases E
 refine ua9.eq_of_pairwise (le:=fun a b=>lt a b=true) (fun a b _ _ h1 J=>?_) hl hr ((List.perm_ext_iff_of_nodup (M hl) (M hr)).2 O);rw[A a b h1]at J;cases J
def ddF{A:Type}[DecidableEq A](p:A):List A->List A
 |[]=>[]
 |y::r=>if y=p then ddF p r else y::ddF y r
def vgz[DecidableEq A]:List A->List A
 |[]=>[]
 |x::r=>x::ddF x r
theorem vby{A:Type}[DecidableEq A]:∀(r:List A) (p x:A),(x=p\/x∈ddF p r)↔(x=p\/x∈r)
 |[],p,x=>by simp[ddF]
 |y::r,p,x=>by
  simp only[ddF];split
  ·rename_i h;subst h;rw[vby r y x];simp
  ·have:=vby r y x;simp only[v9s];rw[this]
theorem vl4[DecidableEq A](l:List A)(x:A):x∈vgz l↔x∈l:=by
 cases l with
 |nil=>simp[vgz]
 |cons y r=>simp only[vgz,v9s];exact vby r y x
theorem vbz{E:Type}[DecidableEq E](lt:E->E->Bool)(I:∀x y z,lt x y=true->lt y z=true->lt x z=true)(A:∀x y,lt x y=false->lt y x=false->x=y) :
  ∀(r:List E) (p:E),(p::r).Pairwise (fun a b=>lt b a=false)->(p::ddF p r).Pairwise fun a b=>lt a b=true
 |[],p,_=>by simp[ddF]
 | y :: r,p,h=>by
  rw[ubt,ubt]at h;simp only[ddF];split
  ·rename_i e;subst e;exact vbz lt I A r y (ubt.2 h.2)
  ·rename_i e;have M:=vbz lt I A r y (ubt.2 h.2);have H:lt p y=true:=by
    cases O:lt p y with
    |true=>rfl
    |false=>exact absurd (A y p (h.1 y v8z) O) e
   rw[ubt];refine⟨fun z J=>?_,M⟩;rcases v9s.1 J with rfl|J
   ·exact H
   ·exact I p y z H ((ubt.1 M).1 z J)
theorem vl5[DecidableEq A](lt:A->A->Bool)(H:∀x y z,lt x y=true->lt y z=true->lt x z=true)(E:∀x y,lt x y=false->lt y x=false->x=y)
  {l:List A} (h:l.Pairwise (fun a b=>lt b a=false)):(vgz l).Pairwise fun a b=>lt a b=true:=by
 cases l with
 |nil=>exact uad.nil
 |cons p r=>exact vbz lt H E r p h
theorem qbv{l:List A}{j:Nat}{x:A}(h:l[j]?=some x):l.take (j+1)=l.take j++[x]:=by
 obtain⟨E,rfl⟩:=v56.1 h;rw[ub1,h];rfl
theorem qtw{H:Type}[DecidableEq H](l:List H)(A:Nat)(B:List H×Int×Int->Option (LS (List H×Int×Int) (List H×Int)))
  (hB:∀(s:List H) (k j:Nat) x y,s.length=l.length->k<l.length->1<=j->A+j<l.length->s[A+j]?=some x->s[A+j-1]?=some y->B (s,(k:Int),(j:Int))=some (.next (if x=y then(s,(k:Int),((j+1:Nat):Int)) else(s.set k x,((k+1:Nat):Int),((j+1:Nat):Int)))))
  (hE:∀(s:List H) (k:Nat),s.length=l.length->B (s,(k:Int),((l.length-A:Nat):Int))=some (.done (s,(k:Int)))) :
  ∀(r j:Nat) (s:List H) (k:Nat) (p:H),A+j+r=l.length->s.length=l.length->1<=j->k+1<=A+j->(∀m,A+j<=m+1->s[m]?=l[m]?)->l[A+j-1]?=some p ->
   ∃(s':List H) (J:Nat),qah B (s,(k:Int),(j:Int))=some (s',(J:Int))/\s'.length=l.length/\J<=l.length/\s'.take J=s.take k++ddF p (l.drop (A+j))
 |0,j,s,k,p,hj,hs,h1,hk,hm,hp=>by
  have e:l.length-A=j:=by omega
  refine⟨s,k,qap (by have:=hE s k hs;rw[e]at this;exact this),hs,by omega,?_⟩;rw[List.drop_eq_nil_of_le (by omega)];simp[ddF]
 | r+1,j,s,k,p,hj,hs,h1,hk,hm,hp=>by
  have M:A+j<l.length:=by omega
  have W:l[A+j]?=some l[A+j]:=v52 M;have hsx:s[A+j]?=some l[A+j]:=by rw[hm _ (by omega),W]
  have U:s[A+j-1]?=some p:=by rw[hm _ (by omega),hp]
  have E:=hB s k j _ _ hs (by omega) h1 M hsx U;have hd:l.drop (A+j)=l[A+j]::l.drop (A+(j+1)):=by rw[List.drop_eq_getElem_cons M];rfl
  generalize hxe:l[A+j]=x at*;by_cases I:x=p
  ·rw[if_pos I]at E;obtain⟨s',J,e1,O,e3,V⟩:=qtw l A B hB hE r (j+1) s k x (by omega) hs (by omega) (by omega) (fun m Z=>hm m (by omega)) (by rw[show A+(j+1)-1=A+j by omega];exact W);refine⟨s',J,by rw[qas E];exact e1,O,e3,?_⟩;rw[V,hd];subst I;simp only[ddF,if_true]
  ·rw[if_neg I]at E;obtain⟨s',J,e1,O,e3,V⟩:=qtw l A B hB hE r (j+1) (s.set k x) (k+1) x (by omega) (by rw[v6f];exact hs) (by omega) (by omega)
    (fun m Z=>by rw[List.getElem?_set_ne (by omega)];exact hm m (by omega)) (by rw[show A+(j+1)-1=A+j by omega];exact W)
   refine⟨s',J,by rw[qas E];exact e1,O,e3,?_⟩;rw[V,hd];simp only[ddF,if_neg I];have hg:(s.set k x)[k]?=some x:=List.getElem?_set_self (by omega);rw[qbv hg,ub4 (v7a k),v5r];rfl
end Go.Ab
namespace Go.Proofs.YtijpapagpebllaaGreatDoor
open Go Go.Ab
theorem vqx{E:Type}(s':List E)(A n:Nat)(z:E)(h:s'.length=n)(H:A<=n):(((s'.take A++v6u (s'.length-A) z)++s'.drop (A+(s'.length-A))).take A)=s'.take A/\((s'.take A++v6u (s'.length-A) z)++s'.drop (A+(s'.length-A))).length=n:=by
 constructor
 ·rw[v5r,ub2 (by rw[v6g];omega),List.take_take,Nat.min_self]
 ·simp only[v6b,v6g,List.length_replicate,v6c];omega
end Go.Proofs.YtijpapagpebllaaGreatDoor
namespace Go.Ab
open Go
theorem qtx{W:Type}(l:List W)(q:W->Bool)(B:Int×Int->Option (LS (Int×Int) Int))(hl:l.length<=1048576)
  (mono:∀(m n:Nat) x y,m<=n->l[m]?=some x->l[n]?=some y->q y=true->q x=true)
  (hB:∀(i j:Nat) x,i<j->j<=l.length->l[(i+j)/2]?=some x->B ((i:Int),(j:Int))=some (.next (if q x=true then((((i+j)/2+1:Nat):Int),(j:Int)) else((i:Int),(((i+j)/2:Nat):Int)))))
  (hE:∀i:Nat,B ((i:Int),(i:Int))=some (.done (i:Int))) :
  ∀(d i j:Nat),j-i=d->i<=j->j<=l.length->(∀(m:Nat) x,m<i->l[m]?=some x->q x=true)->(∀(m:Nat) x,j<=m->l[m]?=some x->q x=false) ->
   ∃k:Nat,qah B ((i:Int),(j:Int))=some (k:Int)/\k<=l.length/\(∀(m:Nat) x,m<k->l[m]?=some x->q x=true)/\(∀(m:Nat) x,k<=m->l[m]?=some x->q x=false):=by
 intro d
 induction d using v9d with
 | ind d ih =>
  intro i j hd hij U h1 V;by_cases he:i=j
  ·subst he;exact⟨i,qap (hE i),U,h1,V⟩
  ·have O:(i+j)/2<l.length:=by omega
   have H:l[(i+j)/2]?=some l[(i+j)/2]:=v52 O;have A:=hB i j _ (by omega) U H;generalize l[(i+j)/2]=x at*;cases E:q x with
   |true =>
    rw[if_pos E]at A;obtain⟨k,M,I⟩:=ih (j-((i+j)/2+1)) (by omega) ((i+j)/2+1) j rfl (by omega) U (fun m y Z J=>mono m ((i+j)/2) y x (by omega) J H E) V;exact⟨k,by rw[qas A];exact M,I⟩
   | false =>
    rw[if_neg (by rw[E];simp)]at A;obtain⟨k,M,I⟩:=ih ((i+j)/2-i) (by omega) i ((i+j)/2) rfl (by omega) (by omega) h1 (fun m y Z J=>by
     cases hc:q y with
     |false=>rfl
     |true=>have:=mono ((i+j)/2) m x y Z H J hc;rw[E]at this;cases this)
    exact⟨k,by rw[qas A];exact M,I⟩
theorem vb0(i j:Nat)(h:i+j<=4611686018427387904):v96.wrap (v90 (v98.wrap (v96.wrap ((i:Int)+(j:Int)))) (2^(min 1 64)))=(((i+j)/2:Nat):Int):=by
 have e:v96.wrap ((i:Int)+(j:Int))=((i+j:Nat):Int):=by rw[qbg (by omega) (by omega)];omega
 have A:v98.wrap ((i+j:Nat):Int)=((i+j:Nat):Int):=by
  show((i+j:Nat):Int)%18446744073709551616=_;omega
 rw[e,A];have E:v90 ((i+j:Nat):Int) (2^(min 1 64))=(((i+j)/2:Nat):Int):=(Int.ofNat_fdiv (i+j) 2).symm;rw[E,qbg (by omega) (by omega)]
end Go.Ab
namespace Go.Proofs.YtijpapagpebllaaGreatDoor
open Go Go.Ab
variable {t:Table} {p c:List Nat} {r:Nat->Nat} {m n i k s b j:Nat} {ps:Nat->List Row->Prop} {l V:List Int} {d:Denial} {R:List Constraint} {A E:Type} {b0:List (List Int)} {a:List Row} {x:Int}
theorem q87(x y:Int):qkq x y=some (decide (x<y)):=by
 have h:∀z:Int,qdl z=some false:=fun z=>by simp[qdl]
 simp only[qkq,h,v7m,uaz,v5k,if_false,if_true]
theorem vl6(l:List Int)(p:Int)(ha:l.Pairwise (· < ·))(hl:l.length<=1048576):∃i:Nat,qaz l p=some ((i:Int),decide (p∈l)):=by
 have asc:∀(m n:Nat) x y,m<n->l[m]?=some x->l[n]?=some y->x<y:=fun m n x y I A J=>by
  obtain⟨h1,rfl⟩:=v56.1 A;obtain⟨O,rfl⟩:=v56.1 J;exact ubu.1 ha m n h1 O I
 obtain⟨k,Z,e2,V,e4⟩:=qtx l (fun x=>decide (x<p)) (qbc l p) hl
  (fun m n x y I A J W=>by
   rw[decide_eq_true_eq]at W ⊢;rcases ub7 m n with h|h
   ·have:=asc m n x y h A J;omega
   ·have:m=n:=by omega
    subst this;rw[A]at J;cases J;exact W)
  (fun i j x hij hj A=>by
   have c:(i:Int)<(j:Int):=by omega
   simp only[qbc,if_pos c,vb0 i j (by omega),qad A,v7m,q87,qe4 (show(i+j)/2<4611686018427387904 by omega)];by_cases h:x<p<;>simp[h])
  (fun i=>by simp[qbc]) _ 0 l.length rfl (v9f _) (v7a _) (fun m x E=>by omega) (fun m x E A=>by have:=qdc A;omega)
 refine⟨k,?_⟩;simp only[v91]at Z;simp only[qaz,Z,v7m];have H:∀x,l[k]?=some x->(p∈l↔x=p):=fun x A=>by
  constructor
  ·intro U;obtain⟨m,E⟩:=ubq.1 U;rcases v9a m k with h|h|h
   ·have:=V m p h E;simp at this
   ·subst h;rw[A]at E;cases E;rfl
   ·have h1:=asc k m x p h A E;have O:=e4 k x (v7a _) A;simp at O;omega
  ·rintro rfl;exact v6m A
 by_cases hk:k<l.length
 ·have A:l[k]?=some l[k]:=v52 hk;have E:=H _ A;generalize l[k]=x at*;simp only[if_pos (show((k:Int)<(l.length:Int)) by omega),qad A,v7m,qe2];by_cases M:x=p
  ·have:(x==p)=true:=by simp[M]
   rw[if_pos this];simp[E.2 M]
  ·have:¬(x==p)=true:=by simp[M]
   rw[if_neg this];simp[M,E]
 ·have:¬p∈l:=by
   intro U;obtain⟨m,E⟩:=ubq.1 U;have:=V m p (by have:=qdc E;omega) E;simp at this
  simp only[if_neg (show ¬((k:Int)<(l.length:Int)) by omega)];simp[this]
theorem qzz(a:List Row)(y:Int):y∈qq8 a↔∃r∈a,r.ID=y:=by
 unfold qq8;rw[(qte _).mem_iff,v81]
theorem qw4:∀(n:Nat) (a:Int) (l:List Row),(∀r∈l,r.Values.length=n/\r.Values.all ql1=true/\a<r.ID)->l.Pairwise (fun x y=>x.ID<y.ID)->qds n a l=0
 |n,a,[],_,_=>rfl
 |n,a,x::l,h,hp=>by
  rw[ubt]at hp;obtain⟨E,A,H⟩:=h x (by simp);rw[qds,if_neg (by omega),if_neg (by simp[E]),if_pos A];exact qw4 n x.ID l (fun r hr=>⟨(h r (by simp[hr])).1,(h r (by simp[hr])).2.1,hp.1 r hr⟩) hp.2
theorem vqy(h:qdi t=0)(A:List Row)(hl:A.length<=t.Rows.length)(E:qds t.Attrs.length 0 A=0):qdi ⟨t.Name,t.Attrs,A⟩=0:=by
 unfold qdi at h ⊢
 grind
theorem q1x(ha:l.Pairwise (· < ·)){y:Int}(A:m<n)(I:l[m]?=some x)(H:l[n]?=some y):x<y:=by
 obtain⟨h1,rfl⟩:=v56.1 I;obtain⟨E,rfl⟩:=v56.1 H;exact ubu.1 ha m n h1 E A
theorem vg0(l:List Int)(p:Int)(ha:l.Pairwise (· < ·))(hl:l.length<=1000):∃k:Nat,qaz l p=some ((k:Int),decide (p∈l))/\k<=l.length/\(∀m x,m<k->l[m]?=some x->x<p)/\∀m x,k<=m->l[m]?=some x->p<=x:=by
 have asc:∀(m n:Nat) x y,m<n->l[m]?=some x->l[n]?=some y->x<y:=fun m n x y h1 V h3=>q1x ha h1 V h3
 obtain⟨k,U,e2,e3,Z⟩:=qtx l (fun x=>decide (x<p)) (qbc l p) (by omega)
  (fun m n x y hmn A M O=>by
   rw[decide_eq_true_eq]at O ⊢;rcases ub7 m n with h|h
   ·have:=asc m n x y h A M;omega
   ·have:m=n:=by omega
    subst this;rw[A]at M;cases M;exact O)
  (fun i j x hij hj A=>by
   have c:(i:Int)<(j:Int):=by omega
   simp only[qbc,if_pos c,vb0 i j (by omega),qad A,v7m,q87,qe4 (show(i+j)/2<4611686018427387904 by omega)];by_cases h:x<p<;>simp[h])
  (fun i=>by simp[qbc]) _ 0 l.length rfl (v9f _) (v7a _) (fun m x E=>by omega) (fun m x E A=>by have:=qdc A;omega)
 have I:∀m x,m<k->l[m]?=some x->x<p:=fun m x E A=>by simpa using e3 m x E A
 have J:∀m x,k<=m->l[m]?=some x->p<=x:=fun m x E A=>by have:=Z m x E A;simp at this;omega
 obtain⟨i,hi⟩:=vl6 l p ha (by omega);refine⟨k,?_,e2,I,J⟩;rw[hi];simp only[v91]at U;have:qaz l p=some ((i:Int),decide (p∈l)):=hi;simp only[qaz,U,v7m]at this;have H:(i:Int)=(k:Int):=by
  by_cases W:k<l.length
  ·have A:l[k]?=some l[k]:=v52 W;simp only[if_pos (show((k:Int)<(l.length:Int)) by omega),qad A,v7m,qe2]at this;split at this
   ·exact(uce (v9i this)).1.symm
   ·rw[bne_self_eq_false,if_neg (by simp)]at this;exact(uce (v9i this)).1.symm
  ·simp only[if_neg (show ¬((k:Int)<(l.length:Int)) by omega)]at this;exact(uce (v9i this)).1.symm
 rw[H]
def v4n(V:List Int)(E:List (List Int))(l:List Int):Bool:=(l.all fun x=>decide (x∈V))&&!(E.any fun e=>e.all fun x=>decide (x∈l))
structure HG(V:List Int)(E:List (List Int)):Prop where
 asc:V.Pairwise (· < ·)
 len:V.length<=40
 elen:E.length<=20000
 easc:∀e∈E,e.Pairwise (· < ·)
 ene:∀e∈E,e≠[]
 esub:∀e∈E,∀x∈e,x∈V
def qv7(V:List Int)(x:Int):Nat:=(V.findIdx? fun y=>x==y).getD 0
theorem qrw(h:x∈V):V.findIdx? (fun y=>x==y)=some (qv7 V x)/\V[qv7 V x]?=some x:=by
 cases A:V.findIdx? (fun y=>x==y) with
 |none =>
  have:=List.findIdx?_eq_none_iff.1 A x h;simp at this
 |some i =>
  obtain⟨h1,E,_⟩:=ubg.1 A;have e:qv7 V x=i:=by unfold qv7;rw[A];rfl
  rw[e];refine⟨rfl,?_⟩;rw[v52 h1];have:x=V[i]:=by simpa using E
  rw[<-this]
theorem vb1(h:x∈V):qv7 V x<V.length:=(v56.1 (qrw h).2).1
theorem vqz(H:V.Pairwise (· < ·))(h:x∈V)(i:Nat):qv7 V x=i↔V[i]?=some x:=by
 constructor
 ·rintro rfl;exact(qrw h).2
 ·intro hi;have E:=(qrw h).2;rcases v9a (qv7 V x) i with A|A|A
  ·have:=q1x H A E hi;omega
  ·exact A
  ·have:=q1x H A hi E;omega
structure HV(V:List Int)(E:List (List Int)):Prop extends HG V E where
 srtdE:E.Pairwise fun a b=>ltL a b=true
 anti:∀(i k:Nat) (a b:List Int),E[i]?=some a->E[k]?=some b->i≠k->∃x,x∈b/\x ∉ a
theorem q5s{v:Nat}(h:i<p.length):(p.set i v).getD j 0=if j=i then v else p.getD j 0:=by
 rw[v8i,List.getElem?_set,v8i];by_cases e:i=j
 ·subst e;rw[if_pos rfl,if_pos h,if_pos rfl];rfl
 ·rw[if_neg e,if_neg (Ne.symm e)]
def qa6(p:List Nat):List Int:=p.map fun(i:Nat)=>(i:Int)
theorem qrx{v:Nat}(h:p[i]?=some v):(qa6 p)[i]?=some (v:Int):=by unfold qa6;rw[v8n,h];rfl
theorem qw5(h:i<p.length):p[i]?=some (p.getD i 0):=by rw[v8i,v52 h];rfl
theorem qup(p:List Nat)(i v:Nat):(qa6 p).set i (v:Int)=qa6 (p.set i v):=by unfold qa6;rw[ubo]
structure RK(m:Nat)(p:List Nat)(r:Nat->Nat):Prop where
 len:p.length=m
 lt:∀i,i<m->r i<m
 pl:∀i,i<m->p.getD i 0<m
 st:∀i,i<m->r (p.getD i 0)=r i
 fx:∀i,i<m->p.getD i 0=i->r i=i
 fr:∀i,i<m->p.getD (r i) 0=r i
 rk:∃k:Nat->Nat,∀i,i<m->p.getD i 0≠i->k (p.getD i 0)<k i
theorem RK.idem(h:RK m p r)(hi:i<m):r (r i)=r i:=h.fx _ (h.lt i hi) (h.fr i hi)
theorem RK.self(h:RK m p r)(hi:i<m)(hr:r i=i):p.getD i 0=i:=by have:=h.fr i hi;rwa [hr]at this
theorem RK.range(m:Nat):RK m (v6s m) (fun i=>i):=by
 have e:∀i,i<m->(v6s m).getD i 0=i:=fun i hi=>by simp[v8i,hi]
 exact⟨by simp,fun i hi=>hi,fun i hi=>by rw[e i hi];exact hi,fun i hi=>e i hi,fun i hi _=>rfl,fun i hi=>e i hi,fun _=>0,fun i hi h=>absurd (e i hi) h⟩
def qvt(r:Nat->Nat)(a b:Nat)(i:Nat):Nat:=if r i=b then a else r i
theorem RK.merge(h:RK m p r){a:Nat}(ha:a<m)(O:b<m)(J:r a=a)(U:r b=b)(E:a≠b):RK m (p.set b a) (qvt r a b):=by
 have H:b<p.length:=by rw[h.len];exact O
 have g:∀j,(p.set b a).getD j 0=if j=b then a else p.getD j 0:=fun j=>q5s H
 refine⟨by rw[v6f,h.len],fun i hi=>?_,fun i hi=>?_,fun i hi=>?_,fun i hi I=>?_,fun i hi=>?_,?_⟩
 ·unfold qvt;split
  ·exact ha
  ·exact h.lt i hi
 ·rw[g];split
  ·exact ha
  ·exact h.pl i hi
 ·rw[g];by_cases e:i=b
  ·rw[if_pos e];subst e;unfold qvt;rw[J,if_neg E,U,if_pos rfl]
  ·rw[if_neg e];unfold qvt;rw[h.st i hi]
 ·rw[g]at I;by_cases e:i=b
  ·grind
  ·rw[if_neg e]at I;unfold qvt;rw[h.fx i hi I,if_neg e]
 ·unfold qvt;by_cases e:r i=b
  ·rw[if_pos e,g,if_neg E];exact h.self ha J
  ·rw[if_neg e,g,if_neg e];exact h.fr i hi
 ·obtain⟨k,M⟩:=h.rk;refine⟨fun i=>if r i=b then k i+k a+1 else k i,fun i hi A=>?_⟩;rw[g]at A ⊢;by_cases e:i=b
  ·grind
  ·rw[if_neg e]at A ⊢;have:=M i hi A;simp only[h.st i hi]
   grind
def vg1(m:Nat)(p:List Nat):Nat:=(v6s m).countP fun i=>decide (p.getD i 0=i)
theorem qw6{J:Type}{p q:J->Bool}:∀(l:List J),(∀x∈l,q x=true->p x=true)->(∃x∈l,p x=true/\q x=false)->l.countP q<l.countP p
 |[],_,h=>by obtain⟨x,I,_⟩:=h;cases I
 | x :: l,h1,h2=>by
  rw[ubc,ubc];have V:l.countP q<=l.countP p:=List.countP_mono_left fun y E=>h1 y (v8y _ E)
  obtain⟨y,E,A,H⟩:=h2;rcases v9s.1 E with rfl|E
  ·rw[A,H];simp;omega
  ·have:=qw6 l (fun z O=>h1 z (v8y _ O)) ⟨y,E,A,H⟩;have I:=h1 x (v8z);cases M:q x<;>cases U:p x
   ·simp;omega
   ·simp;omega
   ·rw[U]at I;exact absurd (I M) (by decide)
   ·simp;omega
theorem vg2{a:Nat}(hl:p.length=m)(A:b<m)(H:p.getD b 0=b)(E:a≠b):vg1 m (p.set b a)<vg1 m p:=by
 have g:∀j,(p.set b a).getD j 0=if j=b then a else p.getD j 0:=fun j=>q5s (by rw[hl];exact A)
 refine qw6 _ (fun x I h=>?_) ⟨b,v83.2 A,decide_eq_true H,?_⟩
 ·grind
 ·grind
theorem vwu(m:Nat)(p:List Nat):vg1 m p<=m:=by
 have:=ubd (p:=fun i=>decide (p.getD i 0=i)) (l:=v6s m);simpa[vg1] using this
def qw7(kn:List (Option A))(r:Nat->Nat)(i k:Nat):Prop:=r i=r k\/∃v,kn.getD (r i) none=some v/\kn.getD (r k) none=some v
structure CK{α:Type}(m:Nat)(kn:List (Option α))(p:List Nat)(r:Nat->Nat):Prop extends RK m p r where
 kl:kn.length=m
 kr:∀i,i<m->kn.getD i none≠none->r i=i
def v4o(m:Nat)(kn:List (Option A))(V:Nat->A):Prop:=∀i,i<m->∀v,kn.getD i none=some v->V i=v
def clsK(m:Nat)(r:Nat->Nat)(V:Nat->A):Prop:=∀i,i<m->V i=V (r i)
theorem vq0{kn:List (Option E)}(h:CK m kn p r){V:Nat->E}(I:v4o m kn V)(H:clsK m r V)(hi:i<m)(A:k<m)(J:qw7 kn r i k):V i=V k:=by
 rw[H i hi,H k A];rcases J with e|⟨v,O,M⟩
 ·rw[e]
 ·rw[I _ (h.lt i hi) v O,I _ (h.lt k A) v M]
theorem CK.merge{E:Type}{m:Nat}{kn:List (Option E)}{p:List Nat}{r:Nat->Nat}(h:CK m kn p r){a b:Nat}(ha:a<m)(H:b<m)(I:r a=a)(J:r b=b)(A:a≠b)(M:kn.getD b none=none):CK m kn (p.set b a) (qvt r a b):=by
 refine⟨h.toRK.merge ha H I J A,h.kl,fun i hi hn=>?_⟩;unfold qvt;rw[h.kr i hi hn]
 grind
theorem vl7{H:Type}{V:Nat->H}(A:clsK m r V){a:Nat}(E:V a=V b):clsK m (qvt r a b) V:=fun i hi=>by
 unfold qvt;split
 ·rename_i e;rw[A i hi,e,E]
 ·exact A i hi
theorem vg3{kn:List (Option E)}{a:Nat}(e:(r i=a/\r k=b)\/(r i=b/\r k=a))(A:a≠b):qw7 kn (qvt r a b) i k:=by
 left;unfold qvt
 grind
def vib(kn:List (Option A))(r:Nat->Nat)(fresh:Nat->A)(i:Nat):A:=(kn.getD (r i) none).getD (fresh (r i))
theorem vea{kn:List (Option E)}(h:CK m kn p r){fresh:Nat->E}(V:∀i k,i<m->k<m->r i=i->r k=k->kn.getD i none=none->kn.getD k none=none->fresh i=fresh k->i=k)
  (M:∀i k,i<m->k<m->r i=i->kn.getD i none=none->kn.getD k none≠some (fresh i)) (hi:i<m) (A:k<m):vib kn r fresh i=vib kn r fresh k↔qw7 kn r i k:=by
 unfold vib qw7;have I:=h.lt i hi;have W:=h.lt k A;have J:=h.idem hi;have U:=h.idem A;cases O:kn.getD (r i) none with
 | none =>
  cases H:kn.getD (r k) none with
  |none =>
   grind
  |some w =>
   grind
 | some v =>
  cases H:kn.getD (r k) none with
  |none =>
   grind
  |some w =>
   grind
theorem vl8{kn:List (Option E)}(h:CK m kn p r)(fresh:Nat->E):v4o m kn (vib kn r fresh):=fun i hi v A=>by
 unfold vib;rw[h.kr i hi (by rw[A];simp),A];rfl
def v4p(n rows:Nat)(F:List ((Nat->Bool)×(Nat->Bool)))(V:Nat->A):Prop :=
 ∀f∈F,∀i k,i<rows->k<i->(∀a,a<n->f.1 a=true->V (i*n+a)=V (k*n+a))->∀a,a<n->f.2 a=true->V (i*n+a)=V (k*n+a)
def vwv(m n rows:Nat)(F:List ((Nat->Bool)×(Nat->Bool)))(kn:List (Option A))(r:Nat->Nat):Prop:=∀V,v4o m kn V->v4p n rows F V->clsK m r V
def E3(l:List Int):Prop:=l≠[]/\l.length<=3/\l.Pairwise (· < ·)/\∀x∈l,0<x
theorem E3.shape(h:E3 l):(∃a,l=[a]/\0<a)\/(∃a b,l=[a,b]/\0<a/\a<b)\/∃a b c,l=[a,b,c]/\0<a/\a<b/\b<c:=by
 obtain⟨h1,H,E,A⟩:=h
 match l,h1,H,E,A with
 |[],h1,_,_,_=>exact absurd rfl h1
 |[a],_,_,_,A=>exact .inl ⟨a,rfl,A a (by simp)⟩
 |[a,b],_,_,E,A=>exact .inr (.inl ⟨a,b,rfl,A a (by simp),(ubt.1 E).1 b (by simp)⟩)
 |[a,b,c],_,_,E,A =>
  obtain⟨J,I⟩:=ubt.1 E;exact .inr (.inr ⟨a,b,c,rfl,A a (by simp),J b (by simp),(ubt.1 I).1 c (by simp)⟩)
 |_::_::_::_::_,_,H,_,_=>simp at H
theorem vl9{m:List Int}(hl:E3 l)(H:E3 m)(h:vbv l=vbv m):l=m:=by
 unfold vbv at h;obtain⟨h0,h1,A⟩:=Arr3_int64.mk.inj h;rcases hl.shape with⟨a,rfl,I⟩|⟨a,b,rfl,I,E⟩|⟨a,b,c,rfl,I,E,M⟩<;>rcases H.shape with⟨x,rfl,x1⟩|⟨x,y,rfl,x1,x2⟩|⟨x,y,z,rfl,x1,x2,J⟩<;>simp at h0 h1 A<;>first|(subst h0;subst h1;subst A;rfl)|(subst h0;subst h1;rfl)|(subst h0;rfl)|omega
def vww(A:List (List Int))(c:List (Arr3_int64×Bool)):Prop:=∀m,E3 m->((qg3 c (vbv m)).getD false=true↔m∈A)
theorem vma(A:List (List Int))(hl:A.length<=1000000)(O:∀e∈A,E3 e):∃seen,qah (qeb A) ([],0)=some seen/\vww A seen:=by
 obtain⟨seen,U,i⟩:=qa0 (β:=List (Arr3_int64×Bool)) A.length (fun b i=>(b,i)) (qeb A) id (fun k b=>vww (A.take k) b) (b0:=[]) (s0:=([],0)) rfl (fun m _=>by simp[qg3])
  (fun k b I M=>by
   have H:A[k]?=some A[k]:=v52 I;have J:A[k]∈A:=v6m H;refine⟨qnx b (vbv A[k]) true,?_,fun m E=>?_⟩
   ·simp only[qeb,if_pos (qan H),qad H,qfe,v7m,wqn k];rfl
   ·rw[qqu,ub5 I,v6k,v84];by_cases h:vbv m=vbv A[k]
    ·rw[if_pos h];simp[vl9 E (O _ J) h]
    ·rw[if_neg h,M m E]
     grind)
  (fun b _=>by simp[qeb])
 grind
def vwx(A:List (List Int))(l:List Int):Prop:=∃m∈A,(∀x∈m,x∈l)/\m≠l
theorem sub1{m:List Int}{a:Int}(A:E3 m)(h:∀x∈m,x∈[a]):m=[a]:=by
 rcases A.shape with⟨x,rfl,x1⟩|⟨x,y,rfl,x1,x2⟩|⟨x,y,z,rfl,x1,x2,E⟩<;>simp at h<;>first|(subst h;rfl)|omega
theorem sub2{m:List Int}{a b:Int}(A:E3 m)(E:a<b)(h:∀x∈m,x∈[a,b]):m=[a]\/m=[b]\/m=[a,b]:=by
 rcases A.shape with⟨x,rfl,x1⟩|⟨x,y,rfl,x1,x2⟩|⟨x,y,z,rfl,x1,x2,H⟩<;>simp at h
 ·grind
 ·grind
 ·omega
theorem sub3{m:List Int}{a b c:Int}(A:E3 m)(E:a<b)(H:b<c)(h:∀x∈m,x∈[a,b,c]):m=[a]\/m=[b,c]\/m=[b]\/m=[a,c]\/m=[c]\/m=[a,b]\/m=[a,b,c]:=by
 rcases A.shape with⟨x,rfl,x1⟩|⟨x,y,rfl,x1,x2⟩|⟨x,y,z,rfl,x1,x2,I⟩<;>simp at h
 ·grind
 ·grind
 ·grind
theorem v4q{a:Int}(h:0<a):E3 [a]:=⟨by simp,by simp,by simp,by simpa using h⟩
theorem e3_2{a b:Int}(h:0<a)(A:a<b):E3 [a,b]:=⟨by simp,by simp,by simpa using A,by simp;omega⟩
def qnu(c:List (Arr3_int64×Bool))(m:List Int):Bool:=(qg3 c (vbv m)).getD false
theorem vg4(c:List (Arr3_int64×Bool))(a:Int):qbw [a] c=some false:=by
 have s0:qay [a] c 0=some (.next 1):=rfl;unfold qbw;rw[qas s0,qap (show qay [a] c 1=some (.done (.inl ())) from rfl)];rfl
theorem vg5(c:List (Arr3_int64×Bool))(a b:Int):qbw [a,b] c=some (qnu c [a]||qnu c [b]):=by
 have s0:qay [a,b] c 0=if qnu c [a]=true then some (.done (.inr true)) else some (.next 1):=rfl
 have A:qay [a,b] c 1=if qnu c [b]=true then some (.done (.inr true)) else some (.next 2):=rfl
 have E:qay [a,b] c 2=some (.done (.inl ())):=rfl;unfold qbw;cases h0:qnu c [a] with
 |true=>rw[qap (s0.trans (if_pos h0))];rfl
 |false =>
  rw[qas (s0.trans (if_neg (by rw[h0];simp)))];cases h1:qnu c [b] with
  |true=>rw[qap (A.trans (if_pos h1))];rfl
  |false=>rw[qas (A.trans (if_neg (by rw[h1];simp))),qap E];rfl
theorem vg6(c:List (Arr3_int64×Bool))(x y z:Int):qbw [x,y,z] c=some ((qnu c [x]||qnu c [y,z])||((qnu c [y]||qnu c [x,z])||(qnu c [z]||qnu c [x,y]))):=by
 have c0:qbj [[],[y,z]]=some [y,z]:=qvs [] [y,z] (by simp) (by simp);have Z:qbj [[x],[z]]=some [x,z]:=qvs [x] [z] (by simp) (by simp);have U:qbj [[x,y],[]]=some [x,y]:=qvs [x,y] [] (by simp) (by simp);have s0:qay [x,y,z] c 0=if qnu c [x]=true then some (.done (.inr true)) else(qbj [[],[y,z]]).bind fun r=>if qnu c r=true then some (.done (.inr true)) else some (.next 1):=rfl
 have J:qay [x,y,z] c 1=if qnu c [y]=true then some (.done (.inr true)) else(qbj [[x],[z]]).bind fun r=>if qnu c r=true then some (.done (.inr true)) else some (.next 2):=rfl
 have M:qay [x,y,z] c 2=if qnu c [z]=true then some (.done (.inr true)) else(qbj [[x,y],[]]).bind fun r=>if qnu c r=true then some (.done (.inr true)) else some (.next 3):=rfl
 have s3:qay [x,y,z] c 3=some (.done (.inl ())):=rfl;rw[c0,v7m]at s0;rw[Z,v7m]at J;rw[U,v7m]at M;have key:∀(k n:Int) (p q:Bool),(qay [x,y,z] c k=if p=true then some (.done (.inr true)) else if q=true then some (.done (.inr true)) else some (.next n)) ->
   ((p||q)=true->qah (qay [x,y,z] c) k=some (.inr true))/\((p||q)=false->qah (qay [x,y,z] c) k=qah (qay [x,y,z] c) n):=fun k n p q h=>by
  cases p<;>cases q<;>simp at h<;>simp
  ·exact qas h
  ·exact qap h
  ·exact qap h
  ·exact qap h
 obtain⟨O,H⟩:=key _ _ _ _ s0;obtain⟨V,A⟩:=key _ _ _ _ J;obtain⟨W,E⟩:=key _ _ _ _ M;unfold qbw;cases h0:(qnu c [x]||qnu c [y,z]) with
 |true=>rw[O h0];rfl
 | false =>
  rw[H h0];cases h1:(qnu c [y]||qnu c [x,z]) with
  |true=>rw[V h1];rfl
  |false =>
   rw[A h1];cases I:(qnu c [z]||qnu c [x,y]) with
   |true=>rw[W I];rfl
   |false=>rw[E I,qap s3];rfl
theorem vb2{A:List (List Int)}{c:List (Arr3_int64×Bool)}(W:vww A c)(O:∀e∈A,E3 e)(hl:E3 l):∃b,qbw l c=some b/\(b=true↔vwx A l):=by
 have E:∀m,E3 m->(qnu c m=true↔m∈A):=W;rcases hl.shape with⟨a,rfl,I⟩|⟨a,b,rfl,I,M⟩|⟨x,y,z,rfl,I,M,V⟩
 ·refine⟨_,vg4 c a,by simp,?_⟩;rintro⟨m,H,J,U⟩;exact absurd (sub1 (O m H) J) U
 ·refine⟨_,vg5 c a b,?_⟩;rw[v79,E _ (v4q I),E _ (v4q (by omega))];constructor
  ·rintro(h|h)
   ·exact⟨_,h,by simp,by simp⟩
   ·exact⟨_,h,by simp,by simp⟩
  ·rintro⟨m,H,J,U⟩;rcases sub2 (O m H) M J with rfl|rfl|rfl
   ·exact .inl H
   ·exact .inr H
   ·grind
 ·refine⟨_,vg6 c x y z,?_⟩;simp only[v79];rw[E _ (v4q I),E _ (v4q (show 0<y by omega)),E _ (v4q (show 0<z by omega)),E _ (e3_2 I M),E _ (e3_2 I (show x<z by omega)),E _ (e3_2 (show 0<y by omega) V)];constructor
  ·rintro((h|h)|(h|h)|h|h)<;>exact⟨_,h,by simp,by simp⟩
  ·rintro⟨m,H,J,U⟩;rcases sub3 (O m H) M V J with rfl|rfl|rfl|rfl|rfl|rfl|rfl
   ·grind
   ·grind
   ·grind
   ·grind
   ·grind
   ·grind
   ·grind
theorem veb(l:List (List Int))(hl:l.length<=1000000)(O:∀a∈l,a.length<=1000000):∃s,qxt (fun(a:List Int) (b:List Int)=>qae a b) l=some s/\s.Perm l/\s.Pairwise fun a b=>ltL b a=false:=by
 have I:∀x∈l,∀y∈l,(qae x y).getD 0=vgs x y:=fun x A y H=>by rw[qpq x y (O x A) (O y H)];rfl
 have J:q2q (fun x y=>(qae x y).getD 0) l:=by
  refine⟨fun x A=>?_,fun x A y H z M h1 E=>?_,fun x A y H z M h1 E=>?_⟩
  ·show ¬(qae x x).getD 0<0;rw[I x A x A,qhh,qru];simp
  ·replace h1:(qae x y).getD 0<0:=h1;replace E:(qae y z).getD 0<0:=E;show(qae x z).getD 0<0;rw[I _ A _ H,qhh]at h1;rw[I _ H _ M,qhh]at E;rw[I _ A _ M,qhh];exact qtu x y z h1 E
  ·replace h1:¬(qae x y).getD 0<0:=h1;replace E:¬(qae y z).getD 0<0:=E;show ¬(qae x z).getD 0<0;rw[I _ A _ H,qhh]at h1;rw[I _ H _ M,qhh]at E;rw[I _ A _ M,qhh];have W:ltL x y=false:=by simpa using h1
   have V:ltL y z=false:=by simpa using E
   rw[q1t x y z W V];simp
 have Z:=quh J;refine⟨srt (fun x y=>(qae x y).getD 0) l,?_,Z,?_⟩
 ·unfold qxt;rw[if_pos ⟨fun x A y H=>by show(qae x y).isSome=true;rw[qpq x y (O x A) (O y H)];rfl,J,by omega⟩]
 ·refine uad.imp_of_mem ?_ (qui J);intro a b ha hb U;replace U:¬(qae b a).getD 0<0:=U;rw[I _ (Z.mem_iff.1 hb) _ (Z.mem_iff.1 ha),qhh]at U;simpa using U
theorem vmb{l:List (List Int)}(h:l.Pairwise fun a b=>ltL b a=false){x y:List Int}(O:l[j+1]?=some x)(V:l[j]?=some y)(H:x≠y){z:List Int}(W:z∈l.take (j+1)):ltL z x=true:=by
 obtain⟨i,hi,e⟩:=ubp.1 W;rw[v6g]at hi;rw[ubk]at e;obtain⟨I,U⟩:=v56.1 O;obtain⟨A,J⟩:=v56.1 V;have g:ltL y z=false:=by
  by_cases E:i=j
  ·subst E;rw[<-e,J];exact qru y
  ·have:=ubu.1 h i j (by omega) A (by omega)
   grind
 have M:ltL x y=false:=by
  have:=ubu.1 h j (j+1) A I (by omega)
  grind
 have Z:ltL y x=true:=by
  cases q:ltL y x with
  |true=>rfl
  |false=>exact absurd (qqw x y M q) H
 cases q:ltL z x with
 |true=>rfl
 |false =>
  have:=q1t y z x g q
  grind
theorem vwy{l:List (List Int)}(hl:l.length<=1000000)(hs:∀a∈l,a.length<=1000)(hp:l.Pairwise fun a b=>ltL b a=false)(hm:1<=m)(hml:m<l.length)(E:q3u (l.take m))(W:l[m]=l[m-1]) :
  ∃s k,qah (qdb l (m:Int)) (l,(m:Int),1)=some (s,((k:Nat):Int))/\s.length=l.length/\k<=l.length/\q3u (s.take k)/\∀e,e∈s.take k↔e∈l:=by
 obtain⟨o,ho,h1⟩:=qnj (β:=List (List Int)×Nat) (l.length-m) (fun b i=>(b.1,(b.2:Int),i)) (qdb l (m:Int))
  (fun k b=>b.1.length=l.length/\b.2<m+k/\(∀j,m+k<=j+1->b.1[j]?=l[j]?)/\q3u (b.1.take b.2)/\∀e,e∈b.1.take b.2↔e∈l.take (m+k))
  (fun o=>∃s k,o=(s,((k:Nat):Int))/\s.length=l.length/\k<=l.length/\q3u (s.take k)/\∀e,e∈s.take k↔e∈l) (b0:=(l,m)) (s0:=(l,(m:Int),1)) 1 (by omega) rfl
  ⟨rfl,by simp,fun _ _=>rfl,E,fun e=>by
   simp only;rw[ub5 hml,v6k,v84];constructor
   ·exact .inl
   ·rintro(h|h)
    ·exact h
    ·rw[h,W];have:m-1<(l.take m).length:=by rw[v6g];omega
     have e2:(l.take m)[m-1]=l[m-1]:=ubk
     grind⟩
  (fun k b hk1 hk hI=>by
   obtain⟨I,i2,i3,J,U⟩:=hI;have hw:v96.wrap ((k:Int)+1)=((k+1:Nat):Int):=qe4 (by omega);have A:v96.wrap ((k:Int)-1)=((k-1:Nat):Int):=by rw[qbg (by omega) (by omega)];omega
   have Z:v96.wrap ((b.2:Int)+1)=((b.2+1:Nat):Int):=qe4 (by omega);have g:∀j,k<=j+1->j<l.length-m->((b.1.drop m).take (l.length-m))[j]?=l[m+j]?:=fun j hj0 hj=>by
    grind
   have x0:l[m+k]?=some l[m+k]:=v52 (by omega);have y0:l[m+k-1]?=some l[m+k-1]:=v52 (by omega);have x1:=(g k (by omega) hk).trans x0;have y1:((b.1.drop m).take (l.length-m))[k-1]?=some l[m+k-1]:=by rw[g (k-1) (by omega) (by omega),show m+(k-1)=m+k-1 by omega];exact y0
   have hz:b.1[b.2]?=some b.1[b.2]:=v52 (by omega);have hE:=qu9 l[m+k] l[m+k-1] (by have:=hs _ (v6m x0);omega);have V:l.take (m+(k+1))=l.take (m+k)++[l[m+k]]:=by rw[<-v61];exact ub5 (by omega)
   left;by_cases M:l[m+k]=l[m+k-1]
   ·refine⟨b,?_,I,by omega,fun j hj=>i3 j (by omega),J,fun e=>?_⟩
    ·simp only[qdb,v93,if_pos (show(k:Int)<(((l.length-m):Nat):Int) by omega),qad x1,v7m,A,qad y1,hE,decide_eq_true M,if_true,hw]
    ·rw[U e,V,v6k,v84];constructor
     ·exact .inl
     ·rintro(h|h)
      ·exact h
      ·rw[h,M];have:m+k-1<(l.take (m+k)).length:=by rw[v6g];omega
       have e2:(l.take (m+k))[m+k-1]=l[m+k-1]:=ubk
       grind
   ·have H:b.2<(b.1.set b.2 l[m+k]).length:=by rw[v6f];omega
    have qo8:(b.1.set b.2 l[m+k]).take (b.2+1)=b.1.take b.2++[l[m+k]]:=by
     rw[ub5 H,ub4 (v7a _),List.getElem_set_self]
    refine⟨(b.1.set b.2 l[m+k],b.2+1),?_,by simp[I],by simp only;omega,fun j hj=>?_,?_,fun e=>?_⟩
    ·simp only[qdb,v93,if_pos (show(k:Int)<(((l.length-m):Nat):Int) by omega),qad x1,v7m,A,qad y1,hE,decide_eq_false M,v5k,if_false,qad hz,hw,Z]
    ·grind
    ·simp only[qo8];refine ubs.2 ⟨J,uby _ _,fun z hz' x O=>?_⟩;rw[v84.1 O];refine vmb hp (j:=m+k-1) (by rw[show m+k-1+1=m+k by omega];exact x0) y0 M ?_
     grind
    ·grind)
  (fun b hI=>by
   obtain⟨I,i2,i3,J,U⟩:=hI;refine⟨_,?_,b.1,b.2,rfl,I,by omega,J,fun e=>?_⟩
   ·simp only[qdb,v93]
    grind
   ·rw[U e,show m+(l.length-m)=l.length by omega,ub3])
 grind
theorem vwz{l:List (List Int)}(Z:2<=l.length)(hl:l.length<=1000000)(V:∀a∈l,a.length<=1000)(W:l.Pairwise fun a b=>ltL b a=false) :
  ∃o,qah (qec l) 1=some o/\((o=.inl ()/\q3u l)\/∃z,o=.inr z/\q3u z/\z.length<=l.length/\∀e,e∈z↔e∈l):=by
 refine qnj (β:=Unit) l.length (fun _ i=>i) (qec l) (fun k _=>q3u (l.take k)) (fun o=>(o=.inl ()/\q3u l)\/∃z,o=.inr z/\q3u z/\z.length<=l.length/\∀e,e∈z↔e∈l) (b0:=()) 1 (by omega) rfl ?_ (fun k _ H E A=>?_) (fun _ A=>⟨.inl (),by simp only[qec];rw[if_neg (by omega)],.inl ⟨rfl,by rw[ub3]at A;exact A⟩⟩)
 ·match l,Z with
  |x::r,_=>simp[q3u]
 have hw:v96.wrap ((k:Int)+1)=((k+1:Nat):Int):=qe4 (by omega);have I:v96.wrap ((k:Int)-1)=((k-1:Nat):Int):=by rw[qbg (by omega) (by omega)];omega
 have x1:l[k]?=some l[k]:=v52 E;have U:l[k-1]?=some l[k-1]:=v52 (by omega);have hE:=qu9 l[k] l[k-1] (by have:=V _ (v6m x1);omega);simp only[qec,if_pos (show(k:Int)<((l.length:Nat):Int) by omega),qad x1,v7m,I,qad U,hE,hw,if_pos (show(0:Int)<=(k:Int) by omega),if_pos (show(k:Int)<=((l.length:Nat):Int) by omega)];by_cases M:l[k]=l[k-1]
 ·right;obtain⟨s,j,e1,e2,e3,e4,e5⟩:=vwy hl V W H E A M
  grind
 ·left;rw[if_neg (by simpa using M)];refine⟨(),rfl,?_⟩;rw[ub5 E];refine ubs.2 ⟨A,uby _ _,fun z J x O=>?_⟩;rw[v84.1 O];exact vmb W (j:=k-1) (by rw[show k-1+1=k by omega];exact x1) U M (by rw[show k-1+1=k by omega];exact J)
theorem vg7(A:List (List Int))(hl:A.length<=1000000)(I:∀e∈A,E3 e) :
  ∃E,qgh A=some E/\q3u E/\E.length<=A.length/\∀e,e∈E↔e∈A/\¬vwx A e:=by
 obtain⟨seen,e1,hc⟩:=vma A hl I;obtain⟨E,e2,J,i2⟩:=qa0 (β:=List (List Int)) A.length (fun b i=>(b,i)) (qfz A seen) id (fun k b=>(∀e,e∈b↔e∈A.take k/\¬vwx A e)/\b.length<=k) (b0:=[]) (s0:=([],0)) rfl ⟨by simp,by simp⟩
  (fun k b hk hI=>by
   obtain⟨J,i2⟩:=hI;have hx:A[k]?=some A[k]:=v52 hk;have W:A[k]∈A:=v6m hx;have O:=(I _ W).2.1;obtain⟨m1,hm1,U⟩:=vb2 hc I (I _ W);have hw:v96.wrap ((k:Int)+1)=((k+1:Nat):Int):=qe4 (by omega);have Z:(qg3 seen (Arr3_int64.mk (A[k].getD 0 0) (A[k].getD 1 0) (A[k].getD 2 0))).getD false=true:=(hc _ (I _ W)).2 W;simp only[qfz,if_pos (qan hx),qad hx,qfe,v7m,hm1,hw,q2x A[k] (by omega),RLE (b.length+1) 24,if_true];rw[if_pos Z,v7m,ub5 hk];cases m1 with
   | true =>
    refine⟨b,rfl,fun e=>?_,by omega⟩;rw[J e,v6k,v84];constructor
    ·exact fun h=>⟨.inl h.1,h.2⟩
    ·rintro⟨h|h,h'⟩
     ·exact⟨h,h'⟩
     ·rw[h]at h';exact absurd (U.1 rfl) h'
   | false =>
    refine⟨_,rfl,fun e=>?_,by simp;omega⟩;rw[v6k,v6k,v84,J e];have hns:¬vwx A A[k]:=fun h=>by have:=U.2 h;cases this
    constructor
    ·rintro(h|h)
     ·exact⟨.inl h.1,h.2⟩
     ·rw[h];exact⟨.inr rfl,hns⟩
    ·rintro⟨h|h,h'⟩
     ·exact .inl ⟨h,h'⟩
     ·exact .inr h)
  (fun b _=>by simp[qfz])
 rw[ub3]at J;obtain⟨s,e3,hp,hs⟩:=veb E (by omega) (fun a ha=>by have:=(I a ((J a).1 ha).1).2.1;omega);have O:s.length=E.length:=hp.length_eq;have H:∀e,e∈s↔e∈A/\¬vwx A e:=fun e=>by rw[hp.mem_iff,J e]
 have V:∃z,qgh A=some z/\q3u z/\z.length<=s.length/\∀e,e∈z↔e∈s:=by
  unfold qgh;rw[e1,v7m,e2,v7m,id,e3,v7m];by_cases M:((s.length:Nat):Int)<2
  ·rw[if_pos M];refine⟨s,rfl,?_,v7a _,fun e=>Iff.rfl⟩
   match s,M with
   |[],_=>exact uad.nil
   |[a],_=>exact uby _ _
   |a::b::r,M=>simp only[v8r]at M;omega
  ·rw[if_neg M];obtain⟨o,e4,e5⟩:=vwz (l:=s) (by omega) (by omega) (fun a ha=>by have:=(I a ((H a).1 ha).1).2.1;omega) hs;rw[e4,v7m];rcases e5 with⟨rfl,h⟩|⟨z,rfl,h1,h0,h3⟩
   ·exact⟨s,rfl,h,v7a _,fun e=>Iff.rfl⟩
   ·exact⟨z,rfl,h1,h0,h3⟩
 obtain⟨z,z1,z2,z0,z3⟩:=V;exact⟨z,z1,z2,by omega,fun e=>by rw[z3 e,H e]⟩
theorem v4r(l:List Row)(hl:l.length<=1000):qah (qdv l) ([],0)=some (l.map Row.ID):=by
 have h:=qe8 l (fun(b:List Int) (i:Int)=>(b,i)) (qdv l) (fun b r=>b++[r.ID]) id (fun k b=>b.length=k) (b0:=[]) (s0:=([],0)) rfl rfl
  (fun k b x A E H=>by
   refine⟨?_,by simp[H]⟩;simp only[qdv,if_pos (qan A),qad A,v7m,qmt (show b.length+1<=17592186044416 by omega),if_true,qcs E (show l.length<=4611686018427387904 by omega)])
  (fun b _=>by simp[qdv])
 rw[h];have key:∀(l:List Row) (b:List Int),l.foldl (fun b (r:Row)=>b++[r.ID]) b=b++l.map Row.ID:=by
  intro l
  induction l with
  |nil=>intro b;simp
  |cons x l ih=>intro b;rw[uaj,ih];simp
 rw[id,key,v6r]
theorem vs3(hn:n<=3)(ht:t.Rows.length<=7)(ha:a.length+(m+1)=n)
  (B:List (Arr3_int64×Bool)×List (List Int)×Int->Option (LS (List (Arr3_int64×Bool)×List (List Int)×Int) (List (Arr3_int64×Bool)×List (List Int))))
  (hB:∀(k:Nat) (b:qrv) (r:Row),t.Rows[k]?=some r->k<t.Rows.length->SeenOk n b->b.2.length+7^m<=400->(a.any fun x=>x.ID==r.ID)=false->B (b.1,b.2,(k:Int))=some (.next ((q6i t d m (a++[r]) b).1,(q6i t d m (a++[r]) b).2,v96.wrap ((k:Int)+1))))
  (hU:∀(k:Nat) (b:qrv) (r:Row),t.Rows[k]?=some r->k<t.Rows.length->(a.any fun x=>x.ID==r.ID)=true->B (b.1,b.2,(k:Int))=some (.next (b.1,b.2,v96.wrap ((k:Int)+1))))
  (V:∀b:qrv,B (b.1,b.2,(t.Rows.length:Int))=some (.done (b.1,b.2))) (b0:qrv) (h0:SeenOk n b0) (hl:b0.2.length+7^(m+1)<=400) :
  qah B (b0.1,b0.2,0)=some ((q6i t d (m+1) a b0).1,(q6i t d (m+1) a b0).2):=by
 have h:=qe8 t.Rows (fun(b:qrv) (i:Int)=>(b.1,b.2,i)) B (fun b r=>if(a.any fun x=>x.ID==r.ID)=true then b else q6i t d m (a++[r]) b) (fun b=>(b.1,b.2))
  (fun k b=>SeenOk n b/\b.2.length<=b0.2.length+k*7^m) (b0:=b0) (s0:=(b0.1,b0.2,0)) rfl ⟨h0,by omega⟩
  (fun k b x J I O=>by
   obtain⟨A,M⟩:=O;have Z:b.2.length+7^m<=400:=by
    have:(k+1)*7^m<=7*7^m:=v7h _ (by omega)
    grind
   have W:=qcs I (show t.Rows.length<=4611686018427387904 by omega);by_cases H:(a.any fun E=>E.ID==x.ID)=true
   ·grind
   ·rw[if_neg H];obtain⟨U,g2⟩:=vbx hn ht m (a++[x]) b (by simp;omega) A;refine⟨by rw[hB k b x J I A Z (by simpa using H),W],U,?_⟩
    grind)
  (fun b _=>V b)
 rw[h];rfl
theorem leaf2{b:qrv}(ha:a.length=n)(h:SeenOk n b)(J:b.2.length<=400){I:Type}(k:Int) :
  (if d.Atoms.all (q5n a)=true then
   (if((qg3 b.1 (Arr3_int64.mk ((qq8 a).getD 0 0) ((qq8 a).getD 1 0) ((qq8 a).getD 2 0))).getD false)=true then
    (if((b.2.length:Nat):Int)<=20000 then some (LS.next (b.1,b.2,k)) else none)
   else if qa8 (b.2.length+1) 24=true then
    (if(((b.2.length+1):Nat):Int)<=20000 then some (LS.next ((qnx b.1 (Arr3_int64.mk ((qq8 a).getD 0 0) ((qq8 a).getD 1 0) ((qq8 a).getD 2 0)) true),(b.2++[qq8 a]),k)) else none)
   else none)
  else some (LS.next (b.1,b.2,k)))=some (LS.next ((q2z d a b).1,(q2z d a b).2,k):LS _ I):=by
 have hl:(qq8 a).length=n:=by rw[qw3,ha]
 have H:=h.seen (qq8 a) hl;unfold q2z;by_cases A:d.Atoms.all (q5n a)=true
 ·rw[if_pos A,if_pos A];by_cases E:qq8 a∈b.2
  ·have h1:((qg3 b.1 (Arr3_int64.mk ((qq8 a).getD 0 0) ((qq8 a).getD 1 0) ((qq8 a).getD 2 0))).getD false)=true:=H.2 E
   grind
  ·have h1:¬((qg3 b.1 (Arr3_int64.mk ((qq8 a).getD 0 0) ((qq8 a).getD 1 0) ((qq8 a).getD 2 0))).getD false)=true:=fun h=>E (H.1 h)
   rw[if_neg h1,if_neg E,if_pos (qc3 (by omega) (by omega)),if_pos (by omega)];rfl
 ·grind
theorem vw0(H:DT t)(W:vh8 t.Attrs.length d=true)(U:d.Vars=2)(a:List Row)(ha:a.length=1)(Z:∀r∈a,r∈t.Rows)(b:qrv)(hb:SeenOk 2 b)(hl:b.2.length+7<=400) :
  qah (qdw t d a) (b.1,b.2,0)=some ((q6i t d 1 a b).1,(q6i t d 1 a b).2):=by
 obtain⟨⟨hv1,hv2,hv3⟩,J⟩:=qx8 W;refine vs3 (n:=2) (by omega) H.few (m:=0) (by omega) _ (fun k b x E O hI M I=>?_) (fun k b x E O I=>?_) (fun b=>by simp[qdw]) b hb hl
 ·have R:=vqt H (a:=a++[x]) (n:=2) (by omega) (by simp[ha]) (vly Z E);have A:(a++[x]).length=2:=by simp[ha]
  have V:(((a++[x]).length:Int)==d.Vars)=true:=by rw[A,U];rfl
  rw[show((2:Nat):Int)=d.Vars by omega]at R;simp only[qdw,if_pos (qan E),qad E,v7m,q5r a x (by omega),I,v5k,if_false,if_pos (show a.length<=1000000000 by omega),RLE (a.length+1) 32,if_true,V,q81 R d.Atoms (by omega) J,v4r (a++[x]) (by omega),vlx (a++[x]) (by omega)];exact leaf2 A hI (by omega) _
 ·simp only[qdw,if_pos (qan E),qad E,v7m,q5r a x (by omega),I,if_true]
theorem vw1(H:DT t)(V:vh8 t.Attrs.length d=true)(J:d.Vars=2)(b:qrv)(hb:SeenOk 2 b)(hl:b.2.length+343<=400) :
  qah (qdx t d []) (b.1,b.2,0)=some ((q6i t d 2 [] b).1,(q6i t d 2 [] b).2):=by
 have W:∀r∈([]:List Row),r∈t.Rows:=by simp
 refine vs3 (n:=2) (by omega) H.few (m:=1) (a:=[]) (by simp) _ (fun k b x E O Z M I=>?_) (fun k b x E O I=>?_) (fun b=>by simp[qdx]) b hb (by omega)
 ·have A:(([]:List Row)++[x]).length=1:=by simp
  have U:¬((((([]:List Row)++[x]).length:Int)==d.Vars)=true):=by rw[A,J];decide
  simp only[qdx,if_pos (qan E),qad E,v7m,q5r [] x (by simp),I,v5k,if_false,if_pos (show([]:List Row).length<=1000000000 by simp),qc3 (show([]:List Row).length+1<=1073741824 by simp) (show 32<=65536 by omega),if_true,if_neg U];rw[vw0 H V J ([]++[x]) A (vly W E) b Z (by omega)];rfl
 ·simp only[qdx,if_pos (qan E),qad E,v7m,q5r [] x (by simp),I,if_true]
theorem vmc(t:Table)(d:Denial)(T:TableOk t)(I:∀r∈t.Rows,∀v∈r.Values,v.Str.length<=1048576)(hn:t.Rows.length<=7)(hl:d.Atoms.length<=1048576)(A:d.Vars=2)(h:qtv t d=0):qea t d=some (vws t d):=by
 unfold qea vws;rw[vgv t d T hl,v7m,if_neg (by simp[h]),if_pos h];obtain⟨h1,E⟩:=q1u h;have H:DT t:=⟨T,h1,hn,I⟩;have h0:SeenOk 2 (([]:List (Arr3_int64×Bool)),([]:List (List Int))):=⟨by simp,fun z _=>by simp[qg3]⟩;have J:=vw1 H E A (([]:List (Arr3_int64×Bool)),([]:List (List Int))) h0 (by simp);have M:¬((((([]:List Row).length:Nat):Int)==d.Vars)=true):=by rw[A];decide
 simp only[v7m,if_neg M];rw[J,v7m,vgw t d (n:=2) (by omega) hn A,v7m]
def Tog(rows a:List Row):Prop:=(∀r∈a,r∈rows)/\a≠[]/\a.length<=3/\a.Pairwise fun x y=>x.ID≠y.ID
def LocV(rows:List Row)(L:List (List Int))(p:List Row->Prop):Prop:=∀e,e∈L↔∃a,Tog rows a/\p a/\e=qq8 a
theorem tog2{rows:List Row}{x y:Row}(h:x∈rows)(E:y∈rows)(A:x.ID≠y.ID):Tog rows [x,y]:=⟨by simp;exact⟨h,E⟩,by simp,by simp,by simpa using A⟩
def vq1(A:List Denial)(a:List Row):Prop:=∃d∈A,a.length=d.Vars.toNat/\d.Atoms.all (q5n a)=true
theorem vq2(M:vh8 t.Attrs.length d=true)(e:List Int):e∈qsu t d↔∃a,Tog t.Rows a/\vq1 [d] a/\e=qq8 a:=by
 obtain⟨⟨O,V,_⟩,_⟩:=qx8 M;unfold qsu;rw[v81];constructor
 ·rintro⟨a,ha,rfl⟩;obtain⟨h1,A⟩:=v80.1 ha;obtain⟨H,E,I⟩:=q5q h1;refine⟨a,⟨E,?_,by omega,I⟩,⟨d,by simp,H,A⟩,rfl⟩
  grind
 ·rintro⟨a,⟨E,_,_,I⟩,⟨U,J,H,A⟩,rfl⟩;obtain rfl:=v84.1 J;exact⟨a,v80.2 ⟨vlu H E I,A⟩,rfl⟩
theorem vq3(H:DT t)(E:d.Vars=2)(A:qtv t d=0)(hl:d.Atoms.length<=1048576):qea t d=some (vgu (qsu t d),0):=by
 rw[vmc t d H.ok H.str H.few hl E A];unfold vws;rw[if_pos A]
theorem vmd(H:DT t)(A:List Denial)(h:∀d∈A,qtv t d=0/\qea t d=some (vgu (qsu t d),0))(hl:A.length<=5) :
  ∃L,qah (qc0 t (A,0)) ([],0)=some (.inl L)/\L.length<=2000/\LocV t.Rows L (vq1 A):=by
 obtain⟨L,e1,e2,e3⟩:=qa0 (β:=List (List Int)) A.length (fun b i=>(b,i)) (qc0 t (A,0)) (fun b=>(Sum.inl b:(List (List Int))⊕(List (List Int)×Int))) (fun k b=>LocV t.Rows b (vq1 (A.take k))/\b.length<=k*343) (b0:=[]) (s0:=([],0)) rfl
  ⟨fun e=>by simp[vq1],by simp⟩
  (fun k b M hI=>by
   obtain⟨i1,i2⟩:=hI;have O:A[k]?=some A[k]:=v52 M;obtain⟨h1,V⟩:=h _ (ubj M);obtain⟨_,U⟩:=q1u h1;have W:=V;have v3:(vgu (qsu t A[k])).length<=343:=v7c (vqq _) (vlv H.few (qx8 U).1.2.1);refine⟨b++vgu (qsu t A[k]),?_,fun e=>?_,by rw[v6b,ucb];omega⟩
   ·simp only[qc0,if_pos (qan O),qad O,v7m,W,bne_self_eq_false,v5k,if_false,RLE (b.length+(vgu (qsu t A[k])).length) 24,if_true,wqn k]
   ·rw[v6k,vd5,vq2 U,i1 e,ub5 M];constructor
    ·rintro(⟨a,I,⟨d,E,Z⟩,J⟩|⟨a,I,⟨d,E,Z⟩,J⟩)
     ·exact⟨a,I,⟨d,v6k.2 (.inl E),Z⟩,J⟩
     ·exact⟨a,I,⟨d,v6k.2 (.inr E),Z⟩,J⟩
    ·rintro⟨a,I,⟨d,E,Z⟩,J⟩;rcases v6k.1 E with E|E
     ·exact .inl ⟨a,I,⟨d,E,Z⟩,J⟩
     ·exact .inr ⟨a,I,⟨d,E,Z⟩,J⟩)
  (fun b _=>by simp[qc0])
 grind
def vg8(t:Table)(l:List Int):Table:=⟨t.Name,t.Attrs,t.Rows.filter fun r=>decide (r.ID∈l)⟩
theorem qnk{r:Row}:r∈(vg8 t l).Rows↔r∈t.Rows/\r.ID∈l:=by
 unfold vg8;rw[v80,decide_eq_true_eq]
theorem vme{a b:Row}(ha:a.Values.length=n)(W:b.Values.length=n)(hn:n<=16)(hs:s<4294967296):∃r,qlf a b (s:Int)=some r/\(r=true↔qw0 n a b s):=by
 obtain⟨o,ho,hT⟩:=qnj (β:=Unit) a.Values.length (fun _ i=>i) (qjt a b (s:Int)) (fun k _=>∀j,j<k->s.testBit j=true->qzv (qdj a j) (qdj b j)=0) (fun o=>(o=.inl ()/\qw0 n a b s)\/(o=.inr false/\¬qw0 n a b s)) (b0:=()) (s0:=0) 0 (v9f _) rfl (fun j hj=>by omega)
  (fun k _ _ O V=>by
   have x1:a.Values[k]?=some a.Values[k]:=v52 O;have x2:b.Values[k]?=some (b.Values[k]'(by omega)):=v52 (by omega);have Z:qdj a k=a.Values[k]:=by unfold qdj;rw[v8i,x1];rfl
   have U:qdj b k=b.Values[k]'(by omega):=by unfold qdj;rw[v8i,x2];rfl
   have hw:v96.wrap ((k:Int)+1)=((k+1:Nat):Int):=qe4 (by omega);simp only[qjt,if_pos (qan x1),if_neg (show ¬(k:Int)<0 by omega),v93,q5e hs (show k<=32 by omega),qad x1,qad x2,v7m,hw];by_cases A:s.testBit k=true
   ·rw [if_pos A];by_cases E:a.Values[k]=b.Values[k]'(by omega)
    ·left;refine⟨(),by rw[if_pos (by rw[E];simp)],fun j hj M=>?_⟩;by_cases I:j=k
     ·subst I;rw[Z,U,qp6];exact E
     ·grind
    ·right;refine⟨.inr false,by
      rw[if_neg];intro h;simp only[v5i,beq_iff_eq]at h;refine E ?_;cases J:a.Values[k] with
      |mk k1 n1 s1 =>
       cases H:b.Values[k]'(by omega) with
       |mk k2 n2 s2=>rw[J,H]at h;simp only at h;rw[h.1,h.2.1,h.2.2],.inr ⟨rfl,fun h=>E ?_⟩⟩
     have:=h k (by omega) A;rw[Z,U,qp6]at this;exact this
   ·rw[if_neg A];left;refine⟨(),rfl,fun j hj M=>?_⟩
    grind)
  (fun _ V=>⟨.inl (),by simp[qjt],.inl ⟨rfl,fun k O W=>V k (by omega) W⟩⟩)
 unfold qlf;rw[ho,v7m];rcases hT with⟨rfl,h⟩|⟨rfl,h⟩
 ·grind
 ·grind
theorem vmf(G:GT t)(few:t.Rows.length<=7)(f:Row->Row->Option Bool)(p:Row->Row->Bool)(hf:∀x∈t.Rows,∀y∈t.Rows,f x y=some (p x y))(J:∀i∈c,i<t.Rows.length)(hcl:c.length<=7)(hi:i<c.length)(hb:b0.length<=1000)(V:∀e∈b0,e.length<=2) :
  ∃b,qah (qgl t f (qys c) (i:Int) ((c[i]:Nat):Int)) (b0,0)=some b/\b.length<=b0.length+7/\(∀e∈b,e.length<=2)/\(b=[]↔b0=[]/\∀y∈c.drop (i+1),p (qlg t c[i]) (qlg t y)=false):=by
 have I:v96.wrap ((i:Int)+1)=((i+1:Nat):Int):=qe4 (by omega);have E:(qys c).length=c.length:=qw1 c;have H:((qys c).drop (i+1)).take ((qys c).length-(i+1))=qys (c.drop (i+1)):=by
  rw[E,v6y (by rw[v6c,E];exact v7a _)];unfold qys;rw[List.map_drop]
 have M:=qpn (J c[i] (ubj _));have U:=qun (J c[i] (ubj _));obtain⟨b,e1,e2,e3,e4⟩:=qa0 (β:=List (List Int)) (c.drop (i+1)).length (fun b i=>(b,i)) (qgl t f (qys c) (i:Int) ((c[i]:Nat):Int)) id (fun j b=>(b=[]↔b0=[]/\∀y∈(c.drop (i+1)).take j,p (qlg t c[i]) (qlg t y)=false)/\b.length<=b0.length+j/\∀e∈b,e.length<=2) (b0:=b0) (s0:=(b0,0)) rfl ⟨by simp,by omega,V⟩
  (fun j b Z hI=>by
   obtain⟨i1,i2,i3⟩:=hI;rw[v6c]at Z;have A:j<(c.drop (i+1)).length:=by rw[v6c];exact Z
   have hy:=qpn (J _ (v6n (ubj A)));have O:=qun (J _ (v6n (ubj A)));have W:(qys (c.drop (i+1)))[j]?=some (((c.drop (i+1))[j]:Nat):Int):=by
    unfold qys;rw[v8n,v52 A];rfl
   have hw:v96.wrap ((j:Int)+1)=((j+1:Nat):Int):=qe4 (by omega);simp only[qgl,I,v93,H,if_pos (qan W),qad W,v7m,qad M,qad hy,hf _ U _ O,hw,RLE (b.length+1) 24,if_true];have htk:(c.drop (i+1)).take (j+1)=(c.drop (i+1)).take j++[(c.drop (i+1))[j]]:=ub5 A
   grind)
  (fun b _=>by
   simp only[qgl,I,v93,H]
   grind)
 grind
theorem vmg(G:GT t)(few:t.Rows.length<=7)(f:Row->Row->Option Bool)(p:Row->Row->Bool)(hf:∀x∈t.Rows,∀y∈t.Rows,f x y=some (p x y))(O:∀i∈c,i<t.Rows.length)(A:c.length<=7)(hb:b0.length<=900)(E:∀e∈b0,e.length<=2) :
  ∃b,qah (qgm t f (qys c)) (b0,0)=some b/\b.length<=b0.length+49/\(∀e∈b,e.length<=2)/\(b=[]↔b0=[]/\c.Pairwise fun x y=>p (qlg t x) (qlg t y)=false):=by
 obtain⟨b,e1,W,e3,e4⟩:=qa0 (β:=List (List Int)) c.length (fun b i=>(b,i)) (qgm t f (qys c)) id (fun k b=>(b=[]↔b0=[]/\∀i (hi:i<c.length),i<k->∀y∈c.drop (i+1),p (qlg t c[i]) (qlg t y)=false)/\b.length<=b0.length+k*7/\∀e∈b,e.length<=2) (b0:=b0) (s0:=(b0,0)) rfl ⟨by simp,by omega,E⟩
  (fun k b J hI=>by
   obtain⟨i1,i2,Z⟩:=hI;have I:(qys c)[k]?=some ((c[k]:Nat):Int):=by
    unfold qys;rw[v8n,v52 J];rfl
   obtain⟨M,q1,q2,q4,q3⟩:=vmf G few f p hf O A J (b0:=b) (by omega) Z;have V:v96.wrap ((k:Int)+1)=((k+1:Nat):Int):=qe4 (by omega);refine⟨M,?_,?_,by omega,q4⟩
   ·simp only[qgm,if_pos (qan I),qad I,v7m,V,if_pos (show(0:Int)<=((k+1:Nat):Int) by omega),if_pos (show((k+1:Nat):Int)<=((qys c).length:Int) by rw[qw1];omega),q1]
   ·grind)
  (fun b _=>by
   simp only[qgm];rw[if_neg (by rw[qw1];omega)];rfl)
 refine⟨b,e1,by omega,e4,?_⟩;rw[W,ubu];constructor
 ·rintro⟨h1,H⟩;refine⟨h1,fun i j hi hj U=>H i hi hi _ ?_⟩;refine ubp.2 ⟨j-(i+1),by rw[v6c];omega,?_⟩
  grind
 ·rintro⟨h1,H⟩;refine⟨h1,fun i hi _ y hy=>?_⟩;obtain⟨j,hj,rfl⟩:=ubp.1 hy
  grind
theorem pw_of{R:Nat->Nat->Prop}(ha:c.Pairwise (· < ·))(h:c.Pairwise R)(hi:i∈c)(H:k∈c)(I:i<k):R i k:=by
 obtain⟨a,ha1,rfl⟩:=ubp.1 hi;obtain⟨b,E,rfl⟩:=ubp.1 H;rcases v9a a b with A|A|A
 ·exact ubu.1 h a b ha1 E A
 ·subst A;omega
 ·have:=ubu.1 ha b a E ha1 A;omega
theorem vmh(n:Nat):(v6s n).Pairwise (· < ·):=ubv
theorem vmi(G:GT t)(few:t.Rows.length<=7)(hs:s<2^t.Attrs.length)(f:Row->Row->Option Bool)(p:Row->Row->Bool)(hf:∀x∈t.Rows,∀y∈t.Rows,f x y=some (p x y)) :
  ∃b,qnh t (s:Int) f=some b/\b.length<=400/\(∀a∈b,a.length<=2)/\(b=[]↔∀i k,i<k->k<t.Rows.length->qw0 t.Attrs.length (qlg t i) (qlg t k) s->p (qlg t i) (qlg t k)=false):=by
 have J:∀c∈vh7 t s,(∀i∈c,i<t.Rows.length)/\c.Pairwise (· < ·)/\∀x∈c,∀y∈c,agN t s x y=true:=fun c A=>by
  obtain⟨x,hx,rfl⟩:=(qvp _ _ c).1 A;refine⟨fun i hi=>v83.1 (v80.1 hi).1,uad.sublist List.filter_sublist (vmh _),fun a ha b U=>?_⟩;have h1:=(v80.1 ha).2;have W:=(v80.1 U).2;rw[decide_eq_true_eq]at h1 W;unfold agN
  grind
 have hcl:∀c∈vh7 t s,c.length<=7:=fun c A=>by
  have:=q8z A
  grind
 have hnl:(vh7 t s).length<=7:=by
  have:=qvr _ (fun i=>q5j s (qlg t i)) (v6s t.Rows.length);rw[uao]at this;unfold vh7;omega
 have H:∀c∈big (vh7 t s),c∈vh7 t s/\2<=c.length:=fun c A=>by
  obtain⟨h1,W⟩:=v80.1 A
  grind
 have Z:(big (vh7 t s)).length<=7:=v7c (ubm _ _) hnl;generalize hL:big (vh7 t s)=L at H Z;obtain⟨b,e1,e2,e3,e4⟩:=qa0 (β:=List (List Int)) L.length (fun b i=>(b,i)) (qir t f (⟨(t.Rows.length:Int),qjv L⟩,0)) id (fun k b=>(b=[]↔∀c∈L.take k,c.Pairwise fun x y=>p (qlg t x) (qlg t y)=false)/\b.length<=k*49/\∀e∈b,e.length<=2) (b0:=[]) (s0:=([],0)) rfl ⟨by simp,by simp,by simp⟩
  (fun k b O hI=>by
   obtain⟨i1,i2,i3⟩:=hI;have hg:(qjv L)[k]?=some (qys L[k]):=by rw[q8y,v52 O];rfl
   obtain⟨hm,_⟩:=H _ (ubj O);obtain⟨M,q1,q2,q4,q3⟩:=vmg G few f p hf (J _ hm).1 (hcl _ hm) (b0:=b) (by omega) i3;have hw:v96.wrap ((k:Int)+1)=((k+1:Nat):Int):=qe4 (by omega);refine⟨M,?_,?_,by omega,q4⟩
   ·simp only[qir,if_pos (qan hg),qad hg,v7m,hw,q1]
   ·rw[q3,i1,ub5 O]
    grind)
  (fun b _=>by
   simp only[qir];rw[if_neg (by rw[qw2];omega)];rfl)
 rw[ub3]at e2;unfold qnh;rw[Of_eq G hs,hL,v7m,e1,v7m];refine⟨b,rfl,by omega,e4,?_⟩;rw[e2];constructor
 ·intro h i k hik O hag;have V:=(vlg G hs (i:=i) (k:=k) (by omega) O).2 hag;have I:(v6s t.Rows.length).filter (fun y=>decide (q5j s (qlg t y)=q5j s (qlg t i)))∈vh7 t s:=(qvp _ _ _).2 ⟨i,v83.2 (by omega),rfl⟩;generalize A:(v6s t.Rows.length).filter (fun y=>decide (q5j s (qlg t y)=q5j s (qlg t i)))=c at I;have hi:i∈c:=by rw[<-A,v80];exact⟨v83.2 (by omega),by simp⟩
  have E:k∈c:=by
   rw[<-A,v80];refine⟨v83.2 O,?_⟩;unfold agN at V
   grind
  have W:2<=c.length:=by
   match c,hi,E with
   |[a],hi,E=>simp at hi E;omega
   |a::b::r,_,_=>simp
  exact pw_of (J c I).2.1 (h c (by rw[<-hL];exact v80.2 ⟨I,by simpa using W⟩)) hi E hik
 ·intro h c A;obtain⟨g1,g2,g3⟩:=J c (H c A).1;refine uad.imp_of_mem (fun {a b} ha U hab=>?_) g2;exact h a b hab (g1 b U) ((vlg G hs (g1 a ha) (g1 b U)).1 (g3 a ha b U))
theorem qpr(l:List Table)(f:Table->Option Bool)(p:Table->Bool)(H:∀x∈l,f x=some (p x))(hl:l.length<=1073741824):qd4 l f=some (vsu (l.findIdx? p)):=by
 have h:=qka l (qca l f) p
  (fun k y A I E=>by simp only[qca,if_pos (qan A),qad A,v7m,H y (v6m A),E,v5k,if_false,qcs I (show l.length<=4611686018427387904 by omega)])
  (fun k y A E=>by simp only[qca,if_pos (qan A),qad A,v7m,H y (v6m A),E,if_true])
  (by simp[qca])
 simp only[qd4,h,v7m];cases l.findIdx? p<;>rfl
theorem vec(t:Table):qii ⟨[t]⟩ t.Name=some (t,true):=by
 unfold qii;have A:=qpr [t] (fun y=>qj7 y t.Name) (fun y=>y.Name==t.Name) (fun x _=>rfl) (by simp);simp only[A,v7m];have e:([t]:List Table).findIdx? (fun y=>y.Name==t.Name)=some 0:=by simp[List.findIdx?_cons]
 rw[e];simp only[vsu];rfl
theorem vq4(s:List UInt8):qii ⟨[]⟩ s=some (⟨[],[],[]⟩,false):=by
 unfold qii;have A:=qpr [] (fun y=>qj7 y s) (fun y=>y.Name==s) (fun x _=>rfl) (by simp);simp only[A,v7m];rfl
theorem q88(t:Table)(H:TableOk t)(E:qdi t=0):qjr ⟨[t]⟩=some 0:=by
 have h1:qe3 ⟨[t]⟩ 0=some (.next 1):=by
  have e:idx ([t]:List Table) 0=some t:=rfl;simp only[qe3,e,v7m,qfr t H,E,v8r,v6e];rw[if_pos (by decide),if_neg (by decide),if_pos (by decide),if_pos (by decide)];simp only[Int.toNat_zero,List.take_zero,vq4,v7m,v5k,if_false];rfl
 have A:qe3 ⟨[t]⟩ 1=some (.done (.inl ())):=by
  simp only[qe3,v8r,v6e]
  grind
 unfold qjr;simp only[v8r,v6e];rw[if_neg (by decide),qas h1,qap A];rfl
theorem vq5(L:List (List Int))(hl:L.length<=2000)(E:∀e∈L,e.length<=3) :
  ∃l,(if((L.length:Nat):Int)>20000 then some (([]:List (List Int)),(3:Int)) else(qxt (fun(a:List Int) (b:List Int)=>qae a b) L).bind fun l=>some (l,0))=some (l,0)/\l.length=L.length/\(l=[]↔L=[]):=by
 obtain⟨l,e,A,_⟩:=veb L (by omega) (fun a ha=>by have:=E a ha;omega);refine⟨l,?_,A.length_eq,?_⟩
 ·grind
 ·have:=A.length_eq
  grind
def Fit2(t:Table)(c:Constraint)(p:List Row->Prop):Prop :=
 (∃A L,qda t c=some (A,0)/\qfy t c=some (L,0)/\L.length<=2000/\LocV t.Rows L p)/\qks ⟨[t]⟩ t c=some 0 /\
  ∃L,qh2 ⟨[t]⟩ c=some (L,0)/\L.length<=2000/\(L=[]↔∀a,Tog t.Rows a->¬p a)
structure TT(n:Nat)(t:Table):Prop where
 dt:DT t
 good:Good t
 gt:GT t
 name:t.Name=[114]
 attrs:t.Attrs.length=n
def UniC(n:Nat)(c:Constraint)(p:List Row->Prop):Prop:=(1<=c.Kind/\c.Kind<=6/\c.Table=[114])/\∀t,TT n t->Fit2 t c p
theorem qw8(hn:n<=16)(A:s<2^n)(a b:Row):qw0 n a b s↔agP n (s:Int) a b=true:=by
 rw[qzy hn A];have I:s<4294967296:=ub8 A (q1h (by omega));constructor
 ·intro h y E;obtain⟨h1,H⟩:=qpk E;exact h y (qmw A E) H
 ·intro h k J M;refine h k ?_;unfold qfs
  grind
theorem vw2{a:Nat}(hn:n<=64)(ha:a<2^n):v90 (a:Int) (2^(min n 64))=0:=by
 rw[v9b hn];have e:((2:Int)^n)=((2^n:Nat):Int):=by simp
 rw[e,ua2 _ (ua6 _),<-ua5,ub6 ha];rfl
theorem v4s(hn:n<=5)(nm:List UInt8){r:Nat}(U:s<2^n)(hr:r<2^n):UniC n (Constraint.mk nm [114] 1 (FD.mk (s:Int) (r:Int)) (FD.mk 0 0) (IND.mk [] [] [] []) (CFD.mk [] 0 []) (OD.mk [] []) (Denial.mk 0 [])) (vq1 (fdL s r)):=by
 refine⟨⟨by simp,by simp,rfl⟩,fun t T=>?_⟩;have I:=T.name;have ha:=T.attrs;subst ha;have few:=T.dt.few;have hp:2^t.Attrs.length<=2^5:=uar (by omega) hn;have hor:s|||r<2^t.Attrs.length:=Nat.or_lt_two_pow U hr;have h32:(2:Nat)^5=32:=by decide
 have hF:=vl0 (n:=t.Attrs.length) (s:=s) (r:=r) (by omega) (by omega) (by omega);rw[if_pos (by unfold fdB;simpa using hor)]at hF;have W:¬(t.Attrs.length:Int)<0:=by omega
 have hT:qda t (Constraint.mk nm [114] 1 (FD.mk (s:Int) (r:Int)) (FD.mk 0 0) (IND.mk [] [] [] []) (CFD.mk [] 0 []) (OD.mk [] []) (Denial.mk 0 []))=some (fdL s r,0):=by
  simp only[qda,I,beq_self_eq_true,if_true,if_neg (show ¬(1:Int)<1 by decide),if_neg (show ¬(1:Int)>6 by decide),if_neg (show ¬((1:Int)==2)=true by decide),if_neg (show ¬((1:Int)==3)=true by decide),if_neg W,
   q3o (show s<4294967296 by omega) (show r<4294967296 by omega),vsz (show t.Attrs.length<=32 by omega) hor,bne_self_eq_false,v5k,if_false,hF,v7m]
 have hlen:(fdL s r).length<=5:=by
  unfold fdL;rw[v6d];have O:qy8 r s<2^t.Attrs.length:=by
   refine Nat.lt_of_le_of_lt ?_ hr;refine Nat.le_of_testBit fun i hi=>?_
   rw[qqv,v5i]at hi;exact hi.1
  have:=q1w (n:=t.Attrs.length) (by omega) O;omega
 obtain⟨L,J,V,hloc⟩:=vmd T.dt (fdL s r) (fun d O=>⟨vd9 T.dt (by omega) U hr d O,vq3 T.dt (by obtain⟨x,_,rfl⟩:=v81.1 O;rfl) (vd9 T.dt (by omega) U hr d O) (by
  obtain⟨x,hx,rfl⟩:=v81.1 O;have:=qtp s;simp only[q20,v6b,v6d,v8s];omega)⟩) hlen
 have hdv:∀d∈fdL s r,d.Vars=2:=fun d O=>by obtain⟨x,_,rfl⟩:=v81.1 O;rfl
 -- the pairs of detect
 let C:Constraint:=Constraint.mk nm [114] 1 (FD.mk (s:Int) (r:Int)) (FD.mk 0 0) (IND.mk [] [] [] []) (CFD.mk [] 0 []) (OD.mk [] []) (Denial.mk 0 [])
 have hag:∀x∈t.Rows,∀y∈t.Rows,qef x y C=some (!agP t.Attrs.length (r:Int) x y):=fun x hx y hy=>by
  obtain⟨b,b1,b2⟩:=vme (n:=t.Attrs.length) ((T.dt.code).1 x hx).1 ((T.dt.code).1 y hy).1 (by omega) (s:=r) (by omega);rw[qw8 (by omega) hr]at b2;have:b=agP t.Attrs.length (r:Int) x y:=v9y.2 b2;subst this;show(qlf x y (r:Int)).bind _=_;rw[b1];rfl
 obtain⟨b,p1,p2,p3,p4⟩:=vmi T.gt few U (fun y z=>qef y z C) (fun x y=>!agP t.Attrs.length (r:Int) x y) hag;obtain⟨l,s1,s2,s3⟩:=vq5 b (by omega) (fun e he=>by have:=p3 e he;omega);refine⟨⟨fdL s r,L,hT,?_,by omega,hloc⟩,?_,l,?_,by omega,s3.trans (p4.trans ?_)⟩
 ·unfold qfy
  grind
 ·have e64:v98.wrap ((s|||r:Nat):Int)=((s|||r:Nat):Int):=vdv (by omega) (by omega);simp only[qks,beq_self_eq_true,if_true,if_neg W,q3o (show s<4294967296 by omega) (show r<4294967296 by omega),e64,vw2 (show t.Attrs.length<=64 by omega) hor]
 ·have hf:=vec t;rw[I]at hf;unfold qh2
  grind
 ·have hpw:=(T.dt.code).2;constructor
  ·rintro h a ⟨g1,_,_,g4⟩ ⟨d,E,Z,d3⟩;rw[hdv d E]at Z
   match a,Z,g1,g4,d3 with
   | [x,y],_,g1,g4,d3 =>
    have hx:=g1 x (by simp);have hy:=g1 y (by simp);have W:x.ID≠y.ID:=by simpa using g4
    have H:fdP t.Attrs.length (s:Int) (r:Int) x y=true:=(vl1 (by omega) U hr x y).1 ⟨d,E,d3⟩;obtain⟨i,hi,hix⟩:=ubp.1 hx;obtain⟨k,M,hky⟩:=ubp.1 hy;have ri:qlg t i=x:=by have:=qpn hi;rw[v52 hi,hix]at this;exact(v9i this).symm
    have rk:qlg t k=y:=by have:=qpn M;rw[v52 M,hky]at this;exact(v9i this).symm
    have two:∀(i k:Nat) (x y:Row),i<k->k<t.Rows.length->qlg t i=x->qlg t k=y->fdP t.Attrs.length (s:Int) (r:Int) x y=true->False:=fun i k x y A M e1 e2 H=>by
     subst e1;subst e2;unfold fdP at H;rw[v5i]at H;have:=h i k A M ((qw8 (by omega) U _ _).2 H.1)
     grind
    rcases v9a i k with A|A|A
    ·grind
    ·grind
    ·exact two k i y x A hi rk ri (by rw[vqw];exact H)
  ·intro h i k A M hagr;cases hq:(!agP t.Attrs.length (r:Int) (qlg t i) (qlg t k)) with
   |false=>rfl
   | true =>
    exfalso;have hi:i<t.Rows.length:=by omega
    have H:fdP t.Attrs.length (s:Int) (r:Int) (qlg t i) (qlg t k)=true:=by
     unfold fdP;rw[(qw8 (by omega) U _ _).1 hagr,hq];rfl
    obtain⟨d,E,Z⟩:=(vl1 (by omega) U hr _ _).2 H;have hlt:=ubu.1 hpw i k hi M A;have ri:qlg t i=t.Rows[i]:=by have:=qpn hi;rw[v52 hi]at this;exact(v9i this).symm
    have rk:qlg t k=t.Rows[k]:=by have:=qpn M;rw[v52 M]at this;exact(v9i this).symm
    exact h [qlg t i,qlg t k] (tog2 (qun hi) (qun M) (by rw[ri,rk];omega)) ⟨d,E,by rw[hdv d E];rfl,Z⟩
def q5t(k:Nat):List UInt8:=[UInt8.ofNat (97+k)]
theorem vw3(E:k<4):qnd (q5t k)=some true:=by
 have A:qld (((UInt8.ofNat (97+k)).toNat:Nat):Int)=some true:=by
  have:∀m:Fin 4,(((UInt8.ofNat (97+m.val)).toNat:Nat):Int)=((97+m.val:Nat):Int):=by decide
  rw[this ⟨k,E⟩];unfold qld
  grind
 have h0:qhz (q5t k) 0=some (.next 1):=by
  have e:idx (q5t k) 0=some (UInt8.ofNat (97+k)):=rfl;simp only[qhz,e,v7m,A,if_true];rw[if_pos (by simp[q5t])];rfl
 have h1:qhz (q5t k) 1=some (.done (.inl ())):=by
  simp only[qhz];rw[if_neg (by simp[q5t])]
 unfold qnd;rw[if_neg (by simp[q5t]),if_neg (by simp[q5t]),if_neg (by simp[q5t])];have e:(q5t k)[0]?=some (UInt8.ofNat (97+k)):=rfl;rw[e,v7m,A,v7m,if_pos rfl,qas h0,qap h1];rfl
theorem vq6(E:j<4)(A:k<4)(h:q5t j=q5t k):j=k:=by
 have:∀a b:Fin 4,q5t a.val=q5t b.val->a=b:=by decide
 have:=this ⟨j,E⟩ ⟨k,A⟩ h
 grind
structure RL(n:Nat)(R:List Constraint)(ps:Nat->List Row->Prop):Prop where
 few:R.length<=4
 at_:∀k c,R[k]?=some c->c.Name=q5t k/\UniC n c (ps k)
def PP(R:List Constraint)(ps:Nat->List Row->Prop)(a:List Row):Prop:=∃k,k<R.length/\ps k a
theorem vq7(T:TT n t)(H:RL n R ps):qne ⟨[t]⟩ R=some (0,0):=by
 have few:=H.few;obtain⟨_,e,_⟩:=qa0 (β:=List (List UInt8×Bool)) R.length (fun b i=>(b,i)) (qjs ⟨[t]⟩ R) (fun _=>(Sum.inl ():Unit⊕(Int×Int))) (fun k b=>∀j,k<=j->j<4->qg3 b (q5t j)=none) (b0:=[]) (s0:=([],0)) rfl (fun j _ _=>rfl)
  (fun k b V W=>by
   have I:R[k]?=some R[k]:=v52 V;obtain⟨A,⟨u1,Z,U⟩,O⟩:=H.at_ k _ I;obtain⟨_,E,_⟩:=O t T;have M:=vec t;rw[T.name]at M;refine⟨qnx b R[k].Name true,?_,fun j hj J=>?_⟩
   ·simp only[qjs,if_pos (qan I),qad I,v7m,A,vw3 (show k<4 by omega),if_true,W k (v7a _) (by omega),Option.getD_none,v5k,if_false,if_neg (show ¬R[k].Kind<1 by omega),if_neg (show ¬R[k].Kind>6 by omega),U,M,E,bne_self_eq_false,wqn k]
   ·rw[qqu,if_neg (by rw[A];exact fun h=>by have:=vq6 J (by omega) h;omega)]
    grind)
  (fun b _=>by simp[qjs])
 unfold qne;rw[q88 t T.dt.ok T.dt.err,v7m,if_neg (by decide),e];rfl
theorem vq8(T:TT n t)(H:RL n R ps):∃b,qni ⟨[t]⟩ R=some (b,0)/\(b=true↔∀a,Tog t.Rows a->¬PP R ps a):=by
 have few:=H.few;obtain⟨A,e,I,i2⟩:=qa0 (β:=List Violation) R.length (fun b i=>(b,i)) (ql0 ⟨[t]⟩ R) (fun b=>(Sum.inl b:(List Violation)⊕(List Violation×Int))) (fun k b=>(b=[]↔∀j,j<k->∀a,Tog t.Rows a->¬ps j a)/\b.length<=k*2000) (b0:=[]) (s0:=([],0)) rfl ⟨by simp,by simp⟩
  (fun k b V hI=>by
   obtain⟨I,i2⟩:=hI;have J:R[k]?=some R[k]:=v52 V;obtain⟨_,_,hu⟩:=H.at_ k _ J;obtain⟨_,_,L,v1,v2,v3⟩:=hu t T;obtain⟨M,q1,Z⟩:=qa0 (β:=List Violation) L.length (fun b i=>(b,i)) (qlz (k:Int) (L,0)) id (fun m M=>M=b++(L.take m).map (Violation.mk (k:Int))) (b0:=b) (s0:=(b,0)) rfl (by simp)
    (fun m M W O=>by
     subst O;have E:L[m]?=some L[m]:=v52 W;refine⟨_,?_,by rw[ub5 W,v6h,<-v5r]⟩;simp only[qlz,if_pos (qan E),qad E,v7m,qc3 (show(b++(L.take m).map (Violation.mk (k:Int))).length+1<=1073741824 by rw[v6b,v6d,v6g];omega) (show 32<=65536 by omega),if_true,wqn m];rfl)
    (fun b _=>by simp[qlz])
   rw[ub3]at Z;subst Z;refine⟨b++L.map (Violation.mk (k:Int)),?_,?_,by rw[v6b,v6d];omega⟩
   ·simp only[ql0,if_pos (qan J),qad J,v7m,v1,bne_self_eq_false,v5k,if_false,q1,id,wqn k]
   ·rw[List.append_eq_nil_iff,List.map_eq_nil_iff,I,v3]
    grind)
  (fun b _=>by simp[ql0])
 have hA:qqt ⟨[t]⟩ R=some (A,0):=by
  unfold qqt;rw[vq7 T H,v7m,if_neg (by decide),e];rfl
 refine⟨((A.length:Int)==0),?_,?_⟩
 ·unfold qni
  grind
 ·have:(((A.length:Int)==0)=true)↔A=[]:=by
   rw[beq_iff_eq];constructor
   ·intro h;exact ubl.1 (by omega)
   ·grind
  rw[this,I];constructor
  ·rintro h a ha ⟨k,V,U⟩
   grind
  ·intro h j hj a ha U;exact h a ha ⟨j,hj,U⟩
theorem vw4(H:DT t)(ha:Tog t.Rows a):E3 (qq8 a):=by
 obtain⟨h1,J,I,M⟩:=ha;have O:(qq8 a).Perm (a.map Row.ID):=qte _;refine⟨?_,by rw[qw3];exact I,?_,fun x E=>?_⟩
 ·intro e;have:=qw3 a
  grind
 ·have A:(qq8 a).Pairwise (fun a b=>a<=b):=q0w _;have hn:(qq8 a).Nodup:=by
   grind
  exact uad.imp (fun {a b} h=>by obtain⟨p,q⟩:=h;omega) (A.and hn)
 ·obtain⟨r,hr,rfl⟩:=(qzz a x).1 E;exact((H.code).1 r (h1 r hr)).2.2
theorem vw5{m:List Int}(hl:E3 l)(J:E3 m)(H:∀x∈m,x∈l)(A:m≠l):m.length<l.length:=by
 rcases hl.shape with⟨a,rfl,I⟩|⟨a,b,rfl,I,E⟩|⟨x,y,z,rfl,I,E,M⟩
 ·exact absurd (sub1 J H) A
 ·rcases sub2 J E H with rfl|rfl|rfl
  ·simp
  ·simp
  ·grind
 ·rcases sub3 J E M H with rfl|rfl|rfl|rfl|rfl|rfl|rfl<;>first|exact absurd rfl A|simp
theorem ved{A E:List (List Int)}(H:∀e∈A,E3 e)(O:∀e,e∈E↔e∈A/\¬vwx A e):∀(n:Nat) (v:List Int),v.length<=n->v∈A->∃e∈E,∀x∈e,x∈v
 |0,v,hn,hv=>absurd (ubl.1 (by omega)) (H v hv).1
 |n+1,v,hn,hv=>by
  by_cases J:vwx A v
  ·obtain⟨m,M,U,W⟩:=J;have:=vw5 (H v hv) (H m M) U W;obtain⟨e,Z,V⟩:=ved H O n m (by omega) M;exact⟨e,Z,fun x I=>U x (V x I)⟩
  ·exact⟨v,(O v).2 ⟨hv,J⟩,fun x I=>I⟩
theorem vee(T:TT n t)(H:RL n R ps) :
  ∃E,qg7 t R=some (⟨t.Rows.map Row.ID,E⟩,0)/\HV (t.Rows.map Row.ID) E/\(∀e∈E,e.length<=3)/\∀l,(∀x∈l,x∈t.Rows.map Row.ID)->(v4n (t.Rows.map Row.ID) E l=true↔∀a,Tog (vg8 t l).Rows a->¬PP R ps a):=by
 have few:=T.dt.few;have h4:=H.few;have e1:qah (qfm t R) 0=some (.inl ()):=by
  obtain⟨_,e,_⟩:=qa0 (β:=Unit) R.length (fun _ i=>i) (qfm t R) (fun _=>(Sum.inl ():Unit⊕(Hypergraph×Int))) (fun _ _=>True) (b0:=()) (s0:=0) rfl trivial
   (fun k _ Z _=>by
    have O:R[k]?=some R[k]:=v52 Z;obtain⟨_,_,hu⟩:=H.at_ k _ O;obtain⟨⟨A,L,f1,_⟩,_⟩:=hu t T;refine⟨(),?_,trivial⟩;simp only[qfm,if_pos (qan O),qad O,v7m,f1,bne_self_eq_false,v5k,if_false,wqn k])
   (fun _ _=>by simp[qfm])
  exact e
 obtain⟨W,e2,I,a2⟩:=qa0 (β:=List (List Int)) R.length (fun b i=>(b,i)) (qht t R) (fun b=>(Sum.inl b:(List (List Int))⊕(Hypergraph×Int))) (fun k b=>LocV t.Rows b (fun a=>∃j,j<k/\ps j a)/\b.length<=k*2000) (b0:=[]) (s0:=([],0)) rfl ⟨fun e=>by simp,by simp⟩
  (fun k b Z hI=>by
   obtain⟨i1,i2⟩:=hI;have O:R[k]?=some R[k]:=v52 Z;obtain⟨_,_,hu⟩:=H.at_ k _ O;obtain⟨⟨A,L,f1,f2,f3,f4⟩,_⟩:=hu t T;refine⟨b++L,?_,fun e=>?_,by rw[v6b,ucb];omega⟩
   ·simp only[qht,if_pos (qan O),qad O,v7m,f2,bne_self_eq_false,v5k,if_false,RLE (b.length+L.length) 24,if_true,wqn k]
   ·rw[v6k,i1 e,f4 e]
    grind)
  (fun b _=>by simp[qht])
 have U:∀e∈W,E3 e:=fun e M=>by
  obtain⟨a,ha,_,rfl⟩:=(I e).1 M;exact vw4 T.dt ha
 obtain⟨E,e3,b1,b2,b3⟩:=vg7 W (by omega) U;obtain⟨V,e4,v1⟩:=qa0 (β:=List Int) t.Rows.length (fun b i=>(b,i)) (qhu t) id (fun k b=>b=(t.Rows.take k).map Row.ID) (b0:=[]) (s0:=([],0)) rfl (by simp)
  (fun k b Z hI=>by
   subst hI;have O:t.Rows[k]?=some t.Rows[k]:=v52 Z;refine⟨(t.Rows.take k).map Row.ID++[t.Rows[k].ID],?_,?_⟩
   ·simp only[qhu,if_pos (qan O),qad O,v7m,qmt (show((t.Rows.take k).map Row.ID).length+1<=17592186044416 by rw[v6d,v6g];omega),if_true,wqn k]
   ·have e:t.Rows.take (k+1)=t.Rows.take k++[t.Rows[k]]:=by rw[ub1,O];rfl
    grind)
  (fun b _=>by simp[qhu])
 rw[ub3]at v1;subst v1;have hVasc:(t.Rows.map Row.ID).Pairwise (· < ·):=ubw.2 (T.dt.code).2;have J:∀e∈E,e∈W:=fun e M=>((b3 e).1 M).1
 have hsub:∀e∈W,∀x∈e,x∈t.Rows.map Row.ID:=fun e M x O=>by
  obtain⟨a,ha,_,rfl⟩:=(I e).1 M;obtain⟨r,hr,rfl⟩:=(qzz a x).1 O;exact v81.2 ⟨r,ha.1 r hr,rfl⟩
 refine⟨E,?_,⟨⟨hVasc,by rw[v6d];omega,by omega,fun e M=>(U e (J e M)).2.2.1,fun e M=>(U e (J e M)).1,fun e M=>hsub e (J e M)⟩,b1,?_⟩,fun e M=>(U e (J e M)).2.1,fun l hl=>?_⟩
 ·unfold qg7;rw[qfr t T.dt.ok,v7m,T.dt.err]
  grind
 ·intro i k a b hi Z hik;have hnd:=q3v b1;have hab:b≠a:=fun h=>by
   subst h;obtain⟨hil,hie⟩:=v56.1 hi;obtain⟨hkl,hke⟩:=v56.1 Z;exact hik ((List.getElem_inj hnd).1 (hie.trans hke.symm))
  obtain⟨_,na⟩:=(b3 a).1 (v6m hi);by_cases h:∃x,x∈b/\x ∉ a
  ·exact h
  ·exfalso;refine na ⟨b,J b (v6m Z),fun x O=>?_,hab⟩
   grind
 ·have hind:v4n (t.Rows.map Row.ID) E l=true↔∀e∈E,¬∀x∈e,x∈l:=by
   unfold v4n
   grind
  rw[hind];constructor
  ·rintro h a ⟨g1,g2,g3,g4⟩ hp;have hT:Tog t.Rows a:=⟨fun r hr=>(qnk.1 (g1 r hr)).1,g2,g3,g4⟩;have hv:=(I (qq8 a)).2 ⟨a,hT,hp,rfl⟩;obtain⟨e,M,hes⟩:=ved U b3 _ _ (v7a _) hv;refine h e M fun x O=>?_
   obtain⟨r,hr,rfl⟩:=(qzz a x).1 (hes x O);exact(qnk.1 (g1 r hr)).2
  ·intro h e M hall;obtain⟨a,⟨g1,g2,g3,g4⟩,hp,rfl⟩:=(I e).1 (J e M);exact h a ⟨fun r hr=>qnk.2 ⟨g1 r hr,hall _ ((qzz a _).2 ⟨r,hr,rfl⟩)⟩,g2,g3,g4⟩ hp
end Go.Proofs.YtijpapagpebllaaGreatDoor
namespace Go.Proofs.YtijpapagpebllaaGreatDoor
open Go Go.Ab
variable {n i k m a R j v:Nat} {t:Table} {es:List (List Nat)} {kn:List (Option Value)} {fds:List FD} {F:List ((Nat->Bool)×(Nat->Bool))} {M e p J S:List Nat} {cells A K:List CellRef} {r:Nat->Nat} {H:Nat->Bool} {f:Nat->Int} {V:Nat->Value} {l:List Int} {P:Prop}
theorem qb7(p:List Nat):(qa6 p).length=p.length:=by simp[qa6]
theorem q3w(p:List Nat)(a b:Nat):(qa6 p).set a (b:Int)=qa6 (p.set a b):=by unfold qa6;rw[ubo]
theorem qen{A:Type}{l:List A}(d:A)(h:i<l.length):l[i]?=some (l.getD i d):=by rw[v8i,v52 h];rfl
theorem q89{N:Nat}(h:RK m p r)(hi:i<m):qbn ⟨(N:Int),qa6 p,kn⟩ (i:Int)=some ((r i:Nat):Int):=by
 have key:qah (qd2 ⟨(N:Int),qa6 p,kn⟩) (i:Int)=some ((r i:Nat):Int):=by
  obtain⟨k,H⟩:=h.rk;generalize I:k i=q
  induction q using v9d generalizing i with
  | _ q ih =>
   subst I;have E:=qrx (qw5 (p:=p) (i:=i) (by rw[h.len];exact hi));by_cases e:p.getD i 0=i
   ·rw[h.fx i hi e];exact qap (by simp only[qd2,qad E,v7m,e,bne_self_eq_false,v5k,if_false])
   ·have A:(((p.getD i 0:Nat):Int) != (i:Int))=true:=by rw[bne_iff_ne];omega
    rw[qas (s':=((p.getD i 0:Nat):Int)) (by simp only[qd2,qad E,v7m,A,if_true]),ih _ (H i hi e) (h.pl i hi) rfl,h.st i hi]
 rw[qbn,key];rfl
theorem v4t{N:Nat}(h:CK m kn p r)(hi:i<m)(A:k<m) :
  ∃b,qfw ⟨(N:Int),qa6 p,kn⟩ (i:Int) (k:Int)=some b/\(b=true↔qw7 kn r i k):=by
 have H:=qen (l:=kn) (i:=r i) none (by rw[h.kl];exact h.lt _ hi);have E:=qen (l:=kn) (i:=r k) none (by rw[h.kl];exact h.lt _ A);simp only[qfw,q89 h.toRK hi,q89 h.toRK A,v7m,qad H,qad E];unfold qw7;by_cases e:r i=r k
 ·exact⟨true,by simp[e],by simp[e]⟩
 ·have I:¬((((r i:Nat):Int))==(((r k:Nat):Int)))=true:=by rw[beq_iff_eq];omega
  rw[if_neg I];cases M:kn.getD (r i) none with
  |none=>exact⟨false,rfl,by grind⟩
  | some v =>
   cases J:kn.getD (r k) none with
   |none=>exact⟨false,rfl,by grind⟩
   |some w =>
    simp only[ucd,if_true,v7m,qit];refine⟨_,rfl,?_⟩;rw[beq_iff_eq,qp6];grind
theorem q1y(h:i*n+a<4611686018427387904):v96.wrap ((v96.wrap ((i:Int)*(n:Int)))+(a:Int))=((i*n+a:Nat):Int):=by
 have e:(i:Int)*(n:Int)=((i*n:Nat):Int):=by simp
 have w:v96.wrap ((i*n:Nat):Int)=((i*n:Nat):Int):=qbg (by omega) (by omega);rw[e,w,qbg (by omega) (by omega)];omega
theorem qh3(hi:i<R)(ha:a<n):i*n+a<R*n:=by
 have:i*n+n<=R*n:=by rw[<-ucb];exact v7h n hi
 omega
def vzy{A:Type}(n:Nat)(kn:List (Option A))(r:Nat->Nat)(S:Nat->Bool)(i k:Nat):Prop:=∀a,a<n->S a=true->qw7 kn r (i*n+a) (k*n+a)
theorem vmj(h:CK m kn p r)(U:m=R*n)(hm2:m<=1000000)(hn2:n<=32)(s:Nat)(Z:s<4294967296)(hi:i<R)(W:k<R) :
  ∃b,qcb ⟨(n:Int),qa6 p,kn⟩ (i:Int) (k:Int) (s:Int)=some b/\(b=true↔vzy n kn r (fun a=>s.testBit a) i k):=by
 have key:∃o,qah (qdp ⟨(n:Int),qa6 p,kn⟩ (i:Int) (k:Int) (s:Int)) 0=some o/\((o=.inl ()/\vzy n kn r (fun a=>s.testBit a) i k)\/(o=.inr false/\¬vzy n kn r (fun a=>s.testBit a) i k)):=by
  refine qnj n (fun(_:Unit) x=>x) _ (fun a _=>∀b,b<a->s.testBit b=true->qw7 kn r (i*n+b) (k*n+b)) _ (b0:=()) 0 (v9f _) rfl (fun b A=>absurd A (ub9 _)) (fun a _ _ ha V=>?_) (fun _ V=>⟨.inl (),by simp[qdp],Or.inl ⟨rfl,fun a ha A=>V a ha A⟩⟩);have J:i*n+a<m:=by rw[U];exact qh3 hi ha
  have O:k*n+a<m:=by rw[U];exact qh3 W ha
  obtain⟨b,s1,s2⟩:=v4t (N:=n) h J O;have H:((a:Int)<((n:Nat):Int)):=by omega
  simp only[qdp,if_pos H,if_neg (show ¬(a:Int)<0 by omega),v93,q5e Z (show a<=32 by omega),q1y (show i*n+a<4611686018427387904 by omega),q1y (show k*n+a<4611686018427387904 by omega),wqn a,s1,v7m];by_cases A:s.testBit a=true
  ·rw[if_pos A];cases b with
   |true=>exact Or.inl ⟨(),rfl,fun b M I=>by grind⟩
   |false=>exact Or.inr ⟨_,rfl,Or.inr ⟨rfl,fun hA=>absurd (s2.2 (hA a ha A)) (by simp)⟩⟩
  ·rw[if_neg A];exact Or.inl ⟨(),rfl,fun b M I=>by grind⟩
 obtain⟨o,h1,E⟩:=key;rw[qcb,h1];rcases E with⟨rfl,E⟩|⟨rfl,E⟩
 ·exact⟨true,rfl,by simpa using E⟩
 ·exact⟨false,rfl,by simpa using E⟩
def vb3{A:Type}(m n R:Nat)(F:List ((Nat->Bool)×(Nat->Bool)))(kn:List (Option A))(V:Nat->A):Prop:=v4o m kn V/\v4p n R F V
theorem vb4{A:Type}{kn:List (Option A)}{b:Nat}(E:kn.getD b none=none)(h:qw7 kn r i k):qw7 kn (qvt r a b) i k:=by
 have m:∀x,qvt r a b x=if r x=b then a else r x:=fun _=>rfl
 unfold qw7;rw[m,m];rcases h with e|⟨v,I,H⟩
 ·left;rw[e]
 ·grind
theorem vg9(h:p.getD a 0=a)(hl:a<p.length):p.set a a=p:=by
 apply v5y
 grind
theorem v4u{A:Nat->Nat}(h:CK m kn J A)(hf:vwv m n R F kn A)(hm:m=R*n)(hm2:m<=1000000)(hn2:n<=32)(t:Table)(ht:t.Attrs.length=n)(s q:Nat)(hq:q<4294967296)(hi:i<R)(hk:k<R)
  (hV:∀V,vb3 m n R F kn V->∀a,a<n->q.testBit a=true->V (i*n+a)=V (k*n+a)) :
  ∃o,qah (qev t kn ⟨(s:Int),(q:Int)⟩ (i:Int) (k:Int)) (qa6 J,0)=some o /\
   ((∃p r,o=.inl (qa6 p)/\CK m kn p r/\vwv m n R F kn r/\vzy n kn r (fun a=>q.testBit a) i k/\((p=J/\r=A)\/vg1 m p<vg1 m J))\/(∃p,o=.inr (qa6 p)/\p.length=m/\∀V,¬vb3 m n R F kn V)):=by
 refine qnj n (fun(p:List Nat) x=>(qa6 p,x)) (qev t kn ⟨(s:Int),(q:Int)⟩ (i:Int) (k:Int)) (fun a p=>∃r,CK m kn p r/\vwv m n R F kn r/\(∀b,b<a->q.testBit b=true->qw7 kn r (i*n+b) (k*n+b))/\((p=J/\r=A)\/vg1 m p<vg1 m J)) _ (b0:=J) 0 (v9f _) rfl ⟨A,h,hf,fun b hb=>absurd hb (ub9 _),Or.inl ⟨rfl,rfl⟩⟩ (fun a p _ ha hI=>?_) (fun p hI=>?_)
 ·obtain⟨r,E,W,c3,c4⟩:=hI;have I:i*n+a<m:=by rw[hm];exact qh3 hi ha
  have H:k*n+a<m:=by rw[hm];exact qh3 hk ha
  have lt1:((a:Int)<((n:Nat):Int)):=by omega
  simp only[qev,if_pos lt1,if_neg (show ¬(a:Int)<0 by omega),v93,q5e hq (show a<=32 by omega),ht,q1y (show i*n+a<4611686018427387904 by omega),q1y (show k*n+a<4611686018427387904 by omega),wqn a];by_cases hb:q.testBit a=true
  ·have h1:=q89 (N:=n) (kn:=kn) E.toRK I;have h2:=q89 (N:=n) (kn:=kn) E.toRK H;rw[if_pos hb,h1,v7m,h2,v7m];have la:=E.lt _ I;have lb:=E.lt _ H;have ia:=E.idem I;have ib:=E.idem H;have sa:=E.self la ia;have sb:=E.self lb ib;have g1:=qen (l:=kn) (i:=r (i*n+a)) none (by rw[E.kl];exact la);have g2:=qen (l:=kn) (i:=r (k*n+a)) none (by rw[E.kl];exact lb);have x1:=qrx (qw5 (p:=p) (i:=r (i*n+a)) (by rw[E.len];exact la));have x2:=qrx (qw5 (p:=p) (i:=r (k*n+a)) (by rw[E.len];exact lb));simp only[qad g1,qad g2,qad x1,qad x2,v7m]
   -- a class without a value comes under another one
   have key:∀a' M,(a'=r (i*n+a)/\M=r (k*n+a))\/(a'=r (k*n+a)/\M=r (i*n+a))->kn.getD M none=none ->
     ∃r',CK m kn (p.set M a') r'/\vwv m n R F kn r'/\(∀b,b<a+1->q.testBit b=true->qw7 kn r' (i*n+b) (k*n+b))/\(((p.set M a')=J/\r'=A)\/vg1 m (p.set M a')<vg1 m J):=by
    intro a' M O hkn;have la':a'<m:=by rcases O with⟨e,_⟩|⟨e,_⟩<;>rw[e]<;>assumption
    have lb':M<m:=by rcases O with⟨_,e⟩|⟨_,e⟩<;>rw[e]<;>assumption
    have ra':r a'=a':=by rcases O with⟨e,_⟩|⟨e,_⟩<;>rw[e]<;>assumption
    have rb':r M=M:=by rcases O with⟨_,e⟩|⟨_,e⟩<;>rw[e]<;>assumption
    have sb':p.getD M 0=M:=by rcases O with⟨_,e⟩|⟨_,e⟩<;>rw[e]<;>assumption
    by_cases U:a'=M
    ·subst U;rw[vg9 sb' (by rw[E.len];exact lb')];refine⟨r,E,W,fun b hb1 hb2=>?_,c4⟩;by_cases e:b=a
     ·subst e;left
      grind
     ·grind
    ·refine⟨qvt r a' M,E.merge la' lb' ra' rb' U hkn,fun V e1 e2=>vl7 (W V e1 e2) ?_,fun b hb1 hb2=>?_,Or.inr ?_⟩
     ·have:=hV V ⟨e1,e2⟩ a ha hb;have w1:=W V e1 e2 _ I;have w2:=W V e1 e2 _ H
      grind
     ·by_cases e:b=a
      ·subst e;refine vg3 ?_ U
       grind
      ·exact vb4 hkn (c3 b (by omega) hb2)
     ·have:=vg2 (m:=m) (a:=a') E.len lb' sb' U
      grind
   cases u1:kn.getD (r (i*n+a)) none with
   |none =>
    simp only[ucc,v5k,if_false,v7m,q3w,qb7,v6f,if_true];exact Or.inl ⟨_,rfl,key _ _ (Or.inr ⟨rfl,rfl⟩) u1⟩
   | some v =>
    simp only[ucd,if_true,v7m];cases u2:kn.getD (r (k*n+a)) none with
    |none =>
     simp only[ucc,v5k,if_false,v7m,q3w,qb7,v6f,if_true];exact Or.inl ⟨_,rfl,key _ _ (Or.inl ⟨rfl,rfl⟩) u2⟩
    | some w =>
     simp only[ucd,if_true,v7m,qit];by_cases e3:v=w
     ·have:(qzv v w==0)=true:=by rw[beq_iff_eq,qp6];exact e3
      rw[if_pos this];refine Or.inl ⟨p,rfl,r,E,W,fun b hb1 hb2=>?_,c4⟩;by_cases e:b=a
      ·subst e e3;exact Or.inr ⟨v,u1,u2⟩
      ·grind
     ·have:¬(qzv v w==0)=true:=by rw[beq_iff_eq,qp6];exact e3
      rw[if_neg this];refine Or.inr ⟨.inr (qa6 p),rfl,Or.inr ⟨p,rfl,E.len,fun V Z=>e3 ?_⟩⟩;have:=hV V Z a ha hb;rw[W V Z.1 Z.2 _ I,W V Z.1 Z.2 _ H,Z.1 _ la v u1,Z.1 _ lb w u2]at this;exact this
  ·grind
 ·obtain⟨r,E,W,c3,c4⟩:=hI;exact⟨.inl (qa6 p),by simp[qev,ht],Or.inl ⟨p,r,rfl,E,W,fun a ha hb=>c3 a ha hb,c4⟩⟩
def vb5{H:Type}(m n R:Nat)(F:List ((Nat->Bool)×(Nat->Bool)))(kn:List (Option H))(J:List Nat)(A:Nat->Nat)(P:Prop)(p:List Nat)(E:Bool):Prop :=
 ∃r,CK m kn p r/\vwv m n R F kn r/\((E=false/\p=J/\r=A/\P)\/(E=true/\vg1 m p<vg1 m J))
def okK{A:Type}(n:Nat)(kn:List (Option A))(r:Nat->Nat)(f:(Nat->Bool)×(Nat->Bool))(i k:Nat):Prop:=vzy n kn r f.1 i k->vzy n kn r f.2 i k
def qk3(f:FD):(Nat->Bool)×(Nat->Bool):=(fun a=>f.Lhs.toNat.testBit a,fun a=>f.Rhs.toNat.testBit a)
def outK{H:Type}(m n R:Nat)(F:List ((Nat->Bool)×(Nat->Bool)))(kn:List (Option H))(J:List Nat)(A:Nat->Nat)(P:Prop)(o:(List Int×Bool)⊕List Int):Prop :=
 (∃p E,o=.inl (qa6 p,E)/\vb5 m n R F kn J A P p E)\/(∃p,o=.inr (qa6 p)/\p.length=m/\∀V,¬vb3 m n R F kn V)
theorem vmk{A:Nat->Nat}(hm:m=R*n)(W:m<=1000000)(hR:R<=1000000)(hn2:n<=32)(t:Table)(ht:t.Attrs.length=n)(s q:Nat)(hs:s<4294967296)(hq:q<4294967296)(hF:qk3 ⟨(s:Int),(q:Int)⟩∈F)(hi:i<R){p1:List Nat}{g1:Bool}(h1:vb5 m n R F kn J A P p1 g1) :
  ∃o,qah (qew t kn ⟨(s:Int),(q:Int)⟩ (i:Int)) (qa6 p1,g1,0)=some o/\outK m n R F kn J A (P/\∀k,k<i->okK n kn A (qk3 ⟨(s:Int),(q:Int)⟩) i k) o:=by
 refine qnj i (fun(b:List Nat×Bool) x=>(qa6 b.1,b.2,x)) (qew t kn ⟨(s:Int),(q:Int)⟩ (i:Int)) (fun k b=>vb5 m n R F kn J A (P/\∀k',k'<k->okK n kn A (qk3 ⟨(s:Int),(q:Int)⟩) i k') b.1 b.2) _ (b0:=(p1,g1)) 0 (v9f _) rfl ?_ (fun k b _ hk hI=>?_) (fun b hI=>?_)
 ·obtain⟨r,c1,c2,c3⟩:=h1;refine⟨r,c1,c2,c3.imp (fun⟨a,b,c,d⟩=>⟨a,b,c,d,fun k hk=>absurd hk (ub9 _)⟩) id⟩
 ·obtain⟨p,g⟩:=b;obtain⟨r,c1,c2,c3⟩:=hI;obtain⟨U,I,a2⟩:=vmj c1 hm W hn2 s hs hi (ub8 hk hi);obtain⟨O,b1,b2⟩:=vmj c1 hm W hn2 q hq hi (ub8 hk hi);have lt1:((k:Int)<(i:Int)):=by omega
  simp only[qew,if_pos lt1,ht,I,v7m,wqn k];have step:okK n kn r (qk3 ⟨(s:Int),(q:Int)⟩) i k->∃M:List Nat×Bool,some (LS.next (qa6 p,g,((k+1:Nat):Int)):LS (List Int×Bool×Int) ((List Int×Bool)⊕List Int))=some (.next (qa6 M.1,M.2,((k+1:Nat):Int)))/\vb5 m n R F kn J A (P/\∀k',k'<k+1->okK n kn A (qk3 ⟨(s:Int),(q:Int)⟩) i k') M.1 M.2:=fun hok=>by
   refine⟨(p,g),rfl,r,c1,c2,c3.imp (fun⟨a,b,c,d,e⟩=>⟨a,b,c,d,fun k' hk'=>?_⟩) id⟩
   grind
  cases U with
  | true =>
   have a2:=a2.1 rfl;simp only[if_true,b1,v7m];cases O with
   |true=>exact Or.inl (step fun _=>b2.1 rfl)
   | false =>
    have hV:∀V,vb3 m n R F kn V->∀a,a<n->q.testBit a=true->V (i*n+a)=V (k*n+a):=fun V hg a ha hb=>by
     refine hg.2 _ hF i k hi hk (fun a' H hb'=>?_) a ha (by simpa[qk3] using hb);exact vq0 c1 hg.1 (c2 V hg.1 hg.2) (by rw[hm];exact qh3 hi H) (by rw[hm];exact qh3 (ub8 hk hi) H) (a2 a' H (by simpa[qk3] using hb'))
    obtain⟨o3,E,Z⟩:=v4u c1 c2 hm W hn2 t ht s q hq hi (ub8 hk hi) hV;simp only[v5k,if_false,E,v7m];rcases Z with⟨p',r',rfl,d3,d4,d5,d6⟩|⟨p',rfl,d3,d4⟩
    ·refine Or.inl ⟨(p',true),rfl,r',d3,d4,Or.inr ⟨rfl,?_⟩⟩
     grind
    ·exact Or.inr ⟨.inr (qa6 p'),rfl,Or.inr ⟨p',rfl,d3,d4⟩⟩
  |false =>
   refine Or.inl (step fun hA=>absurd (a2.2 ?_) (by simp));simpa[qk3] using hA
 ·exact⟨.inl (qa6 b.1,b.2),by simp[qew],Or.inl ⟨b.1,b.2,rfl,hI⟩⟩
theorem vml{A:Nat->Nat}(hm:m=R*n)(V:m<=1000000)(hR:R<=1000000)(hn2:n<=32)(t:Table)(ht:t.Attrs.length=n)(hr:t.Rows.length=R)(s q:Nat)(hs:s<4294967296)(hq:q<4294967296)(hF:qk3 ⟨(s:Int),(q:Int)⟩∈F){W:List Nat}{O:Bool}(h1:vb5 m n R F kn J A P W O) :
  ∃o,qah (qex t kn ⟨(s:Int),(q:Int)⟩) (qa6 W,O,0)=some o/\outK m n R F kn J A (P/\∀i,i<R->∀k,k<i->okK n kn A (qk3 ⟨(s:Int),(q:Int)⟩) i k) o:=by
 refine qnj R (fun(b:List Nat×Bool) x=>(qa6 b.1,b.2,x)) (qex t kn ⟨(s:Int),(q:Int)⟩) (fun i b=>vb5 m n R F kn J A (P/\∀H,H<i->∀k,k<H->okK n kn A (qk3 ⟨(s:Int),(q:Int)⟩) H k) b.1 b.2) _ (b0:=(W,O)) 0 (v9f _) rfl ?_ (fun i b _ hi hI=>?_) (fun b hI=>?_)
 ·obtain⟨r,c1,c2,U⟩:=h1;refine⟨r,c1,c2,U.imp (fun⟨a,b,c,d⟩=>⟨a,b,c,d,fun k hk=>absurd hk (ub9 _)⟩) id⟩
 ·obtain⟨o,I,a2⟩:=vmk hm V hR hn2 t ht s q hs hq hF hi hI;have M:((i:Int)<((t.Rows.length:Nat):Int)):=by rw[hr];omega
  simp only[qex,if_pos M,I,v7m,wqn i];rcases a2 with⟨p,g,rfl,r,c1,c2,U⟩|⟨p,rfl,a3,a4⟩
  ·refine Or.inl ⟨(p,g),rfl,r,c1,c2,U.imp (fun⟨a,b,c,⟨E,Z⟩,e⟩=>⟨a,b,c,E,fun H hi' k hk=>?_⟩) id⟩
   grind
  ·exact Or.inr ⟨.inr (qa6 p),rfl,Or.inr ⟨p,rfl,a3,a4⟩⟩
 ·exact⟨.inl (qa6 b.1,b.2),by simp[qex,hr],Or.inl ⟨b.1,b.2,rfl,hI⟩⟩
def fdsN(fds:List FD):Prop:=fds.length<=1000000/\∀f∈fds,∃s q:Nat,f=⟨(s:Int),(q:Int)⟩/\s<4294967296/\q<4294967296
theorem vmm{A:Nat->Nat}(H:fdsN fds)(hm:m=R*n)(O:m<=1000000)(hR:R<=1000000)(hn2:n<=32)(t:Table)(ht:t.Attrs.length=n)(hr:t.Rows.length=R)(h0:CK m kn J A)(U:vwv m n R (fds.map qk3) kn A) :
  ∃o,qah (qey t fds kn) (qa6 J,false,0)=some o/\outK m n R (fds.map qk3) kn J A (∀f∈fds.map qk3,∀i,i<R->∀k,k<i->okK n kn A f i k) o:=by
 refine qnj fds.length (fun(b:List Nat×Bool) x=>(qa6 b.1,b.2,x)) (qey t fds kn) (fun j b=>vb5 m n R (fds.map qk3) kn J A (∀f∈(fds.take j).map qk3,∀i,i<R->∀k,k<i->okK n kn A f i k) b.1 b.2) _ (b0:=(J,false)) 0 (v9f _) rfl ⟨A,h0,U,Or.inl ⟨rfl,rfl,rfl,fun f W=>(by simp at W)⟩⟩ (fun j b _ hj V=>?_) (fun b V=>?_)
 ·have M:fds[j]?=some fds[j]:=v52 hj;obtain⟨s,q,e,hs,hq⟩:=H.2 _ (ubj hj);have hF:qk3 ⟨(s:Int),(q:Int)⟩∈fds.map qk3:=by rw[<-e];exact v81.2 ⟨_,ubj hj,rfl⟩
  obtain⟨o,I,a2⟩:=vml hm O hR hn2 t ht hr s q hs hq hF V;have hl:=H.1;simp only[qey,if_pos (qan M),qad M,v7m,e,I,wqn j];rcases a2 with⟨p,g,rfl,r,c1,c2,c3⟩|⟨p,rfl,a3,a4⟩
  ·refine Or.inl ⟨(p,g),rfl,r,c1,c2,c3.imp (fun⟨a,b,c,E,Z⟩=>⟨a,b,c,fun f W=>?_⟩) id⟩;rw[qbv M,v6h,v6k]at W
   grind
  ·exact Or.inr ⟨.inr (qa6 p),rfl,Or.inr ⟨p,rfl,a3,a4⟩⟩
 ·exact⟨.inl (qa6 b.1,b.2),by simp[qey],Or.inl ⟨b.1,b.2,rfl,by rwa [ub3]at V⟩⟩
theorem vef(p:List Nat):(qa6 p).map Int.toNat=p:=by simp[qa6,List.map_map,Function.comp_def]
def fillO{A:Type}(m n R:Nat)(F:List ((Nat->Bool)×(Nat->Bool)))(kn:List (Option A))(o:List Int⊕List Int):Prop :=
 (∃p r,o=.inl (qa6 p)/\CK m kn p r/\(∀f∈F,∀i,i<R->∀k,k<i->okK n kn r f i k))\/(∃p,o=.inr (qa6 p)/\p.length=m/\∀V,¬vb3 m n R F kn V)
theorem q9a(A:fdsN fds)(hm:m=R*n)(J:m<=1000000)(hR:R<=1000000)(M:n<=32)(t:Table)(ht:t.Attrs.length=n)(hr:t.Rows.length=R)(hk:kn.length=m) :
  ∃o,qah (qez t fds kn) (qa6 (v6s m),true)=some o/\fillO m n R (fds.map qk3) kn o:=by
 refine qzt (B:=qez t fds kn) (fun s=>∃p r,s.1=qa6 p/\CK m kn p r/\vwv m n R (fds.map qk3) kn r/\(s.2=false->∀f∈fds.map qk3,∀i,i<R->∀k,k<i->okK n kn r f i k)) (fun s=>if s.2=true then vg1 m (s.1.map Int.toNat)+1 else 0) _ (fun s hI=>?_) (m+1) _ ?_ ⟨v6s m,fun i=>i,rfl,⟨RK.range m,hk,fun i hi _=>rfl⟩,fun V _ _ i hi=>rfl,fun h=>by cases h⟩
 ·obtain⟨x,g⟩:=s;obtain⟨p,r,rfl,O,c2,W⟩:=hI;cases g with
  |false=>exact Or.inr ⟨.inl (qa6 p),rfl,Or.inl ⟨p,r,rfl,O,W rfl⟩⟩
  | true =>
   obtain⟨o,I,U⟩:=vmm A hm J hR M t ht hr O c2;simp only[qez,if_true,I,v7m];rcases U with⟨H,g',rfl,r',E,Z,d3⟩|⟨H,rfl,a3,a4⟩
   ·refine Or.inl ⟨(qa6 H,g'),rfl,⟨H,r',rfl,E,Z,fun hg=>?_⟩,?_⟩
    ·grind
    ·simp only[vef]
     grind
   ·exact Or.inr ⟨.inr (qa6 H),rfl,Or.inr ⟨H,rfl,a3,a4⟩⟩
 ·simp only[if_true,vef];have:=vwu m (v6s m);omega
instance instDecCell:DecidableEq CellRef:=fun a b=>match a,b with
 |⟨x,y⟩,⟨u,v⟩=>if h:x=u/\y=v then isTrue (by rw[h.1,h.2]) else isFalse fun e=>h ⟨congrArg (·.ID) e,congrArg (·.Attr) e⟩
theorem q5u(a b:CellRef):((a.ID==b.ID)&&(a.Attr==b.Attr))=decide (a=b):=by
 rw[v9y,v5i,beq_iff_eq,beq_iff_eq,decide_eq_true_eq];cases a;cases b;simp
def ltQ(a b:CellRef):Bool:=decide (a.ID<b.ID\/(a.ID=b.ID/\a.Attr<b.Attr))
theorem q1z(x:CellRef):ltQ x x=false:=by simp[ltQ]
theorem veg(x y:CellRef)(h:ltQ x y=true):ltQ y x=false:=by
 simp only[ltQ,decide_eq_true_eq,decide_eq_false_iff_not]at *;omega
theorem vmn(x y z:CellRef)(h1:ltQ x y=true)(A:ltQ y z=true):ltQ x z=true:=by
 simp only[ltQ,decide_eq_true_eq]at *;omega
theorem vw6(x y z:CellRef)(h1:ltQ y x=false)(A:ltQ z y=false):ltQ z x=false:=by
 simp only[ltQ,decide_eq_false_iff_not]at *;omega
theorem vw7(x y:CellRef)(h1:ltQ x y=false)(A:ltQ y x=false):x=y:=by
 simp only[ltQ,decide_eq_false_iff_not]at *;cases x;cases y
 grind
def vic(a b:CellRef):Int:=if sgn a.ID b.ID≠0 then sgn a.ID b.ID else sgn a.Attr b.Attr
theorem qg8(a b:CellRef):qam a b=some (vic a b):=by
 simp only[qam,qpi,q3m,vwt,v7m,vic]
theorem qty(a b:CellRef):vic a b<0↔ltQ a b=true:=by
 unfold vic sgn ltQ;simp only[decide_eq_true_eq]
 repeat' split
 all_goals omega
theorem q10(a b:CellRef):vic a b=0↔a=b:=by
 have:a=b↔a.ID=b.ID/\a.Attr=b.Attr:=by cases a;cases b;simp
 rw[this];unfold vic sgn
 grind
abbrev qyt(l:List CellRef):Prop:=l.Pairwise fun a b=>ltQ a b=true
theorem vmo(l:List CellRef):q2q (fun x y=>(qam x y).getD 0) l:=by
 refine⟨fun x _=>?_,fun x _ y _ z _=>?_,fun x _ y _ z _=>?_⟩
 ·simp only[qg8,v7o,qty,q1z];simp
 ·simp only[qg8,v7o,qty];exact vmn x y z
 ·simp only[qg8,v7o,qty,uay];intro h1 A;exact vw6 z y x A h1
def qqx(l:List CellRef):List CellRef:=vgz (srt (fun x y=>(qam x y).getD 0) l)
theorem qz0(l:List CellRef)(x:CellRef):x∈qqx l↔x∈l:=by
 unfold qqx;rw[vl4,(quh (vmo l)).mem_iff]
theorem q5v(l:List CellRef):qyt (qqx l):=by
 refine vl5 ltQ vmn vw7 ?_;refine(qui (vmo l)).imp fun {a b} h=>?_
 simp only[qg8,v7o,qty,uay]at h;exact h
theorem qx9{l:List CellRef}(h:qyt l):l.Nodup:=h.imp fun A e=>by subst e;rw[q1z]at A;cases A
def vmp(l:List CellRef):Option (List CellRef) :=
 if((l.length:Nat):Int)<2 then some l
 else(qah (qcv l) 1).bind fun o=>match o with
  |.inl ()=>some l
  |.inr r=>some r
theorem vq9(l:List CellRef)(A:Nat)(hl:l.length<=1048576)(O:A<l.length)(p:CellRef)(hp:l[A]?=some p) :
  ∃(s':List CellRef) (E:Nat),qah (qeq l (A:Int)) (l,(A:Int),1)=some (s',(E:Int))/\s'.length=l.length/\E<=l.length/\s'.take E=l.take A++ddF p (l.drop (A+1)):=by
 have:=qtw l A (qeq l (A:Int)) (fun s k j x y J hk h1 hj M hy=>by
   have H:(j:Int)<((l.length-A:Nat):Int):=by omega
   have V:((s.drop A).take (l.length-A))=s.drop A:=by
    rw[v6y (by rw[v6c];omega)]
   have U:idx (s.drop A) (j:Int)=some x:=by rw[qvm,v51,M]
   have W:v96.wrap ((j:Int)-1)=((j-1:Nat):Int):=by rw[qbg (by omega) (by omega)];omega
   have I:idx (s.drop A) ((j-1:Nat):Int)=some y:=by rw[qvm,v51,show A+(j-1)=A+j-1 by omega,hy]
   have Z:s[k]?=some s[k]:=v52 (by omega);simp only[qeq,v93];rw[if_pos H,V,U,v7m,W,I,v7m,q5u,qad Z,v7m,wqn j,wqn k]
   grind)
  (fun s k J=>by
   have H:¬((l.length-A:Nat):Int)<((l.length-A:Nat):Int):=by omega
   simp only[qeq,v93];rw[if_neg H]) (l.length-A-1) 1 l A p (by omega) rfl (v7a _) (v7a _) (fun m _=>rfl) hp
 exact this
theorem veh(l:List CellRef)(hl:l.length<=1048576):∀(r:List CellRef) (k:Nat) (p:CellRef),1<=k->k<=l.length->l.drop k=r->l[k-1]?=some p ->
  ∃o,qah (qcv l) (k:Int)=some o/\(match o with|.inl ()=>l|.inr r=>r)=l.take k++ddF p r
 | [],k,p,h1,hk,hd,hp=>by
  have e:k=l.length:=by
   have:=congrArg uan hd;simp at this;omega
  subst e;exact⟨.inl (),qap (by simp[qcv]),by simp[ddF]⟩
 | y :: r,k,p,h1,hk,hd,hp=>by
  have H:l[k]?=some y:=by
   have:=congrArg (·[0]?) hd;simpa[v51] using this
  have J:=qdc H;have I:l.drop (k+1)=r:=by rw[<-uae,hd];rfl
  have W:v96.wrap ((k:Int)-1)=((k-1:Nat):Int):=by rw[qbg (by omega) (by omega)];omega
  by_cases E:y=p
  ·obtain⟨s',A,M,U,V,q4⟩:=vq9 l k hl J y H;have c0:(0:Int)<=(k:Int):=by omega
   have c1:(k:Int)<=((l.length:Nat):Int):=by omega
   have Z:(0:Int)<=(A:Int):=by omega
   have c3:(A:Int)<=((s'.length:Nat):Int):=by omega
   obtain⟨t1,O⟩:=vqx s' A l.length (CellRef.mk 0 0) U V;have c4:(A:Int)<=((((s'.take A).length+(v6u (s'.length-A) (CellRef.mk 0 0)).length+(s'.drop (A+(s'.length-A))).length):Nat):Int):=by
    simp only[v6b]at O;rw[O];omega
   have c5:A<=((s'.take A++v6u (s'.length-A) (CellRef.mk 0 0))++s'.drop (A+(s'.length-A))).length:=by rw[O];exact V
   refine⟨.inr (s'.take A),qap ?_,?_⟩
   ·simp only[qcv,if_pos (qan H),qad H,W,qad hp,v7m,q5u,E,decide_true,if_true,if_pos c0,if_pos c1,M,if_pos Z,if_pos c3,v93,if_pos c4,if_pos c5,t1]
   ·simp only[q4,I,ddF];rw[if_pos E,E]
  ·obtain⟨o,M,U⟩:=veh l hl r (k+1) y (by omega) J I H;refine⟨o,?_,?_⟩
   ·rw[qas (s':=((k+1:Nat):Int)) (by simp only[qcv,if_pos (qan H),qad H,W,qad hp,v7m,q5u,E,decide_false,v5k,if_false,wqn k])];exact M
   ·rw[U,qbv H];simp[ddF,E]
theorem vra(l:List CellRef)(hl:l.length<=1048576):vmp l=some (vgz l):=by
 unfold vmp;rcases l with _|⟨x,r⟩
 ·rfl
 ·by_cases E:(((x::r).length:Nat):Int)<2
  ·rw[if_pos E];have:r=[]:=by
    cases r with
    |nil=>rfl
    |cons _ _=>simp only[v8r]at E;omega
   subst this;rfl
  ·rw[if_neg E];obtain⟨o,I,A⟩:=veh (x::r) hl r 1 x (v7a _) (by simp) rfl rfl;have H:qah (qcv (x::r)) 1=some o:=I;rw[H,v7m];rcases o with u|o
   ·simp only at A ⊢;exact congrArg some A
   ·simp only at A ⊢;exact congrArg some A
theorem qtz(L:List (List CellRef))(J:L.flatten.length<=1048576)(hn:L.length<=1048576):qah (qck L) (0,0)=some (L.flatten.length:Int):=by
 have h:=qe8 L (fun(b:Nat) (i:Int)=>((b:Int),i)) (qck L) (fun b x=>b+x.length) (fun b=>(b:Int)) (fun k b=>b=(L.take k).flatten.length) (b0:=0) (s0:=(0,0)) rfl (by simp)
  (fun k b x A I E=>by
   have e:(L.take (k+1)).flatten.length=b+x.length:=by
    rw[qbv A,ubh,v6b,E];simp
   have H:(L.take (k+1)).flatten.length<=L.flatten.length:=by
    conv=>rhs;rw[<-v88 (k+1) L,ubh,v6b]
    omega
   have w1:v96.wrap ((b:Int)+(x.length:Int))=((b+x.length:Nat):Int):=by rw[qbg (by omega) (by omega)];omega
   have c:¬(((b+x.length:Nat):Int)<0):=by omega
   refine⟨?_,e.symm⟩;simp only[qck,if_pos (qan A),qad A,v7m,w1,if_neg c,wqn k])
  (fun b E=>by simp[qck])
 rw[h];have:∀(L:List (List CellRef)) (b:Nat),L.foldl (fun b x=>b+x.length) b=b+L.flatten.length:=by
  intro L
  induction L with
  |nil=>intro b;simp
  |cons x L ih=>intro b;simp only[uaj,ih,ubi,v6b];omega
 rw[this];simp
theorem qvu(L:List (List CellRef))(J:L.flatten.length<=1048576)(hn:L.length<=1048576):qah (qcl L) (([]:List CellRef),0)=some L.flatten:=by
 have h:=qe8 L (fun(b:List CellRef) (i:Int)=>(b,i)) (qcl L) (fun b x=>b++x) id (fun k b=>b=(L.take k).flatten) (b0:=[]) (s0:=([],0)) rfl (by simp)
  (fun k b x E I H=>by
   have e:(L.take (k+1)).flatten=b++x:=by
    rw[qbv E,ubh,H];simp
   have A:(L.take (k+1)).flatten.length<=L.flatten.length:=by
    conv=>rhs;rw[<-v88 (k+1) L,ubh,v6b]
    omega
   have hr:qa8 (b.length+x.length) 16=true:=v4c (by rw[e,v6b]at A;omega);refine⟨?_,e.symm⟩;simp only[qcl,if_pos (qan E),qad E,v7m,hr,if_true,wqn k])
  (fun b H=>by simp[qcl])
 rw[h];have:∀(L:List (List CellRef)) (b:List CellRef),L.foldl (fun b x=>b++x) b=b++L.flatten:=by
  intro L
  induction L with
  |nil=>intro b;simp
  |cons x L ih=>intro b;simp only[uaj,ih,ubi,v5r]
 rw[this];simp
theorem qyu(l:List CellRef)(hl:l.length<=1048576):((qxt (fun(x:CellRef) (y:CellRef)=>qam x y) l).bind vmp)=some (qqx l):=by
 have A:=vmo l;have:qxt (fun(x:CellRef) (y:CellRef)=>qam x y) l=some (srt (fun x y=>(qam x y).getD 0) l):=by
  unfold qxt;rw[if_pos ⟨fun x _ y _=>by show(qam x y).isSome=true;rw[qg8];rfl,A,by omega⟩]
 rw[this,v7m,vra _ (by rw[(quh A).length_eq];exact hl)];rfl
theorem qry(l:List CellRef)(p:CellRef)(ha:qyt l)(hl:l.length<=1048576) :
  ∃i:Nat,qaw l p (fun x y=>qam x y)=some ((i:Int),decide (p∈l))/\(p∈l->l[i]?=some p):=by
 have asc:∀(m n:Nat) x y,m<n->l[m]?=some x->l[n]?=some y->ltQ x y=true:=fun m n x y I A M=>by
  obtain⟨h1,rfl⟩:=v56.1 A;obtain⟨J,rfl⟩:=v56.1 M;exact ubu.1 ha m n h1 J I
 obtain⟨k,O,e2,W,e4⟩:=qtx l (fun x=>ltQ x p) (qbq l p fun x y=>qam x y) hl
  (fun m n x y I A M Z=>by
   rcases ub7 m n with h|h
   ·exact vmn x y p (asc m n x y h A M) Z
   ·grind)
  (fun i j x V hj A=>by
   have c:(i:Int)<(j:Int):=by omega
   simp only[qbq,if_pos c,vb0 i j (by omega),qad A,v7m,qg8,qe4 (show(i+j)/2<4611686018427387904 by omega)];by_cases h:vic x p<0
   ·rw[if_pos h,if_pos ((qty x p).1 h)]
   ·rw[if_neg h,if_neg (fun J=>h ((qty x p).2 J))])
  (fun i=>by simp[qbq]) _ 0 l.length rfl (v9f _) (v7a _) (fun m x H=>by omega) (fun m x H A=>by have:=qdc A;omega)
 have qav:p∈l->l[k]?=some p:=fun hp=>by
  obtain⟨m,H⟩:=ubq.1 hp;rcases v9a m k with h|h|h
  ·have:=W m p h H;rw[q1z]at this;cases this
  ·grind
  ·grind
 refine⟨k,?_,qav⟩;simp only[v91]at O;simp only[qaw,O,v7m];have E:∀x,l[k]?=some x->(p∈l↔x=p):=fun x A=>by
  grind
 by_cases U:k<l.length
 ·have A:l[k]?=some l[k]:=v52 U;have H:=E _ A;rw[if_pos (show(k:Int)<(l.length:Int) by omega)];simp only[qad A,v7m,qg8,Option.some.injEq,Prod.mk.injEq,true_and];rw[v9y,beq_iff_eq,decide_eq_true_eq,H];exact q10 _ _
 ·grind
theorem q5w(ha:a<n):(i*n+a)/n=i:=by
 rw[Nat.add_comm,Nat.add_mul_div_right _ _ (by omega),ub6 ha,Nat.zero_add]
theorem q5x(ha:a<n):(i*n+a)%n=a:=by
 rw[Nat.add_comm,Nat.add_mul_mod_self_right,Nat.mod_eq_of_lt ha]
theorem qlh(h:j<R*n):j/n<R/\j%n<n/\j=j/n*n+j%n:=by
 have hn:0<n:=by
  grind
 refine⟨(Nat.div_lt_iff_lt_mul hn).2 h,Nat.mod_lt _ hn,?_⟩;have:=Nat.div_add_mod j n
 grind
def qf2(t:Table)(i:Nat):Row:=t.Rows.getD i ⟨0,[]⟩
def qf3(t:Table)(j:Nat):CellRef:=⟨(qf2 t (j/t.Attrs.length)).ID,((j%t.Attrs.length:Nat):Int)⟩
def qo0(t:Table)(j:Nat):Value:=qdj (qf2 t (j/t.Attrs.length)) (j%t.Attrs.length)
def qxu(t:Table)(cells:List CellRef)(j:Nat):Option Value:=if qf3 t j∈cells then none else some (qo0 t j)
def qik(t:Table):Nat:=t.Rows.length*t.Attrs.length
structure FT(t:Table):Prop where
 few:t.Rows.length<=1000
 att:t.Attrs.length<=16
 len:∀r∈t.Rows,r.Values.length=t.Attrs.length
 asc:t.Rows.Pairwise fun a b=>a.ID<b.ID
theorem FT.num(H:FT t):qik t<=1000000:=by
 have:=Nat.mul_le_mul H.few H.att;unfold qik;omega
theorem qkx(h:i<t.Rows.length):t.Rows[i]?=some (qf2 t i):=qen _ h
theorem ql2(h:i<t.Rows.length):qf2 t i∈t.Rows:=v6m (qkx h)
theorem quq(ha:a<t.Attrs.length):qf3 t (i*t.Attrs.length+a)=⟨(qf2 t i).ID,(a:Int)⟩:=by unfold qf3;rw[q5w ha,q5x ha]
theorem qya(ha:a<t.Attrs.length):qo0 t (i*t.Attrs.length+a)=qdj (qf2 t i) a:=by unfold qo0;rw[q5w ha,q5x ha]
theorem qt0(H:FT t)(hi:i<t.Rows.length)(ha:a<t.Attrs.length):(qf2 t i).Values[a]?=some (qdj (qf2 t i) a):=by
 have:=H.len _ (ql2 hi);unfold qdj
 grind
theorem vb6(H:FT t)(E:k<t.Rows.length)(A:i<k):(qf2 t i).ID<(qf2 t k).ID:=by
 have h1:=qkx (t:=t) (ub8 A E);have I:=qkx (t:=t) E;obtain⟨J,O⟩:=v56.1 h1;obtain⟨U,M⟩:=v56.1 I;rw[<-O,<-M];exact ubu.1 H.asc _ _ J U A
theorem vrb(H:FT t)(E:k<qik t)(A:j<k):ltQ (qf3 t j) (qf3 t k)=true:=by
 obtain⟨J,U,O⟩:=qlh E;obtain⟨I,M,V⟩:=qlh (ub8 A E);unfold ltQ qf3;rw[decide_eq_true_eq];simp only;rcases v9a (j/t.Attrs.length) (k/t.Attrs.length) with h|h|h
 ·exact Or.inl (vb6 H J h)
 ·grind
 ·exfalso;have:(k/t.Attrs.length+1)*t.Attrs.length<=j/t.Attrs.length*t.Attrs.length:=v7h _ h
  grind
theorem qg9{A:Type}(f:Nat->A)(k:Nat):(v6s (k+1)).map f=(v6s k).map f++[f k]:=by rw[ubz,v6h];rfl
theorem vrc(H:FT t)(ha:qyt cells)(hl:cells.length<=1048576)(hi:i<t.Rows.length) :
  qah (qf8 t cells (qf2 t i)) (qa6 (v6s (i*t.Attrs.length)),(v6s (i*t.Attrs.length)).map (qxu t cells),0)=some (qa6 (v6s ((i+1)*t.Attrs.length)),(v6s ((i+1)*t.Attrs.length)).map (qxu t cells)):=by
 have M:=H.num;obtain⟨b,e,hb⟩:=qa0 (β:=List Int×List (Option Value)) t.Attrs.length (fun b x=>(b.1,b.2,x)) (qf8 t cells (qf2 t i)) id (fun a b=>b=(qa6 (v6s (i*t.Attrs.length+a)),(v6s (i*t.Attrs.length+a)).map (qxu t cells))) (b0:=(qa6 (v6s (i*t.Attrs.length)),(v6s (i*t.Attrs.length)).map (qxu t cells))) (s0:=(qa6 (v6s (i*t.Attrs.length)),(v6s (i*t.Attrs.length)).map (qxu t cells),0)) rfl rfl
  (fun a b A J=>by
   subst J;have hlt:i*t.Attrs.length+a<qik t:=qh3 hi A;obtain⟨k,O,_⟩:=qry cells (CellRef.mk (qf2 t i).ID (a:Int)) ha hl;have Z:(qa6 (v6s (i*t.Attrs.length+a))).length=i*t.Attrs.length+a:=by simp[qa6]
   have V:((v6s (i*t.Attrs.length+a)).map (qxu t cells)).length=i*t.Attrs.length+a:=by simp
   have W:qa8 (i*t.Attrs.length+a+1) 8=true:=qmt (by omega);have r2:qa8 (((v6s (i*t.Attrs.length+a)).map (qxu t cells)).length+1) 8=true:=qmt (by rw[V];omega);have E:((a:Int)<((t.Attrs.length:Nat):Int)):=by omega
   have w:=qe4 (show a<4611686018427387904 by have:=H.att;omega);refine⟨_,?_,rfl⟩;have x1:qa6 (v6s (i*t.Attrs.length+(a+1)))=qa6 (v6s (i*t.Attrs.length+a))++[((i*t.Attrs.length+a:Nat):Int)]:=by
    rw[<-v61];unfold qa6;rw[qg9]
   have x2:(v6s (i*t.Attrs.length+(a+1))).map (qxu t cells)=(v6s (i*t.Attrs.length+a)).map (qxu t cells)++[qxu t cells (i*t.Attrs.length+a)]:=by
    rw[<-v61,qg9]
   rw[x1,x2];have U:qxu t cells (i*t.Attrs.length+a)=if(CellRef.mk (qf2 t i).ID (a:Int))∈cells then none else some (qdj (qf2 t i) a):=by unfold qxu;rw[quq A,qya A]
   simp only[qf8,if_pos E,W,r2,if_true,O,v7m,Z,w];rw[U];by_cases I:(CellRef.mk (qf2 t i).ID (a:Int))∈cells
   ·grind
   ·rw[if_neg (by rw[decide_eq_false I];simp),if_neg I,qad (qt0 H hi A),v7m])
  (fun b J=>by simp[qf8])
 grind
theorem vei(H:FT t)(ha:qyt cells)(hl:cells.length<=1048576) :
  qah (qe7 t cells) ([],[],0)=some (qa6 (v6s (qik t)),(v6s (qik t)).map (qxu t cells)):=by
 obtain⟨b,e,I⟩:=qa0 (β:=List Int×List (Option Value)) t.Rows.length (fun b x=>(b.1,b.2,x)) (qe7 t cells) id (fun i b=>b=(qa6 (v6s (i*t.Attrs.length)),(v6s (i*t.Attrs.length)).map (qxu t cells))) (b0:=([],[])) (s0:=([],[],0)) rfl (by simp[qa6])
  (fun i b hi A=>by
   subst A;refine⟨_,?_,rfl⟩;have E:=qkx hi;simp only[qe7,if_pos (qan E),qad E,v7m,vrc H ha hl hi,qe4 (show i<4611686018427387904 by have:=H.few;omega)])
  (fun b A=>by simp[qe7])
 rw[e,I];rfl
def v4v(t:Table)(fds:List FD)(cells:List CellRef)(V:Nat->Value):Prop:=(∀j,j<qik t->qf3 t j ∉ cells->V j=qo0 t j)/\v4p t.Attrs.length t.Rows.length (fds.map qk3) V
def vid(t:Table)(fds:List FD)(cells:List CellRef):Prop:=∃V,v4v t fds cells V
theorem q5y(h:j<qik t):((v6s (qik t)).map (qxu t cells)).getD j none=qxu t cells j:=by
 grind
theorem vw8:v4o (qik t) ((v6s (qik t)).map (qxu t cells)) V↔∀j,j<qik t->qf3 t j ∉ cells->V j=qo0 t j:=by
 constructor
 ·intro h j A H;exact h j A _ (by rw[q5y A];unfold qxu;rw[if_neg H])
 ·intro h j A v E;rw[q5y A]at E;unfold qxu at E
  grind
theorem qz1:vb3 (qik t) t.Attrs.length t.Rows.length (fds.map qk3) ((v6s (qik t)).map (qxu t cells)) V↔v4v t fds cells V:=by
 unfold vb3 v4v;rw[vw8]
theorem vmq:∀l:List (Option Value),∃B:Int,∀v,some v∈l->v.Num<B
 |[]=>⟨0,fun v h=>(by cases h)⟩
 |none::l=>by
  obtain⟨B,h⟩:=vmq l;exact⟨B,fun v A=>h v (by simpa using A)⟩
 |some w::l=>by
  obtain⟨B,h⟩:=vmq l;refine⟨max B (w.Num+1),fun v A=>?_⟩;rcases v9s.1 A with e|e
  ·cases e;omega
  ·have:=h v e;omega
theorem q9b{J:Type}{kn:List (Option J)}(M:m=R*n){V:Nat->J}(H:∀i k,i<m->k<m->(V i=V k↔qw7 kn r i k))(h:∀f∈F,∀i,i<R->∀k,k<i->okK n kn r f i k):v4p n R F V:=by
 intro f U i k hi I O a ha E;have lt:=fun(a:Nat) (ha:a<n)=>(show i*n+a<m by rw[M];exact qh3 hi ha)
 have A:=fun(a:Nat) (ha:a<n)=>(show k*n+a<m by rw[M];exact qh3 (ub8 I hi) ha)
 rw[H _ _ (lt a ha) (A a ha)];exact h f U i hi k I (fun a ha E=>(H _ _ (lt a ha) (A a ha)).1 (O a ha E)) a ha E
theorem q11(H:FT t)(A:fdsN fds)(ha:qyt cells)(hl:cells.length<=1048576):∃b,qgy t fds cells=some b/\(b=true↔vid t fds cells):=by
 obtain⟨o,O,U⟩:=q9a (kn:=(v6s (qik t)).map (qxu t cells)) A (show qik t=t.Rows.length*t.Attrs.length from rfl) H.num (by have:=H.few;omega) (by have:=H.att;omega) t rfl rfl (by simp);simp only[qgy,vei H ha hl,v7m,O];rcases U with⟨p,r,rfl,E,I⟩|⟨p,rfl,E,I⟩
 ·refine⟨true,by simp[qb7,E.len],fun _=>?_,fun _=>rfl⟩;obtain⟨B,Z⟩:=vmq ((v6s (qik t)).map (qxu t cells));refine⟨vib ((v6s (qik t)).map (qxu t cells)) r fun j=>⟨3,B+(j:Int),[]⟩,qz1.1 ⟨vl8 E _,q9b rfl (fun i k hi J=>vea E (fun i k _ _ _ _ _ _ W=>?_) (fun i k _ J _ _ W=>?_) hi J) I⟩⟩
  ·grind
  ·grind
 ·refine⟨false,by simp[qb7,E],fun h=>(by cases h),fun h=>?_⟩;obtain⟨V,M⟩:=h;exact absurd (qz1.2 M) (I V)
def vie(t:Table)(A:List CellRef):List CellRef:=((v6s (qik t)).map (qf3 t)).filter fun c=>!decide (c∈A)
theorem qps{c:CellRef}:c∈vie t A↔(∃j,j<qik t/\qf3 t j=c)/\c ∉ A:=by
 unfold vie
 grind
theorem vmr(H:FT t):qyt ((v6s (qik t)).map (qf3 t)):=by
 refine ubw.2 ?_;refine uad.imp_of_mem (fun {a b} ha hb h=>?_) ubv;exact vrb H (v83.1 hb) h
theorem q5z(H:FT t)(A:List CellRef):qyt (vie t A):=(vmr H).filter _
theorem vej(t:Table)(A:List CellRef):(vie t A).length<=qik t:=by
 have:=ubm (fun c=>!decide (c∈A)) ((v6s (qik t)).map (qf3 t));simpa[vie] using this
theorem vb7(h:n<=1073741824):qa8 n 16=true:=qc3 h (by omega)
theorem v4w(H:FT t)(ha:qyt A)(hl:A.length<=1048576)(hi:i<t.Rows.length) :
  qah (qj6 t A (qf2 t i)) (((v6s (i*t.Attrs.length)).map (qf3 t)).filter fun c=>!decide (c∈A),0)=some (((v6s ((i+1)*t.Attrs.length)).map (qf3 t)).filter fun c=>!decide (c∈A)):=by
 have M:=H.num;obtain⟨b,e,W⟩:=qa0 (β:=List CellRef) t.Attrs.length (fun b x=>(b,x)) (qj6 t A (qf2 t i)) id (fun a b=>b=((v6s (i*t.Attrs.length+a)).map (qf3 t)).filter fun c=>!decide (c∈A)) (b0:=((v6s (i*t.Attrs.length)).map (qf3 t)).filter fun c=>!decide (c∈A)) (s0:=(((v6s (i*t.Attrs.length)).map (qf3 t)).filter fun c=>!decide (c∈A),0)) rfl rfl
  (fun a b E J=>by
   subst J;have V:i*t.Attrs.length+a<qik t:=qh3 hi E;obtain⟨k,O,_⟩:=qry A (CellRef.mk (qf2 t i).ID (a:Int)) ha hl;have U:qa8 ((((v6s (i*t.Attrs.length+a)).map (qf3 t)).filter fun c=>!decide (c∈A)).length+1) 16=true:=vb7 (by
    grind)
   have I:((a:Int)<((t.Attrs.length:Nat):Int)):=by omega
   have w:=qe4 (show a<4611686018427387904 by have:=H.att;omega);refine⟨_,?_,rfl⟩;rw[<-v61,qg9,uaf,quq E];simp only[qj6,if_pos I,U,if_true,O,v7m,w]
   grind)
  (fun b J=>by simp[qj6])
 grind
theorem vek(H:FT t)(ha:qyt A)(hl:A.length<=1048576):qml t A=some (vie t A):=by
 obtain⟨b,e,J⟩:=qa0 (β:=List CellRef) t.Rows.length (fun b x=>(b,x)) (qlu t A) id (fun i b=>b=((v6s (i*t.Attrs.length)).map (qf3 t)).filter fun c=>!decide (c∈A)) (b0:=[]) (s0:=([],0)) rfl (by simp)
  (fun i b hi I=>by
   subst I;refine⟨_,?_,rfl⟩;have E:=qkx hi;simp only[qlu,if_pos (qan E),qad E,v7m,v4w H ha hl hi,qe4 (show i<4611686018427387904 by have:=H.few;omega)])
  (fun b I=>by simp[qlu])
 simp only[qml,e,J,v7m];rfl
def vel(t:Table)(fds:List FD)(K:List CellRef):Prop:=¬vid t fds (vie t K)
theorem qyv(H:FT t)(A:fdsN fds)(ha:qyt K)(hl:K.length<=1048576):∃b,qge t fds K=some b/\(b=true↔vel t fds K):=by
 have E:=H.num;obtain⟨b,e,I⟩:=q11 H A (q5z H K) (by have:=vej t K;omega);refine⟨!b,by simp only[qge,vek H ha hl,v7m,e],?_⟩;unfold vel
 grind
theorem qw9{B:List CellRef}(h:∀j,j<qik t->qf3 t j∈A->qf3 t j∈B)(I:vid t fds A):vid t fds B:=by
 obtain⟨V,h1,H⟩:=I;exact⟨V,fun j E J=>h1 j E fun M=>J (h j E M),H⟩
theorem vms:vid t fds (vie t (vie t A))↔vid t fds A:=by
 constructor
 ·refine qw9 fun j H E=>?_
  obtain⟨_,h⟩:=qps.1 E;exact Classical.byContradiction fun hn=>h (qps.2 ⟨⟨j,H,rfl⟩,hn⟩)
 ·refine qw9 fun j H E=>?_
  exact qps.2 ⟨⟨j,H,rfl⟩,fun h=>(qps.1 h).2 E⟩
theorem vmt{C:List CellRef}(I:vid t fds C)(H:vel t fds K):∃j,j<qik t/\qf3 t j∈C/\qf3 t j∈K:=by
 refine Classical.byContradiction fun hn=>H (qw9 (fun j A E=>?_) I)
 exact qps.2 ⟨⟨j,A,rfl⟩,fun h=>hn ⟨j,A,E,h⟩⟩
theorem vem:vid t fds (vie t []):=⟨fun _=>⟨0,0,[]⟩,fun j E A=>absurd (qps.2 ⟨⟨j,E,rfl⟩,by simp⟩) A,fun f J i k hi H _ a ha I=>rfl⟩
theorem v4x(A:vel t fds K):K≠[]:=fun e=>by
 subst e;exact A vem
theorem vha(L:List (List CellRef))(A:L.flatten.length<=1048576)(hn:L.length<=1048576):qek L=some L.flatten:=by
 have J:@qhn=@qck:=rfl;have H:@qho=@qcl:=rfl;have I:(0:Int)<=(L.flatten.length:Int):=by omega
 have E:(L.flatten.length:Int)<=1000000000000:=by omega
 simp only[qek,J,H,qtz L A hn,v7m,if_pos I,if_pos E,qvu L A hn]
theorem q9c(l:List CellRef)(hi:i<l.length)(hl:l.length<=1048576):qoi l (i:Int)=some (l.eraseIdx i):=by
 have w:=wqn i;have E:(l.drop (i+1)).take (l.length-(i+1))=l.drop (i+1):=v6y (by rw[v6c];omega);have H:[l.take i,l.drop (i+1)].flatten=l.eraseIdx i:=by rw[List.eraseIdx_eq_take_drop_succ];simp
 have A:[l.take i,l.drop (i+1)].flatten.length<=1048576:=by
  grind
 simp only[qoi,if_pos (show(0:Int)<=(i:Int) by omega),if_pos (show(i:Int)<=(l.length:Int) by omega),w,if_pos (show(0:Int)<=((i+1:Nat):Int) by omega),if_pos (show((i+1:Nat):Int)<=(l.length:Int) by omega),v93,E,vha _ A (by simp),H,v7m]
theorem vw9(H:FT t)(I:fdsN fds)(ha:qyt K)(hl:K.length<=1048576)(V:vel t fds K):∃L,qmm t fds K=some L/\L.Sublist K/\vel t fds L:=by
 obtain⟨o,e1,e2⟩:=qzt (B:=qiz t fds) (fun s=>∃i:Nat,s.2=(i:Int)/\i<=s.1.length/\s.1.Sublist K/\vel t fds s.1) (fun s=>2*s.1.length-s.2.toNat) (fun L=>L.Sublist K/\vel t fds L)
  (fun s W=>by
   obtain⟨l,x⟩:=s;obtain⟨i,O,h1,E,M⟩:=W;simp only at O h1 E M;subst O;have U:=E.length_le;by_cases A:i<l.length
   ·have J:(l.eraseIdx i).Sublist l:=List.eraseIdx_sublist ..;obtain⟨b,e,Z⟩:=qyv H I (K:=l.eraseIdx i) (ha.sublist (J.trans E)) (by have:=J.length_le;omega);have w:=wqn i;left;cases b with
    |true =>
     refine⟨(l.eraseIdx i,(i:Int)),by simp only[qiz,if_pos (show(i:Int)<(l.length:Int) by omega),q9c l A (by omega),v7m,e,if_true],⟨i,rfl,?_,J.trans E,Z.1 rfl⟩,?_⟩
     ·grind
     ·grind
    |false =>
     refine⟨(l,((i+1:Nat):Int)),by simp only[qiz,if_pos (show(i:Int)<(l.length:Int) by omega),q9c l A (by omega),v7m,e,v5k,if_false,w],⟨i+1,rfl,A,E,M⟩,?_⟩
     grind
   ·right;exact⟨l,by simp only[qiz,if_neg (show ¬(i:Int)<(l.length:Int) by omega)],E,M⟩)
  _ (K,0) (v7a _) ⟨0,rfl,v9f _,List.Sublist.refl _,V⟩
 exact⟨o,by simp only[qmm,e1,v7m],e2⟩
def smN:Nat->(Nat->Int)->Int
 |0,_=>0
 |n+1,f=>smN n f+f n
theorem q12{f g:Nat->Int}:∀n,(∀v,v<n->f v<=g v)->smN n f<=smN n g
 |0,_=>ua4 _
 |n+1,h=>by
  have:=q12 n fun v A=>h v (by omega)
  have:=h n (by omega);simp only[smN];omega
theorem qkt{g:Nat->Int}(h:∀v,v<n->f v=g v):smN n f=smN n g :=
 ua3 (q12 n fun v A=>by rw[h v A];exact ua4 _) (q12 n fun v A=>by rw[h v A];exact ua4 _)
theorem q50(f g:Nat->Int):∀n,smN n (fun v=>f v+g v)=smN n f+smN n g
 |0=>rfl
 |n+1=>by simp only[smN,q50 f g n];omega
theorem qxa:∀n,smN n (fun _=>0)=0
 |0=>rfl
 |n+1=>by simp only[smN,qxa n];rfl
theorem vb8(a:Int)(E:v<n):smN n (fun u=>if u=v then a else 0)=a:=by
 induction n with
 |zero=>omega
 |succ n ih =>
  simp only[smN];by_cases e:n=v
  ·subst e;rw[if_pos rfl,qkt (g:=fun _=>0) (fun u A=>if_neg (by omega)),qxa];omega
  ·grind
theorem vb9(h:∀v,v<n->0<=f v):0<=smN n f:=by
 have:=q12 (f:=fun _=>0) n h
 rwa [qxa]at this
theorem vca{g:Nat->Int}(a:Int)(A:v<n)(h1:g v=f v+a)(E:∀u,u<n->u≠v->g u=f u):smN n g=smN n f+a:=by
 have:smN n g=smN n (fun u=>f u+if u=v then a else 0):=qkt fun u H=>by
  grind
 rw[this,q50,vb8 a A]
theorem q9d(h:∀v,v<n->f v<=1):smN n f<=n:=by
 induction n with
 |zero=>simp[smN]
 |succ n ih =>
  have:=ih fun v A=>h v (by omega)
  have:=h n (by omega);simp only[smN];omega
structure HI(n:Nat)(es:List (List Nat)):Prop where
 nine:n<=9
 few:es.length<=1000
 ne:∀e∈es,e≠[]
 asc:∀e∈es,e.Pairwise (· < ·)
 lt:∀e∈es,∀v∈e,v<n
def ql9(n:Nat)(es:List (List Nat)):Instance:=⟨v6u n 1,es.map qa6⟩
def q3x(es:List (List Nat))(H:Nat->Bool):Prop:=∀e∈es,∃v∈e,H v=true
def mk(M:List Nat)(v:Nat):Nat:=M.getD v 0
def qyb(n:Nat)(M:List Nat)(H:Nat->Bool):Prop:=∀v,v<n->(mk M v=1->H v=true)/\(mk M v=2->H v=false)
def vrd(n:Nat)(H:Nat->Bool):Int:=smN n fun v=>if H v=true then 1 else 0
def q21(n:Nat)(M:List Nat):Int:=smN n fun v=>if mk M v=1 then 1 else 0
def vcb(n:Nat)(M:List Nat)(H:Nat->Bool):Int:=smN n fun v=>if H v=true/\mk M v=0 then 1 else 0
def opn(n:Nat)(M:List Nat):Int:=smN n fun v=>if mk M v=0 then 1 else 0
theorem q3y(h:qyb n M H)(E:∀v,v<n->mk M v<=2):vrd n H=q21 n M+vcb n M H:=by
 unfold vrd q21 vcb;rw[<-q50];refine qkt fun v A=>?_
 obtain⟨a,b⟩:=h v A
 grind
theorem qp7(h:k<e.length):(qa6 e)[k]?=some ((e[k]:Nat):Int):=qrx (v52 h)
theorem q13(E:M.length=n)(A:v<n):(qa6 M)[v]?=some ((mk M v:Nat):Int):=qrx (qw5 (by omega))
theorem vxa{x:Nat}(c:Nat):(((x:Nat):Int)==((c:Nat):Int))=decide (x=c):=by
 rw[v9y,beq_iff_eq,decide_eq_true_eq];omega
theorem vmu(E:M.length=n){S:Hitset_search}(H:S.marks=qa6 M)(c:Nat)(J:∀v∈e,v<n)(hl:e.length<=1000000) :
  ∃b,qbd S (qa6 e) (c:Int)=some b/\(b=true↔∃v∈e,mk M v=c):=by
 have h:=qon (qa6 e) (fun y=>qd8 y S (c:Int)) (fun y=>decide (mk M y.toNat=c)) (fun y I=>by
  obtain⟨v,A,rfl⟩:=v81.1 I;simp only[qd8,H,qad (q13 E (J v A)),v7m,vxa,v93]) (by rw[qb7];omega)
 refine⟨_,by simp only[qbd,h,v7m];rfl,?_⟩;simp[qa6,List.any_map]
theorem qqy:∀(e:List Nat) (k n:Nat),e.Pairwise (· < ·)->(∀v∈e,k<=v/\v<n)->e.length<=n-k
 |[],_,_,_,_=>v9f _
 |x::r,k,n,h,hb=>by
  obtain⟨h1,E⟩:=ubt.1 h;have H:=hb x (v8z);have:=qqy r (x+1) n E fun v A=>⟨h1 v A,(hb v (v8y _ A)).2⟩
  simp only[v8r];omega
theorem HI.len(H:HI n es)(A:e∈es):e.length<=9:=by
 have h1:=H.asc e A;have E:=H.lt e A;have:=qqy e 0 n h1 fun v I=>⟨v9f _,E v I⟩
 have:=H.nine;omega
theorem q14(h:k<es.length):(ql9 n es).Edges[k]?=some (qa6 es[k]):=by
 unfold ql9;simp[h]
theorem qoo(n:Nat)(es:List (List Nat)):(ql9 n es).Edges.length=es.length:=by simp[ql9]
theorem qeg(n:Nat)(es:List (List Nat)):(ql9 n es).Weights.length=n:=by simp[ql9]
theorem ql3(es:List (List Nat))(h:v<n):(ql9 n es).Weights[v]?=some 1:=by
 unfold ql9;simp[h]
def vcc(es:List (List Nat))(M:List Nat):Prop:=∃e∈es,∀v∈e,mk M v≠1/\mk M v≠0
theorem q51(l:List (List Int))(f:List Int->Option Bool)(p:List Int->Bool)(H:∀x∈l,f x=some (p x))(hl:l.length<=1073741824):qce l f=some (l.any p):=by
 have h:=qka l (qa9 l f) p
  (fun k x A I E=>by simp[qa9,qan A,qad A,H x (v6m A),E,qcs I (show l.length<=4611686018427387904 by omega)])
  (fun k x A E=>by simp[qa9,qan A,qad A,H x (v6m A),E])
  (by simp[qa9])
 simp only[qce,qcg,h,v7m];rw[<-qmu p l];cases l.findIdx? p<;>rfl
theorem q52(A:HI n es)(H:M.length=n)(left:Int) :
  ∃b,qdm ⟨ql9 n es,qa6 M,left⟩=some b/\(b=true↔vcc es M):=by
 have few:=A.few
 classical
 have h:=q51 (es.map qa6) (fun y=>qct y ⟨ql9 n es,qa6 M,left⟩) (fun y=>decide (∀v∈y,mk M v.toNat≠1/\mk M v.toNat≠0)) (fun y O=>by
  obtain⟨e,E,rfl⟩:=v81.1 O;have I:=A.len E;obtain⟨b1,a1,a2⟩:∃b,qbd ⟨ql9 n es,qa6 M,left⟩ (qa6 e) 1=some b/\_:=vmu H rfl 1 (A.lt _ E) (by omega);obtain⟨b0,c1,c2⟩:∃b,qbd ⟨ql9 n es,qa6 M,left⟩ (qa6 e) 0=some b/\_:=vmu H rfl 0 (A.lt _ E) (by omega);simp only[qct,a1,c1,v7m];have J:(∀v∈qa6 e,mk M v.toNat≠1/\mk M v.toNat≠0)↔¬(b1=true)/\¬(b0=true):=by
   rw[a2,c2];simp only[qa6,v81,forall_exists_index,and_imp,forall_apply_eq_imp_iff₂,v93]
   grind
  cases b1<;>cases b0<;>simp[J]) (by rw[v6d];omega)
 refine⟨_,(show qdm ⟨ql9 n es,qa6 M,left⟩=(qce (es.map qa6) fun y=>qct y ⟨ql9 n es,qa6 M,left⟩).bind some from rfl).trans (by rw[h];rfl),?_⟩;simp only[List.any_map,v8f,Function.comp_apply,decide_eq_true_eq,vcc,qa6,v81,forall_exists_index,and_imp,forall_apply_eq_imp_iff₂,v93]
theorem vxb(J:HI n es)(W:∀v,v<n->mk M v<=2)(V:vcc es M)(O:qyb n M H):¬q3x es H:=fun U=>by
 obtain⟨e,I,h⟩:=V;obtain⟨v,E,h1⟩:=U e I;have A:=J.lt e I v E;have:=h v E;have:=W v A;have:=(O v A).2 (by omega);rw[h1]at this;cases this
def qkc(es:List (List Nat)):List (Nat×Int)->Nat->Int
 |[],_=>0
 |x::l,v=>(if v∈es.getD x.1 [] then x.2 else 0)+qkc es l v
theorem qoa(es:List (List Nat))(x:Nat×Int)(v:Nat):∀l,qkc es (l++[x]) v=qkc es l v+(if v∈es.getD x.1 [] then x.2 else 0)
 |[]=>by simp[qkc]
 |y::l=>by simp only[v8g,qkc,qoa es x v l];omega
def qso:List (Nat×Int)->Int
 |[]=>0
 |x::l=>x.2+qso l
theorem qt1(x:Nat×Int):∀l,qso (l++[x])=qso l+x.2
 |[]=>by simp[qso]
 |y::l=>by simp only[v8g,qso,qt1 x l];omega
def shL(l:List (Nat×Int)):List Share:=l.map fun x=>⟨(x.1:Int),x.2⟩
structure ShOk(n:Nat)(es:List (List Nat))(M:List Nat)(l:List (Nat×Int)):Prop where
 edge:∀x∈l,x.1<es.length/\1<=x.2/\x.2<=1000000/\∀v∈es.getD x.1 [],mk M v≠1
 load:∀v,v<n->mk M v=0->qkc es l v<=1
theorem vs4{n:Nat}{es:List (List Nat)}(J:HI n es){M:List Nat}(W:∀v,v<n->mk M v<=2){H:Nat->Bool}(O:qyb n M H)(U:q3x es H):∀l:List (Nat×Int),(∀x∈l,x.1<es.length/\1<=x.2/\∀v∈es.getD x.1 [],mk M v≠1)->qso l<=smN n fun v=>if H v=true/\mk M v=0 then qkc es l v else 0
 |[],_=>by
  refine vb9 fun v E=>?_
  split<;>simp[qkc]
 | x :: l,h=>by
  have ih:=vs4 J W O U l fun y hy=>h y (v8y _ hy)
  obtain⟨h1,Z,h4⟩:=h x (v8z);have V:es.getD x.1 []∈es:=v6m (qen [] h1);obtain⟨v,E,I⟩:=U _ V;have A:=J.lt _ V v E;have hv0:mk M v=0:=by
   have:=h4 v E;have:=W v A;have Z:mk M v≠2:=fun e=>by have:=(O v A).2 e;rw[I]at this;cases this
   omega
  have e1:x.2<=smN n fun u=>if H u=true/\mk M u=0 then(if u∈es.getD x.1 [] then x.2 else 0) else 0:=by
   refine Int.le_trans (Int.le_of_eq (vb8 (n:=n) x.2 A).symm) (q12 n fun u hu=>?_)
   grind
  have e2:(smN n fun v=>if H v=true/\mk M v=0 then qkc es (x::l) v else 0)=(smN n fun u=>if H u=true/\mk M u=0 then(if u∈es.getD x.1 [] then x.2 else 0) else 0)+smN n fun v=>if H v=true/\mk M v=0 then qkc es l v else 0:=by
   rw[<-q50];refine qkt fun u hu=>?_
   by_cases e:H u=true/\mk M u=0
   ·rw[if_pos e,if_pos e,if_pos e];rfl
   ·grind
  rw[e2];simp only[qso];omega
theorem vre(I:HI n es)(V:∀v,v<n->mk M v<=2){l:List (Nat×Int)}(A:ShOk n es M l)(J:qyb n M H)(O:q3x es H):qso l<=vcb n M H:=by
 refine Int.le_trans (vs4 I V J O l fun x E=>⟨(A.edge x E).1,(A.edge x E).2.1,(A.edge x E).2.2.2⟩) (q12 n fun v U=>?_);by_cases e:H v=true/\mk M v=0
 ·rw[if_pos e,if_pos e];exact A.load v U e.2
 ·grind
theorem vhb(V:M.length=n){A:List Int}(hr:A.length=n)(h0:∀v,v<n->mk M v=0->0<=A.getD v 0)(he:∀v∈e,v<n)(hl:e.length<=1000000) :
  ∃a,qah (qes (qa6 M) A (qa6 e)) (1000000,0)=some a/\0<=a/\a<=1000000/\∀v∈e,mk M v=0->a<=A.getD v 0:=by
 obtain⟨b,e1,W,U,i3⟩:=qa0 (β:=Int) e.length (fun b x=>(b,x)) (qes (qa6 M) A (qa6 e)) id (fun k b=>0<=b/\b<=1000000/\∀v∈e.take k,mk M v=0->b<=A.getD v 0) (b0:=1000000) (s0:=(1000000,0)) rfl ⟨by omega,by omega,fun v H=>by simp at H⟩
  (fun k b E J=>by
   obtain⟨W,U,i3⟩:=J;have H:=he _ (ubj E);have I:=qp7 E;have Z:=q13 V H;have hg:=qen (l:=A) (i:=e[k]) 0 (by omega);simp only[qes,if_pos (qan I),qad I,qad Z,qad hg,v7m,wqn k];rw[qbv (v52 E)];by_cases O:mk M e[k]=0
   ·rw[if_pos (by rw[O];rfl)]
    grind
   ·rw[if_neg (by rw[beq_iff_eq];omega)]
    grind)
  (fun b J=>by simp[qes,qb7])
 grind
theorem qxb{v:Int}(h:i<l.length):(l.set i v).getD j 0=if j=i then v else l.getD j 0:=by
 grind
theorem vrf{A:List Int}(hr:A.length=n)(hb:∀v,v<n->-1000000000000<=A.getD v 0/\A.getD v 0<=1000000000000)(ha:e.Pairwise (· < ·))(he:∀v∈e,v<n)(hl:e.length<=1000000){a:Int}(h1:0<=a)(h2:a<=1000000) :
  ∃E,qah (qet (qa6 e) a) (A,0)=some E/\E.length=n/\∀v,v<n->E.getD v 0=A.getD v 0-(if v∈e then a else 0):=by
 obtain⟨b,e1,U,W⟩:=qa0 (β:=List Int) e.length (fun b x=>(b,x)) (qet (qa6 e) a) id (fun k b=>b.length=n/\∀v,v<n->b.getD v 0=A.getD v 0-(if v∈e.take k then a else 0)) (b0:=A) (s0:=(A,0)) rfl ⟨hr,fun v O=>by simp⟩
  (fun k b I Z=>by
   obtain⟨U,W⟩:=Z;have O:=he _ (ubj I);have V:=qp7 I;have hg:=qen (l:=b) (i:=e[k]) 0 (by omega);have J:e[k] ∉ e.take k:=fun hm=>by
    obtain⟨j,hj,M⟩:=ubp.1 hm;rw[v6g]at hj;rw[ubk]at M;have:=ubu.1 ha j k (by omega) I (by omega);omega
   have H:=W _ O;rw[if_neg J]at H;have hbb:=hb _ O;have w:v96.wrap (b.getD e[k] 0-a)=b.getD e[k] 0-a:=qbg (by omega) (by omega);refine⟨b.set e[k] (b.getD e[k] 0-a),by simp only[qet,if_pos (qan V),qad V,qad hg,v7m,v93,w,wqn k],by rw[v6f];exact U,fun v hvn=>?_⟩;rw[qxb (by omega),qbv (v52 I)]
   grind)
  (fun b Z=>by simp[qet,qb7])
 grind
theorem vxc(h:n<=1000000):qa8 n 16=true:=qc3 (by omega) (by omega)
set_option maxHeartbeats 1600000 in
theorem q15 {n:Nat} {es:List (List Nat)} (HH:HI n es) {M:List Nat} (hM:M.length=n) (h3:∀v,v<n->mk M v<=2) (s2:Int) :
  ∃l,qah (qdo (ql9 n es) (qa6 M) s2) ((ql9 n es).Weights,[],0,0)=some (shL l,qso l)/\ShOk n es M l/\l.length<=es.length/\0<=qso l/\qso l<=1000000000:=by
 have few:=HH.few
 obtain⟨b,e1,i1,i2,i3,i4,i5,i6⟩:=qa0 (β:=List Int×List (Nat×Int)) es.length (fun b x=>(b.1,shL b.2,qso b.2,x)) (qdo (ql9 n es) (qa6 M) s2) (fun b=>(shL b.2,qso b.2))
  (fun i b=>b.1.length=n/\(∀v,v<n->b.1.getD v 0=1-qkc es b.2 v)/\(∀v,v<n->mk M v=0->qkc es b.2 v<=1)/\(∀x∈b.2,x.1<es.length/\1<=x.2/\x.2<=1000000/\∀v∈es.getD x.1 [],mk M v≠1)/\b.2.length<=i/\(0<=qso b.2/\qso b.2<=(i:Int)*1000000/\∀v,v<n->0<=qkc es b.2 v/\qkc es b.2 v<=(i:Int)*1000000)) (b0:=((ql9 n es).Weights,[])) (s0:=((ql9 n es).Weights,[],0,0)) rfl
  ⟨qeg n es,fun v hv=>by rw[v8i,ql3 es hv];simp[qkc],fun v hv _=>by simp[qkc],fun x hx=>(by cases hx),by simp,by simp[qso],by simp[qso],fun v hv=>by simp[qkc]⟩
  (fun i b hi hI=>by
   obtain⟨room,l⟩:=b
   obtain⟨i1,i2,i3,i4,i5,i6,i7,i8⟩:=hI
   simp only at i1 i2 i3 i4 i5 i6 i7 i8
   have hx:=q14 (n:=n) hi
   have hm:=ubj hi
   have hlen:=HH.len hm
   have hge:es.getD i []=es[i]:=by rw[v8i,v52 hi];rfl
   have hsucc:((i+1:Nat):Int)*1000000=(i:Int)*1000000+1000000:=by omega
   have hle:(i:Int)*1000000<=1000000000:=by omega
   obtain⟨o1,a1,a2⟩:∃b,qbd ⟨ql9 n es,qa6 M,v96.wrap (s2-1)⟩ (qa6 es[i]) 1=some b/\_:=vmu hM rfl 1 (HH.lt _ hm) (by omega)
   simp only[qdo,if_pos (qan hx),qad hx,v7m,a1,wqn i]
   have skip:∃b':List Int×List (Nat×Int),some (LS.next (room,shL l,qso l,((i+1:Nat):Int)):LS (List Int×List Share×Int×Int) (List Share×Int))=some (.next (b'.1,shL b'.2,qso b'.2,((i+1:Nat):Int)))/\(b'.1.length=n/\(∀v,v<n->b'.1.getD v 0=1-qkc es b'.2 v)/\(∀v,v<n->mk M v=0->qkc es b'.2 v<=1)/\(∀x∈b'.2,x.1<es.length/\1<=x.2/\x.2<=1000000/\∀v∈es.getD x.1 [],mk M v≠1)/\b'.2.length<=i+1/\(0<=qso b'.2/\qso b'.2<=((i+1:Nat):Int)*1000000/\∀v,v<n->0<=qkc es b'.2 v/\qkc es b'.2 v<=((i+1:Nat):Int)*1000000)) :=
    ⟨(room,l),rfl,i1,i2,i3,i4,by simp only;omega,i6,by simp only;omega,fun v hv=>⟨(i8 v hv).1,by have:=(i8 v hv).2;simp only;omega⟩⟩
   cases o1 with
   | false =>
    have a2:∀v∈es[i],mk M v≠1:=fun v hv hc=>absurd (a2.2 ⟨v,hv,hc⟩) (by simp)
    simp only[v5k,if_false]
    obtain⟨a,c1,c2,c3,c4⟩:=vhb hM i1 (fun v hv h0=>by rw[i2 v hv];have:=i3 v hv h0;omega) (HH.lt _ hm) (show es[i].length<=1000000 by omega)
    simp only[c1,v7m]
    by_cases ha:a=0
    ·rw[if_pos (by rw[ha];rfl)];exact skip
    ·rw[if_neg (by rw[beq_iff_eq];exact ha)]
     obtain⟨room',d1,d2,d3⟩:=vrf i1 (fun v hv=>by rw[i2 v hv];have:=i8 v hv;omega) (HH.asc _ hm) (HH.lt _ hm) (show es[i].length<=1000000 by omega) c2 c3
     have w:v96.wrap (qso l+a)=qso l+a:=qbg (by omega) (by omega)
     have hsl:(shL l).length=l.length:=by simp[shL]
     refine⟨(room',l++[(i,a)]),?_,d2,fun v hv=>?_,fun v hv h0=>?_,fun x hx=>?_,?_,?_,?_,fun v hv=>?_⟩
     ·simp only[d1,v7m,vxc (show(shL l).length+1<=1000000 by omega),if_true,w]
      simp[shL,qt1]
     ·have e:=qoa es (i,a) v l
      grind
     ·have e:=qoa es (i,a) v l
      grind
     ·grind
     ·grind
     ·simp only[qt1];omega
     ·simp only[qt1];omega
     ·have hb8:=i8 v hv
      simp only[qoa]
      grind
   |true=>exact skip)
  (fun b hI=>by simp[qdo,qoo])
 exact⟨b.2,e1,⟨i4,i3⟩,i5,i6.1,by have:=i6.2.1;omega⟩
theorem vhc(hM:M.length=n){S:Hitset_search}(hS:S.marks=qa6 M){A:List Int}(hc:A.length=n){C:Int}(hC:0<=C)(hC2:C<=1000000000)(hb:∀v,v<n->0<=A.getD v 0/\A.getD v 0<=C)(he:∀v∈e,v<n)(hl:e.length<=1000000){best:Int}(W:best=-1\/∃v:Nat,best=(v:Int)/\v<n/\mk M v=0) :
  ∃H J,qah (qco S (qa6 e)) (A,best,0)=some (H,J)/\H.length=n/\(∀v,v<n->0<=H.getD v 0/\H.getD v 0<=C+e.length)/\(J=-1/\best=-1/\(∀v∈e,mk M v≠0)\/∃v:Nat,J=(v:Int)/\v<n/\mk M v=0):=by
 obtain⟨b,e1,i1,i2,i3⟩:=qa0 (β:=List Int×Int) e.length (fun b x=>(b.1,b.2,x)) (qco S (qa6 e)) id (fun k b=>b.1.length=n/\(∀v,v<n->0<=b.1.getD v 0/\b.1.getD v 0<=C+(k:Int))/\(b.2=-1/\best=-1/\(∀v∈e.take k,mk M v≠0)\/∃v:Nat,b.2=(v:Int)/\v<n/\mk M v=0)) (b0:=(A,best)) (s0:=(A,best,0)) rfl
  ⟨hc,fun v O=>by have:=hb v O;simp only;omega,W.imp (fun h=>⟨h,h,fun v O=>by simp at O⟩) id⟩
  (fun k b hk hI=>by
   obtain⟨I,E⟩:=b;obtain⟨i1,i2,i3⟩:=hI;simp only at i1 i2 i3;have O:=he _ (ubj hk);have hx:=qp7 hk;have hm:=q13 hM O;have hg:=qen (l:=I) (i:=e[k]) 0 (by omega);simp only[qco,hS,if_pos (qan hx),qad hx,qad hm,qad hg,v7m,wqn k];rw[qbv (v52 hk)];by_cases h0:mk M e[k]=0
   ·rw[if_neg (show ¬((((mk M e[k]:Nat):Int)) != 0)=true by rw[h0];simp)];have hcv:=i2 _ O;have w:v96.wrap (I.getD e[k] 0+1)=I.getD e[k] 0+1:=qbg (by omega) (by omega);have qo8:∀v,v<n->0<=(I.set e[k] (I.getD e[k] 0+1)).getD v 0/\(I.set e[k] (I.getD e[k] 0+1)).getD v 0<=C+((k+1:Nat):Int):=fun v U=>by
     grind
    have Z:(I.set e[k] (I.getD e[k] 0+1)).length=n:=by rw[v6f];exact i1
    simp only[v93,w];by_cases V:E<0
    ·rw[if_pos V];exact⟨(I.set e[k] (I.getD e[k] 0+1),((e[k]:Nat):Int)),rfl,Z,qo8,Or.inr ⟨e[k],rfl,O,h0⟩⟩
    ·rw[if_neg V];have hbs:∃v:Nat,E=(v:Int)/\v<n/\mk M v=0:=by
      grind
     obtain⟨v,rfl,U,hv0⟩:=hbs;have g1:=qen (l:=I.set e[k] (I.getD e[k] 0+1)) (i:=e[k]) 0 (by omega);have g2:=qen (l:=I.set e[k] (I.getD e[k] 0+1)) (i:=v) 0 (by omega);simp only[qad g1,qad g2,v7m];split
     ·exact⟨(I.set e[k] (I.getD e[k] 0+1),((e[k]:Nat):Int)),rfl,Z,qo8,Or.inr ⟨e[k],rfl,O,h0⟩⟩
     ·exact⟨(I.set e[k] (I.getD e[k] 0+1),(v:Int)),rfl,Z,qo8,Or.inr ⟨v,rfl,U,hv0⟩⟩
   ·rw[if_pos (show((((mk M e[k]:Nat):Int)) != 0)=true by rw[bne_iff_ne];omega)];refine⟨(I,E),rfl,i1,fun v U=>by have:=i2 v U;simp only;omega,i3.imp (fun⟨a,b,c⟩=>⟨a,b,fun v O=>?_⟩) id⟩
    grind)
  (fun b hI=>by simp[qco,hS,qb7])
 grind
theorem q3z(I:HI n es)(Z:M.length=n)(left:Int)(hd:¬vcc es M) :
  ∃best,qdu ⟨ql9 n es,qa6 M,left⟩=some best/\(best=-1/\(∀e∈es,∃v∈e,mk M v=1)\/∃v:Nat,best=(v:Int)/\v<n/\mk M v=0):=by
 have few:=I.few;obtain⟨b,e1,O,U,J⟩:=qa0 (β:=List Int×Int) es.length (fun b x=>(b.1,b.2,x)) (qdn ⟨ql9 n es,qa6 M,left⟩) (fun b=>b.2) (fun k b=>b.1.length=n/\(∀v,v<n->0<=b.1.getD v 0/\b.1.getD v 0<=(k:Int)*9)/\(b.2=-1/\(∀e∈es.take k,∃v∈e,mk M v=1)\/∃v:Nat,b.2=(v:Int)/\v<n/\mk M v=0)) (b0:=(v6u n 0,-1)) (s0:=(v6u n 0,-1,0)) rfl
  ⟨by simp,fun v A=>by simp[v8i,A],Or.inl ⟨rfl,fun e he=>by simp at he⟩⟩
  (fun k b hk hI=>by
   obtain⟨cn,E⟩:=b;obtain⟨O,U,J⟩:=hI;simp only at O U J;have hx:=q14 (n:=n) hk;have V:=ubj hk;have hlen:=I.len V;obtain⟨o1,a1,H⟩:∃b,qbd ⟨ql9 n es,qa6 M,left⟩ (qa6 es[k]) 1=some b/\_:=vmu Z rfl 1 (I.lt _ V) (by omega);simp only[qdn,if_pos (qan hx),qad hx,v7m,a1,wqn k];rw[qbv (v52 hk)];cases o1 with
   |false =>
    have H:∀v∈es[k],mk M v≠1:=fun v A hc=>absurd (H.2 ⟨v,A,hc⟩) (by simp)
    simp only[v5k,if_false];obtain⟨cn',bs',c1,c2,c3,c4⟩:=vhc Z (S:=⟨ql9 n es,qa6 M,left⟩) rfl O (C:=(k:Int)*9) (by omega) (by omega) U (I.lt _ V) (show es[k].length<=1000000 by omega) (best:=E) (J.imp (fun h=>h.1) id);simp only[c1,v7m];refine⟨(cn',bs'),rfl,c2,fun v A=>by have:=c3 v A;simp only;omega,?_⟩;rcases c4 with⟨h1,h2,h3⟩|h
    ·exfalso;exact hd ⟨es[k],V,fun v A=>⟨H v A,h3 v A⟩⟩
    ·exact Or.inr h
   |true =>
    obtain⟨v,H,a3⟩:=H.1 rfl;refine⟨(cn,E),rfl,O,fun v A=>by have:=U v A;simp only;omega,J.imp (fun⟨h1,h2⟩=>⟨h1,fun e he=>?_⟩) id⟩
    grind)
  (fun b hI=>by simp[qdn,qoo])
 have W:(qa6 M).length=n:=by rw[qb7,Z]
 have nine:=I.nine;refine⟨b.2,by simp only[qdu,W,if_pos (show(0:Int)<=(n:Int) by omega),qmt (show n<=17592186044416 by omega),if_true,e1,v7m],?_⟩
 grind
theorem vhd(A:M.length=n)(hn:n<=1000000):qah (qeu (qa6 M)) ([],0)=some (qa6 ((v6s n).filter fun v=>decide (mk M v=1))):=by
 obtain⟨b,V,U⟩:=qa0 (β:=List Int) n (fun b x=>(b,x)) (qeu (qa6 M)) id (fun k b=>b=qa6 ((v6s k).filter fun v=>decide (mk M v=1))) (b0:=[]) (s0:=([],0)) rfl rfl
  (fun k b O J=>by
   subst J;have H:=q13 A O;have I:(qa6 ((v6s k).filter fun v=>decide (mk M v=1))).length<=k:=by
    rw[qb7]
    grind
   refine⟨_,?_,rfl⟩;simp only[qeu,if_pos (qan H),qad H,v7m,qmt (show(qa6 ((v6s k).filter fun v=>decide (mk M v=1))).length+1<=17592186044416 by omega),if_true,wqn k];rw[ubz,uaf];by_cases E:mk M k=1
   ·rw[if_pos (by rw[E];rfl)];simp[qa6,E]
   ·grind)
  (fun b J=>by simp[qeu,qb7,A])
 rw[V,U];rfl
theorem qxc(H:HI n es):qgv (ql9 n es)=some 0:=by
 have nine:=H.nine;have few:=H.few;obtain⟨_,e1,_⟩:=qa0 (β:=Unit) n (fun _ i=>i) (qjj (ql9 n es)) (fun _=>(Sum.inl ():Unit⊕Int)) (fun _ _=>True) (b0:=()) (s0:=0) rfl trivial
  (fun k _ A _=>by
   have E:=ql3 es A;refine⟨(),?_,trivial⟩;simp only[qjj,if_pos (qan E),qad E,v7m,if_neg (show ¬(1:Int)<1 by decide),if_neg (show ¬(1:Int)>1000000 by decide),wqn k])
  (fun _ _=>by simp[qjj,qeg])
 have U:∀e∈es,qah (qhp (ql9 n es) (qa6 e)) (-1,0)=some (.inl ()):=fun e O=>by
  have V:=H.len O;obtain⟨_,e2,_⟩:=qa0 (β:=Int) e.length (fun b i=>(b,i)) (qhp (ql9 n es) (qa6 e)) (fun _=>(Sum.inl ():Unit⊕Int)) (fun k b=>∀j v,k<=j->e[j]?=some v->b<((v:Nat):Int)) (b0:=-1) (s0:=(-1,0)) rfl (fun j v _ _=>by omega)
   (fun k b A hI=>by
    have E:=qp7 A;have hv:=H.lt e O _ (ubj A);have hb:=hI k _ (v7a _) (v52 A);refine⟨((e[k]:Nat):Int),?_,fun j v hj I=>?_⟩
    ·simp only[qhp,if_pos (qan E),qad E,v7m,if_neg (show ¬((e[k]:Nat):Int)<=b by omega),qeg,if_neg (show ¬((e[k]:Nat):Int)>=((n:Nat):Int) by omega),wqn k]
    ·obtain⟨M,rfl⟩:=v56.1 I;have:=ubu.1 (H.asc e O) k j A M (by omega);omega)
   (fun _ _=>by simp[qhp,qb7])
  exact e2
 obtain⟨_,e3,_⟩:=qa0 (β:=Unit) es.length (fun _ i=>i) (qjk (ql9 n es)) (fun _=>(Sum.inl ():Unit⊕Int)) (fun _ _=>True) (b0:=()) (s0:=0) rfl trivial
  (fun k _ A _=>by
   have E:=q14 (n:=n) A;have W:=ubj A;have J:=H.ne _ W;have Z:¬(((qa6 es[k]).length:Int)==0)=true:=by
    rw[qb7,beq_iff_eq];intro h;exact J (ubl.1 (by omega))
   refine⟨(),?_,trivial⟩;simp only[qjk,if_pos (qan E),qad E,v7m,U _ W,if_neg Z,wqn k])
  (fun _ _=>by simp[qjk,qoo])
 simp only[qgv,qeg,qoo,if_neg (show ¬((n:Nat):Int)>200 by omega),if_neg (show ¬((es.length:Nat):Int)>2000 by omega),e1,e3,v7m]
def atI(es:List (List Nat))(i v:Nat):List Nat:=(v6s i).filter fun j=>decide (v∈es.getD j [])
theorem vmv{A:Type}{l:List A}{v d:A}(h:i<l.length):(l.set i v).getD j d=if j=i then v else l.getD j d:=by
 grind
theorem qrz(ha:e.Pairwise (· < ·))(E:k<e.length):e[k] ∉ e.take k:=fun H=>by
 obtain⟨j,I,A⟩:=ubp.1 H;rw[v6g]at I;rw[ubk]at A;have:=ubu.1 ha j k (by omega) E (by omega);omega
theorem vmw(ha:e.Pairwise (· < ·))(he:∀v∈e,v<n)(hl:e.length<=1000000){A:List (List Int)}(hA:A.length=n)(hb:∀v,v<n->(A.getD v []).length<=1000000)(i:Nat) :
  ∃M,qah (qf5 (i:Int) (qa6 e)) (A,0)=some M/\M.length=n/\∀v,v<n->M.getD v []=if v∈e then A.getD v []++[(i:Int)] else A.getD v []:=by
 obtain⟨b,e1,U,O⟩:=qa0 (β:=List (List Int)) e.length (fun b x=>(b,x)) (qf5 (i:Int) (qa6 e)) id (fun k b=>b.length=n/\∀v,v<n->b.getD v []=if v∈e.take k then A.getD v []++[(i:Int)] else A.getD v []) (b0:=A) (s0:=(A,0)) rfl ⟨hA,fun v J=>by simp⟩
  (fun k b H W=>by
   obtain⟨U,O⟩:=W;have J:=he _ (ubj H);have V:=qp7 H;have hg:=qen (l:=b) (i:=e[k]) [] (by omega);have I:=qrz ha H;have E:=O _ J;rw[if_neg I]at E;have Z:=hb _ J;refine⟨b.set e[k] (b.getD e[k] []++[(i:Int)]),by simp only[qf5,if_pos (qan V),qad V,qad hg,v7m,v93,qmt (show(b.getD e[k] []).length+1<=17592186044416 by rw[E];omega),if_true,wqn k],by rw[v6f];exact U,fun v hvn=>?_⟩;rw[vmv (by omega),qbv (v52 H)]
   grind)
  (fun b W=>by simp[qf5,qb7])
 grind
theorem vrg(es:List (List Nat))(i v:Nat):atI es (i+1) v=if v∈es.getD i [] then atI es i v++[i] else atI es i v:=by
 unfold atI;rw[ubz,uaf]
 grind
theorem vmx(es:List (List Nat))(i v:Nat):(atI es i v).length<=i:=by
 have:=ubm (fun j=>decide (v∈es.getD j [])) (v6s i);simpa[atI] using this
theorem vmy(I:HI n es):∃E A,qah (qf6 (ql9 n es)) (v6u es.length 0,v6u n [],0)=some (E,A)/\E.length=es.length/\(∀j,j<es.length->E.getD j 0=(((es.getD j []).length:Nat):Int))/\A.length=n/\∀v,v<n->A.getD v []=qa6 (atI es es.length v):=by
 have few:=I.few;obtain⟨b,e1,U,i2,O,J⟩:=qa0 (β:=List Int×List (List Int)) es.length (fun b x=>(b.1,b.2,x)) (qf6 (ql9 n es)) id (fun i b=>b.1.length=es.length/\(∀j,j<i->b.1.getD j 0=(((es.getD j []).length:Nat):Int))/\b.2.length=n/\∀v,v<n->b.2.getD v []=qa6 (atI es i v)) (b0:=(v6u es.length 0,v6u n [])) (s0:=(v6u es.length 0,v6u n [],0)) rfl
  ⟨by simp,fun j hj=>absurd hj (ub9 _),by simp,fun v H=>by simp[atI,qa6,v8i,H]⟩
  (fun i b hi hI=>by
   obtain⟨E,A⟩:=b;obtain⟨U,i2,O,J⟩:=hI;simp only at U i2 O J;have W:=q14 (n:=n) hi;have V:=ubj hi;have Z:=I.len V;have M:es.getD i []=es[i]:=by rw[v8i,v52 hi];rfl
   have hg:=qen (l:=E) (i:=i) 0 (by omega);obtain⟨A',c1,c2,c3⟩:=vmw (I.asc _ V) (I.lt _ V) (show es[i].length<=1000000 by omega) O (fun v H=>by rw[J v H,qb7];have:=vmx es i v;omega) i;refine⟨(E.set i ((es[i].length:Nat):Int),A'),by simp only[qf6,if_pos (qan W),qad W,qad hg,v7m,c1,v93,qb7,wqn i],by simp only[v6f];exact U,fun j hj=>?_,c2,fun v H=>?_⟩
   ·grind
   ·simp only;rw[c3 v H,J v H,vrg,M];split
    ·simp[qa6]
    ·rfl)
  (fun b hI=>by simp[qf6,qoo])
 grind
theorem q53{m:List Int}(h1:l.length=n)(A:m.length=n)(h:∀j,j<n->l.getD j 0=m.getD j 0):l=m:=by
 apply v5y
 grind
theorem qop(h:j<n):(qa6 (v6s n)).getD j 0=(j:Int):=by
 have:(qa6 (v6s n))[j]?=some (j:Int):=qrx (ual h)
 grind
theorem vmz(es:List (List Nat))(hn:n<=1000000):qah (qf7 (ql9 n es)) (v6u n 0,0)=some (qa6 (v6s n)):=by
 obtain⟨b,M,E,H⟩:=qa0 (β:=List Int) n (fun b x=>(b,x)) (qf7 (ql9 n es)) id (fun i b=>b.length=n/\∀j,j<i->b.getD j 0=(j:Int)) (b0:=v6u n 0) (s0:=(v6u n 0,0)) rfl ⟨by simp,fun j A=>absurd A (ub9 _)⟩
  (fun k b O I=>by
   obtain⟨E,H⟩:=I;have J:=qen (l:=b) (i:=k) 0 (by omega);refine⟨b.set k (k:Int),by simp only[qf7,qeg,if_pos (show(k:Int)<((n:Nat):Int) by omega),qad J,v7m,v93,wqn k],by rw[v6f];exact E,fun j A=>?_⟩
   grind)
  (fun b I=>by simp[qf7,qeg])
 rw[M];exact congrArg some (q53 E (by simp[qa6]) fun j A=>by rw[id,H j A,qop A])
theorem vhe(es:List (List Nat))(hn:n<=9):qah (qfi (ql9 n es) (qa6 (v6s n)) 0) (qa6 (v6s n),1)=some (qa6 (v6s n)):=by
 have A:(qa6 (v6s n)).length=n:=by simp[qa6]
 have E:∀i:Nat,i<n->qah (qhr (ql9 n es) 0) (qa6 (v6s n),(i:Int))=some (qa6 (v6s n)):=fun i hi=>by
  refine qap ?_;by_cases h0:(i:Int)>0
  ·have I:=qen (l:=qa6 (v6s n)) (i:=i) 0 (by omega);have H:=qen (l:=qa6 (v6s n)) (i:=i-1) 0 (by omega);rw[qop hi]at I;rw[qop (show i-1<n by omega)]at H;have w:v96.wrap ((i:Int)-1)=((i-1:Nat):Int):=by rw[qbg (by omega) (by omega)];omega
   have M:v96.wrap ((1:Int)-1)=0:=by decide
   simp only[qhr,if_pos h0,qad I,w,qad H,v7m,qjl,qad (ql3 es hi),qad (ql3 es (show i-1<n by omega)),M,if_neg (show ¬(0:Int)<0 by decide)]
  ·simp only[qhr,if_neg h0]
 have key:∀(d i:Nat),n-i=d->1<=i->qah (qfi (ql9 n es) (qa6 (v6s n)) 0) (qa6 (v6s n),(i:Int))=some (qa6 (v6s n)):=by
  intro d
  induction d with
  |zero=>intro i J _;exact qap (by simp only[qfi,A,if_neg (show ¬(i:Int)<((n:Nat):Int) by omega)])
  |succ d ih =>
   intro i J h1;rw[qas (s':=(qa6 (v6s n),((i+1:Nat):Int))) (by simp only[qfi,A,if_pos (show(i:Int)<((n:Nat):Int) by omega),E i (by omega),v7m,wqn i])];exact ih (i+1) (by omega) (by omega)
 grind
def qsp(k:Nat)(S:List Nat)(v:Nat):Bool:=decide (k<=v\/v∈S)
theorem q16{p q:Nat->Bool}{k:Nat}(I:p k=true)(H:q k=false)(A:∀v,v≠k->p v=q v):∀e:List Nat,e.Pairwise (· < ·)->e.countP p=e.countP q+if k∈e then 1 else 0
 |[],_=>by simp
 |x::r,h=>by
  obtain⟨h1,E⟩:=ubt.1 h;have J:=q16 I H A r E
  grind
theorem vhf{A:List (List Int)}{L:List Nat}(hA:A[k]?=some (qa6 L))(hL:L.Pairwise (· < ·))(hb:∀j∈L,j<m)(hl:L.length<=1000000){E:List Int}(hr:E.length=m)(U:∀j,j<m->-1000000<=E.getD j 0/\E.getD j 0<=1000000) :
  ∃H,qah (qfj A (k:Int) (qa6 L)) (E,0)=some H/\H.length=m/\∀j,j<m->H.getD j 0=E.getD j 0-(if j∈L then 1 else 0):=by
 obtain⟨b,e1,V,Z⟩:=qa0 (β:=List Int) L.length (fun b x=>(b,x)) (qfj A (k:Int) (qa6 L)) id (fun q b=>b.length=m/\∀j,j<m->b.getD j 0=E.getD j 0-(if j∈L.take q then 1 else 0)) (b0:=E) (s0:=(E,0)) rfl ⟨hr,fun v O=>by simp⟩
  (fun q b J hI=>by
   obtain⟨V,Z⟩:=hI;have O:=hb _ (ubj J);have W:=qp7 J;have hg:=qen (l:=b) (i:=L[q]) 0 (by omega);have M:=qrz hL J;have I:=Z _ O;rw[if_neg M]at I;have hbb:=U _ O;have w:v96.wrap (b.getD L[q] 0-1)=b.getD L[q] 0-1:=qbg (by omega) (by omega);refine⟨b.set L[q] (b.getD L[q] 0-1),by simp only[qfj,if_pos (qan W),qad hA,qad W,qad hg,v7m,v93,w,wqn q],by rw[v6f];exact V,fun v hvn=>?_⟩;rw[qxb (by omega),qbv (v52 J)]
   grind)
  (fun b hI=>by simp[qfj,qb7])
 grind
structure HS(n:Nat)(es:List (List Nat))(S:List Nat):Prop where
 asc:S.Pairwise (· < ·)
 lt:∀v∈S,v<n
 hit:∀e∈es,∃v∈e,v∈S
theorem vhg(U:HI n es){H:List Int}{A:List (List Int)}(hr:H.length=es.length)(hr2:∀j,j<es.length->H.getD j 0=(((es.getD j []).length:Nat):Int))(hA:A.length=n)(hA2:∀v,v<n->A.getD v []=qa6 (atI es es.length v)) :
  ∃S,qah (qfk A (qa6 (v6s n))) (H,[],0)=some (qa6 S)/\HS n es S:=by
 have few:=U.few;have nine:=U.nine;have M:∀j,j<es.length->es.getD j []∈es:=fun j E=>v6m (qen [] E)
 obtain⟨b,e1,i1,i2,V,Z⟩:=qa0 (β:=List Int×List Nat) n (fun b x=>(b.1,qa6 b.2,x)) (qfk A (qa6 (v6s n))) (fun b=>qa6 b.2) (fun k b=>b.1.length=es.length/\b.2.Pairwise (· < ·)/\(∀v∈b.2,v<k)/\∀j,j<es.length->b.1.getD j 0=(((es.getD j []).countP (qsp k b.2):Nat):Int)/\1<=b.1.getD j 0) (b0:=(H,[])) (s0:=(H,[],0)) rfl
  ⟨hr,by simp,fun v J=>(by cases J),fun j E=>by
   have h1:=hr2 j E;have hne:=U.ne _ (M j E);have h0:(es.getD j []).countP (qsp 0 [])=(es.getD j []).length:=by
    rw[List.countP_eq_length];intro v _;unfold qsp;simp
   simp only[h0];have:0<(es.getD j []).length:=List.length_pos_iff.2 hne
   grind⟩
  (fun k b hk hI=>by
   obtain⟨O,S⟩:=b;obtain⟨i1,i2,V,Z⟩:=hI;simp only at i1 i2 V Z;have g1:(qa6 (v6s n))[k]?=some (k:Int):=qrx (ual hk);have g2:A[k]?=some (qa6 (atI es es.length k)):=by rw[qen [] (show k<A.length by omega),hA2 k hk]
   have hSlen:(qa6 S).length<=n:=by
    rw[qb7];have:=qqy S 0 n i2 fun v J=>⟨v9f _,by have:=V v J;omega⟩
    omega
   have hatl:=vmx es es.length k;have I:∀j,j∈atI es es.length k↔j<es.length/\k∈es.getD j []:=fun j=>by
    unfold atI;rw[v80,v83,decide_eq_true_eq]
   have hcf:=qon (qa6 (atI es es.length k)) (fun y=>qhq y O) (fun y=>O.getD y.toNat 0==1) (fun y hy=>by
    obtain⟨j,E,rfl⟩:=v81.1 hy;have hjl:=(I j).1 E;have hg:=qen (l:=O) (i:=j) 0 (by omega);simp only[qhq,qad hg,v7m,v93]) (by rw[qb7];omega)
   have hkS:k ∉ S:=fun hm=>by have:=V k hm;omega
   simp only[qfk,if_pos (qan g1),qad g1,qad g2,v7m,hcf,wqn k];by_cases ha:(qa6 (atI es es.length k)).any (fun y=>O.getD y.toNat 0==1)=true
   ·rw[if_pos ha];simp only[qmt (show(qa6 S).length+1<=17592186044416 by omega),if_true];refine⟨(O,S++[k]),by simp[qa6],i1,?_,fun v J=>?_,fun j E=>?_⟩
    ·grind
    ·grind
    ·obtain⟨q1,q2⟩:=Z j E;refine⟨?_,q2⟩;simp only;rw[q1];congr 1;apply List.countP_congr;intro v _;unfold qsp
     grind
   ·rw[if_neg ha];have hnone:∀j,j<es.length->k∈es.getD j []->O.getD j 0≠1:=fun j E hkj h1=>ha (by
     rw[v8f];exact⟨(j:Int),v81.2 ⟨j,(I j).2 ⟨E,hkj⟩,rfl⟩,by show(O.getD ((j:Int)).toNat 0==1)=true;rw[v93,h1];rfl⟩)
    have hcnt:∀j,j<es.length->((es.getD j []).countP (qsp k S))=((es.getD j []).countP (qsp (k+1) S))+if k∈es.getD j [] then 1 else 0:=fun j E=>by
     refine q16 ?_ ?_ (fun v J=>?_) _ (U.asc _ (M j E))
     ·unfold qsp;simp
     ·unfold qsp;rw[decide_eq_false_iff_not];rintro(h|h)
      ·omega
      ·exact hkS h
     ·unfold qsp
      grind
    obtain⟨rm',c1,c2,c3⟩:=vhf g2 (show(atI es es.length k).Pairwise (· < ·) from ubv.filter _) (fun j E=>((I j).1 E).1) (by omega) i1 (fun j E=>by
     have q1:=(Z j E).1;have q2:=ubd (p:=qsp k S) (l:=es.getD j []);have q3:=U.len (M j E);omega)
    simp only[c1,v7m];refine⟨(rm',S),rfl,c2,i2,fun v J=>by have:=V v J;omega,fun j E=>?_⟩
    grind)
  (fun b hI=>by simp[qfk,qb7])
 refine⟨b.2,e1,i2,V,fun e he=>?_⟩;obtain⟨j,E,rfl⟩:=ubp.1 he;have hgj:es.getD j []=es[j]:=by rw[v8i,v52 E];rfl
 obtain⟨q1,q2⟩:=Z j E;rw[hgj]at q1;have:0<es[j].countP (qsp n b.2):=by omega
 obtain⟨v,J,W⟩:=List.countP_pos_iff.1 this;unfold qsp at W;rw[decide_eq_true_eq]at W;have:=U.lt _ he v J
 grind
theorem vrh(h:S.Pairwise (· < ·)):(qa6 S).Pairwise (· < ·):=ubw.2 (h.imp fun h=>by omega)
theorem vhh(h:S.Pairwise (· < ·)):vj1 (qa6 S)=qa6 S:=q5o (qte _) (q0w _) (vrh h)
theorem vm0(H:HI n es):∃S,qls (ql9 n es)=some (qa6 S,0)/\HS n es S:=by
 have few:=H.few;have nine:=H.nine;obtain⟨rem,A,I,V,a3,U,a5⟩:=vmy H;obtain⟨S,b1,J⟩:=vhg H V a3 U a5;have E:(qa6 (v6s n)).length=n:=by simp[qa6]
 have hSl:=qqy S 0 n J.asc fun v Z=>⟨v9f _,J.lt v Z⟩
 have O:qah (qj4 (ql9 n es) (qa6 (v6s n))) (qa6 (v6s n),0,20)=some (qa6 (v6s n),0):=qap (by simp only[qj4,E,if_neg (show ¬(20:Int)<=((n:Nat):Int) by omega)]);have M:qah (qj5 (qa6 (v6s n))) 20=some ():=qap (by simp only[qj5,E,if_neg (show ¬(20:Int)<((n:Nat):Int) by omega)]);have w1:v96.wrap ((0:Int)+1)=1:=by decide
 have W:q0v (qa6 S)=some (qa6 S):=by
  unfold q0v;rw[if_pos (by rw[qb7];omega),vhh J.asc]
 refine⟨S,?_,J⟩;simp only[qls,qxc H,v7m,bne_self_eq_false,v5k,if_false,qoo,qeg,if_pos (show(0:Int)<=((es.length:Nat):Int) by omega),if_pos (show(0:Int)<=((n:Nat):Int) by omega),qmt (show es.length<=17592186044416 by omega),qmt (show n<=17592186044416 by omega),RLE n 24,if_true,I,vmz es (show n<=1000000 by omega),O,w1,vhe es nine,M,b1,W]
theorem vm1(M:HI n es)(A:HS n es S):qlt (ql9 n es) (qa6 S)=some (((S.length:Nat):Int),0):=by
 have nine:=M.nine;have Z:=qqy S 0 n A.asc fun v I=>⟨v9f _,A.lt v I⟩
 obtain⟨_,e1,W⟩:=qa0 (β:=Int) S.length (fun b i=>(b,i)) (qim (ql9 n es) (qa6 S)) (fun b=>(Sum.inl b:Int⊕(Int×Int))) (fun k b=>b=(k:Int)) (b0:=0) (s0:=(0,0)) rfl rfl
  (fun k b H U=>by
   subst U;have V:=qp7 H;have I:=A.lt _ (ubj H);have E:((S[k]:Nat):Int) ∉ (qa6 S).take k:=fun J=>by
    unfold qa6 at J;rw[<-List.map_take]at J;obtain⟨j,hj,e⟩:=v81.1 J;have:j=S[k]:=by omega
    subst this;exact qrz A.asc H hj
   have O:=q1l ((qa6 S).take k) ((S[k]:Nat):Int) (by rw[v6g];omega);rw[decide_eq_false E]at O;refine⟨((k+1:Nat):Int),?_,rfl⟩;simp only[qim,if_pos (show(k:Int)<((S.length:Nat):Int) by omega),qad V,v7m,if_neg (show ¬((S[k]:Nat):Int)<0 by omega),qeg,if_neg (show ¬((S[k]:Nat):Int)>=((n:Nat):Int) by omega),if_pos (show(0:Int)<=(k:Int) by omega),qb7,if_pos (show(k:Int)<=((S.length:Nat):Int) by omega),v93,O,v5k,if_false,qad (ql3 es I),wqn k])
  (fun b U=>by simp[qim,qb7])
 simp only[qlt,qxc M,v7m,bne_self_eq_false,v5k,if_false,e1,W]
theorem q9e(L:List (List Node))(J:L.flatten.length<=1048576)(hn:L.length<=1048576):qah (qdd L) (0,0)=some (L.flatten.length:Int):=by
 have h:=qe8 L (fun(b:Nat) (i:Int)=>((b:Int),i)) (qdd L) (fun b x=>b+x.length) (fun b=>(b:Int)) (fun k b=>b=(L.take k).flatten.length) (b0:=0) (s0:=(0,0)) rfl (by simp)
  (fun k b x A I E=>by
   have e:(L.take (k+1)).flatten.length=b+x.length:=by
    rw[qbv A,ubh,v6b,E];simp
   have H:(L.take (k+1)).flatten.length<=L.flatten.length:=by
    conv=>rhs;rw[<-v88 (k+1) L,ubh,v6b]
    omega
   have w1:v96.wrap ((b:Int)+(x.length:Int))=((b+x.length:Nat):Int):=by rw[qbg (by omega) (by omega)];omega
   have c:¬(((b+x.length:Nat):Int)<0):=by omega
   refine⟨?_,e.symm⟩;simp only[qdd,if_pos (qan A),qad A,v7m,w1,if_neg c,wqn k])
  (fun b E=>by simp[qdd])
 rw[h];have:∀(L:List (List Node)) (b:Nat),L.foldl (fun b x=>b+x.length) b=b+L.flatten.length:=by
  intro L
  induction L with
  |nil=>intro b;simp
  |cons x L ih=>intro b;simp only[uaj,ih,ubi,v6b];omega
 rw[this];simp
theorem vcd(L:List (List Node))(J:L.flatten.length<=1048576)(hn:L.length<=1048576):qah (qde L) (([]:List Node),0)=some L.flatten:=by
 have h:=qe8 L (fun(b:List Node) (i:Int)=>(b,i)) (qde L) (fun b x=>b++x) id (fun k b=>b=(L.take k).flatten) (b0:=[]) (s0:=([],0)) rfl (by simp)
  (fun k b x E I H=>by
   have e:(L.take (k+1)).flatten=b++x:=by
    rw[qbv E,ubh,H];simp
   have A:(L.take (k+1)).flatten.length<=L.flatten.length:=by
    conv=>rhs;rw[<-v88 (k+1) L,ubh,v6b]
    omega
   have hr:qa8 (b.length+x.length) 32=true:=v4m (by rw[e,v6b]at A;omega);refine⟨?_,e.symm⟩;simp only[qde,if_pos (qan E),qad E,v7m,hr,if_true,wqn k])
  (fun b H=>by simp[qde])
 rw[h];have:∀(L:List (List Node)) (b:List Node),L.foldl (fun b x=>b++x) b=b++L.flatten:=by
  intro L
  induction L with
  |nil=>intro b;simp
  |cons x L ih=>intro b;simp only[uaj,ih,ubi,v5r]
 rw[this];simp
theorem vhi(L:List (List Node))(A:L.flatten.length<=1048576)(hn:L.length<=1048576):qe0 L=some L.flatten:=by
 have E:(0:Int)<=(L.flatten.length:Int):=by omega
 have H:(L.flatten.length:Int)<=1000000000000:=by omega
 simp only[qe0,q9e L A hn,v7m,if_pos E,if_pos H,vcd L A hn]
end Go.Proofs.YtijpapagpebllaaGreatDoor
