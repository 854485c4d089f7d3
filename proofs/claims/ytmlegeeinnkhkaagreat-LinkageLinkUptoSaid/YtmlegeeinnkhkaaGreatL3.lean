/- -/
import Derived.Test.YtmlegeeinnkhkaaGreatL2
import Derived.Test.YtmlegeeinnkhkaaGreatL1
set_option linter.unusedVariables false
set_option linter.unusedSimpArgs false
open Bool renaming and_eq_true→vzm,eq_iff_iff→v3v,false_eq_true→vzo,not_false→v6l,not_true→v4x,or_eq_true→vzr
open Function renaming comp→v6m
open Int renaming lt_irrefl→v4z,natCast_zero→v33,tmod→v34,toNat_natCast→v38
open Go.IntKind renaming i64→v4a,max→v6n,min→v6o
open List renaming Pairwise→v48,Perm→v4d,all_eq_true→v2b,any_eq_true→v2d,append_assoc→vzw,append_nil→vzx,ext_getElem?→vz3,filter_append→v5a,filter_congr→v6p,filter_cons→v4j,findIdx?_cons→v4l,flatMap_cons→v2g,flatMap_nil→v6q,foldl_append→v6r,foldl_cons→v4m,getD_eq_getElem?_getD→v2h,getElem?_append→v5d,getElem?_append_right→vz7,getElem?_cons_zero→v2j,getElem?_drop→vz8,getElem?_eq_getElem→vz9,getElem?_eq_none→v0a,getElem?_eq_some_iff→v0b,getElem?_map→v0c,getElem?_set→v2l,getElem?_take→v0f,getElem_mem→v2o,headD_cons→v0g,length_append→v0h,length_cons→v2p,length_filter_le→v2r,length_map→v0j,length_pos_of_mem→v2s,length_range→v2t,length_range'→v5f,length_set→v0m,length_singleton→v2u,length_take→v0n,map_append→v0o,map_congr_left→v2w,map_eq_nil_iff→v6s,map_flatten→v6t,map_map→v6u,map_singleton→v5i,mem_append→v0r,mem_append_left→v5j,mem_filter→v28,mem_flatMap→v0s,mem_flatten→v6v,mem_iff_getElem→v5k,mem_map→v3a,mem_of_getElem?→v0t,mem_of_mem_take→v0v,mem_range→v3c,mem_singleton→v3d,nil_append→v0y,nodup_append→v5m,nodup_range→v6w,pairwise_flatten→v6x,pairwise_iff_getElem→v5p,pairwise_lt_range→v4r,pairwise_map→v5r,range→v0z,range'→v3f,range'_succ→v5s,range_succ→v4t,replicate→v01,set_append_right→v5w,set_cons_zero→v5x,singleton_append→v6y,take_add_one→v5y,take_length→v52,take_of_length_le→v05,take_zero→v06
open Nat renaming le_of_lt_succ→v6d,le_refl→v1f,lt_or_eq_of_le→v6f,max_eq_right→v6z,min_eq_left→v3j,mul_le_mul→v6h,mul_le_mul_right→v1m,sub_self→v3l,succ_mul→v60,zero_le→v3n
open Option renaming bind_some→v1r,toList_some→v61
open Option.some renaming injEq→v1x
noncomputable section
namespace Go.Proofs.YtmlegeeinnkhkaaGreat
open Go Go.Ab
theorem vet {l:List Int} (h:nfL l):∀(k c:Nat),k≤l.length→c < qb7 (l.take k)→(c:Int)∈l.take k:=by
 intro k
 induction k with
 | zero=>intro c _ hc;simp [qb7] at hc
 | succ k ih =>
  intro c hk hc;have hx:l[k]?=some l[k]:=vz9 (by omega);have h0:=h.1 _ (v0t hx);have hle:=h.2 k _ hx;rw [qk8 l k hx] at hc;rw [v5y,hx];by_cases hcu:c < qb7 (l.take k)
  ·exact v5j _ (ih c (by omega) hcu)
  ·refine List.mem_append_right _ ?_;simp only [v61,v3d];omega
theorem vyv {l:List Int} (h:nfL l) {k:Nat} {x:Int} (hx:x∈l.take k):x.toNat < qb7 (l.take k):=by
 obtain ⟨i,hi,e⟩:=v5k.1 hx;have:(l.take k)[i]?=some x:=by rw [vz9 hi,e]
 exact q9x this
theorem vo0 {l:List Int} (h:nfL l) (hl:l.length≤1000):qj9 l=some l:=by
 have h0:(0:Int)≤(l.length:Int):=by omega
 have hr:qal l.length 8=true:=qrf (by omega);have key:∀(d k:Nat) (m:List (Int×Int)),k+d=l.length→(∀x,qq7 m x=if 0≤x∧x.toNat < qb7 (l.take k) then some x else none)→m.length=qb7 (l.take k)→qae (qf8 l) (m,l.take k++v01 (l.length - k) 0,(k:Int))=some l:=by
  intro d
  induction d with
  | zero =>
   intro k m hk _ _;obtain rfl:k=l.length:=by omega
   exact qad (by simp [qf8])
  | succ d ih =>
   intro k m hk hm hml;have hlt:k < l.length:=by omega
   have hx:l[k]?=some l[k]:=vz9 hlt;have h1:=h.1 _ (v0t hx);have hle:=h.2 k _ hx;have w:=wqn k;have hg:idx (l.take k++v01 (l.length - k) 0) (k:Int)=some 0:=by
    refine qaa ?_;have:(l.take k).length=k:=by rw [v0n];omega
    rw [v5d,this,if_neg (by omega),List.getElem?_replicate,if_pos (by omega)]
   have qqv:(l.take k++v01 (l.length - k) (0:Int)).set k l[k]=l.take (k+1)++v01 (l.length - (k+1)) 0:=by
    have:=vk8 (fun x:Int=>x) 0 l hx;simpa using this
   by_cases hc:l[k].toNat < qb7 (l.take k)
   ·have hmk:qq7 m l[k]=some l[k]:=by rw [hm,if_pos ⟨h1,hc⟩]
    have hu:qb7 (l.take (k+1))=qb7 (l.take k):=by rw [qk8 l k hx];omega
    rw [qac (s':=(m,l.take (k+1)++v01 (l.length - (k+1)) 0,((k+1:Nat):Int))) (by
     simp only [qf8,if_pos (qai hx),qaa hx,v1r,hmk,Option.isSome_some,if_true,hg,Option.getD_some,v38,qqv,w])]
    exact ih (k+1) m (by omega) (by rw [hu];exact hm) (by rw [hu];exact hml)
   ·have hmk:qq7 m l[k]=none:=by rw [hm,if_neg (by omega)]
    have he:(m.length:Int)=l[k]:=by omega
    have hu:qb7 (l.take (k+1))=qb7 (l.take k)+1:=by rw [qk8 l k hx];omega
    rw [qac (s':=(qyo m l[k] (m.length:Int),l.take (k+1)++v01 (l.length - (k+1)) 0,((k+1:Nat):Int))) (by
     simp only [qf8,if_pos (qai hx),qaa hx,v1r,hmk,Option.isSome_none,vzo,if_false,hg,v38,w];rw [he,qqv])]
    refine ih (k+1) _ (by omega) (fun x=>?_) ?_
    ·rw [qx0,hm,hu];by_cases e:x=l[k]
     ·rw [if_pos e,if_pos (by omega),he,e]
     ·rw [if_neg e];by_cases q:0≤x∧x.toNat < qb7 (l.take k)
      ·rw [if_pos q,if_pos (by omega)]
      ·rw [if_neg q,if_neg (by omega)]
    ·rw [veh m _ _ hmk,hu,hml]
 have hk:=key l.length 0 [] (by omega) (by
  intro x;rw [if_neg (by simp [qb7])];rfl) (by simp [qb7])
 simp only [v06,v0y,Nat.sub_zero,v33] at hk;simp only [qj9,if_pos h0,hr,if_true,hk,v1r]
theorem vo1 {l:List Int} (h:nfL l) (hl:l.length≤1000):qi4 l=some l:=by
 have qwb:∀(i:Nat) {x:Int},l[i]?=some x→qae (qcv l (l.take i) (i:Int)) (-1,0)=some (if x∈l.take i then x else -1):=by
  intro i x hx;have hi:=qan hx;have hlt:(l.take i).length=i:=by rw [v0n];omega
  have hf:=qb3 (l.take i) (fun (m:Int) (k:Int)=>(m,k)) (qcv l (l.take i) (i:Int)) (fun m y=>if y=x then y else m) id (fun _ _=>True) (b0:=-1) (s0:=(-1,0)) rfl trivial (by
   intro k m y hy hk _;refine ⟨?_,trivial⟩;have hk':k < i:=by omega
   have c:((k:Int) < (i:Int)):=by omega
   have hy':l[k]?=some y:=by rw [v0f,if_pos hk'] at hy;exact hy
   have w:=wqn k;by_cases e:y=x
   ·simp only [qcv,if_pos c,qaa hy',qaa hx,v1r,beq_iff_eq,if_pos e,qaa hy,w]
   ·simp only [qcv,if_pos c,qaa hy',qaa hx,v1r,beq_iff_eq,if_neg e,w]) (by
   intro m _;rw [hlt];simp only [qcv,if_neg (v4z _),id])
  rw [hf];congr 1;have key:∀(l':List Int) (m:Int),l'.foldl (fun m y=>if y=x then y else m) m=if x∈l' then x else m:=by
   intro l'
   induction l' with
   | nil=>intro m;simp
   | cons y l' ih =>
    intro m;rw [v4m,ih];by_cases e:y=x
    ·subst e;simp
    ·rw [if_neg e];have:x≠y:=fun q=>e q.symm
     simp [this]
  rw [id,key]
 have key:∀(d k:Nat),k+d=l.length→qae (qcw l) (l.take k,(qb7 (l.take k):Int),(k:Int))=some l:=by
  intro d
  induction d with
  | zero =>
   intro k hk;obtain rfl:k=l.length:=by omega
   exact qad (by simp [qcw])
  | succ d ih =>
   intro k hk;have hlt:k < l.length:=by omega
   have hx:l[k]?=some l[k]:=vz9 hlt;have h1:=h.1 _ (v0t hx);have hle:=h.2 k _ hx;have hus:qb7 (l.take k)≤k:=by
    have hnf:nfL (l.take k):=⟨fun x hx=>h.1 x (v0v hx),fun j x hj=>by
     have hjk:j < k:=by have:=qan hj;rw [v0n] at this;omega
     rw [v0f,if_pos hjk] at hj;have:=h.2 j x hj
     rwa [List.take_take,v3j (by omega)]⟩
    have:=qsl hnf;rw [v0n] at this;omega
   have hlen:(l.take k).length=k:=by rw [v0n];omega
   have hroom:qal ((l.take k).length+1) 8=true:=qrf (by omega);have w:=wqn k;have wu:=qk6 (show qb7 (l.take k) < 4611686018427387904 by omega);have ht:l.take (k+1)=l.take k++[l[k]]:=by rw [v5y,hx];rfl
   by_cases hm:l[k]∈l.take k
   ·have hlt':=vyv h hm;have c:¬(l[k] < 0):=by omega
    have hu:qb7 (l.take (k+1))=qb7 (l.take k):=by rw [qk8 l k hx];omega
    rw [qac (s':=(l.take (k+1),(qb7 (l.take (k+1)):Int),((k+1:Nat):Int))) (by
     simp only [qcw,if_pos (qai hx),qwb k hx,if_pos hm,v1r,if_neg c,hroom,if_true,hu,w,←ht])]
    exact ih (k+1) (by omega)
   ·have hge:¬l[k].toNat < qb7 (l.take k):=fun q=>hm (by
     have:=vet h k l[k].toNat (by omega) q
     rwa [Int.toNat_of_nonneg h1] at this)
    have he:l[k]=(qb7 (l.take k):Int):=by omega
    have hu:qb7 (l.take (k+1))=qb7 (l.take k)+1:=by rw [qk8 l k hx];omega
    have c:(-1:Int) < 0:=by omega
    rw [qac (s':=(l.take (k+1),(qb7 (l.take (k+1)):Int),((k+1:Nat):Int))) (by
     simp only [qcw,if_pos (qai hx),qwb k hx,if_neg hm,v1r,if_pos c,hroom,if_true,hu,w,wu];rw [←he,←ht])]
    exact ih (k+1) (by omega)
 have hk:=key l.length 0 (by omega);simp only [v06,v33] at hk;have hk':qae (qcw l) ([],0,0)=some l:=hk;simp only [qi4,hk',v1r]
def qx8 (r:List Int) (k c:Nat):List Nat:=(v0z k).filter fun i=>decide (r.getD i 0=(c:Int))
def qk9 (r:List Int) (k:Nat):List (List Int):=(v0z (qb7 (r.take k))).map fun c=>qbw (qx8 r k c)
theorem qx9 (r:List Int) (k c:Nat):qx8 r (k+1) c=qx8 r k c++if r.getD k 0=(c:Int) then [k] else []:=by
 unfold qx8;rw [v4t,v5a];congr 1;by_cases h:r.getD k 0=(c:Int)
 ·rw [if_pos h,v4j,if_pos (decide_eq_true h)];rfl
 ·rw [if_neg h,v4j,if_neg (by rw [decide_eq_true_eq];exact h)];rfl
theorem veu {r:List Int} (h:nfL r) (hl:r.length≤1000):qae (qcx r) ([],0)=some (qk9 r r.length):=by
 have key:∀(d k:Nat),k+d=r.length→qae (qcx r) (qk9 r k,(k:Int))=some (qk9 r r.length):=by
  intro d
  induction d with
  | zero =>
   intro k hk;obtain rfl:k=r.length:=by omega
   exact qad (by simp only [qcx,if_neg (v4z _)])
  | succ d ih =>
   intro k hk;have hlt:k < r.length:=by omega
   have hx:r[k]?=some r[k]:=vz9 hlt;have hxd:r.getD k 0=r[k]:=by simp [v2h,hx]
   have h1:=h.1 _ (v0t hx);have hle:=h.2 k _ hx;have hgl:(qk9 r k).length=qb7 (r.take k):=by simp [qk9]
   have w:=wqn k;have hus:qb7 (r.take k)≤1000:=by
    have:(r.take k).length≤1000:=by rw [v0n];omega
    have hh:∀(l:List Int) (m:Nat),(∀x∈l,x.toNat≤1000)→True:=fun _ _ _=>trivial
    have hnf:nfL (r.take k):=⟨fun x hx=>h.1 x (v0v hx),fun j x hj=>by
     have hjk:j < k:=by have:=qan hj;rw [v0n] at this;omega
     rw [v0f,if_pos hjk] at hj;have:=h.2 j x hj
     rwa [List.take_take,v3j (by omega)]⟩
    have:=qsl hnf;omega
   have hml:∀c,(qbw (qx8 r k c)).length≤k:=by
    intro c;unfold qbw qx8;rw [v0j];have:=v2r (fun i=>decide (r.getD i 0=(c:Int))) (v0z k)
    rwa [v2t] at this
   by_cases hc:r[k].toNat < qb7 (r.take k)
   ·have hne:(r[k] == (((qk9 r k).length:Nat):Int))=false:=by rw [hgl,beq_eq_false_iff_ne];omega
    have hu:qb7 (r.take (k+1))=qb7 (r.take k):=by rw [qk8 r k hx];omega
    have hg:idx (qk9 r k) r[k]=some (qbw (qx8 r k r[k].toNat)):=by
     conv=>lhs;rw [show r[k]=((r[k].toNat:Nat):Int) by omega]
     exact qaa (ql4 _ hc)
    have hroom:qal ((qbw (qx8 r k r[k].toNat)).length+1) 8=true:=qrf (by have:=hml r[k].toNat;omega);have qqv:(qk9 r k).set r[k].toNat (qbw (qx8 r k r[k].toNat)++[(k:Int)])=qk9 r (k+1):=by
     unfold qk9;rw [hu];have:=qic (fun c=>qbw (qx8 r k c)) (fun c=>qbw (qx8 r (k+1) c)) hc (fun u hu hne=>by
      rw [qx9,hxd,if_neg (by omega),vzx])
     rw [←this,qx9,hxd,if_pos (by omega)];simp [qbw]
    rw [qac (s':=(qk9 r (k+1),((k+1:Nat):Int))) (by
     simp only [qcx,if_pos (qai hx),qaa hx,v1r,hne,vzo,if_false,hg,hroom,if_true,qqv,w])]
    exact ih (k+1) (by omega)
   ·have he:r[k]=((qb7 (r.take k):Nat):Int):=by omega
    have heq:(r[k] == (((qk9 r k).length:Nat):Int))=true:=by rw [hgl,beq_iff_eq,he]
    have hu:qb7 (r.take (k+1))=qb7 (r.take k)+1:=by rw [qk8 r k hx];omega
    have hr1:qal ((qk9 r k).length+1) 24=true:=by unfold qal;rw [hgl];simp only [decide_eq_true_eq];omega
    have hg:idx (qk9 r k++[[]]) r[k]=some []:=by
     rw [he];refine qaa ?_;rw [v5d,hgl,if_neg (by omega),v3l];rfl
    have hr2:qal (([]:List Int).length+1) 8=true:=qrf (by simp);have qqv:(qk9 r k++[[]]).set r[k].toNat ([]++[(k:Int)])=qk9 r (k+1):=by
     have htn:r[k].toNat=qb7 (r.take k):=by omega
     rw [htn,v5w _ _ (by omega),hgl,v3l,v5x];unfold qk9;rw [hu,v4t,v0o,v5i];congr 1
     ·refine v2w fun c hc'=>?_
      have:=v3c.1 hc';rw [qx9,hxd,if_neg (by omega),vzx]
     ·rw [qx9,hxd,if_pos he];have:qx8 r k (qb7 (r.take k))=[]:=by
       unfold qx8;rw [List.filter_eq_nil_iff];intro i hi hq;have hik:=v3c.1 hi;rw [decide_eq_true_eq] at hq;have hri:r[i]?=some (r.getD i 0):=by simp [v2h,vz9 (show i < r.length by omega)]
       have hm:r.getD i 0∈r.take k:=by
        refine v0t (i:=i) ?_;rw [v0f,if_pos hik];exact hri
       have:=vyv h hm;omega
      rw [this];rfl
    rw [qac (s':=(qk9 r (k+1),((k+1:Nat):Int))) (by
     simp only [qcx,if_pos (qai hx),qaa hx,v1r,heq,if_true,hr1,hg,hr2,qqv,w])]
    exact ih (k+1) (by omega)
 have hk:=key r.length 0 (by omega);have e0:qk9 r 0=[]:=by simp [qk9,qb7]
 rw [e0] at hk;simpa using hk
theorem vo2 {r:List Int} (h:nfL r) (hl:r.length≤1000):qgf r=some (qk9 r r.length):=by
 simp only [qgf,vo1 h hl,v1r,veu h hl]
def qdv (r:List Int) (C:List Nat):List (List Nat):=(v0z (qb7 r)).map fun c=>(qx8 r r.length c).map fun i=>C.getD i 0
def wT (t:Table) (l:Linkage) (a b:Nat):Int:=if a=b then 0 else if mT t l (min a b) (max a b) then 1 else -1
theorem vyw (t:Table) (l:Linkage):WOk (wT t l):=by
 refine ⟨fun i k=>?_,fun i k=>?_,fun i=>by simp [wT]⟩
 ·unfold wT;split
  ·omega
  ·split <;> omega
 ·unfold wT;by_cases h:i=k
  ·rw [if_pos h,if_pos h.symm]
  ·rw [if_neg h,if_neg (show ¬k=i from fun e=>h e.symm),Nat.min_comm,Nat.max_comm]
theorem vev {W:Nat→Nat→Int} (h:WOk W) (C:List Nat):WOk (qnp W C):=⟨fun i k=>h.1 _ _,fun i k=>h.2.1 _ _,fun i=>h.2.2 _⟩
def vlj (t:Table) (l:Linkage) (M:List (Arr2_int×Bool)):Prop:=∀a b:Nat,a < b→b < t.Rows.length→(qq7 M ⟨(a:Int),(b:Int)⟩).getD false=mT t l a b
theorem vaz {C:List Nat} {i:Nat} (h:i < C.length):(qbw C)[i]?=some ((C.getD i 0:Nat):Int):=by
 simp [qbw,v2h,vz9 h]
theorem q7p {C:List Nat} (h:C.Pairwise (· < ·)) {i k:Nat} (hik:i < k) (hk:k < C.length):C.getD i 0 < C.getD k 0:=by
 have:=(v5p.1 h) i k (by omega) hk hik;simpa [v2h,vz9 hk,vz9 (show i < C.length by omega)] using this
theorem q5g {n:Nat} (h:n≤1000000):qal n 24=true:=by
 unfold qal;simp only [decide_eq_true_eq];omega
theorem vc8 {t:Table} {l:Linkage} {M:List (Arr2_int×Bool)} (hM:vlj t l M) {C:List Nat} (hC:C.Pairwise (· < ·)) (hCn:∀x∈C,x < t.Rows.length) (hn:C.length≤6) :
  qae (qga (qbw C) M) ([],0)=some (qa7 (qnp (wT t l) C) C.length):=by
 have hlen:(qbw C).length=C.length:=by simp [qbw]
 have qwb:∀(i:Nat),i < C.length→∀(d k:Nat) (out:List Pair),i < k→k+d=C.length→out.length+d≤1000→qae (qf9 (qbw C) M (i:Int)) (out,(k:Int))=some (out++(v3f k d).flatMap fun (j:Nat)=>[(⟨(i:Int),(j:Int),qnp (wT t l) C i j⟩:Pair)]):=by
  intro i hi d
  induction d with
  | zero =>
   intro k out _ hk _;have c:¬((k:Int) < ((qbw C).length:Int)):=by omega
   rw [qad (t:=out) (by simp only [qf9,if_neg c])];simp
  | succ d ih =>
   intro k out hik hk hl;have hk':k < C.length:=by omega
   have c:((k:Int) < ((qbw C).length:Int)):=by omega
   have hr:qal (out.length+1) 24=true:=q5g (by omega);have hlt:=q7p hC hik hk';have hbn:C.getD k 0 < t.Rows.length:=hCn _ (v0t (i:=k) (by simp [v2h,vz9 hk']));have hm:=hM _ _ hlt hbn;have w:=wqn k;have hw:qnp (wT t l) C i k=if mT t l (C.getD i 0) (C.getD k 0)=true then 1 else -1:=by
    unfold qnp wT;rw [if_neg (by omega),v3j (by omega),v6z (by omega)]
   have hb:qf9 (qbw C) M (i:Int) (out,(k:Int))=some (.next (out++[(⟨(i:Int),(k:Int),qnp (wT t l) C i k⟩:Pair)],((k+1:Nat):Int))):=by
    simp only [qf9,if_pos c,qaa (vaz hi),qaa (vaz hk'),v1r,hm,hr,if_true,w,hw];cases mT t l (C.getD i 0) (C.getD k 0) <;> rfl
   rw [qac hb,ih (k+1) _ (by omega) (by omega) (by rw [v0h,v2u];omega),v5s,v2g,vzw]
 have outer:=qk7 (qga (qbw C) M) (fun i=>(v3f (i+1) (C.length - (i+1))).flatMap fun (k:Nat)=>if true=true then [(⟨(i:Int),(k:Int),qnp (wT t l) C i k⟩:Pair)] else []) C.length 100 6 (by
  intro i out hi hl;have c:((i:Int) < ((qbw C).length:Int)):=by omega
  have w:=wqn i;have hin:=qwb i hi (C.length - (i+1)) (i+1) out (by omega) (by omega) (by omega);simp only [qga,if_pos c,w,hin,v1r,if_true]) (by
  intro i _;have:=ql3 (fun (k:Nat)=>if true=true then [(⟨(i:Int),(k:Int),qnp (wT t l) C i k⟩:Pair)] else []) 1 (v3f (i+1) (C.length - (i+1))) (fun k _=>by simp);rw [v5f] at this;omega) (by
  intro out;have c:¬((C.length:Int) < ((qbw C).length:Int)):=by omega
  simp only [qga,if_neg c]) C.length 0 [] (by omega) (by simp;omega)
 simp only [v33,v0y] at outer;exact outer
theorem va0 (comp x:List Int) (hx:∀y∈x,0≤y∧y < (comp.length:Int)) (hlen:x.length≤1000) (k:Nat):∀(d j:Nat) (G:List (List Int)),j+d=x.length→k < G.length→G[k]?=some ((x.take j).map (fun y=>comp.getD y.toNat 0)++x.drop j) →
  qae (qix comp (k:Int) x) (G,(j:Int))=some (G.set k (x.map fun y=>comp.getD y.toNat 0)):=by
 intro d
 induction d with
 | zero =>
  intro j G hj hk hG;obtain rfl:j=x.length:=by omega
  have c:¬((x.length:Int) < ((x.length:Nat):Int)):=by omega
  rw [qad (t:=G) (by simp only [qix,if_neg c])];congr 1;refine vz3 fun i=>?_
  rw [v2l];by_cases e:k=i
  ·subst e;rw [if_pos rfl,if_pos hk,hG];simp
  ·rw [if_neg e]
 | succ d ih =>
  intro j G hj hk hG;have hlt:j < x.length:=by omega
  have hxj:x[j]?=some x[j]:=vz9 hlt;obtain ⟨h1,h2⟩:=hx _ (v0t hxj);have c:((j:Int) < ((x.length:Nat):Int)):=by omega
  have w:=wqn j;have hl:((x.take j).map (fun y=>comp.getD y.toNat 0)).length=j:=by rw [v0j,v0n];omega
  have g2:idx ((x.take j).map (fun y=>comp.getD y.toNat 0)++x.drop j) (j:Int)=some x[j]:=by
   refine qaa ?_;rw [v5d,hl,if_neg (by omega),v3l,vz8,Nat.add_zero,hxj]
  have g3:idx comp x[j]=some (comp.getD x[j].toNat 0):=by
   conv=>lhs;rw [show x[j]=((x[j].toNat:Nat):Int) by omega]
   refine qaa ?_;simp [v2h,vz9 (show x[j].toNat < comp.length by omega)]
  have qqv:((x.take j).map (fun y=>comp.getD y.toNat 0)++x.drop j).set j (comp.getD x[j].toNat 0)=(x.take (j+1)).map (fun y=>comp.getD y.toNat 0)++x.drop (j+1):=by
   rw [v5w _ _ (by omega),hl,v3l,qlu hxj,v5x,v5y,hxj,v61,v0o,v5i,vzw,v6y]
  rw [qac (s':=(G.set k ((x.take (j+1)).map (fun y=>comp.getD y.toNat 0)++x.drop (j+1)),((j+1:Nat):Int))) (by
   simp only [qix,if_pos c,qaa hG,g2,g3,v1r,v38,qqv,w])]
  rw [ih (j+1) _ (by omega) (by rw [v0m];exact hk) (by rw [v2l,if_pos rfl,if_pos hk]),List.set_set]
theorem va1 (comp:List Int) (out:List (List Int)) (ho:∀x∈out,(∀y∈x,0≤y∧y < (comp.length:Int))∧x.length≤1000) (hlen:out.length≤1000):qae (qe9 comp out) (out,0)=some (out.map fun x=>x.map fun y=>comp.getD y.toNat 0):=by
 have key:∀(d k:Nat),k+d=out.length→qae (qe9 comp out) ((out.take k).map (fun x=>x.map fun y=>comp.getD y.toNat 0)++out.drop k,(k:Int))=some (out.map fun x=>x.map fun y=>comp.getD y.toNat 0):=by
  intro d
  induction d with
  | zero =>
   intro k hk;obtain rfl:k=out.length:=by omega
   exact qad (by simp [qe9])
  | succ d ih =>
   intro k hk;have hlt:k < out.length:=by omega
   have hx:out[k]?=some out[k]:=vz9 hlt;obtain ⟨h1,h2⟩:=ho _ (v0t hx);have c:((k:Int) < ((out.length:Nat):Int)):=by omega
   have hl:((out.take k).map (fun x=>x.map fun y=>comp.getD y.toNat 0)).length=k:=by rw [v0j,v0n];omega
   have g:((out.take k).map (fun x=>x.map fun y=>comp.getD y.toNat 0)++out.drop k)[k]?=some out[k]:=by
    rw [v5d,hl,if_neg (by omega),v3l,vz8,Nat.add_zero,hx]
   have hin:=va0 comp out[k] h1 h2 k out[k].length 0 _ (by omega) (qan g) (by simpa using g);simp only [v33] at hin;have qqv:((out.take k).map (fun x=>x.map fun y=>comp.getD y.toNat 0)++out.drop k).set k (out[k].map fun y=>comp.getD y.toNat 0)=(out.take (k+1)).map (fun x=>x.map fun y=>comp.getD y.toNat 0)++out.drop (k+1):=by
    rw [v5w _ _ (by omega),hl,v3l,qlu hx,v5x,v5y,hx,v61,v0o,v5i,vzw,v6y]
   rw [qac (s':=((out.take (k+1)).map (fun x=>x.map fun y=>comp.getD y.toNat 0)++out.drop (k+1),((k+1:Nat):Int))) (by
    simp only [qe9,if_pos c,qaa g,hin,v1r,qqv,wqn k])]
   exact ih (k+1) (by omega)
 have h:=key out.length 0 (by omega);simpa using h
theorem q7q {r:List Int} {k c i:Nat} (h:i∈qx8 r k c):i < k:=v3c.1 (v28.1 h).1
def qj2 (W:Nat→Nat→Int) (C:List Nat):List Int:=((vmb (qnp W C) C.length).map (·.1)).getD []
theorem qsm (W:Nat→Nat→Int) (C:List Nat):∃c,vmb (qnp W C) C.length=some (qj2 W C,c)∧nfL (qj2 W C)∧(qj2 W C).length=C.length:=by
 obtain ⟨l,c,h,hm,_,_⟩:=q11 (qnp W C) C.length;have e:qj2 W C=l:=by unfold qj2;rw [h];rfl
 rw [e];exact ⟨c,h,q7n _ [] 0 l vlf rfl hm,by simpa using (qtp _ [] 0 l hm).1⟩
theorem vo3 {t:Table} {l:Linkage} {M:List (Arr2_int×Bool)} (hM:vlj t l M) {C:List Nat} (hC:C.Pairwise (· < ·)) (hCn:∀x∈C,x < t.Rows.length) (h1:1≤C.length) (hn:C.length≤6) :
  qln (qbw C) M=some ((qdv (qj2 (wT t l) C) C).map qbw,0):=by
 have hlen:(qbw C).length=C.length:=by simp [qbw]
 obtain ⟨c0,hb,hnf,hbl⟩:=qsm (wT t l) C;obtain ⟨b,c,ho,hp⟩:=vld (qnp (wT t l) C) (vev (vyw t l) C) C.length h1 hn;rw [hb] at ho;simp only [v1x,Prod.mk.injEq] at ho;obtain ⟨e1,e2⟩:=ho;subst e1;have c1:((qbw C).length:Int)≤10:=by omega
 have hN:=vo0 hnf (by omega);have hG:qae (qm9 (qj2 (wT t l) C)) ([],0)=some (qk9 (qj2 (wT t l) C) (qj2 (wT t l) C).length):=veu hnf (by omega);have hR:=va1 (qbw C) (qk9 (qj2 (wT t l) C) (qj2 (wT t l) C).length) (by
  intro x hx;obtain ⟨c,_,rfl⟩:=v3a.1 hx;refine ⟨?_,?_⟩
  ·intro y hy;obtain ⟨i,hi,rfl⟩:=q2s.1 hy;have:=q7q hi;omega
  ·have:=v2r (fun i=>decide ((qj2 (wT t l) C).getD i 0=(c:Int))) (v0z (qj2 (wT t l) C).length);simp only [qbw,v0j,qx8];rw [v2t] at this;omega) (by
  have:=qsl hnf;simp only [qk9,v0j,v2t,v52];omega)
 have hfin:((qk9 (qj2 (wT t l) C) (qj2 (wT t l) C).length).map fun x=>x.map fun y=>(qbw C).getD y.toNat 0)=(qdv (qj2 (wT t l) C) C).map qbw:=by
  unfold qk9 qdv;rw [v6u,v6u,v52];refine v2w fun c _=>?_
  simp only [v6m,qbw,v6u];refine v2w fun i hi=>?_
  have hic:=q7q hi;simp only [v6m,v38];simp [v2h,vz9 (show i < C.length by omega)]
 rw [hfin] at hR;rw [←hlen] at hp;have hp':qiw (((qbw C).length:Nat):Int) (qa7 (qnp (wT t l) C) C.length)=some (qj2 (wT t l) C,c,0):=by rw [hlen] at hp ⊢;exact hp
 simp only [qln,vc8 hM hC hCn hn,v1r,if_pos c1,hp',bne_self_eq_false,vzo,if_false,hN,hG,hR]
end Go.Proofs.YtmlegeeinnkhkaaGreat
namespace Go.Ab
open Go
variable {α κ:Type} [DecidableEq κ]
def keysF (key:α→κ) (ks:List κ) (x:α):List κ:=if key x∈ks then ks else ks++[key x]
def vyx (key:α→κ) (l:List α):List κ:=l.foldl (keysF key) []
def vtu (key:α→κ) (l:List α):List (List α):=(vyx key l).map fun k=>l.filter fun x=>decide (key x=k)
end Go.Ab
namespace Go.Ab
open Go
def bitsN (n:Nat):List Nat:=(v0z 32).filter fun k=>n.testBit k
end Go.Ab
namespace Go.Proofs.YtmlegeeinnkhkaaGreat
open Go Go.Ab
end Go.Proofs.YtmlegeeinnkhkaaGreat
namespace Go.Ab
open Go
def numB (u:Nat):List UInt8:=[56,48,40,32,24,16,8,0].map fun s=>UInt8.ofNat (u / 2 ^ s)
def escB:List UInt8→List UInt8
 | []=>[]
 | c :: s=>if c=0 then 0 :: 255 :: escB s else c :: escB s
end Go.Ab
namespace Go.Proofs.YtmlegeeinnkhkaaGreat
open Go Go.Ab
def vyy (n:Int):Nat:=(n+9223372036854775808).toNat
def keyV (v:Value):List UInt8:=UInt8.ofNat v.Kind.toNat :: (if v.Kind=1∨v.Kind=3 then numB (vyy v.Num) else if v.Kind=2 then escB v.Str++[0,1] else [])
def numOk (v:Value):Prop:=-9223372036854775808≤v.Num∧v.Num≤9223372036854775807
structure GT (t:Table):Prop where
 ok:TableOk t
 err:qbb t=0
 num:∀r∈t.Rows,∀v∈r.Values,numOk v
theorem GT.attrs {t:Table} (h:GT t):t.Attrs.length≤16:=by
 have:=h.err;unfold qbb at this;split at this
 ·cases this
 ·split at this
  ·cases this
  ·omega
theorem GT.rows {t:Table} (h:GT t):t.Rows.length≤1000:=by
 have:=h.err;unfold qbb at this;split at this
 ·cases this
 ·split at this
  ·cases this
  ·split at this
   ·cases this
   ·omega
def rowN (t:Table) (i:Nat):Row:=t.Rows.getD i ⟨0,[]⟩
def rkey (s:Nat) (r:Row):List UInt8:=(bitsN s).flatMap fun k=>keyV (qav r k)
def qa3 (t:Table) (p:Nat) (c:List Nat):List (List Nat):=vtu (fun i=>rkey p (rowN t i)) c
theorem vtv {n:Int} (h:okI .i64 n):-9223372036854775808≤n∧n≤9223372036854775807:=by
 have h':(decide (v6o .i64≤n) && decide (n≤v6n .i64))=true:=h;simp only [vzm,decide_eq_true_eq] at h';have e1:v6o .i64=-9223372036854775808:=by decide
 have e2:v6n .i64=9223372036854775807:=by decide
 rw [e1,e2] at h';exact h'
theorem gt_of {t:Table} (h:qsc t) (he:qbb t=0):GT t:=by
 refine ⟨vn5 h,he,fun r hr v hv=>?_⟩;exact vtv ((h.2.2.2 r hr).2.2 v hv).2.1
theorem q0e {α β:Type} (f:α→β):∀l:List α,(l.flatMap fun i=>[f i])=l.map f
 | []=>rfl
 | x :: l=>by rw [v2g,q0e f l];rfl
def vqa:List Value:=[⟨1,0,[]⟩,⟨1,1,[]⟩,⟨1,2,[]⟩,⟨0,0,[]⟩,⟨2,0,[97]⟩,⟨2,0,[98]⟩,⟨2,0,[]⟩,⟨3,1,[]⟩,⟨1,-1,[]⟩,⟨2,0,[97,98]⟩,⟨3,2,[]⟩,⟨1,7,[]⟩]
theorem vtw (c:Int):∃v,qe0 c=some v∧v∈vqa:=by
 unfold qe0;by_cases h0:(v34 c 12 == 0)=true
 ·rw [if_pos h0];exact ⟨_,rfl,by decide⟩
 rw [if_neg h0];by_cases h1:(v34 c 12 == 1)=true
 ·rw [if_pos h1];exact ⟨_,rfl,by decide⟩
 rw [if_neg h1];by_cases h2:(v34 c 12 == 2)=true
 ·rw [if_pos h2];exact ⟨_,rfl,by decide⟩
 rw [if_neg h2];by_cases h3:(v34 c 12 == 3)=true
 ·rw [if_pos h3];exact ⟨_,rfl,by decide⟩
 rw [if_neg h3];by_cases h4:(v34 c 12 == 4)=true
 ·rw [if_pos h4];exact ⟨_,rfl,by decide⟩
 rw [if_neg h4];by_cases h5:(v34 c 12 == 5)=true
 ·rw [if_pos h5];exact ⟨_,rfl,by decide⟩
 rw [if_neg h5];by_cases h6:(v34 c 12 == 6)=true
 ·rw [if_pos h6];exact ⟨_,rfl,by decide⟩
 rw [if_neg h6];by_cases h7:(v34 c 12 == 7)=true
 ·rw [if_pos h7];exact ⟨_,rfl,by decide⟩
 rw [if_neg h7];by_cases h8:(v34 c 12 == 8)=true
 ·rw [if_pos h8];exact ⟨_,rfl,by decide⟩
 rw [if_neg h8];by_cases h9:(v34 c 12 == 9)=true
 ·rw [if_pos h9];exact ⟨_,rfl,by decide⟩
 rw [if_neg h9];by_cases h10:(v34 c 12 == 10)=true
 ·rw [if_pos h10];exact ⟨_,rfl,by decide⟩
 rw [if_neg h10];exact ⟨_,rfl,by decide⟩
theorem vyz (c:Int):q1t (ofV c):=by
 obtain ⟨v,h1,h2⟩:=vtw c;have:ofV c=v:=by unfold ofV;rw [h1];rfl
 rw [this];have all:∀w∈vqa,((Lit.int .i64 w.Kind).wf && (Lit.int .i64 w.Num).wf && decide (w.Str.length≤1048576))=true:=by decide
 have:=all v h2;simp only [vzm,decide_eq_true_eq] at this;exact ⟨this.1.1,this.1.2,this.2⟩
theorem vy0 {n:Int} (h1:-9223372036854775808≤n) (h2:n≤9223372036854775807):okI .i64 n:=by
 show (decide (v6o .i64≤n) && decide (n≤v6n .i64))=true;have e1:v6o .i64=-9223372036854775808:=by decide
 have e2:v6n .i64=9223372036854775807:=by decide
 rw [e1,e2,vzm,decide_eq_true_eq,decide_eq_true_eq];exact ⟨h1,h2⟩
theorem vtx (x:Drossref03_Recipe) (n:Nat) (hn:n≤8) (hr:x.Rows.length≤8):qsc (vem x n):=by
 refine ⟨by show okS [114];unfold okS;decide,⟨?_,fun s hs=>?_⟩,⟨?_,fun r h=>?_⟩⟩
 ·simp only [vem,v0n];omega
 ·have hm:s∈qrm:=v0v hs;have:∀w∈qrm,w.length≤1048576:=by decide
  exact this s hm
 ·simp only [vem,v0j,v2t];omega
 ·obtain ⟨i,hi,rfl⟩:=v3a.1 h;have hi':=v3c.1 hi;have hs:qu1 x≤3:=by unfold qu1;omega
  have hm:i * qu1 x≤8 * 3:=v6h (by omega) hs;refine ⟨vy0 (by simp only [vel];omega) (by simp only [vel];omega),?_,fun v hv=>?_⟩
  ·simp only [vel,v0j,v2t];omega
  ·obtain ⟨k,_,rfl⟩:=v3a.1 hv;exact vyz _
theorem Good.gt {t:Table} (G:Good t) (h:qsc t):GT t:=gt_of h G.err
end Go.Proofs.YtmlegeeinnkhkaaGreat
namespace Go.Ab
open Go
end Go.Ab
namespace Go.Proofs.YtmlegeeinnkhkaaGreat
open Go Go.Ab
end Go.Proofs.YtmlegeeinnkhkaaGreat
namespace Go.Ab
open Go
end Go.Ab
namespace Go.Proofs.YtmlegeeinnkhkaaGreat
open Go Go.Ab
def befN (q z:Nat×Nat):Prop:=lexN q.1 z.1∨(q.1=z.1∧q.2 < z.2)
instance instDecBefN (q z:Nat×Nat):Decidable (befN q z):=by unfold befN;exact inferInstance
end Go.Proofs.YtmlegeeinnkhkaaGreat
namespace Go.Ab
open Go
end Go.Ab
namespace Go.Proofs.YtmlegeeinnkhkaaGreat
open Go Go.Ab
def ltL:List Int→List Int→Bool
 | [],[]=>false
 | [],_ :: _=>true
 | _ :: _,[]=>false
 | x :: a,y :: b=>if x=y then ltL a b else decide (x < y)
theorem vlk:∀a:List Int,ltL a a=false
 | []=>rfl
 | x :: a=>by rw [ltL,if_pos rfl,vlk a]
theorem q2u:∀a b:List Int,ltL a b=false→ltL b a=false→a=b
 | [],[],_,_=>rfl
 | [],_ :: _,h,_=>by cases h
 | _ :: _,[],_,h=>by cases h
 | x :: a,y :: b,h1,h2=>by
  rw [ltL] at h1 h2;by_cases e:x=y
  ·subst e;rw [if_pos rfl] at h1 h2;rw [q2u a b h1 h2]
  ·rw [if_neg e] at h1;rw [if_neg (fun e'=>e e'.symm)] at h2;simp at h1 h2;omega
theorem q2v:∀a b c:List Int,ltL a b=true→ltL b c=true→ltL a c=true
 | [],[],_,h,_=>by cases h
 | _ :: _,[],_,h,_=>by cases h
 | _,_ :: _,[],_,h=>by cases h
 | [],_ :: _,_ :: _,_,_=>rfl
 | x :: a,y :: b,z :: c,h1,h2=>by
  rw [ltL] at h1 h2 ⊢;by_cases e1:x=y
  ·subst e1;rw [if_pos rfl] at h1;by_cases e2:x=z
   ·subst e2;rw [if_pos rfl] at h2 ⊢;exact q2v a b c h1 h2
   ·rw [if_neg e2] at h2 ⊢;exact h2
  ·rw [if_neg e1] at h1;by_cases e2:y=z
   ·subst e2;rw [if_neg e1];exact h1
   ·rw [if_neg e2] at h2;have h1':x < y:=by simpa using h1
    have h2':y < z:=by simpa using h2
    rw [if_neg (by omega)];simp;omega
theorem vty (a b c:List Int) (h1:ltL a b=false) (h2:ltL b c=false):ltL a c=false:=by
 cases h:ltL a c with
 | false=>rfl
 | true =>
  exfalso;cases h3:ltL b a with
  | true =>
   have:=q2v b a c h3 h;rw [h2] at this;cases this
  | false =>
   have:=q2u a b h1 h3;subst this;rw [h2] at h;cases h
theorem q0n {α:Type} {l:List α} {k:Nat} {x:α} {r:List α} (h:l.drop k=x :: r):l[k]?=some x∧l.drop (k+1)=r∧k < l.length:=by
 have h1:l[k]?=some x:=by
  have:=congrArg (·[0]?) h;simpa [vz8] using this
 exact ⟨h1,by rw [←List.drop_drop,h];rfl,qan h1⟩
theorem q0o {α:Type} {l:List α} {k:Nat} (h:l.drop k=[]) (hk:k≤l.length):k=l.length:=by
 have:=congrArg List.length h;simp at this;omega
theorem qvw (a b:List Int) (ha:a.length≤1000000) (hb:b.length≤1000000):∀(ra rb:List Int) (k:Nat),a.drop k=ra→b.drop k=rb→k≤a.length→k≤b.length →
  ∃o,qae (qba a b) (k:Int)=some o∧(match o with | .inl ()=>if (a.length:Int) < (b.length:Int) then -1 else 0 | .inr r=>r)=if ltL ra rb=true then (-1:Int) else if ltL rb ra=true then 1 else 0
 | [],[],k,h1,h2,h3,h4=>by
  have e1:=q0o h1 h3;have e2:=q0o h2 h4;refine ⟨.inl (),qad (by simp [qba,e1]),?_⟩;simp only;rw [if_neg (by omega)];rfl
 | [],y :: rb,k,h1,h2,h3,h4=>by
  have e1:=q0o h1 h3;have e2:=(q0n h2).2.2;refine ⟨.inl (),qad (by simp [qba,e1]),?_⟩;simp only;rw [if_pos (by omega)];rfl
 | x :: ra,[],k,h1,h2,h3,h4=>by
  have e2:=q0o h2 h4;obtain ⟨x1,x2,x3⟩:=q0n h1;refine ⟨.inr 1,qad (by simp only [qba,if_pos (qai x1),qaa x1,v1r,if_pos (show (k:Int)≥(b.length:Int) by omega)]),?_⟩;simp [ltL]
 | x :: ra,y :: rb,k,h1,h2,h3,h4=>by
  obtain ⟨x1,x2,x3⟩:=q0n h1;obtain ⟨y1,y2,y3⟩:=q0n h2;by_cases e:x=y
  ·subst e;obtain ⟨o,ho1,ho2⟩:=qvw a b ha hb ra rb (k+1) x2 y2 x3 y3;refine ⟨o,?_,?_⟩
   ·rw [qac (s':=((k+1:Nat):Int)) (by simp only [qba,if_pos (qai x1),if_neg (show ¬(k:Int)≥(b.length:Int) by omega),qaa x1,qaa y1,v1r,qp6,vnx,bne_self_eq_false,vzo,if_false,qat x3 (show a.length≤4611686018427387904 by omega)])];exact ho1
   ·rw [ho2,ltL,ltL,if_pos rfl,if_pos rfl]
  ·refine ⟨.inr (sgn x y),qad ?_,?_⟩
   ·have:(sgn x y != 0)=true:=by simpa using vp1 e
    simp only [qba,if_pos (qai x1),if_neg (show ¬(k:Int)≥(b.length:Int) by omega),qaa x1,qaa y1,v1r,qp6,this,if_true]
   ·simp only [ltL,if_neg e,if_neg (fun e'=>e e'.symm:¬y=x)];unfold sgn;by_cases h:x < y
    ·simp [h]
    ·have:y < x:=by omega
     simp [h,this]
def vll (a b:List Int):Int:=if ltL a b=true then -1 else if ltL b a=true then 1 else 0
theorem qz0 (a b:List Int) (ha:a.length≤1000000) (hb:b.length≤1000000):qam a b=some (vll a b):=by
 obtain ⟨o,h1,h2⟩:=qvw a b ha hb a b 0 rfl rfl (v3n _) (v3n _);have h1':qae (qba a b) 0=some o:=h1;unfold qam vll;rw [h1',v1r,←h2];cases o with
 | inl u =>
  cases u;simp only;by_cases h:(a.length:Int) < (b.length:Int)
  ·rw [if_pos h,if_pos h]
  ·rw [if_neg h,if_neg h]
 | inr r=>rfl
theorem qqf (a b:List Int):vll a b < 0↔ltL a b=true:=by
 unfold vll;cases h:ltL a b with
 | true=>simp
 | false =>
  cases ltL b a <;> simp
theorem vg8 (l:List (List Int)) (hl:l.length≤1000000) (hs:∀a∈l,a.length≤1000000) (hn:l.Nodup) :
  ∃s,vhm (fun (a:List Int) (b:List Int)=>qam a b) l=some s∧s.Perm l∧s.Pairwise (fun a b=>ltL a b=true):=by
 have hc:∀x∈l,∀y∈l,(qam x y).getD 0=vll x y:=fun x hx y hy=>by rw [qz0 x y (hs x hx) (hs y hy)];rfl
 have hok:q9c (fun x y=>(qam x y).getD 0) l:=by
  refine ⟨fun x hx=>?_,fun x hx y hy z hz h1 h2=>?_,fun x hx y hy z hz h1 h2=>?_⟩
  ·show ¬(qam x x).getD 0 < 0;rw [hc x hx x hx,qqf,vlk];simp
  ·replace h1:(qam x y).getD 0 < 0:=h1;replace h2:(qam y z).getD 0 < 0:=h2;show (qam x z).getD 0 < 0;rw [hc _ hx _ hy,qqf] at h1;rw [hc _ hy _ hz,qqf] at h2;rw [hc _ hx _ hz,qqf];exact q2v x y z h1 h2
  ·replace h1:¬(qam x y).getD 0 < 0:=h1;replace h2:¬(qam y z).getD 0 < 0:=h2;show ¬(qam x z).getD 0 < 0;rw [hc _ hx _ hy,qqf] at h1;rw [hc _ hy _ hz,qqf] at h2;rw [hc _ hx _ hz,qqf];have h1':ltL x y=false:=by simpa using h1
   have h2':ltL y z=false:=by simpa using h2
   rw [vty x y z h1' h2'];simp
 have hp:=q6g hok;refine ⟨srt (fun x y=>(qam x y).getD 0) l,?_,hp,?_⟩
 ·unfold vhm;rw [if_pos ⟨fun x hx y hy=>by show (qam x y).isSome=true;rw [qz0 x y (hs x hx) (hs y hy)];rfl,hok,by omega⟩]
 ·have h1:=q4r hok;have hn':(srt (fun x y=>(qam x y).getD 0) l).Nodup:=hp.nodup_iff.2 hn;refine v48.imp_of_mem ?_ (h1.and hn');intro a b ha hb hab;have ha':=hp.mem_iff.1 ha;have hb':=hp.mem_iff.1 hb;obtain ⟨g1,g2⟩:=hab;replace g1:¬(qam b a).getD 0 < 0:=g1;rw [hc _ hb' _ ha',qqf] at g1;cases h:ltL a b with
  | true=>rfl
  | false=>exact absurd (q2u a b h (by simpa using g1)) g2
def qrp (t:Table) (l:Linkage):List Arr2_int:=qmy t.Rows.length (mT t l) fun i k=>Arr2_int.mk (i:Int) (k:Int)
def RT (t:Table) (l:Linkage) (u v:Nat):Prop:=qgl (qrp t l++(qrp t l).map qu2) u v
theorem vew (t:Table) (l:Linkage) (u v:Nat):RT t l u v↔(u < v∧v < t.Rows.length∧mT t l u v=true)∨(v < u∧u < t.Rows.length∧mT t l v u=true):=by
 unfold RT qgl;rw [v0r,v3a];unfold qrp;constructor
 ·rintro (h | ⟨e,he,hs⟩)
  ·obtain ⟨i,k,h1,h2,h3,h4⟩:=qjc.1 h;simp only [Arr2_int.mk.injEq] at h4;have:i=u:=by omega
   have:k=v:=by omega
   subst i k;exact .inl ⟨h1,h2,h3⟩
  ·obtain ⟨i,k,h1,h2,h3,rfl⟩:=qjc.1 he;simp only [qu2,Arr2_int.mk.injEq] at hs;have:i=v:=by omega
   have:k=u:=by omega
   subst i k;exact .inr ⟨h1,h2,h3⟩
 ·rintro (⟨h1,h2,h3⟩ | ⟨h1,h2,h3⟩)
  ·exact .inl (qjc.2 ⟨u,v,h1,h2,h3,rfl⟩)
  ·exact .inr ⟨_,qjc.2 ⟨v,u,h1,h2,h3,rfl⟩,rfl⟩
theorem vlm (t:Table) (l:Linkage) (u v:Nat) (h:RT t l u v):RT t l v u:=by
 rw [vew] at h ⊢;exact h.symm
theorem vc9 (t:Table) (l:Linkage):q7k t.Rows.length (qrp t l):=by
 intro e he;obtain ⟨i,k,h1,h2,_,rfl⟩:=qjc.1 he;simp only;omega
theorem q5h (t:Table) (l:Linkage) (h:t.Rows.length≤100):(qrp t l).length≤10000:=by
 have:=qut t.Rows.length (mT t l) fun i k=>Arr2_int.mk (i:Int) (k:Int)
 have h2:t.Rows.length * t.Rows.length≤100 * 100:=v6h h h;unfold qrp;omega
theorem vo4 (t:Table) (l:Linkage) (h:t.Rows.length≤100):∃M,qae (qel (qrp t l)) ([],0)=some M∧vlj t l M:=by
 have hlen:=q5h t l h;have hf:=qb3 (qrp t l) (fun (m:List (Arr2_int×Bool)) (k:Int)=>(m,k)) (qel (qrp t l)) (fun m e=>qyo m e true) id (fun _ _=>True) (b0:=[]) (s0:=([],0)) rfl trivial (by
  intro k m e hx hk _;refine ⟨?_,trivial⟩;simp only [qel,if_pos (qai hx),qaa hx,v1r,wqn k]) (by
  intro m _;simp only [qel,if_neg (v4z _),id])
 refine ⟨_,hf,?_⟩;have key:∀(E:List Arr2_int) (m:List (Arr2_int×Bool)) (q:Arr2_int),(qq7 (E.foldl (fun m e=>qyo m e true) m) q).getD false=(decide (q∈E) || (qq7 m q).getD false):=by
  intro E
  induction E with
  | nil=>intro m q;simp
  | cons e E ih =>
   intro m q;rw [v4m,ih,qx0];by_cases c:q=e
   ·subst c;simp
   ·simp [c]
 intro a b hab hb;rw [id,key];have:(qq7 ([]:List (Arr2_int×Bool)) ⟨(a:Int),(b:Int)⟩).getD false=false:=rfl;rw [this,Bool.or_false,v3v,decide_eq_true_eq];unfold qrp;rw [qjc];constructor
 ·rintro ⟨i,k,h1,h2,h3,h4⟩;simp only [Arr2_int.mk.injEq] at h4;have:i=a:=by omega
  have:k=b:=by omega
  subst i k;exact h3
 ·intro h3;exact ⟨a,b,hab,hb,h3,rfl⟩
theorem q2w {t:Table} {l:Linkage} {C:List Nat} (h:C∈qc7 (RT t l) t.Rows.length):C.Pairwise (· < ·)∧(∀x∈C,x < t.Rows.length)∧1≤C.length∧C.length≤t.Rows.length:=by
 obtain ⟨v,hv,rfl⟩:=v3a.1 h;refine ⟨q1z _ _ _,fun x hx=>(qky.1 hx).1,?_,?_⟩
 ·have:v∈ql2 (RT t l) t.Rows.length v:=qky.2 ⟨(quq.1 hv).1,.refl⟩;exact v2s this
 ·have:(ql2 (RT t l) t.Rows.length v).length≤(v0z t.Rows.length).length:=v2r _ _
  rwa [v2t] at this
theorem vln {r:List Int} (h:nfL r) {i:Nat} (hi:i < r.length):∃c,c < qb7 r∧r.getD i 0=(c:Int):=by
 have hx:r[i]?=some (r.getD i 0):=by simp [v2h,vz9 hi]
 have h0:=h.1 _ (v0t hx);exact ⟨(r.getD i 0).toNat,q9x hx,by omega⟩
theorem qya {r:List Int} {k c i:Nat}:i∈qx8 r k c↔i < k∧r.getD i 0=(c:Int):=by simp [qx8]
theorem vo5 {r:List Int} (h:nfL r):(((v0z (qb7 r)).map fun c=>qx8 r r.length c).flatten).Perm (v0z r.length):=by
 refine qy1 ?_ v6w ?_
 ·unfold List.Nodup;rw [v6x];refine ⟨?_,?_⟩
  ·intro x hx;obtain ⟨c,_,rfl⟩:=v3a.1 hx;exact (v6w.sublist List.filter_sublist)
  ·rw [v5r];refine (v4r (n:=qb7 r)).imp fun {a b} hab x hx y hy e=>?_
   subst e;have h1:=(qya.1 hx).2;have h2:=(qya.1 hy).2;omega
 ·intro x;rw [v3c,v6v];constructor
  ·rintro ⟨y,hy,hx⟩;obtain ⟨c,_,rfl⟩:=v3a.1 hy;exact (qya.1 hx).1
  ·intro hx;obtain ⟨c,hc,hr⟩:=vln h hx;exact ⟨_,v3a.2 ⟨c,v3c.2 hc,rfl⟩,qya.2 ⟨hx,hr⟩⟩
theorem q5i {r:List Int} (h:nfL r) {C:List Nat} (hl:r.length=C.length):(qdv r C).flatten.Perm C:=by
 have e:(qdv r C).flatten=(((v0z (qb7 r)).map fun c=>qx8 r r.length c).flatten).map fun i=>C.getD i 0:=by
  unfold qdv;rw [v6t,v6u];rfl
 rw [e];refine ((vo5 h).map _).trans ?_;rw [hl,←q6y C]
theorem q7r {r:List Int} (h:nfL r) {C:List Nat} (hC:C.Pairwise (· < ·)) (hl:r.length=C.length) {P:List Nat} (hP:P∈qdv r C):P.Pairwise (· < ·)∧1≤P.length∧P.length≤C.length:=by
 obtain ⟨c,hc,rfl⟩:=v3a.1 hP;have hc:=v3c.1 hc;refine ⟨?_,?_,?_⟩
 ·rw [v5r];have:(qx8 r r.length c).Pairwise (· < ·):=v4r.filter _;refine (v48.and_mem.1 this).imp fun {a b} hab=>?_
  obtain ⟨ha,hb,hlt⟩:=hab;exact q7p hC hlt (by have:=q7q hb;omega)
 ·have hm:=vet h r.length c (v1f _) (by rw [v52];exact hc);rw [v52] at hm;obtain ⟨i,hi,e⟩:=v5k.1 hm;have:i∈qx8 r r.length c:=qya.2 ⟨hi,by simp [v2h,vz9 hi,e]⟩;rw [v0j];exact v2s this
 ·rw [v0j];have:=v2r (fun i=>decide (r.getD i 0=(c:Int))) (v0z r.length);unfold qx8;rw [v2t] at this;omega
def q2x (t:Table) (l:Linkage):List (List Nat):=(qc7 (RT t l) t.Rows.length).flatMap fun C=>qdv (qj2 (wT t l) C) C
theorem qtz {α β:Type} (f:α→List (List β)):∀l:List α,(l.flatMap f).flatten=l.flatMap fun x=>(f x).flatten
 | []=>rfl
 | x :: l=>by rw [v2g,List.flatten_append,v2g,qtz f l]
theorem qz1 {α β:Type} {f g:α→List β}:∀{l:List α},(∀x∈l,(f x).Perm (g x))→(l.flatMap f).Perm (l.flatMap g)
 | [],_=>.refl _
 | x :: l,h=>by
  rw [v2g,v2g];exact (h x (by simp)).append (qz1 fun y hy=>h y (by simp [hy]))
theorem va2 (t:Table) (l:Linkage):(q2x t l).flatten.Perm (v0z t.Rows.length):=by
 unfold q2x;rw [qtz];have h1:((qc7 (RT t l) t.Rows.length).flatMap fun C=>(qdv (qj2 (wT t l) C) C).flatten).Perm ((qc7 (RT t l) t.Rows.length).flatMap fun C=>C):=by
  refine qz1 fun C hC=>?_
  obtain ⟨c,_,hnf,hbl⟩:=qsm (wT t l) C;exact q5i hnf hbl
 refine h1.trans ?_;have:((qc7 (RT t l) t.Rows.length).flatMap fun C=>C)=(qc7 (RT t l) t.Rows.length).flatten:=by simp [List.flatMap]
 rw [this];exact vcr (vlm t l) _
theorem vlo {t:Table} {l:Linkage} {P:List Nat} (h:P∈q2x t l):P.Pairwise (· < ·)∧1≤P.length∧(∀x∈P,x < t.Rows.length)∧P.length≤t.Rows.length:=by
 have hm:∀x∈P,x < t.Rows.length:=by
  intro x hx;have:x∈(q2x t l).flatten:=v6v.2 ⟨P,h,hx⟩;exact v3c.1 ((va2 t l).mem_iff.1 this)
 unfold q2x at h;obtain ⟨C,hC,hP⟩:=v0s.1 h;obtain ⟨h1,h2,h3,h4⟩:=q2w hC;obtain ⟨c,_,hnf,hbl⟩:=qsm (wT t l) C;obtain ⟨q1,q2,q3⟩:=q7r hnf h1 hbl hP;exact ⟨q1,q2,hm,by omega⟩
def qe7 (t:Table) (P:List Nat):List Int:=P.map fun i=>(qf4 t i).ID
theorem vlp {t:Table}:qe7 t (v0z t.Rows.length)=ids t:=by
 unfold qe7 ids;refine vz3 fun i=>?_
 by_cases hi:i < t.Rows.length
 ·rw [ql4 _ hi,v0c,qib hi];rfl
 ·rw [v0a (by simp;omega),v0a (by simp;omega)]
theorem id_lt {t:Table} (he:qbb t=0) {i k:Nat} (hk:k < t.Rows.length) (h:i < k):(qf4 t i).ID < (qf4 t k).ID:=by
 have hc:=qx2 he;have key:∀(l:List Row) (a:Int),qd9 t.Attrs.length a l=0→l.Pairwise (fun r q=>r.ID < q.ID)∧∀r∈l,a < r.ID:=by
  intro l
  induction l with
  | nil=>intro a _;simp
  | cons r l ih =>
   intro a h;have h2:=(qsi t.Attrs.length (r :: l) a h).1 r (by simp);have h3:qd9 t.Attrs.length r.ID l=0:=by
    unfold qd9 at h;split at h
    ·omega
    ·split at h
     ·omega
     ·split at h
      ·exact h
      ·omega
   obtain ⟨q1,q2⟩:=ih r.ID h3;refine ⟨List.pairwise_cons.2 ⟨q2,q1⟩,fun x hx=>?_⟩;rcases List.mem_cons.1 hx with rfl | hx
   ·exact h2.1
   ·have:=q2 x hx;have:=h2.1;omega
 have hp:=(key t.Rows 0 hc).1;have g1:=qib (show i < t.Rows.length by omega);have g2:=qib hk;rw [vz9 (by omega),v1x] at g1;rw [vz9 hk,v1x] at g2;have:=(v5p.1 hp) i k (by omega) hk h
 rwa [g1,g2] at this
def qpl (t:Table) (l:Linkage):List (List Int):=(q2x t l).map (qe7 t)
theorem vtz {l:List Int} (h:l.Pairwise (· < ·)) (hn:1≤l.length):veg l=true:=by
 unfold veg;rw [vzm];refine ⟨?_,by rw [decide_eq_true_eq];omega⟩;rw [qwg];intro j x hx;rw [vz8] at hx;rw [decide_eq_true_eq];have hlt:=qan hx;rw [show 1+j - 1=j by omega];have hj:l[j]?=some (l.getD j 0):=by simp [v2h,vz9 (show j < l.length by omega)]
 have g1:=hj;have g2:=hx;rw [vz9 (by omega),v1x] at g1;rw [vz9 hlt,v1x] at g2;have:=(v5p.1 h) j (1+j) (by omega) hlt (by omega)
 rwa [g1,g2] at this
def ltH (a b:List Int):Bool:=decide (a.headD 0 < b.headD 0)
theorem vex (x y:List Int) (h:ltH x y=true):ltH y x=false:=by
 unfold ltH at *;simp only [decide_eq_true_eq,decide_eq_false_iff_not] at *;omega
theorem vlq (x y z:List Int) (h1:ltH y x=false) (h2:ltH z y=false):ltH z x=false:=by
 unfold ltH at *;simp only [decide_eq_false_iff_not] at *;omega
def qm3 (cs:List (List Int)):List (List Int):=qxu ltH cs
theorem qou (cs:List (List Int)):(qm3 cs).Perm cs:=by
 have:=(qo8 ltH vex vlq cs [] v48.nil).1;simpa [qm3,qxu] using this
theorem qz2 (cs:List (List Int)):(qm3 cs).Pairwise fun a b=>ltH b a=false:=(qo8 ltH vex vlq cs [] v48.nil).2
def q7s (cs:List (List Int)):Prop:=∀a∈cs,∀b∈cs,a.headD 0=b.headD 0→a=b
theorem qt0 {cs s:List (List Int)} (hi:q7s cs) (hp:s.Perm cs) (hs:s.Pairwise fun a b=>ltH b a=false):s=qm3 cs:=by
 refine v4d.eq_of_pairwise (le:=fun a b=>ltH b a=false) (fun a b ha hb h1 h2=>?_) hs (qz2 cs) (hp.trans (qou cs).symm);unfold ltH at h1 h2;simp only [decide_eq_false_iff_not] at h1 h2;exact hi a (hp.mem_iff.1 ha) b ((qou cs).mem_iff.1 hb) (by omega)
theorem vo6 {a b:List Int} (ha:a≠[]) (hb:b≠[]) (h:ltL a b=true):ltH b a=false:=by
 cases a with
 | nil=>exact absurd rfl ha
 | cons x a =>
  cases b with
  | nil=>exact absurd rfl hb
  | cons y b =>
   unfold ltH;rw [decide_eq_false_iff_not];show ¬y < x;by_cases e:x=y
   ·subst e;exact v4z _
   ·rw [ltL,if_neg e] at h;have:=of_decide_eq_true h;omega
theorem qyb {t:Table} (l:Linkage):(qpl t l).flatten.Perm (ids t):=by
 have:(qpl t l).flatten=qe7 t (q2x t l).flatten:=by
  unfold qpl qe7;rw [v6t]
 rw [this,←vlp];exact (va2 t l).map _
theorem vlr {t:Table} (he:qbb t=0) {P:List Nat} (h:P.Pairwise (· < ·)) (hn:∀x∈P,x < t.Rows.length):(qe7 t P).Pairwise (· < ·):=by
 unfold qe7;rw [v5r];refine (v48.and_mem.1 h).imp fun {a b} hab=>?_
 exact id_lt he (hn b hab.2.1) hab.2.2
theorem qsn {t:Table} {l:Linkage} (he:qbb t=0) {c:List Int} (h:c∈qpl t l):c.Pairwise (· < ·)∧1≤c.length∧c.length≤t.Rows.length∧c≠[]:=by
 obtain ⟨P,hP,rfl⟩:=v3a.1 h;obtain ⟨h1,h2,h3,h4⟩:=vlo hP;refine ⟨vlr he h1 h3,by simpa [qe7] using h2,by simpa [qe7] using h4,?_⟩;intro e;have:=congrArg List.length e;simp [qe7] at this;rw [this] at h2;simp at h2
theorem q5j {t:Table} (l:Linkage) (he:qbb t=0):(qpl t l).flatten.Nodup:=(qyb l).nodup_iff.2 (qjj he).2
theorem vey {cs:List (List Int)} (h:cs.flatten.Nodup) {i j:Nat} {a b:List Int} {x:Int} (ha:cs[i]?=some a) (hb:cs[j]?=some b) (hxa:x∈a) (hxb:x∈b):i=j:=by
 unfold List.Nodup at h;rw [v6x] at h;have h2:=v5p.1 h.2;obtain ⟨hi,ea⟩:=v0b.1 ha;obtain ⟨hj,eb⟩:=v0b.1 hb;subst ea eb;rcases Nat.lt_trichotomy i j with q | q | q
 ·exact absurd rfl (h2 i j hi hj q x hxa x hxb)
 ·exact q
 ·exact absurd rfl (h2 j i hj hi q x hxb x hxa)
theorem vg9 {cs:List (List Int)} (h:cs.flatten.Nodup) (hne:∀c∈cs,c≠[]):q7s cs:=by
 intro a ha b hb e;obtain ⟨i,hi,ea⟩:=v5k.1 ha;obtain ⟨j,hj,eb⟩:=v5k.1 hb;have h1:a.headD 0∈a:=by
  cases a with
  | nil=>exact absurd rfl (hne _ ha)
  | cons x r=>simp
 have h2:b.headD 0∈b:=by
  cases b with
  | nil=>exact absurd rfl (hne _ hb)
  | cons x r=>simp
 have:=vey h (i:=i) (j:=j) (by rw [vz9 hi,ea]) (by rw [vz9 hj,eb]) h1 (e ▸ h2);subst this;rw [←ea,←eb]
theorem vez {t:Table} (l:Linkage) (he:qbb t=0):q7s (qpl t l):=vg9 (q5j l he) fun c hc=>(qsn he hc).2.2.2
theorem ve0 {t:Table} (l:Linkage) (he:qbb t=0):(qpl t l).length≤t.Rows.length:=by
 have h1:=(qyb (t:=t) l).length_eq;have key:∀cs:List (List Int),(∀c∈cs,1≤c.length)→cs.length≤cs.flatten.length:=by
  intro cs
  induction cs with
  | nil=>intro _;simp
  | cons c cs ih =>
   intro h;have h1:=h c (by simp);have h2:=ih fun d hd=>h d (by simp [hd])
   rw [List.flatten_cons,v0h,v2p];omega
 have:=key (qpl t l) fun c hc=>(qsn he hc).2.1
 rw [h1] at this;simpa [ids] using this
theorem q2y {t:Table} (l:Linkage) (he:qbb t=0):(qpl t l).Nodup:=by
 refine v5p.2 fun i j hi hj hij e=>?_
 have hne:=(qsn he (v2o hi)).2.2.2;have h1:((qpl t l)[i]).headD 0∈(qpl t l)[i]:=by
  cases hq:(qpl t l)[i] with
  | nil=>exact absurd hq hne
  | cons x r=>simp
 have:=vey (q5j l he) (i:=i) (j:=j) (vz9 hi) (vz9 hj) h1 (e ▸ h1);omega
theorem vy1 {t:Table} (l:Linkage) (he:qbb t=0) (hn:t.Rows.length≤6):vhm (fun (a:List Int) (b:List Int)=>qam a b) (qpl t l)=some (qm3 (qpl t l)):=by
 have hl:=ve0 l he;obtain ⟨s,h1,h2,h3⟩:=vg8 (qpl t l) (by omega) (fun a ha=>by have:=(qsn he ha).2.2.1;omega) (q2y l he);rw [h1];congr 1;refine qt0 (vez l he) h2 ?_;refine (v48.and_mem.1 h3).imp fun {a b} hab=>?_
 obtain ⟨ha,hb,hlt⟩:=hab;exact vo6 (qsn he (h2.mem_iff.1 ha)).2.2.2 (qsn he (h2.mem_iff.1 hb)).2.2.2 hlt
theorem q5k {α β τ:Type} (B:List β×Int→Option (LS (List β×Int) τ)) (L:List α) (f:α→List β) (fin:List β→τ) (M c:Nat) (hM:L.length * c≤M) (hf:∀x∈L,(f x).length≤c)
  (h:∀(k:Nat) out x,L[k]?=some x→out.length+c≤M→B (out,(k:Int))=some (.next (out++f x,((k+1:Nat):Int)))) (he:∀out,B (out,(L.length:Int))=some (.done (fin out))):∀out0:List β,out0.length+L.length * c≤M→qae B (out0,0)=some (fin (out0++L.flatMap f)):=by
 intro out0 h0;have hh:=qb3 L (fun (b:List β) (k:Int)=>(b,k)) B (fun b x=>b++f x) fin (fun k b=>b.length≤out0.length+k * c) (b0:=out0) (s0:=(out0,0)) rfl (by simp) (by
  intro k b x hx hk hb;have h1:k * c+c≤L.length * c:=by
   have:=v1m c (show k+1≤L.length by omega);rw [v60] at this;exact this
  have h2:=hf x (v0t hx);refine ⟨h k b x hx (by omega),?_⟩;rw [v0h,v60];omega) (fun b _=>he b)
 rw [hh];congr 2;have key:∀(L:List α) (b:List β),L.foldl (fun b x=>b++f x) b=b++L.flatMap f:=by
  intro L
  induction L with
  | nil=>intro b;simp
  | cons x L ih=>intro b;rw [v4m,ih,v2g,vzw]
 exact key L out0
theorem vo7 {t:Table} {P:List Nat} (hP:∀x∈P,x < t.Rows.length) (hl:P.length≤1000):qae (qdx t (qbw P)) ([],0)=some (qe7 t P):=by
 have hlen:(qbw P).length=P.length:=by simp [qbw]
 have h:=q0m (qdx t (qbw P)) P (fun i=>(qf4 t i).ID) 1000 hl (by
  intro k out x hx hl';have hk:=qan hx;have hx':(qbw P)[k]?=some (x:Int):=by simp [qbw,hx]
  have hr:qal (out.length+1) 8=true:=qrf (by omega);simp only [qdx,if_pos (qai hx'),qaa hx',v1r,qaa (qib (hP x (v0t hx))),hr,if_true,wqn k]) (by
  intro out;rw [←hlen];simp only [qdx,if_neg (v4z _)])
 exact h
theorem vha {t:Table} {Ps:List (List Nat)} (hP:∀P∈Ps,(∀x∈P,x < t.Rows.length)∧P.length≤1000) (hl:Ps.length≤100) (out:List (List Int)) (ho:out.length≤1000):qae (qdy t (Ps.map qbw,0)) (out,0)=some (out++Ps.map (qe7 t)):=by
 have h:=q5k (qdy t (Ps.map qbw,0)) Ps (fun P=>[qe7 t P]) id 2000 1 (by omega) (fun _ _=>v1f _) (by
  intro k out x hx hl';have hk:=qan hx;have hx':(Ps.map qbw)[k]?=some (qbw x):=by rw [v0c,hx];rfl
  have hr:qal (out.length+1) 24=true:=q5g (by omega);obtain ⟨q1,q2⟩:=hP x (v0t hx);simp only [qdy,if_pos (qai hx'),qaa hx',v1r,vo7 q1 q2,hr,if_true,wqn k]) (by
  intro out;have:(Ps.length:Int)=((Ps.map qbw).length:Int):=by simp
  rw [this];simp only [qdy,if_neg (v4z _),id]) out (by omega)
 rw [h];congr 2;simp [List.map_eq_flatMap]
theorem va3 (t:Table) (l:Linkage):(qc7 (RT t l) t.Rows.length).length≤t.Rows.length:=by
 unfold qc7;rw [v0j];have:(qo5 (RT t l) t.Rows.length).length≤(v0z t.Rows.length).length:=v2r _ _
 rwa [v2t] at this
theorem qyc (r:List Int) (C:List Nat):(qdv r C).length=qb7 r:=by simp [qdv]
theorem q5l {t:Table} {l:Linkage} (T:LnkT t l) (h0:vp9 t l=0) (hn:t.Rows.length≤6):qhg t l=some (qm3 (qpl t l),0):=by
 obtain ⟨M,hM,hMM⟩:=vo4 t l (by omega);have hE:=q5h t l (by omega);have hcomp:=q7o (n:=t.Rows.length) (by omega) (qrp t l) (by omega) (vc9 t l);have hcl:=va3 t l;have hloop:=q5k (qfx t M ((qc7 (RT t l) t.Rows.length).map qbw,0)) (qc7 (RT t l) t.Rows.length) (fun C=>(qdv (qj2 (wT t l) C) C).map (qe7 t)) (fun out=>(Sum.inl out:List (List Int) ⊕ (List (List Int)×Int))) 1000 6 (by omega) (by
  intro C hC;obtain ⟨c,_,hnf,hbl⟩:=qsm (wT t l) C;have:=qsl hnf;have:=(q2w hC).2.2.2;rw [v0j,qyc];omega) (by
  intro k out C hC hl;have hk:=qan hC;have hmem:=v0t hC;obtain ⟨q1,q2,q3,q4⟩:=q2w hmem;have hC':((qc7 (RT t l) t.Rows.length).map qbw)[k]?=some (qbw C):=by rw [v0c,hC];rfl
  obtain ⟨c,_,hnf,hbl⟩:=qsm (wT t l) C;have hus:=qsl hnf;have hg:=vha (t:=t) (Ps:=qdv (qj2 (wT t l) C) C) (fun P hP=>by
   refine ⟨fun x hx=>?_,by have:=(q7r hnf q1 hbl hP).2.2;omega⟩;have:x∈(qdv (qj2 (wT t l) C) C).flatten:=v6v.2 ⟨P,hP,hx⟩;exact q2 x ((q5i hnf hbl).mem_iff.1 this)) (by rw [qyc];omega) out (by omega)
  simp only [qfx,if_pos (qai hC'),qaa hC',v1r,vo3 hMM q1 q2 q3 (by omega),bne_self_eq_false,vzo,if_false,hg,wqn k]) (by
  intro out;have:((qc7 (RT t l) t.Rows.length).length:Int)=(((qc7 (RT t l) t.Rows.length).map qbw).length:Int):=by simp
  rw [this];simp only [qfx,if_neg (v4z _)]) [] (by simp;omega)
 have hflat:[]++(qc7 (RT t l) t.Rows.length).flatMap (fun C=>(qdv (qj2 (wT t l) C) C).map (qe7 t))=qpl t l:=by
  unfold qpl q2x;rw [v0y,List.map_flatMap]
 rw [hflat] at hloop;have hm:=vau T;have hm':qgr t l=some (qrp t l):=hm;have hcomp':qhf (t.Rows.length:Int) (qrp t l)=some ((qc7 (RT t l) t.Rows.length).map qbw,0):=hcomp;simp only [qhg,ver t l T.ok T.rule T.rules T.nblock T.nsurv,h0,v1r,bne_self_eq_false,vzo,if_false,hm',hM,hcomp',hloop,vy1 l T.err hn]
structure Grp (t:Table) (l:Linkage) (v:Nat) (g:List Int):Prop where
 nodup:g.Nodup
 mem:∀x∈g,∃k,k < t.Rows.length∧x=(qf4 t k).ID∧Rch (RT t l) v k
theorem Grp.small {t:Table} {l:Linkage} {v:Nat} {g:List Int} (G:Grp t l v g):g.length≤t.Rows.length:=by
 have:=qon (l':=ids t) G.nodup (by
  intro x hx;obtain ⟨k,hk,rfl,_⟩:=G.mem x hx;exact v3a.2 ⟨_,qoo hk,rfl⟩)
 simpa [ids] using this
theorem Grp.snoc {t:Table} {l:Linkage} {v:Nat} {g:List Int} (G:Grp t l v g) {k:Nat} (hk:k < t.Rows.length) (hr:Rch (RT t l) v k) (hn:(qf4 t k).ID ∉ g):Grp t l v (g++[(qf4 t k).ID]):=by
 refine ⟨?_,?_⟩
 ·rw [v5m];refine ⟨G.nodup,by simp,?_⟩;intro a ha b hb e;rw [v3d] at hb;subst hb;subst e;exact hn ha
 ·intro x hx;rcases v0r.1 hx with h | h
  ·exact G.mem x h
  ·rw [v3d] at h;exact ⟨k,hk,h,hr⟩
theorem vqb {t:Table} (he:qbb t=0) {i k:Nat} (hi:i < t.Rows.length) (hk:k < t.Rows.length) (h:(qf4 t i).ID=(qf4 t k).ID):i=k:=by
 by_cases e:i=k
 ·exact e
 ·exact absurd h (vtk he hi hk e)
theorem Grp.rch {t:Table} {l:Linkage} {v:Nat} {g:List Int} (he:qbb t=0) (G:Grp t l v g) {k:Nat} (hk:k < t.Rows.length) (h:(qf4 t k).ID∈g):Rch (RT t l) v k:=by
 obtain ⟨j,hj,e,hr⟩:=G.mem _ h;have:=vqb he hk hj e;subst this;exact hr
theorem vls {t:Table} {l:Linkage} (T:LnkT t l) (hn:t.Rows.length≤100) (v:Nat):∀(d k:Nat) (g:List Int) (gr:Bool),k+d=(qea t l).length→Grp t l v g →
  ∃g' gr',qae (qbc (qea t l)) (g,gr,(k:Int))=some (g',gr')∧Grp t l v g'∧(∀x∈g,x∈g')∧(gr=true→gr'=true)∧g.length≤g'.length∧(gr=false→gr'=true→g.length < g'.length) ∧
   (gr'=false→g'=g∧∀j p,k≤j→(qea t l)[j]?=some p→(p.x0∈g↔p.x1∈g)):=by
 have hlen:(qea t l).length≤10000:=by
  have:=qut t.Rows.length (mT t l) fun i k=>Arr2_int64.mk (qf4 t i).ID (qf4 t k).ID
  have h2:t.Rows.length * t.Rows.length≤100 * 100:=v6h hn hn;unfold qea;omega
 intro d
 induction d with
 | zero =>
  intro k g gr hk G;have c:¬((k:Int) < ((qea t l).length:Int)):=by omega
  refine ⟨g,gr,qad (by simp only [qbc,if_neg c]),G,fun x hx=>hx,fun h=>h,v1f _,fun h h'=>(by rw [h] at h';cases h'),fun _=>⟨rfl,?_⟩⟩;intro j p hj hp;have:=qan hp;omega
 | succ d ih =>
  intro k g gr hk G;have hlt:k < (qea t l).length:=by omega
  have hx:(qea t l)[k]?=some (qea t l)[k]:=vz9 hlt;obtain ⟨i,j,h1,h2,h3,he⟩:=qjc.1 (v0t hx);rw [he] at hx;have hi:i < t.Rows.length:=by omega
  have hRij:RT t l i j:=(vew t l i j).2 (.inl ⟨h1,h2,h3⟩);have hsm:=G.small;have w:=wqn k;have ha:=q2j g (qf4 t i).ID (by omega);have hb:=q2j g (qf4 t j).ID (by omega);have hroom:qal (g.length+1) 8=true:=qrf (by omega);by_cases ma:(qf4 t i).ID∈g
  ·by_cases mb:(qf4 t j).ID∈g
   ·obtain ⟨g',gr',q1,q2,q3,q4,q5,q6,q7⟩:=ih (k+1) g gr (by omega) G;refine ⟨g',gr',?_,q2,q3,q4,q5,q6,fun h=>⟨(q7 h).1,?_⟩⟩
    ·rw [qac (s':=(g,gr,((k+1:Nat):Int))) (by
      simp only [qbc,if_pos (qai hx),qaa hx,v1r,ha,hb,ma,mb,decide_true,if_true,v4x,vzo,if_false,w])]
     exact q1
    ·intro j' p hj hp;rcases v6f hj with hlt' | rfl
     ·exact (q7 h).2 j' p hlt' hp
     ·rw [hx] at hp;cases hp;exact ⟨fun _=>mb,fun _=>ma⟩
   ·have G':=G.snoc h2 ((G.rch T.err hi ma).step hRij) mb;obtain ⟨g',gr',q1,q2,q3,q4,q5,q6,q7⟩:=ih (k+1) _ true (by omega) G';have hgt:=q4 rfl;refine ⟨g',gr',?_,q2,fun x hxm=>q3 x (v5j _ hxm),fun _=>hgt,?_,?_,fun h=>by rw [hgt] at h;cases h⟩
    ·rw [qac (s':=(g++[(qf4 t j).ID],true,((k+1:Nat):Int))) (by
      simp only [qbc,if_pos (qai hx),qaa hx,v1r,ha,hb,ma,mb,decide_true,decide_false,if_true,v6l,vzo,if_false,hroom,w])]
     exact q1
    ·rw [v0h,v2u] at q5;omega
    ·intro _ _;rw [v0h,v2u] at q5;omega
  ·by_cases mb:(qf4 t j).ID∈g
   ·have G':=G.snoc hi ((G.rch T.err h2 mb).step (vlm t l _ _ hRij)) ma;obtain ⟨g',gr',q1,q2,q3,q4,q5,q6,q7⟩:=ih (k+1) _ true (by omega) G';have hgt:=q4 rfl;refine ⟨g',gr',?_,q2,fun x hxm=>q3 x (v5j _ hxm),fun _=>hgt,?_,?_,fun h=>by rw [hgt] at h;cases h⟩
    ·rw [qac (s':=(g++[(qf4 t i).ID],true,((k+1:Nat):Int))) (by
      simp only [qbc,if_pos (qai hx),qaa hx,v1r,ha,hb,ma,mb,decide_true,decide_false,if_true,v6l,vzo,if_false,hroom,w])]
     exact q1
    ·rw [v0h,v2u] at q5;omega
    ·intro _ _;rw [v0h,v2u] at q5;omega
   ·obtain ⟨g',gr',q1,q2,q3,q4,q5,q6,q7⟩:=ih (k+1) g gr (by omega) G;refine ⟨g',gr',?_,q2,q3,q4,q5,q6,fun h=>⟨(q7 h).1,?_⟩⟩
    ·rw [qac (s':=(g,gr,((k+1:Nat):Int))) (by
      simp only [qbc,if_pos (qai hx),qaa hx,v1r,ha,hb,ma,mb,decide_false,vzo,if_false,w])]
     exact q1
    ·intro j' p hj hp;rcases v6f hj with hlt' | rfl
     ·exact (q7 h).2 j' p hlt' hp
     ·rw [hx] at hp;cases hp;exact ⟨fun h=>absurd h ma,fun h=>absurd h mb⟩
theorem vhb {t:Table} {l:Linkage} (T:LnkT t l) (hn:t.Rows.length≤100) (v:Nat):∀(d:Nat) (g:List Int),g.length+d=t.Rows.length→Grp t l v g →
  ∃g',qae (qb0 (qea t l)) (g,true)=some g'∧Grp t l v g'∧(∀x∈g,x∈g')∧∀p∈qea t l,(p.x0∈g'↔p.x1∈g'):=by
 intro d
 induction d using Nat.strongRecOn with
 | ind d ih =>
  intro g hg G;obtain ⟨g1,gr1,q1,q2,q3,q4,q5,q6,q7⟩:=vls T hn v (qea t l).length 0 g false (by omega) G;simp only [v33] at q1;have hstep:qb0 (qea t l) (g,true)=some (.next (g1,gr1)):=by
   simp only [qb0,if_true,q1,v1r]
  cases gr1 with
  | true =>
   have hlt:=q6 rfl rfl;have hsm:=q2.small;obtain ⟨g',r1,r2,r3,r4⟩:=ih (t.Rows.length - g1.length) (by omega) g1 (by omega) q2;exact ⟨g',by rw [qac hstep];exact r1,r2,fun x hx=>r3 x (q3 x hx),r4⟩
  | false =>
   obtain ⟨e,hc⟩:=q7 rfl;subst e;refine ⟨g1,?_,q2,q3,?_⟩
   ·rw [qac hstep];exact qad (by simp only [qb0,vzo,if_false])
   ·intro p hp;obtain ⟨j,hj,e⟩:=v5k.1 hp;exact hc j p (v3n _) (by rw [vz9 hj,e])
theorem vlt {t:Table} {l:Linkage} (T:LnkT t l) {v:Nat} (hv:v < t.Rows.length) {g:List Int} (G:Grp t l v g) (h0:(qf4 t v).ID∈g) (hc:∀p∈qea t l,(p.x0∈g↔p.x1∈g)) {k:Nat} (hk:k < t.Rows.length):(qf4 t k).ID∈g↔Rch (RT t l) v k:=by
 constructor
 ·exact G.rch T.err hk
 ·intro h;refine h.closed (S:=fun u=>(qf4 t u).ID∈g) h0 fun x y hx hxy=>?_
  rw [vew] at hxy;rcases hxy with ⟨q1,q2,q3⟩ | ⟨q1,q2,q3⟩
  ·have hm:(⟨(qf4 t x).ID,(qf4 t y).ID⟩:Arr2_int64)∈qea t l:=qjc.2 ⟨x,y,q1,q2,q3,rfl⟩;exact (hc _ hm).1 hx
  ·have hm:(⟨(qf4 t y).ID,(qf4 t x).ID⟩:Arr2_int64)∈qea t l:=qjc.2 ⟨y,x,q1,q2,q3,rfl⟩;exact (hc _ hm).2 hx
open Classical in
theorem va4 {t:Table} {l:Linkage} (T:LnkT t l) (hn:t.Rows.length≤100) {v:Nat} {g:List Int} (hg:g.length≤1000) (hm:∀k,k < t.Rows.length→((qf4 t k).ID∈g↔Rch (RT t l) v k)):qae (qb1 t g) ([],0)=some (qe7 t (ql2 (RT t l) t.Rows.length v)):=by
 have h:=qk7 (qb1 t g) (fun k=>if decide (Rch (RT t l) v k) then [(qf4 t k).ID] else []) t.Rows.length 1000 1 (by
  intro k out hk hl
  have hr:qal (out.length+1) 8=true:=qrf (by omega)
  have w:=wqn k
  have c:((k:Int) < (t.Rows.length:Int)):=by omega
  have hd:decide ((qf4 t k).ID∈g)=decide (Rch (RT t l) v k):=by
   rw [v3v,decide_eq_true_eq,decide_eq_true_eq];exact hm k hk
  simp only [qb1,if_pos c,qaa (qib hk),v1r,q2j g (qf4 t k).ID (by omega),hr,if_true,w]
  rw [hd]
  cases decide (Rch (RT t l) v k) <;> simp) (fun k _=>q7h _ _) (by
  intro out
  simp only [qb1,if_neg (v4z _)]) t.Rows.length 0 [] (by omega) (by simp;omega)
 simp only [v33,v0y] at h
 rw [h]
 congr 1
 unfold qe7 ql2
 rw [←List.range_eq_range']
 generalize v0z t.Rows.length=L
 induction L with
 | nil=>rfl
 | cons x L ih =>
  rw [v2g,v4j,ih]
  by_cases c:Rch (RT t l) v x
  ·simp [c]
  ·simp [c]
open Classical in
theorem va5 {t:Table} {l:Linkage} (T:LnkT t l) (hn:t.Rows.length≤100):qe4 t l=some ((qc7 (RT t l) t.Rows.length).map (qe7 t)):=by
 have key:∀(d i:Nat) (done:List Int),i+d=t.Rows.length→done.length≤i * t.Rows.length→(∀k,k < t.Rows.length→((qf4 t k).ID∈done↔∃u,u < i∧Rch (RT t l) u k)) →
   qae (qb2 t (qea t l)) ((qjk (RT t l) i).map (fun v=>qe7 t (ql2 (RT t l) t.Rows.length v)),done,(i:Int))=some ((qo5 (RT t l) t.Rows.length).map fun v=>qe7 t (ql2 (RT t l) t.Rows.length v)):=by
  intro d
  induction d with
  | zero =>
   intro i done hi _ _
   obtain rfl:i=t.Rows.length:=by omega
   exact qad (by simp only [qb2,if_neg (v4z _),q2t])
  | succ d ih =>
   intro i done hi hdl hd
   have hlt:i < t.Rows.length:=by omega
   have c:((i:Int) < (t.Rows.length:Int)):=by omega
   have w:=wqn i
   have hmul:i * t.Rows.length≤100 * 100:=v6h (by omega) hn
   have hhas:=q2j done (qf4 t i).ID (by omega)
   have hsucc:qjk (RT t l) (i+1)=qjk (RT t l) i++(if decide (∀u,u < i→¬Rch (RT t l) u i) then [i] else []):=by
    unfold qjk
    rw [v4t,v5a]
    congr 1
    simp only [v4j,List.filter_nil]
   by_cases hm:(qf4 t i).ID∈done
   ·obtain ⟨u,hu,hr⟩:=(hd i hlt).1 hm
    have hno:¬∀u,u < i→¬Rch (RT t l) u i:=fun q=>q u hu hr
    have hi':=ih (i+1) done (by omega) (by rw [v60];omega) (by
     intro k hk
     rw [hd k hk]
     constructor
     ·rintro ⟨u,hu,hr⟩;exact ⟨u,by omega,hr⟩
     ·rintro ⟨w,hw,hr'⟩
      rcases v6f (v6d hw) with h1 | rfl
      ·exact ⟨w,h1,hr'⟩
      ·exact ⟨u,hu,hr.trans hr'⟩)
    rw [hsucc,decide_eq_false hno] at hi'
    simp only [vzo,if_false,vzx] at hi'
    rw [qac (s':=((qjk (RT t l) i).map (fun v=>qe7 t (ql2 (RT t l) t.Rows.length v)),done,((i+1:Nat):Int))) (by
     simp only [qb2,if_pos c,qaa (qib hlt),v1r,hhas,hm,decide_true,if_true,w])]
    exact hi'
   ·have hyes:∀u,u < i→¬Rch (RT t l) u i:=fun u hu hr=>hm ((hd i hlt).2 ⟨u,hu,hr⟩)
    have G0:Grp t l i [(qf4 t i).ID]:=⟨by simp,fun x hx=>by
     rw [v3d] at hx
     exact ⟨i,hlt,hx,.refl⟩⟩
    obtain ⟨g,q1,q2,q3,q4⟩:=vhb T hn i (t.Rows.length - 1) [(qf4 t i).ID] (by simp;omega) G0
    have hga:∀k,k < t.Rows.length→((qf4 t k).ID∈g↔Rch (RT t l) i k):=fun k hk=>vlt T hlt q2 (q3 _ (by simp)) q4 hk
    have hgs:=q2.small
    have hids:=va4 T hn (by omega) hga
    have hr1:qal (done.length+g.length) 8=true:=qrf (by omega)
    have hr2:qal (((qjk (RT t l) i).map (fun v=>qe7 t (ql2 (RT t l) t.Rows.length v))).length+1) 24=true:=by
     have:(qjk (RT t l) i).length≤(v0z i).length:=v2r _ _
     rw [v2t] at this
     exact q5g (by rw [v0j];omega)
    have hi':=ih (i+1) (done++g) (by omega) (by rw [v0h,v60];omega) (by
     intro k hk
     rw [v0r,hd k hk,hga k hk]
     constructor
     ·rintro (⟨u,hu,hr⟩ | hr)
      ·exact ⟨u,by omega,hr⟩
      ·exact ⟨i,by omega,hr⟩
     ·rintro ⟨u,hu,hr⟩
      rcases v6f (v6d hu) with h1 | rfl
      ·exact .inl ⟨u,h1,hr⟩
      ·exact .inr hr)
    rw [hsucc,decide_eq_true hyes,if_pos rfl,v0o] at hi'
    rw [qac (s':=((qjk (RT t l) i).map (fun v=>qe7 t (ql2 (RT t l) t.Rows.length v))++[qe7 t (ql2 (RT t l) t.Rows.length i)],done++g,((i+1:Nat):Int))) (by
     simp only [qb2,if_pos c,qaa (qib hlt),v1r,hhas,hm,decide_false,vzo,if_false,q1,hr1,if_true,hids,hr2,w])]
    exact hi'
 have h:=key t.Rows.length 0 [] (by omega) (by simp) (by
  intro k hk
  constructor
  ·intro h;cases h
  ·rintro ⟨u,hu,_⟩;omega)
 have e0:(qjk (RT t l) 0).map (fun v=>qe7 t (ql2 (RT t l) t.Rows.length v))=[]:=rfl
 rw [e0] at h
 simp only [v33] at h
 have hm:qfa t l=some (qea t l):=vk4 T
 simp only [qe4,hm,v1r,h,qc7,v6u]
 rfl
theorem vhc {t:Table} (he:qbb t=0) {C:List Nat} (hC:C.Pairwise (· < ·)) (hn:∀x∈C,x < t.Rows.length):qmf t (qe7 t C)=C.map (qf4 t):=by
 have hrows:t.Rows=(v0z t.Rows.length).map (qf4 t):=by
  refine vz3 fun i=>?_
  by_cases hi:i < t.Rows.length
  ·rw [ql4 _ hi,qib hi]
  ·rw [v0a (by omega),v0a (by simp;omega)]
 have h1:qmf t (qe7 t C)=((v0z t.Rows.length).filter fun i=>decide (i∈C)).map (qf4 t):=by
  unfold qmf
  conv=>lhs;rw [hrows]
  rw [List.filter_map];congr 1;refine v6p fun i hi=>?_
  have hi:=v3c.1 hi;simp only [v6m];rw [v3v,decide_eq_true_eq,decide_eq_true_eq];unfold qe7;rw [v3a];constructor
  ·rintro ⟨k,hk,e⟩;have:=vqb he (hn k hk) hi e;subst this;exact hk
  ·intro h;exact ⟨i,h,rfl⟩
 rw [h1];congr 1;have hs:((v0z t.Rows.length).filter fun i=>decide (i∈C)).Pairwise (· < ·):=v4r.filter _;refine v4d.eq_of_pairwise (le:=fun a b=>a < b) (fun a b _ _ h1 h2=>by omega) hs hC (qy1 (hs.imp fun h=>Nat.ne_of_lt h) (hC.imp fun h=>Nat.ne_of_lt h) fun x=>?_);rw [v28,v3c,decide_eq_true_eq];exact ⟨fun h=>h.2,fun h=>⟨hn x h,h⟩⟩
theorem vt0 {t:Table} {l:Linkage} (T:LnkT t l) {C:List Nat} (hC:C.Pairwise (· < ·)) (hCn:∀x∈C,x < t.Rows.length) (hn:C.length≤6):qjw t l (qe7 t C)=some (qa7 (qnp (wT t l) C) C.length):=by
 have hat:=T.attrs;have hrw:=T.rows;have hk:=vkw t (qe7 t C) (by omega) (by omega) (fun r hr=>by have:=q0l T.err hr;omega) (by simp [qe7];omega);rw [vhc T.err hC hCn] at hk;have hlen:(C.map (qf4 t)).length=C.length:=by simp
 have qa4:∀i,i < C.length→(C.map (qf4 t))[i]?=some (qf4 t (C.getD i 0)):=by
  intro i hi;rw [v0c,vz9 hi];simp [v2h,vz9 hi]
 have hmem:∀i,i < C.length→C.getD i 0 < t.Rows.length:=fun i hi=>hCn _ (v0t (i:=i) (by simp [v2h,vz9 hi]))
 have qwb:∀(r:Table),r.Rows=C.map (qf4 t)→∀(i:Nat),i < C.length→∀(d k:Nat) (out:List Pair),i < k→k+d=C.length→out.length+d≤1000→qae (qes l r (i:Int)) (out,(k:Int))=some (out++(v3f k d).flatMap fun (j:Nat)=>[(⟨(i:Int),(j:Int),qnp (wT t l) C i j⟩:Pair)]):=by
  intro r hr i hi d
  induction d with
  | zero =>
   intro k out _ hk _;have c:¬((k:Int) < (r.Rows.length:Int)):=by rw [hr,hlen];omega
   rw [qad (t:=out) (by simp only [qes,if_neg c])];simp
  | succ d ih =>
   intro k out hik hk hl;have hk':k < C.length:=by omega
   have c:((k:Int) < (r.Rows.length:Int)):=by rw [hr,hlen];omega
   have hrm:qal (out.length+1) 24=true:=q5g (by omega);have hlt:=q7p hC hik hk';have w:=wqn k;have gi:idx r.Rows (i:Int)=some (qf4 t (C.getD i 0)):=by rw [hr];exact qaa (qa4 i hi)
   have gk:idx r.Rows (k:Int)=some (qf4 t (C.getD k 0)):=by rw [hr];exact qaa (qa4 k hk')
   have hm:=vk3 T (qoo (hmem i hi)) (qoo (hmem k hk')) (vtk T.err (hmem i hi) (hmem k hk') (by omega));have hm':qfs (qf4 t (C.getD i 0)) (qf4 t (C.getD k 0)) l=some (mT t l (C.getD i 0) (C.getD k 0)):=hm;have hw:qnp (wT t l) C i k=if mT t l (C.getD i 0) (C.getD k 0)=true then 1 else -1:=by
    unfold qnp wT;rw [if_neg (by omega),v3j (by omega),v6z (by omega)]
   have hb:qes l r (i:Int) (out,(k:Int))=some (.next (out++[(⟨(i:Int),(k:Int),qnp (wT t l) C i k⟩:Pair)],((k+1:Nat):Int))):=by
    simp only [qes,if_pos c,gi,gk,v1r,hm',hrm,if_true,w,hw];cases mT t l (C.getD i 0) (C.getD k 0) <;> rfl
   rw [qac hb,ih (k+1) _ (by omega) (by omega) (by rw [v0h,v2u];omega),v5s,v2g,vzw]
 have outer:∀(r:Table),r.Rows=C.map (qf4 t)→qae (qet l r) ([],0)=some (qa7 (qnp (wT t l) C) C.length):=by
  intro r hr;have o:=qk7 (qet l r) (fun i=>(v3f (i+1) (C.length - (i+1))).flatMap fun (k:Nat)=>if true=true then [(⟨(i:Int),(k:Int),qnp (wT t l) C i k⟩:Pair)] else []) C.length 100 6 (by
   intro i out hi hl;have c:((i:Int) < (r.Rows.length:Int)):=by rw [hr,hlen];omega
   have w:=wqn i;have hin:=qwb r hr i hi (C.length - (i+1)) (i+1) out (by omega) (by omega) (by omega);simp only [qet,if_pos c,w,hin,v1r,if_true]) (by
   intro i _;have:=ql3 (fun (k:Nat)=>if true=true then [(⟨(i:Int),(k:Int),qnp (wT t l) C i k⟩:Pair)] else []) 1 (v3f (i+1) (C.length - (i+1))) (fun k _=>by simp);rw [v5f] at this;omega) (by
   intro out;have c:¬((C.length:Int) < (r.Rows.length:Int)):=by rw [hr,hlen];omega
   simp only [qet,if_neg c]) C.length 0 [] (by omega) (by simp;omega)
  simp only [v33,v0y] at o;exact o
 have ho:=outer ⟨t.Name,t.Attrs,C.map (qf4 t)⟩ rfl;simp only [qjw,hk.2,v1r,ho]
theorem vda (P:List Pair) (hP:P.length≤1000) (i k:Int):∃w b,qge P i k=some (w,b):=by
 have key:∀(d m:Nat),m+d=P.length→∃o,qae (qcu P i k) (m:Int)=some o:=by
  intro d
  induction d with
  | zero =>
   intro m hm;obtain rfl:m=P.length:=by omega
   exact ⟨.inl (),qad (by simp only [qcu,if_neg (v4z _)])⟩
  | succ d ih =>
   intro m hm;have hlt:m < P.length:=by omega
   have hx:P[m]?=some P[m]:=vz9 hlt;have w:=wqn m;obtain ⟨o,ho⟩:=ih (m+1) (by omega);by_cases e1:P[m].I=i
   ·by_cases e2:P[m].K=k
    ·exact ⟨.inr (P[m].Weight,true),qad (by simp only [qcu,if_pos (qai hx),qaa hx,v1r,beq_iff_eq,if_pos e1,e2,beq_self_eq_true,if_true])⟩
    ·have e2':(P[m].K == k)=false:=by rw [beq_eq_false_iff_ne];exact e2
     exact ⟨o,by rw [qac (s':=((m+1:Nat):Int)) (by simp only [qcu,if_pos (qai hx),qaa hx,v1r,beq_iff_eq,if_pos e1,e2',vzo,if_false,w])];exact ho⟩
   ·exact ⟨o,by rw [qac (s':=((m+1:Nat):Int)) (by simp only [qcu,if_pos (qai hx),qaa hx,v1r,beq_iff_eq,if_neg e1,vzo,if_false,w])];exact ho⟩
 obtain ⟨o,ho⟩:=key P.length 0 (by omega);simp only [v33] at ho;cases o with
 | inl u=>exact ⟨0,false,by simp only [qge,ho,v1r]⟩
 | inr r=>exact ⟨r.1,r.2,by simp only [qge,ho,v1r]⟩
theorem vhd (W:Nat→Nat→Int) (hW:WOk W) (n:Nat) (hn:n≤6):∃r,qho (n:Int) (qa7 W n)=some r:=by
 have hpl:=qro W n hn;have h0:(0:Int)≤(n:Int):=by omega
 have hr:qal n 8=true:=qrf (by omega);have L1:∀(d k:Nat) (la:List Int),k+d=n→la.length=n→∃la',qae (qg1 (n:Int)) (la,(k:Int))=some la'∧la'.length=n:=by
  intro d
  induction d with
  | zero =>
   intro k la hk hl;obtain rfl:k=n:=by omega
   exact ⟨la,qad (by simp only [qg1,if_neg (v4z _)]),hl⟩
  | succ d ih =>
   intro k la hk hl;have c:((k:Int) < (n:Int)):=by omega
   have hx:la[k]?=some (la.getD k 0):=by simp [v2h,vz9 (show k < la.length by omega)]
   obtain ⟨la',q1,q2⟩:=ih (k+1) (la.set k (-1)) (by omega) (by rw [v0m];exact hl);refine ⟨la',?_,q2⟩;rw [qac (s':=(la.set k (-1),((k+1:Nat):Int))) (by simp only [qg1,if_pos c,qaa hx,v1r,v38,wqn k])];exact q1
 have L4:∀(nx i:Int) (d k:Nat) (la:List Int),k+d=n→la.length=n→∃la',qae (qda (n:Int) (qa7 W n) nx i) (la,(k:Int))=some la'∧la'.length=n:=by
  intro nx i d
  induction d with
  | zero =>
   intro k la hk hl;obtain rfl:k=n:=by omega
   exact ⟨la,qad (by simp only [qda,if_neg (v4z _)]),hl⟩
  | succ d ih =>
   intro k la hk hl;have c:((k:Int) < (n:Int)):=by omega
   have hx:la[k]?=some (la.getD k 0):=by simp [v2h,vz9 (show k < la.length by omega)]
   have w:=wqn k;obtain ⟨wt,b,hw⟩:=vda (qa7 W n) (by omega) i (k:Int);by_cases a:wt > 0
   ·by_cases q:la.getD k 0 < 0
    ·obtain ⟨la',q1,q2⟩:=ih (k+1) (la.set k nx) (by omega) (by rw [v0m];exact hl);refine ⟨la',?_,q2⟩;rw [qac (s':=(la.set k nx,((k+1:Nat):Int))) (by simp only [qda,if_pos c,hw,v1r,if_pos a,qaa hx,decide_eq_true q,if_true,v38,w])];exact q1
    ·obtain ⟨la',q1,q2⟩:=ih (k+1) la (by omega) hl;refine ⟨la',?_,q2⟩;rw [qac (s':=(la,((k+1:Nat):Int))) (by simp only [qda,if_pos c,hw,v1r,if_pos a,qaa hx,decide_eq_false q,vzo,if_false,w])];exact q1
   ·obtain ⟨la',q1,q2⟩:=ih (k+1) la (by omega) hl;refine ⟨la',?_,q2⟩;rw [qac (s':=(la,((k+1:Nat):Int))) (by simp only [qda,if_pos c,hw,v1r,if_neg a,vzo,if_false,w])];exact q1
 have L5:∀(d k:Nat) (la:List Int) (nx:Nat),k+d=n→la.length=n→nx≤k→∃la',qae (qeu (n:Int) (qa7 W n)) (la,(nx:Int),(k:Int))=some la':=by
  intro d
  induction d with
  | zero =>
   intro k la nx hk hl _;obtain rfl:k=n:=by omega
   exact ⟨la,qad (by simp only [qeu,if_neg (v4z _)])⟩
  | succ d ih =>
   intro k la nx hk hl hnx;have c:((k:Int) < (n:Int)):=by omega
   have hx:la[k]?=some (la.getD k 0):=by simp [v2h,vz9 (show k < la.length by omega)]
   have w:=wqn k;have w2:=wqn nx;by_cases a:la.getD k 0≥0
   ·obtain ⟨la',q1⟩:=ih (k+1) la nx (by omega) hl (by omega);refine ⟨la',?_⟩;rw [qac (s':=(la,(nx:Int),((k+1:Nat):Int))) (by simp only [qeu,if_pos c,qaa hx,v1r,if_pos a,w])];exact q1
   ·obtain ⟨la1,r1,r2⟩:=L4 (nx:Int) (k:Int) (n - (k+1)) (k+1) (la.set k (nx:Int)) (by omega) (by rw [v0m];exact hl);obtain ⟨la',q1⟩:=ih (k+1) la1 (nx+1) (by omega) r2 (by omega);refine ⟨la',?_⟩;rw [qac (s':=(la1,((nx+1:Nat):Int),((k+1:Nat):Int))) (by simp only [qeu,if_pos c,qaa hx,v1r,if_neg a,w,w2,v38,r1])];exact q1
 obtain ⟨la1,h1,h2⟩:=L1 n 0 (v01 n 0) (by omega) (by simp);obtain ⟨la2,h3⟩:=L5 n 0 la1 0 (by omega) h2 (by omega);simp only [v33] at h1 h3;exact ⟨(la2,0),by simp only [qho,vax W hW n hn,v1r,bne_self_eq_false,vzo,if_false,if_pos h0,v38,hr,if_true,h1,h3]⟩
theorem vo8 (s:List (List Int)) (c:List Int) (hs:∀x∈s,x≠[]) (hc:c≠[]) (hl:s.length≤1000):qae qbv (s++[c],(s.length:Int))=some (q3m ltH c s):=by
 have hgen:∀(l:List (List Int)) (k:Nat) x y,k+1 < 1001→l[k+1]?=some x→l[k]?=some y→x≠[]→y≠[]→qbv (l,((k+1:Nat):Int))=if ltH x y=true then some (.next ((l.set (k+1) y).set k x,(k:Int))) else some (.done l):=by
  intro l k x y hk h1 h2 hx hy;have c0:((k+1:Nat):Int) > 0:=by omega
  have w:v4a.wrap (((k+1:Nat):Int) - 1)=(k:Int):=by rw [qaz (by omega) (by omega)];omega
  have g1:x[0]?=some (x.headD 0):=vei hx;have g2:y[0]?=some (y.headD 0):=vei hy;have g3:idx (l.set (k+1) y) (k:Int)=some y:=by
   refine qaa ?_;rw [v2l,if_neg (by omega),h2]
  simp only [qbv,if_pos c0,qaa h1,v1r,g1,w,qaa h2,g2,v38,g3];unfold ltH;by_cases q:x.headD 0 < y.headD 0
  ·rw [if_pos q,decide_eq_true q];rfl
  ·rw [if_neg q,decide_eq_false q];rfl
 -- only lists without empty members are met
 have key:∀(n:Nat) (s u:List (List Int)),s.length=n→n≤1000→(∀x∈s,x≠[])→qae qbv (s++c :: u,(n:Int))=some (q3m ltH c s++u):=by
  intro n
  induction n with
  | zero =>
   intro s u hs' _ _;obtain rfl:s=[]:=List.eq_nil_of_length_eq_zero hs';rw [qad (t:=c :: u) (by simp [qbv])];rfl
  | succ n ih =>
   intro s u hs' hn hne;obtain ⟨s',y,rfl⟩:∃s' y,s=s'++[y]:=by
    rcases List.eq_nil_or_concat s with rfl | ⟨s',y,rfl⟩
    ·simp at hs'
    ·exact ⟨s',y,by simp⟩
   have hl':s'.length=n:=by simpa using hs'
   have e:s'++[y]++c :: u=s'++y :: c :: u:=by simp
   have g1:(s'++y :: c :: u)[n+1]?=some c:=by rw [vz7 (by omega),hl'];simp
   have g2:(s'++y :: c :: u)[n]?=some y:=by rw [vz7 (by omega),hl'];simp
   have hb:=hgen (s'++y :: c :: u) n c y (by omega) g1 g2 hc (hne y (by simp));rw [e];by_cases q:ltH c y=true
   ·rw [if_pos q] at hb;rw [qac hb];have e2:((s'++y :: c :: u).set (n+1) y).set n c=s'++c :: y :: u:=by
     subst hl';rw [v5w _ _ (by omega),show s'.length+1 - s'.length=1 by omega];simp
    rw [e2,ih s' (y :: u) hl' (by omega) (fun x hx=>hne x (by simp [hx])),qsh,if_pos q];simp
   ·have q':ltH c y=false:=by simpa using q
    rw [if_neg q] at hb;rw [qad hb,qsh,q'];simp
 have h:=key s.length s [] rfl hl hs;simpa using h
theorem vo9 {s:List (List Int)} {c x:List Int}:x∈q3m ltH c s↔x=c∨x∈s:=by
 rw [(q2b ltH c s).mem_iff,List.mem_cons]
theorem vdb {t:Table} {C:List Nat} (G:List (List Int)) {k:Nat} {g:List Nat} (hg:G[k]?=some (qbw g)) (hi:∀i∈g,i < C.length) (hl:g.length≤1000):qae (qcj (qe7 t C) G (k:Int)) ([],0)=some (qe7 t (g.map fun i=>C.getD i 0)):=by
 have hlen:(qbw g).length=g.length:=by simp [qbw]
 have h:=q0m (qcj (qe7 t C) G (k:Int)) g (fun i=>(qf4 t (C.getD i 0)).ID) 1000 hl (by
  intro j out x hx hl';have hj:=qan hx;have hx':(qbw g)[j]?=some (x:Int):=by simp [qbw,hx]
  have hxc:=hi x (v0t hx);have hid:(qe7 t C)[x]?=some (qf4 t (C.getD x 0)).ID:=by
   unfold qe7;rw [v0c,vz9 hxc];simp [v2h,vz9 hxc]
  have hr:qal (out.length+1) 8=true:=qrf (by omega);simp only [qcj,qaa hg,v1r,if_pos (qai hx'),qaa hx',qaa hid,hr,if_true,wqn j]) (by
  intro out;rw [←hlen];simp only [qcj,qaa hg,v1r,if_neg (v4z _)])
 rw [h];congr 1;unfold qe7;rw [v6u];rfl
def q5m (t:Table) (s:List (List Int)) (P:List Nat):List (List Int):=q3m ltH (qe7 t P) s
theorem q7t (t:Table):∀(Ps:List (List Nat)) (s:List (List Int)),(Ps.foldl (q5m t) s).length=s.length+Ps.length
 | [],s=>by simp
 | P :: Ps,s=>by rw [v4m,q7t t Ps];simp only [q5m,vd9,v2p];omega
theorem vdc (t:Table):∀(Ps:List (List Nat)) (s:List (List Int)),(∀P∈Ps,P≠[])→(∀x∈s,x≠[])→∀x∈Ps.foldl (q5m t) s,x≠[]
 | [],s,_,hs=>hs
 | P :: Ps,s,hP,hs=>by
  rw [v4m];refine vdc t Ps _ (fun Q hQ=>hP Q (by simp [hQ])) fun x hx=>?_
  rcases vo9.1 hx with rfl | h
  ·have:=hP P (by simp);intro e;refine this ?_;unfold qe7 at e;exact v6s.1 e
  ·exact hs x h
theorem vhe {t:Table} {C:List Nat} (r:List Int) (hr:r.length=C.length) (hnf:nfL r) (hC:C.Pairwise (· < ·)) (hl:C.length≤6) (out:List (List Int)) (ho:out.length≤100) (hne:∀x∈out,x≠[]) :
  qae (qck (qe7 t C) (qk9 r r.length)) (out,0)=some ((qdv r C).foldl (q5m t) out):=by
 have hus:=qsl hnf;have hgl:(qk9 r r.length).length=qb7 r:=by simp [qk9]
 have hpl:=qyc r C;have key:∀(d k:Nat),k+d=qb7 r→qae (qck (qe7 t C) (qk9 r r.length)) (((qdv r C).take k).foldl (q5m t) out,(k:Int))=some ((qdv r C).foldl (q5m t) out):=by
  intro d
  induction d with
  | zero =>
   intro k hk;have e:(qdv r C).take k=qdv r C:=v05 (by omega);rw [e];have c:¬((k:Int) < ((qk9 r r.length).length:Int)):=by omega
   exact qad (by simp only [qck,if_neg c])
  | succ d ih =>
   intro k hk;have hlt:k < qb7 r:=by omega
   have c:((k:Int) < ((qk9 r r.length).length:Int)):=by omega
   have hg:(qk9 r r.length)[k]?=some (qbw (qx8 r r.length k)):=by
    have:=ql4 (fun c=>qbw (qx8 r r.length c)) (n:=qb7 (r.take r.length)) (v:=k) (by rw [v52];exact hlt);exact this
   have hp:(qdv r C)[k]?=some ((qx8 r r.length k).map fun i=>C.getD i 0):=ql4 _ hlt;have h1:=vdb (t:=t) (C:=C) (qk9 r r.length) hg (fun i hi=>by have:=q7q hi;omega) (by
    have:=v2r (fun i=>decide (r.getD i 0=(k:Int))) (v0z r.length);unfold qx8;rw [v2t] at this;omega)
   have hlen:(((qdv r C).take k).foldl (q5m t) out).length≤106:=by
    rw [q7t,v0n];omega
   have hneP:∀P∈qdv r C,P≠[]:=fun P hP e=>by
    have:=(q7r hnf hC hr hP).2.1;rw [e] at this;simp at this
   have hne':=vdc t ((qdv r C).take k) out (fun P hP=>hneP P (v0v hP)) hne;have hcne:qe7 t ((qx8 r r.length k).map fun i=>C.getD i 0)≠[]:=by
    have:=hneP _ (v0t hp);intro e;exact this (v6s.1 e)
   have hs:=vo8 _ _ hne' hcne (by omega);have hroom:qal ((((qdv r C).take k).foldl (q5m t) out).length+1) 24=true:=q5g (by omega);have w:v4a.wrap ((((((qdv r C).take k).foldl (q5m t) out).length+1:Nat):Int) - 1)=(((((qdv r C).take k).foldl (q5m t) out).length:Nat):Int):=by rw [qaz (by omega) (by omega)];omega
   have hnext:q3m ltH (qe7 t ((qx8 r r.length k).map fun i=>C.getD i 0)) (((qdv r C).take k).foldl (q5m t) out)=((qdv r C).take (k+1)).foldl (q5m t) out:=by
    rw [v5y,hp,v61,v6r];rfl
   rw [qac (s':=(((qdv r C).take (k+1)).foldl (q5m t) out,((k+1:Nat):Int))) (by
    simp only [qck,if_pos c,h1,v1r,hroom,if_true,w,hs,hnext,wqn k])]
   exact ih (k+1) (by omega)
 have h:=key (qb7 r) 0 (by omega);simpa using h
theorem vhf {t:Table} {l:Linkage} (T:LnkT t l) (hn:t.Rows.length≤6):qg2 t l=some (qm3 (qpl t l)):=by
 have hcl:=va3 t l;have key:∀(d k:Nat),k+d=(qc7 (RT t l) t.Rows.length).length→qae (qdt t l ((qc7 (RT t l) t.Rows.length).map (qe7 t))) ((((qc7 (RT t l) t.Rows.length).take k).flatMap fun C=>qdv (qj2 (wT t l) C) C).foldl (q5m t) [],(k:Int))=some ((q2x t l).foldl (q5m t) []):=by
  intro d
  induction d with
  | zero =>
   intro k hk;have e:(qc7 (RT t l) t.Rows.length).take k=qc7 (RT t l) t.Rows.length:=v05 (by omega);rw [e];have c:¬((k:Int) < (((qc7 (RT t l) t.Rows.length).map (qe7 t)).length:Int)):=by rw [v0j];omega
   exact qad (by simp only [qdt,if_neg c];rfl)
  | succ d ih =>
   intro k hk;have hlt:k < (qc7 (RT t l) t.Rows.length).length:=by omega
   have hx:(qc7 (RT t l) t.Rows.length)[k]?=some (qc7 (RT t l) t.Rows.length)[k]:=vz9 hlt;generalize hCg:(qc7 (RT t l) t.Rows.length)[k]=C at hx;have hmem:=v0t hx;obtain ⟨q1,q2,q3,q4⟩:=q2w hmem;obtain ⟨c0,hb,hnf,hbl⟩:=qsm (wT t l) C;have hWk:=vev (vyw t l) C;obtain ⟨piv,hpiv⟩:=vhd (qnp (wT t l) C) hWk C.length (by omega);obtain ⟨b,c,ho,hopt⟩:=vlg (qnp (wT t l) C) hWk C.length (by omega);rw [hb] at ho;simp only [v1x,Prod.mk.injEq] at ho;obtain ⟨e1,e2⟩:=ho;subst e1;have hx':((qc7 (RT t l) t.Rows.length).map (qe7 t))[k]?=some (qe7 t C):=by rw [v0c,hx];rfl
   have hil:(qe7 t C).length=C.length:=by simp [qe7]
   have c10:((qe7 t C).length:Int)≤10:=by omega
   have hsub:∀Q,Q∈((qc7 (RT t l) t.Rows.length).take k).flatMap (fun C=>qdv (qj2 (wT t l) C) C)→Q∈q2x t l:=by
    intro Q hQ;obtain ⟨D,hD,hQD⟩:=v0s.1 hQ;exact v0s.2 ⟨D,v0v hD,hQD⟩
   have hne:=vdc t (((qc7 (RT t l) t.Rows.length).take k).flatMap fun C=>qdv (qj2 (wT t l) C) C) [] (fun Q hQ e=>by
    have:=(vlo (hsub Q hQ)).2.1;rw [e] at this;simp at this) (by simp)
   have hlen:((((qc7 (RT t l) t.Rows.length).take k).flatMap fun C=>qdv (qj2 (wT t l) C) C).foldl (q5m t) []).length≤100:=by
    rw [q7t];have:=ql3 (fun C=>qdv (qj2 (wT t l) C) C) 6 ((qc7 (RT t l) t.Rows.length).take k) (fun D hD=>by
     obtain ⟨c,_,hnf,hbl⟩:=qsm (wT t l) D;have:=qsl hnf;have:=(q2w (v0v hD)).2.2.2;rw [qyc];omega)
    rw [v0n] at this;have h6:min k (qc7 (RT t l) t.Rows.length).length * 6≤6 * 6:=v1m 6 (by omega);simp only [List.length_nil,Nat.zero_add];omega
   have hput:=vhe (t:=t) (qj2 (wT t l) C) hbl hnf q1 (by omega) _ hlen hne;have hgr:=vo2 hnf (by omega);have hpr:=vt0 T q1 q2 (by omega);have hp2:qho ((qe7 t C).length:Int) (qa7 (qnp (wT t l) C) C.length)=some piv:=by rw [hil];exact hpiv
   have ho2:qfi ((qe7 t C).length:Int) (qa7 (qnp (wT t l) C) C.length)=some (qj2 (wT t l) C,c,0):=by rw [hil];exact hopt
   have hnext:(qdv (qj2 (wT t l) C) C).foldl (q5m t) ((((qc7 (RT t l) t.Rows.length).take k).flatMap fun C=>qdv (qj2 (wT t l) C) C).foldl (q5m t) [])=(((qc7 (RT t l) t.Rows.length).take (k+1)).flatMap fun C=>qdv (qj2 (wT t l) C) C).foldl (q5m t) []:=by
    rw [←v6r];congr 1;rw [v5y,hx,v61,List.flatMap_append];simp
   rw [qac (s':=((((qc7 (RT t l) t.Rows.length).take (k+1)).flatMap fun C=>qdv (qj2 (wT t l) C) C).foldl (q5m t) [],((k+1:Nat):Int))) (by
    simp only [qdt,if_pos (qai hx'),qaa hx',v1r,hpr,hp2,if_pos c10,ho2,hgr,hput,hnext,wqn k])]
   exact ih (k+1) (by omega)
 have h:=key (qc7 (RT t l) t.Rows.length).length 0 (by omega);simp only [v06,v6q,List.foldl_nil,v33] at h;simp only [qg2,va5 T (by omega),v1r,h];congr 1;unfold qm3 qxu qpl;rw [List.foldl_map];rfl
theorem vt1 {t:Table} (l:Linkage) (he:qbb t=0):vvd t (qm3 (qpl t l))=true:=by
 have hp:=qou (qpl t l);have hf:=hp.flatten.trans (qyb (t:=t) l);unfold vvd;rw [vzm,vzm];refine ⟨?_,?_,?_⟩
 ·rw [q7g];refine ⟨fun c hc=>?_,hf.nodup_iff.2 (qjj he).2,by simp⟩;have:=qsn he (hp.mem_iff.1 hc);exact vtz this.1 this.2.1
 ·rw [decide_eq_true_eq,hf.length_eq];simp [ids]
 ·rw [v2b];intro x hx;rw [decide_eq_true_eq];exact hf.mem_iff.1 hx
end Go.Proofs.YtmlegeeinnkhkaaGreat
namespace Go.Ab
open Go
def runL {σ τ:Type} (B:σ→Option (LS σ τ)):Nat→σ→Option τ
 | 0,_=>none
 | n+1,s=>match B s with
  | some (.next s')=>runL B n s'
  | some (.done t)=>some t
  | none=>none
theorem qlz {σ τ:Type} {B:σ→Option (LS σ τ)}:∀(n:Nat) {s:σ} {t:τ},runL B n s=some t→qae B s=some t
 | 0,s,t,h=>by simp [runL] at h
 | n+1,s,t,h=>by
  simp only [runL] at h;split at h
  ·rename_i s' e;rw [qac e];exact qlz n h
  ·rename_i t' e;cases h;exact qad e
  ·cases h
theorem vhg {W W':Nat→Nat→Int} (l:List Int) (c:Int) {k:Nat} (h:∀i,i < k→W i k=W' i k):qun W l c k=qun W' l c k:=by
 unfold qun;congr 1;refine v2w fun i hi=>?_
 rw [h i (v3c.1 hi)]
theorem vdd {W W':Nat→Nat→Int} (l:List Int) {n:Nat} (h:∀i k,i < k→k < n→W i k=W' i k):qgk W l n=qgk W' l n:=by
 unfold qgk;congr 1;refine v2w fun k hk=>?_
 exact vhg l _ fun i hi=>h i k hi (v3c.1 hk)
theorem q5n {W W':Nat→Nat→Int} {n:Nat} (h:∀i k,i < k→k < n→W i k=W' i k):vmb W n=vmb W' n:=by
 unfold vmb;have:(fun x=>qgk W x n)=fun x=>qgk W' x n:=by
  funext x;exact vdd x h
 rw [this]
end Go.Ab
namespace Go.Proofs.YtmlegeeinnkhkaaGreat
open Go Go.Ab
def t56:Table:=⟨[112],[[110,97,109,101]],[⟨1,[⟨2,0,[97,110,110]⟩]⟩,⟨2,[⟨2,0,[97,110,110,101]⟩]⟩,⟨3,[⟨2,0,[97,110,110,101,115]⟩]⟩,⟨4,[⟨2,0,[98,111,98]⟩]⟩]⟩
def l56:Linkage:=⟨[[⟨0,2,1⟩]],[],[3]⟩
theorem vlu:qhz=some (t56,l56):=by
 have h:qae (qkm [[97,110,110],[97,110,110,101],[97,110,110,101,115],[98,111,98]]) ([],0)=some t56.Rows:=qlz 6 (by decide +kernel);simp only [qhz,v1r,h];rfl
theorem vy2:qbb t56=0:=by decide +kernel
theorem vy3:vak (t56.Attrs.length:Int) l56=0:=by decide +kernel
theorem vy4:LnkT t56 l56 where
 err:=vy2
 ok:=⟨by decide,by decide,by decide,by unfold q93;decide⟩
 rows:=by decide
 attrs:=by decide
 rules:=by decide
 rule:=by decide
 nblock:=by decide
 nsurv:=by decide
 block:=by intro k hk;cases hk
theorem vy5:vp9 t56 l56=0:=by
 unfold vp9;rw [if_neg (by rw [vy2];simp),if_neg (by rw [vy3];simp)];rfl
theorem sed01:sed ([97,110,110]:Str) [97,110,110,101]=1:=by simp [sed]
theorem sed02:sed ([97,110,110]:Str) [97,110,110,101,115]=2:=by simp [sed]
theorem sed03:sed ([97,110,110]:Str) [98,111,98]=3:=by simp [sed]
theorem sed12:sed ([97,110,110,101]:Str) [97,110,110,101,115]=1:=by simp [sed]
theorem sed13:sed ([97,110,110,101]:Str) [98,111,98]=4:=by simp [sed]
theorem sed23:sed ([97,110,110,101,115]:Str) [98,111,98]=5:=by simp [sed]
theorem m01:mT t56 l56 0 1=true:=by
 simp [mT,qsk,qqe,qrn,qx3,l56,t56,qf4,q48,qji,vAt,qe6,q8a,qo9,sed01,q99,v4l]
theorem m02:mT t56 l56 0 2=false:=by
 simp [mT,qsk,qqe,qrn,qx3,l56,t56,qf4,q48,qji,vAt,qe6,q8a,qo9,sed02,q99,v4l]
theorem m03:mT t56 l56 0 3=false:=by
 simp [mT,qsk,qqe,qrn,qx3,l56,t56,qf4,q48,qji,vAt,qe6,q8a,qo9,sed03,q99,v4l]
theorem m12:mT t56 l56 1 2=true:=by
 simp [mT,qsk,qqe,qrn,qx3,l56,t56,qf4,q48,qji,vAt,qe6,q8a,qo9,sed12,q99,v4l]
theorem m13:mT t56 l56 1 3=false:=by
 simp [mT,qsk,qqe,qrn,qx3,l56,t56,qf4,q48,qji,vAt,qe6,q8a,qo9,sed13,q99,v4l]
theorem m23:mT t56 l56 2 3=false:=by
 simp [mT,qsk,qqe,qrn,qx3,l56,t56,qf4,q48,qji,vAt,qe6,q8a,qo9,sed23,q99,v4l]
theorem n56:t56.Rows.length=4:=rfl
def b56 (i k:Nat):Bool:=(i == 0 && k == 1) || (i == 1 && k == 2)
theorem mT56:∀i k,i < k→k < 4→mT t56 l56 i k=b56 i k:=by
 intro i k h1 h2;have hk:k=1∨k=2∨k=3:=by omega
 rcases hk with rfl | rfl | rfl
 ·obtain rfl:i=0:=by omega
  rw [m01];rfl
 ·have hi:i=0∨i=1:=by omega
  rcases hi with rfl | rfl
  ·rw [m02];rfl
  ·rw [m12];rfl
 ·have hi:i=0∨i=1∨i=2:=by omega
  rcases hi with rfl | rfl | rfl
  ·rw [m03];rfl
  ·rw [m13];rfl
  ·rw [m23];rfl
theorem vlv:qea t56 l56=[⟨1,2⟩,⟨2,3⟩]:=by
 unfold qea;rw [n56,vat (q:=b56) (mk':=fun i k=>Arr2_int64.mk (qf4 t56 i).ID (qf4 t56 k).ID) (fun i k h1 h2=>⟨mT56 i k h1 h2,rfl⟩)];decide +kernel
theorem R56 (u v:Nat):RT t56 l56 u v↔(u=0∧v=1)∨(u=1∧v=2)∨(u=1∧v=0)∨(u=2∧v=1):=by
 rw [vew,n56];constructor
 ·rintro (⟨h1,h2,h3⟩ | ⟨h1,h2,h3⟩)
  ·rw [mT56 u v h1 h2] at h3;simp only [b56,vzr,vzm,beq_iff_eq] at h3;omega
  ·rw [mT56 v u h1 h2] at h3;simp only [b56,vzr,vzm,beq_iff_eq] at h3;omega
 ·rintro (⟨rfl,rfl⟩ | ⟨rfl,rfl⟩ | ⟨rfl,rfl⟩ | ⟨rfl,rfl⟩)
  ·exact .inl ⟨by omega,by omega,m01⟩
  ·exact .inl ⟨by omega,by omega,m12⟩
  ·exact .inr ⟨by omega,by omega,m01⟩
  ·exact .inr ⟨by omega,by omega,m12⟩
theorem vt2 (u v:Nat) (hu:u < 4):Rch (RT t56 l56) u v↔(u < 3∧v < 3)∨(u=3∧v=3):=by
 constructor
 ·intro h;refine h.closed (S:=fun v=>(u < 3∧v < 3)∨(u=3∧v=3)) (by omega) fun x y hx hxy=>?_
  rw [R56] at hxy;omega
 ·have e01:RT t56 l56 0 1:=(R56 0 1).2 (by omega);have e12:RT t56 l56 1 2:=(R56 1 2).2 (by omega);have e10:RT t56 l56 1 0:=(R56 1 0).2 (by omega);have e21:RT t56 l56 2 1:=(R56 2 1).2 (by omega);have r1:∀v,v < 3→Rch (RT t56 l56) 1 v:=by
   intro v hv;have:v=0∨v=1∨v=2:=by omega
   rcases this with rfl | rfl | rfl
   ·exact .step .refl e10
   ·exact .refl
   ·exact .step .refl e12
  rintro (⟨h1,h2⟩ | ⟨rfl,rfl⟩)
  ·have:u=0∨u=1∨u=2:=by omega
   rcases this with rfl | rfl | rfl
   ·exact (Rch.step .refl e01).trans (r1 v h2)
   ·exact r1 v h2
   ·exact (Rch.step .refl e21).trans (r1 v h2)
  ·exact .refl
theorem vt3:qc7 (RT t56 l56) 4=[[0,1,2],[3]]:=by
 classical
 have hh:qo5 (RT t56 l56) 4=[0,3]:=by
  unfold qo5;have:∀v,v∈v0z 4→(decide (∀u,u < v→¬Rch (RT t56 l56) u v))=(v == 0 || v == 3):=by
   intro v hv;have hv:=v3c.1 hv;rw [v3v,decide_eq_true_eq,vzr,beq_iff_eq,beq_iff_eq];constructor
   ·intro h;by_cases h0:v=0
    ·exact .inl h0
    ·right;have:=h 0 (by omega);rw [vt2 0 v (by omega)] at this;omega
   ·intro h u hu;rw [vt2 u v (by omega)];omega
  rw [v6p this];rfl
 have hc:∀v,v < 4→ql2 (RT t56 l56) 4 v=(v0z 4).filter fun x=>(decide (v < 3) && decide (x < 3)) || (decide (v=3) && decide (x=3)):=by
  intro v hv;unfold ql2;refine v6p fun x _=>?_
  rw [v3v,decide_eq_true_eq,vt2 v x hv];simp
 unfold qc7;rw [hh];simp only [List.map_cons,List.map_nil,hc 0 (by omega),hc 3 (by omega)];rfl
theorem vt4:qj2 (wT t56 l56) [0,1,2]=[0,0,0]:=by
 unfold qj2;rw [q5n (W':=fun i k=>if b56 i k then 1 else -1) (fun i k h1 h2=>by
  have h2':k < 3:=h2;have e:∀j,j < 3→[0,1,2].getD j 0=j:=by
   intro j hj;have:j=0∨j=1∨j=2:=by omega
   rcases this with rfl | rfl | rfl <;> rfl
  unfold qnp wT;rw [e i (by omega),e k h2',if_neg (by omega),v3j (by omega),v6z (by omega),mT56 i k h1 (by omega)])]
 decide +kernel
theorem vt5:qj2 (wT t56 l56) [3]=[0]:=by
 unfold qj2;rw [q5n (W':=fun _ _=>0) (fun i k h1 h2=>by
  have h2':k < 1:=h2;omega)]
 decide +kernel
theorem cls56:qm3 (qpl t56 l56)=[[1,2,3],[4]]:=by
 have:qpl t56 l56=[[1,2,3],[4]]:=by
  unfold qpl q2x;rw [n56,vt3];simp only [v2g,v6q,vt4,vt5];decide +kernel
 rw [this];decide +kernel
theorem pl3a:qae (qem 0 [1,2,3]) ([],0,0)=some (.inl [(1,0),(2,0),(3,0)]):=qlz 5 (by decide +kernel)
theorem pl3b:qae (qem 1 [4]) ([(1,0),(2,0),(3,0)],0,0)=some (.inl [(1,0),(2,0),(3,0),(4,1)]):=qlz 5 (by decide +kernel)
theorem va6:qf3 [[1,2,3],[4]]=some ([(1,0),(2,0),(3,0),(4,1)],3,true):=by
 have h:qae (qbp [[1,2,3],[4]]) ([],0,0)=some (.inl ([(1,0),(2,0),(3,0),(4,1)],3)):=by
  have i0:idx [[1,2,3],[4]] (0:Int)=some [1,2,(3:Int)]:=rfl;have i1:idx [[1,2,3],[4]] (1:Int)=some [(4:Int)]:=rfl;rw [qac (s':=([(1,0),(2,0),(3,0)],3,1)) (by
   simp only [qbp,i0,v1r,pl3a];rfl)]
  rw [qac (s':=([(1,0),(2,0),(3,0),(4,1)],3,2)) (by
   simp only [qbp,i1,v1r,pl3b];rfl)]
  exact qad (by simp [qbp])
 simp only [qf3,h,v1r];decide +kernel
theorem pl3c:qae (qem 0 [1,2]) ([],0,0)=some (.inl [(1,0),(2,0)]):=qlz 5 (by decide +kernel)
theorem pl3d:qae (qem 1 [3]) ([(1,0),(2,0)],0,0)=some (.inl [(1,0),(2,0),(3,1)]):=qlz 5 (by decide +kernel)
theorem pl3e:qae (qem 2 [4]) ([(1,0),(2,0),(3,1)],0,0)=some (.inl [(1,0),(2,0),(3,1),(4,2)]):=qlz 5 (by decide +kernel)
theorem va7:qf3 [[1,2],[3],[4]]=some ([(1,0),(2,0),(3,1),(4,2)],1,true):=by
 have h:qae (qbp [[1,2],[3],[4]]) ([],0,0)=some (.inl ([(1,0),(2,0),(3,1),(4,2)],1)):=by
  have i0:idx [[1,2],[3],[4]] (0:Int)=some [1,(2:Int)]:=rfl;have i1:idx [[1,2],[3],[4]] (1:Int)=some [(3:Int)]:=rfl;have i2:idx [[1,2],[3],[4]] (2:Int)=some [(4:Int)]:=rfl;rw [qac (s':=([(1,0),(2,0)],1,1)) (by
   simp only [qbp,i0,v1r,pl3c];rfl)]
  rw [qac (s':=([(1,0),(2,0),(3,1)],1,2)) (by
   simp only [qbp,i1,v1r,pl3d];rfl)]
  rw [qac (s':=([(1,0),(2,0),(3,1),(4,2)],1,3)) (by
   simp only [qbp,i2,v1r,pl3e];rfl)]
  exact qad (by simp [qbp])
 simp only [qf3,h,v1r];decide +kernel
def pa56:List (Int×Int):=[(1,0),(2,0),(3,0),(4,1)]
def pb56:List (Int×Int):=[(1,0),(2,0),(3,1),(4,2)]
theorem vy6:qdg [[1,2,3],[4]] [[1,2],[3],[4]]=some (qrl 1 3,0):=by
 have a1:qae (qcs (pb56,1,true) [1,2,3]) (0,[],0)=some 1:=qlz 5 (by decide +kernel);have a2:qae (qcs (pb56,1,true) [4]) (1,[],0)=some 1:=qlz 5 (by decide +kernel);have h:qae (qa2 [[1,2,3],[4]] (pb56,1,true)) (0,0)=some 1:=by
  have i0:idx [[1,2,3],[4]] (0:Int)=some [1,2,(3:Int)]:=rfl;have i1:idx [[1,2,3],[4]] (1:Int)=some [(4:Int)]:=rfl;rw [qac (s':=(1,1)) (by simp only [qa2,i0,v1r,a1];rfl)];rw [qac (s':=(1,2)) (by simp only [qa2,i1,v1r,a2];rfl)];exact qad (by simp [qa2])
 have hm:qmc 1 3=some (qrl 1 3,0):=qqo 1 3 (by omega) (by omega) (by omega);have z:((3:Int) == 0)=false:=rfl;have h':qae (qa2 [[1,2,3],[4]] ([(1,0),(2,0),(3,1),(4,2)],1,true)) (0,0)=some 1:=h;simp only [qdg,va6,va7,v1r,if_true,z,vzo,if_false,h',hm]
theorem vt6:qdg [[1,2],[3],[4]] [[1,2,3],[4]]=some (qrl 1 1,0):=by
 have a1:qae (qcs (pa56,3,true) [1,2]) (0,[],0)=some 1:=qlz 5 (by decide +kernel);have a2:qae (qcs (pa56,3,true) [3]) (1,[],0)=some 1:=qlz 5 (by decide +kernel);have a3:qae (qcs (pa56,3,true) [4]) (1,[],0)=some 1:=qlz 5 (by decide +kernel);have h:qae (qa2 [[1,2],[3],[4]] (pa56,3,true)) (0,0)=some 1:=by
  have i0:idx [[1,2],[3],[4]] (0:Int)=some [1,(2:Int)]:=rfl;have i1:idx [[1,2],[3],[4]] (1:Int)=some [(3:Int)]:=rfl;have i2:idx [[1,2],[3],[4]] (2:Int)=some [(4:Int)]:=rfl;rw [qac (s':=(1,1)) (by simp only [qa2,i0,v1r,a1];rfl)];rw [qac (s':=(1,2)) (by simp only [qa2,i1,v1r,a2];rfl)];rw [qac (s':=(1,3)) (by simp only [qa2,i2,v1r,a3];rfl)];exact qad (by simp [qa2])
 have hm:qmc 1 1=some (qrl 1 1,0):=qqo 1 1 (by omega) (by omega) (by omega);have z:((1:Int) == 0)=false:=rfl;have h':qae (qa2 [[1,2],[3],[4]] ([(1,0),(2,0),(3,0),(4,1)],3,true)) (0,0)=some 1:=h;simp only [qdg,va6,va7,v1r,if_true,z,vzo,if_false,h',hm]
theorem vlw:qhi=some true:=by
 have hm:=vk5 vy4 vy5;have hc:=q5l vy4 vy5 (by rw [n56];omega);rw [vlv] at hm;rw [cls56] at hc;have hs:qdw [⟨1,2⟩,⟨2,3⟩] [⟨1,2⟩,⟨2,3⟩]=some true:=by
  rw [vav _ _ (by decide)];rfl
 have hl:qd5 [[1,2,3],[4]] [[1,2,3],[4]]=some true:=by
  rw [qza _ _ (by decide) (by decide)];rfl
 have o1:qez 1 3=some (qrl 1 3):=qy4 1 3 (by omega) (by omega) (by omega);have o2:qez 1 1=some (qrl 1 1):=qy4 1 1 (by omega) (by omega) (by omega);have hr:qlp [[1,2,3],[4]] [[1,2],[3],[4]]=some (qrl 1 1,0):=by
  simp only [qlp,vt6,v1r]
 simp only [qhi,vlu,v1r,hm,hc,vy6,hr,beq_self_eq_true,if_true,hs,hl,o1,o2,Bool.and_true]
def qu3 (n:Nat) (x:Drossref56_Test):Similar :=
 ⟨v34 x.Attr (n:Int),1+v34 x.Measure 4,if 1+v34 x.Measure 4=3 then v34 x.Limit 101 else if 1+v34 x.Measure 4=1 then 0 else v34 x.Limit 4⟩
theorem q7u {n:Int} (h:okI .u8 n):0≤n∧n≤255:=vyp h
theorem qt1 {a b:Int} (ha:0≤a) (hb:0 < b):0≤v34 a b∧v34 a b < b:=by
 refine ⟨Int.tmod_nonneg b ha,Int.tmod_lt_of_pos a hb⟩
theorem vlx (n:Nat) (hn:1≤n) (hn2:n≤16) (d:Drossref56_Draft) (i k:Nat) {r:List Drossref56_Test} {x:Drossref56_Test} (hr:d.Rules[i]?=some r) (hx:r[k]?=some x) (hok:qdk x) (out:List Similar) (ho:out.length≤100) (hk:k≤1000) :
  qhj (n:Int) d (i:Int) (out,(k:Int))=some (.next (out++[qu3 n x],((k+1:Nat):Int))):=by
 obtain ⟨h1,h2,h3⟩:=hok;have a1:=q7u h1;have a2:=q7u h2;have a3:=q7u h3;have hz:¬((n:Int)=0):=by omega
 have hroom:qal (out.length+1) 24=true:=q5g (by omega);have w:=wqn k;have m4:=qt1 a2.1 (show (0:Int) < 4 by omega);have l101:=qt1 a3.1 (show (0:Int) < 101 by omega);have l4:=qt1 a3.1 (show (0:Int) < 4 by omega);have w1:v4a.wrap (v34 x.Measure 4)=v34 x.Measure 4:=qaz (by omega) (by omega);have w2:v4a.wrap (1+v34 x.Measure 4)=1+v34 x.Measure 4:=qaz (by omega) (by omega);have w3:v4a.wrap x.Attr=x.Attr:=qaz (by omega) (by omega);have w4:v4a.wrap (v34 x.Limit 101)=v34 x.Limit 101:=qaz (by omega) (by omega);have w5:v4a.wrap (v34 x.Limit 4)=v34 x.Limit 4:=qaz (by omega) (by omega);simp only [qhj,qaa hr,v1r,if_pos (qai hx),qaa hx,if_neg hz,w1,w2,w3,w4,w5,hroom,if_true,w,beq_iff_eq];unfold qu3;by_cases c1:1+v34 x.Measure 4=1
 ·have c3:¬1+v34 x.Measure 4=3:=by omega
  rw [if_pos c1,if_neg c3,if_neg c3,if_pos c1]
 ·by_cases c3:1+v34 x.Measure 4=3
  ·rw [if_neg c1,if_pos c3,if_pos c3]
  ·rw [if_neg c1,if_neg c3,if_neg c3,if_neg c1]
theorem vly (n:Nat) (hn:1≤n) (hn2:n≤16) (d:Drossref56_Draft) (i:Nat) {r:List Drossref56_Test} (hr:d.Rules[i]?=some r) (hok:∀x∈r,qdk x) (hl:r.length≤3):qae (qhj (n:Int) d (i:Int)) ([],0)=some (r.map (qu3 n)) :=
 q0m _ r (qu3 n) 50 (by omega) (fun k out x hx ho=>vlx n hn hn2 d i k hr hx (hok x (v0t hx)) out (by omega) (by have:=qan hx;omega)) (fun out=>by
  simp only [qhj,qaa hr,v1r,if_neg (v4z _)])
def va8 (d:Drossref56_Draft):Bool:=d.Rules.all fun r=>decide (1≤r.length∧r.length≤3)
theorem vhh (n:Nat) (hn:1≤n) (hn2:n≤16) (d:Drossref56_Draft) (hok:qb6 d):qae (qd7 (n:Int) d) ([],0)=some (if va8 d then .inl (d.Rules.map fun r=>r.map (qu3 n)) else .inr (⟨[],[],[]⟩,false)):=by
 have hR:=hok.1;have key:∀(m k:Nat),k+m=d.Rules.length→qae (qd7 (n:Int) d) ((d.Rules.take k).map (fun r=>r.map (qu3 n)),(k:Int))=some (if (d.Rules.drop k).all (fun r=>decide (1≤r.length∧r.length≤3)) then .inl (d.Rules.map fun r=>r.map (qu3 n)) else .inr (⟨[],[],[]⟩,false)):=by
  intro m
  induction m with
  | zero =>
   intro k hk;obtain rfl:k=d.Rules.length:=by omega
   exact qad (by simp [qd7])
  | succ m ih =>
   intro k hk;have hlt:k < d.Rules.length:=by omega
   have hx:d.Rules[k]?=some d.Rules[k]:=vz9 hlt;have hb:=hR.1;rw [qlu hx,List.all_cons];by_cases c1:(d.Rules[k].length:Int) < 1
   ·have:decide (1≤d.Rules[k].length∧d.Rules[k].length≤3)=false:=decide_eq_false (by omega);rw [this,Bool.false_and];exact qad (by simp only [qd7,if_pos (qai hx),qaa hx,v1r,if_pos c1];rfl)
   ·by_cases c2:(d.Rules[k].length:Int) > 3
    ·have:decide (1≤d.Rules[k].length∧d.Rules[k].length≤3)=false:=decide_eq_false (by omega);rw [this,Bool.false_and];exact qad (by simp only [qd7,if_pos (qai hx),qaa hx,v1r,if_neg c1,if_pos c2];rfl)
    ·have:decide (1≤d.Rules[k].length∧d.Rules[k].length≤3)=true:=decide_eq_true (by omega);rw [this,Bool.true_and];have hr:=vly n hn hn2 d k hx (fun x hxm=>(hR.2 _ (v0t hx)).2 x hxm) (by omega);have hroom:qal (((d.Rules.take k).map (fun r=>r.map (qu3 n))).length+1) 24=true:=by
      unfold qal;simp only [v0j,v0n,decide_eq_true_eq];omega
     rw [qac (s':=((d.Rules.take (k+1)).map (fun r=>r.map (qu3 n)),((k+1:Nat):Int))) (by
      simp only [qd7,if_pos (qai hx),qaa hx,v1r,if_neg c1,if_neg c2,hr,hroom,if_true,wqn k];rw [v5y,hx,v61,v0o,v5i])]
     exact ih (k+1) (by omega)
 have h:=key d.Rules.length 0 (by omega);simpa [va8] using h
theorem vpa (n:Nat) (hn:1≤n) {x:Drossref56_Test} (hok:qdk x):q7d (n:Int) (qu3 n x)=0:=by
 obtain ⟨h1,h2,h3⟩:=hok;have a1:=q7u h1;have a2:=q7u h2;have a3:=q7u h3;have m4:=qt1 a2.1 (show (0:Int) < 4 by omega);have l101:=qt1 a3.1 (show (0:Int) < 101 by omega);have l4:=qt1 a3.1 (show (0:Int) < 4 by omega);have an:=qt1 a1.1 (show (0:Int) < (n:Int) by omega);have hlim:q8a (qu3 n x)=true:=by
  unfold q8a qu3;simp only;by_cases c1:1+v34 x.Measure 4=1
  ·have c3:¬1+v34 x.Measure 4=3:=by omega
   rw [if_pos c1,if_neg c3,if_pos c1];rfl
  ·by_cases c3:1+v34 x.Measure 4=3
   ·have c2:¬(1+v34 x.Measure 4=2∨1+v34 x.Measure 4=4):=by omega
    rw [if_neg c1,if_neg c2,if_pos c3,if_pos c3,decide_eq_true_eq];omega
   ·have c2:1+v34 x.Measure 4=2∨1+v34 x.Measure 4=4:=by omega
    rw [if_neg c1,if_pos c2,if_neg c3,if_neg c1,decide_eq_true_eq];omega
 unfold q7d;rw [if_neg (show ¬((qu3 n x).Attr < 0∨(qu3 n x).Attr≥(n:Int)) by unfold qu3;simp only;omega),hlim];rfl
theorem vhi (n:Nat) (hn2:n≤16) (d:Drossref56_Draft) (hok:qb6 d):∃B S,qae (qbx (n:Int) d) ([],[],0)=some (B,S)∧B.Nodup∧(∀x∈B,0≤x∧x < (n:Int))∧B.length≤n∧S.length=n∧∀x∈S,1≤x∧x≤5:=by
 have hS:=hok.2.2;have key:∀(m k:Nat) (B S:List Int),k+m=n→B.Nodup→(∀x∈B,0≤x∧x < (k:Int))→B.length≤k→S.length=k→(∀x∈S,1≤x∧x≤5) →
   ∃B' S',qae (qbx (n:Int) d) (B,S,(k:Int))=some (B',S')∧B'.Nodup∧(∀x∈B',0≤x∧x < (n:Int))∧B'.length≤n∧S'.length=n∧∀x∈S',1≤x∧x≤5:=by
  intro m
  induction m with
  | zero =>
   intro k B S hk h1 h2 h3 h4 h5;obtain rfl:k=n:=by omega
   exact ⟨B,S,qad (by simp only [qbx,if_neg (v4z _)]),h1,h2,h3,h4,h5⟩
  | succ m ih =>
   intro k B S hk h1 h2 h3 h4 h5;have c:((k:Int) < (n:Int)):=by omega
   have w:=wqn k;have r1:qal (B.length+1) 8=true:=qrf (by omega);have r2:qal (S.length+1) 8=true:=qrf (by omega);have hneg:¬((k:Int) < 0):=by omega
   obtain ⟨q,hq⟩:∃q:Bool,(show Option Bool from if (k:Int) < 8 then if (k:Int) < 0 then none else some ((v34 (Int.fdiv d.Block (2 ^ (min ((k:Int)).toNat 8))) 2) == 1) else some false)=some q:=by
    by_cases c8:(k:Int) < 8
    ·exact ⟨_,by rw [if_pos c8,if_neg hneg]⟩
    ·exact ⟨false,by rw [if_neg c8]⟩
   have B1:(B++[(k:Int)]).Nodup:=by
    rw [v5m];refine ⟨h1,by simp,?_⟩;intro a ha b hb e;rw [v3d] at hb;subst hb;subst e;have:=h2 _ ha;omega
   have B2:∀x∈B++[(k:Int)],0≤x∧x < ((k+1:Nat):Int):=by
    intro x hx;rcases v0r.1 hx with h | h
    ·have:=h2 x h;omega
    ·rw [v3d] at h;omega
   have B3:∀x∈B,0≤x∧x < ((k+1:Nat):Int):=fun x hx=>by have:=h2 x hx;omega
   have S1:∀y,1≤y∧y≤5→∀x∈S++[y],(1:Int)≤x∧x≤5:=by
    intro y hy x hx;rcases v0r.1 hx with h | h
    ·exact h5 x h
    ·rw [v3d] at h;subst h;exact hy
   have hq':(if (k:Int) < 8 then if (k:Int) < 0 then none else some ((v34 (Int.fdiv d.Block (2 ^ (min ((k:Int)).toNat 8))) 2) == 1) else some false)=some q:=hq;by_cases cs:(k:Int) < (d.Survive.length:Int)
   ·have hx:d.Survive[k]?=some d.Survive[k]:=vz9 (by omega);have hu:=q7u (hS.2 _ (v0t hx));have m5:=qt1 hu.1 (show (0:Int) < 5 by omega);have w1:v4a.wrap (v34 d.Survive[k] 5)=v34 d.Survive[k] 5:=qaz (by omega) (by omega);have w2:v4a.wrap (1+v34 d.Survive[k] 5)=1+v34 d.Survive[k] 5:=qaz (by omega) (by omega);cases q with
    | true =>
     obtain ⟨B',S',g1,g2⟩:=ih (k+1) (B++[(k:Int)]) (S++[1+v34 d.Survive[k] 5]) (by omega) B1 B2 (by simp;omega) (by simp;omega) (S1 _ (by omega));refine ⟨B',S',?_,g2⟩;rw [qac (s':=(B++[(k:Int)],S++[1+v34 d.Survive[k] 5],((k+1:Nat):Int))) (by
      simp only [qbx,if_pos c,hq',v1r,if_true,r1,r2,if_pos cs,qaa hx,w1,w2,w])]
     exact g1
    | false =>
     obtain ⟨B',S',g1,g2⟩:=ih (k+1) B (S++[1+v34 d.Survive[k] 5]) (by omega) h1 B3 (by omega) (by simp;omega) (S1 _ (by omega));refine ⟨B',S',?_,g2⟩;rw [qac (s':=(B,S++[1+v34 d.Survive[k] 5],((k+1:Nat):Int))) (by
      simp only [qbx,if_pos c,hq',v1r,if_true,vzo,if_false,r1,r2,if_pos cs,qaa hx,w1,w2,w])]
     exact g1
   ·cases q with
    | true =>
     obtain ⟨B',S',g1,g2⟩:=ih (k+1) (B++[(k:Int)]) (S++[1]) (by omega) B1 B2 (by simp;omega) (by simp;omega) (S1 _ (by omega));refine ⟨B',S',?_,g2⟩;rw [qac (s':=(B++[(k:Int)],S++[1],((k+1:Nat):Int))) (by
      simp only [qbx,if_pos c,hq',v1r,if_true,r1,r2,if_neg cs,w])]
     exact g1
    | false =>
     obtain ⟨B',S',g1,g2⟩:=ih (k+1) B (S++[1]) (by omega) h1 B3 (by omega) (by simp;omega) (S1 _ (by omega));refine ⟨B',S',?_,g2⟩;rw [qac (s':=(B,S++[1],((k+1:Nat):Int))) (by
      simp only [qbx,if_pos c,hq',v1r,vzo,if_false,r1,r2,if_true,if_neg cs,w])]
     exact g1
 obtain ⟨B,S,g⟩:=key n 0 [] [] (by omega) (by simp) (by simp) (by simp) rfl (by simp);exact ⟨B,S,by simpa using g⟩
theorem qwj {α:Type} {f:α→Int}:∀{l:List α},(∀x∈l,f x=0)→qmx f l=0
 | [],_=>rfl
 | x :: l,h=>by
  have h1:=h x List.mem_cons_self;unfold qmx;rw [if_neg (by simp [h1])];exact qwj fun y hy=>h y (List.mem_cons_of_mem _ hy)
structure Made (t:Table) (l:Linkage):Prop where
 good:Good t
 ok:qsc t
 n1:1≤t.Attrs.length
 lnk:LnkT t l
 lim:vp9 t l=0
 rows:t.Rows.length≤6
 rules:l.Rules.length≤8
 nb:l.Block.length≤16
 surv:l.Survive.length=t.Attrs.length
 survs:∀x∈l.Survive,1≤x∧x≤5
def qmz (n:Nat) (d:Drossref56_Draft):List (List Similar):=d.Rules.map fun r=>r.map (qu3 n)
theorem vt7 (n:Nat) (hn:1≤n) (hn2:n≤16) (d:Drossref56_Draft) (hok:qb6 d):∃B S,qae (qbx (n:Int) d) ([],[],0)=some (B,S)∧B.Nodup∧(∀x∈B,0≤x∧x < (n:Int))∧B.length≤n∧S.length=n∧(∀x∈S,1≤x∧x≤5) ∧
  qmp (n:Int) d=some (if va8 d then (⟨qmz n d,B,S⟩,decide (d.Rules.length≤4)) else (⟨[],[],[]⟩,false)):=by
 obtain ⟨B,S,h,h1,h2,h3,h4,h5⟩:=vhi n hn2 d hok;refine ⟨B,S,h,h1,h2,h3,h4,h5,?_⟩;simp only [qmp,vhh n hn hn2 d hok,v1r];cases va8 d with
 | true =>
  have e:(decide ((d.Rules.length:Int)≤4))=decide (d.Rules.length≤4):=decide_eq_decide.2 (by omega);simp only [if_true,h,v1r,e];rfl
 | false=>simp
theorem vpb (n:Nat) (hn:1≤n) (hn2:n≤16) (d:Drossref56_Draft) (hok:qb6 d) (hg:va8 d=true) (hl:d.Rules.length≤8) {B S:List Int} (h1:B.Nodup) (h2:∀x∈B,0≤x∧x < (n:Int)) (h4:S.length=n) (h5:∀x∈S,1≤x∧x≤5):vak (n:Int) ⟨qmz n d,B,S⟩=0:=by
 have hg':∀r∈d.Rules,1≤r.length∧r.length≤3:=fun r hr=>of_decide_eq_true (v2b.1 hg r hr)
 have e1:qmx (q7e (n:Int)) (qmz n d)=0:=by
  refine qwj fun r hr=>?_
  obtain ⟨q,hq,rfl⟩:=v3a.1 hr;have:=hg' q hq;unfold q7e;rw [if_neg (by rw [v0j];omega)];refine qwj fun c hc=>?_
  obtain ⟨x,hx,rfl⟩:=v3a.1 hc;exact vpa n hn ((hok.1.2 q hq).2 x hx)
 have e2:vaj (n:Int) B=0:=by
  unfold vaj;rw [if_neg (by
   rw [v2d];rintro ⟨x,hx,h⟩;have:=h2 x hx;have h:=of_decide_eq_true h;omega),if_pos h1]
 unfold vak;have a1:¬((n:Int) < 0∨(n:Int) > 16):=by omega
 have a2:¬(qmz n d).length > 8:=by rw [qmz,v0j];omega
 have a3:¬(S.any (fun x=>decide (x < 1∨x > 5)))=true:=by
  rw [v2d];rintro ⟨x,hx,h⟩;have:=h5 x hx;have h:=of_decide_eq_true h;omega
 simp only [if_neg a1,if_neg a2,e1,e2,ne_eq,not_true,if_false,h4,if_neg a3]
theorem vt8 {t:Table} (G:Good t) (ht:qsc t) (n1:1≤t.Attrs.length) (hr:t.Rows.length≤6) (d:Drossref56_Draft) (hok:qb6 d) (hg:va8 d=true) (hl:d.Rules.length≤8) {B S:List Int} (h1:B.Nodup) (h2:∀x∈B,0≤x∧x < (t.Attrs.length:Int)) (h3:B.length≤t.Attrs.length) (h4:S.length=t.Attrs.length) (h5:∀x∈S,1≤x∧x≤5):Made t ⟨qmz t.Attrs.length d,B,S⟩:=by
 have hn:=G.attrs;have hg':∀r∈d.Rules,1≤r.length∧r.length≤3:=fun r hr=>of_decide_eq_true (v2b.1 hg r hr)
 refine ⟨G,ht,n1,⟨G.err,G.ok,by omega,by omega,?_,?_,?_,?_,h2⟩,?_,hr,?_,?_,h4,h5⟩
 ·simp only [qmz,v0j];omega
 ·intro r hr;obtain ⟨q,hq,rfl⟩:=v3a.1 hr;have:=hg' q hq;rw [v0j];omega
 ·simp only;omega
 ·simp only;omega
 ·unfold vp9;rw [vpb t.Attrs.length n1 (by omega) d hok hg hl h1 h2 h4 h5,G.err];simp only [ne_eq,not_true,if_false];rw [if_neg (by omega)]
 ·simp only [qmz,v0j];omega
 ·simp only;omega
theorem vt9 (x:Drossref03_Recipe) (h:qg9 x):qfq x 6=some (⟨[],[],[]⟩,false)∨∃t,qfq x 6=some (t,true)∧qsc t∧Good t∧t.Rows.length≤6∧t.Attrs.length≤5:=by
 by_cases hr:x.Rows.length≤6
 ·right;obtain ⟨ha,hg,hl⟩:=h;have ha':=q7u ha;have hg':=q7u hg;have h1:¬((x.Rows.length:Int) > 6):=by omega
  have hm:v34 x.Attrs 6=((x.Attrs.toNat % 6:Nat):Int):=by
   rw [Int.tmod_eq_emod_of_nonneg ha'.1];omega
  have e1:v4a.wrap (v34 x.Attrs 6)=((x.Attrs.toNat % 6:Nat):Int):=by rw [hm,qaz (by omega) (by omega)]
  refine ⟨vem x (x.Attrs.toNat % 6),?_,vtx _ _ (by omega) (by omega),vc4 x (by omega),?_,?_⟩
  ·simp only [qfq,if_neg h1,e1,vth x (x.Attrs.toNat % 6) (by omega) (by omega) (fun r hr=>(hl.2 r hr).1) hg',v1r]
  ·simp only [vem,v0j,v2t];exact hr
  ·simp only [vem,v0n];omega
 ·left;simp only [qfq,if_pos (show (x.Rows.length:Int) > 6 by omega)]
theorem of56 (x:Drossref03_Recipe) (d:Drossref56_Draft) (hx:qg9 x) (hd:qb6 d) :
  (∃t l,qe1 x d=some (t,l,false))∨∃t B S,qe1 x d=some (t,⟨qmz t.Attrs.length d,B,S⟩,true)∧Made t ⟨qmz t.Attrs.length d,B,S⟩∧va8 d=true∧d.Rules.length≤4∧qae (qbx (t.Attrs.length:Int) d) ([],[],0)=some (B,S):=by
 rcases vt9 x hx with h | ⟨t,h,ht,G,hr,hn⟩
 ·left;exact ⟨⟨[],[],[]⟩,⟨[],[],[]⟩,by simp [qe1,h]⟩
 ·by_cases n0:t.Attrs.length=0
  ·left;exact ⟨⟨[],[],[]⟩,⟨[],[],[]⟩,by simp [qe1,h,n0]⟩
  ·obtain ⟨B,S,hL,h1,h2,h3,h4,h5,e⟩:=vt7 t.Attrs.length (by omega) (by omega) d hd;have z:((t.Attrs.length:Int) == 0)=false:=beq_eq_false_iff_ne.2 (by omega);by_cases hg:va8 d=true
   ·by_cases hl:d.Rules.length≤4
    ·right;refine ⟨t,B,S,?_,vt8 G ht (by omega) hr d hd hg (by omega) h1 h2 h3 h4 h5,hg,hl,hL⟩;simp only [qe1,h,v1r,if_true,z,vzo,if_false,e,if_pos hg,decide_eq_true hl]
    ·left;exact ⟨t,⟨qmz t.Attrs.length d,B,S⟩,by simp only [qe1,h,v1r,if_true,z,vzo,if_false,e,if_pos hg,decide_eq_false hl]⟩
   ·left;exact ⟨t,⟨[],[],[]⟩,by simp only [qe1,h,v1r,if_true,z,vzo,if_false,e,if_neg hg]⟩
theorem va9 {t:Table} (l:Linkage) (he:qbb t=0) (hn:t.Rows.length≤6):(qm3 (qpl t l)).length≤6∧∀c∈qm3 (qpl t l),c.length≤6∧c≠[]:=by
 have hp:=qou (qpl t l);have h1:=ve0 l he;refine ⟨by rw [hp.length_eq];omega,fun c hc=>?_⟩;have:=qsn he (hp.mem_iff.1 hc);exact ⟨by omega,this.2.2.2⟩
theorem vua (t:Table) (cs:List (List Int)) (hr:t.Rows.length≤1073741824) (hl:cs.length≤1048576) (hc:∀c∈cs,c.length≤1048576):qmq t cs=some (vvd t cs):=by
 have h:=vtc t cs hr hl hc cs 0 0 rfl (v3n _) (by omega);simp only [v33,Nat.zero_add] at h;simp only [qmq,vta cs hl hc,v1r,h,vvd];cases qm2 [] cs
 ·rfl
 ·simp only [if_true,Bool.true_and];cases cs.flatten.all (fun x=>decide (x∈ids t))
  ·simp
  ·simp only [if_true,Bool.and_true];congr 1;rw [v3v,beq_iff_eq,decide_eq_true_eq];omega
theorem vba {t:Table} {rules:List Int} {l:List (List Int)} (A:TabArgs t rules l) :
  qae (qew t rules l) ([],[],[],0)=some (.inl ((vej t rules l).Table.Rows,l,(vej t rules l).Origins)) ∧
  qae (qdd t rules l) ([],[],[],0)=some ((vej t rules l).Table.Rows,l,(vej t rules l).Origins):=by
 have hat:t.Attrs.length≤1073741824:=A.ok.attrs;have hcl:=A.cl;have step:∀(k:Nat) (b:List Row×List (List Int)×List (List Int)) x,l[k]?=some x→(b.1.length=k∧b.2.1.length=k∧b.2.2.length=k)→k < l.length →
   qew t rules l (b.1,b.2.1,b.2.2,(k:Int))=some (.next ((qu0 t rules b x).1,(qu0 t rules b x).2.1,(qu0 t rules b x).2.2,((k+1:Nat):Int))) ∧
   qdd t rules l (b.1,b.2.1,b.2.2,(k:Int))=some (.next ((qu0 t rules b x).1,(qu0 t rules b x).2.1,(qu0 t rules b x).2.2,((k+1:Nat):Int))):=by
  intro k b x hx hI hk;have hm:=v0t hx;have hxl:=A.len x hm;obtain ⟨e1,e2⟩:=vkw t x hat A.nr A.nv (by omega);obtain ⟨e3,e4⟩:=vgz (vkx A.err A.ok (A.ne x hm) (A.sub x hm) rules) A.rs A.rl A.rok;have r1:qal (b.1.length+1) 32=true:=qf2 (by omega) (by omega);have r2:qal (b.2.1.length+1) 24=true:=qf2 (by omega) (by omega);have r3:qal (b.2.2.length+1) 24=true:=qf2 (by omega) (by omega);have r4:qal x.length 8=true:=qf2 (by omega) (by omega);have hw:=qat hk (show l.length≤4611686018427387904 by omega);refine ⟨?_,?_⟩
  ·simp only [qew,if_pos (qai hx),qaa hx,v1r,e1,e3,bne_self_eq_false,vzo,if_false,r1,r2,r3,if_true,q3w x (by omega),hw,qu0]
  ·simp only [qdd,if_pos (qai hx),qaa hx,v1r,e2,e4,r1,r2,r3,r4,if_true,hw,qu0]
 have inv:∀(k:Nat) (b:List Row×List (List Int)×List (List Int)) x,(b.1.length=k∧b.2.1.length=k∧b.2.2.length=k)→((qu0 t rules b x).1.length=k+1∧(qu0 t rules b x).2.1.length=k+1∧(qu0 t rules b x).2.2.length=k+1):=by
  intro k b x h;simp [qu0,h]
 refine ⟨?_,?_⟩
 ·have h:=qb3 l (fun (b:List Row×List (List Int)×List (List Int)) i=>(b.1,b.2.1,b.2.2,i)) (qew t rules l) (qu0 t rules) (fun b=>(Sum.inl b:(List Row×List (List Int)×List (List Int)) ⊕ (Merged×Int))) (fun k b=>b.1.length=k∧b.2.1.length=k∧b.2.2.length=k) (b0:=([],[],[])) (s0:=([],[],[],0)) rfl ⟨rfl,rfl,rfl⟩
   (fun k b x hx hk hI=>⟨(step k b x hx hI hk).1,inv k b x hI⟩) (fun b _=>by simp [qew])
  rw [h,qy9];rfl
 ·have h:=qb3 l (fun (b:List Row×List (List Int)×List (List Int)) i=>(b.1,b.2.1,b.2.2,i)) (qdd t rules l) (qu0 t rules) id (fun k b=>b.1.length=k∧b.2.1.length=k∧b.2.2.length=k) (b0:=([],[],[])) (s0:=([],[],[],0)) rfl ⟨rfl,rfl,rfl⟩
   (fun k b x hx hk hI=>⟨(step k b x hx hI hk).2,inv k b x hI⟩) (fun b _=>by simp [qdd])
  rw [h,qy9];rfl
structure SrtC (cs:List (List Int)):Prop where
 ne:∀c∈cs,c≠[]
 srt:cs.Pairwise fun a b=>ltH b a=false
 inj:q7s cs
 nd:cs.Nodup
theorem vbb {a b:List Int} (ha:a≠[]) (hb:b≠[]):qa0 a b=some (sgn (a.headD 0) (b.headD 0)):=by
 obtain ⟨x,r,rfl⟩:∃x r,a=x :: r:=by cases a with | nil=>exact absurd rfl ha | cons x r=>exact ⟨x,r,rfl⟩
 obtain ⟨y,q,rfl⟩:∃x r,b=x :: r:=by cases b with | nil=>exact absurd rfl hb | cons x r=>exact ⟨x,r,rfl⟩
 simp only [qa0,v2j,v1r,qp6,v0g]
theorem qt2 (a b:Int):sgn a b < 0↔a < b:=by
 unfold sgn;split <;> (try split) <;> omega
theorem vpc {cs:List (List Int)} (S:SrtC cs) (hl:cs.length≤1000):vhm (fun (x:List Int) (y:List Int)=>qa0 x y) cs=some cs:=by
 have hc:∀x∈cs,∀y∈cs,(qa0 x y).getD 0=sgn (x.headD 0) (y.headD 0):=fun x hx y hy=>by rw [vbb (S.ne x hx) (S.ne y hy)];rfl
 have hok:q9c (fun x y=>(qa0 x y).getD 0) cs:=by
  refine ⟨fun x hx=>?_,fun x hx y hy z hz=>?_,fun x hx y hy z hz=>?_⟩
  ·show ¬(qa0 x x).getD 0 < 0;rw [hc x hx x hx,qt2];omega
  ·show (qa0 x y).getD 0 < 0→(qa0 y z).getD 0 < 0→(qa0 x z).getD 0 < 0;rw [hc x hx y hy,hc y hy z hz,hc x hx z hz,qt2,qt2,qt2];omega
  ·show ¬(qa0 x y).getD 0 < 0→¬(qa0 y z).getD 0 < 0→¬(qa0 x z).getD 0 < 0;rw [hc x hx y hy,hc y hy z hz,hc x hx z hz,qt2,qt2,qt2];omega
 unfold vhm;rw [if_pos ⟨fun x hx y hy=>by show (qa0 x y).isSome=true;rw [vbb (S.ne x hx) (S.ne y hy)];rfl,hok,by omega⟩];have hp:=q6g hok;have hs:=q4r hok;have e1:=qt0 S.inj hp (by
  refine (v48.and_mem.1 hs).imp fun {a b} hab=>?_
  obtain ⟨ha,hb,hlt⟩:=hab;replace hlt:¬(qa0 b a).getD 0 < 0:=hlt;rw [hc _ (hp.mem_iff.1 hb) _ (hp.mem_iff.1 ha),qt2] at hlt;unfold ltH;exact decide_eq_false hlt)
 have e2:=qt0 S.inj (v4d.refl cs) S.srt;rw [e1,←e2]
theorem q7v {cs:List (List Int)} (S:SrtC cs) (hl:cs.length≤1000):qae qdc (cs,0)=some cs:=by
 have key:∀(m k:Nat),k+m=cs.length→qae qdc (cs,(k:Int))=some cs:=by
  intro m
  induction m with
  | zero =>
   intro k hk;exact qad (by simp only [qdc,if_neg (show ¬((k:Int) < ((cs.length:Nat):Int)) by omega)])
  | succ m ih =>
   intro k hk;have hi:qae qg8 (cs,(k:Int))=some cs:=by
    by_cases h0:k=0
    ·subst h0;exact qad (by simp [qg8])
    ·obtain ⟨j,rfl⟩:∃j,k=j+1:=⟨k - 1,by omega⟩;have hx:cs[j+1]?=some cs[j+1]:=vz9 (by omega);have hy:cs[j]?=some cs[j]:=vz9 (by omega);have hle:=v5p.1 S.srt j (j+1) (by omega) (by omega) (by omega);have nx:=S.ne _ (v2o (show j+1 < cs.length by omega));have ny:=S.ne _ (v2o (show j < cs.length by omega));unfold ltH at hle;obtain ⟨x,r,ex⟩:∃x r,cs[j+1]=x :: r:=by cases h:cs[j+1] with | nil=>exact absurd h nx | cons x r=>exact ⟨x,r,rfl⟩
     obtain ⟨y,q,ey⟩:∃x r,cs[j]=x :: r:=by cases h:cs[j] with | nil=>exact absurd h ny | cons x r=>exact ⟨x,r,rfl⟩
     rw [ex,ey] at hle;simp only [v0g] at hle;have hle:=of_decide_eq_false hle;rw [ex] at hx;rw [ey] at hy;have hw:v4a.wrap (((j+1:Nat):Int) - 1)=(j:Int):=by rw [qaz (by omega) (by omega)];omega
     refine qad ?_;simp only [qg8,if_pos (show ((j+1:Nat):Int) > 0 by omega),qaa hx,v1r,v2j,hw,qaa hy,if_neg hle]
   rw [qac (s':=(cs,((k+1:Nat):Int))) (by simp only [qdc,if_pos (show ((k:Int) < ((cs.length:Nat):Int)) by omega),hi,v1r,wqn k])];exact ih (k+1) (by omega)
 exact key cs.length 0 (by omega)
theorem vub {t:Table} (l:Linkage) (he:qbb t=0):SrtC (qm3 (qpl t l)):=by
 have hp:=qou (qpl t l);refine ⟨fun c hc=>(qsn he (hp.mem_iff.1 hc)).2.2.2,qz2 _,fun a ha b hb e=>vez l he a (hp.mem_iff.1 ha) b (hp.mem_iff.1 hb) e,hp.nodup_iff.2 (q2y l he)⟩
theorem ve1 {t:Table} {l:Linkage} (M:Made t l):TabArgs t l.Survive (qm3 (qpl t l)):=by
 have hp:=qou (qpl t l);have hr:=M.rows;have hn:=M.good.attrs;obtain ⟨h1,h2⟩:=va9 l M.good.err M.rows;refine ⟨M.good.err,M.good.ok,by omega,fun r hr=>?_,M.surv,by rw [M.surv];omega,?_,by omega,fun x hx=>(h2 x hx).2,fun x hx y hy=>?_,fun x hx=>by have:=(h2 x hx).1;omega⟩
 ·rw [(qjj M.good.err).1 r hr];omega
 ·rw [v2b];intro x hx;have:=M.survs x hx;unfold qp8;rw [vzm,decide_eq_true_eq,decide_eq_true_eq];exact this
 ·exact (qyb l).mem_iff.1 (v6v.2 ⟨x,hp.mem_iff.1 hx,hy⟩)
theorem vlz {t:Table} {l:Linkage} (M:Made t l):qkc t (qm3 (qpl t l)) l.Survive=some (vej t l.Survive (qm3 (qpl t l)),0)∧qht t (qm3 (qpl t l)) l.Survive=some (vej t l.Survive (qm3 (qpl t l)),0):=by
 have A:=ve1 M;obtain ⟨hl,hc⟩:=va9 l M.good.err M.rows;have S:=vub (t:=t) l M.good.err;obtain ⟨l1,l2⟩:=vba A;have hlcs:∀c∈qm3 (qpl t l),c.length≤1073741824:=fun c h=>by have:=(hc c h).1;omega
 have hlcs2:∀c∈qm3 (qpl t l),c.length≤1048576:=fun c h=>by have:=(hc c h).1;omega
 have hrs:=A.rs;have hcf:qar l.Survive (fun y=>qhp y)=some (!l.Survive.all qp8):=by
  rw [←qsf];exact qo6 _ _ _ (fun y _=>by simp [qhp,qzu,qp8]) (by omega)
 have hroom:qal (qm3 (qpl t l)).length 24=true:=qf2 (by omega) (by omega);have hroom2:qal t.Attrs.length 16=true:=qf2 (by have:=A.ok.attrs;omega) (by omega);have hd:=vt1 (t:=t) l M.good.err;have h4:vyn t (qm3 (qpl t l))=true:=by rw [von M.good.err];exact hd
 have h2':¬(((l.Survive.length:Int) != (t.Attrs.length:Int))=true):=by simp [A.rl]
 have hl7:qae ql1 ()=some ():=qad rfl;constructor
 ·simp only [qkc,qri t A.ok,v1r,A.err,bne_self_eq_false,vzo,if_false,if_neg h2',hcf,A.rok,v4x,vgw t _ A.ok.rows (by omega) hlcs,h4,if_true,hroom,vpc S (by omega),qtx _ A.ok.attrs,l1];rfl
 ·simp only [qht,q18 t A.ok,v1r,A.err,bne_self_eq_false,vzo,if_false,if_neg h2',vn2 _ (show l.Survive.length≤1073741824 by omega),A.rok,if_true,vua t _ A.ok.rows (by omega) hlcs2,hd,hroom,q7v S (by omega),hroom2,hl7,l2];rfl
theorem qzd (x:Drossref03_Recipe) (d:Drossref56_Draft) (hx:qg9 x) (hd:qb6 d):qee x d=some true:=by
 rcases of56 x d hx hd with ⟨t,l,h⟩ | ⟨t,B,S,h,M,_⟩
 ·simp only [qee,h,vlw,v1r,if_true,v6l]
 ·obtain ⟨e1,e2⟩:=vlz M;have e1':qkc t (qm3 (qpl t ⟨qmz t.Attrs.length d,B,S⟩)) S=some (vej t S (qm3 (qpl t ⟨qmz t.Attrs.length d,B,S⟩)),0):=e1;have e2':qht t (qm3 (qpl t ⟨qmz t.Attrs.length d,B,S⟩)) S=some (vej t S (qm3 (qpl t ⟨qmz t.Attrs.length d,B,S⟩)),0):=e2;have p:qno t ⟨qmz t.Attrs.length d,B,S⟩=some (vej t S (qm3 (qpl t ⟨qmz t.Attrs.length d,B,S⟩)),0):=by
   simp only [qno,q5l M.lnk M.lim M.rows,v1r,bne_self_eq_false,vzo,if_false,e1']
  have r:qkx t ⟨qmz t.Attrs.length d,B,S⟩=some (vej t S (qm3 (qpl t ⟨qmz t.Attrs.length d,B,S⟩))):=by
   simp only [qkx,vhf M.lnk M.rows,v1r,e2']
  simp only [qee,h,vlw,v1r,if_true,v4x,vzo,if_false,p,r,beq_self_eq_true,vky _ _ (vtf (ve1 M)),decide_true]
end Go.Proofs.YtmlegeeinnkhkaaGreat
