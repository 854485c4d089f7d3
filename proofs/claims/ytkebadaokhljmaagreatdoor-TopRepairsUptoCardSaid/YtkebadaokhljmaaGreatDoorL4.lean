/- -/
import Derived.Test.YtkebadaokhljmaaGreatDoorL3
import Derived.Test.YtkebadaokhljmaaGreatDoorL1
import Derived.Test.YtkebadaokhljmaaGreatDoorA3
set_option linter.unusedVariables false
set_option linter.unusedSimpArgs false
open Bool renaming and_eq_true→v2m,eq_iff_iff→v73,false_eq_true→v2o,false_or→v95,not_eq_true'→v2q,not_false→v8a,not_true→v96,or_false→v97,true_and→v8b
open Int renaming fdiv→v7t,natCast_zero→v8f,toNat_natCast→v8h
open Go.IntKind renaming i64→v67,u64→v7w
open List renaming Pairwise→v8p,all_eq_true→v5m,any_eq_false→v8s,any_eq_true→v5o,cons_append→v5p,eq_nil_iff_forall_not_mem→v98,filter_append→v8t,filter_cons→v8v,filter_nil→v8y,filter_sublist→v99,foldl_cons→v82,getD_eq_getElem?_getD→v5s,getElem?_cons_zero→v5u,getElem?_eq_getElem→v3d,getElem?_eq_some_iff→v3f,getElem?_map→v3g,getElem?_range→v85,getElem?_set_ne→v5w,getElem?_set_self→v5x,getElem_drop→v87,getElem_mem→v88,length_append→v3l,length_cons→v5y,length_drop→v3m,length_eq_zero_iff→v5z,length_filter_le→v51,length_map→v3n,length_nil→v3o,length_range→v54,length_set→v3q,length_singleton→v56,length_take→v3r,map_append→v3s,mem_append→v3v,mem_cons_of_mem→v6e,mem_cons_self→v6f,mem_filter→v6g,mem_iff_getElem→v9b,mem_iff_getElem?→v9c,mem_map→v6h,mem_of_getElem?→v3x,mem_of_mem_drop→v3y,mem_range→v6j,mem_singleton→v6k,nil_append→v33,pairwise_iff_getElem→v9h,pairwise_map→uaa,range→v34,range_succ→uab,replicate→v4a,take_add_one→uac,take_length→v9n,take_succ_eq_append_getElem→v9p
open Nat renaming add_mul_mod_self_left→uad,and_one_is_mod→uae,div_le_self→uaf,eq_of_testBit_eq→v9r,le_refl→v4o,le_trans→v4q,lt_of_lt_of_le→v4r,lt_trichotomy→v6r,min_eq_left→v6s,mod_eq_of_lt→uag,not_lt_zero→uah,or_lt_two_pow→uai,pow_le_pow_right→v9v,pow_lt_pow_right→uaj,pow_pos→v9w,pow_succ→v9x,testBit_lt_two_pow→v90,testBit_or→uak,testBit_two_pow→v92,zero_add→v4z,zero_le→v6w,zero_testBit→ual
open Option renaming bind_some→v40
open Option.some renaming inj→v6z
noncomputable section
namespace Go.Proofs.YtkebadaokhljmaaGreatDoor
open Go Go.Ab
def qw6 (t:Table) (l:List Int):Table:=⟨t.Name,t.Attrs,t.Rows.filter fun r=>decide (r.ID∈l)⟩
theorem qz3 (t:Table) (l:List Int):(qw6 t l).Rows.Sublist t.Rows:=v99
theorem qz4 {t:Table} {l:List Int} {r:Row}:r∈(qw6 t l).Rows↔r∈t.Rows∧r.ID∈l:=by
 unfold qw6;rw [v6g,decide_eq_true_eq]
theorem qu4 {t:Table} (H:DT t) (l:List Int):DT (qw6 t l):=by
 have hs:=qz3 t l;have hl:=hs.length_le;have hT:=H.ok;have hm:∀r∈(qw6 t l).Rows,r∈t.Rows:=fun r hr=>hs.subset hr
 have hT':=hT.rows;refine ⟨⟨hT.attrs,by omega,fun r hr=>hT.vals r (hm r hr),fun r hr=>hT.short r (hm r hr)⟩,?_,by have:=H.few;omega,fun r hr=>H.str r (hm r hr)⟩;exact vnx H.err (qw6 t l).Rows hl (qu3 _ _ _ (fun r hr=>(H.code).1 r (hm r hr)) (v8p.sublist hs (H.code).2))
theorem vny {t:Table} (H:DT t) (G:GT t) (l:List Int):GT (qw6 t l) :=
 ⟨(qu4 H l).ok,(qu4 H l).err,fun r hr=>G.num r ((qz3 t l).subset hr)⟩
theorem vfa {t:Table} (H:DT t) (G:qos t) (l:List Int):qos (qw6 t l) :=
 ⟨(qu4 H l).ok,(qu4 H l).err,G.attrs,by have:=(qz3 t l).length_le;have:=G.rows;omega⟩
theorem v1w {t:Table} (H:DT t) (l:List Int) (hl:l.length≤1000):qif t l=some (qw6 t l):=by
 have few:=H.few;have ha:=(qrc H.err).1;have hv:∀r∈t.Rows,r.Values.length≤1048576:=fun r hr=>by have:=((H.code).1 r hr).1;omega
 obtain ⟨b,e1,i1,i2⟩:=qdc (β:=List Row) t.Rows.length (fun b i=>(b,i)) (qf5 t l) id (fun k b=>b=(t.Rows.take k).filter (fun r=>decide (r.ID∈l))∧b.length≤k) (b0:=[]) (s0:=([],0)) rfl ⟨by simp,by simp⟩
  (fun k b hk hI=>by
   obtain ⟨i1,i2⟩:=hI;have hx:t.Rows[k]?=some t.Rows[k]:=v3d hk;have htk:(t.Rows.take (k+1)).filter (fun r=>decide (r.ID∈l))=b++(if t.Rows[k].ID∈l then [t.Rows[k]] else []):=by
    rw [v9p hk,v8t,←i1,v8v,v8y];simp only [decide_eq_true_eq]
   have hw:v67.wrap ((k:Int)+1)=((k+1:Nat):Int):=qcd (by omega);simp only [qf5,if_pos (qai hx),qaf hx,v40,v1e l t.Rows[k].ID (by omega),qbq (show b.length+1≤1073741824 by omega) (show 32≤65536 by omega),if_true,hw];by_cases hm:t.Rows[k].ID∈l
   ·rw [if_pos (by simpa using hm)];exact ⟨_,rfl,by rw [htk,if_pos hm],by simp;omega⟩
   ·rw [if_neg (by simpa using hm)];exact ⟨b,rfl,by rw [htk,if_neg hm,List.append_nil],by omega⟩)
  (fun b _=>by simp [qf5])
 rw [v9n] at i1;unfold qif;rw [e1,v40,id,v1v t b (by omega) (by omega) (fun r hr=>hv r (by rw [i1] at hr;exact (v6g.1 hr).1)),v40,i1];rfl
theorem vjy {n:Nat} {a b:Row} (ha:a.Values.length=n) (hb:b.Values.length=n) (hn:n≤16) {s:Nat} (hs:s < 4294967296):∃r,qg0 a b (s:Int)=some r∧(r=true↔qzt n a b s):=by
 obtain ⟨o,ho,hT⟩:=qo2 (β:=Unit) a.Values.length (fun _ i=>i) (qid a b (s:Int)) (fun k _=>∀j,j < k→s.testBit j=true→qq8 (qb8 a j) (qb8 b j)=0) (fun o=>(o=.inl ()∧qzt n a b s)∨(o=.inr false∧¬qzt n a b s)) (b0:=()) (s0:=0) 0 (v6w _) rfl (fun j hj=>by omega)
  (fun k _ _ hk hI=>by
   have x1:a.Values[k]?=some a.Values[k]:=v3d hk;have x2:b.Values[k]?=some (b.Values[k]'(by omega)):=v3d (by omega);have c1:qb8 a k=a.Values[k]:=by unfold qb8;rw [v5s,x1];rfl
   have c2:qb8 b k=b.Values[k]'(by omega):=by unfold qb8;rw [v5s,x2];rfl
   have hw:v67.wrap ((k:Int)+1)=((k+1:Nat):Int):=qcd (by omega);simp only [qid,if_pos (qai x1),if_neg (show ¬(k:Int) < 0 by omega),v8h,vis hs (show k≤32 by omega),qaf x1,qaf x2,v40,hw];by_cases hbit:s.testBit k=true
   ·rw [if_pos hbit];by_cases he:a.Values[k]=b.Values[k]'(by omega)
    ·left;refine ⟨(),by rw [if_pos (by rw [he];simp)],fun j hj hjb=>?_⟩;by_cases hjk:j=k
     ·subst hjk;rw [c1,c2,q30];exact he
     ·exact hI j (by omega) hjb
    ·right;refine ⟨.inr false,by
      rw [if_neg];intro h;simp only [v2m,beq_iff_eq] at h;refine he ?_;cases hva:a.Values[k] with
      | mk k1 n1 s1 =>
       cases hvb:b.Values[k]'(by omega) with
       | mk k2 n2 s2=>rw [hva,hvb] at h;simp only at h;rw [h.1,h.2.1,h.2.2],.inr ⟨rfl,fun h=>he ?_⟩⟩
     have:=h k (by omega) hbit;rw [c1,c2,q30] at this;exact this
   ·rw [if_neg hbit];left;refine ⟨(),rfl,fun j hj hjb=>?_⟩;by_cases hjk:j=k
    ·subst hjk;exact absurd hjb hbit
    ·exact hI j (by omega) hjb)
  (fun _ hI=>⟨.inl (),by simp [qid],.inl ⟨rfl,fun k hk hb=>hI k (by omega) hb⟩⟩)
 unfold qg0;rw [ho,v40];rcases hT with ⟨rfl,h⟩ | ⟨rfl,h⟩
 ·exact ⟨true,rfl,by simp [h]⟩
 ·exact ⟨false,rfl,by simp [h]⟩
theorem vjz {t:Table} (G:GT t) (few:t.Rows.length≤7) (f:Row→Row→Option Bool) (p:Row→Row→Bool) (hf:∀x∈t.Rows,∀y∈t.Rows,f x y=some (p x y)) {c:List Nat} (hc:∀i∈c,i < t.Rows.length) (hcl:c.length≤7) {i:Nat} (hi:i < c.length) {b0:List (List Int)} (hb:b0.length≤1000) (hb2:∀e∈b0,e.length≤2) :
  ∃b,qaj (qfs t f (qwt c) (i:Int) ((c[i]:Nat):Int)) (b0,0)=some b∧b.length≤b0.length+7∧(∀e∈b,e.length≤2)∧(b=[]↔b0=[]∧∀y∈c.drop (i+1),p (qja t c[i]) (qja t y)=false):=by
 have hw0:v67.wrap ((i:Int)+1)=((i+1:Nat):Int):=qcd (by omega);have hil:(qwt c).length=c.length:=qr6 c;have hdt:((qwt c).drop (i+1)).take ((qwt c).length - (i+1))=qwt (c.drop (i+1)):=by
  rw [hil,List.take_of_length_le (by rw [v3m,hil];exact v4o _)];unfold qwt;rw [List.map_drop]
 have hx0:=qn2 (hc c[i] (v88 _));have hxm:=qr5 (hc c[i] (v88 _));obtain ⟨b,e1,e2,e3,e4⟩:=qdc (β:=List (List Int)) (c.drop (i+1)).length (fun b i=>(b,i)) (qfs t f (qwt c) (i:Int) ((c[i]:Nat):Int)) id (fun j b=>(b=[]↔b0=[]∧∀y∈(c.drop (i+1)).take j,p (qja t c[i]) (qja t y)=false)∧b.length≤b0.length+j∧∀e∈b,e.length≤2) (b0:=b0) (s0:=(b0,0)) rfl ⟨by simp,by omega,hb2⟩
  (fun j b hj hI=>by
   obtain ⟨i1,i2,i3⟩:=hI;rw [v3m] at hj;have hjl:j < (c.drop (i+1)).length:=by rw [v3m];exact hj
   have hy:=qn2 (hc _ (v3y (v88 hjl)));have hym:=qr5 (hc _ (v3y (v88 hjl)));have hg:(qwt (c.drop (i+1)))[j]?=some (((c.drop (i+1))[j]:Nat):Int):=by
    unfold qwt;rw [v3g,v3d hjl];rfl
   have hw:v67.wrap ((j:Int)+1)=((j+1:Nat):Int):=qcd (by omega);simp only [qfs,hw0,v8h,hdt,if_pos (qai hg),qaf hg,v40,qaf hx0,qaf hy,hf _ hxm _ hym,hw,qbq (show b.length+1≤1073741824 by omega) (show 24≤65536 by omega),if_true];have htk:(c.drop (i+1)).take (j+1)=(c.drop (i+1)).take j++[(c.drop (i+1))[j]]:=v9p hjl;cases hp:p (qja t c[i]) (qja t (c.drop (i+1))[j]) with
   | true =>
    refine ⟨_,rfl,?_,by simp;omega,fun e he=>by
     rcases v3v.1 he with he | he
     ·exact i3 e he
     ·rw [v6k.1 he];simp⟩
    constructor
    ·intro h;simp at h
    ·rintro ⟨_,h⟩;have:=h (c.drop (i+1))[j] (by rw [htk];simp);rw [hp] at this;cases this
   | false =>
    refine ⟨b,rfl,?_,by omega,i3⟩;rw [i1,htk];constructor
    ·rintro ⟨h1,h2⟩;refine ⟨h1,fun y hy=>?_⟩;rcases v3v.1 hy with hy | hy
     ·exact h2 y hy
     ·rw [v6k.1 hy];exact hp
    ·rintro ⟨h1,h2⟩;exact ⟨h1,fun y hy=>h2 y (v3v.2 (.inl hy))⟩)
  (fun b _=>by
   simp only [qfs,hw0,v8h,hdt];rw [if_neg (by rw [qr6];omega)];rfl)
 rw [v9n] at e2;rw [v3m] at e3;exact ⟨b,e1,by omega,e4,e2⟩
theorem vj0 {t:Table} (G:GT t) (few:t.Rows.length≤7) (f:Row→Row→Option Bool) (p:Row→Row→Bool) (hf:∀x∈t.Rows,∀y∈t.Rows,f x y=some (p x y)) {c:List Nat} (hc:∀i∈c,i < t.Rows.length) (hcl:c.length≤7) {b0:List (List Int)} (hb:b0.length≤900) (hb2:∀e∈b0,e.length≤2) :
  ∃b,qaj (qft t f (qwt c)) (b0,0)=some b∧b.length≤b0.length+49∧(∀e∈b,e.length≤2)∧(b=[]↔b0=[]∧c.Pairwise fun x y=>p (qja t x) (qja t y)=false):=by
 obtain ⟨b,e1,e2,e3,e4⟩:=qdc (β:=List (List Int)) c.length (fun b i=>(b,i)) (qft t f (qwt c)) id (fun k b=>(b=[]↔b0=[]∧∀i (hi:i < c.length),i < k→∀y∈c.drop (i+1),p (qja t c[i]) (qja t y)=false)∧b.length≤b0.length+k * 7∧∀e∈b,e.length≤2) (b0:=b0) (s0:=(b0,0)) rfl ⟨by simp,by omega,hb2⟩
  (fun k b hk hI=>by
   obtain ⟨i1,i2,i3⟩:=hI;have hg:(qwt c)[k]?=some ((c[k]:Nat):Int):=by
    unfold qwt;rw [v3g,v3d hk];rfl
   obtain ⟨b',q1,q2,q4,q3⟩:=vjz G few f p hf hc hcl hk (b0:=b) (by omega) i3;have hw:v67.wrap ((k:Int)+1)=((k+1:Nat):Int):=qcd (by omega);refine ⟨b',?_,?_,by omega,q4⟩
   ·simp only [qft,if_pos (qai hg),qaf hg,v40,hw,if_pos (show (0:Int)≤((k+1:Nat):Int) by omega),if_pos (show ((k+1:Nat):Int)≤((qwt c).length:Int) by rw [qr6];omega),q1]
   ·rw [q3,i1];constructor
    ·rintro ⟨⟨h1,h2⟩,h3⟩;refine ⟨h1,fun i hi hik y hy=>?_⟩;by_cases h:i=k
     ·subst h;exact h3 y hy
     ·exact h2 i hi (by omega) y hy
    ·rintro ⟨h1,h2⟩;exact ⟨⟨h1,fun i hi hik=>h2 i hi (by omega)⟩,h2 k hk (by omega)⟩)
  (fun b _=>by
   simp only [qft];rw [if_neg (by rw [qr6];omega)];rfl)
 refine ⟨b,e1,by omega,e4,?_⟩;rw [e2,v9h];constructor
 ·rintro ⟨h1,h2⟩;refine ⟨h1,fun i j hi hj hij=>h2 i hi hi _ ?_⟩;refine v9b.2 ⟨j - (i+1),by rw [v3m];omega,?_⟩;rw [v87];congr 1;omega
 ·rintro ⟨h1,h2⟩;refine ⟨h1,fun i hi _ y hy=>?_⟩;obtain ⟨j,hj,rfl⟩:=v9b.1 hy;rw [v3m] at hj;rw [v87];exact h2 i (i+1+j) hi (by omega) (by omega)
theorem pw_of {c:List Nat} {R:Nat→Nat→Prop} (ha:c.Pairwise (· < ·)) (h:c.Pairwise R) {i k:Nat} (hi:i∈c) (hk:k∈c) (hik:i < k):R i k:=by
 obtain ⟨a,ha1,rfl⟩:=v9b.1 hi;obtain ⟨b,hb1,rfl⟩:=v9b.1 hk;rcases v6r a b with hab | hab | hab
 ·exact v9h.1 h a b ha1 hb1 hab
 ·subst hab;omega
 ·have:=v9h.1 ha b a hb1 ha1 hab;omega
theorem vj1 (n:Nat):(v34 n).Pairwise (· < ·):=List.pairwise_lt_range
theorem vj2 {t:Table} (G:GT t) (few:t.Rows.length≤7) {s:Nat} (hs:s < 2 ^ t.Attrs.length) (f:Row→Row→Option Bool) (p:Row→Row→Bool) (hf:∀x∈t.Rows,∀y∈t.Rows,f x y=some (p x y)) :
  ∃b,qjs t (s:Int) f=some b∧b.length≤400∧(∀a∈b,a.length≤2)∧(b=[]↔∀i k,i < k→k < t.Rows.length→qzt t.Attrs.length (qja t i) (qja t k) s→p (qja t i) (qja t k)=false):=by
 have hcm:∀c∈vfm t s,(∀i∈c,i < t.Rows.length)∧c.Pairwise (· < ·)∧∀x∈c,∀y∈c,agN t s x y=true:=fun c hc=>by
  obtain ⟨x,hx,rfl⟩:=(qtd _ _ c).1 hc;refine ⟨fun i hi=>v6j.1 (v6g.1 hi).1,v8p.sublist v99 (vj1 _),fun a ha b hb=>?_⟩;have h1:=(v6g.1 ha).2;have h2:=(v6g.1 hb).2;rw [decide_eq_true_eq] at h1 h2;unfold agN;rw [decide_eq_true_eq,h1,h2]
 have hcl:∀c∈vfm t s,c.length≤7:=fun c hc=>by
  have:=q64 hc;rw [v54] at this;omega
 have hnl:(vfm t s).length≤7:=by
  have:=qth _ (fun i=>q2d s (qja t i)) (v34 t.Rows.length);rw [v54] at this;unfold vfm;omega
 have hbm:∀c∈big (vfm t s),c∈vfm t s∧2≤c.length:=fun c hc=>by
  obtain ⟨h1,h2⟩:=v6g.1 hc;exact ⟨h1,by simpa using h2⟩
 have hbl:(big (vfm t s)).length≤7:=v4q (v51 _ _) hnl;generalize hL:big (vfm t s)=L at hbm hbl;obtain ⟨b,e1,e2,e3,e4⟩:=qdc (β:=List (List Int)) L.length (fun b i=>(b,i)) (qhj t f (⟨(t.Rows.length:Int),qii L⟩,0)) id (fun k b=>(b=[]↔∀c∈L.take k,c.Pairwise fun x y=>p (qja t x) (qja t y)=false)∧b.length≤k * 49∧∀e∈b,e.length≤2) (b0:=[]) (s0:=([],0)) rfl ⟨by simp,by simp,by simp⟩
  (fun k b hk hI=>by
   obtain ⟨i1,i2,i3⟩:=hI;have hg:(qii L)[k]?=some (qwt L[k]):=by rw [q63,v3d hk];rfl
   obtain ⟨hm,_⟩:=hbm _ (v88 hk);obtain ⟨b',q1,q2,q4,q3⟩:=vj0 G few f p hf (hcm _ hm).1 (hcl _ hm) (b0:=b) (by omega) i3;have hw:v67.wrap ((k:Int)+1)=((k+1:Nat):Int):=qcd (by omega);refine ⟨b',?_,?_,by omega,q4⟩
   ·simp only [qhj,if_pos (qai hg),qaf hg,v40,hw,q1]
   ·rw [q3,i1,v9p hk];constructor
    ·rintro ⟨h1,h2⟩ c hc;rcases v3v.1 hc with hc | hc
     ·exact h1 c hc
     ·rw [v6k.1 hc];exact h2
    ·intro h;exact ⟨fun c hc=>h c (v3v.2 (.inl hc)),h _ (v3v.2 (.inr (by simp)))⟩)
  (fun b _=>by
   simp only [qhj];rw [if_neg (by rw [quy];omega)];rfl)
 rw [v9n] at e2;unfold qjs;rw [Of_eq G hs,hL,v40,e1,v40];refine ⟨b,rfl,by omega,e4,?_⟩;rw [e2];constructor
 ·intro h i k hik hk hag;have hagn:=(vi4 G hs (i:=i) (k:=k) (by omega) hk).2 hag;have hcc:(v34 t.Rows.length).filter (fun y=>decide (q2d s (qja t y)=q2d s (qja t i)))∈vfm t s:=(qtd _ _ _).2 ⟨i,v6j.2 (by omega),rfl⟩;generalize hc:(v34 t.Rows.length).filter (fun y=>decide (q2d s (qja t y)=q2d s (qja t i)))=c at hcc;have hi:i∈c:=by rw [←hc,v6g];exact ⟨v6j.2 (by omega),by simp⟩
  have hkc:k∈c:=by
   rw [←hc,v6g];refine ⟨v6j.2 hk,?_⟩;unfold agN at hagn;rw [decide_eq_true_eq] at hagn ⊢;exact hagn.symm
  have h2:2≤c.length:=by
   match c,hi,hkc with
   | [a],hi,hkc=>simp at hi hkc;omega
   | a :: b :: r,_,_=>simp
  exact pw_of (hcm c hcc).2.1 (h c (by rw [←hL];exact v6g.2 ⟨hcc,by simpa using h2⟩)) hi hkc hik
 ·intro h c hc;obtain ⟨g1,g2,g3⟩:=hcm c (hbm c hc).1;refine v8p.imp_of_mem (fun {a b} ha hb hab=>?_) g2;exact h a b hab (g1 b hb) ((vi4 G hs (g1 a ha) (g1 b hb)).1 (g3 a ha b hb))
theorem qn3 (l:List Table) (f:Table→Option Bool) (p:Table→Bool) (hf:∀x∈l,f x=some (p x)) (hl:l.length≤1073741824):qcz l f=some (vkr (l.findIdx? p)):=by
 have h:=qgx l (qb4 l f) p
  (fun k y hx hk hp=>by simp only [qb4,if_pos (qai hx),qaf hx,v40,hf y (v3x hx),hp,v2o,if_false,qbh hk (show l.length≤4611686018427387904 by omega)])
  (fun k y hx hp=>by simp only [qb4,if_pos (qai hx),qaf hx,v40,hf y (v3x hx),hp,if_true])
  (by simp [qb4])
 simp only [qcz,h,v40];cases l.findIdx? p <;> rfl
theorem qu5 (t:Table):qg7 ⟨[t]⟩ t.Name=some (t,true):=by
 unfold qg7;have hI:=qn3 [t] (fun y=>qip y t.Name) (fun y=>y.Name == t.Name) (fun x _=>rfl) (by simp);simp only [hI,v40];have e:([t]:List Table).findIdx? (fun y=>y.Name == t.Name)=some 0:=by simp [List.findIdx?_cons]
 rw [e];simp only [vkr];rfl
theorem vnz (s:List UInt8):qg7 ⟨[]⟩ s=some (⟨[],[],[]⟩,false):=by
 unfold qg7;have hI:=qn3 [] (fun y=>qip y s) (fun y=>y.Name == s) (fun x _=>rfl) (by simp);simp only [hI,v40];rfl
theorem q7k (t:Table) (H:TableOk t) (he:qcp t=0):qib ⟨[t]⟩=some 0:=by
 have h1:qen ⟨[t]⟩ 0=some (.next 1):=by
  have e:idx ([t]:List Table) 0=some t:=rfl;simp only [qen,e,v40,qe8 t H,he,v5y,v3o];rw [if_pos (by decide),if_neg (by decide),if_pos (by decide),if_pos (by decide)];simp only [Int.toNat_zero,List.take_zero,vnz,v40,v2o,if_false];rfl
 have h2:qen ⟨[t]⟩ 1=some (.done (.inl ())):=by
  simp only [qen,v5y,v3o];rw [if_neg (by decide)]
 unfold qib;simp only [v5y,v3o];rw [if_neg (by decide),qaq h1,qao h2];rfl
theorem vjw.short {rows:List Row} {L:List (List Int)} {p:List Row→Prop} (h:vjw rows L p):∀e∈L,e.length≤3:=fun e he=>by
 obtain ⟨a,ha,_,rfl⟩:=(h e).1 he;rw [qr7];exact ha.2.2.1
theorem qxu (L:List (List Int)) (hl:L.length≤2000) (hs:∀e∈L,e.length≤3) :
  ∃l,(if ((L.length:Nat):Int) > 20000 then some (([]:List (List Int)),(3:Int)) else (q3e (fun (a:List Int) (b:List Int)=>qab a b) L).bind fun l=>some (l,0))=some (l,0)∧l.length=L.length∧(l=[]↔L=[]):=by
 obtain ⟨l,e,hp,_⟩:=vb9 L (by omega) (fun a ha=>by have:=hs a ha;omega);refine ⟨l,?_,hp.length_eq,?_⟩
 ·rw [if_neg (by omega),e];rfl
 ·have:=hp.length_eq;rw [←v5z,←v5z,this]
def Fit2 (t:Table) (c:Constraint) (p:List Row→Prop):Prop :=
 (∃ds L,qay t c=some (ds,0)∧qci t c=some (L,0)∧L.length≤2000∧vjw t.Rows L p)∧qe0 ⟨[t]⟩ t c=some 0 ∧
  ∃L,qdj ⟨[t]⟩ c=some (L,0)∧L.length≤2000∧(L=[]↔∀a,Tog t.Rows a→¬p a)
structure TT (n:Nat) (t:Table):Prop where
 dt:DT t
 good:qos t
 gt:GT t
 name:t.Name=[114]
 attrs:t.Attrs.length=n
theorem TT.keep {n:Nat} {t:Table} (H:TT n t) (l:List Int):TT n (qw6 t l):=⟨qu4 H.dt l,vfa H.dt H.good l,vny H.dt H.gt l,H.name,H.attrs⟩
def vua (n:Nat) (c:Constraint) (p:List Row→Prop):Prop:=(1≤c.Kind∧c.Kind≤6∧c.Table=[114])∧∀t,TT n t→Fit2 t c p
theorem v1x {n:Nat} (nm:List UInt8) {d:OD} (h:qmv n d=true):vua n (Constraint.mk nm [114] 5 (FD.mk 0 0) (FD.mk 0 0) (IND.mk [] [] [] []) (CFD.mk [] 0 []) d (Denial.mk 0 [])) (odQ d):=by
 refine ⟨⟨by simp,by simp,rfl⟩,fun t T=>?_⟩;have hname:=T.name;have ha:=T.attrs;subst ha;obtain ⟨L,l1,l2,l3⟩:=vnw T.good h;have hl:=q2c h;have hv:=vbu t.Attrs.length d hl.1 hl.2;have hV:=quw t d T.good.ok hl;have hod:qv4 t d=0:=by unfold qv4;rw [T.good.err,h];rfl
 rw [if_pos hod] at hV;have hL:L=qtg d t.Rows:=by
  rw [l1] at hV;exact (Prod.mk.inj (v6z hV)).1
 subst hL;have hloc:=v1u (T.dt.code).2 d;obtain ⟨l,s1,s2,s3⟩:=qxu (qtg d t.Rows) (by omega) hloc.short;refine ⟨⟨[],qtg d t.Rows,?_,?_,by omega,hloc⟩,?_,l,?_,by omega,s3.trans hloc.nil⟩
 ·simp [qay,hname,hv,h]
 ·unfold qci;have hT:qay t (Constraint.mk nm [114] 5 (FD.mk 0 0) (FD.mk 0 0) (IND.mk [] [] [] []) (CFD.mk [] 0 []) d (Denial.mk 0 []))=some ([],0):=by
   simp [qay,hname,hv,h]
  rw [hT,v40];simp [l1]
 ·simp [qe0,hv,h]
 ·have hf:=qu5 t;rw [hname] at hf;unfold qdj;simp only [hf,v40,l1];rw [if_neg (by decide),if_neg (by decide),if_neg (by decide),if_neg (by decide),if_pos (by decide),if_neg (by decide)];exact s1
theorem vub {n:Nat} (hn:n≤16) (nm:List UInt8) {c:CFD} (hc:ve5 n c=true) (hcl:c.Lhs.length≤n):vua n (Constraint.mk nm [114] 4 (FD.mk 0 0) (FD.mk 0 0) (IND.mk [] [] [] []) c (OD.mk [] []) (Denial.mk 0 [])) (cfdP c):=by
 refine ⟨⟨by simp,by simp,rfl⟩,fun t T=>?_⟩;have hname:=T.name;have ha:=T.attrs;subst ha;obtain ⟨L,l1,l2,hloc⟩:=vjx T.dt hn hc hcl;have hc':=hc;unfold ve5 at hc';simp only [v2m,decide_eq_true_eq] at hc';have hv:=q7f t.Attrs.length c (by omega) (by omega);obtain ⟨l,s1,s2,s3⟩:=qxu L (by omega) hloc.short;have hT:qay t (Constraint.mk nm [114] 4 (FD.mk 0 0) (FD.mk 0 0) (IND.mk [] [] [] []) c (OD.mk [] []) (Denial.mk 0 []))=some ([],0):=by
  simp [qay,hname,hv,hc]
 refine ⟨⟨[],L,hT,?_,by omega,hloc⟩,?_,l,?_,by omega,s3.trans hloc.nil⟩
 ·unfold qci;rw [hT,v40];simp [l1]
 ·simp [qe0,hv,hc]
 ·have hf:=qu5 t;rw [hname] at hf;unfold qdj;simp only [hf,v40,l1];rw [if_neg (by decide),if_neg (by decide),if_neg (by decide),if_pos (by decide),if_neg (by decide)];exact s1
theorem vuc {n:Nat} (hn:n≤16) (nm:List UInt8) {d:Denial} (hb:q7z n d=true) (hl:d.Atoms.length≤1048576):vua n (Constraint.mk nm [114] 6 (FD.mk 0 0) (FD.mk 0 0) (IND.mk [] [] [] []) (CFD.mk [] 0 []) (OD.mk [] []) d) (vt8 [d]):=by
 refine ⟨⟨by simp,by simp,rfl⟩,fun t T=>?_⟩;have hname:=T.name;have ha:=T.attrs;subst ha;have few:=T.dt.few;have he:qoy t d=0:=by
  unfold qoy;rw [T.dt.err,if_neg (by simp),if_pos hb,if_neg (by omega)]
 obtain ⟨L,l1,l2,hloc⟩:=q7i T.dt [d] (fun x hx=>by rw [v6k.1 hx];exact ⟨he,hl⟩) (by simp);have hv:=q66 t.Attrs.length d hl;have hT:qay t (Constraint.mk nm [114] 6 (FD.mk 0 0) (FD.mk 0 0) (IND.mk [] [] [] []) (CFD.mk [] 0 []) (OD.mk [] []) d)=some ([d],0):=by
  simp [qay,hname,hv,hb]
 have hd1:=q7h T.dt he hl;have hloc2:vjw t.Rows (q9u (qoz t d)) (vt8 [d]):=fun e=>by rw [q4a];exact vcc hb e
 have hlen:(q9u (qoz t d)).length≤343:=v4q (vb5 _) (q7c few (qkz hb).1.2.1);obtain ⟨l,s1,s2,s3⟩:=qxu (q9u (qoz t d)) (by omega) hloc2.short;refine ⟨⟨[d],L,hT,?_,by omega,hloc⟩,?_,l,?_,by omega,s3.trans hloc2.nil⟩
 ·unfold qci;rw [hT,v40];simp [l1]
 ·simp [qe0,hv,hb]
 ·have hf:=qu5 t;rw [hname] at hf;unfold qdj;simp only [hf,v40,hd1];rw [if_neg (by decide),if_neg (by decide),if_neg (by decide),if_neg (by decide),if_neg (by decide),if_neg (by decide)];exact s1
theorem q4f {n s:Nat} (hn:n≤16) (hs:s < 2 ^ n) (a b:Row):qzt n a b s↔agP n (s:Int) a b=true:=by
 rw [qxs hn hs];have hs':s < 4294967296:=Nat.lt_trans hs (qzk (by omega));constructor
 ·intro h y hy;obtain ⟨h1,h2⟩:=qn0 hy;exact h y (qky hs hy) h2
 ·intro h k hk hb;refine h k ?_;unfold qe9;rw [v6g,v6j];exact ⟨by omega,hb⟩
theorem vud {n a:Nat} (hn:n≤64) (ha:a < 2 ^ n):v7t (a:Int) (2 ^ (min n 64))=0:=by
 rw [v6s hn];have e:((2:Int) ^ n)=((2 ^ n:Nat):Int):=by simp
 rw [e,Int.fdiv_eq_ediv_of_nonneg _ (Int.natCast_nonneg _),←Int.natCast_ediv,Nat.div_eq_of_lt ha];rfl
theorem v1y {n:Nat} (hn:n≤5) (nm:List UInt8) {s r:Nat} (hs:s < 2 ^ n) (hr:r < 2 ^ n):vua n (Constraint.mk nm [114] 1 (FD.mk (s:Int) (r:Int)) (FD.mk 0 0) (IND.mk [] [] [] []) (CFD.mk [] 0 []) (OD.mk [] []) (Denial.mk 0 [])) (vt8 (fdL s r)):=by
 refine ⟨⟨by simp,by simp,rfl⟩,fun t T=>?_⟩;have hname:=T.name;have ha:=T.attrs;subst ha;have few:=T.dt.few;have hp:2 ^ t.Attrs.length≤2 ^ 5:=v9v (by omega) hn;have hor:s ||| r < 2 ^ t.Attrs.length:=uai hs hr;have h32:(2:Nat) ^ 5=32:=by decide
 have hF:=vjo (n:=t.Attrs.length) (s:=s) (r:=r) (by omega) (by omega) (by omega);rw [if_pos (by unfold fdB;simpa using hor)] at hF;have hne:¬(t.Attrs.length:Int) < 0:=by omega
 have hT:qay t (Constraint.mk nm [114] 1 (FD.mk (s:Int) (r:Int)) (FD.mk 0 0) (IND.mk [] [] [] []) (CFD.mk [] 0 []) (OD.mk [] []) (Denial.mk 0 []))=some (fdL s r,0):=by
  simp only [qay,hname,beq_self_eq_true,if_true,if_neg (show ¬(1:Int) < 1 by decide),if_neg (show ¬(1:Int) > 6 by decide),if_neg (show ¬((1:Int) == 2)=true by decide),if_neg (show ¬((1:Int) == 3)=true by decide),if_neg hne,
   q6o (show s < 4294967296 by omega) (show r < 4294967296 by omega),v1t (show t.Attrs.length≤32 by omega) hor,bne_self_eq_false,v2o,if_false,hF,v40]
 have hlen:(fdL s r).length≤5:=by
  unfold fdL;rw [v3n];have hd:qw5 r s < 2 ^ t.Attrs.length:=by
   refine Nat.lt_of_le_of_lt ?_ hr;refine Nat.le_of_testBit fun i hi=>?_
   rw [qow,v2m] at hi;exact hi.1
  have:=qz2 (n:=t.Attrs.length) (by omega) hd;omega
 obtain ⟨L,l1,l2,hloc⟩:=q7i T.dt (fdL s r) (fun d hd=>⟨vns T.dt (by omega) hs hr d hd,by
  obtain ⟨x,hx,rfl⟩:=v6h.1 hd;have:=qra s;simp only [q01,v3l,v3n,v56];omega⟩) hlen
 have hdv:∀d∈fdL s r,d.Vars=2:=fun d hd=>by obtain ⟨x,_,rfl⟩:=v6h.1 hd;rfl
 -- the pairs of detect
 let C:Constraint:=Constraint.mk nm [114] 1 (FD.mk (s:Int) (r:Int)) (FD.mk 0 0) (IND.mk [] [] [] []) (CFD.mk [] 0 []) (OD.mk [] []) (Denial.mk 0 [])
 have hag:∀x∈t.Rows,∀y∈t.Rows,qee x y C=some (!agP t.Attrs.length (r:Int) x y):=fun x hx y hy=>by
  obtain ⟨b,b1,b2⟩:=vjy (n:=t.Attrs.length) ((T.dt.code).1 x hx).1 ((T.dt.code).1 y hy).1 (by omega) (s:=r) (by omega);rw [q4f (by omega) hr] at b2;have:b=agP t.Attrs.length (r:Int) x y:=v73.2 b2;subst this;show (qg0 x y (r:Int)).bind _=_;rw [b1];rfl
 obtain ⟨b,p1,p2,p3,p4⟩:=vj2 T.gt few hs (fun y z=>qee y z C) (fun x y=>!agP t.Attrs.length (r:Int) x y) hag;obtain ⟨l,s1,s2,s3⟩:=qxu b (by omega) (fun e he=>by have:=p3 e he;omega);refine ⟨⟨fdL s r,L,hT,?_,by omega,hloc⟩,?_,l,?_,by omega,s3.trans (p4.trans ?_)⟩
 ·unfold qci;rw [hT,v40];simp [l1]
 ·have e64:v7w.wrap ((s ||| r:Nat):Int)=((s ||| r:Nat):Int):=qnz (by omega) (by omega);simp only [qe0,beq_self_eq_true,if_true,if_neg hne,q6o (show s < 4294967296 by omega) (show r < 4294967296 by omega),e64,vud (show t.Attrs.length≤64 by omega) hor]
 ·have hf:=qu5 t;rw [hname] at hf;unfold qdj;simp only [hf,v40];rw [if_pos (by decide),p1,v40];exact s1
 ·have hpw:=(T.dt.code).2;constructor
  ·rintro h a ⟨g1,_,_,g4⟩ ⟨d,d1,d2,d3⟩;rw [hdv d d1] at d2
   match a,d2,g1,g4,d3 with
   | [x,y],_,g1,g4,d3 =>
    have hx:=g1 x (by simp);have hy:=g1 y (by simp);have hne:x.ID≠y.ID:=by simpa using g4
    have hfd:fdP t.Attrs.length (s:Int) (r:Int) x y=true:=(vpp (by omega) hs hr x y).1 ⟨d,d1,d3⟩;obtain ⟨i,hi,hix⟩:=v9b.1 hx;obtain ⟨k,hk,hky⟩:=v9b.1 hy;have ri:qja t i=x:=by have:=qn2 hi;rw [v3d hi,hix] at this;exact (v6z this).symm
    have rk:qja t k=y:=by have:=qn2 hk;rw [v3d hk,hky] at this;exact (v6z this).symm
    have two:∀(i k:Nat) (x y:Row),i < k→k < t.Rows.length→qja t i=x→qja t k=y→fdP t.Attrs.length (s:Int) (r:Int) x y=true→False:=fun i k x y hik hk e1 e2 hfd=>by
     subst e1;subst e2;unfold fdP at hfd;rw [v2m] at hfd;have:=h i k hik hk ((q4f (by omega) hs _ _).2 hfd.1);rw [this] at hfd;cases hfd.2
    rcases v6r i k with hik | hik | hik
    ·exact two i k x y hik hk ri rk hfd
    ·subst hik;rw [←ri,←rk] at hne;exact hne rfl
    ·exact two k i y x hik hi rk ri (by rw [vnr];exact hfd)
  ·intro h i k hik hk hagr;cases hq:(!agP t.Attrs.length (r:Int) (qja t i) (qja t k)) with
   | false=>rfl
   | true =>
    exfalso;have hi:i < t.Rows.length:=by omega
    have hfd:fdP t.Attrs.length (s:Int) (r:Int) (qja t i) (qja t k)=true:=by
     unfold fdP;rw [(q4f (by omega) hs _ _).1 hagr,hq];rfl
    obtain ⟨d,d1,d2⟩:=(vpp (by omega) hs hr _ _).2 hfd;have hlt:=v9h.1 hpw i k hi hk hik;have ri:qja t i=t.Rows[i]:=by have:=qn2 hi;rw [v3d hi] at this;exact (v6z this).symm
    have rk:qja t k=t.Rows[k]:=by have:=qn2 hk;rw [v3d hk] at this;exact (v6z this).symm
    exact h [qja t i,qja t k] (tog2 (qr5 hi) (qr5 hk) (by rw [ri,rk];omega)) ⟨d,d1,by rw [hdv d d1];rfl,d2⟩
end Go.Proofs.YtkebadaokhljmaaGreatDoor
namespace Go.Ab
open Go
def vwp (a b:Nat):Prop:=∀i,a.testBit i=true→b.testBit i=true
def qv9 (es:List Nat) (S:Nat):Prop:=∀e∈es,¬vwp e S
def vpr (es:List Nat) (u S:Nat):Prop:=∃e∈es,e.testBit u=true∧∀i,e.testBit i=true→i≠u→S.testBit i=true
def v1z (n:Nat) (es:List Nat) (S:Nat):Prop:=qv9 es S∧∀u,u < n→S.testBit u=false→vpr es u S
open Classical in
def LM (n:Nat) (es:List Nat):Nat→Nat→Nat→List Nat
 | 0,_,iN=>if v1z n es iN then [iN] else []
 | k+1,v,iN=>LM n es k (v+1) (iN+2 ^ v)++LM n es k (v+1) iN
theorem qkf {a v i:Nat} (h:a < 2 ^ v) (hi:v≤i):a.testBit i=false :=
 v90 (v4r h (v9v (by omega) hi))
theorem qtj {a v:Nat} (h:a < 2 ^ v) (i:Nat):(a+2 ^ v).testBit i=(a.testBit i || decide (i=v)):=by
 rw [Nat.add_comm];rcases v6r i v with hi | hi | hi
 ·rw [Nat.testBit_two_pow_add_gt hi,decide_eq_false (by omega),v97]
 ·subst hi;rw [Nat.testBit_two_pow_add_eq,qkf h (v4o _)];simp
 ·rw [qkf (v:=v+1) (by rw [v9x];omega) hi,qkf h (by omega),decide_eq_false (by omega)];rfl
theorem qu6 {a v:Nat} (h:a < 2 ^ v):a+2 ^ v < 2 ^ (v+1):=by rw [v9x];omega
theorem qk0 {a v:Nat} (h:a < 2 ^ v):a < 2 ^ (v+1):=by rw [v9x];omega
theorem vue {a b n:Nat} (ha:a < 2 ^ n) (hb:b < 2 ^ n) (h:∀i,i < n→a.testBit i=b.testBit i):a=b:=by
 apply v9r;intro i;by_cases hi:i < n
 ·exact h i hi
 ·rw [qkf ha (by omega),qkf hb (by omega)]
theorem qz5 (n:Nat) (es:List Nat):∀(k v iN S:Nat),v+k=n→iN < 2 ^ v→(S∈LM n es k v iN↔S < 2 ^ n∧v1z n es S∧∀i,i < v→S.testBit i=iN.testBit i)
 | 0,v,iN,S,hv,hi=>by
  have:v=n:=by omega
  subst this;unfold LM;constructor
  ·intro h;split at h
   ·rename_i hm;simp only [v6k] at h;subst h;exact ⟨hi,hm,fun _ _=>rfl⟩
   ·cases h
  ·rintro ⟨h1,h2,h3⟩;have:S=iN:=vue h1 hi h3;subst this;rw [if_pos h2];simp
 | k+1,v,iN,S,hv,hi=>by
  unfold LM;rw [v3v,qz5 n es k (v+1) (iN+2 ^ v) S (by omega) (qu6 hi),qz5 n es k (v+1) iN S (by omega) (qk0 hi)];constructor
  ·rintro (⟨h1,h2,h3⟩ | ⟨h1,h2,h3⟩)
   ·refine ⟨h1,h2,fun i hiv=>?_⟩;rw [h3 i (by omega),qtj hi,decide_eq_false (by omega),v97]
   ·exact ⟨h1,h2,fun i hiv=>h3 i (by omega)⟩
  ·rintro ⟨h1,h2,h3⟩;cases hb:S.testBit v with
   | true =>
    refine .inl ⟨h1,h2,fun i hiv=>?_⟩;rw [qtj hi];by_cases e:i=v
    ·subst e;rw [hb];simp
    ·rw [h3 i (by omega),decide_eq_false e,v97]
   | false =>
    refine .inr ⟨h1,h2,fun i hiv=>?_⟩;by_cases e:i=v
    ·subst e;rw [hb,qkf hi (v4o _)]
    ·exact h3 i (by omega)
def befM (S T:Nat):Prop:=∃i,S.testBit i=true∧T.testBit i=false∧∀j,j < i→S.testBit j=T.testBit j
theorem q4g (n:Nat) (es:List Nat):∀(k v iN:Nat),v+k=n→iN < 2 ^ v→(LM n es k v iN).Pairwise befM
 | 0,v,iN,hv,hi=>by
  unfold LM;split
  ·exact List.pairwise_singleton _ _
  ·exact v8p.nil
 | k+1,v,iN,hv,hi=>by
  unfold LM;refine List.pairwise_append.2 ⟨q4g n es k (v+1) _ (by omega) (qu6 hi),q4g n es k (v+1) _ (by omega) (qk0 hi),fun S hS T hT=>?_⟩;obtain ⟨_,_,s3⟩:=(qz5 n es k (v+1) _ S (by omega) (qu6 hi)).1 hS;obtain ⟨_,_,t3⟩:=(qz5 n es k (v+1) _ T (by omega) (qk0 hi)).1 hT;refine ⟨v,?_,?_,fun j hj=>?_⟩
  ·rw [s3 v (by omega),qtj hi];simp
  ·rw [t3 v (by omega),qkf hi (v4o _)]
  ·rw [s3 j (by omega),t3 j (by omega),qtj hi,decide_eq_false (by omega),v97]
theorem q93 (S:Nat):¬befM S S:=by
 rintro ⟨i,h1,h2,_⟩;rw [h1] at h2;cases h2
theorem vj3 (n:Nat) (es:List Nat):∀(k v iN:Nat),(LM n es k v iN).length≤2 ^ k
 | 0,v,iN=>by unfold LM;split <;> simp
 | k+1,v,iN=>by
  unfold LM;have h1:=vj3 n es k (v+1) (iN+2 ^ v);have h2:=vj3 n es k (v+1) iN;rw [v3l,v9x];omega
def qpu {σ:Type} (f:σ→Nat→Bool×σ):List Nat→σ→Bool×σ
 | [],s=>(true,s)
 | x :: r,s=>if (f s x).1=true then qpu f r (f s x).2 else (false,(f s x).2)
theorem qwu {σ:Type} (f:σ→Nat→Bool×σ):∀(a b:List Nat) (s:σ),qpu f (a++b) s=if (qpu f a s).1=true then qpu f b (qpu f a s).2 else (false,(qpu f a s).2)
 | [],b,s=>by simp [qpu]
 | x :: a,b,s=>by
  simp only [v5p,qpu];by_cases h:(f s x).1=true
  ·simp only [if_pos h];exact qwu f a b _
  ·simp only [if_neg h];simp
def qmw (n:Nat) (es:List Nat) (v iN:Nat):Prop:=∃u,u < v∧iN.testBit u=false∧¬∃e∈es,e.testBit u=true∧∀i,e.testBit i=true→i≠u→(iN.testBit i=true∨(v≤i∧i < n))
theorem q2j {n:Nat} {es:List Nat} {k v iN:Nat} (hv:v+k=n) (hi:iN < 2 ^ v) (h:qmw n es v iN):LM n es k v iN=[]:=by
 obtain ⟨u,h1,h2,h3⟩:=h;rw [v98];intro S hS;obtain ⟨s1,⟨s2,s3⟩,s4⟩:=(qz5 n es k v iN S hv hi).1 hS;obtain ⟨e,he,e1,e2⟩:=s3 u (by omega) (by rw [s4 u h1,h2]);refine h3 ⟨e,he,e1,fun i hib hiu=>?_⟩;have:=e2 i hib hiu;by_cases hiv:i < v
 ·left;rw [←s4 i hiv];exact this
 ·refine .inr ⟨by omega,?_⟩;by_cases hin:i < n
  ·exact hin
  ·rw [qkf s1 (by omega)] at this;cases this
theorem vj4 {n:Nat} {es:List Nat} {k v iN:Nat} (hv:v+k=n) (hi:iN < 2 ^ v) (h:¬qv9 es iN):LM n es k v iN=[]:=by
 rw [v98];intro S hS;obtain ⟨s1,⟨s2,s3⟩,s4⟩:=(qz5 n es k v iN S hv hi).1 hS;refine h fun e he hsub=>s2 e he fun i hib=>?_
 have:=hsub i hib;by_cases hiv:i < v
 ·rw [s4 i hiv];exact this
 ·rw [qkf hi (by omega)] at this;cases this
theorem vuf {n:Nat} {es:List Nat} {iN:Nat} (h1:qv9 es iN) (h2:¬qmw n es n iN):v1z n es iN:=by
 refine ⟨h1,fun u hu hb=>?_⟩;refine Classical.byContradiction fun hno=>h2 ⟨u,hu,hb,?_⟩
 rintro ⟨e,he,e1,e2⟩;exact hno ⟨e,he,e1,fun i a b=>(e2 i a b).resolve_right (by omega)⟩
theorem vn0 {σ ST OT:Type} (n:Nat) (es:List Nat) (f:σ→Nat→Bool×σ) (B:(ST→Option OT)→ST→Option OT) (Sx:σ→Nat→Nat→Nat→ST) (R:Bool→σ→OT) (c:σ→Nat) (bnd:Nat)
  (hc:∀s x,c (f s x).2≤c s+1)
  (h1:∀rec s v iN out,v≤n→iN < 2 ^ v→out < 2 ^ v→(∀i,i < v→out.testBit i=!iN.testBit i)→qmw n es v iN→B rec (Sx s v iN out)=some (R true s))
  (h2:∀rec s iN out,iN < 2 ^ n→out < 2 ^ n→(∀i,i < n→out.testBit i=!iN.testBit i)→¬qmw n es n iN→c s+1≤bnd→B rec (Sx s n iN out)=some (R (f s iN).1 (f s iN).2))
  (h3:∀rec s v iN out,v < n→iN < 2 ^ v→out < 2 ^ v→(∀i,i < v→out.testBit i=!iN.testBit i)→¬qmw n es v iN→¬qv9 es (iN+2 ^ v)→B rec (Sx s v iN out)=rec (Sx s (v+1) iN (out+2 ^ v)))
  (h4:∀rec s v iN out,v < n→iN < 2 ^ v→out < 2 ^ v→(∀i,i < v→out.testBit i=!iN.testBit i)→¬qmw n es v iN→qv9 es (iN+2 ^ v)→∀b s',rec (Sx s (v+1) (iN+2 ^ v) out)=some (R b s')→B rec (Sx s v iN out)=if b=true then rec (Sx s' (v+1) iN (out+2 ^ v)) else some (R false s')) :
  ∀(k v iN out fuel:Nat) (s:σ),v+k=n→k < fuel→iN < 2 ^ v→out < 2 ^ v→(∀i,i < v→out.testBit i=!iN.testBit i)→qv9 es iN→c s+(LM n es k v iN).length≤bnd →
   vvh B fuel (Sx s v iN out)=some (R (qpu f (LM n es k v iN) s).1 (qpu f (LM n es k v iN) s).2)∧c (qpu f (LM n es k v iN) s).2≤c s+(LM n es k v iN).length:=by
 have clE:∀(l:List Nat) (s:σ),c (qpu f l s).2≤c s+l.length:=by
  intro l
  induction l with
  | nil=>intro s;simp [qpu]
  | cons x l ih =>
   intro s;have:=hc s x;simp only [qpu,v5y];split
   ·have:=ih (f s x).2;omega
   ·simp only;omega
 intro k
 induction k with
 | zero =>
  intro v iN out fuel s hv hf hi ho hio hfr hb;refine ⟨?_,clE _ _⟩;cases fuel with
  | zero=>omega
  | succ fuel =>
   have:v=n:=by omega
   subst this;rw [vvh];by_cases hp:qmw v es v iN
   ·rw [q2j (k:=0) hv hi hp,h1 _ s v iN out (v4o _) hi ho hio hp];rfl
   ·have hm:=vuf hfr hp;have hL:LM v es 0 v iN=[iN]:=by unfold LM;rw [if_pos hm]
    rw [hL] at hb ⊢;rw [h2 _ s iN out hi ho hio hp (by simpa using hb)];simp only [qpu];cases h:(f s iN).1 <;> simp
 | succ k ih =>
  intro v iN out fuel s hv hf hi ho hio hfr hb;refine ⟨?_,clE _ _⟩;cases fuel with
  | zero=>omega
  | succ fuel =>
   rw [vvh];have hio2:∀i,i < v+1→(out+2 ^ v).testBit i=!iN.testBit i:=fun i hiv=>by
    rw [qtj ho];by_cases e:i=v
    ·subst e;rw [qkf hi (v4o _)];simp
    ·rw [hio i (by omega),decide_eq_false e,v97]
   have hio1:∀i,i < v+1→out.testBit i=!(iN+2 ^ v).testBit i:=fun i hiv=>by
    rw [qtj hi];by_cases e:i=v
    ·subst e;rw [qkf ho (v4o _)];simp
    ·rw [hio i (by omega),decide_eq_false e,v97]
   by_cases hp:qmw n es v iN
   ·rw [q2j hv hi hp,h1 _ s v iN out (by omega) hi ho hio hp];rfl
   ·by_cases hfr2:qv9 es (iN+2 ^ v)
    ·have hL:LM n es (k+1) v iN=LM n es k (v+1) (iN+2 ^ v)++LM n es k (v+1) iN:=rfl;rw [hL] at hb ⊢;rw [v3l] at hb;obtain ⟨e1,e2⟩:=ih (v+1) (iN+2 ^ v) out fuel s (by omega) (by omega) (qu6 hi) (qk0 ho) hio1 hfr2 (by omega);rw [h4 _ s v iN out (by omega) hi ho hio hp hfr2 _ _ e1,qwu];cases hb1:(qpu f (LM n es k (v+1) (iN+2 ^ v)) s).1 with
     | false=>simp
     | true =>
      simp only [if_true];exact (ih (v+1) iN (out+2 ^ v) fuel _ (by omega) (by omega) (qk0 hi) (qu6 ho) hio2 hfr (by omega)).1
    ·have hL:LM n es (k+1) v iN=LM n es k (v+1) iN:=by
      show LM n es k (v+1) (iN+2 ^ v)++LM n es k (v+1) iN=_;rw [vj4 (by omega) (qu6 hi) hfr2];rfl
     rw [hL] at hb ⊢;rw [h3 _ s v iN out (by omega) hi ho hio hp hfr2];exact (ih (v+1) iN (out+2 ^ v) fuel s (by omega) (by omega) (qk0 hi) (qu6 ho) hio2 hfr hb).1
theorem vj5 {n:Nat} {es:List Nat} {S:Nat}:S∈LM n es n 0 0↔S < 2 ^ n∧v1z n es S:=by
 rw [qz5 n es n 0 0 S (by omega) (by simp)];exact ⟨fun h=>⟨h.1,h.2.1⟩,fun h=>⟨h.1,h.2,fun i hi=>absurd hi (uah i)⟩⟩
theorem vj6 {es:List Nat} (h:∀e∈es,∃i,e.testBit i=true):qv9 es 0:=fun e he hs=>by
 obtain ⟨i,hi⟩:=h e he;have:=hs i hi;rw [ual] at this;cases this
section
variable {n:Nat} {sz:List Nat} {cmp pos:Nat→Nat} {vert:Nat→Nat→Nat} {es:List Nat} {ces:List (List Nat)}
theorem vn1 (n:Nat) (es:List Nat):(LM n es n 0 0).Nodup:=by
 refine (q4g n es n 0 0 (by omega) (by simp)).imp ?_;intro a b h e;rw [e] at h;exact q93 b h
end
end Go.Ab
namespace Go.Proofs.YtkebadaokhljmaaGreatDoor
open Go Go.Ab
end Go.Proofs.YtkebadaokhljmaaGreatDoor
namespace Go.Ab
end Go.Ab
namespace Go.Proofs.YtkebadaokhljmaaGreatDoor
open Go Go.Ab
def qm9 (x:Str):Value:=if x=[63] then ⟨0,0,[]⟩ else match x with
 | [c]=>if 48≤c.toNat∧c.toNat≤57 then ⟨1,(c.toNat:Int) - 48,[]⟩ else ⟨2,0,x⟩
 | _=>⟨2,0,x⟩
def rowOf (k:Nat) (x:Str):Row:=⟨1+2 * (k:Int),[qm9 x]⟩
def vcd:Nat→List Str→List Row
 | _,[]=>[]
 | k,x :: l=>rowOf k x :: vcd (k+1) l
def tb (l:List Str):Table:=⟨[114],[[97]],vcd 0 l⟩
end Go.Proofs.YtkebadaokhljmaaGreatDoor
namespace Go.Ab
open Go
end Go.Ab
namespace Go.Proofs.YtkebadaokhljmaaGreatDoor
open Go Go.Ab
end Go.Proofs.YtkebadaokhljmaaGreatDoor
namespace Go.Ab
open Go
theorem q7l {α:Type} (l:List α) (q:α→Bool) (B:Int×Int→Option (LS (Int×Int) Int)) (hl:l.length≤1048576)
  (mono:∀(m n:Nat) x y,m≤n→l[m]?=some x→l[n]?=some y→q y=true→q x=true)
  (hB:∀(i j:Nat) x,i < j→j≤l.length→l[(i+j) / 2]?=some x→B ((i:Int),(j:Int))=some (.next (if q x=true then ((((i+j) / 2+1:Nat):Int),(j:Int)) else ((i:Int),(((i+j) / 2:Nat):Int)))))
  (hE:∀i:Nat,B ((i:Int),(i:Int))=some (.done (i:Int))) :
  ∀(d i j:Nat),j - i=d→i≤j→j≤l.length→(∀(m:Nat) x,m < i→l[m]?=some x→q x=true)→(∀(m:Nat) x,j≤m→l[m]?=some x→q x=false) →
   ∃k:Nat,qaj B ((i:Int),(j:Int))=some (k:Int)∧k≤l.length∧(∀(m:Nat) x,m < k→l[m]?=some x→q x=true)∧(∀(m:Nat) x,k≤m→l[m]?=some x→q x=false):=by
 intro d
 induction d using Nat.strongRecOn with
 | ind d ih =>
  intro i j hd hij hj h1 h2;by_cases he:i=j
  ·subst he;exact ⟨i,qao (hE i),hj,h1,h2⟩
  ·have hlt:(i+j) / 2 < l.length:=by omega
   have hx:l[(i+j) / 2]?=some l[(i+j) / 2]:=v3d hlt;have hs:=hB i j _ (by omega) hj hx;generalize l[(i+j) / 2]=x at *;cases hq:q x with
   | true =>
    rw [if_pos hq] at hs;obtain ⟨k,e1,e2⟩:=ih (j - ((i+j) / 2+1)) (by omega) ((i+j) / 2+1) j rfl (by omega) hj (fun m y hm hy=>mono m ((i+j) / 2) y x (by omega) hy hx hq) h2;exact ⟨k,by rw [qaq hs];exact e1,e2⟩
   | false =>
    rw [if_neg (by rw [hq];simp)] at hs;obtain ⟨k,e1,e2⟩:=ih ((i+j) / 2 - i) (by omega) i ((i+j) / 2) rfl (by omega) (by omega) h1 (fun m y hm hy=>by
     cases hc:q y with
     | false=>rfl
     | true=>have:=mono ((i+j) / 2) m x y hm hx hy hc;rw [hq] at this;cases this)
    exact ⟨k,by rw [qaq hs];exact e1,e2⟩
theorem vug (i j:Nat) (h:i+j≤4611686018427387904):v67.wrap (v7t (v7w.wrap (v67.wrap ((i:Int)+(j:Int)))) (2 ^ (min 1 64)))=(((i+j) / 2:Nat):Int):=by
 have e:v67.wrap ((i:Int)+(j:Int))=((i+j:Nat):Int):=by rw [qbx (by omega) (by omega)];omega
 have e2:v7w.wrap ((i+j:Nat):Int)=((i+j:Nat):Int):=by
  show ((i+j:Nat):Int) % 18446744073709551616=_;omega
 rw [e,e2];have e3:v7t ((i+j:Nat):Int) (2 ^ (min 1 64))=(((i+j) / 2:Nat):Int):=(Int.ofNat_fdiv (i+j) 2).symm;rw [e3,qbx (by omega) (by omega)]
end Go.Ab
namespace Go.Proofs.YtkebadaokhljmaaGreatDoor
open Go Go.Ab
theorem vj7 (x y:Int):qi4 x y=some (decide (x < y)):=by
 have h:∀z:Int,qdo z=some false:=fun z=>by simp [qdo]
 simp only [qi4,h,v40,v8a,v2o,if_false,if_true]
theorem q7m (l:List Int) (p:Int) (ha:l.Pairwise (· < ·)) (hl:l.length≤1048576):∃i:Nat,qc9 l p=some ((i:Int),decide (p∈l)):=by
 have asc:∀(m n:Nat) x y,m < n→l[m]?=some x→l[n]?=some y→x < y:=fun m n x y hmn hx hy=>by
  obtain ⟨h1,rfl⟩:=v3f.1 hx;obtain ⟨h2,rfl⟩:=v3f.1 hy;exact v9h.1 ha m n h1 h2 hmn
 obtain ⟨k,e1,e2,e3,e4⟩:=q7l l (fun x=>decide (x < p)) (qb7 l p) hl
  (fun m n x y hmn hx hy hq=>by
   rw [decide_eq_true_eq] at hq ⊢;rcases Nat.lt_or_ge m n with h | h
   ·have:=asc m n x y h hx hy;omega
   ·have:m=n:=by omega
    subst this;rw [hx] at hy;cases hy;exact hq)
  (fun i j x hij hj hx=>by
   have c:(i:Int) < (j:Int):=by omega
   simp only [qb7,if_pos c,vug i j (by omega),qaf hx,v40,vj7,qcd (show (i+j) / 2 < 4611686018427387904 by omega)];by_cases h:x < p <;> simp [h])
  (fun i=>by simp [qb7]) _ 0 l.length rfl (v6w _) (v4o _) (fun m x hm=>by omega) (fun m x hm hx=>by have:=qdf hx;omega)
 refine ⟨k,?_⟩;simp only [v8f] at e1;simp only [qc9,e1,v40];have hmem:∀x,l[k]?=some x→(p∈l↔x=p):=fun x hx=>by
  constructor
  ·intro hp;obtain ⟨m,hm⟩:=v9c.1 hp;rcases v6r m k with h | h | h
   ·have:=e3 m p h hm;simp at this
   ·subst h;rw [hx] at hm;cases hm;rfl
   ·have h1:=asc k m x p h hx hm;have h2:=e4 k x (v4o _) hx;simp at h2;omega
  ·rintro rfl;exact v3x hx
 by_cases hk:k < l.length
 ·have hx:l[k]?=some l[k]:=v3d hk;have hm:=hmem _ hx;generalize l[k]=x at *;simp only [if_pos (show ((k:Int) < (l.length:Int)) by omega),qaf hx,v40,qf7];by_cases hc:x=p
  ·have:(x == p)=true:=by simp [hc]
   rw [if_pos this];simp [hm.2 hc]
  ·have:¬(x == p)=true:=by simp [hc]
   rw [if_neg this];simp [hc,hm]
 ·have:¬p∈l:=by
   intro hp;obtain ⟨m,hm⟩:=v9c.1 hp;have:=e3 m p (by have:=qdf hm;omega) hm;simp at this
  simp only [if_neg (show ¬((k:Int) < (l.length:Int)) by omega)];simp [this]
theorem qw7 (l:List (List Int)) (f:List Int→Option Bool) (p:List Int→Bool) (hf:∀x∈l,f x=some (p x)) (hl:l.length≤1000000):qcs l f=some (l.any p):=by
 have h:=qgx l (qbv l f) p
  (fun k x hx hk hp=>by simp [qbv,qai hx,qaf hx,hf x (v3x hx),hp,qbh hk (by omega)])
  (fun k x hx hp=>by simp [qbv,qai hx,qaf hx,hf x (v3x hx),hp])
  (by simp [qbv])
 have hI:qds l f=some (match l.findIdx? p with | some i=>(i:Int) | none=>-1):=by
  simp only [qds,h,v40];cases l.findIdx? p <;> rfl
 simp only [qcs,hI,v40];exact congrArg some (qjk p l)
def qpv (p:Nat→Bool):Nat→List Int→List Int
 | _,[]=>[]
 | s,x :: l=>if p s=true then x :: qpv p (s+1) l else qpv p (s+1) l
theorem qri (p:Nat→Bool):∀(l:List Int) (s:Nat) (x:Int),qpv p s (l++[x])=qpv p s l++(if p (s+l.length)=true then [x] else [])
 | [],s,x=>by simp [qpv]
 | y :: l,s,x=>by
  simp only [v5p,qpv,qri p l (s+1) x,v5y,show s+1+l.length=s+(l.length+1) by omega];split <;> simp
theorem qz6 (p:Nat→Bool):∀(l:List Int) (s:Nat),(qpv p s l).Sublist l
 | [],_=>List.Sublist.refl _
 | x :: l,s=>by
  unfold qpv;split
  ·exact (qz6 p l (s+1)).cons_cons x
  ·exact (qz6 p l (s+1)).cons x
theorem q7n (p:Nat→Bool):∀(l:List Int) (s:Nat) (x:Int),x∈qpv p s l↔∃k,l[k]?=some x∧p (s+k)=true
 | [],s,x=>by simp [qpv]
 | y :: l,s,x=>by
  have ih:=q7n p l (s+1) x;have e:(∃k,(y :: l)[k]?=some x∧p (s+k)=true)↔(y=x∧p s=true)∨∃k,l[k]?=some x∧p (s+1+k)=true:=by
   constructor
   ·rintro ⟨k,h1,h2⟩;cases k with
    | zero=>exact .inl ⟨by simpa using h1,h2⟩
    | succ k=>exact .inr ⟨k,by simpa using h1,by rw [show s+1+k=s+(k+1) by omega];exact h2⟩
   ·rintro (⟨rfl,h⟩ | ⟨k,h1,h2⟩)
    ·exact ⟨0,by simp,h⟩
    ·exact ⟨k+1,by simpa using h1,by rw [show s+(k+1)=s+1+k by omega];exact h2⟩
  rw [e];unfold qpv;split
  ·rename_i h;rw [List.mem_cons,ih];constructor
   ·rintro (rfl | h') <;> simp_all
   ·rintro (⟨rfl,_⟩ | h') <;> simp_all
  ·rename_i h;rw [ih];constructor
   ·exact .inr
   ·rintro (⟨_,h'⟩ | h')
    ·exact absurd h' h
    ·exact h'
theorem qjb {a:Nat} (h:a < 18446744073709551616):(BitVec.ofInt 64 (a:Int)).toNat=a:=by
 rw [BitVec.toNat_ofInt];have:((a:Int) % ((2 ^ 64:Nat):Int)).toNat=a:=by omega
 exact this
theorem vce {a:Nat} (ha:a < 64) {k:Nat} (hk:k≤64):((v67.wrap ((BitVec.ofInt 64 (v7t (a:Int) (2 ^ (min k 64))) &&& (1#64)).toNat:Int)) == 1)=a.testBit k:=by
 have hd:a / 2 ^ k≤a:=uaf _ _;rw [v6s hk,qnt,BitVec.toNat_and,qjb (by omega),show (1#64).toNat=1 from rfl,uae,qbx (by omega) (by omega),q9m]
theorem q7o (t:Table) (hr:t.Rows.length≤6) (m:Nat) (hm:m < 64):qdq t (m:Int)=some (qpv (fun k=>m.testBit k) 0 (t.Rows.map Row.ID)):=by
 obtain ⟨b,e,i⟩:=qdc (β:=List Int) t.Rows.length (fun b i=>(b,i)) (qf6 t (m:Int)) id (fun k b=>b=qpv (fun k=>m.testBit k) 0 ((t.Rows.take k).map Row.ID)∧b.length≤k) (b0:=[]) (s0:=([],0)) rfl ⟨by simp [qpv],by simp⟩
  (fun k b hk hI=>by
   obtain ⟨i1,i2⟩:=hI;have hx:t.Rows[k]?=some t.Rows[k]:=v3d hk;have hw:v67.wrap ((k:Int)+1)=((k+1:Nat):Int):=qcd (by omega);have e:t.Rows.take (k+1)=t.Rows.take k++[t.Rows[k]]:=by rw [uac,hx];rfl
   have hp:qpv (fun k=>m.testBit k) 0 ((t.Rows.take (k+1)).map Row.ID)=b++(if m.testBit k=true then [t.Rows[k].ID] else []):=by
    rw [e,v3s,List.map_cons,List.map_nil,qri,←i1,v3n,v3r,v4z,v6s (by omega)]
   have hb:=vce hm (k:=k) (by omega);simp only [qf6,if_pos (qai hx),qaf hx,v40,if_neg (show ¬(k:Int) < 0 by omega),v8h,hb,qw2 (show b.length+1≤17592186044416 by omega),if_true,hw];by_cases h:m.testBit k=true
   ·rw [if_pos h];exact ⟨_,rfl,by rw [hp,if_pos h],by simp;omega⟩
   ·rw [if_neg h];exact ⟨b,rfl,by rw [hp,if_neg h];simp,by omega⟩)
  (fun b _=>by simp [qf6])
 rw [v9n] at i;unfold qdq;rw [e,v40,id,i.1]
theorem qz7 {l:List Int} (ha:l.Pairwise (· < ·)) {m n:Nat} {x y:Int} (hmn:m < n) (hx:l[m]?=some x) (hy:l[n]?=some y):x < y:=by
 obtain ⟨h1,rfl⟩:=v3f.1 hx;obtain ⟨h2,rfl⟩:=v3f.1 hy;exact v9h.1 ha m n h1 h2 hmn
theorem qtk (l:List Int) (ha:l.Pairwise (· < ·)) (hl:l.length≤1000):qdr l=some true:=by
 have h:qaj (qcj l) 1=some (.inl ()):=by
  by_cases h0:l.length=0
  ·exact qao (by simp only [qcj];rw [if_neg (by omega)])
  ·obtain ⟨o,e,ho⟩:=qo2 (β:=Unit) l.length (fun _ i=>i) (qcj l) (fun _ _=>True) (fun o=>o=.inl ()) (b0:=()) (s0:=1) 1 (by omega) rfl trivial
    (fun k _ hk1 hk _=>by
     have x1:l[k]?=some l[k]:=v3d hk;have y1:l[k - 1]?=some l[k - 1]:=v3d (by omega);have hw1:v67.wrap ((k:Int) - 1)=((k - 1:Nat):Int):=by rw [qbx (by omega) (by omega)];omega
     have:=qz7 ha (show k - 1 < k by omega) y1 x1;refine .inl ⟨(),?_,trivial⟩;simp only [qcj,if_pos (qai x1),qaf x1,v40,hw1,qaf y1,if_neg (show ¬l[k]≤l[k - 1] by omega),wqn k])
    (fun _ _=>⟨_,by simp only [qcj];rw [if_neg (by omega)],rfl⟩)
   rw [e,ho]
 unfold qdr;rw [h];rfl
theorem qr8 (l part:List Int) (ha:l.Pairwise (· < ·)) (hl:l.length≤1000) (hp:part.length≤1000):qdk l part=some (part.all fun x=>decide (x∈l)):=by
 have h:=qlc part (qdz l part) (fun x=>decide (x∈l)) false
  (fun k x hx hk hq=>by
   obtain ⟨i,hi⟩:=q7m l x ha (by omega);simp only [qdz,if_pos (qai hx),qaf hx,v40,hi,hq,if_true,wqn k])
  (fun k x hx hq=>by
   obtain ⟨i,hi⟩:=q7m l x ha (by omega);simp only [qdz,if_pos (qai hx),qaf hx,v40,hi,hq,v2o,if_false])
  (by simp [qdz])
 unfold qdk;rw [h,v40];cases part.all fun x=>decide (x∈l) <;> rfl
def vn2 (V:List Int) (E:List (List Int)) (l:List Int):Bool:=(l.all fun x=>decide (x∈V)) && !(E.any fun e=>e.all fun x=>decide (x∈l))
theorem vj8 {a:Nat} (ha:a < 18446744073709551616) {k:Nat} (hk:k≤64):((v7w.wrap ((BitVec.ofInt 64 (v7t (a:Int) (2 ^ (min k 64))) &&& (1#64)).toNat:Int)) == 1)=a.testBit k:=by
 have hd:a / 2 ^ k≤a:=uaf _ _;rw [v6s hk,qnt,BitVec.toNat_and,qjb (by omega),show (1#64).toNat=1 from rfl,uae,qnz (by omega) (by omega),q9m]
theorem vj9 {v:Nat} (hv:v < 64):v7w.wrap (1 * 2 ^ (min v 64))=((2 ^ v:Nat):Int):=by
 have:2 ^ v≤2 ^ 63:=v9v (by omega) (by omega);rw [v6s (by omega),Int.one_mul,show ((2:Int) ^ v)=((2 ^ v:Nat):Int) by norm_cast];generalize 2 ^ v=q at *;exact qnz (by omega) (by omega)
theorem vwq {a b:Nat} (ha:a < 18446744073709551616) (hb:b < 18446744073709551616):v7w.wrap ((BitVec.ofInt 64 (a:Int) ||| BitVec.ofInt 64 (b:Int)).toNat:Int)=((a ||| b:Nat):Int):=by
 rw [BitVec.toNat_or,qjb ha,qjb hb];have:a ||| b < 2 ^ 64:=uai ha hb;exact qnz (by omega) (by omega)
theorem vcf {a v:Nat} (h:a < 2 ^ v):a ||| 2 ^ v=a+2 ^ v:=by
 apply v9r;intro i;rw [qtj h,uak,v92];congr 1;exact decide_eq_decide.2 ⟨Eq.symm,Eq.symm⟩
theorem vps {a b:Nat} (ha:a < 18446744073709551616) (hb:b < 18446744073709551616):∃r:Nat,r < 18446744073709551616∧v7w.wrap ((BitVec.ofInt 64 (a:Int) &&& ~~~ BitVec.ofInt 64 (b:Int)).toNat:Int)=(r:Int)∧∀i,r.testBit i=(a.testBit i && !b.testBit i):=by
 refine ⟨(BitVec.ofInt 64 (a:Int) &&& ~~~ BitVec.ofInt 64 (b:Int)).toNat,BitVec.isLt _,qnz (by omega) (by have:=(BitVec.ofInt 64 (a:Int) &&& ~~~ BitVec.ofInt 64 (b:Int)).isLt;omega),fun i=>?_⟩;have hb2:=qjb hb;have ha2:=qjb ha;rw [BitVec.toNat_and,ha2,Nat.testBit_and];by_cases hi:i < 64
 ·have:(~~~BitVec.ofInt 64 (b:Int)).toNat.testBit i=!b.testBit i:=by
   rw [←BitVec.getLsbD,BitVec.getLsbD_not,decide_eq_true hi,v8b,BitVec.getLsbD,hb2]
  rw [this]
 ·rw [v90 (v4r ha (v9v (n:=2) (by omega) (show 64≤i by omega)))];rfl
theorem vn3 {r:Nat}:r=0↔∀i,r.testBit i=false:=by
 constructor
 ·rintro rfl i;exact ual i
 ·intro h;exact v9r fun i=>by rw [h i,ual]
open Classical in
theorem v10 {a b:Nat} (ha:a < 18446744073709551616) (hb:b < 18446744073709551616):((v7w.wrap ((BitVec.ofInt 64 (a:Int) &&& ~~~ BitVec.ofInt 64 (b:Int)).toNat:Int)) == 0)=decide (vwp a b):=by
 obtain ⟨r,r1,r2,r3⟩:=vps ha hb
 rw [r2,v73,beq_iff_eq,decide_eq_true_eq]
 have:((r:Int)=0)↔r=0:=by omega
 rw [this,vn3]
 constructor
 ·intro h i hi
  have:=h i
  rw [r3,hi,v8b] at this
  simpa using this
 ·intro h i
  rw [r3]
  cases hb:a.testBit i with
  | false=>rfl
  | true=>rw [h i hb];rfl
theorem vuh {v n:Nat} (hv:v≤n) (hn:n≤40):∃r:Nat,r < 18446744073709551616∧(v7w.wrap ((BitVec.ofInt 64 (v7w.wrap (18446744073709551615 * 2 ^ (min v 64))) &&& (BitVec.ofInt 64 (v7w.wrap ((v7w.wrap (1 * 2 ^ (min n 64))) - 1)))).toNat:Int))=(r:Int) ∧
  ∀i,r.testBit i=(decide (v≤i) && decide (i < n)):=by
 have p1:2 ^ v≤2 ^ n:=v9v (by omega) hv;have p2:2 ^ n≤2 ^ 40:=v9v (by omega) hn;have p0:0 < 2 ^ v:=v9w (by omega);have e1:v7w.wrap (18446744073709551615 * 2 ^ (min v 64))=((18446744073709551616 - 2 ^ v:Nat):Int):=by
  rw [v6s (by omega),show ((18446744073709551615:Int) * 2 ^ v)=((18446744073709551615 * 2 ^ v:Nat):Int) by rw [Int.natCast_mul,Int.natCast_pow];rfl,qws];have:18446744073709551615 * 2 ^ v=(18446744073709551616 - 2 ^ v)+18446744073709551616 * (2 ^ v - 1):=by omega
  rw [this,uad,uag (by omega)]
 have e2:v7w.wrap ((v7w.wrap (1 * 2 ^ (min n 64))) - 1)=((2 ^ n - 1:Nat):Int):=by
  rw [vj9 (by omega),qnz (by omega) (by omega)];omega
 rw [e1,e2,BitVec.toNat_and,qjb (by omega),qjb (by omega),Nat.and_two_pow_sub_one_eq_mod];have hmod:(18446744073709551616 - 2 ^ v) % 2 ^ n=2 ^ n - 2 ^ v:=by
  have:18446744073709551616 - 2 ^ v=(2 ^ n - 2 ^ v)+2 ^ n * (2 ^ (64 - n) - 1):=by
   have:2 ^ n * 2 ^ (64 - n)=18446744073709551616:=by rw [←Nat.pow_add,show n+(64 - n)=64 by omega]
   rw [Nat.mul_sub,this,Nat.mul_one];omega
  rw [this,uad,uag (by omega)]
 rw [hmod];refine ⟨2 ^ n - 2 ^ v,by omega,qnz (by omega) (by omega),fun i=>?_⟩;have:2 ^ n - 2 ^ v=(2 ^ (n - v) - 1) * 2 ^ v:=by
  rw [Nat.sub_mul,←Nat.pow_add,show n - v+v=n by omega,Nat.one_mul]
 rw [this,Nat.testBit_mul_two_pow,Nat.testBit_two_pow_sub_one];by_cases h:v≤i
 ·rw [decide_eq_true h,v8b,v8b];exact decide_eq_decide.2 (by omega)
 ·rw [decide_eq_false h];rfl
open Classical in
theorem vfb {e u iN v n:Nat} (he:e < 18446744073709551616) (hi:iN < 18446744073709551616) (hu:u < 64) (hv:v≤n) (hn:n≤40) :
  qbe (e:Int) (u:Int) (iN:Int) (v7w.wrap ((BitVec.ofInt 64 (v7w.wrap (18446744073709551615 * 2 ^ (min v 64))) &&& (BitVec.ofInt 64 (v7w.wrap ((v7w.wrap (1 * 2 ^ (min n 64))) - 1)))).toNat:Int)) =
   some (decide (e.testBit u=true∧∀i,e.testBit i=true→i≠u→(iN.testBit i=true∨(v≤i∧i < n)))):=by
 obtain ⟨L,l1,l2,l3⟩:=vuh hv hn
 have p:2 ^ u≤2 ^ 63:=v9v (by omega) (by omega)
 obtain ⟨r,r1,r2,r3⟩:=vps (a:=e) (b:=2 ^ u) he (by omega)
 have hor:iN ||| L < 18446744073709551616:=uai (n:=64) hi l1
 simp only [qbe,if_neg (show ¬(u:Int) < 0 by omega),v8h,vj8 he (show u≤64 by omega),l2,vj9 hu,r2,vwq hi l1,v10 r1 hor]
 by_cases h:e.testBit u=true
 ·rw [if_pos h]
  congr 1
  refine decide_eq_decide.2 ⟨fun hs=>⟨h,fun i hib hiu=>?_⟩,fun hs i hib=>?_⟩
  ·have:=hs i (by rw [r3,hib,v92,decide_eq_false (Ne.symm hiu)];rfl)
   rw [uak,l3] at this
   simpa using this
  ·rw [r3,v2m,v92] at hib
   have hiu:i≠u:=fun e=>by subst e;simp at hib
   have:=hs.2 i hib.1 hiu
   rw [uak,l3]
   simpa using this
 ·rw [if_neg h]
  congr 1
  exact (decide_eq_false fun hh=>h hh.1).symm
open Classical in
theorem vui {e S:Nat} (he:e < 18446744073709551616) (hS:S < 18446744073709551616):qbg (e:Int) (S:Int)=some (decide (vwp e S)):=by
 simp only [qbg,v10 he hS]
theorem qw8 (l:List Int) (f:Int→Option Bool) (p:Int→Bool) (hf:∀x∈l,f x=some (p x)) (hl:l.length≤1073741824):qdt l f=some (vkr (l.findIdx? p)):=by
 have h:=qgx l (qbw l f) p
  (fun k y hx hk hp=>by simp only [qbw,if_pos (qai hx),qaf hx,v40,hf y (v3x hx),hp,v2o,if_false,qbh hk (show l.length≤4611686018427387904 by omega)])
  (fun k y hx hp=>by simp only [qbw,if_pos (qai hx),qaf hx,v40,hf y (v3x hx),hp,if_true])
  (by simp [qbw])
 simp only [qdt,h,v40];cases l.findIdx? p <;> rfl
theorem qmx (l:List Int) (f:Int→Option Bool) (p:Int→Bool) (hf:∀x∈l,f x=some (p x)) (hl:l.length≤1073741824):qbd l f=some (l.any p):=by
 simp only [qbd,qw8 l f p hf hl,v40];exact congrArg some (vbq p l)
structure HG (V:List Int) (E:List (List Int)):Prop where
 asc:V.Pairwise (· < ·)
 len:V.length≤40
 elen:E.length≤20000
 easc:∀e∈E,e.Pairwise (· < ·)
 ene:∀e∈E,e≠[]
 esub:∀e∈E,∀x∈e,x∈V
theorem qu7:∀(a b:List Int),a.Nodup→(∀x∈a,x∈b)→a.length≤b.length
 | [],b,_,_=>v6w _
 | x :: a,b,hn,hs=>by
  obtain ⟨h1,h2⟩:=List.nodup_cons.1 hn;have hx:=hs x v6f;have:=qu7 a (b.erase x) h2 fun y hy=>(List.mem_erase_of_ne (fun (e:y=x)=>h1 (by rw [←e];exact hy))).2 (hs y (v6e _ hy))
  rw [List.length_erase_of_mem hx] at this;have:=List.length_pos_of_mem hx;rw [v5y];omega
theorem HG.eshort {V:List Int} {E:List (List Int)} (H:HG V E) {e:List Int} (he:e∈E):e.length≤V.length:=by
 refine qu7 e V ((H.easc e he).imp ?_) (H.esub e he);intro a b h;omega
def q70 (V:List Int) (x:Int):Nat:=(V.findIdx? fun y=>x == y).getD 0
theorem qr9 {V:List Int} {x:Int} (h:x∈V):V.findIdx? (fun y=>x == y)=some (q70 V x)∧V[q70 V x]?=some x:=by
 cases hf:V.findIdx? (fun y=>x == y) with
 | none =>
  have:=List.findIdx?_eq_none_iff.1 hf x h;simp at this
 | some i =>
  obtain ⟨h1,h2,_⟩:=List.findIdx?_eq_some_iff_getElem.1 hf;have e:q70 V x=i:=by unfold q70;rw [hf];rfl
  rw [e];refine ⟨rfl,?_⟩;rw [v3d h1];have:x=V[i]:=by simpa using h2
  rw [←this]
theorem vka {V:List Int} {x:Int} (h:x∈V):q70 V x < V.length:=(v3f.1 (qr9 h).2).1
theorem vn4 {V:List Int} (hV:V.Pairwise (· < ·)) {x:Int} (h:x∈V) (i:Nat):q70 V x=i↔V[i]?=some x:=by
 constructor
 ·rintro rfl;exact (qr9 h).2
 ·intro hi;have h2:=(qr9 h).2;rcases v6r (q70 V x) i with hh | hh | hh
  ·have:=qz7 hV hh h2 hi;omega
  ·exact hh
  ·have:=qz7 hV hh hi h2;omega
def mkE (V:List Int) (e:List Int):Nat:=e.foldl (fun b x=>b ||| 2 ^ q70 V x) 0
theorem q7p (V:List Int):∀(e:List Int) (b i:Nat),(e.foldl (fun b x=>b ||| 2 ^ q70 V x) b).testBit i=(b.testBit i || e.any fun x=>q70 V x == i)
 | [],b,i=>by simp
 | x :: e,b,i=>by
  rw [v82,q7p V e,uak,v92,List.any_cons,Bool.or_assoc];congr 2
theorem vcg (V:List Int):∀(e:List Int) (b:Nat),(∀x∈e,x∈V)→b < 2 ^ V.length→e.foldl (fun b x=>b ||| 2 ^ q70 V x) b < 2 ^ V.length
 | [],b,_,h=>h
 | x :: e,b,he,h=>by
  rw [v82];exact vcg V e _ (fun y hy=>he y (v6e _ hy)) (uai h (uaj (by omega) (vka (he x v6f))))
theorem vpt {V e:List Int} (he:∀x∈e,x∈V):mkE V e < 2 ^ V.length:=vcg V e 0 he (v9w (by omega))
theorem q94 {V e:List Int} (hV:V.Pairwise (· < ·)) (he:∀x∈e,x∈V) (i:Nat):(mkE V e).testBit i=true↔∃x,x∈e∧V[i]?=some x:=by
 unfold mkE;rw [q7p,ual,v95,v5o];exact exists_congr fun x=>and_congr_right fun hx=>by rw [beq_iff_eq,vn4 hV (he x hx)]
theorem qtl {n m:Nat} (hn:n≤40) (h:m < 2 ^ n):m < 18446744073709551616:=by
 have:2 ^ n≤2 ^ 40:=v9v (by omega) hn;generalize 2 ^ n=q at *;omega
theorem vkb {V:List Int} {E:List (List Int)} (H:HG V E) (e:List Int) (he:e∈E):qaj (qe4 ⟨V,E⟩ e) (0,0)=some ((mkE V e:Nat):Int):=by
 have hs:=H.esub e he;have hl:=H.len;have hel:=H.eshort he;have h:=qdu e (fun (b:Nat) (i:Int)=>((b:Int),i)) (qe4 ⟨V,E⟩ e) (fun b x=>b ||| 2 ^ q70 V x) (fun b=>(b:Int)) (fun _ b=>b < 2 ^ V.length) (b0:=0) (s0:=(0,0)) rfl (v9w (by omega))
  (fun k b x hx hk hI=>by
   have hxV:=hs x (v3x hx);have hp:=vka hxV;refine ⟨?_,uai hI (uaj (by omega) hp)⟩;have hpp:2 ^ q70 V x < 2 ^ V.length:=uaj (by omega) hp;have hI2:=q0u V x (by omega);rw [(qr9 hxV).1] at hI2;simp only [qe4,if_pos (qai hx),qaf hx,v40,hI2,vkr,if_neg (show ¬((q70 V x:Nat):Int) < 0 by omega),v8h,vj9 (show q70 V x < 64 by omega),vwq (qtl hl hI) (qtl hl hpp),wqn k])
  (fun b _=>by simp [qe4])
 exact h
theorem vfc {V:List Int} {E:List (List Int)} (H:HG V E):qaj (qe5 ⟨V,E⟩) ([],0)=some (E.map fun e=>((mkE V e:Nat):Int)):=by
 have hl:=H.elen;have h:=qdu E (fun (b:List Int) (i:Int)=>(b,i)) (qe5 ⟨V,E⟩) (fun b e=>b++[((mkE V e:Nat):Int)]) id (fun k b=>b.length=k) (b0:=[]) (s0:=([],0)) rfl rfl
  (fun k b x hx hk hI=>by
   refine ⟨?_,by simp [hI]⟩;simp only [qe5,if_pos (qai hx),qaf hx,v40,vkb H x (v3x hx),qw2 (show b.length+1≤17592186044416 by omega),if_true,wqn k])
  (fun b _=>by simp [qe5])
 rw [h,id];congr 1;have:∀(l:List (List Int)) (b:List Int),l.foldl (fun b e=>b++[((mkE V e:Nat):Int)]) b=b++l.map fun e=>((mkE V e:Nat):Int):=by
  intro l
  induction l with
  | nil=>intro b;simp
  | cons x l ih=>intro b;simp [ih]
 rw [this];rfl
def msE (V:List Int) (E:List (List Int)):List Nat:=E.map (mkE V)
theorem q95 {V:List Int} {E:List (List Int)} {m:Nat}:m∈msE V E↔∃e∈E,mkE V e=m:=by unfold msE;rw [v6h]
theorem v11 {V:List Int} {E:List (List Int)} (H:HG V E) {m:Nat} (h:m∈msE V E):∃i,m.testBit i=true:=by
 obtain ⟨e,he,rfl⟩:=q95.1 h;cases hc:e with
 | nil=>exact absurd hc (H.ene e he)
 | cons x r =>
  have hx:x∈e:=by rw [hc];simp
  rw [←hc];exact ⟨q70 V x,(q94 H.asc (H.esub e he) _).2 ⟨x,hx,(qr9 (H.esub e he x hx)).2⟩⟩
theorem vpu {V:List Int} {E:List (List Int)} (p:Nat→Bool) (q:Int→Bool) (h:∀e∈E,q ((mkE V e:Nat):Int)=p (mkE V e)):(E.map fun e=>((mkE V e:Nat):Int)).any q=(msE V E).any p:=by
 unfold msE;rw [List.any_map,List.any_map,v73,v5o,v5o];exact exists_congr fun e=>and_congr_right fun he=>by simp only [Function.comp_apply,h e he]
open Classical in
theorem qsa {V:List Int} {E:List (List Int)} (H:HG V E) {v iN out:Nat} (hv:v≤V.length) (hi:iN < 2 ^ v) (ho:out < 2 ^ v) (hio:∀i,i < v→out.testBit i=!iN.testBit i) :
  qaj (qef ⟨V,E⟩ (E.map fun e=>((mkE V e:Nat):Int)) (v:Int) (iN:Int) (out:Int)) 0=some (if qmw V.length (msE V E) v iN then .inr () else .inl ()):=by
 have hl:=H.len
 have hel:=H.elen
 have hi64:=qtl (show v≤40 by omega) hi
 have ho64:=qtl (show v≤40 by omega) ho
 let q:Nat→Bool:=fun u=>!out.testBit u || (msE V E).any fun m=>decide (m.testBit u=true∧∀i,m.testBit i=true→i≠u→(iN.testBit i=true∨(v≤i∧i < V.length)))
 have step:∀(u:Nat),u < v→qef ⟨V,E⟩ (E.map fun e=>((mkE V e:Nat):Int)) (v:Int) (iN:Int) (out:Int) (u:Int)=if q u=true then some (.next ((u+1:Nat):Int)) else some (.done (.inr ())):=by
  intro u hu
  have hC:=qmx (E.map fun e=>((mkE V e:Nat):Int)) (fun y=>qbe y (u:Int) (iN:Int) (v7w.wrap ((BitVec.ofInt 64 (v7w.wrap (18446744073709551615 * 2 ^ (min v 64))) &&& (BitVec.ofInt 64 (v7w.wrap ((v7w.wrap (1 * 2 ^ (min V.length 64))) - 1)))).toNat:Int)))
   (fun y=>decide (y.toNat.testBit u=true∧∀i,y.toNat.testBit i=true→i≠u→(iN.testBit i=true∨(v≤i∧i < V.length)))) (fun y hy=>by
    obtain ⟨e,he,rfl⟩:=v6h.1 hy
    rw [vfb (qtl hl (vpt (H.esub e he))) hi64 (by omega) hv hl]
    simp only [v8h]) (by rw [v3n];omega)
  rw [vpu (fun m=>decide (m.testBit u=true∧∀i,m.testBit i=true→i≠u→(iN.testBit i=true∨(v≤i∧i < V.length)))) _ (fun e _=>by simp only [v8h])] at hC
  simp only [qef,if_pos (show (u:Int) < (v:Int) by omega),if_neg (show ¬(u:Int) < 0 by omega),v8h,vj8 ho64 (show u≤64 by omega),hC,v40,wqn u,q]
  by_cases hbo:out.testBit u=true
  ·simp only [hbo,if_true,v96,v95]
  ·have hbo':out.testBit u=false:=by simpa using hbo
   simp only [hbo',v2o,if_false,v8a,Bool.true_or,if_true]
 have h:=qlc (v34 v) (qef ⟨V,E⟩ (E.map fun e=>((mkE V e:Nat):Int)) (v:Int) (iN:Int) (out:Int)) q ()
  (fun k x hx hk hp=>by
   have:x=k:=by rw [v85 (by simpa using hk)] at hx;exact (v6z hx).symm
   subst this
   rw [step x (by simpa using hk),if_pos hp])
  (fun k x hx hp=>by
   have hk:=qdf hx
   have:x=k:=by rw [v85 (by simpa using hk)] at hx;exact (v6z hx).symm
   subst this
   rw [step x (by simpa using hk),if_neg (by rw [hp];simp)])
  (by rw [v54];simp [qef])
 rw [h]
 congr 1
 have:((v34 v).all q=true)↔¬qmw V.length (msE V E) v iN:=by
  rw [v5m]
  constructor
  ·rintro hh ⟨u,hu,hb,hno⟩
   have:=hh u (v6j.2 hu)
   simp only [q,hio u hu,hb,v8a,v96,v95,v5o,decide_eq_true_eq] at this
   exact hno this
  ·intro hh u hu
   have hu:=v6j.1 hu
   simp only [q,hio u hu,Bool.not_not,Bool.or_eq_true,v5o,decide_eq_true_eq]
   by_cases hb:iN.testBit u=true
   ·exact .inl hb
   ·refine .inr (Classical.byContradiction fun hno=>hh ⟨u,hu,by simpa using hb,hno⟩)
 by_cases hp:qmw V.length (msE V E) v iN
 ·rw [if_pos hp,if_neg (fun hh=>(this.1 hh) hp)]
 ·rw [if_neg hp,if_pos (this.2 hp)]
open Classical in
theorem vch {V:List Int} {E:List (List Int)} (H:HG V E) {S:Nat} (hS:S < 18446744073709551616):qbd (E.map fun e=>((mkE V e:Nat):Int)) (fun y=>qbg y (S:Int))=some (decide (¬qv9 (msE V E) S)):=by
 have hl:=H.len
 have hel:=H.elen
 have hC:=qmx (E.map fun e=>((mkE V e:Nat):Int)) (fun y=>qbg y (S:Int)) (fun y=>decide (vwp y.toNat S)) (fun y hy=>by
  obtain ⟨e,he,rfl⟩:=v6h.1 hy
  rw [vui (qtl hl (vpt (H.esub e he))) hS]
  simp only [v8h]) (by rw [v3n];omega)
 rw [hC,vpu (fun m=>decide (vwp m S)) _ (fun e _=>by simp only [v8h])]
 congr 1
 rw [v73,v5o,decide_eq_true_eq]
 simp only [decide_eq_true_eq,qv9]
 constructor
 ·rintro ⟨m,h1,h2⟩ h;exact h m h1 h2
 ·intro h
  exact Classical.byContradiction fun hno=>h fun m h1 h2=>hno ⟨m,h1,h2⟩
theorem vci {α β:Type} (x:Option (α×β)):(x.bind fun (o:α×β)=>some (o.1,o.2))=x:=by cases x <;> rfl
def q96 (most:Int) (acc:List Int) (S:Nat):Bool×List Int:=(decide (((acc.length+1:Nat):Int)≤most),acc++[(S:Int)])
theorem q7q (most:Int):∀(l:List Nat) (acc:List Int),((acc.length+l.length:Nat):Int)≤most→qpu (q96 most) l acc=(true,acc++l.map fun (S:Nat)=>(S:Int))
 | [],acc,_=>by simp [qpu]
 | x :: l,acc,h=>by
  rw [v5y] at h;have h1:(q96 most acc x).1=true:=by simp only [q96,decide_eq_true_eq];omega
  have h2:(q96 most acc x).2=acc++[(x:Int)]:=rfl;rw [qpu,if_pos h1,h2,q7q most l _ (by rw [v3l];simp only [v56];omega)];simp
open Classical in
theorem vuj {V:List Int} {E:List (List Int)} (H:HG V E) (most:Int) (hm:((LM V.length (msE V E) V.length 0 0).length:Int)≤most):qi8 ⟨V,E⟩ most=some ((LM V.length (msE V E) V.length 0 0).map fun (S:Nat)=>(S:Int),true):=by
 have hl:=H.len
 have hLM:=vj3 V.length (msE V E) V.length 0 0
 have hpow:2 ^ V.length≤2 ^ 40:=v9v (by omega) hl
 have hb:(LM V.length (msE V E) V.length 0 0).length≤1099511627776:=v4q hLM hpow
 obtain ⟨hw,_⟩:=vn0 (ST:=List Int×Int×Int×Int) (OT:=Bool×List Int) V.length (msE V E) (q96 most) (qco ⟨V,E⟩ most (E.map fun e=>((mkE V e:Nat):Int))) (fun s v iN out=>(s,(v:Int),(iN:Int),(out:Int))) (fun b s=>(b,s)) List.length 1099511627776
  (fun s x=>by simp [q96])
  (fun rec s v iN out hv hi ho hio hp=>by
   simp only [qco,if_neg (show ¬(v:Int) < 0 by omega),if_neg (show ¬(V.length:Int) < 0 by omega),qsa H hv hi ho hio,if_pos hp,v40])
  (fun rec s iN out hi ho hio hp hc=>by
   simp only [qco,if_neg (show ¬(V.length:Int) < 0 by omega),qsa H (v4o _) hi ho hio,if_neg hp,v40,beq_self_eq_true,if_true,qw2 (show s.length+1≤17592186044416 by omega),q96])
  (fun rec s v iN out hv hi ho hio hp hf=>by
   have e1:=vj9 (v:=v) (by omega)
   have hv64:=qtl (show v≤40 by omega) hi
   have ho64:=qtl (show v≤40 by omega) ho
   have hp64:2 ^ v < 18446744073709551616:=qtl (n:=40) (by omega) (uaj (by omega) (by omega))
   have ha64:=qtl (show v+1≤40 by omega) (qu6 hi)
   have hne:((v:Int) == (V.length:Int))=false:=by rw [beq_eq_false_iff_ne];omega
   simp only [qco,if_neg (show ¬(v:Int) < 0 by omega),if_neg (show ¬(V.length:Int) < 0 by omega),qsa H (Nat.le_of_lt hv) hi ho hio,if_neg hp,v40,hne,v2o,if_false,v8h,e1,vwq hv64 hp64,vwq ho64 hp64,vcf hi,vcf ho,vch H ha64,decide_eq_true hf,if_true,wqn v]
   exact vci _)
  (fun rec s v iN out hv hi ho hio hp hf b s' hr=>by
   have e1:=vj9 (v:=v) (by omega)
   have hv64:=qtl (show v≤40 by omega) hi
   have ho64:=qtl (show v≤40 by omega) ho
   have hp64:2 ^ v < 18446744073709551616:=qtl (n:=40) (by omega) (uaj (by omega) (by omega))
   have ha64:=qtl (show v+1≤40 by omega) (qu6 hi)
   have hne:((v:Int) == (V.length:Int))=false:=by rw [beq_eq_false_iff_ne];omega
   simp only [qco,if_neg (show ¬(v:Int) < 0 by omega),if_neg (show ¬(V.length:Int) < 0 by omega),qsa H (Nat.le_of_lt hv) hi ho hio,if_neg hp,v40,hne,v2o,if_false,v8h,e1,vwq hv64 hp64,vwq ho64 hp64,vcf hi,vcf ho,vch H ha64,decide_eq_false (not_not_intro hf),wqn v,hr]
   cases b with
   | false=>rfl
   | true=>simp only [if_true];exact vci _)
  V.length 0 0 0 64 [] (by omega) (by omega) (by simp) (by simp) (fun i h=>absurd h (uah i)) (vj6 fun e he=>v11 H he) (by simpa using hb)
 have hN:=q7q most (LM V.length (msE V E) V.length 0 0) [] (by simpa using hm)
 rw [hN] at hw
 simp only [v8f] at hw
 simp only [qi8,vfc H,v40,hw,v33]
def qxv (V:List Int) (S:Nat):List Int:=qpv (fun k=>S.testBit k) 0 V
theorem vuk (V:List Int) (E:List (List Int)) (hV:V.length≤40) {S:Nat} (hS:S < 18446744073709551616):qkd ⟨V,E⟩ (S:Int)=some (qxv V S):=by
 obtain ⟨b,e,i⟩:=qdc (β:=List Int) V.length (fun b i=>(b,i)) (qhk ⟨V,E⟩ (S:Int)) id (fun k b=>b=qpv (fun k=>S.testBit k) 0 (V.take k)∧b.length≤k) (b0:=[]) (s0:=([],0)) rfl ⟨by simp [qpv],by simp⟩
  (fun k b hk hI=>by
   obtain ⟨i1,i2⟩:=hI;have hx:V[k]?=some V[k]:=v3d hk;have e:V.take (k+1)=V.take k++[V[k]]:=v9p hk;have hp:qpv (fun k=>S.testBit k) 0 (V.take (k+1))=b++(if S.testBit k=true then [V[k]] else []):=by
    rw [e,qri,←i1,v3r,v4z,v6s (by omega)]
   simp only [qhk,if_pos (qai hx),qaf hx,v40,if_neg (show ¬(k:Int) < 0 by omega),v8h,vj8 hS (show k≤64 by omega),qw2 (show b.length+1≤17592186044416 by omega),if_true,wqn k];by_cases h:S.testBit k=true
   ·rw [if_pos h];exact ⟨_,rfl,by rw [hp,if_pos h],by simp;omega⟩
   ·rw [if_neg h];exact ⟨b,rfl,by rw [hp,if_neg h];simp,by omega⟩)
  (fun b _=>by simp [qhk])
 rw [v9n] at i;unfold qkd;rw [e,v40,id,i.1];rfl
theorem vul {V:List Int} {S:Nat} {x:Int}:x∈qxv V S↔∃k,V[k]?=some x∧S.testBit k=true:=by
 unfold qxv;rw [q7n];exact exists_congr fun k=>by rw [v4z]
theorem q97 (V:List Int) (S:Nat):(qxv V S).Sublist V:=qz6 _ _ _
structure HV (V:List Int) (E:List (List Int)):Prop extends HG V E where
 srtdE:E.Pairwise fun a b=>ltL a b=true
 anti:∀(i k:Nat) (a b:List Int),E[i]?=some a→E[k]?=some b→i≠k→∃x,x∈b∧x ∉ a
theorem vkc {V:List Int} {E:List (List Int)} (H:HV V E):qi7 ⟨V,E⟩=some true:=by
 have hl:=H.len;have hel:=H.elen;have h1:=qlc E (qgu ⟨V,E⟩) (fun _=>true) false
  (fun k x hx hk _=>by
   have hm:=v3x hx;have hxl:=H.toHG.eshort hm;have hne:((x.length:Int) == 0)=false:=by
    have:=List.length_pos_iff.2 (H.ene x hm);rw [beq_eq_false_iff_ne];omega
   have hall:(x.all fun y=>decide (y∈V))=true:=by simpa using H.esub x hm
   simp only [qgu,if_pos (qai hx),qaf hx,v40,hne,v2o,if_false,qtk x (H.easc x hm) (by omega),qr8 V x H.asc (by omega) (by omega),hall,if_true,wqn k];by_cases h0:k=0
   ·subst h0;rfl
   ·have hy:E[k - 1]?=some E[k - 1]:=v3d (by omega);have hxy:x=E[k]:=(v3f.1 hx).2.symm;have hlt:ltL E[k - 1] x=true:=by rw [hxy];exact v9h.1 H.srtdE (k - 1) k (by omega) hk (by omega)
    have hyl:=H.toHG.eshort (v3x hy);have hw1:v67.wrap ((k:Int) - 1)=((k - 1:Nat):Int):=by rw [qbx (by omega) (by omega)];omega
    have hc:q68 E[k - 1] x=-1:=by unfold q68;rw [if_pos hlt]
    rw [if_pos (show (k:Int) > 0 by omega),hw1];simp only [qaf hy,v40,qld _ x (show E[k - 1].length≤1000000 by omega) (by omega),hc];rfl)
  (fun k x hx hp=>by cases hp) (by simp [qgu])
 have h2:=qlc E (qgw ⟨V,E⟩) (fun _=>true) false
  (fun k x hx hk _=>by
   have hm:=v3x hx;have hxl:=H.toHG.eshort hm;have h3:=qlc E (qgv ⟨V,E⟩ (k:Int) x) (fun _=>true) false
    (fun j y hy hj _=>by
     have hym:=v3x hy;have hyl:=H.toHG.eshort hym;simp only [qgv,if_pos (qai hy),qaf hy,v40,qr8 x y (H.easc x hm) (by omega) (by omega),wqn j];by_cases hkj:k=j
     ·subst hkj;simp
     ·have hne:((k:Int) != (j:Int))=true:=by rw [bne_iff_ne];omega
      obtain ⟨z,z1,z2⟩:=H.anti k j x y hx hy hkj;have hf:(y.all fun w=>decide (w∈x))=false:=by
       rw [List.all_eq_false];exact ⟨z,z1,by simpa using z2⟩
      rw [if_pos hne,hf];rfl)
    (fun j y hy hp=>by cases hp) (by simp [qgv])
   have hall:(E.all fun _=>true)=true:=by simp
   rw [hall,if_pos rfl] at h3;simp only [qgw,if_pos (qai hx),qaf hx,v40,h3,wqn k])
  (fun k x hx hp=>by cases hp) (by simp [qgw])
 have hall:(E.all fun _=>true)=true:=by simp
 rw [hall,if_pos rfl] at h1 h2;unfold qi7;simp only [qtk V H.asc (by omega),v40,if_true,if_neg (show ¬((E.length:Int) > 20000) by omega),h1,h2]
theorem vkd {V:List Int} {E:List (List Int)} (H:HV V E):qig ⟨V,E⟩=some 0:=by
 have hl:=H.len;simp only [qig,vkc H,v40,if_true,if_neg (show ¬((V.length:Int) > 40) by omega)]
def vfo (V:List Int) (E:List (List Int)):List Nat:=LM V.length (msE V E) V.length 0 0
theorem vum {V:List Int} {E:List (List Int)} {S:Nat} (hS:S∈vfo V E):S < 2 ^ V.length:=(vj5.1 hS).1
theorem vun {V:List Int} {E:List (List Int)} (H:HV V E) (hm:(vfo V E).length≤1000):qke ⟨V,E⟩ 1000=some ((vfo V E).map (qxv V),0):=by
 have hl:=H.len;have hs:=vuj H.toHG 1000 (by unfold vfo at hm;omega);have h:=qdu ((vfo V E).map fun (S:Nat)=>(S:Int)) (fun (b:List (List Int)) (i:Int)=>(b,i)) (qhl ⟨V,E⟩ ((vfo V E).map fun (S:Nat)=>(S:Int),true)) (fun b S=>b++[qxv V S.toNat]) id (fun k b=>b.length=k) (b0:=[]) (s0:=([],0)) rfl rfl
  (fun k b x hx hk hI=>by
   obtain ⟨S,hS,rfl⟩:=v6h.1 (v3x hx);have hk':k < (vfo V E).length:=by simpa using hk
   refine ⟨?_,by simp [hI]⟩;simp only [qhl,if_pos (qai hx),qaf hx,v40,vuk V E hl (qtl hl (vum hS)),v8h,qbq (show b.length+1≤1073741824 by omega) (show 24≤65536 by decide),if_true,wqn k])
  (fun b _=>by simp [qhl])
 have hf:∀(l:List Nat) (b:List (List Int)),(l.map fun (S:Nat)=>(S:Int)).foldl (fun b S=>b++[qxv V S.toNat]) b=b++l.map (qxv V):=by
  intro l
  induction l with
  | nil=>intro b;simp
  | cons x l ih=>intro b;simp [ih]
 rw [hf,id,v33] at h;unfold vfo at h;unfold qke;simp only [vkd H,v40,bne_self_eq_false,v2o,if_false,hs,if_true,h];rfl
def rnm (nm:List UInt8) (c:Constraint):Constraint:=Constraint.mk nm c.Table c.Kind c.FD c.MVD c.IND c.CFD c.OD c.Denial
def vwr (n:Nat) (c:Constraint):Prop:=∃p,∀nm,vua n (rnm nm c) p
theorem of37u {n:Nat} (hn:n≤5) (x:Drossref37_Rule) (h:qe7 x):∃c b,qj2 (n:Int) x=some (c,b)∧(b=true→vwr n c):=by
 obtain ⟨_,hF,hC,hO,hN⟩:=h;have hL:=vnv (n:=n) (by omega) x.F hF;have fd:vwr n (cFD ⟨((x.F.L.toNat % 2 ^ n:Nat):Int),((x.F.R.toNat % 2 ^ n:Nat):Int)⟩):=⟨_,fun nm=>v1y hn nm (vje _ _) (vje _ _)⟩;unfold qj2;by_cases k1:(Int.tmod x.Kind 5 == 1)=true
 ·rw [if_pos k1];by_cases h0:(n:Int) > 0
  ·obtain ⟨c,c1,c2,c3⟩:=vt3 (n:=n) (by omega) (by omega) x.C hC;rw [if_pos h0,c1,v40];exact ⟨_,_,rfl,fun _=>⟨_,fun nm=>vub (by omega) nm c2 c3⟩⟩
  ·rw [if_neg h0,hL,v40];simp only [v5u,v40];exact ⟨_,_,rfl,fun _=>fd⟩
 ·rw [if_neg k1];by_cases k2:(Int.tmod x.Kind 5 == 2)=true
  ·rw [if_pos k2,vtq n x.O hO,v40];exact ⟨_,_,rfl,fun _=>⟨_,fun nm=>v1x nm (vi2 n x.O)⟩⟩
  ·rw [if_neg k2];by_cases k3:(Int.tmod x.Kind 5 == 3)=true
   ·rw [if_pos k3,vt2 (by omega) hN,v40];refine ⟨_,_,rfl,fun hb=>?_⟩;have hb':x.N.Atoms.length≤5:=by
     simp only [decide_eq_true_eq] at hb;omega
    exact ⟨_,fun nm=>vuc (by omega) nm (q9x hb') (by simp only [vjl,v3n];omega)⟩
   ·rw [if_neg k3,hL,v40];simp only [v5u,v40];exact ⟨_,_,rfl,fun _=>fd⟩
theorem vke {n:Nat} (hn:n≤5) (l:List Drossref37_Rule) (h:okL qe7 l):∃out b,qh6 (n:Int) l=some (out,b)∧(b=true→out.length≤4∧∀c∈out,vwr n c):=by
 obtain ⟨o,e,T1,T2⟩:=qo2 (β:=List Constraint) l.length (fun b i=>(b,i)) (qf0 (n:Int) l) (fun k b=>b.length=k∧∀c∈b,vwr n c)
  (fun o=>(∀out,o=.inl out→out.length=l.length∧∀c∈out,vwr n c)∧∀r,o=.inr r→r.2=false) (b0:=[]) (s0:=([],0)) 0 (v6w _) rfl ⟨rfl,fun c hc=>(by cases hc)⟩
  (fun k b _ hk hI=>by
   obtain ⟨i1,i2⟩:=hI;have hx:l[k]?=some l[k]:=v3d hk;obtain ⟨c,f,g1,g2⟩:=of37u hn l[k] (h.2 _ (v88 hk));have hlen:=h.1;simp only [qf0,if_pos (qai hx),qaf hx,v40,g1,qbq (show b.length+1≤1073741824 by omega) (show 272≤65536 by omega),wqn k];cases f with
   | true =>
    refine .inl ⟨b++[c],by simp,by simp [i1],fun x hx'=>?_⟩;rcases v3v.1 hx' with hx' | hx'
    ·exact i2 x hx'
    ·rw [v6k.1 hx'];exact g2 rfl
   | false=>exact .inr ⟨_,rfl,fun _ h=>(by cases h),fun r h=>by cases h;rfl⟩)
  (fun b hI=>⟨.inl b,by simp [qf0],fun out ho=>by cases ho;exact ⟨hI.1,hI.2⟩,fun r h=>by cases h⟩)
 unfold qh6;rw [e,v40];cases o with
 | inl out =>
  refine ⟨_,_,rfl,fun hb=>?_⟩;obtain ⟨q1,q2⟩:=T1 out rfl;refine ⟨?_,q2⟩;simp only [decide_eq_true_eq] at hb;omega
 | inr r =>
  refine ⟨r.1,r.2,rfl,fun hb=>?_⟩;rw [T2 r rfl] at hb;cases hb
def q03 (k:Nat):List UInt8:=[UInt8.ofNat (97+k)]
theorem vn5 (l:List Constraint) (hl:l.length≤4):∃R,qhg l=some R∧R.length=l.length∧∀k c,l[k]?=some c→R[k]?=some (rnm (q03 k) c):=by
 obtain ⟨R,e,i1,i2,i3⟩:=qdc (β:=List Constraint) l.length (fun b i=>(b,i)) (qfb l) id (fun k b=>b.length=l.length∧(∀j c,j < k→l[j]?=some c→b[j]?=some (rnm (q03 j) c))∧∀j,k≤j→b[j]?=l[j]?) (b0:=l) (s0:=(l,0)) rfl ⟨rfl,fun j c hj=>by omega,fun _ _=>rfl⟩
  (fun k b hk hI=>by
   obtain ⟨i1,i2,i3⟩:=hI;have hx:b[k]?=some l[k]:=by rw [i3 k (v4o _)];exact v3d hk
   have e1:v67.wrap (97+(k:Int))=((97+k:Nat):Int):=by rw [qbx (by omega) (by omega)];omega
   have e2:IntKind.i32.wrap ((97+k:Nat):Int)=((97+k:Nat):Int):=by
    have:∀m:Fin 4,IntKind.i32.wrap ((97+m.val:Nat):Int)=((97+m.val:Nat):Int):=by decide
    exact this ⟨k,by omega⟩
   refine ⟨b.set k (rnm (q03 k) l[k]),?_,by rw [v3q];exact i1,fun j c hj hc=>?_,fun j hj=>?_⟩
   ·simp only [qfb,if_pos (show (k:Int) < ((l.length:Nat):Int) by omega),e1,e2,if_pos (show (0:Int)≤((97+k:Nat):Int) by omega),if_pos (show ((97+k:Nat):Int) < 128 by omega),qaf hx,v40,v8h,wqn k];rfl
   ·by_cases hjk:j=k
    ·subst hjk;have hc':l[j]=c:=by have:=v3d hk;rw [this] at hc;exact v6z hc
     rw [v5x (by omega),hc']
    ·rw [v5w (by omega)];exact i2 j c (by omega) hc
   ·rw [v5w (by omega)];exact i3 j (by omega))
  (fun b _=>by simp [qfb])
 refine ⟨R,?_,i1,fun k c hc=>i2 k c ?_ hc⟩
 ·unfold qhg;rw [if_pos (qbq (by omega) (by omega)),e];rfl
 ·exact (v3f.1 hc).1
theorem vuo {k:Nat} (hk:k < 4):qk6 (q03 k)=some true:=by
 have hlet:qjq (((UInt8.ofNat (97+k)).toNat:Nat):Int)=some true:=by
  have:∀m:Fin 4,(((UInt8.ofNat (97+m.val)).toNat:Nat):Int)=((97+m.val:Nat):Int):=by decide
  rw [this ⟨k,hk⟩];unfold qjq;rw [if_pos (by omega),if_pos (by omega)]
 have h0:qgr (q03 k) 0=some (.next 1):=by
  have e:idx (q03 k) 0=some (UInt8.ofNat (97+k)):=rfl;simp only [qgr,e,v40,hlet,if_true];rw [if_pos (by simp [q03])];rfl
 have h1:qgr (q03 k) 1=some (.done (.inl ())):=by
  simp only [qgr];rw [if_neg (by simp [q03])]
 unfold qk6;rw [if_neg (by simp [q03]),if_neg (by simp [q03]),if_neg (by simp [q03])];have e:(q03 k)[0]?=some (UInt8.ofNat (97+k)):=rfl;rw [e,v40,hlet,v40,if_pos rfl,qaq h0,qao h1];rfl
theorem vn6 {j k:Nat} (hj:j < 4) (hk:k < 4) (h:q03 j=q03 k):j=k:=by
 have:∀a b:Fin 4,q03 a.val=q03 b.val→a=b:=by decide
 have:=this ⟨j,hj⟩ ⟨k,hk⟩ h;exact Fin.mk.inj this
structure RL (n:Nat) (R:List Constraint) (ps:Nat→List Row→Prop):Prop where
 few:R.length≤4
 at_:∀k c,R[k]?=some c→c.Name=q03 k∧vua n c (ps k)
def PP (R:List Constraint) (ps:Nat→List Row→Prop) (a:List Row):Prop:=∃k,k < R.length∧ps k a
theorem rl_of {n:Nat} {l R:List Constraint} (h4:l.length≤4) (hu:∀c∈l,vwr n c) (hlen:R.length=l.length) (hR:∀k c,l[k]?=some c→R[k]?=some (rnm (q03 k) c)):∃ps,RL n R ps:=by
 have hex:∀k:Nat,∃p:List Row→Prop,∀c,l[k]?=some c→∀nm,vua n (rnm nm c) p:=fun k=>by
  cases hc:l[k]? with
  | none=>exact ⟨fun _=>True,fun c h=>by cases h⟩
  | some c =>
   obtain ⟨p,hp⟩:=hu c (v3x hc);exact ⟨p,fun c' h nm=>by cases h;exact hp nm⟩
 refine ⟨fun k=>(hex k).choose,by omega,fun k c hc=>?_⟩;obtain ⟨hk,_⟩:=v3f.1 hc;have hl:l[k]?=some (l[k]'(by omega)):=v3d (by omega);have:=hR k _ hl;rw [hc] at this;obtain rfl:=v6z this;exact ⟨rfl,(hex k).choose_spec _ hl (q03 k)⟩
theorem vn7 {n:Nat} {t:Table} (T:TT n t) {R:List Constraint} {ps:Nat→List Row→Prop} (H:RL n R ps):qk8 ⟨[t]⟩ R=some (0,0):=by
 have few:=H.few;obtain ⟨_,e,_⟩:=qdc (β:=List (List UInt8×Bool)) R.length (fun b i=>(b,i)) (qic ⟨[t]⟩ R) (fun _=>(Sum.inl ():Unit ⊕ (Int×Int))) (fun k b=>∀j,k≤j→j < 4→qnq b (q03 j)=none) (b0:=[]) (s0:=([],0)) rfl (fun j _ _=>rfl)
  (fun k b hk hI=>by
   have hx:R[k]?=some R[k]:=v3d hk;obtain ⟨hnm,⟨u1,u2,u3⟩,hu⟩:=H.at_ k _ hx;obtain ⟨_,hcon,_⟩:=hu t T;have hf:=qu5 t;rw [T.name] at hf;refine ⟨qrz b R[k].Name true,?_,fun j hj hj4=>?_⟩
   ·simp only [qic,if_pos (qai hx),qaf hx,v40,hnm,vuo (show k < 4 by omega),if_true,hI k (v4o _) (by omega),Option.getD_none,v2o,if_false,if_neg (show ¬R[k].Kind < 1 by omega),if_neg (show ¬R[k].Kind > 6 by omega),u3,hf,hcon,bne_self_eq_false,wqn k]
   ·rw [qus,if_neg (by rw [hnm];exact fun h=>by have:=vn6 hj4 (by omega) h;omega)];exact hI j (by omega) hj4)
  (fun b _=>by simp [qic])
 unfold qk8;rw [q7k t T.dt.ok T.dt.err,v40,if_neg (by decide),e];rfl
theorem vn8 {n:Nat} {t:Table} (T:TT n t) {R:List Constraint} {ps:Nat→List Row→Prop} (H:RL n R ps):∃b,qlb ⟨[t]⟩ R=some (b,0)∧(b=true↔∀a,Tog t.Rows a→¬PP R ps a):=by
 have few:=H.few;obtain ⟨out,e,i1,i2⟩:=qdc (β:=List Violation) R.length (fun b i=>(b,i)) (qkb ⟨[t]⟩ R) (fun b=>(Sum.inl b:(List Violation) ⊕ (List Violation×Int))) (fun k b=>(b=[]↔∀j,j < k→∀a,Tog t.Rows a→¬ps j a)∧b.length≤k * 2000) (b0:=[]) (s0:=([],0)) rfl ⟨by simp,by simp⟩
  (fun k b hk hI=>by
   obtain ⟨i1,i2⟩:=hI;have hx:R[k]?=some R[k]:=v3d hk;obtain ⟨_,_,hu⟩:=H.at_ k _ hx;obtain ⟨_,_,L,v1,v2,v3⟩:=hu t T;obtain ⟨b',q1,q2⟩:=qdc (β:=List Violation) L.length (fun b i=>(b,i)) (qka (k:Int) (L,0)) id (fun m b'=>b'=b++(L.take m).map (Violation.mk (k:Int))) (b0:=b) (s0:=(b,0)) rfl (by simp)
    (fun m b' hm hI'=>by
     subst hI';have hx':L[m]?=some L[m]:=v3d hm;refine ⟨_,?_,by rw [v9p hm,v3s,←List.append_assoc]⟩;simp only [qka,if_pos (qai hx'),qaf hx',v40,qbq (show (b++(L.take m).map (Violation.mk (k:Int))).length+1≤1073741824 by rw [v3l,v3n,v3r];omega) (show 32≤65536 by omega),if_true,wqn m];rfl)
    (fun b _=>by simp [qka])
   rw [v9n] at q2;subst q2;refine ⟨b++L.map (Violation.mk (k:Int)),?_,?_,by rw [v3l,v3n];omega⟩
   ·simp only [qkb,if_pos (qai hx),qaf hx,v40,v1,bne_self_eq_false,v2o,if_false,q1,id,wqn k]
   ·rw [List.append_eq_nil_iff,List.map_eq_nil_iff,i1,v3];constructor
    ·rintro ⟨h1,h2⟩ j hj;by_cases hjk:j=k
     ·subst hjk;exact h2
     ·exact h1 j (by omega)
    ·intro h;exact ⟨fun j hj=>h j (by omega),h k (by omega)⟩)
  (fun b _=>by simp [qkb])
 have hA:qov ⟨[t]⟩ R=some (out,0):=by
  unfold qov;rw [vn7 T H,v40,if_neg (by decide),e];rfl
 refine ⟨((out.length:Int) == 0),?_,?_⟩
 ·unfold qlb;rw [hA,v40,if_pos (by rfl)]
 ·have:(((out.length:Int) == 0)=true)↔out=[]:=by
   rw [beq_iff_eq];constructor
   ·intro h;exact v5z.1 (by omega)
   ·intro h;rw [h];rfl
  rw [this,i1];constructor
  ·rintro h a ha ⟨k,hk,hp⟩;exact h k hk a ha hp
  ·intro h j hj a ha hp;exact h a ha ⟨j,hj,hp⟩
theorem vup {t:Table} (H:DT t) {a:List Row} (ha:Tog t.Rows a):E3 (qnd a):=by
 obtain ⟨h1,h2,h3,h4⟩:=ha;have hp:(qnd a).Perm (a.map Row.ID):=qop _;refine ⟨?_,by rw [qr7];exact h3,?_,fun x hx=>?_⟩
 ·intro e;have:=qr7 a;rw [e] at this;exact h2 (v5z.1 this.symm)
 ·have hs:(qnd a).Pairwise (fun a b=>a≤b):=qyq _;have hn:(qnd a).Nodup:=by
   rw [hp.nodup_iff];exact uaa.2 h4
  exact v8p.imp (fun {a b} h=>by obtain ⟨p,q⟩:=h;omega) (hs.and hn)
 ·obtain ⟨r,hr,rfl⟩:=(qxt a x).1 hx;exact ((H.code).1 r (h1 r hr)).2.2
theorem vuq {l m:List Int} (hl:E3 l) (hm:E3 m) (hs:∀x∈m,x∈l) (hne:m≠l):m.length < l.length:=by
 rcases hl.shape with ⟨a,rfl,a1⟩ | ⟨a,b,rfl,a1,a2⟩ | ⟨x,y,z,rfl,a1,a2,a3⟩
 ·exact absurd (sub1 hm hs) hne
 ·rcases sub2 hm a2 hs with rfl | rfl | rfl
  ·simp
  ·simp
  ·exact absurd rfl hne
 ·rcases sub3 hm a2 a3 hs with rfl | rfl | rfl | rfl | rfl | rfl | rfl <;> first | exact absurd rfl hne | simp
theorem vcj {all E:List (List Int)} (hE3:∀e∈all,E3 e) (hE:∀e,e∈E↔e∈all∧¬vt5 all e):∀(n:Nat) (v:List Int),v.length≤n→v∈all→∃e∈E,∀x∈e,x∈v
 | 0,v,hn,hv=>absurd (v5z.1 (by omega)) (hE3 v hv).1
 | n+1,v,hn,hv=>by
  by_cases hs:vt5 all v
  ·obtain ⟨m,m1,m2,m3⟩:=hs;have:=vuq (hE3 v hv) (hE3 m m1) m2 m3;obtain ⟨e,e1,e2⟩:=vcj hE3 hE n m (by omega) m1;exact ⟨e,e1,fun x hx=>m2 x (e2 x hx)⟩
  ·exact ⟨v,(hE v).2 ⟨hv,hs⟩,fun x hx=>hx⟩
theorem vn9 {n:Nat} {t:Table} (T:TT n t) {R:List Constraint} {ps:Nat→List Row→Prop} (H:RL n R ps) :
  ∃E,qi5 t R=some (⟨t.Rows.map Row.ID,E⟩,0)∧HV (t.Rows.map Row.ID) E∧(∀e∈E,e.length≤3)∧∀l,(∀x∈l,x∈t.Rows.map Row.ID)→(vn2 (t.Rows.map Row.ID) E l=true↔∀a,Tog (qw6 t l).Rows a→¬PP R ps a):=by
 have few:=T.dt.few;have h4:=H.few;have e1:qaj (qe2 t R) 0=some (.inl ()):=by
  obtain ⟨_,e,_⟩:=qdc (β:=Unit) R.length (fun _ i=>i) (qe2 t R) (fun _=>(Sum.inl ():Unit ⊕ (Hypergraph×Int))) (fun _ _=>True) (b0:=()) (s0:=0) rfl trivial
   (fun k _ hk _=>by
    have hx:R[k]?=some R[k]:=v3d hk;obtain ⟨_,_,hu⟩:=H.at_ k _ hx;obtain ⟨⟨ds,L,f1,_⟩,_⟩:=hu t T;refine ⟨(),?_,trivial⟩;simp only [qe2,if_pos (qai hx),qaf hx,v40,f1,bne_self_eq_false,v2o,if_false,wqn k])
   (fun _ _=>by simp [qe2])
  exact e
 obtain ⟨all,e2,a1,a2⟩:=qdc (β:=List (List Int)) R.length (fun b i=>(b,i)) (qgp t R) (fun b=>(Sum.inl b:(List (List Int)) ⊕ (Hypergraph×Int))) (fun k b=>vjw t.Rows b (fun a=>∃j,j < k∧ps j a)∧b.length≤k * 2000) (b0:=[]) (s0:=([],0)) rfl ⟨fun e=>by simp,by simp⟩
  (fun k b hk hI=>by
   obtain ⟨i1,i2⟩:=hI;have hx:R[k]?=some R[k]:=v3d hk;obtain ⟨_,_,hu⟩:=H.at_ k _ hx;obtain ⟨⟨ds,L,f1,f2,f3,f4⟩,_⟩:=hu t T;refine ⟨b++L,?_,fun e=>?_,by rw [v3l,Nat.succ_mul];omega⟩
   ·simp only [qgp,if_pos (qai hx),qaf hx,v40,f2,bne_self_eq_false,v2o,if_false,qbq (show b.length+L.length≤1073741824 by omega) (show 24≤65536 by omega),if_true,wqn k]
   ·rw [v3v,i1 e,f4 e];constructor
    ·rintro (⟨a,a1,⟨j,j1,j2⟩,a3⟩ | ⟨a,a1,a2,a3⟩)
     ·exact ⟨a,a1,⟨j,by omega,j2⟩,a3⟩
     ·exact ⟨a,a1,⟨k,by omega,a2⟩,a3⟩
    ·rintro ⟨a,a1,⟨j,j1,j2⟩,a3⟩;by_cases hjk:j=k
     ·subst hjk;exact .inr ⟨a,a1,j2,a3⟩
     ·exact .inl ⟨a,a1,⟨j,by omega,j2⟩,a3⟩)
  (fun b _=>by simp [qgp])
 have hE3:∀e∈all,E3 e:=fun e he=>by
  obtain ⟨a,ha,_,rfl⟩:=(a1 e).1 he;exact vup T.dt ha
 obtain ⟨E,e3,b1,b2,b3⟩:=ve9 all (by omega) hE3;obtain ⟨V,e4,v1⟩:=qdc (β:=List Int) t.Rows.length (fun b i=>(b,i)) (qgq t) id (fun k b=>b=(t.Rows.take k).map Row.ID) (b0:=[]) (s0:=([],0)) rfl (by simp)
  (fun k b hk hI=>by
   subst hI;have hx:t.Rows[k]?=some t.Rows[k]:=v3d hk;refine ⟨(t.Rows.take k).map Row.ID++[t.Rows[k].ID],?_,?_⟩
   ·simp only [qgq,if_pos (qai hx),qaf hx,v40,qw2 (show ((t.Rows.take k).map Row.ID).length+1≤17592186044416 by rw [v3n,v3r];omega),if_true,wqn k]
   ·have e:t.Rows.take (k+1)=t.Rows.take k++[t.Rows[k]]:=by rw [uac,hx];rfl
    rw [e,v3s];rfl)
  (fun b _=>by simp [qgq])
 rw [v9n] at v1;subst v1;have hVasc:(t.Rows.map Row.ID).Pairwise (· < ·):=uaa.2 (T.dt.code).2;have hEall:∀e∈E,e∈all:=fun e he=>((b3 e).1 he).1
 have hsub:∀e∈all,∀x∈e,x∈t.Rows.map Row.ID:=fun e he x hx=>by
  obtain ⟨a,ha,_,rfl⟩:=(a1 e).1 he;obtain ⟨r,hr,rfl⟩:=(qxt a x).1 hx;exact v6h.2 ⟨r,ha.1 r hr,rfl⟩
 refine ⟨E,?_,⟨⟨hVasc,by rw [v3n];omega,by omega,fun e he=>(hE3 e (hEall e he)).2.2.1,fun e he=>(hE3 e (hEall e he)).1,fun e he=>hsub e (hEall e he)⟩,b1,?_⟩,fun e he=>(hE3 e (hEall e he)).2.1,fun l hl=>?_⟩
 ·unfold qi5;rw [qe8 t T.dt.ok,v40,T.dt.err];simp only [bne_self_eq_false,v2o,if_false,if_neg (show ¬(t.Rows.length:Int) > 200 by omega),e1,e2,e3,e4,v40,id,if_neg (show ¬(E.length:Int) > 20000 by omega)]
 ·intro i k a b hi hk hik;have hnd:=q2h b1;have hab:b≠a:=fun h=>by
   subst h;obtain ⟨hil,hie⟩:=v3f.1 hi;obtain ⟨hkl,hke⟩:=v3f.1 hk;exact hik ((List.getElem_inj hnd).1 (hie.trans hke.symm))
  obtain ⟨_,na⟩:=(b3 a).1 (v3x hi);by_cases h:∃x,x∈b∧x ∉ a
  ·exact h
  ·exfalso;refine na ⟨b,hEall b (v3x hk),fun x hx=>?_,hab⟩;by_cases hx':x∈a
   ·exact hx'
   ·exact absurd ⟨x,hx,hx'⟩ h
 ·have hind:vn2 (t.Rows.map Row.ID) E l=true↔∀e∈E,¬∀x∈e,x∈l:=by
   unfold vn2;rw [v2m,v5m];constructor
   ·rintro ⟨_,h⟩ e he hall;rw [v2q,v8s] at h;exact h e he (by rw [v5m];exact fun x hx=>decide_eq_true (hall x hx))
   ·intro h;refine ⟨fun x hx=>decide_eq_true (hl x hx),?_⟩;rw [v2q,v8s];intro e he hall;rw [v5m] at hall;exact h e he fun x hx=>of_decide_eq_true (hall x hx)
  rw [hind];constructor
  ·rintro h a ⟨g1,g2,g3,g4⟩ hp;have hT:Tog t.Rows a:=⟨fun r hr=>(qz4.1 (g1 r hr)).1,g2,g3,g4⟩;have hv:=(a1 (qnd a)).2 ⟨a,hT,hp,rfl⟩;obtain ⟨e,he,hes⟩:=vcj hE3 b3 _ _ (v4o _) hv;refine h e he fun x hx=>?_
   obtain ⟨r,hr,rfl⟩:=(qxt a x).1 (hes x hx);exact (qz4.1 (g1 r hr)).2
  ·intro h e he hall;obtain ⟨a,⟨g1,g2,g3,g4⟩,hp,rfl⟩:=(a1 e).1 (hEall e he);exact h a ⟨fun r hr=>qz4.2 ⟨g1 r hr,hall _ ((qxt a _).2 ⟨r,hr,rfl⟩)⟩,g2,g3,g4⟩ hp
theorem vkf {V:List Int} (hV:V.Pairwise (· < ·)) {u:Nat} {x:Int} (hx:V[u]?=some x) (S:Nat):x∈qxv V S↔S.testBit u=true:=by
 rw [vul];constructor
 ·rintro ⟨k,h1,h2⟩;have:k=u:=by
   rcases v6r k u with h | h | h
   ·have:=qz7 hV h h1 hx;omega
   ·exact h
   ·have:=qz7 hV h hx h1;omega
  rw [←this];exact h2
 ·intro h;exact ⟨u,hx,h⟩
theorem vkg {V:List Int} {E:List (List Int)} (H:HG V E) {u:Nat} {x:Int} (hx:V[u]?=some x) {e:List Int} (he:e∈E):(mkE V e).testBit u=true↔x∈e:=by
 rw [q94 H.asc (H.esub e he)];constructor
 ·rintro ⟨y,h1,h2⟩;rw [hx] at h2;cases h2;exact h1
 ·intro h;exact ⟨x,h,hx⟩
theorem vck {V:List Int} {E:List (List Int)} (H:HG V E) {e:List Int} (he:e∈E) (S:Nat):vwp (mkE V e) S↔∀x∈e,x∈qxv V S:=by
 constructor
 ·intro h x hx;have hg:=(qr9 (H.esub e he x hx)).2;exact (vkf H.asc hg S).2 (h _ ((vkg H hg he).2 hx))
 ·intro h i hi;obtain ⟨x,h1,h2⟩:=(q94 H.asc (H.esub e he) i).1 hi;exact (vkf H.asc h2 S).1 (h x h1)
theorem q4h (V:List Int) (E:List (List Int)) (l:List Int) (hV:V.Pairwise (· < ·)) (ha:l.Pairwise (· < ·)) (hVl:V.length≤1000) (hl:l.length≤1000) (hE:E.length≤1000000) (hEl:∀e∈E,e.length≤1000) :
  qev ⟨V,E⟩ l=some (vn2 V E l):=by
 have hC:=qw7 E (fun y=>qc0 y l) (fun e=>e.all fun x=>decide (x∈l)) (fun e he=>by
  simp only [qc0,qr8 l e ha hl (hEl e he),v40]) hE
 unfold qev vn2;rw [qtk l ha hl,v40,if_pos rfl,qr8 V l hV hVl hl,v40];cases h:l.all fun x=>decide (x∈V) with
 | false=>simp
 | true=>simp only [if_true,hC,v40,v8b]
theorem voa {m:Nat} (h:m≤6):v67.wrap (1 * 2 ^ (min m 64))=((2 ^ m:Nat):Int):=by
 have:∀k:Fin 7,v67.wrap (1 * 2 ^ (min k.val 64))=((2 ^ k.val:Nat):Int):=by decide
 exact this ⟨m,by omega⟩
theorem or46 {a b:Nat} (ha:a < 64) (hb:b < 64):v67.wrap ((BitVec.ofInt 64 (a:Int) ||| (BitVec.ofInt 64 (b:Int))).toNat:Int)=((a ||| b:Nat):Int):=by
 have:a ||| b < 2 ^ 6:=uai (by omega) (by omega);have h64:(2:Nat) ^ 6=64:=by decide
 rw [BitVec.toNat_or,qjb (by omega),qjb (by omega),qbx (by omega) (by omega)]
theorem vob {m:Nat} (h:m≤6):2 ^ m≤64:=by
 have:2 ^ m≤2 ^ 6:=v9v (by omega) h;have h64:(2:Nat) ^ 6=64:=by decide
 omega
def gM (V:List Int) (E:List (List Int)) (k:Nat):Bool:=vn2 V E (qxv V k)
def mxM (V:List Int) (E:List (List Int)) (k:Nat):Bool:=gM V E k && (v34 V.length).all fun i=>k.testBit i || !gM V E (k ||| 2 ^ i)
theorem q98 {V:List Int} {E:List (List Int)} (H:HG V E) (k:Nat):gM V E k=true↔qv9 (msE V E) k:=by
 unfold gM vn2;rw [v2m,v5m];constructor
 ·rintro ⟨_,h⟩ e he hs;obtain ⟨e',he',rfl⟩:=q95.1 he;rw [v2q,v8s] at h;exact h e' he' (by rw [v5m];exact fun x hx=>decide_eq_true ((vck H he' k).1 hs x hx))
 ·intro h;refine ⟨fun x hx=>decide_eq_true ((q97 V k).subset hx),?_⟩;rw [v2q,v8s];intro e he hall;rw [v5m] at hall;exact h _ (q95.2 ⟨e,he,rfl⟩) ((vck H he k).2 fun x hx=>of_decide_eq_true (hall x hx))
theorem q7r {es:List Nat} {u S:Nat} (hf:qv9 es S) (hu:S.testBit u=false):vpr es u S↔¬qv9 es (S ||| 2 ^ u):=by
 have hor:∀i,(S ||| 2 ^ u).testBit i=(S.testBit i || decide (u=i)):=fun i=>by rw [uak,v92]
 constructor
 ·rintro ⟨e,e1,e2,e3⟩ h;refine h e e1 fun i hi=>?_
  rw [hor];by_cases hiu:u=i
  ·simp [hiu]
  ·rw [e3 i hi fun h=>hiu h.symm];rfl
 ·intro h;apply Classical.byContradiction;intro hb;refine h fun e he hs=>?_
  by_cases heu:e.testBit u=true
  ·refine hb ⟨e,he,heu,fun i hi hiu=>?_⟩;have:=hs i hi;rw [hor,decide_eq_false (fun h=>hiu h.symm),v97] at this;exact this
  ·refine hf e he fun i hi=>?_
   have:=hs i hi;rw [hor] at this;by_cases hiu:u=i
   ·subst hiu;exact absurd hi heu
   ·rw [decide_eq_false hiu,v97] at this;exact this
theorem vur {V:List Int} {E:List (List Int)} (H:HG V E) (k:Nat):mxM V E k=true↔v1z V.length (msE V E) k:=by
 unfold mxM;rw [v2m,q98 H,v5m];constructor
 ·rintro ⟨h1,h2⟩;refine ⟨h1,fun u hu hb=>(q7r h1 hb).2 fun hf=>?_⟩;have:=h2 u (v6j.2 hu);rw [hb,v95,(q98 H _).2 hf] at this;cases this
 ·rintro ⟨h1,h2⟩;refine ⟨h1,fun u hu=>?_⟩;cases hb:k.testBit u with
  | true=>rfl
  | false =>
   have:=(q7r h1 hb).1 (h2 u (v6j.1 hu) hb);rw [v95];cases hg:gM V E (k ||| 2 ^ u) with
   | false=>rfl
   | true=>exact absurd ((q98 H _).1 hg) this
theorem voc (a b:List Nat) (ha:a.Nodup) (hb:b.Nodup) (h:∀x,x∈a↔x∈b):a.length=b.length:=by
 have nd:∀{l:List Nat},l.Nodup→(l.map fun (n:Nat)=>(n:Int)).Nodup:=fun h=>uaa.2 (v8p.imp (fun h=>by omega) h)
 have h1:=qu7 _ _ (nd ha) (fun x hx=>by
  obtain ⟨n,hn,rfl⟩:=v6h.1 hx;exact v6h.2 ⟨n,(h n).1 hn,rfl⟩:∀x∈a.map (fun (n:Nat)=>(n:Int)),x∈b.map fun (n:Nat)=>(n:Int))
 have h2:=qu7 _ _ (nd hb) (fun x hx=>by
  obtain ⟨n,hn,rfl⟩:=v6h.1 hx;exact v6h.2 ⟨n,(h n).2 hn,rfl⟩:∀x∈b.map (fun (n:Nat)=>(n:Int)),x∈a.map fun (n:Nat)=>(n:Int))
 rw [v3n,v3n] at h1 h2;omega
def q7s (V:List Int) (E:List (List Int)):List Nat:=(v34 (2 ^ V.length)).filter (mxM V E)
theorem vcl {V:List Int} {E:List (List Int)} (H:HG V E) (k:Nat):k∈q7s V E↔k∈vfo V E:=by
 unfold q7s vfo;rw [v6g,v6j,vj5,vur H]
theorem vod {V:List Int} {E:List (List Int)} (H:HG V E):(vfo V E).length=(q7s V E).length :=
 voc _ _ (vn1 _ _) (List.Nodup.sublist v99 List.nodup_range) fun x=>(vcl H x).symm
theorem vus {t:Table} {E:List (List Int)} {V:List Int} (hV:V=t.Rows.map Row.ID) (h6:t.Rows.length≤6) {clean:List Bool} (hc:∀k,k < 2 ^ t.Rows.length→clean[k]?=some (gM V E k)) {k:Nat} (hk:k < 2 ^ t.Rows.length) :
  qaj (qc2 (t,true) clean (k:Int)) (gM V E k,0)=some (mxM V E k):=by
 have hp:=vob h6;have hVl:V.length=t.Rows.length:=by rw [hV,v3n]
 obtain ⟨b,e,i1⟩:=qdc (β:=Bool) t.Rows.length (fun b i=>(b,i)) (qc2 (t,true) clean (k:Int)) id (fun j b=>b=(gM V E k && (v34 j).all fun i=>k.testBit i || !gM V E (k ||| 2 ^ i))) (b0:=gM V E k) (s0:=(gM V E k,0)) rfl (by simp)
  (fun j b hj hI=>by
   have hor:k ||| 2 ^ j < 2 ^ t.Rows.length:=uai hk (uaj (by omega) hj);have hpj:2 ^ j < 64:=by
    have:2 ^ j < 2 ^ t.Rows.length:=uaj (by omega) hj;omega
   have hw:v67.wrap ((j:Int)+1)=((j+1:Nat):Int):=qcd (by omega);have hnext:(gM V E k && (v34 (j+1)).all fun i=>k.testBit i || !gM V E (k ||| 2 ^ i))=(b && (k.testBit j || !gM V E (k ||| 2 ^ j))):=by
    rw [uab,List.all_append,←Bool.and_assoc,←hI];simp
   simp only [qc2,if_pos (show (j:Int) < (t.Rows.length:Int) by omega),if_neg (show ¬(j:Int) < 0 by omega),v8h,vce (show k < 64 by omega) (show j≤64 by omega),voa (show j≤6 by omega),or46 (show k < 64 by omega) hpj,qaf (hc _ hor),v40,hw];rw [hnext];cases b with
   | false=>exact ⟨false,rfl,by simp⟩
   | true =>
    cases hb:k.testBit j with
    | true=>exact ⟨true,rfl,by simp⟩
    | false=>exact ⟨_,rfl,by simp⟩)
  (fun b _=>by simp [qc2])
 rw [e,i1,id];unfold mxM;rw [hVl]
theorem vut {t:Table} {E:List (List Int)} {V:List Int} (hV:V=t.Rows.map Row.ID) (h6:t.Rows.length≤6) {clean:List Bool} (hcl:clean.length=2 ^ t.Rows.length) (hc:∀k,k < 2 ^ t.Rows.length→clean[k]?=some (gM V E k)) :
  qaj (qc3 (t,true) clean) ([],0)=some ((q7s V E).map (qxv V)):=by
 have hp:=vob h6;have hVl:V.length=t.Rows.length:=by rw [hV,v3n]
 obtain ⟨b,e,i1,i2⟩:=qdc (β:=List (List Int)) clean.length (fun b i=>(b,i)) (qc3 (t,true) clean) id (fun k b=>b=((v34 k).filter (mxM V E)).map (qxv V)∧b.length≤k) (b0:=[]) (s0:=([],0)) rfl ⟨by simp,by simp⟩
  (fun k b hk hI=>by
   obtain ⟨i1,i2⟩:=hI;have hk':k < 2 ^ t.Rows.length:=by omega
   have hrow:qdq t (k:Int)=some (qxv V k):=by rw [q7o t h6 k (by omega),hV];rfl
   have hw:v67.wrap ((k:Int)+1)=((k+1:Nat):Int):=qcd (by omega);have hnext:((v34 (k+1)).filter (mxM V E)).map (qxv V)=b++(if mxM V E k=true then [qxv V k] else []):=by
    rw [uab,v8t,v3s,←i1,v8v,v8y];split <;> simp
   simp only [qc3,if_pos (show (k:Int) < ((clean.length:Nat):Int) by omega),qaf (hc k hk'),v40,vus hV h6 hc hk',hrow,qbq (show b.length+1≤1073741824 by omega) (show 24≤65536 by omega),if_true,hw];cases hm:mxM V E k with
   | true=>exact ⟨_,rfl,by rw [hnext,hm];rfl,by simp;omega⟩
   | false=>exact ⟨b,rfl,by rw [hnext,hm];simp,by omega⟩)
  (fun b _=>by simp [qc3])
 rw [e,id,i1];unfold q7s;rw [hcl,hVl]
theorem voe (L:List (List Int)) (x:List Int) (hL:L.length≤1000) (hx:x.length≤1000) (hm:x∈L):qaj (qc4 (L,0) x) (false,0)=some true:=by
 obtain ⟨b,e,i1⟩:=qdc (β:=Bool) L.length (fun b i=>(b,i)) (qc4 (L,0) x) id (fun j b=>b=decide (x∈L.take j)) (b0:=false) (s0:=(false,0)) rfl (by simp)
  (fun j b hj hI=>by
   have hg:L[j]?=some L[j]:=v3d hj;have hw:v67.wrap ((j:Int)+1)=((j+1:Nat):Int):=qcd (by omega);simp only [qc4,if_pos (qai hg),qaf hg,v40,v1c x L[j] (by omega),hw];rw [v9p hj];subst hI;by_cases h:x∈L.take j
   ·exact ⟨true,by rw [if_pos (decide_eq_true h)],(decide_eq_true (v3v.2 (.inl h))).symm⟩
   ·refine ⟨decide (x=L[j]),by rw [if_neg (by simpa using h)],?_⟩;simp only [v3v,v6k,h,false_or])
  (fun b _=>by simp [qc4])
 rw [e,id,i1,v9n,decide_eq_true hm]
theorem v12 (W L:List (List Int)) (hW:W.length≤1000) (hL:L.length≤1000) (h:∀x∈W,x.length≤1000∧x∈L):qaj (qc5 W (L,0)) 0=some (.inl ()):=by
 obtain ⟨_,e,_⟩:=qdc (β:=Unit) W.length (fun _ i=>i) (qc5 W (L,0)) (fun _=>(Sum.inl ():Unit ⊕ Bool)) (fun _ _=>True) (b0:=()) (s0:=0) rfl trivial
  (fun k _ hk _=>by
   have hg:W[k]?=some W[k]:=v3d hk;obtain ⟨h1,h2⟩:=h _ (v88 hk);have hw:v67.wrap ((k:Int)+1)=((k+1:Nat):Int):=qcd (by omega);refine ⟨(),?_,trivial⟩;simp only [qc5,if_pos (show (k:Int) < ((W.length:Nat):Int) by omega),qaf hg,v40,voe L _ hL h1 h2,if_true,hw])
  (fun _ _=>by simp [qc5])
 exact e
theorem vof {n:Nat} {t:Table} (T:TT n t) (h6:t.Rows.length≤6) {R:List Constraint} {ps:Nat→List Row→Prop} (H:RL n R ps) {E:List (List Int)} (hH:HV (t.Rows.map Row.ID) E) (hE3:∀e∈E,e.length≤3)
  (hind:∀l,(∀x∈l,x∈t.Rows.map Row.ID)→(vn2 (t.Rows.map Row.ID) E l=true↔∀a,Tog (qw6 t l).Rows a→¬PP R ps a)) :
  ∃clean,qaj (qc1 (t,true) R (⟨t.Rows.map Row.ID,E⟩,0)) (v4a (2 ^ t.Rows.length) false,0)=some (.inl clean)∧clean.length=2 ^ t.Rows.length∧∀k,k < 2 ^ t.Rows.length→clean[k]?=some (gM (t.Rows.map Row.ID) E k):=by
 have hp:=vob h6;generalize hV:t.Rows.map Row.ID=V at *;have hVl:V.length=t.Rows.length:=by rw [←hV,v3n]
 have hEl:=hH.elen;obtain ⟨clean,e,i1,i2⟩:=qdc (β:=List Bool) (2 ^ t.Rows.length) (fun b i=>(b,i)) (qc1 (t,true) R (⟨V,E⟩,0)) (fun b=>(Sum.inl b:List Bool ⊕ Bool)) (fun k b=>b.length=2 ^ t.Rows.length∧∀j,j < k→b[j]?=some (gM V E j)) (b0:=v4a (2 ^ t.Rows.length) false) (s0:=(v4a (2 ^ t.Rows.length) false,0)) rfl ⟨by simp,fun j hj=>by omega⟩
  (fun k b hk hI=>by
   obtain ⟨i1,i2⟩:=hI;have hrow:qdq t (k:Int)=some (qxv V k):=by rw [q7o t h6 k (by omega),hV];rfl
   have hsub:=q97 V k;have hsl:=hsub.length_le;have hasc:=v8p.sublist hsub hH.asc;have hK:=v1w T.dt (qxv V k) (by omega);obtain ⟨c,c1,c2⟩:=vn8 (T.keep (qxv V k)) H;have hI:=q4h V E (qxv V k) hH.asc hasc (by omega) (by omega) (by omega) (fun e he=>by have:=hE3 e he;omega);have hcg:c=vn2 V E (qxv V k):=by
    rw [v73,c2,hind (qxv V k) fun x hx=>hsub.subset hx]
   subst hcg;have hx:b[k]?=some b[k]:=v3d (by omega);have hw:v67.wrap ((k:Int)+1)=((k+1:Nat):Int):=qcd (by omega);refine ⟨b.set k (gM V E k),?_,by rw [v3q];exact i1,fun j hj=>?_⟩
   ·simp only [qc1,voa h6,v8h,if_pos (show (k:Int) < ((2 ^ t.Rows.length:Nat):Int) by omega),hrow,hK,qiq,c1,hI,v40,bne_self_eq_false,v2o,if_false,beq_self_eq_true,if_true,qaf hx,hw];rfl
   ·by_cases hjk:j=k
    ·subst hjk;rw [v5x (by omega)]
    ·rw [v5w (by omega)];exact i2 j (by omega))
  (fun b _=>by
   simp only [qc1,voa h6,v8h];rw [if_neg (by omega)])
 exact ⟨clean,e,i1,i2⟩
theorem qw9 (x:Drossref03_Recipe) (rules:List Drossref37_Rule) (h0:qha x) (h1:okL qe7 rules):qg9 x rules=some true:=by
 unfold qg9;rcases vnu x h0 with hT | ⟨t,hT,hok,hgood,h6,h5,hname⟩
 ·obtain ⟨l,b,hL,_⟩:=vke (n:=0) (by omega) rules h1;rw [hT,v40];simp only [v3o];rw [hL];rfl
 ·obtain ⟨l,b,hL,hl⟩:=vke h5 rules h1;rw [hT,v40];simp only [];rw [hL];cases b with
  | false=>rfl
  | true =>
   obtain ⟨l4,lu⟩:=hl rfl;obtain ⟨R,r1,r2,r3⟩:=vn5 l l4;obtain ⟨ps,H⟩:=rl_of l4 lu r2 r3;have T:TT t.Attrs.length t:=⟨dt_of hok hgood (by omega),hgood,hgood.gt hok,hname,rfl⟩;obtain ⟨E,b1,hH,hE3,hind⟩:=vn9 T H;obtain ⟨clean,q1,q2,q3⟩:=vof T h6 H hH hE3 hind;have hp:=vob h6;have hVl:(t.Rows.map Row.ID).length=t.Rows.length:=by rw [v3n]
   have hw:=vut (E:=E) (t:=t) rfl h6 q2 q3;have hwl:(q7s (t.Rows.map Row.ID) E).length≤64:=by
    unfold q7s;have:=v51 (mxM (t.Rows.map Row.ID) E) (v34 (2 ^ (t.Rows.map Row.ID).length));rw [v54,hVl] at this;rw [hVl];omega
   have hlen:=vod hH.toHG;have hA:=vun hH (by omega);have h9:=v12 ((q7s (t.Rows.map Row.ID) E).map (qxv (t.Rows.map Row.ID))) ((vfo (t.Rows.map Row.ID) E).map (qxv (t.Rows.map Row.ID))) (by rw [v3n];omega) (by rw [v3n];omega) (fun y hy=>by
    obtain ⟨k,hk,rfl⟩:=v6h.1 hy;refine ⟨by have:=(q97 (t.Rows.map Row.ID) k).length_le;omega,v6h.2 ⟨k,(vcl hH.toHG k).1 hk,rfl⟩⟩)
   simp only [v40,qjd,if_true,v96,v2o,if_false,r1,b1,bne_self_eq_false,if_neg (show ¬(t.Rows.length:Int) < 0 by omega),voa h6,if_pos (show (0:Int)≤((2 ^ t.Rows.length:Nat):Int) by omega),v8h,qbq (show 2 ^ t.Rows.length≤1073741824 by omega) (show 1≤65536 by omega),q1,hw,hA];rw [if_neg (by rw [v3n,v3n,hlen];simp)];rw [h9];rfl
end Go.Proofs.YtkebadaokhljmaaGreatDoor
