/- The Lean functions that the program's functions are lifted to, and the plain laws about them. -/
import Derived.Lib.TrailingZeros
import Derived.Test.YtmlegeeinnkhkaaGreatL1
import Derived.Test.YtmlegeeinnkhkaaGreatA3
set_option linter.unusedVariables false
set_option linter.unusedSimpArgs false
open Bool renaming and_eq_true→vti,eq_false_or_eq_true→vxi,eq_iff_iff→vxj,false_and→vyq,false_eq_true→vtk,not_eq_false'→vyr,not_eq_true→vxk,not_eq_true'→vtm,not_false→vys,true_and→vyt
open Int renaming eq_ofNat_of_zero_le→vv5,lt_irrefl→vyu,natCast_zero→vxn,tmod→vxq,toNat_natCast→vxr,toNat_of_nonneg→vyv
open Go.IntKind renaming i64→vxs,max→vyw,min→vyx,u32→vxt
open Go.Lib renaming compact→vxg,compactUpTo→vyy,keeps→vyz
open List renaming Nodup→vy0,Pairwise→vy1,all_append→vy2,all_eq_true→vv7,append_assoc→vts,append_nil→vtt,drop_drop→vxy,ext_getElem?→vtz,filter_append→vy3,filter_cons→vy4,filter_nil→vy5,flatMap_cons→vwc,flatten_cons→vy6,foldl_cons→vx1,getD→vy7,getD_eq_getElem?_getD→vwd,getElem?_append→vy8,getElem?_append_left→vt2,getElem?_drop→vt4,getElem?_eq_getElem→vt5,getElem?_eq_none→vt6,getElem?_eq_some_iff→vt7,getElem?_inj→vy9,getElem?_map→vt8,getElem?_range→vx2,getElem?_replicate→vua,getElem?_set→vwh,getElem?_take→vub,getElem_mem→vwk,length→vx3,length_append→vud,length_cons→vwl,length_eq_zero_iff→vwm,length_filter_le→vwn,length_map→vuf,length_pos_of_mem→vwo,length_range→vwp,length_range'→vza,length_replicate→vuh,length_set→vui,length_singleton→vwq,length_take→vuj,map_append→vuk,map_congr_left→vws,map_eq_flatMap→vzb,map_flatMap→vzc,map_flatten→vzd,map_map→vze,map_singleton→vx4,mem_append→vun,mem_append_left→vzf,mem_append_right→vzg,mem_cons→vwv,mem_filter→vwy,mem_flatMap→vuo,mem_flatten→vzh,mem_iff_getElem→vzi,mem_map→vwz,mem_of_getElem?→vup,mem_of_mem_take→vur,mem_range→vw1,mem_range'_1→vzj,mem_singleton→vw2,nil_append→vuu,nodup_append→vzk,nodup_cons→vzl,nodup_range→vzm,pairwise_cons→vx6,pairwise_flatMap→vzn,pairwise_flatten→vzo,pairwise_iff_getElem→vzp,pairwise_lt_range→vx8,pairwise_lt_range'→vzq,pairwise_map→vzr,range→vuv,range'→vw4,range'_succ→vzs,range_eq_range'→vuw,range_succ→vya,replicate→vux,replicate_zero→vyd,set_append_right→vyf,set_cons_zero→vzt,singleton_append→vyg,take_add_one→vyh,take_append_of_le_length→vzu,take_length→vyi,take_set_of_le→vzv,take_take→vzw,take_zero→vu2
open Nat renaming add_assoc→vu4,add_comm→vzx,le_of_lt_succ→vzy,le_refl→vvb,le_trans→vvd,lt_of_lt_of_le→vve,lt_or_eq_of_le→vzz,lt_trichotomy→vw7,min_eq_left→vw8,mul_le_mul→vz0,mul_le_mul_right→vvi,pow_le_pow_left→vz1,pow_le_pow_right→vz2,pow_lt_pow_right→vz3,sub_self→vxa,sub_zero→vvl,succ_mul→vz4,zero_add→vvm,zero_le→vxc
open Option renaming bind_some→vvn,getD_some→vvp,map_some→vvs,toList_some→vz5
open Option.some renaming injEq→vvt
noncomputable section
namespace Go.Proofs.YtmlegeeinnkhkaaGreat
open Go Go.Ab
def q26 (c:Similar):Bool :=
 if c.Measure=1 then decide (c.Limit=0) else if c.Measure=2∨c.Measure=4 then decide (0≤c.Limit∧c.Limit≤200) else if c.Measure=3 then decide (0≤c.Limit∧c.Limit≤100) else false
theorem qxq (c:Similar):qhy c=some (q26 c):=by
 simp only [qhy,q26,beq_iff_eq];by_cases h1:c.Measure=1
 ·simp [h1];rw [vxj];simp
 by_cases h2:c.Measure=2
 ·simp [h2];split <;> simp [*] <;> omega
 by_cases h4:c.Measure=4
 ·simp [h4];split <;> simp [*] <;> omega
 by_cases h3:c.Measure=3
 ·simp [h3];split <;> simp [*] <;> omega
 simp [h1,h2,h3,h4]
theorem ve3 (c:Similar):qjm c=some (q26 c):=qxq c
def vAt (x:Row) (c:Similar):Value:=x.Values.getD c.Attr.toNat ⟨0,0,[]⟩
def qhr (x y:Row) (c:Similar):Int :=
 if c.Attr < 0 then 6 else if c.Attr≥(x.Values.length:Int) then 6 else if c.Attr≥(y.Values.length:Int) then 6 else if qie (vAt x c) && (qie (vAt y c) && q26 c) then 0 else 1
def vit (a b:Str):Ratio:=qoc (2 * qp5 ltS (qbd a 2) (qbd b 2)) ((qbd a 2).length+(qbd b 2).length)
def vne (a b:Str) (lim:Int):Bool:=decide (vxs.wrap (100 * (vit a b).Num)≥vxs.wrap (lim * (vit a b).Den))
def qq7 (s:Str) (n:Int):Nat:=min s.length n.toNat
def qmh (v w:Value) (c:Similar):Bool :=
 if v.Kind≠2∨w.Kind≠2∨c.Measure=1 then decide (v=w)
 else if c.Measure=2 then decide (((sed v.Str w.Str:Nat):Int)≤c.Limit)
 else if c.Measure=3 then vne v.Str w.Str c.Limit
 else decide (v.Str.take (qq7 v.Str c.Limit)=w.Str.take (qq7 w.Str c.Limit))
def qz8 (x y:Row) (c:Similar):Bool×Int:=if qhr x y c=0 then (qmh (vAt x c) (vAt y c) c,0) else (false,qhr x y c)
theorem qp7 {x:Row} {c:Similar} (h0:¬c.Attr < 0) (h1:¬c.Attr≥(x.Values.length:Int)):idx x.Values c.Attr=some (vAt x c):=by
 have e:c.Attr=((c.Attr.toNat:Nat):Int):=by omega
 have hlt:c.Attr.toNat < x.Values.length:=by omega
 rw [e,q6x,vAt,vwd,vt5 hlt];rfl
theorem qtt (a:Str):(qbd a 2).length=a.length+1:=by rw [va6];omega
theorem qz9 (a b:Str):qp5 ltS (qbd a 2) (qbd b 2)≤a.length+1:=by
 have:=vm8 ltS _ (qbd a 2) (qbd b 2) (vvb _)
 rwa [qtt] at this
theorem viu (a b:Str) (ha:a.length≤200) (hb:b.length≤200):qg3 a b 2=some (vit a b,0):=by
 have g1:=q8y a 2 ha (by omega) (by omega);have g2:=q8y b 2 hb (by omega) (by omega);have l1:=qtt a;have l2:=qtt b;have hc:=qz9 a b;have hs:=vex _ (qbd a 2) (qbd b 2) 0 rfl (by omega);simp only [vvm,vxn] at hs;have w1:vxs.wrap (((qbd a 2).length:Int)+((qbd b 2).length:Int))=(((qbd a 2).length+(qbd b 2).length:Nat):Int):=by rw [qav (by omega) (by omega)];omega
 have w2:vxs.wrap (2 * ((qp5 ltS (qbd a 2) (qbd b 2):Nat):Int))=((2 * qp5 ltS (qbd a 2) (qbd b 2):Nat):Int):=by rw [qav (by omega) (by omega)];omega
 have z:((((qbd a 2).length+(qbd b 2).length:Nat):Int) == 0)=false:=by
  rw [beq_eq_false_iff_ne];omega
 have g1':qdk a 2=some (qbd a 2,0):=g1;have g2':qdk b 2=some (qbd b 2,0):=g2;have hsh:qg2 (qbd a 2) (qbd b 2)=some ((qp5 ltS (qbd a 2) (qbd b 2):Nat):Int):=by
  simp only [qg2,hs,vvn]
 have hm:=qnn (2 * qp5 ltS (qbd a 2) (qbd b 2)) ((qbd a 2).length+(qbd b 2).length) (by omega) (by omega) (by omega);simp only [qg3,vey a b ha hb,vvn,vtk,if_false,g1',g2',w1,z,bne_self_eq_false,hsh,w2,hm];rfl
theorem viv (a b:Str) (ha:a.length≤200) (hb:b.length≤200):qhh a b 2=some (vit a b,0):=by
 have g1':qdo a 2=some (qbd a 2,0):=qvi a 2 ha (by omega) (by omega);have g2':qdo b 2=some (qbd b 2,0):=qvi b 2 hb (by omega) (by omega);have l1:=qtt a;have l2:=qtt b;have hc:=qz9 a b;have w1:vxs.wrap (((qbd a 2).length:Int)+((qbd b 2).length:Int))=(((qbd a 2).length+(qbd b 2).length:Nat):Int):=by rw [qav (by omega) (by omega)];omega
 have w2:vxs.wrap (2 * ((qp5 ltS (qbd a 2) (qbd b 2):Nat):Int))=((2 * qp5 ltS (qbd a 2) (qbd b 2):Nat):Int):=by rw [qav (by omega) (by omega)];omega
 have z:((((qbd a 2).length+(qbd b 2).length:Nat):Int) == 0)=false:=by
  rw [beq_eq_false_iff_ne];omega
 have hsh:=ves (qbd a 2) (qbd b 2) (by omega) (by omega);have hm:=quv (2 * qp5 ltS (qbd a 2) (qbd b 2)) ((qbd a 2).length+(qbd b 2).length) (by omega) (by omega) (by omega);have n1:¬((a.length:Int) > 200):=by omega
 have n2:¬((b.length:Int) > 200):=by omega
 simp only [qhh,qed,n1,n2,decide_false,vvn,vtk,if_false,g1',g2',w1,z,bne_self_eq_false,hsh,w2,hm];rfl
theorem qtu {v:Value} (h:qie v=true):v.Str.length≤200:=by
 simp only [qie,decide_eq_true_eq] at h;rcases h with ⟨_,_,h⟩ | ⟨_,h⟩ | ⟨_,_,h⟩ | ⟨_,_,h⟩
 ·rw [h];simp
 ·rw [h];simp
 ·exact h
 ·rw [h];simp
theorem q0a {v:Value} (h:qie v=true) (k:v.Kind=2):v.Num=0:=by
 simp only [qie,decide_eq_true_eq] at h;omega
theorem vnf {v w:Value} (hv:qie v=true) (hw:qie w=true) (kv:v.Kind=2) (kw:w.Kind=2):(v.Str == w.Str)=decide (v=w):=by
 have n1:=q0a hv kv;have n2:=q0a hw kw;rw [vxj,beq_iff_eq,decide_eq_true_eq];obtain ⟨a,b,c⟩:=v;obtain ⟨a',b',c'⟩:=w;simp only at *;subst kv kw n1 n2;simp
theorem ve4 {s:Str} {n:Int} (h:0≤n):(if (s.length:Int) < n then (s.length:Int) else n)=((qq7 s n:Nat):Int):=by
 unfold qq7;split <;> omega
theorem ve5 (v w:Value):((v.Kind == w.Kind) && ((v.Num == w.Num) && (v.Str == w.Str)))=decide (v=w):=by
 obtain ⟨a,b,c⟩:=v;obtain ⟨a',b',c'⟩:=w;rw [vxj];simp
theorem q0b {x y:Row} {c:Similar} (h:qhr x y c=0):¬c.Attr < 0∧¬c.Attr≥(x.Values.length:Int)∧¬c.Attr≥(y.Values.length:Int)∧qie (vAt x c)=true∧qie (vAt y c)=true∧q26 c=true:=by
 unfold qhr at h;split at h
 ·simp at h
 ·split at h
  ·simp at h
  ·split at h
   ·simp at h
   ·split at h
    ·rename_i h1 h2 h3 h4;simp only [vti] at h4;exact ⟨h1,h2,h3,h4.1,h4.2.1,h4.2.2⟩
    ·simp at h
theorem q45 {c:Similar} (h:q26 c=true):c.Measure=1∨((c.Measure=2∨c.Measure=3∨c.Measure=4)∧0≤c.Limit∧c.Limit≤200):=by
 unfold q26 at h;split at h
 ·exact .inl ‹_›
 ·split at h
  ·have:=of_decide_eq_true h;right;omega
  ·split at h
   ·have:=of_decide_eq_true h;right;omega
   ·simp at h
theorem ve6 (x y:Row) (c:Similar):qb3 x y c=some (qz8 x y c):=by
 by_cases hc:qhr x y c=0
 ·obtain ⟨h0,h1,h2,hv,hw,hl⟩:=q0b hc;have sv:=qtu hv;have sw:=qtu hw;rw [qz8,if_pos hc];simp only [qb3,if_neg h0,if_neg h1,if_neg h2,qp7 h0 h1,qp7 h0 h2,vvn,qnl,hv,hw,if_true,qxq,hl,ve5];by_cases k1:(vAt x c).Kind=2
  ·by_cases k2:(vAt y c).Kind=2
   ·have b1:((vAt x c).Kind != 2)=false:=by rw [k1];rfl
    have b2:((vAt y c).Kind != 2)=false:=by rw [k2];rfl
    simp only [b1,b2,vtk,if_false,vvn,beq_iff_eq];rcases q45 hl with hm | ⟨hm,hl0,hl2⟩
    ·have m2:¬c.Measure=2:=by omega
     have m3:¬c.Measure=3:=by omega
     have m4:¬c.Measure=4:=by omega
     simp only [if_neg m2,if_neg m3,if_neg m4,vnf hv hw k1 k2];unfold qmh;rw [if_pos (.inr (.inr hm))]
    ·have m1:¬c.Measure=1:=by omega
     have hneg:¬((vAt x c).Kind≠2∨(vAt y c).Kind≠2∨c.Measure=1):=by simp [k1,k2,m1]
     unfold qmh;rw [if_neg hneg];by_cases m2:c.Measure=2
     ·simp only [if_pos m2,qiw,q43 _ _ sv sw,vvn,beq_self_eq_true,if_true]
     ·by_cases m3:c.Measure=3
      ·simp only [if_neg m2,if_pos m3,viu _ _ sv sw,vvn,beq_self_eq_true,if_true,vne]
      ·have m4:c.Measure=4:=by omega
       simp only [if_neg m2,if_neg m3,if_pos m4,ve4 hl0,vxr];have q1:(0:Int)≤((qq7 (vAt x c).Str c.Limit:Nat):Int):=by omega
       have q2:((qq7 (vAt x c).Str c.Limit:Nat):Int)≤((vAt x c).Str.length:Int):=by unfold qq7;omega
       have q3:(0:Int)≤((qq7 (vAt y c).Str c.Limit:Nat):Int):=by omega
       have q4:((qq7 (vAt y c).Str c.Limit:Nat):Int)≤((vAt y c).Str.length:Int):=by unfold qq7;omega
       rw [if_pos q1,if_pos q2,if_pos q3,if_pos q4];congr 2;rw [vxj];simp
   ·have b1:((vAt x c).Kind != 2)=false:=by rw [k1];rfl
    have b2:((vAt y c).Kind != 2)=true:=by simp [k2]
    simp only [b1,b2,vtk,if_false,vvn,if_true];unfold qmh;rw [if_pos (.inr (.inl k2))]
  ·have b1:((vAt x c).Kind != 2)=true:=by simp [k1]
   simp only [b1,if_true,vvn];unfold qmh;rw [if_pos (.inl k1)]
 ·rw [qz8,if_neg hc];unfold qhr at hc ⊢;by_cases h0:c.Attr < 0
  ·simp only [qb3,if_pos h0]
  by_cases h1:c.Attr≥(x.Values.length:Int)
  ·simp only [qb3,if_neg h0,if_pos h1]
  by_cases h2:c.Attr≥(y.Values.length:Int)
  ·simp only [qb3,if_neg h0,if_neg h1,if_pos h2]
  simp only [if_neg h0,if_neg h1,if_neg h2] at hc ⊢;simp only [qb3,if_neg h0,if_neg h1,if_neg h2,qp7 h0 h1,qp7 h0 h2,vvn,qnl,qxq];rcases vxi (qie (vAt x c)) with a | a <;> rcases vxi (qie (vAt y c)) with b | b <;> rcases vxi (q26 c) with d | d <;> simp [a,b,d] at hc ⊢
theorem ve7 (x y:Row) (c:Similar):qdm x y c=some (qhr x y c):=by
 unfold qhr;by_cases h0:c.Attr < 0
 ·simp only [qdm,if_pos h0]
 by_cases h1:c.Attr≥(x.Values.length:Int)
 ·simp only [qdm,if_neg h0,if_pos h1]
 by_cases h2:c.Attr≥(y.Values.length:Int)
 ·simp only [qdm,if_neg h0,if_neg h1,if_pos h2]
 simp only [qdm,if_neg h0,if_neg h1,if_neg h2,qp7 h0 h1,qp7 h0 h2,vvn,q4v,ve3];rcases vxi (qie (vAt x c)) with a | a <;> rcases vxi (qie (vAt y c)) with b | b <;> rcases vxi (q26 c) with d | d <;> simp [a,b,d]
theorem vng (x y:Row) (c:Similar):qge x y c=some (qz8 x y c):=by
 by_cases hc:qhr x y c=0
 ·obtain ⟨h0,h1,h2,hv,hw,hl⟩:=q0b hc;have sv:=qtu hv;have sw:=qtu hw;rw [qz8,if_pos hc];simp only [qge,ve7,hc,vvn,bne_self_eq_false,vtk,if_false,qp7 h0 h1,qp7 h0 h2];have hcmp:qdb (vAt x c) (vAt y c)=some (qz3 (vAt x c) (vAt y c)):=qnm _ _ (by omega);have hdec:(qz3 (vAt x c) (vAt y c) == 0)=decide (vAt x c=vAt y c):=by
   rw [vxj,beq_iff_eq,decide_eq_true_eq,qsf]
  by_cases k1:(vAt x c).Kind=2
  ·have b1:((vAt x c).Kind != 2)=false:=by rw [k1];rfl
   by_cases k2:(vAt y c).Kind=2
   ·have b2:((vAt y c).Kind != 2)=false:=by rw [k2];rfl
    simp only [b1,b2,vtk,if_false,vvn,beq_iff_eq];rcases q45 hl with hm | ⟨hm,hl0,hl2⟩
    ·simp only [if_pos hm,hcmp,vvn,hdec];unfold qmh;rw [if_pos (.inr (.inr hm))]
    ·have m1:¬c.Measure=1:=by omega
     have hneg:¬((vAt x c).Kind≠2∨(vAt y c).Kind≠2∨c.Measure=1):=by simp [k1,k2,m1]
     unfold qmh;rw [if_neg hneg];by_cases m2:c.Measure=2
     ·simp only [if_neg m1,if_pos m2,q44 _ _ sv sw,vvn]
     ·by_cases m3:c.Measure=3
      ·simp only [if_neg m1,if_neg m2,if_pos m3,viv _ _ sv sw,vvn,vne]
      ·have m4:c.Measure=4:=by omega
       have q1:(0:Int)≤((qq7 (vAt x c).Str c.Limit:Nat):Int):=by omega
       have q2:((qq7 (vAt x c).Str c.Limit:Nat):Int)≤((vAt x c).Str.length:Int):=by unfold qq7;omega
       have q3:(0:Int)≤((qq7 (vAt y c).Str c.Limit:Nat):Int):=by omega
       have q4:((qq7 (vAt y c).Str c.Limit:Nat):Int)≤((vAt y c).Str.length:Int):=by unfold qq7;omega
       simp only [if_neg m1,if_neg m2,if_neg m3,qil,ve4 hl0,vxr,if_pos q1,if_pos q2,if_pos q3,if_pos q4,vvn];congr 2;rw [vxj];simp
   ·have b2:((vAt y c).Kind != 2)=true:=by simp [k2]
    simp only [b1,b2,vtk,if_false,vvn,if_true,hcmp,hdec];unfold qmh;rw [if_pos (.inr (.inl k2))]
  ·have b1:((vAt x c).Kind != 2)=true:=by simp [k1]
   simp only [b1,if_true,vvn,hcmp,hdec];unfold qmh;rw [if_pos (.inl k1)]
 ·rw [qz8,if_neg hc];have:(qhr x y c != 0)=true:=by simp [hc]
  simp only [qge,ve7,vvn,this,if_true]
end Go.Proofs.YtmlegeeinnkhkaaGreat
namespace Go.Ab
open Go
def qkm {α:Type} (f:α→Int):List α→Int
 | []=>0
 | x :: r=>if f x≠0 then f x else qkm f r
theorem qxr {α:Type} (l:List α) (B:Int→Option (LS Int (Unit ⊕ Int))) (f:α→Int)
  (h1:∀(k:Nat) x,l[k]?=some x→k < l.length→B k=if f x≠0 then some (.done (.inr (f x))) else some (.next (k+1:Nat))) (h3:B l.length=some (.done (.inl ()))) :
  qae B 0=some (if qkm f l=0 then .inl () else .inr (qkm f l)):=by
 have key:∀(r:List α) (k:Nat),l.drop k=r→k≤l.length→qae B (k:Int)=some (if qkm f r=0 then .inl () else .inr (qkm f r)):=by
  intro r
  induction r with
  | nil =>
   intro k hd hk;have:k=l.length:=by
    have:=congrArg vx3 hd;simp at this;omega
   subst this;exact qad h3
  | cons x r ih =>
   intro k hd hk;have hx:l[k]?=some x:=by
    have:=congrArg (·[0]?) hd;simpa [vt4] using this
   have hd':l.drop (k+1)=r:=by rw [←vxy,hd];rfl
   have hB:=h1 k x hx (qam hx);by_cases hf:f x≠0
   ·rw [if_pos hf] at hB;rw [qad hB];simp only [qkm,if_pos hf];rw [if_neg hf]
   ·rw [if_neg hf] at hB;rw [qac hB,ih (k+1) hd' (qam hx)];simp only [qkm,if_neg hf]
 exact key l 0 (by simp) (vxc _)
theorem q7q (zs:List Int) (x:Int):x∈vxg zs↔x∈zs:=by
 unfold vxg vyy;simp only [vwz,vwy,vw1];constructor
 ·rintro ⟨j,⟨hj,_⟩,rfl⟩;simp [getElem!_pos,hj]
 ·intro hx;have hlt:=List.idxOf_lt_length_of_mem hx;refine ⟨zs.idxOf x,⟨hlt,?_⟩,by simp [getElem!_pos,hlt]⟩;simp only [vyz,decide_eq_true_eq];by_cases h0:zs.idxOf x=0
  ·exact .inl h0
  ·right;have h1:zs.idxOf x - 1 < zs.length:=by omega
   have e1:zs.toArray[zs.idxOf x]! = x:=by simp [getElem!_pos,hlt]
   have e2:zs.toArray[zs.idxOf x - 1]! = zs[zs.idxOf x - 1]:=by simp [getElem!_pos,h1]
   rw [e1,e2];intro e;have hm:=List.not_of_lt_findIdx (p:=fun y=>y == x) (xs:=zs) (i:=zs.idxOf x - 1) (by show zs.idxOf x - 1 < zs.idxOf x;omega);simp only [beq_eq_false_iff_ne,ne_eq] at hm;exact hm e.symm
theorem q7r (zs:List Int) (hs:zs.Pairwise (·≤·)):(vxg zs).length=zs.length↔zs.Nodup:=by
 unfold vxg vyy;rw [vuf]
 conv=>lhs;rhs;rw [←vwp (n:=zs.length)]
 rw [List.length_filter_eq_length_iff];simp only [vw1,vyz,decide_eq_true_eq];rw [vzp] at hs;constructor
 ·intro h;refine vzp.2 fun i j hi hj hij e=>?_
  have hj1:j - 1 < zs.length:=by omega
  rcases h j hj with h0 | hne
  ·omega
  ·have e1:zs.toArray[j]! = zs[j]:=by simp [getElem!_pos,hj]
   have e2:zs.toArray[j - 1]! = zs[j - 1]:=by simp [getElem!_pos,hj1]
   rw [e1,e2] at hne;have l1:zs[j - 1]≤zs[j]:=hs (j - 1) j hj1 hj (by omega);have l2:zs[i]≤zs[j - 1]:=by
    rcases vzz (show i≤j - 1 by omega) with hlt | heq
    ·exact hs i (j - 1) hi hj1 hlt
    ·subst heq;exact Int.le_refl _
   omega
 ·intro h j hj;by_cases h0:j=0
  ·exact .inl h0
  ·right;have hj1:j - 1 < zs.length:=by omega
   have e1:zs.toArray[j]! = zs[j]:=by simp [getElem!_pos,hj]
   have e2:zs.toArray[j - 1]! = zs[j - 1]:=by simp [getElem!_pos,hj1]
   rw [e1,e2];intro e;exact (vzp.1 h) (j - 1) j hj1 hj (by omega) e.symm
end Go.Ab
namespace Go.Proofs.YtmlegeeinnkhkaaGreat
open Go Go.Ab
def q18 (n:Int) (c:Similar):Int:=if c.Attr < 0∨c.Attr≥n then 6 else if q26 c then 0 else 1
def q19 (n:Int) (l:List Similar):Int:=if l.length < 1∨l.length > 6 then 1 else qkm (q18 n) l
def q46 (n:Int) (l:List Int):Int:=if l.any (fun x=>decide (x < 0∨x≥n)) then 6 else if l.Nodup then 0 else 1
def q47 (n:Int) (l:Linkage):Int :=
 if n < 0∨n > 16 then 7 else if l.Rules.length > 8 then 3
 else if qkm (q19 n) l.Rules≠0 then qkm (q19 n) l.Rules
 else if q46 n l.Block≠0 then q46 n l.Block
 else if (l.Survive.length:Int)≠n then 6
 else if l.Survive.any (fun x=>decide (x < 1∨x > 5)) then 1 else 0
def qp8:Value:=⟨0,0,[]⟩
theorem q7s:qie qp8=true:=by simp [qie,qp8]
theorem q2a (m i:Int) (c:Similar) (n:Nat):qhr ⟨m,vux n qp8⟩ ⟨i,vux n qp8⟩ c=q18 (n:Int) c:=by
 have hv:vAt ⟨m,vux n qp8⟩ c=qp8∧vAt ⟨i,vux n qp8⟩ c=qp8:=by
  simp only [vAt,vwd,vua];split <;> exact ⟨rfl,rfl⟩
 simp only [qhr,q18,vuh,hv.1,hv.2,q7s,vyt];by_cases h0:c.Attr < 0
 ·simp [h0]
 ·by_cases h1:c.Attr≥(n:Int)
  ·simp [h0,h1]
  ·simp [h0,h1]
theorem ve8 (x y:Row) (c:Similar):(qz8 x y c).2=qhr x y c:=by
 unfold qz8;split <;> simp [*]
theorem vnh {n:Nat} (h:n≤1000000):qao n 32=true:=by
 unfold qao;simp only [decide_eq_true_eq];omega
theorem vsg (n:Int) (l:Linkage) (hr:∀r∈l.Rules,r.length≤1000000) (hR:l.Rules.length≤1000000) (hb:l.Block.length≤1000000) (hs:l.Survive.length≤1000000):qgk n l=some (q47 n l):=by
 unfold q47;by_cases h1:n < 0
 ·simp only [qgk,if_pos h1,if_pos (show n < 0∨n > 16 by omega)]
 by_cases h2:n > 16
 ·simp only [qgk,if_neg h1,if_pos h2,if_pos (show n < 0∨n > 16 by omega)]
 rw [if_neg (show ¬(n < 0∨n > 16) by omega)];by_cases h3:(l.Rules.length:Int) > 8
 ·simp only [qgk,if_neg h1,if_neg h2,if_pos h3,if_pos (show l.Rules.length > 8 by omega)]
 rw [if_neg (show ¬l.Rules.length > 8 by omega)];obtain ⟨m,rfl⟩:=vv5 (show 0≤n by omega);have h0:(0:Int)≤(m:Int):=by omega
 have hroom:=vnh (show m≤1000000 by omega);have hroomB:qao l.Block.length 8=true:=qn9 (by omega);have hin:∀x∈l.Rules,qae (qf6 (vux m qp8) x) 0=some (if qkm (q18 (m:Int)) x=0 then .inl () else .inr (qkm (q18 (m:Int)) x)):=fun x hx =>
  qxr x (qf6 (vux m qp8) x) (q18 (m:Int)) (fun k y hy hk=>by
   have c:((k:Int) < (x.length:Int)):=by omega
   have:=hr x hx;simp only [qf6,if_pos c,qaa hy,vvn,ve6,ve8,q2a,bne_iff_ne,wqn k]) (by simp [qf6])
 have hL:=qxr l.Rules (qdl l (vux m qp8)) (q19 (m:Int)) (fun k x hx hk=>by
  have c:((k:Int) < (l.Rules.length:Int)):=by omega
  have w:=wqn k;unfold q19;by_cases a1:(x.length:Int) < 1
  ·simp only [qdl,if_pos c,qaa hx,vvn,if_pos a1,if_pos (show x.length < 1∨x.length > 6 by omega)];simp
  by_cases a2:(x.length:Int) > 6
  ·simp only [qdl,if_pos c,qaa hx,vvn,if_neg a1,if_pos a2,if_pos (show x.length < 1∨x.length > 6 by omega)];simp
  simp only [qdl,if_pos c,qaa hx,vvn,if_neg a1,if_neg a2,if_neg (show ¬(x.length < 1∨x.length > 6) by omega),hin x (vup hx),w];by_cases e:qkm (q18 (m:Int)) x=0 <;> simp [e]) (by simp [qdl])
 have hb':qa4 l.Block (fun y=>qg4 y (m:Int))=some (l.Block.any fun x=>decide (x < 0∨x≥(m:Int))):=qkw _ _ _ (fun x _=>by
  simp only [qg4];by_cases a:x < 0 <;> simp [a]) (by omega)
 have hs':qa4 l.Survive (fun y=>qg5 y)=some (l.Survive.any fun x=>decide (x < 1∨x > 5)):=qkw _ _ _ (fun x _=>by
  simp only [qg5];by_cases a:x < 1 <;> simp [a]) (by omega)
 have hsrt:qwx l.Block=some (qop l.Block):=if_pos (by omega);have hlen:(qop l.Block).length=l.Block.length:=(ql9 l.Block).length_eq;have hcpt:vgl (qop l.Block)=some (vxg (qop l.Block)):=if_pos (by omega);have hnd:(vxg (qop l.Block)).length=l.Block.length↔l.Block.Nodup:=by
  rw [←hlen,q7r _ (qwz _)];exact (ql9 l.Block).nodup_iff
 have hL':qae (qdl l (vux m ⟨0,0,[]⟩)) 0=some (if qkm (q19 (m:Int)) l.Rules=0 then .inl () else .inr (qkm (q19 (m:Int)) l.Rules)):=hL;simp only [qgk,if_neg h1,if_neg h2,if_neg h3,if_pos h0,vxr,hroom,if_true,vvn,hL'];by_cases e:qkm (q19 (m:Int)) l.Rules=0
 ·simp only [e,if_true,ne_eq,not_true_eq_false,if_false,hb',vvn,hroomB,hsrt,hcpt];unfold q46;rcases vxi (l.Block.any fun x=>decide (x < 0∨x≥(m:Int))) with q | q
  ·simp only [q,if_true];simp
  ·simp only [q,vtk,if_false,bne_iff_ne];by_cases nd:l.Block.Nodup
   ·have:=hnd.2 nd;rw [if_neg (show ¬(((vxg (qop l.Block)).length:Int)≠(l.Block.length:Int)) by omega),if_pos nd];simp only [not_true_eq_false,if_false,hs',vvn,ne_eq];by_cases s:(l.Survive.length:Int)=(m:Int)
    ·simp only [s,not_true_eq_false,if_false];rcases vxi (l.Survive.any fun x=>decide (x < 1∨x > 5)) with u | u <;> simp only [u] <;> simp
    ·simp [s]
   ·have:¬(vxg (qop l.Block)).length=l.Block.length:=fun h=>nd (hnd.1 h)
    rw [if_pos (show (((vxg (qop l.Block)).length:Int)≠(l.Block.length:Int)) by omega),if_neg nd];simp
 ·simp [e]
def lexN (x y:Nat):Prop:=q8m x < q8m y∨(q8m x=q8m y∧x < y)
instance (x y:Nat):Decidable (lexN x y):=by unfold lexN;exact inferInstance
end Go.Proofs.YtmlegeeinnkhkaaGreat
namespace Go.Ab
open Go
end Go.Ab
namespace Go.Proofs.YtmlegeeinnkhkaaGreat
open Go Go.Ab
theorem vbd {α ρ:Type} (s:Nat) (l:List α) (B:Int→Option (LS Int (Unit ⊕ ρ))) (p:Nat→α→Bool) (bad:ρ)
  (h1:∀(k:Nat) x,s≤k→l[k]?=some x→k < l.length→p k x=true→B k=some (.next (k+1:Nat))) (h2:∀(k:Nat) x,s≤k→l[k]?=some x→p k x=false→B k=some (.done (.inr bad)))
  (h3:∀k:Nat,s≤k→l.length≤k→B k=some (.done (.inl ()))) :
  ∀(r:List α) (k:Nat),s≤k→l.drop k=r→qae B (k:Int)=some (if qe7 p k r then .inl () else .inr bad):=by
 intro r
 induction r with
 | nil =>
  intro k hs hd;have:l.length≤k:=by
   have:=congrArg vx3 hd;simp at this;omega
  exact qad (h3 k hs this)
 | cons x r ih =>
  intro k hs hd;have hx:l[k]?=some x:=by
   have:=congrArg (·[0]?) hd;simpa [vt4] using this
  have hd':l.drop (k+1)=r:=by rw [←vxy,hd];rfl
  rcases vxi (p k x) with hp | hp
  ·rw [qac (h1 k x hs hx (qam hx) hp),ih (k+1) (by omega) hd'];simp [qe7,hp]
  ·rw [qad (h2 k x hs hx hp)];simp [qe7,hp]
theorem qxs {α:Type} {p:Nat→α→Bool}:∀{l:List α} {k:Nat},qe7 p k l=true→∀{j:Nat} {x:α},l[j]?=some x→p (k+j) x=true
 | [],_,_,j,x,hx=>by simp at hx
 | y :: r,k,h,j,x,hx=>by
  simp only [qe7,vti] at h;cases j with
  | zero=>simp at hx;subst hx;exact h.1
  | succ j =>
   have:=qxs h.2 (j:=j) (x:=x) (by simpa using hx);rw [show k+(j+1)=k+1+j by omega];exact this
def ve9 (l:List Int):Bool:=qe7 (fun k x=>decide (l.getD (k - 1) 0 < x)) 1 (l.drop 1) && decide (0 < l.length)
theorem q48 (l:List Int) (hl:l.length≤1073741824):qm8 l=some (ve9 l):=by
 have h:=vbd 1 l (qc2 l) (fun k x=>decide (l.getD (k - 1) 0 < x)) false
  (fun k x hs hx hk hp=>by
   have e:vxs.wrap ((k:Int) - 1)=((k - 1:Nat):Int):=by rw [qav (by omega) (by omega)];omega
   obtain ⟨y,hy⟩:∃y,l[k - 1]?=some y:=⟨_,vt5 (by omega)⟩;have hg:l.getD (k - 1) 0=y:=by simp [vy7,hy]
   rw [hg,decide_eq_true_eq] at hp;have:¬x≤y:=by omega
   simp only [qc2,if_pos (qaj hx),qaa hx,vvn,e,qaa hy,if_neg this,qbk hk (show l.length≤4611686018427387904 by omega)])
  (fun k x hs hx hp=>by
   have hk:=qam hx;have e:vxs.wrap ((k:Int) - 1)=((k - 1:Nat):Int):=by rw [qav (by omega) (by omega)];omega
   obtain ⟨y,hy⟩:∃y,l[k - 1]?=some y:=⟨_,vt5 (by omega)⟩;have hg:l.getD (k - 1) 0=y:=by simp [vy7,hy]
   rw [hg,decide_eq_false_iff_not] at hp;have:x≤y:=by omega
   simp only [qc2,if_pos (qaj hx),qaa hx,vvn,e,qaa hy,if_pos this])
  (fun k hs hk=>by
   have:¬((k:Int) < (l.length:Int)):=by omega
   simp only [qc2,if_neg this]) (l.drop 1) 1 (vvb _) rfl
 have h':qae (qc2 l) 1=_:=h;simp only [qm8,h',vvn,ve9];have e:decide ((l.length:Int) > 0)=decide (0 < l.length):=by rw [vxj];simp
 cases qe7 (fun k x=>decide (l.getD (k - 1) 0 < x)) 1 (l.drop 1) <;> simp [e]
theorem qux (l:List Int) (hl:l.length≤1073741824):qib l=some (ve9 l):=q48 l hl
theorem vsh {l:List Int} (h:ve9 l=true):∀(j k:Nat) {x y:Int},j < k→l[j]?=some x→l[k]?=some y→x < y:=by
 simp only [ve9,vti] at h;have step:∀(k:Nat) {x y:Int},l[k]?=some x→l[k+1]?=some y→x < y:=by
  intro k x y hx hy;have:=qxs h.1 (j:=k) (x:=y) (by rw [vt4,vzx];exact hy);simp only [Nat.add_sub_cancel_left,decide_eq_true_eq,vy7,hx,vvp] at this;exact this
 intro j k
 induction k with
 | zero=>intro x y hjk;omega
 | succ k ih =>
  intro x y hjk hx hy;by_cases e:j=k
  ·subst e;exact step j hx hy
  ·obtain ⟨z,hz⟩:∃z,l[k]?=some z:=⟨_,vt5 (by have:=qam hy;omega)⟩;have:=ih (by omega) hx hz;have:=step k hz hy;omega
theorem qxt (l:List Int) (x:Int) (hl:l.length≤4611686018427387904):qc4 l x=some (decide (x∈l)):=by
 have h:=qme l (qfh l x) (fun y=>!(y == x)) true
  (fun k y hx hk hp=>by
   simp only [vtm] at hp;simp only [qfh,if_pos (qaj hx),qaa hx,vvn,hp,vtk,if_false,qbk hk hl])
  (fun k y hx hp=>by
   simp only [vyr] at hp;simp only [qfh,if_pos (qaj hx),qaa hx,vvn,hp,if_true])
  (by simp [qfh])
 simp only [qc4,h,vvn];by_cases hm:x∈l
 ·have:l.all (fun y=>!(y == x))=false:=by rw [List.all_eq_false];exact ⟨x,hm,by simp⟩
  simp [this,hm]
 ·have:l.all (fun y=>!(y == x))=true:=by
   rw [vv7];intro y hy;simp only [vtm,beq_eq_false_iff_ne];intro e;rw [e] at hy;exact hm hy
  simp [this,hm]
theorem qy3 (l:List Int) (x:Int) (hl:l.length≤1073741824):qkj l x=some (q7k (l.findIdx? (fun y=>x == y))):=by
 have h:=qj2 l (qeg l x) (fun y=>x == y)
  (fun k y hx hk hp=>by simp only [qeg,if_pos (qaj hx),qaa hx,vvn,hp,vtk,if_false,if_true,qbk hk (show l.length≤4611686018427387904 by omega)])
  (fun k y hx hp=>by simp only [qeg,if_pos (qaj hx),qaa hx,vvn,hp,if_true])
  (by simp [qeg])
 simp only [qkj,h,vvn];cases l.findIdx? (fun y=>x == y) <;> rfl
theorem quy (l:List Int) (x:Int) (hl:l.length≤1073741824):qir l x=some (decide (x∈l)):=by
 simp only [qir,qy3 l x hl,vvn];rw [qv1];congr 1;rw [vxj];simp
def qq8:List Int→List (List Int)→Bool
 | _,[]=>true
 | all,c :: cs=>ve9 c && c.all (fun x=>!decide (x∈all)) && qq8 (all++c) cs
theorem qxu {K V:Type} [DecidableEq K] (m:List (K×V)) (k x:K) (v:V):qpx (qvz m k v) x=if x=k then some v else qpx m x:=by
 induction m with
 | nil=>simp [qvz,qpx]
 | cons p r ih =>
  obtain ⟨a,u⟩:=p;simp only [qvz];by_cases h:k=a
  ·subst h;simp only [if_pos,qpx];by_cases hx:x=k <;> simp [hx]
  ·simp only [if_neg h,qpx,ih];by_cases hx:x=a
   ·subst hx;have:¬x=k:=fun e=>h e.symm
    simp [this]
   ·simp [hx]
theorem viw {K V:Type} [DecidableEq K] (m:List (K×V)) (k:K) (v:V) (h:qpx m k=none):(qvz m k v).length=m.length+1:=by
 induction m with
 | nil=>rfl
 | cons p r ih =>
  obtain ⟨a,u⟩:=p;simp only [qpx] at h;split at h
  ·cases h
  ·rename_i hn;simp only [qvz,if_neg hn,vwl,ih h]
def Holds (m:List (Int×Bool)) (all:List Int):Prop:=∀x,qpx m x=if x∈all then some true else none
theorem vni (cs:List (List Int)) (hl:cs.length≤1048576) (hc:∀c∈cs,c.length≤1048576):qin cs=some (qq8 [] cs):=by
 have key:∀(r:List (List Int)) (k:Nat) (all:List Int),cs.drop k=r→k≤cs.length→all.length≤k * 1048576→qae (qdc cs) (all,(k:Int))=some (if qq8 all r then .inl () else .inr false):=by
  intro r
  induction r with
  | nil =>
   intro k all hd hk hm;have hk':k=cs.length:=by
    have:=congrArg vx3 hd;simp at this;omega
   subst hk';exact qad (by simp [qdc,qq8])
  | cons c r ih =>
   intro k all hd hk hm;have hx:cs[k]?=some c:=by
    have:=congrArg (·[0]?) hd;simpa [vt4] using this
   have hd':cs.drop (k+1)=r:=by rw [←vxy,hd];rfl
   have hlt:=qam hx;have hcl:=hc c (vup hx);have hin:=qme c (qel cs all k) (fun x=>!decide (x∈all)) false
    (fun j x hj hjk hp=>by
     simp only [vtm,decide_eq_false_iff_not] at hp;simp only [qel,qaa hx,vvn,if_pos (qaj hj),qaa hj,qxt all x (by omega),hp,decide_false,vtk,if_false,qbk hjk (show c.length≤4611686018427387904 by omega)])
    (fun j x hj hp=>by
     simp only [vyr,decide_eq_true_eq] at hp;simp only [qel,qaa hx,vvn,if_pos (qaj hj),qaa hj,qxt all x (by omega),hp,decide_true,if_true])
    (by simp [qel,qaa hx])
   by_cases ha:ve9 c=true
   ·rcases vxi (c.all fun x=>!decide (x∈all)) with hall | hall
    ·have hroom:qao (all.length+c.length) 8=true:=qn9 (by omega);rw [hall] at hin;rw [qac (s':=(all++c,((k+1:Nat):Int))) (by simp only [qdc,if_pos (qaj hx),qaa hx,vvn,qux c (by omega),ha,if_true,hin,hroom,qbk hlt (show cs.length≤4611686018427387904 by omega)]),
      ih (k+1) (all++c) hd' hlt (by simp;omega)]
     simp only [qq8,ha,hall,vyt]
    ·rw [hall] at hin;rw [qad (t:=.inr false) (by simp only [qdc,if_pos (qaj hx),qaa hx,vvn,qux c (by omega),ha,if_true,hin,vtk,if_false])];simp only [qq8,hall,Bool.and_false,vyq,vtk,if_false]
   ·simp only [vxk] at ha;rw [qad (t:=.inr false) (by simp only [qdc,if_pos (qaj hx),qaa hx,vvn,qux c (by omega),ha,vtk,if_false])];simp only [qq8,ha,vyq,vtk,if_false]
 have h:=key cs 0 [] rfl (vxc _) (by simp);simp only [vxn] at h;simp only [qin,h,vvn];cases qq8 [] cs <;> rfl
theorem q83 {l:List Int} (h:l≠[]):l[0]?=some (l.headD 0):=by
 cases l with
 | nil=>exact absurd rfl h
 | cons x r=>rfl
def Fits (a:Row) (l:List Int):Prop:=∀i∈l,0≤i∧i < (a.Values.length:Int)
theorem vix {a:Row} {l:List Int} (h:Fits a l) {i:Int} (hi:i∈l):idx a.Values i=some (qf3 a i.toNat):=by
 obtain ⟨h1,h2⟩:=h i hi;have hg:a.Values[i.toNat]?=some (qf3 a i.toNat):=by
  have hlt:i.toNat < a.Values.length:=by omega
  simp [qf3,vy7,vt5 hlt]
 have:=qaa hg
 rwa [vyv h1] at this
def vkh (a:Row):Prop:=∀v∈a.Values,v.Str.length≤1073741824
def vnj (a b:Row):List Int→Int
 | []=>0
 | i :: l=>if qz3 (qf3 a i.toNat) (qf3 b i.toNat)≠0 then qz3 (qf3 a i.toNat) (qf3 b i.toNat) else vnj a b l
theorem drop_take {α:Type} (l:List α) (n:Nat):(l.drop n).take (l.length - n)=l.drop n:=by
 apply List.take_of_length_le;rw [List.length_drop];exact vvb _
def vb3 (s i:Int):Bool:=(vxt.wrap ((BitVec.ofInt 32 (Int.fdiv s (2 ^ (min i.toNat 32))) &&& (1#32)).toNat:Int)) == 1
def mx (a b:Int):Int:=if b > a then b else a
theorem q0c {α:Type} (p:α→Bool):∀(l:List α) {i:Nat},l.findIdx? p=some i→i < l.length
 | [],i,h=>by simp at h
 | x :: r,i,h=>by
  rw [List.findIdx?_cons] at h;split at h
  ·cases h;simp
  ·cases hr:r.findIdx? p with
   | none=>rw [hr] at h;cases h
   | some j =>
    rw [hr] at h;simp only [vvs,vvt] at h;subst h;have:=q0c p r hr;simp;omega
theorem qsh {α:Type} (p:Nat→α→Bool):∀(l:List α) (k:Nat),qe7 p k l=true↔∀(j:Nat) (x:α),l[j]?=some x→p (k+j) x=true
 | [],k=>by simp [qe7]
 | y :: r,k=>by
  simp only [qe7,vti,qsh p r (k+1)];constructor
  ·rintro ⟨h1,h2⟩ j x hx;cases j with
   | zero=>simp at hx;subst hx;exact h1
   | succ j =>
    have:=h2 j x (by simpa using hx)
    rwa [vu4,vzx 1] at this
  ·intro h;refine ⟨h 0 y rfl,fun j x hx=>?_⟩;have:=h (j+1) x (by simpa using hx)
   rwa [vu4,vzx 1]
theorem q49 {α:Type} [DecidableEq α] (a b:List α) (h:a.length=b.length):qe7 (fun k x=>decide (b[k]?=some x)) 0 a=decide (a=b):=by
 rw [vxj,qsh,decide_eq_true_eq];simp only [vvm,decide_eq_true_eq];constructor
 ·intro hh;apply vtz ;intro i;by_cases hi:i < a.length
  ·rw [vt5 hi];exact (hh i _ (vt5 hi)).symm
  ·rw [vt6 (by omega),vt6 (by omega)]
 ·rintro rfl j x hx;exact hx
def ids (t:Table):List Int:=t.Rows.map (·.ID)
def divB (t:Table) (cs:List (List Int)):Bool:=qq8 [] cs && (decide (cs.flatten.length=t.Rows.length) && cs.flatten.all fun x=>decide (x∈ids t))
theorem q5a (t:Table) (id:Int):(vih t id).2=decide (id∈ids t):=by
 unfold vih ids;cases h:t.Rows.findIdx? (fun r=>r.ID == id) with
 | none =>
  rw [List.findIdx?_eq_none_iff] at h;simp only [vwz];symm;rw [decide_eq_false_iff_not];rintro ⟨r,hr,he⟩;have:=h r hr;simp [he] at this
 | some i =>
  have hi:=q0c _ _ h;symm;rw [decide_eq_true_eq,vwz];have hp:(fun r:Row=>r.ID == id) (t.Rows[i]'hi)=true:=by
   rw [List.findIdx?_eq_some_iff_getElem] at h;exact h.2.1
  exact ⟨_,vwk hi,by simpa using hp⟩
theorem vnk (t:Table) (cs:List (List Int)) (hr:t.Rows.length≤1073741824) (hl:cs.length≤1048576) (hc:∀c∈cs,c.length≤1048576):∀(r:List (List Int)) (k n:Nat),cs.drop k=r→k≤cs.length→n≤k * 1048576 →
  qae (qgg t cs) ((n:Int),(k:Int))=some (if r.flatten.all (fun x=>decide (x∈ids t)) then .inl ((n+r.flatten.length:Nat):Int) else .inr false):=by
 intro r
 induction r with
 | nil =>
  intro k n hd hk hn;have hk':k=cs.length:=by
   have:=congrArg vx3 hd;simp at this;omega
  subst hk';exact qad (by simp [qgg])
 | cons c r ih =>
  intro k n hd hk hn;have hx:cs[k]?=some c:=by
   have:=congrArg (·[0]?) hd;simpa [vt4] using this
  have hd':cs.drop (k+1)=r:=by rw [←vxy,hd];rfl
  have hlt:=qam hx;have hcl:=hc c (vup hx);have hin:=qme c (qgf t cs k) (fun x=>decide (x∈ids t)) false
   (fun j x hj hjk hp=>by
    simp only [decide_eq_true_eq] at hp;simp only [qgf,qaa hx,vvn,if_pos (qaj hj),qaa hj,qxj t x hr,q5a,hp,decide_true,if_true,qbk hjk (show c.length≤4611686018427387904 by omega)])
   (fun j x hj hp=>by
    simp only [decide_eq_false_iff_not] at hp;simp only [qgf,qaa hx,vvn,if_pos (qaj hj),qaa hj,qxj t x hr,q5a,hp,decide_false,vtk,if_false])
   (by simp [qgf,qaa hx])
  by_cases ha:(c.all fun x=>decide (x∈ids t))=true
  ·rw [if_pos ha] at hin;have hw:vxs.wrap ((n:Int)+(c.length:Int))=((n+c.length:Nat):Int):=by
    rw [qav (by omega) (by omega)];omega
   rw [qac (s':=(((n+c.length:Nat):Int),((k+1:Nat):Int))) (by simp only [qgg,if_pos (qaj hx),qaa hx,vvn,hin,hw,qbk hlt (show cs.length≤4611686018427387904 by omega)]),
    ih (k+1) (n+c.length) hd' hlt (by omega)]
   simp only [vy6,vy2,ha,vyt,vud,vu4]
  ·rw [if_neg ha] at hin;rw [qad (t:=.inr false) (by simp only [qgg,if_pos (qaj hx),qaa hx,vvn,hin])];simp only [vxk] at ha;simp only [vy6,vy2,ha,vyq,vtk,if_false]
theorem qo2:∀{l l':List Int},l.Nodup→(∀x∈l,x∈l')→l.length≤l'.length
 | [],l',_,_=>vxc _
 | x :: r,l',hn,hs=>by
  rw [vzl] at hn;have hx:x∈l':=hs x (by simp);have h:=qo2 (l':=l'.erase x) hn.2 (fun y hy=>by
   have hne:y≠x:=fun e=>hn.1 (e ▸ hy)
   rw [List.mem_erase_of_ne hne];exact hs y (by simp [hy]))
  rw [List.length_erase_of_mem hx] at h;have:0 < l'.length:=vwo hx;simp;omega
theorem qo3 (n:Nat):∀(l:List Row) (a:Int),qet n a l=0→(∀r∈l,a < r.ID∧r.Values.length=n)∧(l.map (·.ID)).Nodup
 | [],a,_=>⟨fun r hr=>by simp at hr,by simp⟩
 | r :: l,a,h=>by
  simp only [qet] at h;by_cases h1:r.ID≤a
  ·rw [if_pos h1] at h;cases h
  ·rw [if_neg h1] at h;by_cases h2:r.Values.length=n
   ·rw [if_neg (by simp [h2])] at h;by_cases h3:r.Values.all qie=true
    ·rw [if_pos h3] at h;obtain ⟨h4,h5⟩:=qo3 n l r.ID h;refine ⟨fun q hq=>?_,?_⟩
     ·rcases vwv.1 hq with e | e
      ·subst e;exact ⟨by omega,h2⟩
      ·have:=h4 q e;exact ⟨by omega,this.2⟩
     ·rw [List.map_cons,vzl];refine ⟨fun hm=>?_,h5⟩;obtain ⟨q,hq,he⟩:=vwz.1 hm;have:=(h4 q hq).1;omega
    ·rw [if_neg h3] at h;cases h
   ·rw [if_pos h2] at h;cases h
theorem qlx {t:Table} (h:qbe t=0):(∀r∈t.Rows,r.Values.length=t.Attrs.length)∧(ids t).Nodup:=by
 unfold qbe at h;split at h
 ·cases h
 ·split at h
  ·cases h
  ·split at h
   ·cases h
   ·split at h
    ·cases h
    ·obtain ⟨h1,h2⟩:=qo3 _ _ _ h;exact ⟨fun r hr=>(h1 r hr).2,h2⟩
theorem vfa {l:List Int} (h:ve9 l=true):l.Nodup:=by
 rw [List.nodup_iff_pairwise_ne,vzp];intro i j hi hj hij;have:=vsh h i j hij (vt5 hi) (vt5 hj);omega
theorem q0d:∀{cs:List (List Int)} {all:List Int},qq8 all cs=true→cs.flatten.Nodup∧∀x∈cs.flatten,x ∉ all
 | [],all,_=>⟨by simp,fun x hx=>by simp at hx⟩
 | c :: cs,all,h=>by
  simp only [qq8,vti,vv7,vtm,decide_eq_false_iff_not] at h;obtain ⟨⟨h1,h2⟩,h3⟩:=h;obtain ⟨h4,h5⟩:=q0d h3;refine ⟨?_,fun x hx=>?_⟩
  ·rw [vy6,vzk];exact ⟨vfa h1,h4,fun a ha b hb e=>h5 b hb (by simp [←e,ha])⟩
  ·rw [vy6,vun] at hx;rcases hx with e | e
   ·exact h2 x e
   ·exact fun hh=>h5 x e (by simp [hh])
def q2b (t:Table) (l:List Int):List Row:=t.Rows.filter fun r=>decide (r.ID∈l)
theorem qxv (l:List (List UInt8)) (h:l.length≤1073741824):qjp l=some l:=by
 unfold qjp;rw [if_pos (qlf (by omega) (by omega))]
theorem q5b {B:List Row×Int→Option (LS (List Row×Int) (List Row))} (rows:List Row)
  (hB:∀(k:Nat) (out:List Row) x,rows[k]?=some x→out.length≤1048576→B (out,(k:Int))=some (.next (out++[x],((k+1:Nat):Int))))
  (hE:∀out,B (out,(rows.length:Int))=some (.done out)) (hl:rows.length≤1048576):qae B ([],0)=some rows:=by
 have h:=qhq rows (fun (b:List Row) i=>(b,i)) B (fun b x=>b++[x]) id (fun k b=>b.length=k) (b0:=[]) (s0:=([],0)) rfl rfl
  (fun k b x hx hk hI=>⟨hB k b x hx (by omega),by simp [hI]⟩) (fun b _=>hE b)
 rw [h];have key:∀(l:List Row) (b:List Row),l.foldl (fun b x=>b++[x]) b=b++l:=by
  intro l
  induction l with
  | nil=>simp
  | cons x l ih=>intro b;rw [vx1,ih];simp
 rw [key];rfl
theorem vnl (t:Table) (rows:List Row) (ha:t.Attrs.length≤1073741824) (hl:rows.length≤1048576) (hv:∀r∈rows,r.Values.length≤1048576):quq t rows=some ⟨t.Name,t.Attrs,rows⟩:=by
 simp only [quq,qxv _ ha,vvn];rw [q5b rows (fun k out x hx ho=>by
  have hk:=qam hx;have hvx:=hv x (vup hx);have r1:qao x.Values.length 32=true:=qlf (by omega) (by omega);have r2:qao (out.length+1) 32=true:=qlf (by omega) (by omega);have hcp:qp0 x=some x:=by
   simp only [qp0,qm9];rw [if_pos r1];rfl
  simp only [qox,if_pos (qaj hx),qaa hx,vvn,hcp,r2,if_true,qbk hk (show rows.length≤4611686018427387904 by omega)]) (fun out=>by simp [qox]) hl]
 rfl
theorem vnm (t:Table) (rows:List Row) (ha:t.Attrs.length≤1073741824) (hl:rows.length≤1048576) (hv:∀r∈rows,r.Values.length≤1048576):qip t rows=some ⟨t.Name,t.Attrs,rows⟩:=by
 have r0:qao t.Attrs.length 16=true:=qlf (by omega) (by omega);simp only [qip,r0,if_true];rw [q5b rows (fun k out x hx ho=>by
  have hk:=qam hx;have hvx:=hv x (vup hx);have r1:qao x.Values.length 32=true:=qlf (by omega) (by omega);have r2:qao (out.length+1) 32=true:=qlf (by omega) (by omega);have hcp:qkf x=some x:=by
   simp only [qkf,r1,if_true]
  simp only [qic,if_pos (qaj hx),qaa hx,vvn,hcp,r2,if_true,qbk hk (show rows.length≤4611686018427387904 by omega)]) (fun out=>by simp [qic]) hl]
 rfl
theorem q5c {B:List Row×Int→Option (LS (List Row×Int) (List Row))} (rows:List Row) (p:Row→Bool)
  (hB:∀(k:Nat) (out:List Row) x,rows[k]?=some x→out.length≤1048576→B (out,(k:Int))=some (.next (if p x then out++[x] else out,((k+1:Nat):Int))))
  (hE:∀out,B (out,(rows.length:Int))=some (.done out)) (hl:rows.length≤1048576):qae B ([],0)=some (rows.filter p):=by
 have h:=qhq rows (fun (b:List Row) i=>(b,i)) B (fun b x=>if p x then b++[x] else b) id (fun k b=>b.length≤k) (b0:=[]) (s0:=([],0)) rfl (vvb _)
  (fun k b x hx hk hI=>⟨hB k b x hx (by omega),by split <;> (try simp only [vud,vwq]) <;> omega⟩) (fun b _=>hE b)
 rw [h];have key:∀(l:List Row) (b:List Row),l.foldl (fun b x=>if p x then b++[x] else b) b=b++l.filter p:=by
  intro l
  induction l with
  | nil=>simp
  | cons x l ih =>
   intro b;rw [vx1,ih];by_cases hp:p x=true <;> simp [hp]
 rw [key];rfl
theorem vbe {t:Table} {l:List Int} (hn:t.Rows.length≤1048576) (hv:∀r∈t.Rows,r.Values.length≤1048576):(q2b t l).length≤1048576∧∀r∈q2b t l,r.Values.length≤1048576 :=
 ⟨vvd (vwn _ _) hn,fun r hr=>hv r (vwy.1 hr).1⟩
theorem vnn (t:Table) (l:List Int) (ha:t.Attrs.length≤1073741824) (hn:t.Rows.length≤1048576) (hv:∀r∈t.Rows,r.Values.length≤1048576) (hl:l.length≤1073741824) :
  qzy t l=some ⟨t.Name,t.Attrs,q2b t l⟩∧qiq t l=some ⟨t.Name,t.Attrs,q2b t l⟩:=by
 obtain ⟨k1,k2⟩:=vbe (l:=l) hn hv;refine ⟨?_,?_⟩
 ·simp only [qzy];rw [q5c t.Rows (fun r=>decide (r.ID∈l)) (fun k out x hx ho=>by
   have hk:=qam hx;have r2:qao (out.length+1) 32=true:=qlf (by omega) (by omega);simp only [qoy,if_pos (qaj hx),qaa hx,vvn,quy l x.ID hl,r2,if_true,qbk hk (show t.Rows.length≤4611686018427387904 by omega)];by_cases hm:x.ID∈l <;> simp [hm]) (fun out=>by simp [qoy]) hn]
  simp only [vvn];exact (congrArg (Option.bind · _) (vnl t (q2b t l) ha k1 k2)).trans rfl
 ·simp only [qiq];rw [q5c t.Rows (fun r=>decide (r.ID∈l)) (fun k out x hx ho=>by
   have hk:=qam hx;have r2:qao (out.length+1) 32=true:=qlf (by omega) (by omega);simp only [qid,if_pos (qaj hx),qaa hx,vvn,qxt l x.ID (by omega),r2,if_true,qbk hk (show t.Rows.length≤4611686018427387904 by omega)];by_cases hm:x.ID∈l <;> simp [hm]) (fun out=>by simp [qid]) hn]
  simp only [vvn];exact (congrArg (Option.bind · _) (vnm t (q2b t l) ha k1 k2)).trans rfl
theorem q2c {t:Table} (h:qbe t=0):qet t.Attrs.length 0 t.Rows=0:=by
 unfold qbe at h;split at h
 ·cases h
 ·split at h
  ·cases h
  ·split at h
   ·cases h
   ·split at h
    ·cases h
    ·exact h
def sorted (cs:List (List Int)):List (List Int):=(qae qsc (cs,0)).getD []
theorem q5d {α:Type} [DecidableEq α] (a b:List α) (h:a.length=b.length) {B:Int→Option (LS Int (Unit ⊕ Bool))}
  (hB:∀(k:Nat) x y,a[k]?=some x→b[k]?=some y→B (k:Int)=if decide (x=y)=true then some (.next ((k+1:Nat):Int)) else some (.done (.inr false)))
  (hE:B (a.length:Int)=some (.done (.inl ()))):qae B 0=some (if decide (a=b) then .inl () else .inr false):=by
 have hl:=qur a B (fun k x=>decide (b[k]?=some x)) false
  (fun k x hx hk hp=>by
   simp only [decide_eq_true_eq] at hp;rw [hB k x x hx hp];simp)
  (fun k x hx hp=>by
   have hk:=qam hx;have hb:b[k]?=some (b[k]'(by omega)):=vt5 (by omega);rw [hb] at hp;simp only [vvt,decide_eq_false_iff_not] at hp;rw [hB k x _ hx hb,if_neg];simp only [decide_eq_true_eq];exact fun e=>hp e.symm) hE a 0 rfl (vxc _)
 simp only [vxn,q49 a b h] at hl;exact hl
theorem q0e (a b:List (List Int)) (ha:a.length≤1073741824) (hl:∀c∈a,c.length≤1073741824):qev a b=some (decide (a=b)):=by
 simp only [qev];by_cases h:a.length=b.length
 ·have e:¬(((a.length:Int) != (b.length:Int))=true):=by simp [h]
  rw [if_neg e,q5d a b h (fun k x y hx hy=>by
   have hk:=qam hx;simp only [qhp,if_pos (qaj hx),qaa hx,qaa hy,vvn,vsb x y (hl x (vup hx)),qbk hk (show a.length≤4611686018427387904 by omega)]) (by simp [qhp])]
  by_cases hab:a=b <;> simp [hab]
 ·have e:(((a.length:Int) != (b.length:Int))=true):=by rw [bne_iff_ne];omega
  rw [if_pos e];have:a≠b:=fun hh=>h (by rw [hh])
  simp [this]
def hd (l:List (List Int)) (i:Nat):Int:=(l.getD i []).headD 0
theorem q2d:∀(cs:List (List Int)) (all:List Int),qq8 all cs=true↔(∀c∈cs,ve9 c=true)∧cs.flatten.Nodup∧∀x∈cs.flatten,x ∉ all
 | [],all=>by simp [qq8]
 | c :: cs,all=>by
  constructor
  ·intro h;obtain ⟨h1,h2⟩:=q0d h;simp only [qq8,vti] at h;refine ⟨fun d hd=>?_,h1,h2⟩;rcases vwv.1 hd with e | e
   ·subst e;exact h.1.1
   ·exact ((q2d cs (all++c)).1 h.2).1 d e
  ·rintro ⟨h1,h2,h3⟩;rw [vy6,vzk] at h2;simp only [qq8,vti,vv7,vtm,decide_eq_false_iff_not];refine ⟨⟨h1 c (by simp),fun x hx=>h3 x (by simp [hx])⟩,(q2d cs (all++c)).2 ⟨fun d hd=>h1 d (by simp [hd]),h2.2.1,fun x hx hm=>?_⟩⟩;rcases vun.1 hm with e | e
   ·exact h3 x (by rw [vy6];exact vun.2 (.inr hx)) e
   ·exact h2.2.2 x e x hx rfl
theorem qxw (n:Nat):∀(l:List Row) (a:Int),(∀r∈l,a < r.ID∧r.Values.length=n∧r.Values.all qie=true)→l.Pairwise (fun r q=>r.ID < q.ID)→qet n a l=0
 | [],_,_,_=>rfl
 | r :: l,a,h,hp=>by
  obtain ⟨h1,h2,h3⟩:=h r (by simp);rw [vx6] at hp;simp only [qet];rw [if_neg (by omega),if_neg (by simp [h2]),if_pos h3];exact qxw n l r.ID (fun q hq=>⟨hp.1 q hq,(h q (by simp [hq])).2⟩) hp.2
theorem q5e {α:Type} {B:List α×Int→Option (LS (List α×Int) (List α))} (N:Nat) (f:Nat→α)
  (hB:∀(k:Nat) (out:List α),k < N→out.length=k→B (out,(k:Int))=some (.next (out++[f k],((k+1:Nat):Int))))
  (hE:∀out:List α,B (out,(N:Int))=some (.done out)):qae B ([],0)=some ((vuv N).map f):=by
 have key:∀(r k:Nat) (out:List α),k+r=N→out.length=k→qae B (out,(k:Int))=some (out++(vw4 k r).map f):=by
  intro r
  induction r with
  | zero =>
   intro k out hk ho;have:k=N:=by omega
   subst this;rw [qad (hE out)];simp
  | succ r ih =>
   intro k out hk ho;rw [qac (hB k out (by omega) ho),ih (k+1) _ (by omega) (by simp [ho])];simp [vzs]
 have h:=key N 0 [] (by omega) rfl;simp only [vxn,vuu] at h;rw [h,vuw]
theorem vno (c:Int):∃v,qeb c=some v∧qie v=true∧v.Str.length≤2:=by
 unfold qeb;by_cases h0:(vxq c 12 == 0)=true
 ·rw [if_pos h0];exact ⟨_,rfl,by decide,by decide⟩
 rw [if_neg h0];by_cases h1:(vxq c 12 == 1)=true
 ·rw [if_pos h1];exact ⟨_,rfl,by decide,by decide⟩
 rw [if_neg h1];by_cases h2:(vxq c 12 == 2)=true
 ·rw [if_pos h2];exact ⟨_,rfl,by decide,by decide⟩
 rw [if_neg h2];by_cases h3:(vxq c 12 == 3)=true
 ·rw [if_pos h3];exact ⟨_,rfl,by decide,by decide⟩
 rw [if_neg h3];by_cases h4:(vxq c 12 == 4)=true
 ·rw [if_pos h4];exact ⟨_,rfl,by decide,by decide⟩
 rw [if_neg h4];by_cases h5:(vxq c 12 == 5)=true
 ·rw [if_pos h5];exact ⟨_,rfl,by decide,by decide⟩
 rw [if_neg h5];by_cases h6:(vxq c 12 == 6)=true
 ·rw [if_pos h6];exact ⟨_,rfl,by decide,by decide⟩
 rw [if_neg h6];by_cases h7:(vxq c 12 == 7)=true
 ·rw [if_pos h7];exact ⟨_,rfl,by decide,by decide⟩
 rw [if_neg h7];by_cases h8:(vxq c 12 == 8)=true
 ·rw [if_pos h8];exact ⟨_,rfl,by decide,by decide⟩
 rw [if_neg h8];by_cases h9:(vxq c 12 == 9)=true
 ·rw [if_pos h9];exact ⟨_,rfl,by decide,by decide⟩
 rw [if_neg h9];by_cases h10:(vxq c 12 == 10)=true
 ·rw [if_pos h10];exact ⟨_,rfl,by decide,by decide⟩
 rw [if_neg h10];exact ⟨_,rfl,by decide,by decide⟩
def ofV (c:Int):Value:=(qeb c).getD ⟨0,0,[]⟩
theorem q84 (c:Int):qeb c=some (ofV c)∧qie (ofV c)=true∧(ofV c).Str.length≤2:=by
 obtain ⟨v,h1,h2,h3⟩:=vno c;have:ofV c=v:=by unfold ofV;rw [h1];rfl
 rw [this];exact ⟨h1,h2,h3⟩
def vsi (x:Drossref03_Recipe) (i k:Nat):Value:=ofV (((x.Rows.getD i []).getD k 0))
def qq9 (x:Drossref03_Recipe):Nat:=1+x.Gap.toNat % 3
def q85 (x:Drossref03_Recipe) (n i:Nat):Row:=⟨((1+i * qq9 x:Nat):Int),(vuv n).map (vsi x i)⟩
def qod:List (List UInt8):=[[97],[98],[99],[100],[101],[102],[103],[104]]
def q86 (x:Drossref03_Recipe) (n:Nat):Table:=⟨[114],qod.take n,(vuv x.Rows.length).map (q85 x n)⟩
theorem vbf (x:Drossref03_Recipe) (n i:Nat) (hn:n≤8) (hi:i < x.Rows.length) (hl:∀r∈x.Rows,r.length≤1048576) :
  qae (qgp x (n:Int) (i:Int)) ([],0)=some ((vuv n).map (vsi x i)):=by
 have hx:x.Rows[i]?=some (x.Rows.getD i []):=by simp [vy7,vt5 hi]
 have hxl:=hl _ (vup hx);refine q5e n (vsi x i) (fun k out hk ho=>?_) (fun out=>by simp [qgp]);have hk':((k:Int) < (n:Int)):=by omega
 have hroom:qao (out.length+1) 32=true:=qlf (by omega) (by omega);have hw:=qkk (k:=k) (by omega);simp only [qgp,if_pos hk',qaa hx,vvn];by_cases h:k < (x.Rows.getD i []).length
 ·have h':((k:Int) < ((x.Rows.getD i []).length:Int)):=by omega
  have hg:(x.Rows.getD i [])[k]?=some ((x.Rows.getD i []).getD k 0):=by
   generalize x.Rows.getD i []=l at h;simp [vy7,vt5 h]
  simp only [if_pos h',qaa hg,vvn,(q84 _).1,hroom,if_true,hw];rfl
 ·have h':¬((k:Int) < ((x.Rows.getD i []).length:Int)):=by omega
  have hg:(x.Rows.getD i []).getD k 0=0:=by
   generalize x.Rows.getD i []=l at h;simp [vy7,vt6 (show l.length≤k by omega)]
  simp only [if_neg h',(q84 _).1,vvn,hroom,if_true,hw];unfold vsi;rw [hg]
theorem vnp (x:Drossref03_Recipe) (n:Nat) (hn:n≤8) (hr:x.Rows.length≤8) (hl:∀r∈x.Rows,r.length≤1048576) (hg:0≤x.Gap∧x.Gap≤255):qik x (n:Int)=some (q86 x n):=by
 have h1:(0:Int)≤(n:Int):=by omega
 have h2:(n:Int)≤8:=by omega
 have hroom:qao ((qod.take n).length) 16=true:=qlf (by simp;omega) (by omega);have ho:qae (qgq x (n:Int)) ([],0)=some ((vuv x.Rows.length).map (q85 x n)):=by
  refine q5e x.Rows.length (q85 x n) (fun i out hi ho=>?_) (fun out=>by simp [qgq]);have hi':((i:Int) < (x.Rows.length:Int)):=by omega
  have hroom:qao (out.length+1) 32=true:=qlf (by omega) (by omega);have hm:vxq x.Gap 3=((x.Gap.toNat % 3:Nat):Int):=by
   rw [Int.tmod_eq_emod_of_nonneg hg.1];omega
  have e1:vxs.wrap (vxq x.Gap 3)=((x.Gap.toNat % 3:Nat):Int):=by rw [hm,qav (by omega) (by omega)]
  have e2:vxs.wrap (1+vxs.wrap (vxq x.Gap 3))=((qq9 x:Nat):Int):=by
   rw [e1,qav (by omega) (by omega)];unfold qq9;omega
  have hs:qq9 x≤3:=by unfold qq9;omega
  have hmul:i * qq9 x≤8 * 3:=vz0 (by omega) hs;have e3:vxs.wrap ((i:Int) * ((qq9 x:Nat):Int))=((i * qq9 x:Nat):Int):=by
   rw [←Int.natCast_mul,qav (by omega) (by omega)]
  have e4:vxs.wrap (1+vxs.wrap ((i:Int) * vxs.wrap (1+vxs.wrap (vxq x.Gap 3))))=((1+i * qq9 x:Nat):Int):=by
   rw [e2,e3,qav (by omega) (by omega)];omega
  simp only [qgq,if_pos hi',vbf x n i hn hi hl,vvn,hroom,if_true,e4,qkk (k:=i) (by omega)];rfl
 simp only [qik,if_pos h1,if_pos h2,vvn,vxr];have hroom':qao ((List.take n [[97],[98],[99],[100],[101],[102],[103],[104]]:List (List UInt8)).length) 16=true:=hroom;rw [if_pos hroom',ho];rfl
theorem vfb {n:Nat} (h:n≤8):qz4 (qod.take n)=true:=by
 have:n=0∨n=1∨n=2∨n=3∨n=4∨n=5∨n=6∨n=7∨n=8:=by omega
 rcases this with rfl | rfl | rfl | rfl | rfl | rfl | rfl | rfl | rfl <;> decide
theorem vbg (x:Drossref03_Recipe) (n:Nat) (hn:n≤8) (hr:x.Rows.length≤8):qbe (q86 x n)=0:=by
 have h1:¬(qvs [114]=false):=by decide
 have hlen:(qod.take n).length=n:=by simp [qod];omega
 have h2:¬(qod.take n).length > 16:=by omega
 have h3:¬((vuv x.Rows.length).map (q85 x n)).length > 1000:=by simp;omega
 have h4:¬(qz4 (qod.take n)=false):=by rw [vfb hn];simp
 have hc:qet (qod.take n).length 0 ((vuv x.Rows.length).map (q85 x n))=0:=by
  refine qxw _ _ _ (fun r hr=>?_) ?_
  ·obtain ⟨i,hi,rfl⟩:=vwz.1 hr;refine ⟨by simp only [q85];omega,by simp only [q85,vuf,vwp];omega,?_⟩;rw [vv7];intro v hv;obtain ⟨k,hk,rfl⟩:=vwz.1 hv;exact (q84 _).2.1
  ·rw [vzr];refine vy1.imp ?_ vx8;intro a b hab;simp only [q85];have hs:1≤qq9 x:=by unfold qq9;omega
   have:(a+1) * qq9 x≤b * qq9 x:=vvi _ hab;rw [Nat.add_mul,Nat.one_mul] at this;omega
 show (if qvs [114]=false then (1:Int) else if (qod.take n).length > 16 then 3 else if ((vuv x.Rows.length).map (q85 x n)).length > 1000 then 3 else if qz4 (qod.take n)=false then 1 else qet (qod.take n).length 0 ((vuv x.Rows.length).map (q85 x n)))=0;rw [if_neg h1,if_neg h2,if_neg h3,if_neg h4];exact hc
theorem vsj {n:Int} (h:okI .u8 n):0≤n∧n≤255:=by
 have h':(decide (vyx .u8≤n) && decide (n≤vyw .u8))=true:=h;simp only [vti,decide_eq_true_eq] at h';have e1:vyx .u8=0:=by decide
 have e2:vyw .u8=255:=by decide
 rw [e1,e2] at h';exact h'
theorem q5f (a b:Row):∀l:List Int,vnj a b l=0↔∀i∈l,qz3 (qf3 a i.toNat) (qf3 b i.toNat)=0
 | []=>by simp [vnj]
 | i :: l=>by
  simp only [vnj,List.forall_mem_cons];by_cases h:qz3 (qf3 a i.toNat) (qf3 b i.toNat)=0
  ·rw [if_neg (by omega),q5f a b l];exact ⟨fun k=>⟨h,k⟩,fun k=>k.2⟩
  ·rw [if_pos (by omega)];exact ⟨fun k=>absurd k h,fun k=>absurd k.1 h⟩
structure Good (t:Table):Prop where
 ok:TableOk t
 err:qbe t=0
 attrs:t.Attrs.length≤5
 rows:t.Rows.length≤8
theorem vbh (x:Drossref03_Recipe) (n:Nat) (hn:n≤8) (hr:x.Rows.length≤8):TableOk (q86 x n):=by
 refine ⟨?_,?_,?_,?_⟩
 ·simp only [q86,vuj];omega
 ·simp only [q86,vuf,vwp];omega
 ·intro r h;obtain ⟨i,_,rfl⟩:=vwz.1 h;simp only [q85,vuf,vwp];omega
 ·intro r h v hv;obtain ⟨i,_,rfl⟩:=vwz.1 h;obtain ⟨k,_,rfl⟩:=vwz.1 hv;have:=(q84 ((x.Rows.getD i []).getD k 0)).2.2;unfold vsi;omega
theorem q7t (x:Drossref03_Recipe) (hr:x.Rows.length≤8):Good (q86 x (x.Attrs.toNat % 6)):=by
 refine ⟨vbh _ _ (by omega) hr,vbg _ _ (by omega) hr,?_,?_⟩
 ·simp only [q86,vuj];omega
 ·simp only [q86,vuf,vwp];omega
theorem q87 {a:Nat} (ha:a < 4294967296) {i:Nat} (hi:i≤32):vb3 (a:Int) (i:Int)=a.testBit i:=by
 unfold vb3;rw [vxr];exact vnc ha hi
def vpd (n:Nat) (s:Int):List Int:=((vuv n).map fun (k:Nat)=>(k:Int)).filter fun a=>vb3 s a
theorem viy {n:Nat} {s i:Int} (h:i∈vpd n s):0≤i∧i < (n:Int):=by
 unfold vpd at h;obtain ⟨h1,_⟩:=vwy.1 h;obtain ⟨k,hk,rfl⟩:=vwz.1 h1;have:=vw1.1 hk;omega
theorem viz {r:Row} {i:Int} (h0:0≤i) (h1:i < (r.Values.length:Int)):idx r.Values i=some (qf3 r i.toNat) :=
 vix (a:=r) (l:=[i]) (fun j hj=>by rcases vw2.1 hj with rfl;exact ⟨h0,h1⟩) (by simp)
theorem q0f {α β:Type} (p:α→Bool) (f:α→β):∀(l:List α) (o:List β),l.foldl (fun o x=>if p x then o++[f x] else o) o=o++(l.filter p).map f
 | [],o=>by simp
 | x :: l,o=>by
  rw [vx1,q0f p f l,vy4];by_cases h:p x=true
  ·rw [if_pos h,if_pos h];simp
  ·rw [if_neg h,if_neg h]
theorem vfc (s a:Int):qjg s a=some (decide (0≤a) && (decide (a < 32) && vb3 s a)):=by
 unfold qjg;by_cases h0:a≥0
 ·rw [if_pos h0,decide_eq_true (show 0≤a from h0)];by_cases h1:a < 32
  ·rw [if_pos h1,decide_eq_true h1,if_neg (by omega)];rfl
  ·rw [if_neg h1,decide_eq_false h1];rfl
 ·rw [if_neg h0,decide_eq_false (show ¬0≤a from h0)];rfl
theorem q88 (a b:Row) (n:Nat) (s:Int):vnj a b (vpd n s)=0↔∀i:Int,0≤i→i < (n:Int)→vb3 s i=true→qz3 (qf3 a i.toNat) (qf3 b i.toNat)=0:=by
 rw [q5f];constructor
 ·intro h i h0 h1 hb;refine h i ?_;unfold vpd;rw [vwy,vwz];exact ⟨⟨i.toNat,by rw [vw1];omega,by omega⟩,hb⟩
 ·intro h i hi;obtain ⟨h0,h1⟩:=viy hi;exact h i h0 h1 (vwy.1 hi).2
def q5g (r:Row) (s:Int):List Value:=((vuv r.Values.length).filter fun (k:Nat)=>vb3 s k).map (qf3 r)
theorem qxx (r:Row) (s:Int) (h:r.Values.length≤16):qfg r s=some (q5g r s):=by
 have hl:=qhq (vuv r.Values.length) (fun (o:List Value) i=>(o,i)) (qe5 r s) (fun o (k:Nat)=>if vb3 s k then o++[qf3 r k] else o) id (fun k o=>o.length≤k) (b0:=[]) (s0:=([],0)) rfl (vvb 0)
  (fun k o z hz hk hI=>by
   have hzk:z=k:=by
    have:=(vt7.1 hz).2;simpa using this.symm
   subst hzk;rw [vwp] at hk;refine ⟨?_,by cases vb3 s z <;> simp <;> omega⟩;have hx:=viz (r:=r) (i:=(z:Int)) (by omega) (by omega);rw [vxr] at hx;have hh:(decide (0≤(z:Int)) && (decide ((z:Int) < 32) && vb3 s z))=vb3 s z:=by
    rw [decide_eq_true (show 0≤(z:Int) by omega),decide_eq_true (show (z:Int) < 32 by omega)];rfl
   simp only [qe5,if_pos (show (z:Int) < (r.Values.length:Int) by omega),vfc,hh,hx,vvn,qlf (show o.length+1≤1073741824 by omega) (show 32≤65536 by omega),if_true,wqn z];cases vb3 s z <;> rfl)
  (fun o _=>by rw [vwp];simp [qe5])
 simp only [qfg,hl,id,vvn];rw [q0f];rfl
theorem q0g {α β:Type} (f g:α→β):∀l:List α,l.map f=l.map g↔∀x∈l,f x=g x
 | []=>by simp
 | x :: l=>by simp [q0g f g l]
theorem vbi {n:Nat} (a b:Row) (s:Int) (ha:a.Values.length=n) (hb:b.Values.length=n) (hn:n≤16) (hs:vkh a):qey a b s=some (decide (vnj a b (vpd n s)=0)):=by
 have h1:∀v∈q5g a s,v.Str.length≤1073741824:=by
  intro v hv;obtain ⟨k,hk,rfl⟩:=vwz.1 hv;have hk':=vw1.1 (vwy.1 hk).1;have:qf3 a k=a.Values[k]:=by simp [qf3,vy7,vt5 hk']
  rw [this];exact hs _ (vwk hk')
 have hlen:(q5g a s).length≤1073741824:=by
  unfold q5g;rw [vuf];have:=vwn (fun (k:Nat)=>vb3 s k) (vuv a.Values.length);rw [vwp] at this;omega
 simp only [qey,qxx a s (by omega),qxx b s (by omega),vvn,vm7 _ _ hlen h1];congr 1;rw [vxj,decide_eq_true_eq,decide_eq_true_eq];unfold q5g;rw [ha,hb,q0g,q88];constructor
 ·intro h i h0 h2 hi;rw [qsf];obtain ⟨k,rfl⟩:=vv5 h0;rw [vxr];exact h k (vwy.2 ⟨by rw [vw1];omega,hi⟩)
 ·intro h k hk;obtain ⟨h2,h3⟩:=vwy.1 hk;have:=h (k:Int) (by omega) (by have:=vw1.1 h2;omega) h3
  rwa [vxr,qsf] at this
def qli (p:Row→Row→Bool) (rows:List Row) (i:Nat) (a:Row):Bool:=(rows.take i).all fun b=>p a b
def vsk (n:Nat) (a b:Row) (s:Nat):Prop:=∀k,k < n→s.testBit k=true→qz3 (qf3 a k) (qf3 b k)=0
theorem vfd {n:Nat} (hn:n≤16) (a b:Row) {s:Nat} (hs:s < 4294967296):vnj a b (vpd n (s:Int))=0↔vsk n a b s:=by
 rw [q88];constructor
 ·intro h k hk hb;have:=h (k:Int) (by omega) (by omega) (by rw [q87 hs (by omega)];exact hb)
  rwa [vxr] at this
 ·intro h i h0 h1 hb;obtain ⟨k,rfl⟩:=vv5 h0;rw [q87 hs (by omega)] at hb;rw [vxr];exact h k (by omega) hb
structure StOk (t:Table) (s:Nat) (A B:Int):Prop where
 hs:s < 2 ^ t.Attrs.length
 a0:0≤A
 a1:A < (t.Attrs.length:Int)
 b0:-1≤B
 b1:B < (t.Attrs.length:Int)
theorem vsl {n s s':Nat} (hs:s < 2 ^ n) (h:∀k,s'.testBit k=true→s.testBit k=true):s' < 2 ^ n :=
 vnd fun i hi=>by
  cases hb:s'.testBit i with
  | false=>rfl
  | true=>rw [←h i hb];exact vsf hs hi
theorem StOk.sub {t:Table} {s s':Nat} {A B:Int} (h:StOk t s A B) (hs:∀k,s'.testBit k=true→s.testBit k=true):StOk t s' A B:=⟨vsl h.hs hs,h.a0,h.a1,h.b0,h.b1⟩
end Go.Proofs.YtmlegeeinnkhkaaGreat
namespace Go.Ab
open Go
theorem qiz {α:Type} (B:List α×Int→Option (LS (List α×Int) (List α))) (f:Nat→List α) (N M c:Nat)
  (h:∀(k:Nat) out,k < N→out.length+c≤M→B (out,(k:Int))=some (.next (out++f k,((k+1:Nat):Int)))) (hf:∀k,k < N→(f k).length≤c)
  (he:∀out,B (out,(N:Int))=some (.done out)):∀(d k:Nat) (out:List α),k+d=N→out.length+d * c≤M→qae B (out,(k:Int))=some (out++(vw4 k d).flatMap f):=by
 intro d
 induction d with
 | zero =>
  intro k out hk _;obtain rfl:k=N:=by omega
  rw [qad (he out)];simp
 | succ d ih =>
  intro k out hk hl;have hm:(d+1) * c=d * c+c:=vz4 d c;have hc:=hf k (by omega);rw [qac (h k out (by omega) (by omega)),ih (k+1) (out++f k) (by omega) (by rw [vud];omega)];rw [vzs,vwc,vts]
def qkn {α:Type} (n:Nat) (p:Nat→Nat→Bool) (mk:Nat→Nat→α):List α :=
 (vw4 0 n).flatMap fun i=>(vw4 (i+1) (n - (i+1))).flatMap fun k=>if p i k then [mk i k] else []
theorem quz {α β:Type} (n:Nat) (p:Nat→Nat→Bool) (mk:Nat→Nat→α) (g:α→β):(qkn n p mk).map g=qkn n p fun i k=>g (mk i k):=by
 unfold qkn;rw [vzc];congr 1;funext i;rw [vzc];congr 1;funext k;split <;> rfl
theorem qjr {α β:Type} (f:α→List β) (c:Nat):∀l:List α,(∀x∈l,(f x).length≤c)→(l.flatMap f).length≤l.length * c
 | [],_=>by simp
 | x :: l,h=>by
  have h1:=h x (by simp);have h2:=qjr f c l fun y hy=>h y (by simp [hy])
  rw [vwc,vud,vwl,vz4];omega
theorem q2e {α:Type} (b:Bool) (x:α):(if b then [x] else []).length≤1:=by cases b <;> simp
theorem qp9 {α:Type} (n i:Nat) (p:Nat→Nat→Bool) (mk:Nat→Nat→α):((vw4 (i+1) (n - (i+1))).flatMap fun k=>if p i k then [mk i k] else []).length≤n:=by
 have:=qjr (fun k=>if p i k then [mk i k] else []) 1 (vw4 (i+1) (n - (i+1))) fun k _=>q2e _ _
 rw [vza] at this;omega
theorem qq2 {α:Type} (n:Nat) (p:Nat→Nat→Bool) (mk:Nat→Nat→α):(qkn n p mk).length≤n * n:=by
 have:=qjr (fun i=>(vw4 (i+1) (n - (i+1))).flatMap fun k=>if p i k then [mk i k] else []) n (vw4 0 n) fun i _=>qp9 n i p mk
 rwa [vza] at this
theorem qhj {α:Type} {n:Nat} {p:Nat→Nat→Bool} {mk:Nat→Nat→α} {x:α}:x∈qkn n p mk↔∃i k,i < k∧k < n∧p i k=true∧x=mk i k:=by
 unfold qkn;simp only [vuo,vzj];constructor
 ·rintro ⟨i,hi,k,hk,hx⟩;split at hx
  ·rename_i hp;simp only [vw2] at hx;exact ⟨i,k,by omega,by omega,hp,hx⟩
  ·simp at hx
 ·rintro ⟨i,k,h1,h2,hp,rfl⟩;exact ⟨i,by omega,k,by omega,by simp [hp]⟩
theorem qk4 {α β:Type} {f g:α→List β}:∀{l:List α},(∀x∈l,f x=g x)→l.flatMap f=l.flatMap g
 | [],_=>rfl
 | x :: l,h=>by rw [vwc,vwc,h x (by simp),qk4 fun y hy=>h y (by simp [hy])]
theorem q5h {α:Type} {n:Nat} {p q:Nat→Nat→Bool} {mk mk':Nat→Nat→α} (h:∀i k,i < k→k < n→p i k=q i k∧mk i k=mk' i k):qkn n p mk=qkn n q mk':=by
 unfold qkn;refine qk4 fun i hi=>qk4 fun k hk=>?_
 simp only [vzj] at hi hk;obtain ⟨h1,h2⟩:=h i k (by omega) (by omega);rw [h1,h2]
end Go.Ab
namespace Go.Proofs.YtmlegeeinnkhkaaGreat
open Go Go.Ab
structure LnkT (t:Table) (l:Linkage):Prop where
 err:qbe t=0
 ok:TableOk t
 rows:t.Rows.length≤300
 attrs:t.Attrs.length≤16
 rules:l.Rules.length≤1000000
 rule:∀r∈l.Rules,r.length≤1000000
 nblock:l.Block.length≤1000000
 nsurv:l.Survive.length≤1000000
 block:∀k∈l.Block,0≤k∧k < (t.Attrs.length:Int)
def qnd (l:Linkage) (a b:Row):Bool:=l.Block.isEmpty || l.Block.any fun k=>decide (qf3 a k.toNat=qf3 b k.toNat)
def qtv (a b:Row) (r:List Similar):Bool:=r.all fun c=>(qz8 a b c).1
def qoe (l:Linkage) (a b:Row):Int:=q7k (l.Rules.findIdx? (qtv a b))
def qo4 (l:Linkage) (a b:Row):Bool:=qnd l a b && decide (qoe l a b≥0)
theorem vnq (l:Linkage) (h1:l.Rules.length≤1000000) (h2:∀r∈l.Rules,r.length≤1000000) (a b:Row):qka l a b=some (qoe l a b):=by
 have hin:∀x∈l.Rules,qfp x a b=some (qtv a b x):=by
  intro x hx;have hc:qbi x (fun y=>qfb y a b)=some (x.any fun c=>!(qz8 a b c).1):=quw x _ (fun c=>!(qz8 a b c).1) (fun c _=>by
   simp only [qfb,ve6,vvn]) (by have:=h2 x hx;omega)
  simp only [qfp,hc,vvn,qtv];congr 1;rw [vxj];simp
 simp only [qka,qy1 l.Rules (fun y=>qfp y a b) (qtv a b) hin (by omega),vvn,qoe]
theorem qtw (l:Linkage) (a b:Row) (i:Nat) {r:List Similar} (hr:l.Rules[i]?=some r) (hl:r.length≤1000000):qae (qd2 a b l (i:Int)) (true,0)=some (qtv a b r):=by
 have h:=qhq r (fun (q:Bool) (k:Int)=>(q,k)) (qd2 a b l (i:Int)) (fun q c=>q && (qz8 a b c).1) id (fun _ _=>True) (b0:=true) (s0:=(true,0)) rfl trivial
  (fun k q x hx hk _=>by
   refine ⟨?_,trivial⟩;simp only [qd2,qaa hr,vvn,if_pos (qaj hx),qaa hx,vng,wqn k];cases q <;> simp)
  (fun q _=>by simp [qd2,qaa hr])
 rw [h];simp only [id,qtv];congr 1;have key:∀(l:List Similar) (q:Bool),l.foldl (fun q c=>q && (qz8 a b c).1) q=(q && l.all fun c=>(qz8 a b c).1):=by
  intro l
  induction l with
  | nil=>intro q;simp
  | cons x l ih=>intro q;simp only [vx1,List.all_cons,ih,Bool.and_assoc]
 rw [key];simp
theorem vnr (l:Linkage) (h1:l.Rules.length≤1000000) (h2:∀r∈l.Rules,r.length≤1000000) (a b:Row):qh1 a b l=some (qoe l a b):=by
 have h:=qj2 l.Rules (qd3 a b l) (qtv a b)
  (fun k x hx hk hp=>by
   simp only [qd3,if_pos (qaj hx),qtw l a b k hx (h2 x (vup hx)),vvn,hp,vtk,if_false,wqn k])
  (fun k x hx hp=>by
   simp only [qd3,if_pos (qaj hx),qtw l a b k hx (h2 x (vup hx)),vvn,hp,if_true])
  (by simp [qd3])
 simp only [qh1,h,vvn,qoe];cases l.Rules.findIdx? (qtv a b) <;> rfl
theorem qv2 {t:Table} (h:qbe t=0) {r:Row} (hr:r∈t.Rows):r.Values.length=t.Attrs.length:=(qlx h).1 r hr
theorem q89 {t:Table} (h:qbe t=0) {r:Row} (hr:r∈t.Rows) {k:Int} (hk:0≤k∧k < (t.Attrs.length:Int)):idx r.Values k=some (qf3 r k.toNat):=by
 have hl:=qv2 h hr;have e:k=((k.toNat:Nat):Int):=by omega
 have hlt:k.toNat < r.Values.length:=by omega
 conv=>lhs;rw [e]
 rw [q6x,qf3,vwd,vt5 hlt];rfl
theorem vki {t:Table} {l:Linkage} (T:LnkT t l) {a b:Row} (ha:a∈t.Rows) (hb:b∈t.Rows):qf7 l a b=some (qnd l a b):=by
 unfold qnd;by_cases h0:l.Block=[]
 ·simp [qf7,h0]
 ·have c:((l.Block.length:Int) == 0)=false:=by
   rw [beq_eq_false_iff_ne];intro h;exact h0 (vwm.1 (by omega))
  have e:l.Block.isEmpty=false:=by simpa using h0
  simp only [qf7,c,vtk,if_false,e,Bool.false_or];have:=T.nblock;rw [qkw l.Block _ (fun k=>decide (qf3 a k.toNat=qf3 b k.toNat)) (fun k hk=>by
   simp only [qgl,q89 T.err ha (T.block k hk),q89 T.err hb (T.block k hk),vvn,ve5]) (by omega)]
  rfl
theorem vfe {t:Table} {l:Linkage} (T:LnkT t l) {a b:Row} (ha:a∈t.Rows) (hb:b∈t.Rows) {k:Nat} (hk:k < t.Attrs.length):qey a b ((2 ^ k:Nat):Int)=some (decide (qf3 a k=qf3 b k)):=by
 have hs:vkh a:=fun v hv=>T.ok.short a ha v hv
 have hk16:k < 16:=vve hk T.attrs;rw [vbi a b _ (qv2 T.err ha) (qv2 T.err hb) T.attrs hs];congr 1;have h2:2 ^ k < 4294967296:=vve (vz3 (by omega) hk16) (by decide);rw [vxj,decide_eq_true_eq,decide_eq_true_eq,vfd T.attrs a b h2];constructor
 ·intro h;exact (qsf _ _).1 (h k hk (by simp))
 ·intro h j hj hb;rw [Nat.testBit_two_pow,decide_eq_true_eq] at hb;subst hb;exact (qsf _ _).2 h
theorem vsm {t:Table} {l:Linkage} (T:LnkT t l) {a b:Row} (ha:a∈t.Rows) (hb:b∈t.Rows):qd4 a b l=some (qnd l a b):=by
 unfold qnd;by_cases h0:l.Block=[]
 ·simp [qd4,h0]
 ·have c:((l.Block.length:Int) == 0)=false:=by
   rw [beq_eq_false_iff_ne];intro h;exact h0 (vwm.1 (by omega))
  have e:l.Block.isEmpty=false:=by simpa using h0
  have hnb:=T.nblock;have hag:∀k∈l.Block,qey a b (vxt.wrap (1 * 2 ^ (min k.toNat 32)))=some (decide (qf3 a k.toNat=qf3 b k.toNat)):=by
   intro k hk;obtain ⟨h1,h2⟩:=T.block k hk;have hk':k.toNat < t.Attrs.length:=by omega
   have h16:k.toNat < 16:=vve hk' T.attrs;have hlt:2 ^ k.toNat < 4294967296:=vve (vz3 (by omega) h16) (by decide);have hw:vxt.wrap (1 * 2 ^ (min k.toNat 32))=((2 ^ k.toNat:Nat):Int):=vio (by omega);rw [hw];exact vfe T ha hb hk'
  have h:=qme l.Block (qct a b l) (fun k=>!decide (qf3 a k.toNat=qf3 b k.toNat)) true
   (fun k x hx hk hp=>by
    have hm:=vup hx;have hn:¬x < 0:=by have:=T.block x hm;omega
    have hp':decide (qf3 a x.toNat=qf3 b x.toNat)=false:=by simpa using hp
    simp only [qct,if_pos (qaj hx),qaa hx,vvn,if_neg hn,hag x hm,hp',vtk,if_false,wqn k])
   (fun k x hx hp=>by
    have hm:=vup hx;have hn:¬x < 0:=by have:=T.block x hm;omega
    have hp':decide (qf3 a x.toNat=qf3 b x.toNat)=true:=by simpa using hp
    simp only [qct,if_pos (qaj hx),qaa hx,vvn,if_neg hn,hag x hm,hp',if_true])
   (by simp [qct])
  simp only [qd4,c,vtk,if_false,h,vvn,e,Bool.false_or];have hall:(l.Block.all fun k=>!decide (qf3 a k.toNat=qf3 b k.toNat))=!(l.Block.any fun k=>decide (qf3 a k.toNat=qf3 b k.toNat)):=by
   rw [vxj];simp
  rw [hall];rcases vxi (l.Block.any fun k=>decide (qf3 a k.toNat=qf3 b k.toNat)) with q | q <;> simp only [q] <;> rfl
theorem vff {t:Table} {l:Linkage} (T:LnkT t l) {a b:Row} (ha:a∈t.Rows) (hb:b∈t.Rows) (hne:a.ID≠b.ID):qez a b l=some (qo4 l a b):=by
 have c:(a.ID != b.ID)=true:=by simp [hne]
 simp only [qez,c,if_true,vsm T ha hb,vnr l T.rules T.rule,vvn,qo4];cases qnd l a b <;> simp
def qe9 (t:Table) (i:Nat):Row:=t.Rows.getD i ⟨0,[]⟩
theorem qgt {t:Table} {i:Nat} (h:i < t.Rows.length):t.Rows[i]?=some (qe9 t i):=by simp [qe9,vy7,vt5 h]
theorem qly {t:Table} {i:Nat} (h:i < t.Rows.length):qe9 t i∈t.Rows:=vup (qgt h)
theorem vns {t:Table} (he:qbe t=0) {i k:Nat} (hi:i < t.Rows.length) (hk:k < t.Rows.length) (h:i≠k):(qe9 t i).ID≠(qe9 t k).ID:=by
 intro e;have hn:=(qlx he).2;have g1:(ids t)[i]?=some (qe9 t i).ID:=by simp [ids,qgt hi]
 have g2:(ids t)[k]?=some (qe9 t k).ID:=by simp [ids,qgt hk]
 have l1:=qam g1;rw [e,←g2] at g1;exact h ((vy9 l1 hn).1 g1)
def mT (t:Table) (l:Linkage) (i k:Nat):Bool:=qo4 l (qe9 t i) (qe9 t k)
theorem qu0 {n:Nat} (h:n≤1000000):qao n 16=true:=by
 unfold qao;simp only [decide_eq_true_eq];omega
theorem q5i {t:Table} {l:Linkage} (T:LnkT t l):qfq t l=some (qkn t.Rows.length (mT t l) fun i k=>Arr2_int.mk (i:Int) (k:Int)):=by
 have hn:=T.rows;have qr9:∀(i:Nat),i < t.Rows.length→∀out:List Arr2_int,out.length≤500000→qae (qc8 t l (i:Int) (qe9 t i)) (out,((i+1:Nat):Int))=some (out++(vw4 (i+1) (t.Rows.length - (i+1))).flatMap fun k=>if mT t l i k then [Arr2_int.mk (i:Int) (k:Int)] else []):=by
  intro i hi out hout;refine qiz (qc8 t l (i:Int) (qe9 t i)) (fun k=>if mT t l i k then [Arr2_int.mk (i:Int) (k:Int)] else []) t.Rows.length 600000 1 ?_ (fun k _=>q2e _ _) ?_ _ _ out (by omega) (by omega)
  ·intro k out hk hl;have c:((k:Int) < (t.Rows.length:Int)):=by omega
   have hb:=qgt hk;have hr:qao (out.length+1) 16=true:=qu0 (by omega);have w:=wqn k;have hm:mT t l i k=(qnd l (qe9 t i) (qe9 t k) && decide (qoe l (qe9 t i) (qe9 t k)≥0)):=rfl;rcases vxi (qnd l (qe9 t i) (qe9 t k)) with q | q
   ·simp only [qc8,if_pos c,qaa hb,vvn,vki T (qly hi) (qly hk),q,if_true,vnq l T.rules T.rule,hm,vyt,w,hr];by_cases f:qoe l (qe9 t i) (qe9 t k)≥0 <;> simp [f]
   ·simp only [qc8,if_pos c,qaa hb,vvn,vki T (qly hi) (qly hk),q,vtk,if_false,hm,vyq,w];simp
  ·intro out;have c:¬((t.Rows.length:Int) < (t.Rows.length:Int)):=by omega
   simp only [qc8,if_neg c]
 have outer:=qiz (qgm t l) (fun i=>(vw4 (i+1) (t.Rows.length - (i+1))).flatMap fun k=>if mT t l i k then [Arr2_int.mk (i:Int) (k:Int)] else []) t.Rows.length 200000 300 (by
   intro i out hi hl;have c:((i:Int) < (t.Rows.length:Int)):=by omega
   have w:=wqn i;simp only [qgm,if_pos c,qaa (qgt hi),vvn,w,qr9 i hi out (by omega)]) (fun i _=>by
   have:=qp9 t.Rows.length i (mT t l) fun i k=>Arr2_int.mk (i:Int) (k:Int)
   omega) (by
   intro out;have c:¬((t.Rows.length:Int) < (t.Rows.length:Int)):=by omega
   simp only [qgm,if_neg c]) t.Rows.length 0 [] (by omega) (by simp;omega)
 simp only [qfq];simp only [vxn,vuu] at outer;rw [outer];rfl
theorem vfg {t:Table} {l:Linkage} (T:LnkT t l):qek t l=some (qkn t.Rows.length (mT t l) fun i k=>Arr2_int64.mk (qe9 t i).ID (qe9 t k).ID):=by
 have hn:=T.rows;have qr9:∀(i:Nat),i < t.Rows.length→∀out:List Arr2_int64,out.length≤500000→qae (qbm t l (i:Int)) (out,((i+1:Nat):Int))=some (out++(vw4 (i+1) (t.Rows.length - (i+1))).flatMap fun k=>if mT t l i k then [Arr2_int64.mk (qe9 t i).ID (qe9 t k).ID] else []):=by
  intro i hi out hout;have key:=qiz (fun s:List Arr2_int64×Int=>if s.2≤(i:Int) then none else qbm t l (i:Int) s) (fun k=>if i < k then (if mT t l i k then [Arr2_int64.mk (qe9 t i).ID (qe9 t k).ID] else []) else []) t.Rows.length 600000 1;have key2:∀(d k:Nat) (out:List Arr2_int64),i < k→k+d=t.Rows.length→out.length+d≤600000→qae (qbm t l (i:Int)) (out,(k:Int))=some (out++(vw4 k d).flatMap fun k=>if mT t l i k then [Arr2_int64.mk (qe9 t i).ID (qe9 t k).ID] else []):=by
   intro d
   induction d with
   | zero =>
    intro k out _ hk _;have c:¬((k:Int) < (t.Rows.length:Int)):=by omega
    rw [qad (t:=out) (by simp only [qbm,if_neg c])];simp
   | succ d ih =>
    intro k out hik hk hl;have hk':k < t.Rows.length:=by omega
    have c:((k:Int) < (t.Rows.length:Int)):=by omega
    have hr:qao (out.length+1) 16=true:=qu0 (by omega);have w:=wqn k;have hb:qbm t l (i:Int) (out,(k:Int))=some (.next (out++(if mT t l i k then [Arr2_int64.mk (qe9 t i).ID (qe9 t k).ID] else []),((k+1:Nat):Int))):=by
     simp only [qbm,if_pos c,qaa (qgt hi),qaa (qgt hk'),vvn,vff T (qly hi) (qly hk') (vns T.err hi hk' (by omega)),hr,w];show (if mT t l i k=true then _ else _)=_;cases mT t l i k <;> simp
    have h1:=q2e (mT t l i k) (Arr2_int64.mk (qe9 t i).ID (qe9 t k).ID);rw [qac hb,ih (k+1) _ (by omega) (by omega) (by rw [vud];omega),vzs,vwc,vts]
  exact key2 _ (i+1) out (by omega) (by omega) (by omega)
 have outer:=qiz (qee t l) (fun i=>(vw4 (i+1) (t.Rows.length - (i+1))).flatMap fun k=>if mT t l i k then [Arr2_int64.mk (qe9 t i).ID (qe9 t k).ID] else []) t.Rows.length 200000 300 (by
   intro i out hi hl;have c:((i:Int) < (t.Rows.length:Int)):=by omega
   have w:=wqn i;simp only [qee,if_pos c,vvn,w,qr9 i hi out (by omega)]) (fun i _=>by
   have:=qp9 t.Rows.length i (mT t l) fun i k=>Arr2_int64.mk (qe9 t i).ID (qe9 t k).ID
   omega) (by
   intro out;have c:¬((t.Rows.length:Int) < (t.Rows.length:Int)):=by omega
   simp only [qee,if_neg c]) t.Rows.length 0 [] (by omega) (by simp;omega)
 simp only [qek];simp only [vxn,vuu] at outer;rw [outer];rfl
def vkj (t:Table) (l:Linkage):Int :=
 if qbe t≠0 then qbe t else if q47 (t.Attrs.length:Int) l≠0 then q47 (t.Attrs.length:Int) l else if t.Rows.length > 200 then 3 else 0
theorem q9a (t:Table) (l:Linkage) (H:TableOk t) (hr:∀r∈l.Rules,r.length≤1000000) (hR:l.Rules.length≤1000000) (hb:l.Block.length≤1000000) (hs:l.Survive.length≤1000000):qh6 t l=some (vkj t l):=by
 unfold vkj;simp only [qh6,quu t H,vvn,vsg _ l hr hR hb hs,bne_iff_ne];by_cases h1:qbe t=0
 ·by_cases h2:q47 (t.Attrs.length:Int) l=0
  ·by_cases h3:(t.Rows.length:Int) > 200
   ·simp [h1,h2,h3,show t.Rows.length > 200 by omega]
   ·simp [h1,h2,h3,show ¬t.Rows.length > 200 by omega]
  ·simp [h1,h2]
 ·simp [h1]
def qdp (t:Table) (l:Linkage):List Arr2_int64:=qkn t.Rows.length (mT t l) fun i k=>Arr2_int64.mk (qe9 t i).ID (qe9 t k).ID
theorem qv3 {α β:Type} (B:List β×Int→Option (LS (List β×Int) (List β))) (l:List α) (g:α→β) (M:Nat) (hM:l.length≤M)
  (h:∀(k:Nat) out x,l[k]?=some x→out.length+1≤M→B (out,(k:Int))=some (.next (out++[g x],((k+1:Nat):Int)))) (he:∀out,B (out,(l.length:Int))=some (.done out)):qae B ([],0)=some (l.map g):=by
 have h':=qhq l (fun (b:List β) (k:Int)=>(b,k)) B (fun b x=>b++[g x]) id (fun k b=>b.length=k) (b0:=[]) (s0:=([],0)) rfl rfl
  (fun k b x hx hk hb=>⟨h k b x hx (by omega),by rw [vud,hb];rfl⟩) (fun b _=>he b)
 rw [h'];congr 1;have key:∀(l:List α) (b:List β),l.foldl (fun b x=>b++[g x]) b=b++l.map g:=by
  intro l
  induction l with
  | nil=>intro b;simp
  | cons x l ih=>intro b;simp [vx1,ih]
 rw [id,key];simp
theorem vfh {t:Table} {l:Linkage} (T:LnkT t l) (h0:vkj t l=0):qig t l=some (qdp t l,0):=by
 have hn:=T.rows;have hL:qae (qgn t (qkn t.Rows.length (mT t l) fun i k=>Arr2_int.mk (i:Int) (k:Int))) ([],0)=some (qdp t l):=by
  have hlen:=qq2 t.Rows.length (mT t l) fun i k=>Arr2_int.mk (i:Int) (k:Int)
  have h2:t.Rows.length * t.Rows.length≤300 * 300:=vz0 hn hn;rw [qv3 _ (qkn t.Rows.length (mT t l) fun i k=>Arr2_int.mk (i:Int) (k:Int)) (fun p=>Arr2_int64.mk (qe9 t p.x0.toNat).ID (qe9 t p.x1.toNat).ID) 100000 (by omega) (by
   intro k out x hx hl;obtain ⟨i,j,h1,h2,_,rfl⟩:=qhj.1 (vup hx);have hlt:=qam hx;have hr:qao (out.length+1) 16=true:=qu0 (by omega);simp only [qgn,if_pos (qaj hx),qaa hx,vvn,qaa (qgt (show i < t.Rows.length by omega)),qaa (qgt h2),hr,if_true,wqn k,vxr]) (by
   intro out;simp only [qgn,if_neg (vyu _)])]
  rw [quz];rfl
 simp only [qig,q9a t l T.ok T.rule T.rules T.nblock T.nsurv,h0,vvn,bne_self_eq_false,vtk,if_false,q5i T,hL]
theorem q5j (a b:List Arr2_int64) (ha:a.length≤1000000):qdf a b=some (decide (a=b)):=by
 simp only [qdf];by_cases h:a.length=b.length
 ·have e:¬(((a.length:Int) != (b.length:Int))=true):=by simp [h]
  rw [if_neg e,q5d a b h (fun k x y hx hy=>by
   have hk:=qam hx;have hd:((x.x0 == y.x0) && (x.x1 == y.x1))=decide (x=y):=by
    obtain ⟨a0,a1⟩:=x;obtain ⟨b0,b1⟩:=y;rw [vxj];simp
   simp only [qe6,if_pos (qaj hx),qaa hx,qaa hy,vvn,hd,qbk hk (show a.length≤4611686018427387904 by omega)]) (by simp [qe6])]
  by_cases hab:a=b <;> simp [hab]
 ·have e:(((a.length:Int) != (b.length:Int))=true):=by rw [bne_iff_ne];omega
  rw [if_pos e];have:a≠b:=fun hh=>h (by rw [hh])
  simp [this]
def qj3 (W:Nat→Nat→Int) (n:Nat):List (List Int):=(vuv n).map fun i=>(vuv n).map fun k=>W i k
theorem qtx (W:Nat→Nat→Int) (n:Nat):(qj3 W n).length=n:=by simp [qj3]
theorem qjs {α:Type} (f:Nat→α) {n v:Nat} (hv:v < n):((vuv n).map f)[v]?=some (f v):=by simp [vx2 hv]
theorem vi0 (w:Int) (b:Bool) (hw:-1000≤w∧w≤1000):qd9 w b=some (qgs w b):=by
 have h:vxs.wrap (0 - w)=- w:=by rw [qav (by omega) (by omega)];omega
 unfold qd9 qgs;cases b
 ·simp only [vtk,if_false];congr 1;split <;> omega
 ·simp only [if_true,h];congr 1;split <;> omega
theorem qty (w:Int) (b:Bool) (hw:-1000≤w∧w≤1000):0≤qgs w b∧qgs w b≤1000:=by
 unfold qgs;split <;> omega
theorem q2f (W:Nat→Nat→Int) (hW:∀i k,-1000≤W i k∧W i k≤1000) (l:List Int) (c:Int):∀k:Nat,qqw W l c k≤1000 * (k:Int):=by
 intro k;unfold qqw
 induction k with
 | zero=>simp
 | succ k ih =>
  rw [vya,vuk,vx4,qtl];have:((vuv k).map fun i=>qgs (W i (k+1)) (l.getD i 0 == c)).sum≤1000 * (k:Int):=by
   have key:∀m:Nat,((vuv m).map fun i=>qgs (W i (k+1)) (l.getD i 0 == c)).sum≤1000 * (m:Int):=by
    intro m
    induction m with
    | zero=>simp
    | succ m ihm =>
     rw [vya,vuk,vx4,qtl];have:=(qty (W m (k+1)) (l.getD m 0 == c) (hW _ _)).2;omega
   exact key k
  have h2:=(qty (W k (k+1)) (l.getD k 0 == c) (hW _ _)).2;omega
theorem vi1 (W:Nat→Nat→Int) (hW:∀i k,-1000≤W i k∧W i k≤1000) (l:List Int):∀v:Nat,v≤10→0≤qfk W l v∧qfk W l v≤10000 * (v:Int):=by
 intro v
 induction v with
 | zero=>intro _;simp [qfk]
 | succ v ih =>
  intro hv;rw [ql2];have h1:=q2f W hW l (l.getD v 0) v;have h2:=qxa W l (l.getD v 0) v;have h3:=ih (by omega);omega
theorem vi2 (W:Nat→Nat→Int) (hW:∀i k,-1000≤W i k∧W i k≤1000) (v:Nat) (hv:v≤10) (s:List Int) (c:Int) (B:Int×Int→Option (LS (Int×Int) Int))
  (hB:∀(k:Nat) (m:Int),k < v→0≤m→m≤100000→B (m,(k:Int))=some (.next (m+qgs (W k v) (s.getD k 0 == c),((k+1:Nat):Int)))) (hE:∀m,B (m,(v:Int))=some (.done m)):qae B (0,0)=some (qqw W s c v):=by
 have key:∀(d k:Nat),k+d=v→qae B (((vuv k).map fun i=>qgs (W i v) (s.getD i 0 == c)).sum,(k:Int))=some (qqw W s c v):=by
  intro d
  induction d with
  | zero =>
   intro k hk;obtain rfl:k=v:=by omega
   exact qad (hE _)
  | succ d ih =>
   intro k hk;have hb:∀m:Nat,0≤((vuv m).map fun i=>qgs (W i v) (s.getD i 0 == c)).sum∧((vuv m).map fun i=>qgs (W i v) (s.getD i 0 == c)).sum≤1000 * (m:Int):=by
    intro m
    induction m with
    | zero=>simp
    | succ m ihm =>
     rw [vya,vuk,vx4,qtl];have:=qty (W m v) (s.getD m 0 == c) (hW _ _);omega
   have h1:=hb k;rw [qac (hB k _ (by omega) h1.1 (by omega))];have e:((vuv k).map fun i=>qgs (W i v) (s.getD i 0 == c)).sum+qgs (W k v) (s.getD k 0 == c)=((vuv (k+1)).map fun i=>qgs (W i v) (s.getD i 0 == c)).sum:=by
    rw [vya,vuk,vx4,qtl]
   rw [e];exact ih (k+1) (by omega)
 exact key v 0 (by omega)
def qy4 (b:Bool) (h:Int) (t:List Int) (least:Int):Option (List Int×Int):=if b then some (h :: t,least) else none
abbrev qno:=List Int×Bool×Int×List Int×Int×Int
abbrev qxy:=List Int×Bool×Int×List Int×Int
def qnp (W:Nat→Nat→Int) (n v:Nat) (L:Int→Int→qno→Option (LS qno qxy)):Prop :=
 ∀(p:List Int) (u:Nat) (s:List Int) (b:Bool) (h:Int) (t:List Int) (least:Int),p.length=v→s.length=n→s.take v=p→u≤v →
  ∃s' b' h' t' least',qae (L (u:Int) (qfk W p v)) (s,b,h,t,least,0)=some (s',b',h',t',least')∧s'.length=n∧s'.take v=p∧qy4 b' h' t' least'=(qcp (n - v) p u).foldl (qlh fun x=>qfk W x n) (qy4 b h t least)
theorem vi3 {s p:List Int} {v:Nat} {c:Int} (h:s.take v=p) (hl:v < s.length):(s.set v c).take (v+1)=p++[c]:=by
 rw [vyh,vzv (by omega),h,vwh,if_pos rfl,if_pos hl];rfl
theorem vfi {s p:List Int} {v:Nat} (h:s.take v=p) (i:Nat) (hi:i < v):s.getD i 0=p.getD i 0:=by
 rw [←h];simp only [vwd,vub,if_pos hi]
theorem vi4 (W:Nat→Nat→Int) (l:List Int) (v:Nat) (h:v≤1):qfk W l v=0:=by
 rcases Nat.le_one_iff_eq_zero_or_eq_one.1 h with rfl | rfl
 ·rfl
 ·simp [qfk,qqw]
theorem qtz (W:Nat→Nat→Int) (hW:∀i k,-1000≤W i k∧W i k≤1000) (n v:Nat) (hv:v < n) (hn:n≤6) (L L':Int→Int→qno→Option (LS qno qxy)) (hI:v+1 < n→qnp W n (v+1) L')
  (hB:∀(u c:Nat) (cost:Int) (s:List Int) (b:Bool) (h:Int) (t:List Int) (least:Int),s.length=n→c≤u→u≤10→0≤cost→cost≤100000→(v≤1→cost=0)→(v=0→u=0)→∀x r,(s.set v (c:Int))=x :: r →
   L (u:Int) cost (s,b,h,t,least,(c:Int)) =
    if b=true∧cost+qqw W s (c:Int) v≥least then some (.next (s.set v (c:Int),b,h,t,least,((c+1:Nat):Int)))
    else if v+1=n then some (.next (s.set v (c:Int),true,x,r,cost+qqw W s (c:Int) v,((c+1:Nat):Int)))
    else (qae (L' ((max u (c+1):Nat):Int) (cost+qqw W s (c:Int) v)) (s.set v (c:Int),b,h,t,least,0)).bind fun q=>if q.1.length=n then some (.next (q.1,q.2.1,q.2.2.1,q.2.2.2.1,q.2.2.2.2,((c+1:Nat):Int))) else none)
  (hE:∀(u:Nat) (cost:Int) (s:List Int) (b:Bool) (h:Int) (t:List Int) (least:Int),u≤10→(v=0→u=0)→L (u:Int) cost (s,b,h,t,least,((u+1:Nat):Int))=some (.done (s,b,h,t,least))):qnp W n v L:=by
 intro p u s b h t least hp hs hst hu;have key:∀(d c:Nat) (s:List Int) (b:Bool) (h:Int) (t:List Int) (least:Int),c+d=u+1→s.length=n→s.take v=p →
   ∃s' b' h' t' least',qae (L (u:Int) (qfk W p v)) (s,b,h,t,least,(c:Int))=some (s',b',h',t',least')∧s'.length=n∧s'.take v=p∧qy4 b' h' t' least'=((vw4 c d).flatMap fun (c:Nat)=>qcp (n - (v+1)) (p++[(c:Int)]) (max u (c+1))).foldl (qlh fun x=>qfk W x n) (qy4 b h t least):=by
  intro d
  induction d with
  | zero =>
   intro c s b h t least hc hs hst;obtain rfl:c=u+1:=by omega
   exact ⟨s,b,h,t,least,qad (hE u _ s b h t least (by omega) (by omega)),hs,hst,by simp⟩
  | succ d ih =>
   intro c s b h t least hc hs hst;have hcost:=vi1 W hW p v (by omega);obtain ⟨x,r,hxr⟩:∃x r,s.set v (c:Int)=x :: r:=by
    cases hq:s.set v (c:Int) with
    | nil =>
     have:=congrArg vx3 hq;rw [vui,hs,List.length_nil] at this;omega
    | cons x r=>exact ⟨x,r,rfl⟩
   have hadd:qqw W s (c:Int) v=qqw W p (c:Int) v:=qxb W _ fun i hi=>vfi hst i hi
   have hcs:qfk W p v+qqw W s (c:Int) v=qfk W (p++[(c:Int)]) (v+1):=by
    have:=va4 W p (c:Int);rw [hp] at this;rw [this,hadd]
   have hb:=hB u c (qfk W p v) s b h t least hs (by omega) (by omega) hcost.1 (by omega) (fun e=>vi4 W p v e) (fun e=>by omega) x r hxr;rw [hcs] at hb;have hlen:(s.set v (c:Int)).length=n:=by rw [vui];exact hs
   have htk:(s.set v (c:Int)).take v=p:=by rw [vzv (vvb _)];exact hst
   have htk1:(s.set v (c:Int)).take (v+1)=p++[(c:Int)]:=vi3 hst (by omega);have hpl:(p++[(c:Int)]).length=v+1:=by simp [hp]
   rw [vzs,vwc,List.foldl_append];by_cases h1:b=true∧qfk W (p++[(c:Int)]) (v+1)≥least
   ·rw [if_pos h1] at hb;obtain ⟨s',b',h',t',least',q1,q2,q3,q4⟩:=ih (c+1) (s.set v (c:Int)) b h t least (by omega) hlen htk;refine ⟨s',b',h',t',least',?_,q2,q3,?_⟩
    ·rw [qac hb];exact q1
    ·rw [q4];have:qy4 b h t least=some (h :: t,least):=by simp [qy4,h1.1]
     have hpr:=qw9 (fun x=>qfk W x n) (h :: t) least (qcp (n - (v+1)) (p++[(c:Int)]) (max u (c+1))) (by
      intro y hy;obtain ⟨l1,l2⟩:=qp2 _ _ _ y hy;have:=q4s W (x:=y) (p:=p++[(c:Int)]) l2 n (by rw [hpl];omega);rw [hpl] at this;have:=h1.2;show least≤qfk W y n;omega)
     rw [this,hpr]
   ·rw [if_neg h1] at hb;by_cases h2:v+1=n
    ·rw [if_pos h2] at hb;obtain ⟨s',b',h',t',least',q1,q2,q3,q4⟩:=ih (c+1) (s.set v (c:Int)) true x r (qfk W (p++[(c:Int)]) (v+1)) (by omega) hlen htk;refine ⟨s',b',h',t',least',?_,q2,q3,?_⟩
     ·rw [qac hb];exact q1
     ·rw [q4];have e0:n - (v+1)=0:=by omega
      have exr:x :: r=p++[(c:Int)]:=by
       rw [←hxr,←htk1,h2,←hlen,vyi]
      rw [e0];simp only [qcp,vx1,List.foldl_nil];congr 1;simp only [qy4,if_true];rw [exr];unfold qlh;cases b with
      | false=>simp [h2]
      | true =>
       simp only [true_and,ge_iff_le,Int.not_le] at h1;simp only [if_true];rw [h2] at h1 ⊢;rw [if_pos h1]
    ·rw [if_neg h2] at hb;have hv1:v+1 < n:=by omega
     obtain ⟨s1,b1,h1',t1,l1,r1,r2,r3,r4⟩:=hI hv1 (p++[(c:Int)]) (max u (c+1)) (s.set v (c:Int)) b h t least hpl hlen htk1 (by omega);rw [r1] at hb;simp only [vvn,if_pos r2] at hb;have htk2:s1.take v=p:=by
      have:=congrArg (List.take v) r3;rw [vzw,vw8 (by omega),List.take_left' hp] at this;exact this
     obtain ⟨s',b',h',t',least',q1,q2,q3,q4⟩:=ih (c+1) s1 b1 h1' t1 l1 (by omega) r2 htk2;refine ⟨s',b',h',t',least',?_,q2,q3,?_⟩
     ·rw [qac hb];exact q1
     ·rw [q4,r4]
 obtain ⟨s',b',h',t',least',q1,q2,q3,q4⟩:=key (u+1) 0 s b h t least (by omega) hs hst;refine ⟨s',b',h',t',least',by simpa using q1,q2,q3,?_⟩;rw [q4];congr 1;rw [show n - v=(n - (v+1))+1 by omega,qcp,vuw]
def vly (m:List (List Int)) (v:Nat) (s:List Int) (c:Int):(Int×Int)→Option (LS (Int×Int) Int):=fun (more,t) =>
 if t < (v:Int) then
 (idx m t).bind fun (x:List Int) =>
 (x[v]?).bind fun (y:Int) =>
 (idx s t).bind fun (z:Int) =>
 (qd9 y (z == c)).bind fun (r:Int) =>
 some (.next ((vxs.wrap (more+r)),(vxs.wrap (t+1))))
 else
 some (.done more)
theorem q2g (W:Nat→Nat→Int) (hW:∀i k,-1000≤W i k∧W i k≤1000) (v:Nat) (hv:v≤10) (n:Nat) (hn:v < n) (s:List Int) (hs:s.length=n) (c:Int):qae (vly (qj3 W n) v s c) (0,0)=some (qqw W s c v):=by
 refine vi2 W hW v hv s c (vly (qj3 W n) v s c) ?_ ?_
 ·intro k m hk h0 h1;have c1:((k:Int) < (v:Int)):=by omega
  have hkl:k < s.length:=by omega
  have g1:idx (qj3 W n) (k:Int)=some ((vuv n).map fun j=>W k j):=qaa (qjs _ (by omega));have g2:((vuv n).map fun j=>W k j)[v]?=some (W k v):=qjs _ hn;have g3:idx s (k:Int)=some (s.getD k 0):=by
   refine qaa ?_;simp [vwd,vt5 hkl]
  have hp:=qty (W k v) (s.getD k 0 == c) (hW _ _);have w:vxs.wrap (m+qgs (W k v) (s.getD k 0 == c))=m+qgs (W k v) (s.getD k 0 == c):=qav (by omega) (by omega);simp only [vly,if_pos c1,g1,g2,g3,vvn,vi0 _ _ (hW _ _),w,wqn k]
 ·intro m;simp [vly]
theorem vsn (W:Nat→Nat→Int) (hW:∀i k,-1000≤W i k∧W i k≤1000) (n:Nat) (hn:1 < n) (s:List Int) (hs:s.length=n) (c:Int):qae (qkc (qj3 W n) s c) (0,0)=some (qqw W s c 1):=q2g W hW 1 (by omega) n hn s hs c
theorem vso (W:Nat→Nat→Int) (hW:∀i k,-1000≤W i k∧W i k≤1000) (n:Nat) (hn:5 < n) (s:List Int) (hs:s.length=n) (c:Int):qae (qkd (qj3 W n) s c) (0,0)=some (qqw W s c 5):=q2g W hW 5 (by omega) n hn s hs c
theorem vnt (W:Nat→Nat→Int) (hW:∀i k,-1000≤W i k∧W i k≤1000) (n:Nat) (hv:5 < n) (hn:n≤6):qnp W n 5 (fun u cost=>qby (qj3 W n) u cost):=by
 refine qtz W hW n 5 hv hn _ (fun _ _ _=>none) (fun h=>by omega) ?_ ?_
 ·intro u c cost s b h t least hs hc hu h0 h1 hz hz0 x r hxr;have hlen:(qj3 W n).length=n:=qtx W n;have wc:=wqn c;have hmax:(if ((c+1:Nat):Int) > (u:Int) then ((c+1:Nat):Int) else (u:Int))=((max u (c+1):Nat):Int):=by split <;> omega
  have hx0:(s.set 5 (c:Int))[0]?=some x:=by rw [hxr];rfl
  have hdr:(s.set 5 (c:Int)).drop 1=r:=by rw [hxr];rfl
  have hl9:(s.set 5 (c:Int)).length≤1000000000:=by rw [vui];omega
  have hsv:s[5]?=some (s.getD 5 0):=by simp [vwd,vt5 (show 5 < s.length by omega)]
  have wu:=wqn u;have c1:(c:Int) < ((u+1:Nat):Int):=by omega
  have hm:=vso W hW n hv s hs (c:Int);have ha1:=qxa W s (c:Int) 5;have ha2:=q2f W hW s (c:Int) 5;have wcost:vxs.wrap (cost+qqw W s (c:Int) 5)=cost+qqw W s (c:Int) 5:=qav (by omega) (by omega);by_cases hb:b=true
  ·by_cases hge:cost+qqw W s (c:Int) 5≥least
   ·rw [if_pos ⟨hb,hge⟩];simp only [qby,wu,if_pos c1,hm,hsv,vvn,wc,hmax,wcost,if_pos hb,if_pos hge]
   ·rw [if_neg (fun q=>hge q.2)];by_cases hlast:5+1=n
    ·have e:((6:Int) == ((qj3 W n).length:Int))=true:=by rw [hlen,beq_iff_eq];omega
     rw [if_pos hlast];simp only [qby,wu,if_pos c1,hm,hsv,vvn,wc,hmax,wcost,if_pos hb,if_neg hge,e,if_true,if_pos hl9,hx0,hdr]
    ·have e:((6:Int) == ((qj3 W n).length:Int))=false:=by rw [hlen,beq_eq_false_iff_ne];omega
     rw [if_neg hlast];omega
  ·have hb':b=false:=by simpa using hb
   rw [if_neg (fun q=>hb q.1)];by_cases hlast:5+1=n
   ·have e:((6:Int) == ((qj3 W n).length:Int))=true:=by rw [hlen,beq_iff_eq];omega
    rw [if_pos hlast];simp only [qby,wu,if_pos c1,hm,hsv,vvn,wc,hmax,wcost,if_neg hb,e,if_true,if_pos hl9,hx0,hdr]
   ·have e:((6:Int) == ((qj3 W n).length:Int))=false:=by rw [hlen,beq_eq_false_iff_ne];omega
    rw [if_neg hlast];omega
 ·intro u cost s b h t least hu hz;have wu:=wqn u;simp only [qby,wu,if_neg (vyu _)]
def vnu (m:List (List Int)) (v:Nat) (L':Int→Int→qno→Option (LS qno qxy)) (used cost:Int):qno→Option (LS qno qxy):=fun (s,b,h,t,least,c) =>
 if c < (vxs.wrap (used+1)) then
 (qae (vly m v s c) (0,0)).bind (fun more =>
 (s[v]?).bind fun (_:Int) =>
 (some (if (vxs.wrap (c+1)) > used then (vxs.wrap (c+1)) else used)).bind fun (used2:Int) =>
 (some (vxs.wrap (cost+more))).bind fun (cost2:Int) =>
 (show Option ((Unit) ⊕ (Unit)) from
 if b=true then
 if cost2≥least then
 some (.inr ())
 else
 some (.inl ())
 else
 some (.inl ())).bind (fun o=>match o with
 | .inl () =>
 if (((v+1:Nat):Int) == (m.length:Int))=true then
 if (s.set v c).length≤1000000000 then
 ((s.set v c)[0]?).bind fun (x:Int) =>
 (some ((s.set v c).drop 1)).bind fun (l:List Int) =>
 some (.next ((s.set v c),true,x,l,cost2,(vxs.wrap (c+1))))
 else none
 else
 (qae (L' used2 cost2) ((s.set v c),b,h,t,least,0)).bind (fun (b1,b2,b3,b4,b5) =>
 if b1.length=((s.set v c)).length then
 some (.next (b1,b2,b3,b4,b5,(vxs.wrap (c+1))))
 else none)
 | .inr () =>
 some (.next ((s.set v c),b,h,t,least,(vxs.wrap (c+1))))))
 else
 some (.done (s,b,h,t,least))
theorem qxz (W:Nat→Nat→Int) (hW:∀i k,-1000≤W i k∧W i k≤1000) (v n:Nat) (hv:v < n) (hn:n≤6) (L':Int→Int→qno→Option (LS qno qxy)) (hI:v+1 < n→qnp W n (v+1) L'):qnp W n v (fun u cost=>vnu (qj3 W n) v L' u cost):=by
 refine qtz W hW n v hv hn _ L' hI ?_ ?_
 ·intro u c cost s b h t least hs hc hu h0 h1 hz hz0 x r hxr;have hlen:(qj3 W n).length=n:=qtx W n;have wc:=wqn c;have hmax:(if ((c+1:Nat):Int) > (u:Int) then ((c+1:Nat):Int) else (u:Int))=((max u (c+1):Nat):Int):=by split <;> omega
  have hx0:(s.set v (c:Int))[0]?=some x:=by rw [hxr];rfl
  have hdr:(s.set v (c:Int)).drop 1=r:=by rw [hxr];rfl
  have hl9:(s.set v (c:Int)).length≤1000000000:=by rw [vui];omega
  have hsv:s[v]?=some (s.getD v 0):=by simp [vwd,vt5 (show v < s.length by omega)]
  have wu:=wqn u;have c1:(c:Int) < ((u+1:Nat):Int):=by omega
  have hm:=q2g W hW v (by omega) n hv s hs (c:Int);have ha1:=qxa W s (c:Int) v;have ha2:=q2f W hW s (c:Int) v;have wcost:vxs.wrap (cost+qqw W s (c:Int) v)=cost+qqw W s (c:Int) v:=qav (by omega) (by omega);by_cases hb:b=true
  ·by_cases hge:cost+qqw W s (c:Int) v≥least
   ·rw [if_pos ⟨hb,hge⟩];simp only [vnu,wu,if_pos c1,hm,hsv,vvn,wc,hmax,wcost,if_pos hb,if_pos hge]
   ·rw [if_neg (fun q=>hge q.2)];by_cases hlast:v+1=n
    ·have e:(((v+1:Nat):Int) == ((qj3 W n).length:Int))=true:=by rw [hlen,beq_iff_eq];omega
     rw [if_pos hlast];simp only [vnu,wu,if_pos c1,hm,hsv,vvn,wc,hmax,wcost,if_pos hb,if_neg hge,e,if_true,if_pos hl9,hx0,hdr]
    ·have e:(((v+1:Nat):Int) == ((qj3 W n).length:Int))=false:=by rw [hlen,beq_eq_false_iff_ne];omega
     rw [if_neg hlast];simp only [vnu,wu,if_pos c1,hm,hsv,vvn,wc,hmax,wcost,if_pos hb,if_neg hge,e,vtk,if_false,vui,hs]
     all_goals rfl
  ·have hb':b=false:=by simpa using hb
   rw [if_neg (fun q=>hb q.1)];by_cases hlast:v+1=n
   ·have e:(((v+1:Nat):Int) == ((qj3 W n).length:Int))=true:=by rw [hlen,beq_iff_eq];omega
    rw [if_pos hlast];simp only [vnu,wu,if_pos c1,hm,hsv,vvn,wc,hmax,wcost,if_neg hb,e,if_true,if_pos hl9,hx0,hdr]
   ·have e:(((v+1:Nat):Int) == ((qj3 W n).length:Int))=false:=by rw [hlen,beq_eq_false_iff_ne];omega
    rw [if_neg hlast];simp only [vnu,wu,if_pos c1,hm,hsv,vvn,wc,hmax,wcost,if_neg hb,e,vtk,if_false,vui,hs]
    all_goals rfl
 ·intro u cost s b h t least hu hz;have wu:=wqn u;simp only [vnu,wu,if_neg (vyu _)]
theorem vnv (W:Nat→Nat→Int) (hW:∀i k,-1000≤W i k∧W i k≤1000) (n:Nat) (hv:4 < n) (hn:n≤6) (hI:5 < n→qnp W n 5 (fun u cost=>qby (qj3 W n) u cost)):qnp W n 4 (fun u cost=>qft (qj3 W n) u cost):=qxz W hW 4 n hv hn (fun u cost=>qby (qj3 W n) u cost) hI
theorem vnw (W:Nat→Nat→Int) (hW:∀i k,-1000≤W i k∧W i k≤1000) (n:Nat) (hv:3 < n) (hn:n≤6) (hI:4 < n→qnp W n 4 (fun u cost=>qft (qj3 W n) u cost)):qnp W n 3 (fun u cost=>qfu (qj3 W n) u cost):=qxz W hW 3 n hv hn (fun u cost=>qft (qj3 W n) u cost) hI
theorem vnx (W:Nat→Nat→Int) (hW:∀i k,-1000≤W i k∧W i k≤1000) (n:Nat) (hv:2 < n) (hn:n≤6) (hI:3 < n→qnp W n 3 (fun u cost=>qfu (qj3 W n) u cost)):qnp W n 2 (fun u cost=>qfv (qj3 W n) u cost):=qxz W hW 2 n hv hn (fun u cost=>qfu (qj3 W n) u cost) hI
theorem vny (W:Nat→Nat→Int) (hW:∀i k,-1000≤W i k∧W i k≤1000) (n:Nat) (hv:1 < n) (hn:n≤6) (hI:2 < n→qnp W n 2 (fun u cost=>qfv (qj3 W n) u cost)):qnp W n 1 (fun u cost=>qa7 (qj3 W n) u):=by
 refine qtz W hW n 1 hv hn _ (fun u cost=>qfv (qj3 W n) u cost) hI ?_ ?_
 ·intro u c cost s b h t least hs hc hu h0 h1 hz hz0 x r hxr;have hlen:(qj3 W n).length=n:=qtx W n;have wc:=wqn c;have hmax:(if ((c+1:Nat):Int) > (u:Int) then ((c+1:Nat):Int) else (u:Int))=((max u (c+1):Nat):Int):=by split <;> omega
  have hx0:(s.set 1 (c:Int))[0]?=some x:=by rw [hxr];rfl
  have hdr:(s.set 1 (c:Int)).drop 1=r:=by rw [hxr];rfl
  have hl9:(s.set 1 (c:Int)).length≤1000000000:=by rw [vui];omega
  have hsv:s[1]?=some (s.getD 1 0):=by simp [vwd,vt5 (show 1 < s.length by omega)]
  have wu:=wqn u;have c1:(c:Int) < ((u+1:Nat):Int):=by omega
  have hm:=vsn W hW n hv s hs (c:Int);have ha1:=qxa W s (c:Int) 1;have ha2:=q2f W hW s (c:Int) 1;have wcost:vxs.wrap (cost+qqw W s (c:Int) 1)=cost+qqw W s (c:Int) 1:=qav (by omega) (by omega);have hz1:=hz (by omega);subst hz1;by_cases hb:b=true
  ·by_cases hge:0+qqw W s (c:Int) 1≥least
   ·rw [if_pos ⟨hb,hge⟩];simp only [qa7,wu,if_pos c1,hm,hsv,vvn,wc,hmax,wcost,if_pos hb,if_pos hge]
   ·rw [if_neg (fun q=>hge q.2)];by_cases hlast:1+1=n
    ·have e:((2:Int) == ((qj3 W n).length:Int))=true:=by rw [hlen,beq_iff_eq];omega
     rw [if_pos hlast];simp only [qa7,wu,if_pos c1,hm,hsv,vvn,wc,hmax,wcost,if_pos hb,if_neg hge,e,if_true,if_pos hl9,hx0,hdr]
    ·have e:((2:Int) == ((qj3 W n).length:Int))=false:=by rw [hlen,beq_eq_false_iff_ne];omega
     rw [if_neg hlast];simp only [qa7,wu,if_pos c1,hm,hsv,vvn,wc,hmax,wcost,if_pos hb,if_neg hge,e,vtk,if_false,vui,hs]
     all_goals rfl
  ·have hb':b=false:=by simpa using hb
   rw [if_neg (fun q=>hb q.1)];by_cases hlast:1+1=n
   ·have e:((2:Int) == ((qj3 W n).length:Int))=true:=by rw [hlen,beq_iff_eq];omega
    rw [if_pos hlast];simp only [qa7,wu,if_pos c1,hm,hsv,vvn,wc,hmax,wcost,if_neg hb,e,if_true,if_pos hl9,hx0,hdr]
   ·have e:((2:Int) == ((qj3 W n).length:Int))=false:=by rw [hlen,beq_eq_false_iff_ne];omega
    rw [if_neg hlast];simp only [qa7,wu,if_pos c1,hm,hsv,vvn,wc,hmax,wcost,if_neg hb,e,vtk,if_false,vui,hs]
    all_goals rfl
 ·intro u cost s b h t least hu hz;have wu:=wqn u;simp only [qa7,wu,if_neg (vyu _)]
theorem vnz (W:Nat→Nat→Int) (hW:∀i k,-1000≤W i k∧W i k≤1000) (n:Nat) (hv:0 < n) (hn:n≤6) (hI:1 < n→qnp W n 1 (fun u cost=>qa7 (qj3 W n) u)):qnp W n 0 (fun u cost=>qbn (qj3 W n)):=by
 refine qtz W hW n 0 hv hn _ (fun u cost=>qa7 (qj3 W n) u) hI ?_ ?_
 ·intro u c cost s b h t least hs hc hu h0 h1 hz hz0 x r hxr;have hlen:(qj3 W n).length=n:=qtx W n;have wc:=wqn c;have hmax:(if ((c+1:Nat):Int) > (u:Int) then ((c+1:Nat):Int) else (u:Int))=((max u (c+1):Nat):Int):=by split <;> omega
  have hx0:(s.set 0 (c:Int))[0]?=some x:=by rw [hxr];rfl
  have hdr:(s.set 0 (c:Int)).drop 1=r:=by rw [hxr];rfl
  have hl9:(s.set 0 (c:Int)).length≤1000000000:=by rw [vui];omega
  have hsv:s[0]?=some (s.getD 0 0):=by simp [vwd,vt5 (show 0 < s.length by omega)]
  have hz1:=hz (by omega);have hz2:=hz0 rfl;subst hz1;subst hz2;obtain rfl:c=0:=by omega
  have ha:qqw W s ((0:Nat):Int) 0=0:=rfl;have c1:((0:Nat):Int) < 1:=by omega
  have hm1:(max 0 (0+1):Nat)=1:=rfl;have wc':(if (vxs.wrap (((0:Nat):Int)+1)) > 0 then (vxs.wrap (((0:Nat):Int)+1)) else 0)=((1:Nat):Int):=by rw [wc];rfl
  have hl1:qae qkb ()=some ():=qad rfl;rw [ha,hm1,Int.add_zero];by_cases hb:b=true
  ·by_cases hge:(0:Int)≥least
   ·rw [if_pos ⟨hb,hge⟩];simp only [qbn,if_pos c1,hl1,hsv,vvn,wc',wc,if_pos hb,if_pos hge]
   ·rw [if_neg (fun q=>hge q.2)];by_cases hlast:0+1=n
    ·have e:((1:Int) == ((qj3 W n).length:Int))=true:=by rw [hlen,beq_iff_eq];omega
     rw [if_pos hlast];simp only [qbn,if_pos c1,hl1,hsv,vvn,wc',wc,if_pos hb,if_neg hge,e,if_true,if_pos hl9,hx0,hdr]
    ·have e:((1:Int) == ((qj3 W n).length:Int))=false:=by rw [hlen,beq_eq_false_iff_ne];omega
     rw [if_neg hlast];simp only [qbn,if_pos c1,hl1,hsv,vvn,wc',wc,if_pos hb,if_neg hge,e,vtk,if_false,vui,hs];rfl
  ·have hb':b=false:=by simpa using hb
   rw [if_neg (fun q=>hb q.1)];by_cases hlast:0+1=n
   ·have e:((1:Int) == ((qj3 W n).length:Int))=true:=by rw [hlen,beq_iff_eq];omega
    rw [if_pos hlast];simp only [qbn,if_pos c1,hl1,hsv,vvn,wc',wc,if_neg hb,e,if_true,if_pos hl9,hx0,hdr]
   ·have e:((1:Int) == ((qj3 W n).length:Int))=false:=by rw [hlen,beq_eq_false_iff_ne];omega
    rw [if_neg hlast];simp only [qbn,if_pos c1,hl1,hsv,vvn,wc',wc,if_neg hb,e,vtk,if_false,vui,hs];rfl
 ·intro u cost s b h t least hu hz;have:=hz rfl;subst this;have c1:¬(((0+1:Nat):Int) < 1):=by omega
  simp only [qbn,if_neg c1]
def q2h (n:Nat) (E:List Arr2_int):Prop:=∀e∈E,0≤e.x0∧e.x0 < (n:Int)∧0≤e.x1∧e.x1 < (n:Int)
theorem vfj (n:Nat) (E:List Arr2_int) (hn:n≤1000) (hE:E.length≤20000) (h:q2h n E):qmc (n:Int) E=some 0:=by
 have c1:¬((n:Int) > 1000):=by omega
 have c2:((E.length:Int) > 20000)=False:=eq_false (by omega);have c3:¬((n:Int) < 0):=by omega
 have hl:=qme E (qja (n:Int) E) (fun _=>true) 1
  (fun k x hx hk _=>by
   obtain ⟨h1,h2,h3,h4⟩:=h x (vup hx);have q1:¬((if x.x1 < x.x0 then x.x1 else x.x0) < 0):=by split <;> omega
   have q2:¬((if x.x1 > x.x0 then x.x1 else x.x0)≥(n:Int)):=by split <;> omega
   simp only [qja,if_pos (qaj hx),qaa hx,vvn,if_neg q1,if_neg q2,wqn k])
  (fun k x hx hp=>by cases hp) (by simp [qja])
 have hall:(E.all fun _=>true)=true:=by simp
 rw [hall] at hl;simp only [qmc,if_neg c1,c2,decide_false,vvn,vtk,if_false,if_neg c3,hl];rfl
def qra (e:Arr2_int):Arr2_int:=⟨e.x1,e.x0⟩
theorem vfk {α β:Type} (f:α→β) (z:β) (E:List α) {k:Nat} {x:α} (hx:E[k]?=some x):(((E.take k).map f)++vux (E.length - k) z).set k (f x)=((E.take (k+1)).map f)++vux (E.length - (k+1)) z:=by
 have hk:=qam hx;have hl:((E.take k).map f).length=k:=by rw [vuf,vuj];omega
 rw [show E.length - k=(E.length - (k+1))+1 by omega,List.replicate_succ,vyf _ _ (by omega),hl,vxa,vzt,vyh,hx];simp
theorem q7u (E:List Arr2_int) (hE:E.length≤1000000):qjb E=some (E.map qra):=by
 have h0:(0:Int)≤(E.length:Int):=by omega
 have hr:qao E.length 16=true:=qu0 hE;have key:∀(d k:Nat),k+d=E.length→qae (qg8 E) (((E.take k).map qra)++vux (E.length - k) ⟨0,0⟩,(k:Int))=some (E.map qra):=by
  intro d
  induction d with
  | zero =>
   intro k hk;obtain rfl:k=E.length:=by omega
   exact qad (by simp [qg8])
  | succ d ih =>
   intro k hk;have hlt:k < E.length:=by omega
   have hx:E[k]?=some E[k]:=vt5 hlt;have hg:idx (((E.take k).map qra)++vux (E.length - k) (⟨0,0⟩:Arr2_int)) (k:Int)=some ⟨0,0⟩:=by
    refine qaa ?_;have hl:((E.take k).map qra).length=k:=by rw [vuf,vuj];omega
    rw [vy8,hl,if_neg (by omega),vua,if_pos (by omega)]
   rw [qac (s':=(((E.take (k+1)).map qra)++vux (E.length - (k+1)) ⟨0,0⟩,((k+1:Nat):Int))) (by
    simp only [qg8,if_pos (qaj hx),qaa hx,hg,vvn,wqn k,vxr];rw [←vfk qra ⟨0,0⟩ E hx];rfl)]
   exact ih (k+1) (by omega)
 have h:=key E.length 0 (by omega);simp only [vu2,List.map_nil,vuu,vvl,vxn] at h;simp only [qjb,if_pos h0,hr,if_true,h,vvn]
theorem vbj (a b:List Arr2_int) (ha:a.length≤500000) (hb:b.length≤500000):qe3 [a,b]=some (a++b):=by
 have w0:vxs.wrap (0+(a.length:Int))=(a.length:Int):=by rw [qav (by omega) (by omega)];omega
 have w1:vxs.wrap ((a.length:Int)+(b.length:Int))=((a.length+b.length:Nat):Int):=by rw [qav (by omega) (by omega)];omega
 have v0:vxs.wrap (0+1)=1:=by rw [qav (by omega) (by omega)];rfl
 have v1:vxs.wrap (1+1)=2:=by rw [qav (by omega) (by omega)];rfl
 have g0:idx [a,b] 0=some a:=rfl;have g1:idx [a,b] 1=some b:=rfl;have c0:(0:Int) < (([a,b]:List (List Arr2_int)).length:Int):=by simp
 have c1:(1:Int) < (([a,b]:List (List Arr2_int)).length:Int):=by simp
 have c2:¬(2:Int) < (([a,b]:List (List Arr2_int)).length:Int):=by simp
 have n0:¬(a.length:Int) < 0:=by omega
 have n1:¬((a.length+b.length:Nat):Int) < 0:=by omega
 have L1:qae (qb8 [a,b]) (0,0)=some ((a.length+b.length:Nat):Int):=by
  rw [qac (s':=((a.length:Int),1)) (by simp only [qb8,if_pos c0,g0,vvn,w0,if_neg n0,v0])];rw [qac (s':=(((a.length+b.length:Nat):Int),2)) (by simp only [qb8,if_pos c1,g1,vvn,w1,if_neg n1,v1])];exact qad (by simp only [qb8,if_neg c2])
 have L2:qae (qb9 [a,b]) (([]:List Arr2_int),0)=some (a++b):=by
  have r0:qao (([]:List Arr2_int).length+a.length) 16=true:=qu0 (by simp;omega);have r1:qao (a.length+b.length) 16=true:=qu0 (by omega);rw [qac (s':=(a,1)) (by simp only [qb9,if_pos c0,g0,vvn,r0,if_true,vuu,v0])];rw [qac (s':=(a++b,2)) (by simp only [qb9,if_pos c1,g1,vvn,r1,if_true,v1])];exact qad (by simp only [qb9,if_neg c2])
 have n3:(0:Int)≤((a.length+b.length:Nat):Int):=by omega
 have n4:((a.length+b.length:Nat):Int)≤1000000000000:=by omega
 simp only [qe3,L1,vvn,if_pos n3,if_pos n4,L2]
def qlb (E:List Arr2_int) (v:Nat):List Int:=(E.filter fun e=>decide (e.x0=(v:Int))).map (·.x1)
theorem q5k (E:List Arr2_int) (e:Arr2_int) (v:Nat):qlb (E++[e]) v=if e.x0=(v:Int) then qlb E v++[e.x1] else qlb E v:=by
 unfold qlb;rw [vy3,vuk];by_cases h:e.x0=(v:Int) <;> simp [h]
theorem q2i (E:List Arr2_int) (v:Nat):(qlb E v).length≤E.length:=by
 unfold qlb;rw [vuf];exact vwn _ _
theorem qgu {α:Type} (f g:Nat→α) {n v:Nat} (hv:v < n) (h:∀u,u < n→u≠v→f u=g u):((vuv n).map f).set v (g v)=(vuv n).map g:=by
 refine vtz fun j=>?_
 rw [vwh];simp only [vuf,vwp,vt8];by_cases e:v=j
 ·subst e;simp [hv]
 ·rw [if_neg e];by_cases hj:j < n
  ·simp [vx2 hj,h j hj (fun q=>e q.symm)]
  ·simp [hj]
theorem qq3 {α:Type} (f:Nat→α) {n v:Nat} (hv:v < n):((vuv n).map f)[v]?=some (f v):=by simp [vx2 hv]
def qvl (E:List Arr2_int) (n:Nat):List (List Int):=(vuv n).map fun v=>vxg (qop (qlb E v))
theorem q2j (n:Nat) (E:List Arr2_int) (hn:n≤1000) (hE:E.length≤100000) (h:q2h n E):qhz (n:Int) E=some (qvl E n):=by
 have h0:(0:Int)≤(n:Int):=by omega
 have hr:qao n 24=true:=by unfold qao;simp only [decide_eq_true_eq];omega
 have L1:∀(d k:Nat),k+d=E.length→qae (qfr E) ((vuv n).map (qlb (E.take k)),(k:Int))=some ((vuv n).map (qlb E)):=by
  intro d
  induction d with
  | zero =>
   intro k hk;obtain rfl:k=E.length:=by omega
   rw [vyi];exact qad (by simp [qfr])
  | succ d ih =>
   intro k hk;have hlt:k < E.length:=by omega
   have hx:E[k]?=some E[k]:=vt5 hlt;obtain ⟨h1,h2,h3,h4⟩:=h _ (vup hx);have hv:E[k].x0.toNat < n:=by omega
   have e0:E[k].x0=((E[k].x0.toNat:Nat):Int):=by omega
   have hg:idx ((vuv n).map (qlb (E.take k))) E[k].x0=some (qlb (E.take k) E[k].x0.toNat):=by
    conv=>lhs;rw [e0]
    exact qaa (qq3 _ hv)
   have hlen:=q2i (E.take k) E[k].x0.toNat;rw [vuj] at hlen;have hroom:qao ((qlb (E.take k) E[k].x0.toNat).length+1) 8=true:=qn9 (by omega);have ht:E.take (k+1)=E.take k++[E[k]]:=by rw [vyh,hx];rfl
   rw [qac (s':=((vuv n).map (qlb (E.take (k+1))),((k+1:Nat):Int))) (by
    simp only [qfr,if_pos (qaj hx),qaa hx,hg,vvn,hroom,if_true,wqn k];congr 3;have hs:=qgu (qlb (E.take k)) (qlb (E.take (k+1))) hv (fun u hu hne=>by
     rw [ht,q5k,if_neg];intro e;exact hne (by omega))
    rw [←hs,ht,q5k,if_pos e0])]
   exact ih (k+1) (by omega)
 have hinit:(vuv n).map (qlb ([]:List Arr2_int))=vux n ([]:List Int):=by
  have:qlb ([]:List Arr2_int)=fun _=>[]:=by funext v;rfl
  rw [this];refine vtz fun j=>?_
  rw [vt8,vua];by_cases hj:j < n
  ·rw [vx2 hj,if_pos hj];rfl
  ·rw [vt6 (by simp;omega),if_neg hj];rfl
 have L1':=L1 E.length 0 (by omega);rw [vu2,hinit] at L1';simp only [vxn] at L1';have L2:∀(d k:Nat),k+d=n→qae (qfs ((vuv n).map (qlb E))) ((vuv n).map (fun v=>if v < k then vxg (qop (qlb E v)) else qlb E v),(k:Int))=some (qvl E n):=by
  intro d
  induction d with
  | zero =>
   intro k hk;obtain rfl:k=n:=by omega
   have e:(vuv k).map (fun v=>if v < k then vxg (qop (qlb E v)) else qlb E v)=qvl E k:=by
    refine vws fun v hv=>?_
    rw [if_pos (vw1.1 hv)]
   rw [e];exact qad (by simp [qfs])
  | succ d ih =>
   intro k hk;have hlt:k < n:=by omega
   have c:((k:Int) < ((((vuv n).map (qlb E)).length:Nat):Int)):=by simp;omega
   have hlen:=q2i E k;have hsl:(qop (qlb E k)).length=(qlb E k).length:=(ql9 _).length_eq;have g1:idx ((vuv n).map (fun v=>if v < k then vxg (qop (qlb E v)) else qlb E v)) (k:Int)=some (qlb E k):=by
    rw [qaa (qq3 _ hlt),if_neg (Nat.lt_irrefl _)]
   have g2:qwx (qlb E k)=some (qop (qlb E k)):=if_pos (by omega);have g3:vgl (qop (qlb E k))=some (vxg (qop (qlb E k))):=if_pos (by omega);have g4:idx (((vuv n).map (fun v=>if v < k then vxg (qop (qlb E v)) else qlb E v)).set k (qop (qlb E k))) (k:Int)=some (qop (qlb E k)):=by
    refine qaa ?_;rw [vwh,if_pos rfl,if_pos (by simp;omega)]
   rw [qac (s':=((vuv n).map (fun v=>if v < k+1 then vxg (qop (qlb E v)) else qlb E v),((k+1:Nat):Int))) (by
    simp only [qfs,if_pos c,g1,g2,vvn,vxr,g4,g3,wqn k,List.set_set];congr 3;have hs:=qgu (fun v=>if v < k then vxg (qop (qlb E v)) else qlb E v) (fun v=>if v < k+1 then vxg (qop (qlb E v)) else qlb E v) hlt (fun u hu hne=>by
     by_cases q:u < k
     ·simp only [if_pos q,if_pos (show u < k+1 by omega)]
     ·simp only [if_neg q,if_neg (show ¬u < k+1 by omega)])
    rw [←hs];simp only [if_pos (Nat.lt_succ_self k)])]
   exact ih (k+1) (by omega)
 have L2':=L2 n 0 (by omega);have e0:(vuv n).map (fun v=>if v < 0 then vxg (qop (qlb E v)) else qlb E v)=(vuv n).map (qlb E):=by
  refine vws fun v hv=>?_
  rw [if_neg (by omega)]
 rw [e0] at L2';simp only [vxn] at L2';simp only [qhz,if_pos h0,vxr,hr,if_true,L1',L2',vvn]
def qfl (E:List Arr2_int) (u v:Nat):Prop:=(⟨(u:Int),(v:Int)⟩:Arr2_int)∈E
theorem vfl {E:List Arr2_int} {n u:Nat} {x:Int} (hu:u < n) (h:q2h n E) {l:List Int} (hl:(qvl E n)[u]?=some l):x∈l↔∃v:Nat,x=(v:Int)∧v < n∧qfl E u v:=by
 unfold qvl at hl;rw [qq3 _ hu] at hl;cases hl;rw [q7q,(ql9 _).mem_iff];unfold qlb qfl;simp only [vwz,vwy,decide_eq_true_eq];constructor
 ·rintro ⟨e,⟨he,h0⟩,rfl⟩;obtain ⟨h1,h2,h3,h4⟩:=h e he;refine ⟨e.x1.toNat,by omega,by omega,?_⟩;have:(⟨(u:Int),((e.x1.toNat:Nat):Int)⟩:Arr2_int)=e:=by
   obtain ⟨a,b⟩:=e;simp only at *;congr 1
   ·exact h0.symm
   ·omega
  rw [this];exact he
 ·rintro ⟨v,rfl,_,he⟩;exact ⟨_,⟨he,rfl⟩,rfl⟩
def qaz (W:Nat→Nat→Int) (n:Nat):List Pair:=qkn n (fun _ _=>true) fun i k=>⟨(i:Int),(k:Int),W i k⟩
theorem qkx {W:Nat→Nat→Int} {n:Nat} {p:Pair}:p∈qaz W n↔∃i k:Nat,i < k∧k < n∧p=⟨(i:Int),(k:Int),W i k⟩:=by
 unfold qaz;rw [qhj];constructor
 ·rintro ⟨i,k,h1,h2,_,h3⟩;exact ⟨i,k,h1,h2,h3⟩
 ·rintro ⟨i,k,h1,h2,h3⟩;exact ⟨i,k,h1,h2,rfl,h3⟩
def q9b (p:Pair):Arr2_int:=⟨p.I,p.K⟩
theorem qx0 (W:Nat→Nat→Int) (n:Nat):((qaz W n).map q9b).Nodup:=by
 unfold qaz;rw [quz];unfold qkn vy0;rw [vzn];constructor
 ·intro i _;rw [vzn];constructor
  ·intro k _;simp
  ·refine (vzq (s:=i+1) (n:=n - (i+1)) (step:=1)).imp fun {a b} hab x hx y hy=>?_
   simp only [if_true,vw2] at hx hy;subst hx;subst hy;intro e;simp only [q9b,Arr2_int.mk.injEq] at e;omega
 ·refine (vzq (s:=0) (n:=n) (step:=1)).imp fun {a b} hab x hx y hy=>?_
  simp only [vuo,if_true,vw2] at hx hy;obtain ⟨k,_,rfl⟩:=hx;obtain ⟨j,_,rfl⟩:=hy;intro e;simp only [q9b,Arr2_int.mk.injEq] at e;omega
theorem qof (W:Nat→Nat→Int) (n:Nat) (hn:n≤6):(qaz W n).length≤36:=by
 have:=qq2 n (fun _ _=>true) fun i k=>(⟨(i:Int),(k:Int),W i k⟩:Pair)
 have h2:n * n≤6 * 6:=vz0 hn hn;unfold qaz;omega
def WOk (W:Nat→Nat→Int):Prop:=(∀i k,-1000≤W i k∧W i k≤1000)∧(∀i k,W i k=W k i)∧∀i,W i i=0
theorem vfm {l:List Pair} (h:(l.map q9b).Nodup) {k:Nat} {x:Pair} (hx:l[k]?=some x):q9b x ∉ (l.take k).map q9b:=by
 intro hm;have hk:=qam hx;obtain ⟨p,hp,e⟩:=vwz.1 hm;obtain ⟨j,hj,hjp⟩:=List.mem_take_iff_getElem.1 hp;have g1:(l.map q9b)[j]?=some (q9b x):=by
  rw [vt8,vt5 (by omega),hjp,vvs,e]
 have g2:(l.map q9b)[k]?=some (q9b x):=by rw [vt8,hx,vvs]
 have l1:=qam g1;rw [←g2] at g1;have:=(vy9 l1 h).1 g1;omega
theorem vfn (W:Nat→Nat→Int) (hW:WOk W) (n:Nat) (hn:n≤6):qix (n:Int) (qaz W n)=some 0:=by
 have hl:=qof W n hn;have c1:¬((n:Int) < 0):=by omega
 have c2:((n:Int) > 200)=False:=eq_false (by omega);have c3:¬(((qaz W n).length:Int) > 20000):=by omega
 have key:∀(d k:Nat) (seen:List (Arr2_int×Bool)),k+d=(qaz W n).length→(∀q,(qpx seen q).getD false=decide (q∈((qaz W n).take k).map q9b))→qae (qh0 (n:Int) (qaz W n)) (seen,(k:Int))=some (.inl ()):=by
  intro d
  induction d with
  | zero =>
   intro k seen hk _;have c:¬((k:Int) < ((qaz W n).length:Int)):=by omega
   exact qad (by simp only [qh0,if_neg c])
  | succ d ih =>
   intro k seen hk hs;have hlt:k < (qaz W n).length:=by omega
   have hx:(qaz W n)[k]?=some (qaz W n)[k]:=vt5 hlt;obtain ⟨i,j,h1,h2,he⟩:=qkx.1 (vup hx);have hkn:=vfm (qx0 W n) hx;have hq:=hs (q9b (qaz W n)[k]);rw [decide_eq_false hkn] at hq;have ht:(qaz W n).take (k+1)=(qaz W n).take k++[(qaz W n)[k]]:=by rw [vyh,hx];rfl
   rw [he] at hx hq ht;have hw:=hW.1 i j;have q1:¬((i:Int) < 0):=by omega
   have q2:¬((i:Int)≥(j:Int)):=by omega
   have q3:¬((j:Int)≥(n:Int)):=by omega
   have q4:¬(W i j < -1000):=by omega
   have q5:¬(W i j > 1000):=by omega
   have hq':(qpx seen (Arr2_int.mk (i:Int) (j:Int))).getD false=false:=hq;rw [qac (s':=(qvz seen (Arr2_int.mk (i:Int) (j:Int)) true,((k+1:Nat):Int))) (by
    simp only [qh0,if_pos (qaj hx),qaa hx,vvn,if_neg q1,if_neg q2,if_neg q3,if_neg q4,if_neg q5,hq',vtk,if_false,wqn k])]
   refine ih (k+1) _ (by omega) fun q=>?_
   rw [qxu,ht,vuk,vx4];by_cases e:q=Arr2_int.mk (i:Int) (j:Int)
   ·rw [if_pos e];symm;rw [e];simp [q9b]
   ·rw [if_neg e,hs q];rw [vxj,decide_eq_true_eq,decide_eq_true_eq,vun,vw2];constructor
    ·exact fun h=>.inl h
    ·rintro (h | h)
     ·exact h
     ·exact absurd h e
 have h:=key (qaz W n).length 0 [] (by omega) (by intro q;simp [qpx]);simp only [vxn] at h;simp only [qix,if_neg c1,c2,decide_false,vvn,vtk,if_false,if_neg c3,h]
theorem q5l (W:Nat→Nat→Int) (hW:WOk W) (n:Nat) (hn:n≤6):qgh (n:Int) (qaz W n)=some 0:=by
 have hl:=qof W n hn;have c1:¬((n:Int) < 0):=by omega
 have c2:¬((n:Int) > 200):=by omega
 have c3:¬(((qaz W n).length:Int) > 20000):=by omega
 have qr9:∀(i:Nat) (x:Pair),(qaz W n)[i]?=some x→qae (qcx (qaz W n) (i:Int) x) 0=some (.inl ()):=by
  intro i x hx;have hi:=qam hx;have hkn:=vfm (qx0 W n) hx;have h:=qme ((qaz W n).take i) (qcx (qaz W n) (i:Int) x) (fun _=>true) 1 (fun k y hy hk _=>by
   have hk':k < i:=by rw [vuj] at hk;omega
   have c:((k:Int) < (i:Int)):=by omega
   have hy':(qaz W n)[k]?=some y:=by rw [vub,if_pos hk'] at hy;exact hy
   have w:=wqn k;have hne:¬(y.I=x.I∧y.K=x.K):=by
    rintro ⟨e1,e2⟩;exact hkn (vwz.2 ⟨y,vup hy,by simp [q9b,e1,e2]⟩)
   by_cases e1:y.I=x.I
   ·have e2:¬y.K=x.K:=fun e=>hne ⟨e1,e⟩
    simp only [qcx,if_pos c,qaa hy',vvn,beq_iff_eq,if_pos e1,if_neg e2,w]
   ·simp only [qcx,if_pos c,qaa hy',vvn,beq_iff_eq,if_neg e1,w]) (fun k y _ hp=>by cases hp) (by
   rw [vuj,vw8 (by omega)];simp only [qcx,if_neg (vyu _)])
  rw [h];simp
 have h:=qme (qaz W n) (qfy (n:Int) (qaz W n)) (fun _=>true) 1 (fun k x hx hk _=>by
  obtain ⟨i,j,h1,h2,he⟩:=qkx.1 (vup hx);have hin:=qr9 k x hx;subst he;have hw:=hW.1 i j;have q1:¬((i:Int) < 0):=by omega
  have q2:¬((i:Int)≥(j:Int)):=by omega
  have q3:¬((j:Int)≥(n:Int)):=by omega
  have q4:¬(W i j < -1000):=by omega
  have q5:¬(W i j > 1000):=by omega
  simp only [qfy,if_pos (qaj hx),qaa hx,vvn,if_neg q1,if_neg q2,if_neg q3,if_neg q4,if_neg q5,hin,wqn k]) (fun k y _ hp=>by cases hp) (by simp [qfy])
 have hall:((qaz W n).all fun _=>true)=true:=by simp
 rw [hall] at h;simp only [qgh,if_neg c1,if_neg c2,if_neg c3,h,if_true,vvn]
def wOf (l:List Pair) (i k:Nat):Int:=l.foldl (fun m p=>if (p.I=(i:Int)∧p.K=(k:Int))∨(p.K=(i:Int)∧p.I=(k:Int)) then p.Weight else m) 0
theorem vi5 (l:List Pair) (p:Pair) (i k:Nat):wOf (l++[p]) i k=if (p.I=(i:Int)∧p.K=(k:Int))∨(p.K=(i:Int)∧p.I=(k:Int)) then p.Weight else wOf l i k:=by simp [wOf]
theorem vn0 {W:Nat→Nat→Int} (hW:WOk W) {n i k:Nat} (hi:i < n) (hk:k < n):wOf (qaz W n) i k=W i k:=by
 have key:∀(l:List Pair) (m:Int),(∀p∈l,p∈qaz W n)→(m=W i k∨∃p∈l,(p.I=(i:Int)∧p.K=(k:Int))∨(p.K=(i:Int)∧p.I=(k:Int))) →
   l.foldl (fun m p=>if (p.I=(i:Int)∧p.K=(k:Int))∨(p.K=(i:Int)∧p.I=(k:Int)) then p.Weight else m) m=W i k:=by
  intro l
  induction l with
  | nil=>intro m _ h;rcases h with h | ⟨p,hp,_⟩;exact h;cases hp
  | cons p l ih =>
   intro m hl h;rw [vx1];refine ih _ (fun q hq=>hl q (by simp [hq])) ?_;by_cases c:(p.I=(i:Int)∧p.K=(k:Int))∨(p.K=(i:Int)∧p.I=(k:Int))
   ·left;rw [if_pos c];obtain ⟨a,b,h1,h2,rfl⟩:=qkx.1 (hl p (by simp));simp only at c ⊢;rcases c with ⟨e1,e2⟩ | ⟨e1,e2⟩
    ·have:a=i:=by omega
     have:b=k:=by omega
     subst a b;rfl
    ·have:a=k:=by omega
     have:b=i:=by omega
     subst a b;exact hW.2.1 _ _
   ·rw [if_neg c];rcases h with h | ⟨q,hq,hc⟩
    ·exact .inl h
    ·rcases vwv.1 hq with rfl | hq
     ·exact absurd hc c
     ·exact .inr ⟨q,hq,hc⟩
 refine key _ 0 (fun p hp=>hp) ?_;rcases vw7 i k with h | h | h
 ·exact .inr ⟨_,qkx.2 ⟨i,k,h,hk,rfl⟩,.inl ⟨rfl,rfl⟩⟩
 ·subst h;exact .inl (hW.2.2 i).symm
 ·exact .inr ⟨_,qkx.2 ⟨k,i,h,hi,rfl⟩,.inr ⟨rfl,rfl⟩⟩
theorem vfo (W:Nat→Nat→Int) (hW:WOk W) (n:Nat) (hn:n≤6):qjc (n:Int) (qaz W n)=some (qj3 W n):=by
 have hl:=qof W n hn;have h0:(0:Int)≤(n:Int):=by omega
 have hr1:qao n 24=true:=by unfold qao;simp only [decide_eq_true_eq];omega
 have hr2:qao n 8=true:=qn9 (by omega);have L1:∀(d k:Nat),k+d=n→qae (qg9 (n:Int)) (vux k (vux n (0:Int))++vux (n - k) [],(k:Int))=some (vux n (vux n (0:Int))):=by
  intro d
  induction d with
  | zero =>
   intro k hk;obtain rfl:k=n:=by omega
   have c:¬((k:Int) < (((vux k ([]:List Int)).length:Nat):Int)):=by simp
   exact qad (by simp only [qg9,vxr,if_neg c,vxa,vyd,vtt])
  | succ d ih =>
   intro k hk;have c:((k:Int) < (((vux n ([]:List Int)).length:Nat):Int)):=by simp;omega
   have g:idx (vux k (vux n (0:Int))++vux (n - k) []) (k:Int)=some []:=by
    refine qaa ?_;rw [vy8,vuh,if_neg (by omega),vua,if_pos (by omega)]
   refine (qac (s':=(vux (k+1) (vux n (0:Int))++vux (n - (k+1)) [],((k+1:Nat):Int))) ?_).trans (ih (k+1) (by omega));simp only [qg9,vxr,if_pos c,if_pos h0,hr2,if_true,g,vvn,wqn k,ve1 (show k < n by omega)]
 have L1':=L1 n 0 (by omega);simp only [vyd,vuu,vvl,vxn] at L1';have L2:∀(d k:Nat),k+d=(qaz W n).length→qae (qha (qaz W n)) (qj3 (wOf ((qaz W n).take k)) n,(k:Int))=some (qj3 (wOf (qaz W n)) n):=by
  intro d
  induction d with
  | zero =>
   intro k hk;obtain rfl:k=(qaz W n).length:=by omega
   rw [vyi];exact qad (by simp only [qha,if_neg (vyu _)])
  | succ d ih =>
   intro k hk;have hlt:k < (qaz W n).length:=by omega
   have hx:(qaz W n)[k]?=some (qaz W n)[k]:=vt5 hlt;obtain ⟨i,j,h1,h2,he⟩:=qkx.1 (vup hx);have ht:(qaz W n).take (k+1)=(qaz W n).take k++[(qaz W n)[k]]:=by rw [vyh,hx];rfl
   rw [he] at hx ht;generalize hA:wOf ((qaz W n).take k)=A at *;generalize hA':wOf ((qaz W n).take (k+1))=A';have hAA:∀a b:Nat,A' a b=if (a=i∧b=j)∨(a=j∧b=i) then W i j else A a b:=by
    intro a b;rw [←hA',ht,vi5,←hA];by_cases q:(a=i∧b=j)∨(a=j∧b=i)
    ·rw [if_pos q,if_pos (by simp only;omega)]
    ·rw [if_neg q,if_neg (by simp only;omega)]
   have gi:idx (qj3 A n) (i:Int)=some ((vuv n).map fun b=>A i b):=qaa (qjs _ (by omega));have gj:idx (qj3 A n) (j:Int)=some ((vuv n).map fun b=>A j b):=qaa (qjs _ h2);have gij:idx ((vuv n).map fun b=>A i b) (j:Int)=some (A i j):=qaa (qjs _ h2);have gji:idx ((vuv n).map fun b=>A j b) (i:Int)=some (A j i):=qaa (qjs _ (by omega));have gj2:idx ((qj3 A n).set i (((vuv n).map fun b=>A i b).set j (W i j))) (j:Int)=some ((vuv n).map fun b=>A j b):=by
    refine qaa ?_;rw [vwh,if_neg (by omega)];exact qjs _ h2
   have clen:((i:Int) < ((((vuv n).map fun b=>A j b).length:Nat):Int)):=by simp;omega
   have qnt:((qj3 A n).set i (((vuv n).map fun b=>A i b).set j (W i j))).set j (((vuv n).map fun b=>A j b).set i (W i j))=qj3 A' n:=by
    have r1:((vuv n).map fun b=>A i b).set j (W i j)=(vuv n).map fun b=>A' i b:=by
     have:=qgu (fun b=>A i b) (fun b=>A' i b) h2 (fun u hu hne=>by rw [hAA,if_neg (by omega)]);rw [←this,hAA i j,if_pos (.inl ⟨rfl,rfl⟩)]
    have r2:((vuv n).map fun b=>A j b).set i (W i j)=(vuv n).map fun b=>A' j b:=by
     have:=qgu (fun b=>A j b) (fun b=>A' j b) (show i < n by omega) (fun u hu hne=>by rw [hAA,if_neg (by omega)]);rw [←this,hAA j i,if_pos (.inr ⟨rfl,rfl⟩)]
    rw [r1,r2];have s1:=qgu (fun a=>(vuv n).map fun b=>A a b) (fun a=>if a=i then (vuv n).map (fun b=>A' i b) else (vuv n).map fun b=>A a b) (show i < n by omega) (fun u hu hne=>by simp only [if_neg hne]);simp only [if_true] at s1;have s2:=qgu (fun a=>if a=i then (vuv n).map (fun b=>A' i b) else (vuv n).map fun b=>A a b) (fun a=>(vuv n).map fun b=>A' a b) h2 (fun u hu hne=>by
     by_cases e:u=i
     ·subst e;simp
     ·simp only [if_neg e];refine vws fun b _=>?_
      rw [hAA,if_neg (by omega)])
    have e0:qj3 A n=(vuv n).map fun a=>(vuv n).map fun b=>A a b:=rfl
    rw [e0,s1,s2];rfl
   rw [qac (s':=(qj3 A' n,((k+1:Nat):Int))) (by
    simp only [qha,if_pos (qaj hx),qaa hx,vvn,gi,gj,gij,vxr,gj2,gji,if_pos clen,qnt,wqn k])]
   rw [←hA'];exact ih (k+1) (by omega)
 have L2':=L2 (qaz W n).length 0 (by omega);have e0:qj3 (wOf ((qaz W n).take 0)) n=vux n (vux n (0:Int)):=by
  refine vtz fun a=>?_
  by_cases ha:a < n
  ·rw [qj3,qjs _ ha,vua,if_pos ha];congr 1;refine vtz fun b=>?_
   by_cases hb:b < n
   ·rw [qjs _ hb,vua,if_pos hb];rfl
   ·rw [vt6 (by simp;omega),vua,if_neg hb]
  ·rw [vt6 (by simp [qj3];omega),vua,if_neg ha]
 rw [e0] at L2';have e1:qj3 (wOf (qaz W n)) n=qj3 W n:=by
  refine vws fun a ha=>vws fun b hb=>?_
  exact vn0 hW (vw1.1 ha) (vw1.1 hb)
 rw [e1] at L2';simp only [vxn] at L2';simp only [qjc,if_pos h0,vxr,hr1,if_true,L1',vvn,L2']
theorem vfp (W:Nat→Nat→Int) (hW:WOk W) (n:Nat) (h1:1≤n) (hn:n≤6):∃l c,vgm W n=some (l,c)∧qhb (n:Int) (qaz W n)=some (l,c,0):=by
 have hb:=hW.1;have s5:5 < n→qnp W n 5 _:=fun h=>vnt W hb n h hn
 have s4:4 < n→qnp W n 4 _:=fun h=>vnv W hb n h hn s5
 have s3:3 < n→qnp W n 3 _:=fun h=>vnw W hb n h hn s4
 have s2:2 < n→qnp W n 2 _:=fun h=>vnx W hb n h hn s3
 have s1:1 < n→qnp W n 1 _:=fun h=>vny W hb n h hn s2
 have s0:qnp W n 0 _:=vnz W hb n (by omega) hn s1;obtain ⟨s',b',h',t',least',q1,q2,q3,q4⟩:=s0 [] 0 (vux n 0) false 0 [] 0 rfl (by simp) (by simp) (vvb _);obtain ⟨l,c,ho,_⟩:=qxf W n;have q4':qy4 b' h' t' least'=some (l,c):=by rw [q4];exact ho
 refine ⟨l,c,ho,?_⟩;have hb':b'=true:=by
  cases b' with
  | true=>rfl
  | false=>simp [qy4] at q4'
 subst hb';simp only [qy4,if_true,vvt,Prod.mk.injEq] at q4';have c1:¬((n:Int) > 10):=by omega
 have h0:(0:Int)≤(n:Int):=by omega
 have hr:qao n 8=true:=qn9 (by omega);have e:((0:Int) == ((qj3 W n).length:Int))=false:=by rw [qtx,beq_eq_false_iff_ne];omega
 simp only [qhb,vfn W hW n hn,vvn,bne_self_eq_false,vtk,if_false,if_neg c1,vfo W hW n hn,if_pos h0,vxr,hr,if_true,e,q1,vuh,q2,q4'.1,q4'.2]
theorem qsi:∀(k:Nat) (p:List Int) (u:Nat),(qcp k p u).length≤(u+k+1) ^ k
 | 0,p,u=>by simp [qcp]
 | k+1,p,u=>by
  simp only [qcp];have h:=qjr (fun c:Nat=>qcp k (p++[(c:Int)]) (max u (c+1))) ((u+(k+1)+1) ^ k) (vuv (u+1)) (fun c hc=>by
   have hc:=vw1.1 hc;refine vvd (qsi k _ _) (vz1 ?_ k);omega)
  rw [vwp] at h;refine vvd h ?_;rw [Nat.pow_succ,Nat.mul_comm];exact Nat.mul_le_mul_left _ (by omega)
theorem qi0 (l:List Int) (k:Nat) {x:Int} (hx:l[k]?=some x):qb0 (l.take (k+1))=max (qb0 (l.take k)) (x.toNat+1):=by
 rw [vyh,hx];simp [qb0]
theorem vfq (out:List (List Int)) (i:Nat) {l:List Int} (hl:out[i]?=some l) (hnn:∀x∈l,(0:Int)≤x) (hlen:l.length≤1000000):qae (qeo out (i:Int)) (-1,0)=some ((qb0 l:Int) - 1):=by
 have key:∀(d k:Nat),k+d=l.length→qae (qeo out (i:Int)) ((qb0 (l.take k):Int) - 1,(k:Int))=some ((qb0 l:Int) - 1):=by
  intro d
  induction d with
  | zero =>
   intro k hk;obtain rfl:k=l.length:=by omega
   rw [vyi];exact qad (by simp only [qeo,qaa hl,vvn,if_neg (vyu _)])
  | succ d ih =>
   intro k hk;have hlt:k < l.length:=by omega
   have hx:l[k]?=some l[k]:=vt5 hlt;have h0:=hnn _ (vup hx);have hm:(if l[k] > (qb0 (l.take k):Int) - 1 then l[k] else (qb0 (l.take k):Int) - 1)=(qb0 (l.take (k+1)):Int) - 1:=by
    rw [qi0 l k hx];split <;> omega
   rw [qac (s':=((qb0 (l.take (k+1)):Int) - 1,((k+1:Nat):Int))) (by simp only [qeo,qaa hl,vvn,if_pos (qaj hx),qaa hx,hm,wqn k])];exact ih (k+1) (by omega)
 have h:=key l.length 0 (by omega);simpa [qb0] using h
def nfL (l:List Int):Prop:=(∀x∈l,(0:Int)≤x)∧∀(k:Nat) (x:Int),l[k]?=some x→x.toNat≤qb0 (l.take k)
theorem vi6 {l:List Int} (h:nfL l) {c:Nat} (hc:c≤qb0 l):nfL (l++[(c:Int)]):=by
 refine ⟨?_,?_⟩
 ·intro x hx;rcases vun.1 hx with hx | hx
  ·exact h.1 x hx
  ·rw [vw2] at hx;subst hx;omega
 ·intro k x hx;by_cases hk:k < l.length
  ·rw [vt2 hk] at hx;have:=h.2 k x hx
   rwa [vzu (by omega)]
  ·have hlt:=qam hx;rw [vud,vwq] at hlt;obtain rfl:k=l.length:=by omega
   rw [vzu (vvb _),vyi];simp at hx;subst hx;simpa using hc
theorem q2k:∀(k:Nat) (p:List Int) (u:Nat) (x:List Int),nfL p→u=qb0 p→x∈qcp k p u→nfL x
 | 0,p,u,x,hp,_,h=>by
  simp only [qcp,vw2] at h;subst h;exact hp
 | k+1,p,u,x,hp,hu,h=>by
  simp only [qcp,vuo,vw1] at h;obtain ⟨c,hc,hx⟩:=h;exact q2k k _ _ x (vi6 hp (by omega)) (by rw [qzz,hu]) hx
theorem vfr:nfL []:=⟨by simp,by simp⟩
theorem qo5 {l:List Int} (h:nfL l):qb0 l≤l.length:=by
 have key:∀k,k≤l.length→qb0 (l.take k)≤k:=by
  intro k
  induction k with
  | zero=>intro _;simp [qb0]
  | succ k ih =>
   intro hk;have hx:l[k]?=some l[k]:=vt5 (by omega);have:=h.2 k _ hx;have:=ih (by omega);rw [qi0 l k hx];omega
 have:=key l.length (vvb _)
 rwa [vyi] at this
theorem vbk (out:List (List Int)) (i:Nat) {l:List Int} (hl:out[i]?=some l) (hlen:l.length≤1000) (u:Nat) (hu:u≤1000) (more:List (List Int)) (hm:more.length≤20000000) :
  qae (qep out (i:Int) ((u:Int) - 1)) (more,0)=some (more++(vuv (u+1)).map fun c=>l++[((c:Nat):Int)]):=by
 have w:vxs.wrap ((u:Int) - 1+1)=(u:Int):=by rw [qav (by omega) (by omega)];omega
 have r1:qao l.length 8=true:=qn9 (by omega);have r2:qao (l.length+1) 8=true:=qn9 (by omega);have h:=qiz (qep out (i:Int) ((u:Int) - 1)) (fun c=>[l++[((c:Nat):Int)]]) (u+1) 30000000 1 (by
  intro k mo hk hl';have c:((k:Int)≤(u:Int)):=by omega
  have r3:qao (mo.length+1) 24=true:=by unfold qao;simp only [decide_eq_true_eq];omega
  simp only [qep,w,if_pos c,qaa hl,vvn,r1,r2,r3,if_true,wqn k]) (fun _ _=>vvb _) (by
  intro mo;have c:¬(((u+1:Nat):Int)≤(u:Int)):=by omega
  simp only [qep,w,if_neg c]) (u+1) 0 more (by omega) (by omega)
 simp only [vxn] at h;rw [h];congr 2;rw [←vuw,vzb]
theorem vi7 (n:Nat) (hn:n≤6):qjh (n:Int)=some (qcp n [] 0):=by
 have step:∀k,k < n→qae (qeq (qcp k [] 0)) ([],0)=some (qcp (k+1) [] 0):=by
  intro k hk;have hcount:(qcp k [] 0).length≤117649:=by
   refine vvd (qsi k [] 0) ?_;have:(0+k+1) ^ k≤7 ^ 6:=vvd (vz1 (by omega) k) (vz2 (by omega) (by omega));exact vvd this (by decide)
  have hel:∀x∈qcp k [] 0,nfL x∧x.length=k:=fun x hx=>⟨q2k k [] 0 x vfr rfl hx,by simpa using (qp2 k [] 0 x hx).1⟩
  have h:=qiz (qeq (qcp k [] 0)) (fun i=>(vuv (qb0 ((qcp k [] 0).getD i [])+1)).map fun c=>(qcp k [] 0).getD i []++[((c:Nat):Int)]) (qcp k [] 0).length 10000000 8 (by
   intro i mo hi hl;have hx:(qcp k [] 0)[i]?=some ((qcp k [] 0).getD i []):=by simp [vy7,vt5 hi]
   obtain ⟨hnf,hlen⟩:=hel _ (vup hx);have hus:=qo5 hnf;simp only [qeq,if_pos (qaj hx),vfq _ i hx hnf.1 (by omega),vvn,vbk _ i hx (by omega) (qb0 ((qcp k [] 0).getD i [])) (by omega) mo (by omega),wqn i]) (by
   intro i hi;have hx:(qcp k [] 0)[i]?=some ((qcp k [] 0).getD i []):=by simp [vy7,vt5 hi]
   obtain ⟨hnf,hlen⟩:=hel _ (vup hx);have hus:=qo5 hnf;rw [vuf,vwp];omega) (by
   intro mo;simp only [qeq,if_neg (vyu _)]) (qcp k [] 0).length 0 [] (by omega) (by simp;omega)
  simp only [vxn,vuu] at h;rw [h,qz0 k [] 0 rfl];congr 1;have key:∀(l:List (List Int)) (f:List Int→List (List Int)),(vw4 0 l.length).flatMap (fun i=>f (l.getD i []))=l.flatMap f:=by
   intro l f;rw [←vuw];have e:l=(vuv l.length).map fun i=>l.getD i []:=by
    refine vtz fun i=>?_
    by_cases hi:i < l.length
    ·rw [qjs _ hi,vt5 hi];simp [vy7,vt5 hi]
    ·rw [vt6 (by omega),vt6 (by simp;omega)]
   conv=>rhs;rw [e]
   rw [List.flatMap_map]
  exact key (qcp k [] 0) fun l=>(vuv (qb0 l+1)).map fun c=>l++[((c:Nat):Int)]
 have key:∀(d k:Nat),k+d=n→qae (qer (n:Int)) (qcp k [] 0,(k:Int))=some (qcp n [] 0):=by
  intro d
  induction d with
  | zero =>
   intro k hk;obtain rfl:k=n:=by omega
   exact qad (by simp only [qer,if_neg (vyu _)])
  | succ d ih =>
   intro k hk;have c:((k:Int) < (n:Int)):=by omega
   rw [qac (s':=(qcp (k+1) [] 0,((k+1:Nat):Int))) (by simp only [qer,if_pos c,step k (by omega),vvn,wqn k])];exact ih (k+1) (by omega)
 have h:=key n 0 (by omega);simp only [vxn] at h;have h':qae (qer (n:Int)) ([[]],0)=some (qcp n [] 0):=h;simp only [qjh,vvn,h']
theorem q5m (W:Nat→Nat→Int) (g:Nat→Nat→Int):∀(d i:Nat),((vw4 i d).flatMap fun a=>(vw4 (a+1) (i+d - (a+1))).map fun b=>g a b).sum=qkt g (vw4 i d)
 | 0,i=>rfl
 | d+1,i=>by
  rw [vzs,vwc,qkt,qxc];have e:i+(d+1) - (i+1)=d:=by omega
  rw [e];congr 1;rw [←q5m W g d (i+1)];congr 1;refine qk4 fun a _=>?_
  rw [show i+1+d=i+(d+1) by omega]
theorem vbl (n:Nat) (g:Nat→Nat→Int):(qkn n (fun _ _=>true) g).sum=qkt g (vuv n):=by
 have:=q5m (fun _ _=>0) g n 0;rw [vvm,←vuw] at this;rw [←this];unfold qkn;rw [vuw];congr 1;refine qk4 fun a _=>?_
 simp only [if_true];rw [vzb]
theorem qx1 (W:Nat→Nat→Int) (hW:WOk W) (n:Nat) (hn:n≤6) (l:List Int) (hl:l.length=n):qfz (qaz W n) l=some (qfk W l n):=by
 have hlen:=qof W n hn;have hgen:∀p∈qaz W n,0≤p.I∧p.I.toNat < n∧0≤p.K∧p.K.toNat < n∧-1000≤p.Weight∧p.Weight≤1000:=by
  intro p hp;obtain ⟨i,k,h1,h2,rfl⟩:=qkx.1 hp;have:=hW.1 i k;simp only;omega
 have hstep:∀(k:Nat) (m:Int) (p:Pair),(qaz W n)[k]?=some p→-1000000≤m→m≤1000000→qen (qaz W n) l (m,(k:Int))=some (.next (m+qgs p.Weight (l.getD p.I.toNat 0 == l.getD p.K.toNat 0),((k+1:Nat):Int))):=by
  intro k m p hx hm1 hm2;have hk:=qam hx;obtain ⟨q1,q2,q3,q4,q5,q6⟩:=hgen p (vup hx);have gI:idx l p.I=some (l.getD p.I.toNat 0):=by
   conv=>lhs;rw [show p.I=((p.I.toNat:Nat):Int) by omega]
   refine qaa ?_;simp [vwd,vt5 (show p.I.toNat < l.length by omega)]
  have gK:idx l p.K=some (l.getD p.K.toNat 0):=by
   conv=>lhs;rw [show p.K=((p.K.toNat:Nat):Int) by omega]
   refine qaa ?_;simp [vwd,vt5 (show p.K.toNat < l.length by omega)]
  have w:=wqn k;have w1:vxs.wrap (m+p.Weight)=m+p.Weight:=qav (by omega) (by omega);have w2:vxs.wrap (m - p.Weight)=m - p.Weight:=qav (by omega) (by omega);simp only [qen,if_pos (qaj hx),qaa hx,gI,gK,vvn,w,w1,w2];by_cases a1:p.Weight > 0
  ·have a2:¬p.Weight < 0:=by omega
   rcases vxi (l.getD p.I.toNat 0 == l.getD p.K.toNat 0) with e | e
   ·simp only [if_pos a1,if_neg a2,e,Bool.not_true,vvn,vtk,if_false,qgs,if_true];congr 3;omega
   ·simp only [if_pos a1,if_neg a2,e,vys,vvn,vtk,if_false,qgs,if_true];congr 3;omega
  ·by_cases a2:p.Weight < 0
   ·rcases vxi (l.getD p.I.toNat 0 == l.getD p.K.toNat 0) with e | e
    ·simp only [if_neg a1,if_pos a2,e,vvn,vtk,if_false,qgs,if_true];congr 3;omega
    ·simp only [if_neg a1,if_pos a2,e,vvn,vtk,if_false,qgs];congr 3;omega
   ·have h0:p.Weight=0:=by omega
    simp only [if_neg a1,if_neg a2,vvn,vtk,if_false,qgs,h0];congr 3;simp
 have hsum:∀(l':List Pair) (m:Int),(∀p∈l',p∈qaz W n)→l'.foldl (fun m p=>m+qgs p.Weight (l.getD p.I.toNat 0 == l.getD p.K.toNat 0)) m=m+(l'.map fun p=>qgs p.Weight (l.getD p.I.toNat 0 == l.getD p.K.toNat 0)).sum:=by
  intro l'
  induction l' with
  | nil=>intro m _;simp
  | cons p l' ih =>
   intro m h;rw [vx1,ih _ (fun q hq=>h q (by simp [hq])),List.map_cons,List.sum_cons];omega
 have h:=qhq (qaz W n) (fun (m:Int) (k:Int)=>(m,k)) (qen (qaz W n) l) (fun m p=>m+qgs p.Weight (l.getD p.I.toNat 0 == l.getD p.K.toNat 0)) id (fun k m=>0≤m∧m≤1000 * (k:Int)) (b0:=0) (s0:=(0,0)) rfl (by simp) (by
  intro k m p hx hk hm;have:=qty p.Weight (l.getD p.I.toNat 0 == l.getD p.K.toNat 0) (hgen p (vup hx)).2.2.2.2;exact ⟨hstep k m p hx (by omega) (by omega),by omega,by omega⟩) (by
  intro m _;simp only [qen,if_neg (vyu _),id])
 simp only [qfz,h,id,vvn];rw [hsum _ 0 (fun p hp=>hp),Int.zero_add];congr 1;rw [qxd,←vbl];unfold qaz;rw [quz];rfl
theorem vfs (W:Nat→Nat→Int) (hW:WOk W) (n:Nat) (hn:n≤6):∃l c,vgm W n=some (l,c)∧qes (n:Int) (qaz W n)=some (l,c,0):=by
 obtain ⟨l,c,ho,hmem,hcost,_⟩:=qxf W n;refine ⟨l,c,ho,?_⟩;have c1:¬((n:Int) > 10):=by omega
 have hlen:∀x∈qcp n [] 0,x.length=n:=fun x hx=>by simpa using (qp2 n [] 0 x hx).1
 have hcount:(qcp n [] 0).length≤117649:=by
  refine vvd (qsi n [] 0) ?_;have:(0+n+1) ^ n≤7 ^ 6:=vvd (vz1 (by omega) n) (vz2 (by omega) (by omega));exact vvd this (by decide)
 cases hA:qcp n [] 0 with
 | nil=>exact absurd hA (q8u n [] 0)
 | cons x xs =>
  have hx0:(qcp n [] 0)[0]?=some x:=by rw [hA];rfl
  have loop:∀(d k:Nat) (best:List Int),k+d=(qcp n [] 0).length→best∈qcp n [] 0→qae (qb2 (qaz W n) (qcp n [] 0)) (best,(k:Int))=some ((((qcp n [] 0).drop k).foldl (qlh fun y=>qfk W y n) (some (best,qfk W best n))).map (·.1)).get!:=by
   intro d
   induction d with
   | zero =>
    intro k best hk hb;have e:(qcp n [] 0).drop k=[]:=List.drop_of_length_le (by omega);have c:¬((k:Int) < ((qcp n [] 0).length:Int)):=by omega
    rw [e];exact qad (by simp only [qb2,if_neg c];rfl)
   | succ d ih =>
    intro k best hk hb;have hlt:k < (qcp n [] 0).length:=by omega
    have hy:(qcp n [] 0)[k]?=some (qcp n [] 0)[k]:=vt5 hlt;have hym:=vup hy;have w:=wqn k;rw [qji hy,vx1];by_cases hc:qfk W (qcp n [] 0)[k] n < qfk W best n
    ·rw [qac (s':=((qcp n [] 0)[k],((k+1:Nat):Int))) (by simp only [qb2,if_pos (qaj hy),qaa hy,vvn,qx1 W hW n hn _ (hlen _ hym),qx1 W hW n hn _ (hlen _ hb),if_pos hc,w])];rw [ih (k+1) _ (by omega) hym];simp only [qlh,if_pos hc]
    ·rw [qac (s':=(best,((k+1:Nat):Int))) (by simp only [qb2,if_pos (qaj hy),qaa hy,vvn,qx1 W hW n hn _ (hlen _ hym),qx1 W hW n hn _ (hlen _ hb),if_neg hc,w])];rw [ih (k+1) _ (by omega) hb];simp only [qlh,if_neg hc]
  have h:=loop ((qcp n [] 0).length - 1) 1 x (by rw [hA];simp;omega) (by rw [hA];simp);have ho':((qcp n [] 0).drop 1).foldl (qlh fun y=>qfk W y n) (some (x,qfk W x n))=some (l,c):=by
   rw [←ho];unfold vgm;rw [hA];rfl
  rw [ho'] at h;have h':qae (qb2 (qaz W n) (qcp n [] 0)) (x,1)=some l:=h;simp only [qes,q5l W hW n hn,vvn,bne_self_eq_false,vtk,if_false,if_neg c1,vi7 n hn,hx0,h',qx1 W hW n hn l (hlen l hmem),hcost]
structure Vis (R:Nat→Nat→Prop) (n v:Nat) (seen:List Bool) (out:List Int):Prop where
 len:seen.length=n
 nodup:out.Nodup
 mem:∀x∈out,0≤x∧x < (n:Int)∧Rch R v x.toNat
 seen:∀u,u < n→seen[u]?=some (decide ((u:Int)∈out))
def qbr (l:List Nat):List Int:=l.map fun (k:Nat)=>(k:Int)
theorem qx2 {l:List Nat} {x:Int}:x∈qbr l↔∃k∈l,x=(k:Int):=by
 simp only [qbr,vwz];exact ⟨fun ⟨k,h,e⟩=>⟨k,h,e.symm⟩,fun ⟨k,h,e⟩=>⟨k,h,e.symm⟩⟩
theorem Vis.small {R:Nat→Nat→Prop} {n v:Nat} {seen:List Bool} {out:List Int} (V:Vis R n v seen out):out.length≤n:=by
 have:=qo2 (l':=qbr (vuv n)) V.nodup (by
  intro x hx;obtain ⟨h1,h2,_⟩:=V.mem x hx;exact qx2.2 ⟨x.toNat,vw1.2 (by omega),by omega⟩)
 simpa [qbr] using this
theorem q7v {R:Nat→Nat→Prop} {n v:Nat} (hn:n≤1000) (L:List Int) (hL:∀x∈L,0≤x∧x < (n:Int)∧Rch R v x.toNat) (hlen:L.length≤1000000):∀(d k:Nat) (seen:List Bool) (out:List Int),k+d=L.length→Vis R n v seen out →
  ∃seen' out',qae (qh7 L) (seen,out,(k:Int))=some (seen',out')∧Vis R n v seen' out'∧(∃e,out'=out++e)∧(∀j x,k≤j→L[j]?=some x→x∈out'):=by
 intro d
 induction d with
 | zero =>
  intro k seen out hk V;refine ⟨seen,out,qad ?_,V,⟨[],by simp⟩,?_⟩
  ·have c:¬((k:Int) < (L.length:Int)):=by omega
   simp only [qh7,if_neg c]
  ·intro j x hj hx;have:=qam hx;omega
 | succ d ih =>
  intro k seen out hk V;have hlt:k < L.length:=by omega
  have hx:L[k]?=some L[k]:=vt5 hlt;obtain ⟨h1,h2,h3⟩:=hL _ (vup hx);have e0:L[k]=((L[k].toNat:Nat):Int):=by omega
  have hu:L[k].toNat < n:=by omega
  have w:=wqn k;have hs:idx seen L[k]=some (decide (L[k]∈out)):=by
   have:=V.seen _ hu;rw [←e0] at this
   conv=>lhs;rw [e0]
   exact qaa this
  by_cases hm:L[k]∈out
  ·obtain ⟨seen',out',q1,q2,⟨e,q3⟩,q4⟩:=ih (k+1) seen out (by omega) V;refine ⟨seen',out',?_,q2,⟨e,q3⟩,?_⟩
   ·rw [qac (s':=(seen,out,((k+1:Nat):Int))) (by simp only [qh7,if_pos (qaj hx),qaa hx,vvn,hs,hm,decide_true,if_true,w])];exact q1
   ·intro j x hj hxj;rcases vzz hj with hlt' | rfl
    ·exact q4 j x hlt' hxj
    ·rw [hx] at hxj;cases hxj;rw [q3];exact vzf _ hm
  ·have hroom:qao (out.length+1) 8=true:=qn9 (by have:=V.small;omega);have V':Vis R n v (seen.set L[k].toNat true) (out++[L[k]]):=by
    refine ⟨by rw [vui];exact V.len,?_,?_,?_⟩
    ·rw [vzk];refine ⟨V.nodup,by simp,?_⟩;intro a ha b hb hab;rw [vw2] at hb;subst hb;subst hab;exact hm ha
    ·intro x hxm;rcases vun.1 hxm with h | h
     ·exact V.mem x h
     ·rw [vw2] at h;subst h;exact ⟨h1,h2,h3⟩
    ·intro u hu';rw [vwh];by_cases e:L[k].toNat=u
     ·subst e;rw [if_pos rfl,if_pos (by rw [V.len];exact hu')];congr 1;symm;rw [decide_eq_true_eq,←e0];simp
     ·rw [if_neg e,V.seen u hu'];congr 1;rw [vxj,decide_eq_true_eq,decide_eq_true_eq,vun,vw2];constructor
      ·exact fun h=>.inl h
      ·rintro (h | h)
       ·exact h
       ·exact absurd (show L[k].toNat=u by omega) e
   obtain ⟨seen',out',q1,q2,⟨e,q3⟩,q4⟩:=ih (k+1) _ _ (by omega) V';refine ⟨seen',out',?_,q2,⟨[L[k]]++e,by rw [q3,vts]⟩,?_⟩
   ·rw [qac (s':=(seen.set L[k].toNat true,out++[L[k]],((k+1:Nat):Int))) (by simp only [qh7,if_pos (qaj hx),qaa hx,vvn,hs,hm,decide_false,vtk,if_false,hroom,if_true,w])];exact q1
   ·intro j x hj hxj;rcases vzz hj with hlt' | rfl
    ·exact q4 j x hlt' hxj
    ·rw [hx] at hxj;cases hxj;rw [q3];simp
theorem vn1 {E:List Arr2_int} {n u:Nat} {l:List Int} (hl:(qvl E n)[u]?=some l):l.length≤E.length:=by
 have hu:u < n:=by have:=qam hl;simpa [qvl] using this
 unfold qvl at hl;rw [qq3 _ hu] at hl;cases hl;have h1:=q1u (l:=qop (qlb E u)) (l':=vxg (qop (qlb E u))) ;have h2:(qop (qlb E u)).length=(qlb E u).length:=(ql9 _).length_eq;have h3:=q2i E u;unfold vxg vyy;rw [vuf];have:=vwn (vyz (qop (qlb E u)).toArray) (vuv (qop (qlb E u)).length);rw [vwp] at this;omega
theorem q7w {n v:Nat} (hn:n≤1000) (E:List Arr2_int) (hE:E.length≤100000) (h:q2h n E):∀(d i:Nat) (seen:List Bool) (out:List Int),i+d=n→i≤out.length→Vis (qfl E) n v seen out →
  (∀j x,j < i→out[j]?=some x→∀w:Nat,w < n→qfl E x.toNat w→(w:Int)∈out) →
  ∃out' seen',qae (qh8 (qvl E n)) (seen,out,(i:Int))=some out'∧Vis (qfl E) n v seen' out'∧(∀x∈out,x∈out')∧(∀x∈out',∀w:Nat,w < n→qfl E x.toNat w→(w:Int)∈out'):=by
 intro d
 induction d with
 | zero =>
  intro i seen out hk hi V hc;have hs:=V.small;have c:¬((i:Int) < ((out.length:Nat):Int)):=by omega
  refine ⟨out,seen,qad (by simp only [qh8,if_neg c]),V,fun x hx=>hx,?_⟩;intro x hx w hw he;obtain ⟨j,hj,e⟩:=vzi.1 hx;exact hc j x (by omega) (by rw [vt5 hj,e]) w hw he
 | succ d ih =>
  intro i seen out hk hi V hc;by_cases hlt:i < out.length
  ·have c:((i:Int) < ((out.length:Nat):Int)):=by omega
   have hx:out[i]?=some out[i]:=vt5 hlt;obtain ⟨h1,h2,h3⟩:=V.mem _ (vup hx);have e0:out[i]=((out[i].toNat:Nat):Int):=by omega
   have hu:out[i].toNat < n:=by omega
   have ha:(qvl E n)[out[i].toNat]?=some ((qvl E n).getD out[i].toNat []):=by
    have:out[i].toNat < (qvl E n).length:=by simp [qvl];omega
    simp [vy7,vt5 this]
   have hidx:idx (qvl E n) out[i]=some ((qvl E n).getD out[i].toNat []):=by
    conv=>lhs;rw [e0]
    exact qaa ha
   have hlen:=vn1 ha;obtain ⟨seen',out',q1,q2,⟨e,q3⟩,q4⟩:=q7v (R:=qfl E) (n:=n) (v:=v) hn ((qvl E n).getD out[i].toNat []) (by
    intro x hxm;obtain ⟨w,rfl,hw,he⟩:=(vfl hu h ha).1 hxm;refine ⟨by omega,by omega,?_⟩;rw [vxr];exact h3.step he) (by omega) ((qvl E n).getD out[i].toNat []).length 0 seen out (by omega) V
   simp only [vxn] at q1;have hpre:∀j x,j < out.length→out'[j]?=some x→out[j]?=some x:=by
    intro j x hj hx';rw [q3,vt2 hj] at hx';exact hx'
   obtain ⟨out2,seen2,r1,r2,r3,r4⟩:=ih (i+1) seen' out' (by omega) (by rw [q3,vud];omega) q2 (by
    intro j x hj hx' w hw he;have hx2:=hpre j x (by omega) hx';rcases vzz (vzy hj) with hlt' | rfl
    ·rw [q3];exact vzf _ (hc j x hlt' hx2 w hw he)
    ·rw [hx] at hx2;cases hx2;have hm:(w:Int)∈(qvl E n).getD out[j].toNat []:=(vfl hu h ha).2 ⟨w,rfl,hw,he⟩;obtain ⟨m,hm1,hm2⟩:=vzi.1 hm;exact q4 m _ (vxc _) (by rw [vt5 hm1,hm2]))
   refine ⟨out2,seen2,?_,r2,fun x hxm=>r3 x (by rw [q3];exact vzf _ hxm),r4⟩;rw [qac (s':=(seen',out',((i+1:Nat):Int))) (by simp only [qh8,if_pos c,qaa hx,hidx,vvn,q1,wqn i])];exact r1
  ·have c:¬((i:Int) < ((out.length:Nat):Int)):=by omega
   refine ⟨out,seen,qad (by simp only [qh8,if_neg c]),V,fun x hx=>hx,?_⟩;intro x hx w hw he;obtain ⟨j,hj,e⟩:=vzi.1 hx;exact hc j x (by omega) (by rw [vt5 hj,e]) w hw he
theorem vft {l:List Nat} (h:l.Pairwise (· < ·)):(qbr l).Pairwise (· < ·):=by
 unfold qbr;rw [vzr];exact h.imp fun h=>by omega
theorem vi8 {n v:Nat} (hn:n≤1000) (hv:v < n) (E:List Arr2_int) (hE:E.length≤100000) (h:q2h n E):qmd (qvl E n) (v:Int)=some (qbr (qjq (qfl E) n v)):=by
 have hl:(qvl E n).length=n:=by simp [qvl]
 have h0:(0:Int)≤((qvl E n).length:Int):=by omega
 have hr:qao (qvl E n).length 1=true:=by rw [hl];unfold qao;simp only [decide_eq_true_eq];omega
 have hg:idx (vux (qvl E n).length false) (v:Int)=some false:=by
  refine qaa ?_;rw [hl,vua,if_pos hv]
 have V0:Vis (qfl E) n v ((vux (qvl E n).length false).set v true) [(v:Int)]:=by
  rw [hl];refine ⟨by simp,by simp,?_,?_⟩
  ·intro x hx;rw [vw2] at hx;subst hx;exact ⟨by omega,by omega,by rw [vxr];exact .refl⟩
  ·intro u hu;rw [vwh,vua];by_cases e:v=u
   ·subst e;simp [hu]
   ·rw [if_neg e,if_pos hu];congr 1;symm;rw [decide_eq_false_iff_not,vw2];omega
 obtain ⟨out,seen,q1,q2,q3,q4⟩:=q7w hn E hE h n 0 _ _ (by omega) (by simp) V0 (by intro j x hj;omega);simp only [vxn] at q1;have hsm:=q2.small;have hsrt:qwx out=some (qop out):=if_pos (by omega);have hmem:∀x,x∈out↔x∈qbr (qjq (qfl E) n v):=by
  intro x;rw [qx2];constructor
  ·intro hx;obtain ⟨h1,h2,h3⟩:=q2.mem x hx;exact ⟨x.toNat,qis.2 ⟨by omega,h3⟩,by omega⟩
  ·rintro ⟨k,hk,rfl⟩;obtain ⟨hkn,hkr⟩:=qis.1 hk;have:=hkr.closed (S:=fun u=>u < n→(u:Int)∈out) (fun _=>q3 _ (by simp)) (by
    intro x y hx hxy hy;have hxn:x < n:=by
     obtain ⟨_,h2,_,_⟩:=h _ hxy;simp only at h2;omega
    have hin:=hx hxn;exact q4 _ hin y hy (by rw [vxr];exact hxy))
   exact this hkn
 have hasc:=vft (qxe (qfl E) n v);have hperm:(qop out).Perm (qbr (qjq (qfl E) n v)):=(ql9 out).trans ((List.perm_ext_iff_of_nodup q2.nodup (hasc.imp fun h=>by omega)).2 hmem);have heq:qop out=qbr (qjq (qfl E) n v):=hperm.eq_of_pairwise (fun a b _ _ h1 h2=>Int.le_antisymm h1 h2) (qwz out) (hasc.imp fun h=>by omega);simp only [qmd,if_pos h0,hr,if_true,vvn,hg,vxr,q1,hsrt,heq]
theorem vfu {n:Nat} (hn:n≤1000) (L:List Nat) (hL:∀x∈L,x < n) (hlen:L.length≤1000000) (p:Nat→Bool):qae (qdw (qbr L)) ((vuv n).map p,0)=some ((vuv n).map fun u=>p u || decide (u∈L)):=by
 have key:∀(d k:Nat),k+d=L.length→qae (qdw (qbr L)) ((vuv n).map (fun u=>p u || decide (u∈L.take k)),(k:Int))=some ((vuv n).map fun u=>p u || decide (u∈L)):=by
  intro d
  induction d with
  | zero =>
   intro k hk;obtain rfl:k=L.length:=by omega
   rw [vyi];exact qad (by simp [qdw,qbr])
  | succ d ih =>
   intro k hk;have hlt:k < L.length:=by omega
   have hx:L[k]?=some L[k]:=vt5 hlt;have hxn:=hL _ (vup hx);have hx':(qbr L)[k]?=some ((L[k]:Nat):Int):=by simp [qbr,hx]
   have hg:=qaa (qq3 (fun u=>p u || decide (u∈L.take k)) hxn);have ht:L.take (k+1)=L.take k++[L[k]]:=by rw [vyh,hx];rfl
   rw [qac (s':=((vuv n).map (fun u=>p u || decide (u∈L.take (k+1))),((k+1:Nat):Int))) (by
    simp only [qdw,if_pos (qaj hx'),qaa hx',hg,vvn,vxr,wqn k];congr 3;have hs:=qgu (fun u=>p u || decide (u∈L.take k)) (fun u=>p u || decide (u∈L.take (k+1))) hxn (fun u hu hne=>by
     rw [ht];congr 1;rw [vxj,decide_eq_true_eq,decide_eq_true_eq,vun,vw2];exact ⟨fun h=>.inl h,fun h=>h.resolve_right hne⟩)
    have hmk:L[k]∈L.take (k+1):=by rw [ht];exact vzg _ (vw2.2 rfl)
    rw [←hs,decide_eq_true hmk,Bool.or_true])]
   exact ih (k+1) (by omega)
 have h:=key L.length 0 (by omega);simpa using h
open Classical in
def qhs (R:Nat→Nat→Prop) (k:Nat):List Nat:=(vuv k).filter fun v=>decide (∀u,u < v→¬Rch R u v)
theorem qx3 (R:Nat→Nat→Prop) (n:Nat):qhs R n=qmf R n:=rfl
open Classical in
theorem vbm {n:Nat} (hn:n≤1000) (E:List Arr2_int) (hE:E.length≤100000) (h:q2h n E):∀(d k:Nat),k+d=n →
  qae (qdx (n:Int) (qvl E n)) ((vuv n).map (fun x=>decide (∃u,u < k∧Rch (qfl E) u x)),(qhs (qfl E) k).map (fun v=>qbr (qjq (qfl E) n v)),(k:Int))=some ((qmf (qfl E) n).map fun v=>qbr (qjq (qfl E) n v)):=by
 intro d
 induction d with
 | zero =>
  intro k hk
  obtain rfl:k=n:=by omega
  exact qad (by simp only [qdx,if_neg (vyu _),qx3])
 | succ d ih =>
  intro k hk
  have hlt:k < n:=by omega
  have c:((k:Int) < (n:Int)):=by omega
  have hg:=qaa (qq3 (fun x=>decide (∃u,u < k∧Rch (qfl E) u x)) hlt)
  have w:=wqn k
  have hsucc:qhs (qfl E) (k+1)=qhs (qfl E) k++(if decide (∀u,u < k→¬Rch (qfl E) u k) then [k] else []):=by
   unfold qhs
   rw [vya,vy3]
   congr 1
   simp only [vy4,vy5]
  by_cases hd:∃u,u < k∧Rch (qfl E) u k
  ·have hno:¬∀u,u < k→¬Rch (qfl E) u k:=fun q=>by
    obtain ⟨u,hu,hr⟩:=hd
    exact q u hu hr
   have hfun:(fun x=>decide (∃u,u < k+1∧Rch (qfl E) u x))=fun x=>decide (∃u,u < k∧Rch (qfl E) u x):=by
    funext x
    rw [vxj,decide_eq_true_eq,decide_eq_true_eq]
    constructor
    ·rintro ⟨u,hu,hr⟩
     rcases vzz (vzy hu) with h1 | rfl
     ·exact ⟨u,h1,hr⟩
     ·obtain ⟨w,hw,hwr⟩:=hd
      exact ⟨w,hw,hwr.trans hr⟩
    ·rintro ⟨u,hu,hr⟩
     exact ⟨u,by omega,hr⟩
   have hi:=ih (k+1) (by omega)
   rw [hfun,hsucc,decide_eq_false hno] at hi
   simp only [vtk,if_false,vtt] at hi
   rw [qac (s':=((vuv n).map (fun x=>decide (∃u,u < k∧Rch (qfl E) u x)),(qhs (qfl E) k).map (fun v=>qbr (qjq (qfl E) n v)),((k+1:Nat):Int))) (by simp only [qdx,if_pos c,hg,vvn,decide_eq_true hd,if_true,w])]
   exact hi
  ·have hyes:∀u,u < k→¬Rch (qfl E) u k:=fun u hu hr=>hd ⟨u,hu,hr⟩
   have hm:=vfu hn (qjq (qfl E) n k) (fun x hx=>(qis.1 hx).1) (by
    have:(qjq (qfl E) n k).length≤(vuv n).length:=vwn _ _
    rw [vwp] at this;omega) (fun x=>decide (∃u,u < k∧Rch (qfl E) u x))
   have hfun:(vuv n).map (fun u=>decide (∃w,w < k∧Rch (qfl E) w u) || decide (u∈qjq (qfl E) n k))=(vuv n).map fun x=>decide (∃u,u < k+1∧Rch (qfl E) u x):=by
    refine vws fun x hx=>?_
    have hxn:=vw1.1 hx
    rw [vxj,Bool.or_eq_true,decide_eq_true_eq,decide_eq_true_eq,decide_eq_true_eq]
    constructor
    ·rintro (⟨u,hu,hr⟩ | hm)
     ·exact ⟨u,by omega,hr⟩
     ·exact ⟨k,by omega,(qis.1 hm).2⟩
    ·rintro ⟨u,hu,hr⟩
     rcases vzz (vzy hu) with h1 | rfl
     ·exact .inl ⟨u,h1,hr⟩
     ·exact .inr (qis.2 ⟨hxn,hr⟩)
   rw [hfun] at hm
   have hroom:qao (((qhs (qfl E) k).map (fun v=>qbr (qjq (qfl E) n v))).length+1) 24=true:=by
    have:(qhs (qfl E) k).length≤(vuv k).length:=vwn _ _
    rw [vwp] at this
    unfold qao
    simp only [vuf,decide_eq_true_eq];omega
   have hi:=ih (k+1) (by omega)
   rw [hsucc,decide_eq_true hyes,if_pos rfl,vuk] at hi
   rw [qac (s':=((vuv n).map (fun x=>decide (∃u,u < k+1∧Rch (qfl E) u x)),(qhs (qfl E) k).map (fun v=>qbr (qjq (qfl E) n v))++[qbr (qjq (qfl E) n k)],((k+1:Nat):Int))) (by simp only [qdx,if_pos c,hg,vvn,decide_eq_false hd,vtk,if_false,vi8 hn hlt E hE h,hm,hroom,if_true,w])]
   exact hi
open Classical in
theorem q2l {n:Nat} (hn:n≤1000) (E:List Arr2_int) (hE:E.length≤20000) (h:q2h n E):qf8 (n:Int) E=some ((qcw (qfl (E++E.map qra)) n).map qbr,0):=by
 have h':q2h n (E++E.map qra):=by
  intro e he
  rcases vun.1 he with he | he
  ·exact h e he
  ·obtain ⟨e',he',rfl⟩:=vwz.1 he
   obtain ⟨h1,h2,h3,h4⟩:=h e' he'
   exact ⟨h3,h4,h1,h2⟩
 have h0:(0:Int)≤(n:Int):=by omega
 have hr:qao n 1=true:=by unfold qao;simp only [decide_eq_true_eq];omega
 have hl:(E++E.map qra).length≤100000:=by simp;omega
 have hloop:=vbm hn (E++E.map qra) hl h' n 0 (by omega)
 have e1:∀f:Nat→Bool,(∀x,f x=false)→(vuv n).map f=vux n false:=by
  intro f hf
  refine vtz fun j=>?_
  rw [vt8,vua]
  by_cases hj:j < n
  ·rw [vx2 hj,if_pos hj];simp [hf]
  ·rw [vt6 (by simp;omega),if_neg hj];rfl
 rw [e1 _ (fun x=>decide_eq_false (by rintro ⟨u,hu,_⟩;omega))] at hloop
 have e2:(qhs (qfl (E++E.map qra)) 0).map (fun v=>qbr (qjq (qfl (E++E.map qra)) n v))=[]:=rfl
 rw [e2] at hloop
 simp only [vxn] at hloop
 simp only [qf8,vfj n E hn hE h,vvn,bne_self_eq_false,vtk,if_false,q7u E (by omega),vbj E (E.map qra) (by omega) (by simp;omega),q2j n _ hn hl h',if_pos h0,vxr,hr,if_true,hloop,qcw,vze]
 rfl
theorem q9c {l:List Int} (h:nfL l):∀(k c:Nat),k≤l.length→c < qb0 (l.take k)→(c:Int)∈l.take k:=by
 intro k
 induction k with
 | zero=>intro c _ hc;simp [qb0] at hc
 | succ k ih =>
  intro c hk hc;have hx:l[k]?=some l[k]:=vt5 (by omega);have h0:=h.1 _ (vup hx);have hle:=h.2 k _ hx;rw [qi0 l k hx] at hc;rw [vyh,hx];by_cases hcu:c < qb0 (l.take k)
  ·exact vzf _ (ih c (by omega) hcu)
  ·refine vzg _ ?_;simp only [vz5,vw2];omega
theorem vsp {l:List Int} (h:nfL l) {k:Nat} {x:Int} (hx:x∈l.take k):x.toNat < qb0 (l.take k):=by
 obtain ⟨i,hi,e⟩:=vzi.1 hx;have:(l.take k)[i]?=some x:=by rw [vt5 hi,e]
 exact q4t this
theorem vi9 {l:List Int} (h:nfL l) (hl:l.length≤1000):qh9 l=some l:=by
 have h0:(0:Int)≤(l.length:Int):=by omega
 have hr:qao l.length 8=true:=qn9 (by omega);have key:∀(d k:Nat) (m:List (Int×Int)),k+d=l.length→(∀x,qpx m x=if 0≤x∧x.toNat < qb0 (l.take k) then some x else none)→m.length=qb0 (l.take k)→qae (qfc l) (m,l.take k++vux (l.length - k) 0,(k:Int))=some l:=by
  intro d
  induction d with
  | zero =>
   intro k m hk _ _;obtain rfl:k=l.length:=by omega
   exact qad (by simp [qfc])
  | succ d ih =>
   intro k m hk hm hml;have hlt:k < l.length:=by omega
   have hx:l[k]?=some l[k]:=vt5 hlt;have h1:=h.1 _ (vup hx);have hle:=h.2 k _ hx;have w:=wqn k;have hg:idx (l.take k++vux (l.length - k) 0) (k:Int)=some 0:=by
    refine qaa ?_;have:(l.take k).length=k:=by rw [vuj];omega
    rw [vy8,this,if_neg (by omega),vua,if_pos (by omega)]
   have qnt:(l.take k++vux (l.length - k) (0:Int)).set k l[k]=l.take (k+1)++vux (l.length - (k+1)) 0:=by
    have:=vfk (fun x:Int=>x) 0 l hx;simpa using this
   by_cases hc:l[k].toNat < qb0 (l.take k)
   ·have hmk:qpx m l[k]=some l[k]:=by rw [hm,if_pos ⟨h1,hc⟩]
    have hu:qb0 (l.take (k+1))=qb0 (l.take k):=by rw [qi0 l k hx];omega
    rw [qac (s':=(m,l.take (k+1)++vux (l.length - (k+1)) 0,((k+1:Nat):Int))) (by
     simp only [qfc,if_pos (qaj hx),qaa hx,vvn,hmk,Option.isSome_some,if_true,hg,vvp,vxr,qnt,w])]
    exact ih (k+1) m (by omega) (by rw [hu];exact hm) (by rw [hu];exact hml)
   ·have hmk:qpx m l[k]=none:=by rw [hm,if_neg (by omega)]
    have he:(m.length:Int)=l[k]:=by omega
    have hu:qb0 (l.take (k+1))=qb0 (l.take k)+1:=by rw [qi0 l k hx];omega
    rw [qac (s':=(qvz m l[k] (m.length:Int),l.take (k+1)++vux (l.length - (k+1)) 0,((k+1:Nat):Int))) (by
     simp only [qfc,if_pos (qaj hx),qaa hx,vvn,hmk,Option.isSome_none,vtk,if_false,hg,vxr,w];rw [he,qnt])]
    refine ih (k+1) _ (by omega) (fun x=>?_) ?_
    ·rw [qxu,hm,hu];by_cases e:x=l[k]
     ·rw [if_pos e,if_pos (by omega),he,e]
     ·rw [if_neg e];by_cases q:0≤x∧x.toNat < qb0 (l.take k)
      ·rw [if_pos q,if_pos (by omega)]
      ·rw [if_neg q,if_neg (by omega)]
    ·rw [viw m _ _ hmk,hu,hml]
 have hk:=key l.length 0 [] (by omega) (by
  intro x;rw [if_neg (by simp [qb0])];rfl) (by simp [qb0])
 simp only [vu2,vuu,vvl,vxn] at hk;simp only [qh9,if_pos h0,hr,if_true,hk,vvn]
theorem vja {l:List Int} (h:nfL l) (hl:l.length≤1000):qhi l=some l:=by
 have qr9:∀(i:Nat) {x:Int},l[i]?=some x→qae (qck l (l.take i) (i:Int)) (-1,0)=some (if x∈l.take i then x else -1):=by
  intro i x hx;have hi:=qam hx;have hlt:(l.take i).length=i:=by rw [vuj];omega
  have hf:=qhq (l.take i) (fun (m:Int) (k:Int)=>(m,k)) (qck l (l.take i) (i:Int)) (fun m y=>if y=x then y else m) id (fun _ _=>True) (b0:=-1) (s0:=(-1,0)) rfl trivial (by
   intro k m y hy hk _;refine ⟨?_,trivial⟩;have hk':k < i:=by omega
   have c:((k:Int) < (i:Int)):=by omega
   have hy':l[k]?=some y:=by rw [vub,if_pos hk'] at hy;exact hy
   have w:=wqn k;by_cases e:y=x
   ·simp only [qck,if_pos c,qaa hy',qaa hx,vvn,beq_iff_eq,if_pos e,qaa hy,w]
   ·simp only [qck,if_pos c,qaa hy',qaa hx,vvn,beq_iff_eq,if_neg e,w]) (by
   intro m _;rw [hlt];simp only [qck,if_neg (vyu _),id])
  rw [hf];congr 1;have key:∀(l':List Int) (m:Int),l'.foldl (fun m y=>if y=x then y else m) m=if x∈l' then x else m:=by
   intro l'
   induction l' with
   | nil=>intro m;simp
   | cons y l' ih =>
    intro m;rw [vx1,ih];by_cases e:y=x
    ·subst e;simp
    ·rw [if_neg e];have:x≠y:=fun q=>e q.symm
     simp [this]
  rw [id,key]
 have key:∀(d k:Nat),k+d=l.length→qae (qcl l) (l.take k,(qb0 (l.take k):Int),(k:Int))=some l:=by
  intro d
  induction d with
  | zero =>
   intro k hk;obtain rfl:k=l.length:=by omega
   exact qad (by simp [qcl])
  | succ d ih =>
   intro k hk;have hlt:k < l.length:=by omega
   have hx:l[k]?=some l[k]:=vt5 hlt;have h1:=h.1 _ (vup hx);have hle:=h.2 k _ hx;have hus:qb0 (l.take k)≤k:=by
    have hnf:nfL (l.take k):=⟨fun x hx=>h.1 x (vur hx),fun j x hj=>by
     have hjk:j < k:=by have:=qam hj;rw [vuj] at this;omega
     rw [vub,if_pos hjk] at hj;have:=h.2 j x hj
     rwa [vzw,vw8 (by omega)]⟩
    have:=qo5 hnf;rw [vuj] at this;omega
   have hlen:(l.take k).length=k:=by rw [vuj];omega
   have hroom:qao ((l.take k).length+1) 8=true:=qn9 (by omega);have w:=wqn k;have wu:=qkk (show qb0 (l.take k) < 4611686018427387904 by omega);have ht:l.take (k+1)=l.take k++[l[k]]:=by rw [vyh,hx];rfl
   by_cases hm:l[k]∈l.take k
   ·have hlt':=vsp h hm;have c:¬(l[k] < 0):=by omega
    have hu:qb0 (l.take (k+1))=qb0 (l.take k):=by rw [qi0 l k hx];omega
    rw [qac (s':=(l.take (k+1),(qb0 (l.take (k+1)):Int),((k+1:Nat):Int))) (by
     simp only [qcl,if_pos (qaj hx),qr9 k hx,if_pos hm,vvn,if_neg c,hroom,if_true,hu,w,←ht])]
    exact ih (k+1) (by omega)
   ·have hge:¬l[k].toNat < qb0 (l.take k):=fun q=>hm (by
     have:=q9c h k l[k].toNat (by omega) q
     rwa [vyv h1] at this)
    have he:l[k]=(qb0 (l.take k):Int):=by omega
    have hu:qb0 (l.take (k+1))=qb0 (l.take k)+1:=by rw [qi0 l k hx];omega
    have c:(-1:Int) < 0:=by omega
    rw [qac (s':=(l.take (k+1),(qb0 (l.take (k+1)):Int),((k+1:Nat):Int))) (by
     simp only [qcl,if_pos (qaj hx),qr9 k hx,if_neg hm,vvn,if_pos c,hroom,if_true,hu,w,wu];rw [←he,←ht])]
    exact ih (k+1) (by omega)
 have hk:=key l.length 0 (by omega);simp only [vu2,vxn] at hk;have hk':qae (qcl l) ([],0,0)=some l:=hk;simp only [qhi,hk',vvn]
def qt0 (r:List Int) (k c:Nat):List Nat:=(vuv k).filter fun i=>decide (r.getD i 0=(c:Int))
def qi1 (r:List Int) (k:Nat):List (List Int):=(vuv (qb0 (r.take k))).map fun c=>qbr (qt0 r k c)
theorem qt1 (r:List Int) (k c:Nat):qt0 r (k+1) c=qt0 r k c++if r.getD k 0=(c:Int) then [k] else []:=by
 unfold qt0;rw [vya,vy3];congr 1;by_cases h:r.getD k 0=(c:Int)
 ·rw [if_pos h,vy4,if_pos (decide_eq_true h)];rfl
 ·rw [if_neg h,vy4,if_neg (by rw [decide_eq_true_eq];exact h)];rfl
theorem q9d {r:List Int} (h:nfL r) (hl:r.length≤1000):qae (qcm r) ([],0)=some (qi1 r r.length):=by
 have key:∀(d k:Nat),k+d=r.length→qae (qcm r) (qi1 r k,(k:Int))=some (qi1 r r.length):=by
  intro d
  induction d with
  | zero =>
   intro k hk;obtain rfl:k=r.length:=by omega
   exact qad (by simp only [qcm,if_neg (vyu _)])
  | succ d ih =>
   intro k hk;have hlt:k < r.length:=by omega
   have hx:r[k]?=some r[k]:=vt5 hlt;have hxd:r.getD k 0=r[k]:=by simp [vwd,hx]
   have h1:=h.1 _ (vup hx);have hle:=h.2 k _ hx;have hgl:(qi1 r k).length=qb0 (r.take k):=by simp [qi1]
   have w:=wqn k;have hus:qb0 (r.take k)≤1000:=by
    have:(r.take k).length≤1000:=by rw [vuj];omega
    have hh:∀(l:List Int) (m:Nat),(∀x∈l,x.toNat≤1000)→True:=fun _ _ _=>trivial
    have hnf:nfL (r.take k):=⟨fun x hx=>h.1 x (vur hx),fun j x hj=>by
     have hjk:j < k:=by have:=qam hj;rw [vuj] at this;omega
     rw [vub,if_pos hjk] at hj;have:=h.2 j x hj
     rwa [vzw,vw8 (by omega)]⟩
    have:=qo5 hnf;omega
   have hml:∀c,(qbr (qt0 r k c)).length≤k:=by
    intro c;unfold qbr qt0;rw [vuf];have:=vwn (fun i=>decide (r.getD i 0=(c:Int))) (vuv k)
    rwa [vwp] at this
   by_cases hc:r[k].toNat < qb0 (r.take k)
   ·have hne:(r[k] == (((qi1 r k).length:Nat):Int))=false:=by rw [hgl,beq_eq_false_iff_ne];omega
    have hu:qb0 (r.take (k+1))=qb0 (r.take k):=by rw [qi0 r k hx];omega
    have hg:idx (qi1 r k) r[k]=some (qbr (qt0 r k r[k].toNat)):=by
     conv=>lhs;rw [show r[k]=((r[k].toNat:Nat):Int) by omega]
     exact qaa (qjs _ hc)
    have hroom:qao ((qbr (qt0 r k r[k].toNat)).length+1) 8=true:=qn9 (by have:=hml r[k].toNat;omega);have qnt:(qi1 r k).set r[k].toNat (qbr (qt0 r k r[k].toNat)++[(k:Int)])=qi1 r (k+1):=by
     unfold qi1;rw [hu];have:=qgu (fun c=>qbr (qt0 r k c)) (fun c=>qbr (qt0 r (k+1) c)) hc (fun u hu hne=>by
      rw [qt1,hxd,if_neg (by omega),vtt])
     rw [←this,qt1,hxd,if_pos (by omega)];simp [qbr]
    rw [qac (s':=(qi1 r (k+1),((k+1:Nat):Int))) (by
     simp only [qcm,if_pos (qaj hx),qaa hx,vvn,hne,vtk,if_false,hg,hroom,if_true,qnt,w])]
    exact ih (k+1) (by omega)
   ·have he:r[k]=((qb0 (r.take k):Nat):Int):=by omega
    have heq:(r[k] == (((qi1 r k).length:Nat):Int))=true:=by rw [hgl,beq_iff_eq,he]
    have hu:qb0 (r.take (k+1))=qb0 (r.take k)+1:=by rw [qi0 r k hx];omega
    have hr1:qao ((qi1 r k).length+1) 24=true:=by unfold qao;rw [hgl];simp only [decide_eq_true_eq];omega
    have hg:idx (qi1 r k++[[]]) r[k]=some []:=by
     rw [he];refine qaa ?_;rw [vy8,hgl,if_neg (by omega),vxa];rfl
    have hr2:qao (([]:List Int).length+1) 8=true:=qn9 (by simp);have qnt:(qi1 r k++[[]]).set r[k].toNat ([]++[(k:Int)])=qi1 r (k+1):=by
     have htn:r[k].toNat=qb0 (r.take k):=by omega
     rw [htn,vyf _ _ (by omega),hgl,vxa,vzt];unfold qi1;rw [hu,vya,vuk,vx4];congr 1
     ·refine vws fun c hc'=>?_
      have:=vw1.1 hc';rw [qt1,hxd,if_neg (by omega),vtt]
     ·rw [qt1,hxd,if_pos he];have:qt0 r k (qb0 (r.take k))=[]:=by
       unfold qt0;rw [List.filter_eq_nil_iff];intro i hi hq;have hik:=vw1.1 hi;rw [decide_eq_true_eq] at hq;have hri:r[i]?=some (r.getD i 0):=by simp [vwd,vt5 (show i < r.length by omega)]
       have hm:r.getD i 0∈r.take k:=by
        refine vup (i:=i) ?_;rw [vub,if_pos hik];exact hri
       have:=vsp h hm;omega
      rw [this];rfl
    rw [qac (s':=(qi1 r (k+1),((k+1:Nat):Int))) (by
     simp only [qcm,if_pos (qaj hx),qaa hx,vvn,heq,if_true,hr1,hg,hr2,qnt,w])]
    exact ih (k+1) (by omega)
 have hk:=key r.length 0 (by omega);have e0:qi1 r 0=[]:=by simp [qi1,qb0]
 rw [e0] at hk;simpa using hk
theorem vjb {r:List Int} (h:nfL r) (hl:r.length≤1000):qfj r=some (qi1 r r.length):=by
 simp only [qfj,vja h hl,vvn,q9d h hl]
def qde (r:List Int) (C:List Nat):List (List Nat):=(vuv (qb0 r)).map fun c=>(qt0 r r.length c).map fun i=>C.getD i 0
def wT (t:Table) (l:Linkage) (a b:Nat):Int:=if a=b then 0 else if mT t l (min a b) (max a b) then 1 else -1
theorem vsq (t:Table) (l:Linkage):WOk (wT t l):=by
 refine ⟨fun i k=>?_,fun i k=>?_,fun i=>by simp [wT]⟩
 ·unfold wT;split
  ·omega
  ·split <;> omega
 ·unfold wT;by_cases h:i=k
  ·rw [if_pos h,if_pos h.symm]
  ·rw [if_neg h,if_neg (show ¬k=i from fun e=>h e.symm),Nat.min_comm,Nat.max_comm]
theorem q9e {W:Nat→Nat→Int} (h:WOk W) (C:List Nat):WOk (qk3 W C):=⟨fun i k=>h.1 _ _,fun i k=>h.2.1 _ _,fun i=>h.2.2 _⟩
def vfv (t:Table) (l:Linkage) (M:List (Arr2_int×Bool)):Prop:=∀a b:Nat,a < b→b < t.Rows.length→(qpx M ⟨(a:Int),(b:Int)⟩).getD false=mT t l a b
theorem q5n {C:List Nat} {i:Nat} (h:i < C.length):(qbr C)[i]?=some ((C.getD i 0:Nat):Int):=by
 simp [qbr,vwd,vt5 h]
theorem q2m {C:List Nat} (h:C.Pairwise (· < ·)) {i k:Nat} (hik:i < k) (hk:k < C.length):C.getD i 0 < C.getD k 0:=by
 have:=(vzp.1 h) i k (by omega) hk hik;simpa [vwd,vt5 hk,vt5 (show i < C.length by omega)] using this
theorem q0h {n:Nat} (h:n≤1000000):qao n 24=true:=by
 unfold qao;simp only [decide_eq_true_eq];omega
theorem q7x {t:Table} {l:Linkage} {M:List (Arr2_int×Bool)} (hM:vfv t l M) {C:List Nat} (hC:C.Pairwise (· < ·)) (hCn:∀x∈C,x < t.Rows.length) (hn:C.length≤6) :
  qae (qfe (qbr C) M) ([],0)=some (qaz (qk3 (wT t l) C) C.length):=by
 have hlen:(qbr C).length=C.length:=by simp [qbr]
 have qr9:∀(i:Nat),i < C.length→∀(d k:Nat) (out:List Pair),i < k→k+d=C.length→out.length+d≤1000→qae (qfd (qbr C) M (i:Int)) (out,(k:Int))=some (out++(vw4 k d).flatMap fun (j:Nat)=>[(⟨(i:Int),(j:Int),qk3 (wT t l) C i j⟩:Pair)]):=by
  intro i hi d
  induction d with
  | zero =>
   intro k out _ hk _;have c:¬((k:Int) < ((qbr C).length:Int)):=by omega
   rw [qad (t:=out) (by simp only [qfd,if_neg c])];simp
  | succ d ih =>
   intro k out hik hk hl;have hk':k < C.length:=by omega
   have c:((k:Int) < ((qbr C).length:Int)):=by omega
   have hr:qao (out.length+1) 24=true:=q0h (by omega);have hlt:=q2m hC hik hk';have hbn:C.getD k 0 < t.Rows.length:=hCn _ (vup (i:=k) (by simp [vwd,vt5 hk']));have hm:=hM _ _ hlt hbn;have w:=wqn k;have hw:qk3 (wT t l) C i k=if mT t l (C.getD i 0) (C.getD k 0)=true then 1 else -1:=by
    unfold qk3 wT;rw [if_neg (by omega),vw8 (by omega),Nat.max_eq_right (by omega)]
   have hb:qfd (qbr C) M (i:Int) (out,(k:Int))=some (.next (out++[(⟨(i:Int),(k:Int),qk3 (wT t l) C i k⟩:Pair)],((k+1:Nat):Int))):=by
    simp only [qfd,if_pos c,qaa (q5n hi),qaa (q5n hk'),vvn,hm,hr,if_true,w,hw];cases mT t l (C.getD i 0) (C.getD k 0) <;> rfl
   rw [qac hb,ih (k+1) _ (by omega) (by omega) (by rw [vud,vwq];omega),vzs,vwc,vts]
 have outer:=qiz (qfe (qbr C) M) (fun i=>(vw4 (i+1) (C.length - (i+1))).flatMap fun (k:Nat)=>if true=true then [(⟨(i:Int),(k:Int),qk3 (wT t l) C i k⟩:Pair)] else []) C.length 100 6 (by
  intro i out hi hl;have c:((i:Int) < ((qbr C).length:Int)):=by omega
  have w:=wqn i;have hin:=qr9 i hi (C.length - (i+1)) (i+1) out (by omega) (by omega) (by omega);simp only [qfe,if_pos c,w,hin,vvn,if_true]) (by
  intro i _;have:=qjr (fun (k:Nat)=>if true=true then [(⟨(i:Int),(k:Int),qk3 (wT t l) C i k⟩:Pair)] else []) 1 (vw4 (i+1) (C.length - (i+1))) (fun k _=>by simp);rw [vza] at this;omega) (by
  intro out;have c:¬((C.length:Int) < ((qbr C).length:Int)):=by omega
  simp only [qfe,if_neg c]) C.length 0 [] (by omega) (by simp;omega)
 simp only [vxn,vuu] at outer;exact outer
theorem q5o (comp x:List Int) (hx:∀y∈x,0≤y∧y < (comp.length:Int)) (hlen:x.length≤1000) (k:Nat):∀(d j:Nat) (G:List (List Int)),j+d=x.length→k < G.length→G[k]?=some ((x.take j).map (fun y=>comp.getD y.toNat 0)++x.drop j) →
  qae (qhc comp (k:Int) x) (G,(j:Int))=some (G.set k (x.map fun y=>comp.getD y.toNat 0)):=by
 intro d
 induction d with
 | zero =>
  intro j G hj hk hG;obtain rfl:j=x.length:=by omega
  have c:¬((x.length:Int) < ((x.length:Nat):Int)):=by omega
  rw [qad (t:=G) (by simp only [qhc,if_neg c])];congr 1;refine vtz fun i=>?_
  rw [vwh];by_cases e:k=i
  ·subst e;rw [if_pos rfl,if_pos hk,hG];simp
  ·rw [if_neg e]
 | succ d ih =>
  intro j G hj hk hG;have hlt:j < x.length:=by omega
  have hxj:x[j]?=some x[j]:=vt5 hlt;obtain ⟨h1,h2⟩:=hx _ (vup hxj);have c:((j:Int) < ((x.length:Nat):Int)):=by omega
  have w:=wqn j;have hl:((x.take j).map (fun y=>comp.getD y.toNat 0)).length=j:=by rw [vuf,vuj];omega
  have g2:idx ((x.take j).map (fun y=>comp.getD y.toNat 0)++x.drop j) (j:Int)=some x[j]:=by
   refine qaa ?_;rw [vy8,hl,if_neg (by omega),vxa,vt4,Nat.add_zero,hxj]
  have g3:idx comp x[j]=some (comp.getD x[j].toNat 0):=by
   conv=>lhs;rw [show x[j]=((x[j].toNat:Nat):Int) by omega]
   refine qaa ?_;simp [vwd,vt5 (show x[j].toNat < comp.length by omega)]
  have qnt:((x.take j).map (fun y=>comp.getD y.toNat 0)++x.drop j).set j (comp.getD x[j].toNat 0)=(x.take (j+1)).map (fun y=>comp.getD y.toNat 0)++x.drop (j+1):=by
   rw [vyf _ _ (by omega),hl,vxa,qji hxj,vzt,vyh,hxj,vz5,vuk,vx4,vts,vyg]
  rw [qac (s':=(G.set k ((x.take (j+1)).map (fun y=>comp.getD y.toNat 0)++x.drop (j+1)),((j+1:Nat):Int))) (by
   simp only [qhc,if_pos c,qaa hG,g2,g3,vvn,vxr,qnt,w])]
  rw [ih (j+1) _ (by omega) (by rw [vui];exact hk) (by rw [vwh,if_pos rfl,if_pos hk]),List.set_set]
theorem q5p (comp:List Int) (out:List (List Int)) (ho:∀x∈out,(∀y∈x,0≤y∧y < (comp.length:Int))∧x.length≤1000) (hlen:out.length≤1000):qae (qej comp out) (out,0)=some (out.map fun x=>x.map fun y=>comp.getD y.toNat 0):=by
 have key:∀(d k:Nat),k+d=out.length→qae (qej comp out) ((out.take k).map (fun x=>x.map fun y=>comp.getD y.toNat 0)++out.drop k,(k:Int))=some (out.map fun x=>x.map fun y=>comp.getD y.toNat 0):=by
  intro d
  induction d with
  | zero =>
   intro k hk;obtain rfl:k=out.length:=by omega
   exact qad (by simp [qej])
  | succ d ih =>
   intro k hk;have hlt:k < out.length:=by omega
   have hx:out[k]?=some out[k]:=vt5 hlt;obtain ⟨h1,h2⟩:=ho _ (vup hx);have c:((k:Int) < ((out.length:Nat):Int)):=by omega
   have hl:((out.take k).map (fun x=>x.map fun y=>comp.getD y.toNat 0)).length=k:=by rw [vuf,vuj];omega
   have g:((out.take k).map (fun x=>x.map fun y=>comp.getD y.toNat 0)++out.drop k)[k]?=some out[k]:=by
    rw [vy8,hl,if_neg (by omega),vxa,vt4,Nat.add_zero,hx]
   have hin:=q5o comp out[k] h1 h2 k out[k].length 0 _ (by omega) (qam g) (by simpa using g);simp only [vxn] at hin;have qnt:((out.take k).map (fun x=>x.map fun y=>comp.getD y.toNat 0)++out.drop k).set k (out[k].map fun y=>comp.getD y.toNat 0)=(out.take (k+1)).map (fun x=>x.map fun y=>comp.getD y.toNat 0)++out.drop (k+1):=by
    rw [vyf _ _ (by omega),hl,vxa,qji hx,vzt,vyh,hx,vz5,vuk,vx4,vts,vyg]
   rw [qac (s':=((out.take (k+1)).map (fun x=>x.map fun y=>comp.getD y.toNat 0)++out.drop (k+1),((k+1:Nat):Int))) (by
    simp only [qej,if_pos c,qaa g,hin,vvn,qnt,wqn k])]
   exact ih (k+1) (by omega)
 have h:=key out.length 0 (by omega);simpa using h
theorem q2n {r:List Int} {k c i:Nat} (h:i∈qt0 r k c):i < k:=vw1.1 (vwy.1 h).1
def qh4 (W:Nat→Nat→Int) (C:List Nat):List Int:=((vgm (qk3 W C) C.length).map (·.1)).getD []
theorem qo6 (W:Nat→Nat→Int) (C:List Nat):∃c,vgm (qk3 W C) C.length=some (qh4 W C,c)∧nfL (qh4 W C)∧(qh4 W C).length=C.length:=by
 obtain ⟨l,c,h,hm,_,_⟩:=qxf (qk3 W C) C.length;have e:qh4 W C=l:=by unfold qh4;rw [h];rfl
 rw [e];exact ⟨c,h,q2k _ [] 0 l vfr rfl hm,by simpa using (qp2 _ [] 0 l hm).1⟩
theorem vjc {t:Table} {l:Linkage} {M:List (Arr2_int×Bool)} (hM:vfv t l M) {C:List Nat} (hC:C.Pairwise (· < ·)) (hCn:∀x∈C,x < t.Rows.length) (h1:1≤C.length) (hn:C.length≤6) :
  qjd (qbr C) M=some ((qde (qh4 (wT t l) C) C).map qbr,0):=by
 have hlen:(qbr C).length=C.length:=by simp [qbr]
 obtain ⟨c0,hb,hnf,hbl⟩:=qo6 (wT t l) C;obtain ⟨b,c,ho,hp⟩:=vfp (qk3 (wT t l) C) (q9e (vsq t l) C) C.length h1 hn;rw [hb] at ho;simp only [vvt,Prod.mk.injEq] at ho;obtain ⟨e1,e2⟩:=ho;subst e1;have c1:((qbr C).length:Int)≤10:=by omega
 have hN:=vi9 hnf (by omega);have hG:qae (qks (qh4 (wT t l) C)) ([],0)=some (qi1 (qh4 (wT t l) C) (qh4 (wT t l) C).length):=q9d hnf (by omega);have hR:=q5p (qbr C) (qi1 (qh4 (wT t l) C) (qh4 (wT t l) C).length) (by
  intro x hx;obtain ⟨c,_,rfl⟩:=vwz.1 hx;refine ⟨?_,?_⟩
  ·intro y hy;obtain ⟨i,hi,rfl⟩:=qx2.1 hy;have:=q2n hi;omega
  ·have:=vwn (fun i=>decide ((qh4 (wT t l) C).getD i 0=(c:Int))) (vuv (qh4 (wT t l) C).length);simp only [qbr,vuf,qt0];rw [vwp] at this;omega) (by
  have:=qo5 hnf;simp only [qi1,vuf,vwp,vyi];omega)
 have hfin:((qi1 (qh4 (wT t l) C) (qh4 (wT t l) C).length).map fun x=>x.map fun y=>(qbr C).getD y.toNat 0)=(qde (qh4 (wT t l) C) C).map qbr:=by
  unfold qi1 qde;rw [vze,vze,vyi];refine vws fun c _=>?_
  simp only [Function.comp,qbr,vze];refine vws fun i hi=>?_
  have hic:=q2n hi;simp only [Function.comp,vxr];simp [vwd,vt5 (show i < C.length by omega)]
 rw [hfin] at hR;rw [←hlen] at hp;have hp':qhb (((qbr C).length:Nat):Int) (qaz (qk3 (wT t l) C) C.length)=some (qh4 (wT t l) C,c,0):=by rw [hlen] at hp ⊢;exact hp
 simp only [qjd,q7x hM hC hCn hn,vvn,if_pos c1,hp',bne_self_eq_false,vtk,if_false,hN,hG,hR]
end Go.Proofs.YtmlegeeinnkhkaaGreat
namespace Go.Ab
open Go
variable {α κ:Type} [DecidableEq κ]
def keysF (key:α→κ) (ks:List κ) (x:α):List κ:=if key x∈ks then ks else ks++[key x]
def vsr (key:α→κ) (l:List α):List κ:=l.foldl (keysF key) []
def vn2 (key:α→κ) (l:List α):List (List α):=(vsr key l).map fun k=>l.filter fun x=>decide (key x=k)
end Go.Ab
namespace Go.Ab
open Go
def bitsN (n:Nat):List Nat:=(vuv 32).filter fun k=>n.testBit k
end Go.Ab
namespace Go.Proofs.YtmlegeeinnkhkaaGreat
open Go Go.Ab
end Go.Proofs.YtmlegeeinnkhkaaGreat
namespace Go.Ab
open Go
def numB (u:Nat):List UInt8:=[56,48,40,32,24,16,8,0].map fun s=>UInt8.ofNat (u / 2 ^ s)
def escB:List UInt8→List UInt8
 | []=>[]
 | c :: s=>if c=0 then 0 :: 255 :: escB s else c :: escB s
end Go.Ab
namespace Go.Proofs.YtmlegeeinnkhkaaGreat
open Go Go.Ab
def vss (n:Int):Nat:=(n+9223372036854775808).toNat
def keyV (v:Value):List UInt8:=UInt8.ofNat v.Kind.toNat :: (if v.Kind=1∨v.Kind=3 then numB (vss v.Num) else if v.Kind=2 then escB v.Str++[0,1] else [])
def numOk (v:Value):Prop:=-9223372036854775808≤v.Num∧v.Num≤9223372036854775807
structure GT (t:Table):Prop where
 ok:TableOk t
 err:qbe t=0
 num:∀r∈t.Rows,∀v∈r.Values,numOk v
theorem GT.attrs {t:Table} (h:GT t):t.Attrs.length≤16:=by
 have:=h.err;unfold qbe at this;split at this
 ·cases this
 ·split at this
  ·cases this
  ·omega
theorem GT.rows {t:Table} (h:GT t):t.Rows.length≤1000:=by
 have:=h.err;unfold qbe at this;split at this
 ·cases this
 ·split at this
  ·cases this
  ·split at this
   ·cases this
   ·omega
def rowN (t:Table) (i:Nat):Row:=t.Rows.getD i ⟨0,[]⟩
def rkey (s:Nat) (r:Row):List UInt8:=(bitsN s).flatMap fun k=>keyV (qf3 r k)
def qa0 (t:Table) (p:Nat) (c:List Nat):List (List Nat):=vn2 (fun i=>rkey p (rowN t i)) c
theorem vn3 {n:Int} (h:okI .i64 n):-9223372036854775808≤n∧n≤9223372036854775807:=by
 have h':(decide (vyx .i64≤n) && decide (n≤vyw .i64))=true:=h;simp only [vti,decide_eq_true_eq] at h';have e1:vyx .i64=-9223372036854775808:=by decide
 have e2:vyw .i64=9223372036854775807:=by decide
 rw [e1,e2] at h';exact h'
theorem gt_of {t:Table} (h:qoz t) (he:qbe t=0):GT t:=by
 refine ⟨vig h,he,fun r hr v hv=>?_⟩;exact vn3 ((h.2.2.2 r hr).2.2 v hv).2.1
theorem qvw {α β:Type} (f:α→β):∀l:List α,(l.flatMap fun i=>[f i])=l.map f
 | []=>rfl
 | x :: l=>by rw [vwc,qvw f l];rfl
def vkk:List Value:=[⟨1,0,[]⟩,⟨1,1,[]⟩,⟨1,2,[]⟩,⟨0,0,[]⟩,⟨2,0,[97]⟩,⟨2,0,[98]⟩,⟨2,0,[]⟩,⟨3,1,[]⟩,⟨1,-1,[]⟩,⟨2,0,[97,98]⟩,⟨3,2,[]⟩,⟨1,7,[]⟩]
theorem vn4 (c:Int):∃v,qeb c=some v∧v∈vkk:=by
 unfold qeb;by_cases h0:(vxq c 12 == 0)=true
 ·rw [if_pos h0];exact ⟨_,rfl,by decide⟩
 rw [if_neg h0];by_cases h1:(vxq c 12 == 1)=true
 ·rw [if_pos h1];exact ⟨_,rfl,by decide⟩
 rw [if_neg h1];by_cases h2:(vxq c 12 == 2)=true
 ·rw [if_pos h2];exact ⟨_,rfl,by decide⟩
 rw [if_neg h2];by_cases h3:(vxq c 12 == 3)=true
 ·rw [if_pos h3];exact ⟨_,rfl,by decide⟩
 rw [if_neg h3];by_cases h4:(vxq c 12 == 4)=true
 ·rw [if_pos h4];exact ⟨_,rfl,by decide⟩
 rw [if_neg h4];by_cases h5:(vxq c 12 == 5)=true
 ·rw [if_pos h5];exact ⟨_,rfl,by decide⟩
 rw [if_neg h5];by_cases h6:(vxq c 12 == 6)=true
 ·rw [if_pos h6];exact ⟨_,rfl,by decide⟩
 rw [if_neg h6];by_cases h7:(vxq c 12 == 7)=true
 ·rw [if_pos h7];exact ⟨_,rfl,by decide⟩
 rw [if_neg h7];by_cases h8:(vxq c 12 == 8)=true
 ·rw [if_pos h8];exact ⟨_,rfl,by decide⟩
 rw [if_neg h8];by_cases h9:(vxq c 12 == 9)=true
 ·rw [if_pos h9];exact ⟨_,rfl,by decide⟩
 rw [if_neg h9];by_cases h10:(vxq c 12 == 10)=true
 ·rw [if_pos h10];exact ⟨_,rfl,by decide⟩
 rw [if_neg h10];exact ⟨_,rfl,by decide⟩
theorem vst (c:Int):qw8 (ofV c):=by
 obtain ⟨v,h1,h2⟩:=vn4 c;have:ofV c=v:=by unfold ofV;rw [h1];rfl
 rw [this];have all:∀w∈vkk,((Lit.int .i64 w.Kind).wf && (Lit.int .i64 w.Num).wf && decide (w.Str.length≤1048576))=true:=by decide
 have:=all v h2;simp only [vti,decide_eq_true_eq] at this;exact ⟨this.1.1,this.1.2,this.2⟩
theorem vsu {n:Int} (h1:-9223372036854775808≤n) (h2:n≤9223372036854775807):okI .i64 n:=by
 show (decide (vyx .i64≤n) && decide (n≤vyw .i64))=true;have e1:vyx .i64=-9223372036854775808:=by decide
 have e2:vyw .i64=9223372036854775807:=by decide
 rw [e1,e2,vti,decide_eq_true_eq,decide_eq_true_eq];exact ⟨h1,h2⟩
theorem vn5 (x:Drossref03_Recipe) (n:Nat) (hn:n≤8) (hr:x.Rows.length≤8):qoz (q86 x n):=by
 refine ⟨by show okS [114];unfold okS;decide,⟨?_,fun s hs=>?_⟩,⟨?_,fun r h=>?_⟩⟩
 ·simp only [q86,vuj];omega
 ·have hm:s∈qod:=vur hs;have:∀w∈qod,w.length≤1048576:=by decide
  exact this s hm
 ·simp only [q86,vuf,vwp];omega
 ·obtain ⟨i,hi,rfl⟩:=vwz.1 h;have hi':=vw1.1 hi;have hs:qq9 x≤3:=by unfold qq9;omega
  have hm:i * qq9 x≤8 * 3:=vz0 (by omega) hs;refine ⟨vsu (by simp only [q85];omega) (by simp only [q85];omega),?_,fun v hv=>?_⟩
  ·simp only [q85,vuf,vwp];omega
  ·obtain ⟨k,_,rfl⟩:=vwz.1 hv;exact vst _
theorem Good.gt {t:Table} (G:Good t) (h:qoz t):GT t:=gt_of h G.err
end Go.Proofs.YtmlegeeinnkhkaaGreat
namespace Go.Ab
open Go
end Go.Ab
namespace Go.Proofs.YtmlegeeinnkhkaaGreat
open Go Go.Ab
end Go.Proofs.YtmlegeeinnkhkaaGreat
namespace Go.Ab
open Go
end Go.Ab
namespace Go.Proofs.YtmlegeeinnkhkaaGreat
open Go Go.Ab
def befN (q z:Nat×Nat):Prop:=lexN q.1 z.1∨(q.1=z.1∧q.2 < z.2)
instance instDecBefN (q z:Nat×Nat):Decidable (befN q z):=by unfold befN;exact inferInstance
end Go.Proofs.YtmlegeeinnkhkaaGreat
namespace Go.Ab
open Go
end Go.Ab
namespace Go.Proofs.YtmlegeeinnkhkaaGreat
open Go Go.Ab
def ltL:List Int→List Int→Bool
 | [],[]=>false
 | [],_ :: _=>true
 | _ :: _,[]=>false
 | x :: a,y :: b=>if x=y then ltL a b else decide (x < y)
theorem vfw:∀a:List Int,ltL a a=false
 | []=>rfl
 | x :: a=>by rw [ltL,if_pos rfl,vfw a]
theorem qx4:∀a b:List Int,ltL a b=false→ltL b a=false→a=b
 | [],[],_,_=>rfl
 | [],_ :: _,h,_=>by cases h
 | _ :: _,[],_,h=>by cases h
 | x :: a,y :: b,h1,h2=>by
  rw [ltL] at h1 h2;by_cases e:x=y
  ·subst e;rw [if_pos rfl] at h1 h2;rw [qx4 a b h1 h2]
  ·rw [if_neg e] at h1;rw [if_neg (fun e'=>e e'.symm)] at h2;simp at h1 h2;omega
theorem qx5:∀a b c:List Int,ltL a b=true→ltL b c=true→ltL a c=true
 | [],[],_,h,_=>by cases h
 | _ :: _,[],_,h,_=>by cases h
 | _,_ :: _,[],_,h=>by cases h
 | [],_ :: _,_ :: _,_,_=>rfl
 | x :: a,y :: b,z :: c,h1,h2=>by
  rw [ltL] at h1 h2 ⊢;by_cases e1:x=y
  ·subst e1;rw [if_pos rfl] at h1;by_cases e2:x=z
   ·subst e2;rw [if_pos rfl] at h2 ⊢;exact qx5 a b c h1 h2
   ·rw [if_neg e2] at h2 ⊢;exact h2
  ·rw [if_neg e1] at h1;by_cases e2:y=z
   ·subst e2;rw [if_neg e1];exact h1
   ·rw [if_neg e2] at h2;have h1':x < y:=by simpa using h1
    have h2':y < z:=by simpa using h2
    rw [if_neg (by omega)];simp;omega
theorem vn6 (a b c:List Int) (h1:ltL a b=false) (h2:ltL b c=false):ltL a c=false:=by
 cases h:ltL a c with
 | false=>rfl
 | true =>
  exfalso;cases h3:ltL b a with
  | true =>
   have:=qx5 b a c h3 h;rw [h2] at this;cases this
  | false =>
   have:=qx4 a b h1 h3;subst this;rw [h2] at h;cases h
theorem qv4 {α:Type} {l:List α} {k:Nat} {x:α} {r:List α} (h:l.drop k=x :: r):l[k]?=some x∧l.drop (k+1)=r∧k < l.length:=by
 have h1:l[k]?=some x:=by
  have:=congrArg (·[0]?) h;simpa [vt4] using this
 exact ⟨h1,by rw [←vxy,h];rfl,qam h1⟩
theorem qv5 {α:Type} {l:List α} {k:Nat} (h:l.drop k=[]) (hk:k≤l.length):k=l.length:=by
 have:=congrArg vx3 h;simp at this;omega
theorem qrv (a b:List Int) (ha:a.length≤1000000) (hb:b.length≤1000000):∀(ra rb:List Int) (k:Nat),a.drop k=ra→b.drop k=rb→k≤a.length→k≤b.length →
  ∃o,qae (qa5 a b) (k:Int)=some o∧(match o with | .inl ()=>if (a.length:Int) < (b.length:Int) then -1 else 0 | .inr r=>r)=if ltL ra rb=true then (-1:Int) else if ltL rb ra=true then 1 else 0
 | [],[],k,h1,h2,h3,h4=>by
  have e1:=qv5 h1 h3;have e2:=qv5 h2 h4;refine ⟨.inl (),qad (by simp [qa5,e1]),?_⟩;simp only;rw [if_neg (by omega)];rfl
 | [],y :: rb,k,h1,h2,h3,h4=>by
  have e1:=qv5 h1 h3;have e2:=(qv4 h2).2.2;refine ⟨.inl (),qad (by simp [qa5,e1]),?_⟩;simp only;rw [if_pos (by omega)];rfl
 | x :: ra,[],k,h1,h2,h3,h4=>by
  have e2:=qv5 h2 h4;obtain ⟨x1,x2,x3⟩:=qv4 h1;refine ⟨.inr 1,qad (by simp only [qa5,if_pos (qaj x1),qaa x1,vvn,if_pos (show (k:Int)≥(b.length:Int) by omega)]),?_⟩;simp [ltL]
 | x :: ra,y :: rb,k,h1,h2,h3,h4=>by
  obtain ⟨x1,x2,x3⟩:=qv4 h1;obtain ⟨y1,y2,y3⟩:=qv4 h2;by_cases e:x=y
  ·subst e;obtain ⟨o,ho1,ho2⟩:=qrv a b ha hb ra rb (k+1) x2 y2 x3 y3;refine ⟨o,?_,?_⟩
   ·rw [qac (s':=((k+1:Nat):Int)) (by simp only [qa5,if_pos (qaj x1),if_neg (show ¬(k:Int)≥(b.length:Int) by omega),qaa x1,qaa y1,vvn,qvh,vie,bne_self_eq_false,vtk,if_false,qbk x3 (show a.length≤4611686018427387904 by omega)])];exact ho1
   ·rw [ho2,ltL,ltL,if_pos rfl,if_pos rfl]
  ·refine ⟨.inr (sgn x y),qad ?_,?_⟩
   ·have:(sgn x y != 0)=true:=by simpa using vkc e
    simp only [qa5,if_pos (qaj x1),if_neg (show ¬(k:Int)≥(b.length:Int) by omega),qaa x1,qaa y1,vvn,qvh,this,if_true]
   ·simp only [ltL,if_neg e,if_neg (fun e'=>e e'.symm:¬y=x)];unfold sgn;by_cases h:x < y
    ·simp [h]
    ·have:y < x:=by omega
     simp [h,this]
def vfx (a b:List Int):Int:=if ltL a b=true then -1 else if ltL b a=true then 1 else 0
theorem qvm (a b:List Int) (ha:a.length≤1000000) (hb:b.length≤1000000):qak a b=some (vfx a b):=by
 obtain ⟨o,h1,h2⟩:=qrv a b ha hb a b 0 rfl rfl (vxc _) (vxc _);have h1':qae (qa5 a b) 0=some o:=h1;unfold qak vfx;rw [h1',vvn,←h2];cases o with
 | inl u =>
  cases u;simp only;by_cases h:(a.length:Int) < (b.length:Int)
  ·rw [if_pos h,if_pos h]
  ·rw [if_neg h,if_neg h]
 | inr r=>rfl
theorem qne (a b:List Int):vfx a b < 0↔ltL a b=true:=by
 unfold vfx;cases h:ltL a b with
 | true=>simp
 | false =>
  cases ltL b a <;> simp
theorem vbn (l:List (List Int)) (hl:l.length≤1000000) (hs:∀a∈l,a.length≤1000000) (hn:l.Nodup) :
  ∃s,vho (fun (a:List Int) (b:List Int)=>qak a b) l=some s∧s.Perm l∧s.Pairwise (fun a b=>ltL a b=true):=by
 have hc:∀x∈l,∀y∈l,(qak x y).getD 0=vfx x y:=fun x hx y hy=>by rw [qvm x y (hs x hx) (hs y hy)];rfl
 have hok:q6z (fun x y=>(qak x y).getD 0) l:=by
  refine ⟨fun x hx=>?_,fun x hx y hy z hz h1 h2=>?_,fun x hx y hy z hz h1 h2=>?_⟩
  ·show ¬(qak x x).getD 0 < 0;rw [hc x hx x hx,qne,vfw];simp
  ·replace h1:(qak x y).getD 0 < 0:=h1;replace h2:(qak y z).getD 0 < 0:=h2;show (qak x z).getD 0 < 0;rw [hc _ hx _ hy,qne] at h1;rw [hc _ hy _ hz,qne] at h2;rw [hc _ hx _ hz,qne];exact qx5 x y z h1 h2
  ·replace h1:¬(qak x y).getD 0 < 0:=h1;replace h2:¬(qak y z).getD 0 < 0:=h2;show ¬(qak x z).getD 0 < 0;rw [hc _ hx _ hy,qne] at h1;rw [hc _ hy _ hz,qne] at h2;rw [hc _ hx _ hz,qne];have h1':ltL x y=false:=by simpa using h1
   have h2':ltL y z=false:=by simpa using h2
   rw [vn6 x y z h1' h2'];simp
 have hp:=q8j hok;refine ⟨srt (fun x y=>(qak x y).getD 0) l,?_,hp,?_⟩
 ·unfold vho;rw [if_pos ⟨fun x hx y hy=>by show (qak x y).isSome=true;rw [qvm x y (hs x hx) (hs y hy)];rfl,hok,by omega⟩]
 ·have h1:=vaq hok;have hn':(srt (fun x y=>(qak x y).getD 0) l).Nodup:=hp.nodup_iff.2 hn;refine vy1.imp_of_mem ?_ (h1.and hn');intro a b ha hb hab;have ha':=hp.mem_iff.1 ha;have hb':=hp.mem_iff.1 hb;obtain ⟨g1,g2⟩:=hab;replace g1:¬(qak b a).getD 0 < 0:=g1;rw [hc _ hb' _ ha',qne] at g1;cases h:ltL a b with
  | true=>rfl
  | false=>exact absurd (qx4 a b h (by simpa using g1)) g2
def qog (t:Table) (l:Linkage):List Arr2_int:=qkn t.Rows.length (mT t l) fun i k=>Arr2_int.mk (i:Int) (k:Int)
def RT (t:Table) (l:Linkage) (u v:Nat):Prop:=qfl (qog t l++(qog t l).map qra) u v
theorem q9f (t:Table) (l:Linkage) (u v:Nat):RT t l u v↔(u < v∧v < t.Rows.length∧mT t l u v=true)∨(v < u∧u < t.Rows.length∧mT t l v u=true):=by
 unfold RT qfl;rw [vun,vwz];unfold qog;constructor
 ·rintro (h | ⟨e,he,hs⟩)
  ·obtain ⟨i,k,h1,h2,h3,h4⟩:=qhj.1 h;simp only [Arr2_int.mk.injEq] at h4;have:i=u:=by omega
   have:k=v:=by omega
   subst i k;exact .inl ⟨h1,h2,h3⟩
  ·obtain ⟨i,k,h1,h2,h3,rfl⟩:=qhj.1 he;simp only [qra,Arr2_int.mk.injEq] at hs;have:i=v:=by omega
   have:k=u:=by omega
   subst i k;exact .inr ⟨h1,h2,h3⟩
 ·rintro (⟨h1,h2,h3⟩ | ⟨h1,h2,h3⟩)
  ·exact .inl (qhj.2 ⟨u,v,h1,h2,h3,rfl⟩)
  ·exact .inr ⟨_,qhj.2 ⟨v,u,h1,h2,h3,rfl⟩,rfl⟩
theorem vfy (t:Table) (l:Linkage) (u v:Nat) (h:RT t l u v):RT t l v u:=by
 rw [q9f] at h ⊢;exact h.symm
theorem q7y (t:Table) (l:Linkage):q2h t.Rows.length (qog t l):=by
 intro e he;obtain ⟨i,k,h1,h2,_,rfl⟩:=qhj.1 he;simp only;omega
theorem q0i (t:Table) (l:Linkage) (h:t.Rows.length≤100):(qog t l).length≤10000:=by
 have:=qq2 t.Rows.length (mT t l) fun i k=>Arr2_int.mk (i:Int) (k:Int)
 have h2:t.Rows.length * t.Rows.length≤100 * 100:=vz0 h h;unfold qog;omega
theorem vjd (t:Table) (l:Linkage) (h:t.Rows.length≤100):∃M,qae (qdy (qog t l)) ([],0)=some M∧vfv t l M:=by
 have hlen:=q0i t l h;have hf:=qhq (qog t l) (fun (m:List (Arr2_int×Bool)) (k:Int)=>(m,k)) (qdy (qog t l)) (fun m e=>qvz m e true) id (fun _ _=>True) (b0:=[]) (s0:=([],0)) rfl trivial (by
  intro k m e hx hk _;refine ⟨?_,trivial⟩;simp only [qdy,if_pos (qaj hx),qaa hx,vvn,wqn k]) (by
  intro m _;simp only [qdy,if_neg (vyu _),id])
 refine ⟨_,hf,?_⟩;have key:∀(E:List Arr2_int) (m:List (Arr2_int×Bool)) (q:Arr2_int),(qpx (E.foldl (fun m e=>qvz m e true) m) q).getD false=(decide (q∈E) || (qpx m q).getD false):=by
  intro E
  induction E with
  | nil=>intro m q;simp
  | cons e E ih =>
   intro m q;rw [vx1,ih,qxu];by_cases c:q=e
   ·subst c;simp
   ·simp [c]
 intro a b hab hb;rw [id,key];have:(qpx ([]:List (Arr2_int×Bool)) ⟨(a:Int),(b:Int)⟩).getD false=false:=rfl;rw [this,Bool.or_false,vxj,decide_eq_true_eq];unfold qog;rw [qhj];constructor
 ·rintro ⟨i,k,h1,h2,h3,h4⟩;simp only [Arr2_int.mk.injEq] at h4;have:i=a:=by omega
  have:k=b:=by omega
  subst i k;exact h3
 ·intro h3;exact ⟨a,b,hab,hb,h3,rfl⟩
theorem qx6 {t:Table} {l:Linkage} {C:List Nat} (h:C∈qcw (RT t l) t.Rows.length):C.Pairwise (· < ·)∧(∀x∈C,x < t.Rows.length)∧1≤C.length∧C.length≤t.Rows.length:=by
 obtain ⟨v,hv,rfl⟩:=vwz.1 h;refine ⟨qxe _ _ _,fun x hx=>(qis.1 hx).1,?_,?_⟩
 ·have:v∈qjq (RT t l) t.Rows.length v:=qis.2 ⟨(qqy.1 hv).1,.refl⟩;exact vwo this
 ·have:(qjq (RT t l) t.Rows.length v).length≤(vuv t.Rows.length).length:=vwn _ _
  rwa [vwp] at this
theorem vfz {r:List Int} (h:nfL r) {i:Nat} (hi:i < r.length):∃c,c < qb0 r∧r.getD i 0=(c:Int):=by
 have hx:r[i]?=some (r.getD i 0):=by simp [vwd,vt5 hi]
 have h0:=h.1 _ (vup hx);exact ⟨(r.getD i 0).toNat,q4t hx,by omega⟩
theorem qt2 {r:List Int} {k c i:Nat}:i∈qt0 r k c↔i < k∧r.getD i 0=(c:Int):=by simp [qt0]
theorem vje {r:List Int} (h:nfL r):(((vuv (qb0 r)).map fun c=>qt0 r r.length c).flatten).Perm (vuv r.length):=by
 refine qut ?_ vzm ?_
 ·unfold vy0;rw [vzo];refine ⟨?_,?_⟩
  ·intro x hx;obtain ⟨c,_,rfl⟩:=vwz.1 hx;exact (vzm.sublist List.filter_sublist)
  ·rw [vzr];refine (vx8 (n:=qb0 r)).imp fun {a b} hab x hx y hy e=>?_
   subst e;have h1:=(qt2.1 hx).2;have h2:=(qt2.1 hy).2;omega
 ·intro x;rw [vw1,vzh];constructor
  ·rintro ⟨y,hy,hx⟩;obtain ⟨c,_,rfl⟩:=vwz.1 hy;exact (qt2.1 hx).1
  ·intro hx;obtain ⟨c,hc,hr⟩:=vfz h hx;exact ⟨_,vwz.2 ⟨c,vw1.2 hc,rfl⟩,qt2.2 ⟨hx,hr⟩⟩
theorem q0j {r:List Int} (h:nfL r) {C:List Nat} (hl:r.length=C.length):(qde r C).flatten.Perm C:=by
 have e:(qde r C).flatten=(((vuv (qb0 r)).map fun c=>qt0 r r.length c).flatten).map fun i=>C.getD i 0:=by
  unfold qde;rw [vzd,vze];rfl
 rw [e];refine ((vje h).map _).trans ?_;rw [hl,←q1y C]
theorem q2o {r:List Int} (h:nfL r) {C:List Nat} (hC:C.Pairwise (· < ·)) (hl:r.length=C.length) {P:List Nat} (hP:P∈qde r C):P.Pairwise (· < ·)∧1≤P.length∧P.length≤C.length:=by
 obtain ⟨c,hc,rfl⟩:=vwz.1 hP;have hc:=vw1.1 hc;refine ⟨?_,?_,?_⟩
 ·rw [vzr];have:(qt0 r r.length c).Pairwise (· < ·):=vx8.filter _;refine (vy1.and_mem.1 this).imp fun {a b} hab=>?_
  obtain ⟨ha,hb,hlt⟩:=hab;exact q2m hC hlt (by have:=q2n hb;omega)
 ·have hm:=q9c h r.length c (vvb _) (by rw [vyi];exact hc);rw [vyi] at hm;obtain ⟨i,hi,e⟩:=vzi.1 hm;have:i∈qt0 r r.length c:=qt2.2 ⟨hi,by simp [vwd,vt5 hi,e]⟩;rw [vuf];exact vwo this
 ·rw [vuf];have:=vwn (fun i=>decide (r.getD i 0=(c:Int))) (vuv r.length);unfold qt0;rw [vwp] at this;omega
def qx7 (t:Table) (l:Linkage):List (List Nat):=(qcw (RT t l) t.Rows.length).flatMap fun C=>qde (qh4 (wT t l) C) C
theorem qqa {α β:Type} (f:α→List (List β)):∀l:List α,(l.flatMap f).flatten=l.flatMap fun x=>(f x).flatten
 | []=>rfl
 | x :: l=>by rw [vwc,List.flatten_append,vwc,qqa f l]
theorem qvn {α β:Type} {f g:α→List β}:∀{l:List α},(∀x∈l,(f x).Perm (g x))→(l.flatMap f).Perm (l.flatMap g)
 | [],_=>.refl _
 | x :: l,h=>by
  rw [vwc,vwc];exact (h x (by simp)).append (qvn fun y hy=>h y (by simp [hy]))
theorem q5q (t:Table) (l:Linkage):(qx7 t l).flatten.Perm (vuv t.Rows.length):=by
 unfold qx7;rw [qqa];have h1:((qcw (RT t l) t.Rows.length).flatMap fun C=>(qde (qh4 (wT t l) C) C).flatten).Perm ((qcw (RT t l) t.Rows.length).flatMap fun C=>C):=by
  refine qvn fun C hC=>?_
  obtain ⟨c,_,hnf,hbl⟩:=qo6 (wT t l) C;exact q0j hnf hbl
 refine h1.trans ?_;have:((qcw (RT t l) t.Rows.length).flatMap fun C=>C)=(qcw (RT t l) t.Rows.length).flatten:=by simp [List.flatMap]
 rw [this];exact q7h (vfy t l) _
theorem vf0 {t:Table} {l:Linkage} {P:List Nat} (h:P∈qx7 t l):P.Pairwise (· < ·)∧1≤P.length∧(∀x∈P,x < t.Rows.length)∧P.length≤t.Rows.length:=by
 have hm:∀x∈P,x < t.Rows.length:=by
  intro x hx;have:x∈(qx7 t l).flatten:=vzh.2 ⟨P,h,hx⟩;exact vw1.1 ((q5q t l).mem_iff.1 this)
 unfold qx7 at h;obtain ⟨C,hC,hP⟩:=vuo.1 h;obtain ⟨h1,h2,h3,h4⟩:=qx6 hC;obtain ⟨c,_,hnf,hbl⟩:=qo6 (wT t l) C;obtain ⟨q1,q2,q3⟩:=q2o hnf h1 hbl hP;exact ⟨q1,q2,hm,by omega⟩
def qeh (t:Table) (P:List Nat):List Int:=P.map fun i=>(qe9 t i).ID
theorem vf1 {t:Table}:qeh t (vuv t.Rows.length)=ids t:=by
 unfold qeh ids;refine vtz fun i=>?_
 by_cases hi:i < t.Rows.length
 ·rw [qjs _ hi,vt8,qgt hi];rfl
 ·rw [vt6 (by simp;omega),vt6 (by simp;omega)]
theorem id_lt {t:Table} (he:qbe t=0) {i k:Nat} (hk:k < t.Rows.length) (h:i < k):(qe9 t i).ID < (qe9 t k).ID:=by
 have hc:=q2c he;have key:∀(l:List Row) (a:Int),qet t.Attrs.length a l=0→l.Pairwise (fun r q=>r.ID < q.ID)∧∀r∈l,a < r.ID:=by
  intro l
  induction l with
  | nil=>intro a _;simp
  | cons r l ih =>
   intro a h;have h2:=(qo3 t.Attrs.length (r :: l) a h).1 r (by simp);have h3:qet t.Attrs.length r.ID l=0:=by
    unfold qet at h;split at h
    ·omega
    ·split at h
     ·omega
     ·split at h
      ·exact h
      ·omega
   obtain ⟨q1,q2⟩:=ih r.ID h3;refine ⟨vx6.2 ⟨q2,q1⟩,fun x hx=>?_⟩;rcases vwv.1 hx with rfl | hx
   ·exact h2.1
   ·have:=q2 x hx;have:=h2.1;omega
 have hp:=(key t.Rows 0 hc).1;have g1:=qgt (show i < t.Rows.length by omega);have g2:=qgt hk;rw [vt5 (by omega),vvt] at g1;rw [vt5 hk,vvt] at g2;have:=(vzp.1 hp) i k (by omega) hk h
 rwa [g1,g2] at this
def qt3 (t:Table) (l:Linkage):List (List Int):=(qx7 t l).map (qeh t)
theorem vn7 {l:List Int} (h:l.Pairwise (· < ·)) (hn:1≤l.length):ve9 l=true:=by
 unfold ve9;rw [vti];refine ⟨?_,by rw [decide_eq_true_eq];omega⟩;rw [qsh];intro j x hx;rw [vt4] at hx;rw [decide_eq_true_eq];have hlt:=qam hx;rw [show 1+j - 1=j by omega];have hj:l[j]?=some (l.getD j 0):=by simp [vwd,vt5 (show j < l.length by omega)]
 have g1:=hj;have g2:=hx;rw [vt5 (by omega),vvt] at g1;rw [vt5 hlt,vvt] at g2;have:=(vzp.1 h) j (1+j) (by omega) hlt (by omega)
 rwa [g1,g2] at this
def ltH (a b:List Int):Bool:=decide (a.headD 0 < b.headD 0)
theorem q9g (x y:List Int) (h:ltH x y=true):ltH y x=false:=by
 unfold ltH at *;simp only [decide_eq_true_eq,decide_eq_false_iff_not] at *;omega
theorem vf2 (x y z:List Int) (h1:ltH y x=false) (h2:ltH z y=false):ltH z x=false:=by
 unfold ltH at *;simp only [decide_eq_false_iff_not] at *;omega
def qu1 (cs:List (List Int)):List (List Int):=qtp ltH cs
theorem qq4 (cs:List (List Int)):(qu1 cs).Perm cs:=by
 have:=(qmg ltH q9g vf2 cs [] vy1.nil).1;simpa [qu1,qtp] using this
theorem q5r (cs:List (List Int)):(qu1 cs).Pairwise fun a b=>ltH b a=false:=(qmg ltH q9g vf2 cs [] vy1.nil).2
def q7z (cs:List (List Int)):Prop:=∀a∈cs,∀b∈cs,a.headD 0=b.headD 0→a=b
theorem q5s {cs s:List (List Int)} (hi:q7z cs) (hp:s.Perm cs) (hs:s.Pairwise fun a b=>ltH b a=false):s=qu1 cs:=by
 refine List.Perm.eq_of_pairwise (le:=fun a b=>ltH b a=false) (fun a b ha hb h1 h2=>?_) hs (q5r cs) (hp.trans (qq4 cs).symm);unfold ltH at h1 h2;simp only [decide_eq_false_iff_not] at h1 h2;exact hi a (hp.mem_iff.1 ha) b ((qq4 cs).mem_iff.1 hb) (by omega)
theorem vjf {a b:List Int} (ha:a≠[]) (hb:b≠[]) (h:ltL a b=true):ltH b a=false:=by
 cases a with
 | nil=>exact absurd rfl ha
 | cons x a =>
  cases b with
  | nil=>exact absurd rfl hb
  | cons y b =>
   unfold ltH;rw [decide_eq_false_iff_not];show ¬y < x;by_cases e:x=y
   ·subst e;exact vyu _
   ·rw [ltL,if_neg e] at h;have:=of_decide_eq_true h;omega
theorem qx8 {t:Table} (l:Linkage):(qt3 t l).flatten.Perm (ids t):=by
 have:(qt3 t l).flatten=qeh t (qx7 t l).flatten:=by
  unfold qt3 qeh;rw [vzd]
 rw [this,←vf1];exact (q5q t l).map _
theorem vf3 {t:Table} (he:qbe t=0) {P:List Nat} (h:P.Pairwise (· < ·)) (hn:∀x∈P,x < t.Rows.length):(qeh t P).Pairwise (· < ·):=by
 unfold qeh;rw [vzr];refine (vy1.and_mem.1 h).imp fun {a b} hab=>?_
 exact id_lt he (hn b hab.2.1) hab.2.2
theorem qqb {t:Table} {l:Linkage} (he:qbe t=0) {c:List Int} (h:c∈qt3 t l):c.Pairwise (· < ·)∧1≤c.length∧c.length≤t.Rows.length∧c≠[]:=by
 obtain ⟨P,hP,rfl⟩:=vwz.1 h;obtain ⟨h1,h2,h3,h4⟩:=vf0 hP;refine ⟨vf3 he h1 h3,by simpa [qeh] using h2,by simpa [qeh] using h4,?_⟩;intro e;have:=congrArg vx3 e;simp [qeh] at this;rw [this] at h2;simp at h2
theorem q0k {t:Table} (l:Linkage) (he:qbe t=0):(qt3 t l).flatten.Nodup:=(qx8 l).nodup_iff.2 (qlx he).2
theorem q9h {cs:List (List Int)} (h:cs.flatten.Nodup) {i j:Nat} {a b:List Int} {x:Int} (ha:cs[i]?=some a) (hb:cs[j]?=some b) (hxa:x∈a) (hxb:x∈b):i=j:=by
 unfold vy0 at h;rw [vzo] at h;have h2:=vzp.1 h.2;obtain ⟨hi,ea⟩:=vt7.1 ha;obtain ⟨hj,eb⟩:=vt7.1 hb;subst ea eb;rcases vw7 i j with q | q | q
 ·exact absurd rfl (h2 i j hi hj q x hxa x hxb)
 ·exact q
 ·exact absurd rfl (h2 j i hj hi q x hxb x hxa)
theorem vbo {cs:List (List Int)} (h:cs.flatten.Nodup) (hne:∀c∈cs,c≠[]):q7z cs:=by
 intro a ha b hb e;obtain ⟨i,hi,ea⟩:=vzi.1 ha;obtain ⟨j,hj,eb⟩:=vzi.1 hb;have h1:a.headD 0∈a:=by
  cases a with
  | nil=>exact absurd rfl (hne _ ha)
  | cons x r=>simp
 have h2:b.headD 0∈b:=by
  cases b with
  | nil=>exact absurd rfl (hne _ hb)
  | cons x r=>simp
 have:=q9h h (i:=i) (j:=j) (by rw [vt5 hi,ea]) (by rw [vt5 hj,eb]) h1 (e ▸ h2);subst this;rw [←ea,←eb]
theorem vjg {t:Table} (l:Linkage) (he:qbe t=0):q7z (qt3 t l):=vbo (q0k l he) fun c hc=>(qqb he hc).2.2.2
theorem q9i {t:Table} (l:Linkage) (he:qbe t=0):(qt3 t l).length≤t.Rows.length:=by
 have h1:=(qx8 (t:=t) l).length_eq;have key:∀cs:List (List Int),(∀c∈cs,1≤c.length)→cs.length≤cs.flatten.length:=by
  intro cs
  induction cs with
  | nil=>intro _;simp
  | cons c cs ih =>
   intro h;have h1:=h c (by simp);have h2:=ih fun d hd=>h d (by simp [hd])
   rw [vy6,vud,vwl];omega
 have:=key (qt3 t l) fun c hc=>(qqb he hc).2.1
 rw [h1] at this;simpa [ids] using this
theorem q70 {t:Table} (l:Linkage) (he:qbe t=0):(qt3 t l).Nodup:=by
 refine vzp.2 fun i j hi hj hij e=>?_
 have hne:=(qqb he (vwk hi)).2.2.2;have h1:((qt3 t l)[i]).headD 0∈(qt3 t l)[i]:=by
  cases hq:(qt3 t l)[i] with
  | nil=>exact absurd hq hne
  | cons x r=>simp
 have:=q9h (q0k l he) (i:=i) (j:=j) (vt5 hi) (vt5 hj) h1 (e ▸ h1);omega
theorem vsv {t:Table} (l:Linkage) (he:qbe t=0) (hn:t.Rows.length≤6):vho (fun (a:List Int) (b:List Int)=>qak a b) (qt3 t l)=some (qu1 (qt3 t l)):=by
 have hl:=q9i l he;obtain ⟨s,h1,h2,h3⟩:=vbn (qt3 t l) (by omega) (fun a ha=>by have:=(qqb he ha).2.2.1;omega) (q70 l he);rw [h1];congr 1;refine q5s (vjg l he) h2 ?_;refine (vy1.and_mem.1 h3).imp fun {a b} hab=>?_
 obtain ⟨ha,hb,hlt⟩:=hab;exact vjf (qqb he (h2.mem_iff.1 ha)).2.2.2 (qqb he (h2.mem_iff.1 hb)).2.2.2 hlt
theorem q0l {α β τ:Type} (B:List β×Int→Option (LS (List β×Int) τ)) (L:List α) (f:α→List β) (fin:List β→τ) (M c:Nat) (hM:L.length * c≤M) (hf:∀x∈L,(f x).length≤c)
  (h:∀(k:Nat) out x,L[k]?=some x→out.length+c≤M→B (out,(k:Int))=some (.next (out++f x,((k+1:Nat):Int)))) (he:∀out,B (out,(L.length:Int))=some (.done (fin out))):∀out0:List β,out0.length+L.length * c≤M→qae B (out0,0)=some (fin (out0++L.flatMap f)):=by
 intro out0 h0;have hh:=qhq L (fun (b:List β) (k:Int)=>(b,k)) B (fun b x=>b++f x) fin (fun k b=>b.length≤out0.length+k * c) (b0:=out0) (s0:=(out0,0)) rfl (by simp) (by
  intro k b x hx hk hb;have h1:k * c+c≤L.length * c:=by
   have:=vvi c (show k+1≤L.length by omega);rw [vz4] at this;exact this
  have h2:=hf x (vup hx);refine ⟨h k b x hx (by omega),?_⟩;rw [vud,vz4];omega) (fun b _=>he b)
 rw [hh];congr 2;have key:∀(L:List α) (b:List β),L.foldl (fun b x=>b++f x) b=b++L.flatMap f:=by
  intro L
  induction L with
  | nil=>intro b;simp
  | cons x L ih=>intro b;rw [vx1,ih,vwc,vts]
 exact key L out0
theorem vjh {t:Table} {P:List Nat} (hP:∀x∈P,x < t.Rows.length) (hl:P.length≤1000):qae (qdg t (qbr P)) ([],0)=some (qeh t P):=by
 have hlen:(qbr P).length=P.length:=by simp [qbr]
 have h:=qv3 (qdg t (qbr P)) P (fun i=>(qe9 t i).ID) 1000 hl (by
  intro k out x hx hl';have hk:=qam hx;have hx':(qbr P)[k]?=some (x:Int):=by simp [qbr,hx]
  have hr:qao (out.length+1) 8=true:=qn9 (by omega);simp only [qdg,if_pos (qaj hx'),qaa hx',vvn,qaa (qgt (hP x (vup hx))),hr,if_true,wqn k]) (by
  intro out;rw [←hlen];simp only [qdg,if_neg (vyu _)])
 exact h
theorem vbp {t:Table} {Ps:List (List Nat)} (hP:∀P∈Ps,(∀x∈P,x < t.Rows.length)∧P.length≤1000) (hl:Ps.length≤100) (out:List (List Int)) (ho:out.length≤1000):qae (qdh t (Ps.map qbr,0)) (out,0)=some (out++Ps.map (qeh t)):=by
 have h:=q0l (qdh t (Ps.map qbr,0)) Ps (fun P=>[qeh t P]) id 2000 1 (by omega) (fun _ _=>vvb _) (by
  intro k out x hx hl';have hk:=qam hx;have hx':(Ps.map qbr)[k]?=some (qbr x):=by rw [vt8,hx];rfl
  have hr:qao (out.length+1) 24=true:=q0h (by omega);obtain ⟨q1,q2⟩:=hP x (vup hx);simp only [qdh,if_pos (qaj hx'),qaa hx',vvn,vjh q1 q2,hr,if_true,wqn k]) (by
  intro out;have:(Ps.length:Int)=((Ps.map qbr).length:Int):=by simp
  rw [this];simp only [qdh,if_neg (vyu _),id]) out (by omega)
 rw [h];congr 2;simp [vzb]
theorem q5t (t:Table) (l:Linkage):(qcw (RT t l) t.Rows.length).length≤t.Rows.length:=by
 unfold qcw;rw [vuf];have:(qmf (RT t l) t.Rows.length).length≤(vuv t.Rows.length).length:=vwn _ _
 rwa [vwp] at this
theorem qt4 (r:List Int) (C:List Nat):(qde r C).length=qb0 r:=by simp [qde]
theorem q0m {t:Table} {l:Linkage} (T:LnkT t l) (h0:vkj t l=0) (hn:t.Rows.length≤6):qf9 t l=some (qu1 (qt3 t l),0):=by
 obtain ⟨M,hM,hMM⟩:=vjd t l (by omega);have hE:=q0i t l (by omega);have hcomp:=q2l (n:=t.Rows.length) (by omega) (qog t l) (by omega) (q7y t l);have hcl:=q5t t l;have hloop:=q0l (qe4 t M ((qcw (RT t l) t.Rows.length).map qbr,0)) (qcw (RT t l) t.Rows.length) (fun C=>(qde (qh4 (wT t l) C) C).map (qeh t)) (fun out=>(Sum.inl out:List (List Int) ⊕ (List (List Int)×Int))) 1000 6 (by omega) (by
  intro C hC;obtain ⟨c,_,hnf,hbl⟩:=qo6 (wT t l) C;have:=qo5 hnf;have:=(qx6 hC).2.2.2;rw [vuf,qt4];omega) (by
  intro k out C hC hl;have hk:=qam hC;have hmem:=vup hC;obtain ⟨q1,q2,q3,q4⟩:=qx6 hmem;have hC':((qcw (RT t l) t.Rows.length).map qbr)[k]?=some (qbr C):=by rw [vt8,hC];rfl
  obtain ⟨c,_,hnf,hbl⟩:=qo6 (wT t l) C;have hus:=qo5 hnf;have hg:=vbp (t:=t) (Ps:=qde (qh4 (wT t l) C) C) (fun P hP=>by
   refine ⟨fun x hx=>?_,by have:=(q2o hnf q1 hbl hP).2.2;omega⟩;have:x∈(qde (qh4 (wT t l) C) C).flatten:=vzh.2 ⟨P,hP,hx⟩;exact q2 x ((q0j hnf hbl).mem_iff.1 this)) (by rw [qt4];omega) out (by omega)
  simp only [qe4,if_pos (qaj hC'),qaa hC',vvn,vjc hMM q1 q2 q3 (by omega),bne_self_eq_false,vtk,if_false,hg,wqn k]) (by
  intro out;have:((qcw (RT t l) t.Rows.length).length:Int)=(((qcw (RT t l) t.Rows.length).map qbr).length:Int):=by simp
  rw [this];simp only [qe4,if_neg (vyu _)]) [] (by simp;omega)
 have hflat:[]++(qcw (RT t l) t.Rows.length).flatMap (fun C=>(qde (qh4 (wT t l) C) C).map (qeh t))=qt3 t l:=by
  unfold qt3 qx7;rw [vuu,vzc]
 rw [hflat] at hloop;have hm:=q5i T;have hm':qfq t l=some (qog t l):=hm;have hcomp':qf8 (t.Rows.length:Int) (qog t l)=some ((qcw (RT t l) t.Rows.length).map qbr,0):=hcomp;simp only [qf9,q9a t l T.ok T.rule T.rules T.nblock T.nsurv,h0,vvn,bne_self_eq_false,vtk,if_false,hm',hM,hcomp',hloop,vsv l T.err hn]
structure Grp (t:Table) (l:Linkage) (v:Nat) (g:List Int):Prop where
 nodup:g.Nodup
 mem:∀x∈g,∃k,k < t.Rows.length∧x=(qe9 t k).ID∧Rch (RT t l) v k
theorem Grp.small {t:Table} {l:Linkage} {v:Nat} {g:List Int} (G:Grp t l v g):g.length≤t.Rows.length:=by
 have:=qo2 (l':=ids t) G.nodup (by
  intro x hx;obtain ⟨k,hk,rfl,_⟩:=G.mem x hx;exact vwz.2 ⟨_,qly hk,rfl⟩)
 simpa [ids] using this
theorem Grp.snoc {t:Table} {l:Linkage} {v:Nat} {g:List Int} (G:Grp t l v g) {k:Nat} (hk:k < t.Rows.length) (hr:Rch (RT t l) v k) (hn:(qe9 t k).ID ∉ g):Grp t l v (g++[(qe9 t k).ID]):=by
 refine ⟨?_,?_⟩
 ·rw [vzk];refine ⟨G.nodup,by simp,?_⟩;intro a ha b hb e;rw [vw2] at hb;subst hb;subst e;exact hn ha
 ·intro x hx;rcases vun.1 hx with h | h
  ·exact G.mem x h
  ·rw [vw2] at h;exact ⟨k,hk,h,hr⟩
theorem vkl {t:Table} (he:qbe t=0) {i k:Nat} (hi:i < t.Rows.length) (hk:k < t.Rows.length) (h:(qe9 t i).ID=(qe9 t k).ID):i=k:=by
 by_cases e:i=k
 ·exact e
 ·exact absurd h (vns he hi hk e)
theorem Grp.rch {t:Table} {l:Linkage} {v:Nat} {g:List Int} (he:qbe t=0) (G:Grp t l v g) {k:Nat} (hk:k < t.Rows.length) (h:(qe9 t k).ID∈g):Rch (RT t l) v k:=by
 obtain ⟨j,hj,e,hr⟩:=G.mem _ h;have:=vkl he hk hj e;subst this;exact hr
theorem vf4 {t:Table} {l:Linkage} (T:LnkT t l) (hn:t.Rows.length≤100) (v:Nat):∀(d k:Nat) (g:List Int) (gr:Bool),k+d=(qdp t l).length→Grp t l v g →
  ∃g' gr',qae (qa6 (qdp t l)) (g,gr,(k:Int))=some (g',gr')∧Grp t l v g'∧(∀x∈g,x∈g')∧(gr=true→gr'=true)∧g.length≤g'.length∧(gr=false→gr'=true→g.length < g'.length) ∧
   (gr'=false→g'=g∧∀j p,k≤j→(qdp t l)[j]?=some p→(p.x0∈g↔p.x1∈g)):=by
 have hlen:(qdp t l).length≤10000:=by
  have:=qq2 t.Rows.length (mT t l) fun i k=>Arr2_int64.mk (qe9 t i).ID (qe9 t k).ID
  have h2:t.Rows.length * t.Rows.length≤100 * 100:=vz0 hn hn;unfold qdp;omega
 intro d
 induction d with
 | zero =>
  intro k g gr hk G;have c:¬((k:Int) < ((qdp t l).length:Int)):=by omega
  refine ⟨g,gr,qad (by simp only [qa6,if_neg c]),G,fun x hx=>hx,fun h=>h,vvb _,fun h h'=>(by rw [h] at h';cases h'),fun _=>⟨rfl,?_⟩⟩;intro j p hj hp;have:=qam hp;omega
 | succ d ih =>
  intro k g gr hk G;have hlt:k < (qdp t l).length:=by omega
  have hx:(qdp t l)[k]?=some (qdp t l)[k]:=vt5 hlt;obtain ⟨i,j,h1,h2,h3,he⟩:=qhj.1 (vup hx);rw [he] at hx;have hi:i < t.Rows.length:=by omega
  have hRij:RT t l i j:=(q9f t l i j).2 (.inl ⟨h1,h2,h3⟩);have hsm:=G.small;have w:=wqn k;have ha:=qxt g (qe9 t i).ID (by omega);have hb:=qxt g (qe9 t j).ID (by omega);have hroom:qao (g.length+1) 8=true:=qn9 (by omega);by_cases ma:(qe9 t i).ID∈g
  ·by_cases mb:(qe9 t j).ID∈g
   ·obtain ⟨g',gr',q1,q2,q3,q4,q5,q6,q7⟩:=ih (k+1) g gr (by omega) G;refine ⟨g',gr',?_,q2,q3,q4,q5,q6,fun h=>⟨(q7 h).1,?_⟩⟩
    ·rw [qac (s':=(g,gr,((k+1:Nat):Int))) (by
      simp only [qa6,if_pos (qaj hx),qaa hx,vvn,ha,hb,ma,mb,decide_true,if_true,Bool.not_true,vtk,if_false,w])]
     exact q1
    ·intro j' p hj hp;rcases vzz hj with hlt' | rfl
     ·exact (q7 h).2 j' p hlt' hp
     ·rw [hx] at hp;cases hp;exact ⟨fun _=>mb,fun _=>ma⟩
   ·have G':=G.snoc h2 ((G.rch T.err hi ma).step hRij) mb;obtain ⟨g',gr',q1,q2,q3,q4,q5,q6,q7⟩:=ih (k+1) _ true (by omega) G';have hgt:=q4 rfl;refine ⟨g',gr',?_,q2,fun x hxm=>q3 x (vzf _ hxm),fun _=>hgt,?_,?_,fun h=>by rw [hgt] at h;cases h⟩
    ·rw [qac (s':=(g++[(qe9 t j).ID],true,((k+1:Nat):Int))) (by
      simp only [qa6,if_pos (qaj hx),qaa hx,vvn,ha,hb,ma,mb,decide_true,decide_false,if_true,vys,vtk,if_false,hroom,w])]
     exact q1
    ·rw [vud,vwq] at q5;omega
    ·intro _ _;rw [vud,vwq] at q5;omega
  ·by_cases mb:(qe9 t j).ID∈g
   ·have G':=G.snoc hi ((G.rch T.err h2 mb).step (vfy t l _ _ hRij)) ma;obtain ⟨g',gr',q1,q2,q3,q4,q5,q6,q7⟩:=ih (k+1) _ true (by omega) G';have hgt:=q4 rfl;refine ⟨g',gr',?_,q2,fun x hxm=>q3 x (vzf _ hxm),fun _=>hgt,?_,?_,fun h=>by rw [hgt] at h;cases h⟩
    ·rw [qac (s':=(g++[(qe9 t i).ID],true,((k+1:Nat):Int))) (by
      simp only [qa6,if_pos (qaj hx),qaa hx,vvn,ha,hb,ma,mb,decide_true,decide_false,if_true,vys,vtk,if_false,hroom,w])]
     exact q1
    ·rw [vud,vwq] at q5;omega
    ·intro _ _;rw [vud,vwq] at q5;omega
   ·obtain ⟨g',gr',q1,q2,q3,q4,q5,q6,q7⟩:=ih (k+1) g gr (by omega) G;refine ⟨g',gr',?_,q2,q3,q4,q5,q6,fun h=>⟨(q7 h).1,?_⟩⟩
    ·rw [qac (s':=(g,gr,((k+1:Nat):Int))) (by
      simp only [qa6,if_pos (qaj hx),qaa hx,vvn,ha,hb,ma,mb,decide_false,vtk,if_false,w])]
     exact q1
    ·intro j' p hj hp;rcases vzz hj with hlt' | rfl
     ·exact (q7 h).2 j' p hlt' hp
     ·rw [hx] at hp;cases hp;exact ⟨fun h=>absurd h ma,fun h=>absurd h mb⟩
theorem vbq {t:Table} {l:Linkage} (T:LnkT t l) (hn:t.Rows.length≤100) (v:Nat):∀(d:Nat) (g:List Int),g.length+d=t.Rows.length→Grp t l v g →
  ∃g',qae (qbv (qdp t l)) (g,true)=some g'∧Grp t l v g'∧(∀x∈g,x∈g')∧∀p∈qdp t l,(p.x0∈g'↔p.x1∈g'):=by
 intro d
 induction d using Nat.strongRecOn with
 | ind d ih =>
  intro g hg G;obtain ⟨g1,gr1,q1,q2,q3,q4,q5,q6,q7⟩:=vf4 T hn v (qdp t l).length 0 g false (by omega) G;simp only [vxn] at q1;have hstep:qbv (qdp t l) (g,true)=some (.next (g1,gr1)):=by
   simp only [qbv,if_true,q1,vvn]
  cases gr1 with
  | true =>
   have hlt:=q6 rfl rfl;have hsm:=q2.small;obtain ⟨g',r1,r2,r3,r4⟩:=ih (t.Rows.length - g1.length) (by omega) g1 (by omega) q2;exact ⟨g',by rw [qac hstep];exact r1,r2,fun x hx=>r3 x (q3 x hx),r4⟩
  | false =>
   obtain ⟨e,hc⟩:=q7 rfl;subst e;refine ⟨g1,?_,q2,q3,?_⟩
   ·rw [qac hstep];exact qad (by simp only [qbv,vtk,if_false])
   ·intro p hp;obtain ⟨j,hj,e⟩:=vzi.1 hp;exact hc j p (vxc _) (by rw [vt5 hj,e])
theorem vf5 {t:Table} {l:Linkage} (T:LnkT t l) {v:Nat} (hv:v < t.Rows.length) {g:List Int} (G:Grp t l v g) (h0:(qe9 t v).ID∈g) (hc:∀p∈qdp t l,(p.x0∈g↔p.x1∈g)) {k:Nat} (hk:k < t.Rows.length):(qe9 t k).ID∈g↔Rch (RT t l) v k:=by
 constructor
 ·exact G.rch T.err hk
 ·intro h;refine h.closed (S:=fun u=>(qe9 t u).ID∈g) h0 fun x y hx hxy=>?_
  rw [q9f] at hxy;rcases hxy with ⟨q1,q2,q3⟩ | ⟨q1,q2,q3⟩
  ·have hm:(⟨(qe9 t x).ID,(qe9 t y).ID⟩:Arr2_int64)∈qdp t l:=qhj.2 ⟨x,y,q1,q2,q3,rfl⟩;exact (hc _ hm).1 hx
  ·have hm:(⟨(qe9 t y).ID,(qe9 t x).ID⟩:Arr2_int64)∈qdp t l:=qhj.2 ⟨y,x,q1,q2,q3,rfl⟩;exact (hc _ hm).2 hx
open Classical in
theorem q5u {t:Table} {l:Linkage} (T:LnkT t l) (hn:t.Rows.length≤100) {v:Nat} {g:List Int} (hg:g.length≤1000) (hm:∀k,k < t.Rows.length→((qe9 t k).ID∈g↔Rch (RT t l) v k)):qae (qbw t g) ([],0)=some (qeh t (qjq (RT t l) t.Rows.length v)):=by
 have h:=qiz (qbw t g) (fun k=>if decide (Rch (RT t l) v k) then [(qe9 t k).ID] else []) t.Rows.length 1000 1 (by
  intro k out hk hl
  have hr:qao (out.length+1) 8=true:=qn9 (by omega)
  have w:=wqn k
  have c:((k:Int) < (t.Rows.length:Int)):=by omega
  have hd:decide ((qe9 t k).ID∈g)=decide (Rch (RT t l) v k):=by
   rw [vxj,decide_eq_true_eq,decide_eq_true_eq];exact hm k hk
  simp only [qbw,if_pos c,qaa (qgt hk),vvn,qxt g (qe9 t k).ID (by omega),hr,if_true,w]
  rw [hd]
  cases decide (Rch (RT t l) v k) <;> simp) (fun k _=>q2e _ _) (by
  intro out
  simp only [qbw,if_neg (vyu _)]) t.Rows.length 0 [] (by omega) (by simp;omega)
 simp only [vxn,vuu] at h
 rw [h]
 congr 1
 unfold qeh qjq
 rw [←vuw]
 generalize vuv t.Rows.length=L
 induction L with
 | nil=>rfl
 | cons x L ih =>
  rw [vwc,vy4,ih]
  by_cases c:Rch (RT t l) v x
  ·simp [c]
  ·simp [c]
open Classical in
theorem q5v {t:Table} {l:Linkage} (T:LnkT t l) (hn:t.Rows.length≤100):qef t l=some ((qcw (RT t l) t.Rows.length).map (qeh t)):=by
 have key:∀(d i:Nat) (done:List Int),i+d=t.Rows.length→done.length≤i * t.Rows.length→(∀k,k < t.Rows.length→((qe9 t k).ID∈done↔∃u,u < i∧Rch (RT t l) u k)) →
   qae (qbx t (qdp t l)) ((qhs (RT t l) i).map (fun v=>qeh t (qjq (RT t l) t.Rows.length v)),done,(i:Int))=some ((qmf (RT t l) t.Rows.length).map fun v=>qeh t (qjq (RT t l) t.Rows.length v)):=by
  intro d
  induction d with
  | zero =>
   intro i done hi _ _
   obtain rfl:i=t.Rows.length:=by omega
   exact qad (by simp only [qbx,if_neg (vyu _),qx3])
  | succ d ih =>
   intro i done hi hdl hd
   have hlt:i < t.Rows.length:=by omega
   have c:((i:Int) < (t.Rows.length:Int)):=by omega
   have w:=wqn i
   have hmul:i * t.Rows.length≤100 * 100:=vz0 (by omega) hn
   have hhas:=qxt done (qe9 t i).ID (by omega)
   have hsucc:qhs (RT t l) (i+1)=qhs (RT t l) i++(if decide (∀u,u < i→¬Rch (RT t l) u i) then [i] else []):=by
    unfold qhs
    rw [vya,vy3]
    congr 1
    simp only [vy4,vy5]
   by_cases hm:(qe9 t i).ID∈done
   ·obtain ⟨u,hu,hr⟩:=(hd i hlt).1 hm
    have hno:¬∀u,u < i→¬Rch (RT t l) u i:=fun q=>q u hu hr
    have hi':=ih (i+1) done (by omega) (by rw [vz4];omega) (by
     intro k hk
     rw [hd k hk]
     constructor
     ·rintro ⟨u,hu,hr⟩;exact ⟨u,by omega,hr⟩
     ·rintro ⟨w,hw,hr'⟩
      rcases vzz (vzy hw) with h1 | rfl
      ·exact ⟨w,h1,hr'⟩
      ·exact ⟨u,hu,hr.trans hr'⟩)
    rw [hsucc,decide_eq_false hno] at hi'
    simp only [vtk,if_false,vtt] at hi'
    rw [qac (s':=((qhs (RT t l) i).map (fun v=>qeh t (qjq (RT t l) t.Rows.length v)),done,((i+1:Nat):Int))) (by
     simp only [qbx,if_pos c,qaa (qgt hlt),vvn,hhas,hm,decide_true,if_true,w])]
    exact hi'
   ·have hyes:∀u,u < i→¬Rch (RT t l) u i:=fun u hu hr=>hm ((hd i hlt).2 ⟨u,hu,hr⟩)
    have G0:Grp t l i [(qe9 t i).ID]:=⟨by simp,fun x hx=>by
     rw [vw2] at hx
     exact ⟨i,hlt,hx,.refl⟩⟩
    obtain ⟨g,q1,q2,q3,q4⟩:=vbq T hn i (t.Rows.length - 1) [(qe9 t i).ID] (by simp;omega) G0
    have hga:∀k,k < t.Rows.length→((qe9 t k).ID∈g↔Rch (RT t l) i k):=fun k hk=>vf5 T hlt q2 (q3 _ (by simp)) q4 hk
    have hgs:=q2.small
    have hids:=q5u T hn (by omega) hga
    have hr1:qao (done.length+g.length) 8=true:=qn9 (by omega)
    have hr2:qao (((qhs (RT t l) i).map (fun v=>qeh t (qjq (RT t l) t.Rows.length v))).length+1) 24=true:=by
     have:(qhs (RT t l) i).length≤(vuv i).length:=vwn _ _
     rw [vwp] at this
     exact q0h (by rw [vuf];omega)
    have hi':=ih (i+1) (done++g) (by omega) (by rw [vud,vz4];omega) (by
     intro k hk
     rw [vun,hd k hk,hga k hk]
     constructor
     ·rintro (⟨u,hu,hr⟩ | hr)
      ·exact ⟨u,by omega,hr⟩
      ·exact ⟨i,by omega,hr⟩
     ·rintro ⟨u,hu,hr⟩
      rcases vzz (vzy hu) with h1 | rfl
      ·exact .inl ⟨u,h1,hr⟩
      ·exact .inr hr)
    rw [hsucc,decide_eq_true hyes,if_pos rfl,vuk] at hi'
    rw [qac (s':=((qhs (RT t l) i).map (fun v=>qeh t (qjq (RT t l) t.Rows.length v))++[qeh t (qjq (RT t l) t.Rows.length i)],done++g,((i+1:Nat):Int))) (by
     simp only [qbx,if_pos c,qaa (qgt hlt),vvn,hhas,hm,decide_false,vtk,if_false,q1,hr1,if_true,hids,hr2,w])]
    exact hi'
 have h:=key t.Rows.length 0 [] (by omega) (by simp) (by
  intro k hk
  constructor
  ·intro h;cases h
  ·rintro ⟨u,hu,_⟩;omega)
 have e0:(qhs (RT t l) 0).map (fun v=>qeh t (qjq (RT t l) t.Rows.length v))=[]:=rfl
 rw [e0] at h
 simp only [vxn] at h
 have hm:qek t l=some (qdp t l):=vfg T
 simp only [qef,hm,vvn,h,qcw,vze]
 rfl
end Go.Proofs.YtmlegeeinnkhkaaGreat
