/- The Lean functions that the program's functions are lifted to, and the plain laws about them. -/
import Derived.Lib.TrailingZeros
import Derived.Test.YtmlegeeinnkhkaaGreatL1
import Derived.Test.YtmlegeeinnkhkaaGreatA3
set_option linter.unusedVariables false
set_option linter.unusedSimpArgs false
open Bool renaming and_eq_true→vs2,eq_false_or_eq_true→vw2,eq_iff_iff→vw3,false_and→vyd,false_eq_true→vs4,not_eq_false'→vye,not_eq_true→vw4,not_eq_true'→vs6,or_eq_true→vs7,true_and→vyf
open Function renaming comp→vyg
open Int renaming eq_ofNat_of_zero_le→vvp,lt_irrefl→vyh,natCast_zero→vw7,tmod→vxa,toNat_natCast→vxb
open Go.IntKind renaming i64→vxc,max→vyi,min→vyj,u32→vxd
open Go.Lib renaming compact→vw0,compactUpTo→vyk,keeps→vyl
open List renaming Nodup→vym,Pairwise→vyn,all_append→vyo,all_eq_true→vvr,append_assoc→vtc,append_nil→vtd,drop_drop→vxi,ext_getElem?→vtj,filter_append→vyp,filter_congr→vyq,filter_cons→vyr,findIdx?_cons→vxk,flatMap_cons→vvw,flatten_cons→vxl,foldl_cons→vxm,getD→vys,getD_eq_getElem?_getD→vvx,getElem?_append→vyt,getElem?_append_left→vtm,getElem?_drop→vto,getElem?_eq_getElem→vtp,getElem?_eq_none→vtq,getElem?_eq_some_iff→vtr,getElem?_inj→vyu,getElem?_map→vts,getElem?_range→vxn,getElem?_replicate→vtu,getElem?_set→vv1,getElem?_take→vtv,getElem_mem→vv4,length→vxo,length_append→vtx,length_cons→vv5,length_eq_zero_iff→vv6,length_filter_le→vv7,length_map→vtz,length_pos_of_mem→vv8,length_range→vv9,length_range'→vyv,length_replicate→vt1,length_set→vt2,length_singleton→vwa,length_take→vt3,map_append→vt4,map_congr_left→vwc,map_cons→vt5,map_eq_flatMap→vyw,map_flatMap→vyx,map_flatten→vyy,map_map→vyz,map_singleton→vxp,mem_append→vt7,mem_append_left→vy0,mem_append_right→vy1,mem_cons→vwf,mem_filter→vwi,mem_flatMap→vt8,mem_flatten→vxq,mem_iff_getElem→vy2,mem_map→vwj,mem_of_getElem?→vt9,mem_of_mem_take→vub,mem_range→vwl,mem_range'_1→vy3,mem_singleton→vwm,nil_append→vue,nodup_append→vy4,nodup_cons→vy5,nodup_range→vy6,pairwise_cons→vxs,pairwise_flatMap→vy7,pairwise_flatten→vy8,pairwise_iff_getElem→vy9,pairwise_lt_range→vxu,pairwise_lt_range'→vza,pairwise_map→vzb,range→vuf,range'→vwo,range'_succ→vzc,range_eq_range'→vug,range_succ→vxw,replicate→vuh,replicate_zero→vxz,set_append_right→vx1,set_cons_zero→vzd,singleton_append→vx2,take_add_one→vx4,take_append_of_le_length→vze,take_length→vx5,take_set_of_le→vzf,take_zero→vum
open Nat renaming add_assoc→vuo,add_comm→vzg,le_of_lt_succ→vzh,le_refl→vuv,le_trans→vux,lt_of_lt_of_le→vuy,lt_or_eq_of_le→vzi,lt_trichotomy→vwr,max_eq_right→vzj,min_eq_left→vws,mul_le_mul→vzk,mul_le_mul_right→vu2,pow_le_pow_left→vzl,pow_le_pow_right→vzm,pow_lt_pow_right→vzn,sub_self→vwu,sub_zero→vu5,succ_mul→vzo,zero_add→vu6,zero_le→vww
open Option renaming bind_some→vu7,getD_some→vu9,map_some→vvc,toList_some→vzp
open Option.some renaming injEq→vvd
noncomputable section
namespace Go.Proofs.YtmlegeeinnkhkaaGreat
open Go Go.Ab
def q2i (c:Similar):Bool :=
 if c.Measure=1 then decide (c.Limit=0) else if c.Measure=2∨c.Measure=4 then decide (0≤c.Limit∧c.Limit≤200) else if c.Measure=3 then decide (0≤c.Limit∧c.Limit≤100) else false
theorem qxe (c:Similar):qg9 c=some (q2i c):=by
 simp only [qg9,q2i,beq_iff_eq];by_cases h1:c.Measure=1
 ·simp [h1];rw [vw3];simp
 by_cases h2:c.Measure=2
 ·simp [h2];split <;> simp [*] <;> omega
 by_cases h4:c.Measure=4
 ·simp [h4];split <;> simp [*] <;> omega
 by_cases h3:c.Measure=3
 ·simp [h3];split <;> simp [*] <;> omega
 simp [h1,h2,h3,h4]
theorem ves (c:Similar):qiu c=some (q2i c):=qxe c
def vAt (x:Row) (c:Similar):Value:=x.Values.getD c.Attr.toNat ⟨0,0,[]⟩
def qg2 (x y:Row) (c:Similar):Int :=
 if c.Attr < 0 then 6 else if c.Attr≥(x.Values.length:Int) then 6 else if c.Attr≥(y.Values.length:Int) then 6 else if qhm (vAt x c) && (qhm (vAt y c) && q2i c) then 0 else 1
def vig (a b:Str):Ratio:=qns (2 * qpf ltS (qbd a 2) (qbd b 2)) ((qbd a 2).length+(qbd b 2).length)
def vmz (a b:Str) (lim:Int):Bool:=decide (vxc.wrap (100 * (vig a b).Num)≥vxc.wrap (lim * (vig a b).Den))
def qqe (s:Str) (n:Int):Nat:=min s.length n.toNat
def qlq (v w:Value) (c:Similar):Bool :=
 if v.Kind≠2∨w.Kind≠2∨c.Measure=1 then decide (v=w)
 else if c.Measure=2 then decide (((sed v.Str w.Str:Nat):Int)≤c.Limit)
 else if c.Measure=3 then vmz v.Str w.Str c.Limit
 else decide (v.Str.take (qqe v.Str c.Limit)=w.Str.take (qqe w.Str c.Limit))
def qzt (x y:Row) (c:Similar):Bool×Int:=if qg2 x y c=0 then (qlq (vAt x c) (vAt y c) c,0) else (false,qg2 x y c)
theorem qph {x:Row} {c:Similar} (h0:¬c.Attr < 0) (h1:¬c.Attr≥(x.Values.length:Int)):idx x.Values c.Attr=some (vAt x c):=by
 have e:c.Attr=((c.Attr.toNat:Nat):Int):=by omega
 have hlt:c.Attr.toNat < x.Values.length:=by omega
 rw [e,q6c,vAt,vvx,vtp hlt];rfl
theorem qs4 (a:Str):(qbd a 2).length=a.length+1:=by rw [vas];omega
theorem qzu (a b:Str):qpf ltS (qbd a 2) (qbd b 2)≤a.length+1:=by
 have:=vmt ltS _ (qbd a 2) (qbd b 2) (vuv _)
 rwa [qs4] at this
theorem vih (a b:Str) (ha:a.length≤200) (hb:b.length≤200):qgh a b 2=some (vig a b,0):=by
 have g1:=q8i a 2 ha (by omega) (by omega);have g2:=q8i b 2 hb (by omega) (by omega);have l1:=qs4 a;have l2:=qs4 b;have hc:=qzu a b;have hs:=vel _ (qbd a 2) (qbd b 2) 0 rfl (by omega);simp only [vu6,vw7] at hs;have w1:vxc.wrap (((qbd a 2).length:Int)+((qbd b 2).length:Int))=(((qbd a 2).length+(qbd b 2).length:Nat):Int):=by rw [qax (by omega) (by omega)];omega
 have w2:vxc.wrap (2 * ((qpf ltS (qbd a 2) (qbd b 2):Nat):Int))=((2 * qpf ltS (qbd a 2) (qbd b 2):Nat):Int):=by rw [qax (by omega) (by omega)];omega
 have z:((((qbd a 2).length+(qbd b 2).length:Nat):Int) == 0)=false:=by
  rw [beq_eq_false_iff_ne];omega
 have g1':qc7 a 2=some (qbd a 2,0):=g1;have g2':qc7 b 2=some (qbd b 2,0):=g2;have hsh:qgg (qbd a 2) (qbd b 2)=some ((qpf ltS (qbd a 2) (qbd b 2):Nat):Int):=by
  simp only [qgg,hs,vu7]
 have hm:=qm3 (2 * qpf ltS (qbd a 2) (qbd b 2)) ((qbd a 2).length+(qbd b 2).length) (by omega) (by omega) (by omega);simp only [qgh,vem a b ha hb,vu7,vs4,if_false,g1',g2',w1,z,bne_self_eq_false,hsh,w2,hm];rfl
theorem vii (a b:Str) (ha:a.length≤200) (hb:b.length≤200):qgv a b 2=some (vig a b,0):=by
 have g1':qdb a 2=some (qbd a 2,0):=qu3 a 2 ha (by omega) (by omega);have g2':qdb b 2=some (qbd b 2,0):=qu3 b 2 hb (by omega) (by omega);have l1:=qs4 a;have l2:=qs4 b;have hc:=qzu a b;have w1:vxc.wrap (((qbd a 2).length:Int)+((qbd b 2).length:Int))=(((qbd a 2).length+(qbd b 2).length:Nat):Int):=by rw [qax (by omega) (by omega)];omega
 have w2:vxc.wrap (2 * ((qpf ltS (qbd a 2) (qbd b 2):Nat):Int))=((2 * qpf ltS (qbd a 2) (qbd b 2):Nat):Int):=by rw [qax (by omega) (by omega)];omega
 have z:((((qbd a 2).length+(qbd b 2).length:Nat):Int) == 0)=false:=by
  rw [beq_eq_false_iff_ne];omega
 have hsh:=veg (qbd a 2) (qbd b 2) (by omega) (by omega);have hm:=qt6 (2 * qpf ltS (qbd a 2) (qbd b 2)) ((qbd a 2).length+(qbd b 2).length) (by omega) (by omega) (by omega);have n1:¬((a.length:Int) > 200):=by omega
 have n2:¬((b.length:Int) > 200):=by omega
 simp only [qgv,qd0,n1,n2,decide_false,vu7,vs4,if_false,g1',g2',w1,z,bne_self_eq_false,hsh,w2,hm];rfl
theorem qs5 {v:Value} (h:qhm v=true):v.Str.length≤200:=by
 simp only [qhm,decide_eq_true_eq] at h;rcases h with ⟨_,_,h⟩ | ⟨_,h⟩ | ⟨_,_,h⟩ | ⟨_,_,h⟩
 ·rw [h];simp
 ·rw [h];simp
 ·exact h
 ·rw [h];simp
theorem qzv {v:Value} (h:qhm v=true) (k:v.Kind=2):v.Num=0:=by
 simp only [qhm,decide_eq_true_eq] at h;omega
theorem vm0 {v w:Value} (hv:qhm v=true) (hw:qhm w=true) (kv:v.Kind=2) (kw:w.Kind=2):(v.Str == w.Str)=decide (v=w):=by
 have n1:=qzv hv kv;have n2:=qzv hw kw;rw [vw3,beq_iff_eq,decide_eq_true_eq];obtain ⟨a,b,c⟩:=v;obtain ⟨a',b',c'⟩:=w;simp only at *;subst kv kw n1 n2;simp
theorem vet {s:Str} {n:Int} (h:0≤n):(if (s.length:Int) < n then (s.length:Int) else n)=((qqe s n:Nat):Int):=by
 unfold qqe;split <;> omega
theorem veu (v w:Value):((v.Kind == w.Kind) && ((v.Num == w.Num) && (v.Str == w.Str)))=decide (v=w):=by
 obtain ⟨a,b,c⟩:=v;obtain ⟨a',b',c'⟩:=w;rw [vw3];simp
theorem qzw {x y:Row} {c:Similar} (h:qg2 x y c=0):¬c.Attr < 0∧¬c.Attr≥(x.Values.length:Int)∧¬c.Attr≥(y.Values.length:Int)∧qhm (vAt x c)=true∧qhm (vAt y c)=true∧q2i c=true:=by
 unfold qg2 at h;split at h
 ·simp at h
 ·split at h
  ·simp at h
  ·split at h
   ·simp at h
   ·split at h
    ·rename_i h1 h2 h3 h4;simp only [vs2] at h4;exact ⟨h1,h2,h3,h4.1,h4.2.1,h4.2.2⟩
    ·simp at h
theorem q4k {c:Similar} (h:q2i c=true):c.Measure=1∨((c.Measure=2∨c.Measure=3∨c.Measure=4)∧0≤c.Limit∧c.Limit≤200):=by
 unfold q2i at h;split at h
 ·exact .inl ‹_›
 ·split at h
  ·have:=of_decide_eq_true h;right;omega
  ·split at h
   ·have:=of_decide_eq_true h;right;omega
   ·simp at h
theorem vev (x y:Row) (c:Similar):qbz x y c=some (qzt x y c):=by
 by_cases hc:qg2 x y c=0
 ·obtain ⟨h0,h1,h2,hv,hw,hl⟩:=qzw hc;have sv:=qs5 hv;have sw:=qs5 hw;rw [qzt,if_pos hc];simp only [qbz,if_neg h0,if_neg h1,if_neg h2,qph h0 h1,qph h0 h2,vu7,qm1,hv,hw,if_true,qxe,hl,veu];by_cases k1:(vAt x c).Kind=2
  ·by_cases k2:(vAt y c).Kind=2
   ·have b1:((vAt x c).Kind != 2)=false:=by rw [k1];rfl
    have b2:((vAt y c).Kind != 2)=false:=by rw [k2];rfl
    simp only [b1,b2,vs4,if_false,vu7,beq_iff_eq];rcases q4k hl with hm | ⟨hm,hl0,hl2⟩
    ·have m2:¬c.Measure=2:=by omega
     have m3:¬c.Measure=3:=by omega
     have m4:¬c.Measure=4:=by omega
     simp only [if_neg m2,if_neg m3,if_neg m4,vm0 hv hw k1 k2];unfold qlq;rw [if_pos (.inr (.inr hm))]
    ·have m1:¬c.Measure=1:=by omega
     have hneg:¬((vAt x c).Kind≠2∨(vAt y c).Kind≠2∨c.Measure=1):=by simp [k1,k2,m1]
     unfold qlq;rw [if_neg hneg];by_cases m2:c.Measure=2
     ·simp only [if_pos m2,qh6,q4i _ _ sv sw,vu7,beq_self_eq_true,if_true]
     ·by_cases m3:c.Measure=3
      ·simp only [if_neg m2,if_pos m3,vih _ _ sv sw,vu7,beq_self_eq_true,if_true,vmz]
      ·have m4:c.Measure=4:=by omega
       simp only [if_neg m2,if_neg m3,if_pos m4,vet hl0,vxb];have q1:(0:Int)≤((qqe (vAt x c).Str c.Limit:Nat):Int):=by omega
       have q2:((qqe (vAt x c).Str c.Limit:Nat):Int)≤((vAt x c).Str.length:Int):=by unfold qqe;omega
       have q3:(0:Int)≤((qqe (vAt y c).Str c.Limit:Nat):Int):=by omega
       have q4:((qqe (vAt y c).Str c.Limit:Nat):Int)≤((vAt y c).Str.length:Int):=by unfold qqe;omega
       rw [if_pos q1,if_pos q2,if_pos q3,if_pos q4];congr 2;rw [vw3];simp
   ·have b1:((vAt x c).Kind != 2)=false:=by rw [k1];rfl
    have b2:((vAt y c).Kind != 2)=true:=by simp [k2]
    simp only [b1,b2,vs4,if_false,vu7,if_true];unfold qlq;rw [if_pos (.inr (.inl k2))]
  ·have b1:((vAt x c).Kind != 2)=true:=by simp [k1]
   simp only [b1,if_true,vu7];unfold qlq;rw [if_pos (.inl k1)]
 ·rw [qzt,if_neg hc];unfold qg2 at hc ⊢;by_cases h0:c.Attr < 0
  ·simp only [qbz,if_pos h0]
  by_cases h1:c.Attr≥(x.Values.length:Int)
  ·simp only [qbz,if_neg h0,if_pos h1]
  by_cases h2:c.Attr≥(y.Values.length:Int)
  ·simp only [qbz,if_neg h0,if_neg h1,if_pos h2]
  simp only [if_neg h0,if_neg h1,if_neg h2] at hc ⊢;simp only [qbz,if_neg h0,if_neg h1,if_neg h2,qph h0 h1,qph h0 h2,vu7,qm1,qxe];rcases vw2 (qhm (vAt x c)) with a | a <;> rcases vw2 (qhm (vAt y c)) with b | b <;> rcases vw2 (q2i c) with d | d <;> simp [a,b,d] at hc ⊢
theorem vew (x y:Row) (c:Similar):qc9 x y c=some (qg2 x y c):=by
 unfold qg2;by_cases h0:c.Attr < 0
 ·simp only [qc9,if_pos h0]
 by_cases h1:c.Attr≥(x.Values.length:Int)
 ·simp only [qc9,if_neg h0,if_pos h1]
 by_cases h2:c.Attr≥(y.Values.length:Int)
 ·simp only [qc9,if_neg h0,if_neg h1,if_pos h2]
 simp only [qc9,if_neg h0,if_neg h1,if_neg h2,qph h0 h1,qph h0 h2,vu7,q39,ves];rcases vw2 (qhm (vAt x c)) with a | a <;> rcases vw2 (qhm (vAt y c)) with b | b <;> rcases vw2 (q2i c) with d | d <;> simp [a,b,d]
theorem vm1 (x y:Row) (c:Similar):qfr x y c=some (qzt x y c):=by
 by_cases hc:qg2 x y c=0
 ·obtain ⟨h0,h1,h2,hv,hw,hl⟩:=qzw hc;have sv:=qs5 hv;have sw:=qs5 hw;rw [qzt,if_pos hc];simp only [qfr,vew,hc,vu7,bne_self_eq_false,vs4,if_false,qph h0 h1,qph h0 h2];have hcmp:qc0 (vAt x c) (vAt y c)=some (qzo (vAt x c) (vAt y c)):=qm2 _ _ (by omega);have hdec:(qzo (vAt x c) (vAt y c) == 0)=decide (vAt x c=vAt y c):=by
   rw [vw3,beq_iff_eq,decide_eq_true_eq,qrm]
  by_cases k1:(vAt x c).Kind=2
  ·have b1:((vAt x c).Kind != 2)=false:=by rw [k1];rfl
   by_cases k2:(vAt y c).Kind=2
   ·have b2:((vAt y c).Kind != 2)=false:=by rw [k2];rfl
    simp only [b1,b2,vs4,if_false,vu7,beq_iff_eq];rcases q4k hl with hm | ⟨hm,hl0,hl2⟩
    ·simp only [if_pos hm,hcmp,vu7,hdec];unfold qlq;rw [if_pos (.inr (.inr hm))]
    ·have m1:¬c.Measure=1:=by omega
     have hneg:¬((vAt x c).Kind≠2∨(vAt y c).Kind≠2∨c.Measure=1):=by simp [k1,k2,m1]
     unfold qlq;rw [if_neg hneg];by_cases m2:c.Measure=2
     ·simp only [if_neg m1,if_pos m2,q4j _ _ sv sw,vu7]
     ·by_cases m3:c.Measure=3
      ·simp only [if_neg m1,if_neg m2,if_pos m3,vii _ _ sv sw,vu7,vmz]
      ·have m4:c.Measure=4:=by omega
       have q1:(0:Int)≤((qqe (vAt x c).Str c.Limit:Nat):Int):=by omega
       have q2:((qqe (vAt x c).Str c.Limit:Nat):Int)≤((vAt x c).Str.length:Int):=by unfold qqe;omega
       have q3:(0:Int)≤((qqe (vAt y c).Str c.Limit:Nat):Int):=by omega
       have q4:((qqe (vAt y c).Str c.Limit:Nat):Int)≤((vAt y c).Str.length:Int):=by unfold qqe;omega
       simp only [if_neg m1,if_neg m2,if_neg m3,qht,vet hl0,vxb,if_pos q1,if_pos q2,if_pos q3,if_pos q4,vu7];congr 2;rw [vw3];simp
   ·have b2:((vAt y c).Kind != 2)=true:=by simp [k2]
    simp only [b1,b2,vs4,if_false,vu7,if_true,hcmp,hdec];unfold qlq;rw [if_pos (.inr (.inl k2))]
  ·have b1:((vAt x c).Kind != 2)=true:=by simp [k1]
   simp only [b1,if_true,vu7,hcmp,hdec];unfold qlq;rw [if_pos (.inl k1)]
 ·rw [qzt,if_neg hc];have:(qg2 x y c != 0)=true:=by simp [hc]
  simp only [qfr,vew,vu7,this,if_true]
end Go.Proofs.YtmlegeeinnkhkaaGreat
namespace Go.Ab
open Go
def qjq {α:Type} (f:α→Int):List α→Int
 | []=>0
 | x :: r=>if f x≠0 then f x else qjq f r
theorem qxf {α:Type} (l:List α) (B:Int→Option (LS Int (Unit ⊕ Int))) (f:α→Int)
  (h1:∀(k:Nat) x,l[k]?=some x→k < l.length→B k=if f x≠0 then some (.done (.inr (f x))) else some (.next (k+1:Nat))) (h3:B l.length=some (.done (.inl ()))) :
  qag B 0=some (if qjq f l=0 then .inl () else .inr (qjq f l)):=by
 have key:∀(r:List α) (k:Nat),l.drop k=r→k≤l.length→qag B (k:Int)=some (if qjq f r=0 then .inl () else .inr (qjq f r)):=by
  intro r
  induction r with
  | nil =>
   intro k hd hk;have:k=l.length:=by
    have:=congrArg vxo hd;simp at this;omega
   subst this;exact qad h3
  | cons x r ih =>
   intro k hd hk;have hx:l[k]?=some x:=by
    have:=congrArg (·[0]?) hd;simpa [vto] using this
   have hd':l.drop (k+1)=r:=by rw [←vxi,hd];rfl
   have hB:=h1 k x hx (qan hx);by_cases hf:f x≠0
   ·rw [if_pos hf] at hB;rw [qad hB];simp only [qjq,if_pos hf];rw [if_neg hf]
   ·rw [if_neg hf] at hB;rw [qaf hB,ih (k+1) hd' (qan hx)];simp only [qjq,if_neg hf]
 exact key l 0 (by simp) (vww _)
theorem q67 (zs:List Int) (x:Int):x∈vw0 zs↔x∈zs:=by
 unfold vw0 vyk;simp only [vwj,vwi,vwl];constructor
 ·rintro ⟨j,⟨hj,_⟩,rfl⟩;simp [getElem!_pos,hj]
 ·intro hx;have hlt:=List.idxOf_lt_length_of_mem hx;refine ⟨zs.idxOf x,⟨hlt,?_⟩,by simp [getElem!_pos,hlt]⟩;simp only [vyl,decide_eq_true_eq];by_cases h0:zs.idxOf x=0
  ·exact .inl h0
  ·right;have h1:zs.idxOf x - 1 < zs.length:=by omega
   have e1:zs.toArray[zs.idxOf x]! = x:=by simp [getElem!_pos,hlt]
   have e2:zs.toArray[zs.idxOf x - 1]! = zs[zs.idxOf x - 1]:=by simp [getElem!_pos,h1]
   rw [e1,e2];intro e;have hm:=List.not_of_lt_findIdx (p:=fun y=>y == x) (xs:=zs) (i:=zs.idxOf x - 1) (by show zs.idxOf x - 1 < zs.idxOf x;omega);simp only [beq_eq_false_iff_ne,ne_eq] at hm;exact hm e.symm
theorem q68 (zs:List Int) (hs:zs.Pairwise (·≤·)):(vw0 zs).length=zs.length↔zs.Nodup:=by
 unfold vw0 vyk;rw [vtz]
 conv=>lhs;rhs;rw [←vv9 (n:=zs.length)]
 rw [List.length_filter_eq_length_iff];simp only [vwl,vyl,decide_eq_true_eq];rw [vy9] at hs;constructor
 ·intro h;refine vy9.2 fun i j hi hj hij e=>?_
  have hj1:j - 1 < zs.length:=by omega
  rcases h j hj with h0 | hne
  ·omega
  ·have e1:zs.toArray[j]! = zs[j]:=by simp [getElem!_pos,hj]
   have e2:zs.toArray[j - 1]! = zs[j - 1]:=by simp [getElem!_pos,hj1]
   rw [e1,e2] at hne;have l1:zs[j - 1]≤zs[j]:=hs (j - 1) j hj1 hj (by omega);have l2:zs[i]≤zs[j - 1]:=by
    rcases vzi (show i≤j - 1 by omega) with hlt | heq
    ·exact hs i (j - 1) hi hj1 hlt
    ·subst heq;exact Int.le_refl _
   omega
 ·intro h j hj;by_cases h0:j=0
  ·exact .inl h0
  ·right;have hj1:j - 1 < zs.length:=by omega
   have e1:zs.toArray[j]! = zs[j]:=by simp [getElem!_pos,hj]
   have e2:zs.toArray[j - 1]! = zs[j - 1]:=by simp [getElem!_pos,hj1]
   rw [e1,e2];intro e;exact (vy9.1 h) (j - 1) j hj1 hj (by omega) e.symm
end Go.Ab
namespace Go.Proofs.YtmlegeeinnkhkaaGreat
open Go Go.Ab
def q1n (n:Int) (c:Similar):Int:=if c.Attr < 0∨c.Attr≥n then 6 else if q2i c then 0 else 1
def q1o (n:Int) (l:List Similar):Int:=if l.length < 1∨l.length > 6 then 1 else qjq (q1n n) l
def q4l (n:Int) (l:List Int):Int:=if l.any (fun x=>decide (x < 0∨x≥n)) then 6 else if l.Nodup then 0 else 1
def q4m (n:Int) (l:Linkage):Int :=
 if n < 0∨n > 16 then 7 else if l.Rules.length > 8 then 3
 else if qjq (q1o n) l.Rules≠0 then qjq (q1o n) l.Rules
 else if q4l n l.Block≠0 then q4l n l.Block
 else if (l.Survive.length:Int)≠n then 6
 else if l.Survive.any (fun x=>decide (x < 1∨x > 5)) then 1 else 0
def qpi:Value:=⟨0,0,[]⟩
theorem q69:qhm qpi=true:=by simp [qhm,qpi]
theorem q1p (m i:Int) (c:Similar) (n:Nat):qg2 ⟨m,vuh n qpi⟩ ⟨i,vuh n qpi⟩ c=q1n (n:Int) c:=by
 have hv:vAt ⟨m,vuh n qpi⟩ c=qpi∧vAt ⟨i,vuh n qpi⟩ c=qpi:=by
  simp only [vAt,vvx,vtu];split <;> exact ⟨rfl,rfl⟩
 simp only [qg2,q1n,vt1,hv.1,hv.2,q69,vyf];by_cases h0:c.Attr < 0
 ·simp [h0]
 ·by_cases h1:c.Attr≥(n:Int)
  ·simp [h0,h1]
  ·simp [h0,h1]
theorem vex (x y:Row) (c:Similar):(qzt x y c).2=qg2 x y c:=by
 unfold qzt;split <;> simp [*]
theorem vm2 {n:Nat} (h:n≤1000000):qao n 32=true:=by
 unfold qao;simp only [decide_eq_true_eq];omega
theorem vr1 (n:Int) (l:Linkage) (hr:∀r∈l.Rules,r.length≤1000000) (hR:l.Rules.length≤1000000) (hb:l.Block.length≤1000000) (hs:l.Survive.length≤1000000):qfy n l=some (q4m n l):=by
 unfold q4m;by_cases h1:n < 0
 ·simp only [qfy,if_pos h1,if_pos (show n < 0∨n > 16 by omega)]
 by_cases h2:n > 16
 ·simp only [qfy,if_neg h1,if_pos h2,if_pos (show n < 0∨n > 16 by omega)]
 rw [if_neg (show ¬(n < 0∨n > 16) by omega)];by_cases h3:(l.Rules.length:Int) > 8
 ·simp only [qfy,if_neg h1,if_neg h2,if_pos h3,if_pos (show l.Rules.length > 8 by omega)]
 rw [if_neg (show ¬l.Rules.length > 8 by omega)];obtain ⟨m,rfl⟩:=vvp (show 0≤n by omega);have h0:(0:Int)≤(m:Int):=by omega
 have hroom:=vm2 (show m≤1000000 by omega);have hroomB:qao l.Block.length 8=true:=qqd (by omega);have hin:∀x∈l.Rules,qag (qfi (vuh m qpi) x) 0=some (if qjq (q1n (m:Int)) x=0 then .inl () else .inr (qjq (q1n (m:Int)) x)):=fun x hx =>
  qxf x (qfi (vuh m qpi) x) (q1n (m:Int)) (fun k y hy hk=>by
   have c:((k:Int) < (x.length:Int)):=by omega
   have:=hr x hx;simp only [qfi,if_pos c,qaa hy,vu7,vev,vex,q1p,bne_iff_ne,wqn k]) (by simp [qfi])
 have hL:=qxf l.Rules (qc8 l (vuh m qpi)) (q1o (m:Int)) (fun k x hx hk=>by
  have c:((k:Int) < (l.Rules.length:Int)):=by omega
  have w:=wqn k;unfold q1o;by_cases a1:(x.length:Int) < 1
  ·simp only [qc8,if_pos c,qaa hx,vu7,if_pos a1,if_pos (show x.length < 1∨x.length > 6 by omega)];simp
  by_cases a2:(x.length:Int) > 6
  ·simp only [qc8,if_pos c,qaa hx,vu7,if_neg a1,if_pos a2,if_pos (show x.length < 1∨x.length > 6 by omega)];simp
  simp only [qc8,if_pos c,qaa hx,vu7,if_neg a1,if_neg a2,if_neg (show ¬(x.length < 1∨x.length > 6) by omega),hin x (vt9 hx),w];by_cases e:qjq (q1n (m:Int)) x=0 <;> simp [e]) (by simp [qc8])
 have hb':qa2 l.Block (fun y=>qgi y (m:Int))=some (l.Block.any fun x=>decide (x < 0∨x≥(m:Int))):=qj1 _ _ _ (fun x _=>by
  simp only [qgi];by_cases a:x < 0 <;> simp [a]) (by omega)
 have hs':qa2 l.Survive (fun y=>qgj y)=some (l.Survive.any fun x=>decide (x < 1∨x > 5)):=qj1 _ _ _ (fun x _=>by
  simp only [qgj];by_cases a:x < 1 <;> simp [a]) (by omega)
 have hsrt:qwm l.Block=some (qn4 l.Block):=if_pos (by omega);have hlen:(qn4 l.Block).length=l.Block.length:=(qlj l.Block).length_eq;have hcpt:vf8 (qn4 l.Block)=some (vw0 (qn4 l.Block)):=if_pos (by omega);have hnd:(vw0 (qn4 l.Block)).length=l.Block.length↔l.Block.Nodup:=by
  rw [←hlen,q68 _ (qwo _)];exact (qlj l.Block).nodup_iff
 have hL':qag (qc8 l (vuh m ⟨0,0,[]⟩)) 0=some (if qjq (q1o (m:Int)) l.Rules=0 then .inl () else .inr (qjq (q1o (m:Int)) l.Rules)):=hL;simp only [qfy,if_neg h1,if_neg h2,if_neg h3,if_pos h0,vxb,hroom,if_true,vu7,hL'];by_cases e:qjq (q1o (m:Int)) l.Rules=0
 ·simp only [e,if_true,ne_eq,not_true_eq_false,if_false,hb',vu7,hroomB,hsrt,hcpt];unfold q4l;rcases vw2 (l.Block.any fun x=>decide (x < 0∨x≥(m:Int))) with q | q
  ·simp only [q,if_true];simp
  ·simp only [q,vs4,if_false,bne_iff_ne];by_cases nd:l.Block.Nodup
   ·have:=hnd.2 nd;rw [if_neg (show ¬(((vw0 (qn4 l.Block)).length:Int)≠(l.Block.length:Int)) by omega),if_pos nd];simp only [not_true_eq_false,if_false,hs',vu7,ne_eq];by_cases s:(l.Survive.length:Int)=(m:Int)
    ·simp only [s,not_true_eq_false,if_false];rcases vw2 (l.Survive.any fun x=>decide (x < 1∨x > 5)) with u | u <;> simp only [u] <;> simp
    ·simp [s]
   ·have:¬(vw0 (qn4 l.Block)).length=l.Block.length:=fun h=>nd (hnd.1 h)
    rw [if_pos (show (((vw0 (qn4 l.Block)).length:Int)≠(l.Block.length:Int)) by omega),if_neg nd];simp
 ·simp [e]
def lexN (x y:Nat):Prop:=q73 x < q73 y∨(q73 x=q73 y∧x < y)
instance (x y:Nat):Decidable (lexN x y):=by unfold lexN;exact inferInstance
end Go.Proofs.YtmlegeeinnkhkaaGreat
namespace Go.Ab
open Go
end Go.Ab
namespace Go.Proofs.YtmlegeeinnkhkaaGreat
open Go Go.Ab
theorem vaz {α ρ:Type} (s:Nat) (l:List α) (B:Int→Option (LS Int (Unit ⊕ ρ))) (p:Nat→α→Bool) (bad:ρ)
  (h1:∀(k:Nat) x,s≤k→l[k]?=some x→k < l.length→p k x=true→B k=some (.next (k+1:Nat))) (h2:∀(k:Nat) x,s≤k→l[k]?=some x→p k x=false→B k=some (.done (.inr bad)))
  (h3:∀k:Nat,s≤k→l.length≤k→B k=some (.done (.inl ()))) :
  ∀(r:List α) (k:Nat),s≤k→l.drop k=r→qag B (k:Int)=some (if qeo p k r then .inl () else .inr bad):=by
 intro r
 induction r with
 | nil =>
  intro k hs hd;have:l.length≤k:=by
   have:=congrArg vxo hd;simp at this;omega
  exact qad (h3 k hs this)
 | cons x r ih =>
  intro k hs hd;have hx:l[k]?=some x:=by
   have:=congrArg (·[0]?) hd;simpa [vto] using this
  have hd':l.drop (k+1)=r:=by rw [←vxi,hd];rfl
  rcases vw2 (p k x) with hp | hp
  ·rw [qaf (h1 k x hs hx (qan hx) hp),ih (k+1) (by omega) hd'];simp [qeo,hp]
  ·rw [qad (h2 k x hs hx hp)];simp [qeo,hp]
theorem qxg {α:Type} {p:Nat→α→Bool}:∀{l:List α} {k:Nat},qeo p k l=true→∀{j:Nat} {x:α},l[j]?=some x→p (k+j) x=true
 | [],_,_,j,x,hx=>by simp at hx
 | y :: r,k,h,j,x,hx=>by
  simp only [qeo,vs2] at h;cases j with
  | zero=>simp at hx;subst hx;exact h.1
  | succ j =>
   have:=qxg h.2 (j:=j) (x:=x) (by simpa using hx);rw [show k+(j+1)=k+1+j by omega];exact this
def vey (l:List Int):Bool:=qeo (fun k x=>decide (l.getD (k - 1) 0 < x)) 1 (l.drop 1) && decide (0 < l.length)
theorem q4n (l:List Int) (hl:l.length≤1073741824):qmk l=some (vey l):=by
 have h:=vaz 1 l (qcr l) (fun k x=>decide (l.getD (k - 1) 0 < x)) false
  (fun k x hs hx hk hp=>by
   have e:vxc.wrap ((k:Int) - 1)=((k - 1:Nat):Int):=by rw [qax (by omega) (by omega)];omega
   obtain ⟨y,hy⟩:∃y,l[k - 1]?=some y:=⟨_,vtp (by omega)⟩;have hg:l.getD (k - 1) 0=y:=by simp [vys,hy]
   rw [hg,decide_eq_true_eq] at hp;have:¬x≤y:=by omega
   simp only [qcr,if_pos (qaj hx),qaa hx,vu7,e,qaa hy,if_neg this,qbj hk (show l.length≤4611686018427387904 by omega)])
  (fun k x hs hx hp=>by
   have hk:=qan hx;have e:vxc.wrap ((k:Int) - 1)=((k - 1:Nat):Int):=by rw [qax (by omega) (by omega)];omega
   obtain ⟨y,hy⟩:∃y,l[k - 1]?=some y:=⟨_,vtp (by omega)⟩;have hg:l.getD (k - 1) 0=y:=by simp [vys,hy]
   rw [hg,decide_eq_false_iff_not] at hp;have:x≤y:=by omega
   simp only [qcr,if_pos (qaj hx),qaa hx,vu7,e,qaa hy,if_pos this])
  (fun k hs hk=>by
   have:¬((k:Int) < (l.length:Int)):=by omega
   simp only [qcr,if_neg this]) (l.drop 1) 1 (vuv _) rfl
 have h':qag (qcr l) 1=_:=h;simp only [qmk,h',vu7,vey];have e:decide ((l.length:Int) > 0)=decide (0 < l.length):=by rw [vw3];simp
 cases qeo (fun k x=>decide (l.getD (k - 1) 0 < x)) 1 (l.drop 1) <;> simp [e]
theorem qt8 (l:List Int) (hl:l.length≤1073741824):qhj l=some (vey l):=q4n l hl
theorem vr2 {l:List Int} (h:vey l=true):∀(j k:Nat) {x y:Int},j < k→l[j]?=some x→l[k]?=some y→x < y:=by
 simp only [vey,vs2] at h;have step:∀(k:Nat) {x y:Int},l[k]?=some x→l[k+1]?=some y→x < y:=by
  intro k x y hx hy;have:=qxg h.1 (j:=k) (x:=y) (by rw [vto,vzg];exact hy);simp only [Nat.add_sub_cancel_left,decide_eq_true_eq,vys,hx,vu9] at this;exact this
 intro j k
 induction k with
 | zero=>intro x y hjk;omega
 | succ k ih =>
  intro x y hjk hx hy;by_cases e:j=k
  ·subst e;exact step j hx hy
  ·obtain ⟨z,hz⟩:∃z,l[k]?=some z:=⟨_,vtp (by have:=qan hy;omega)⟩;have:=ih (by omega) hx hz;have:=step k hz hy;omega
theorem q8n (l:List Int) (x:Int) (hl:l.length≤4611686018427387904):qeq l x=some (decide (x∈l)):=by
 have h:=qlo l (qey l x) (fun y=>!(y == x)) true
  (fun k y hx hk hp=>by
   simp only [vs6] at hp;simp only [qey,if_pos (qaj hx),qaa hx,vu7,hp,vs4,if_false,qbj hk hl])
  (fun k y hx hp=>by
   simp only [vye] at hp;simp only [qey,if_pos (qaj hx),qaa hx,vu7,hp,if_true])
  (by simp [qey])
 simp only [qeq,h,vu7];by_cases hm:x∈l
 ·have:l.all (fun y=>!(y == x))=false:=by rw [List.all_eq_false];exact ⟨x,hm,by simp⟩
  simp [this,hm]
 ·have:l.all (fun y=>!(y == x))=true:=by
   rw [vvr];intro y hy;simp only [vs6,beq_eq_false_iff_ne];intro e;rw [e] at hy;exact hm hy
  simp [this,hm]
theorem qyo (l:List Int) (x:Int) (hl:l.length≤1073741824):qjn l x=some (q61 (l.findIdx? (fun y=>x == y))):=by
 have h:=qi7 l (qd2 l x) (fun y=>x == y)
  (fun k y hx hk hp=>by simp only [qd2,if_pos (qaj hx),qaa hx,vu7,hp,vs4,if_false,if_true,qbj hk (show l.length≤4611686018427387904 by omega)])
  (fun k y hx hp=>by simp only [qd2,if_pos (qaj hx),qaa hx,vu7,hp,if_true])
  (by simp [qd2])
 simp only [qjn,h,vu7];cases l.findIdx? (fun y=>x == y) <;> rfl
theorem qt9 (l:List Int) (x:Int) (hl:l.length≤1073741824):qh0 l x=some (decide (x∈l)):=by
 simp only [qh0,qyo l x hl,vu7];rw [qvp];congr 1;rw [vw3];simp
def qqf:List Int→List (List Int)→Bool
 | _,[]=>true
 | all,c :: cs=>vey c && c.all (fun x=>!decide (x∈all)) && qqf (all++c) cs
theorem qxh {K V:Type} [DecidableEq K] (m:List (K×V)) (k x:K) (v:V):qo7 (qvn m k v) x=if x=k then some v else qo7 m x:=by
 induction m with
 | nil=>simp [qvn,qo7]
 | cons p r ih =>
  obtain ⟨a,u⟩:=p;simp only [qvn];by_cases h:k=a
  ·subst h;simp only [if_pos,qo7];by_cases hx:x=k <;> simp [hx]
  ·simp only [if_neg h,qo7,ih];by_cases hx:x=a
   ·subst hx;have:¬x=k:=fun e=>h e.symm
    simp [this]
   ·simp [hx]
theorem vij {K V:Type} [DecidableEq K] (m:List (K×V)) (k:K) (v:V) (h:qo7 m k=none):(qvn m k v).length=m.length+1:=by
 induction m with
 | nil=>rfl
 | cons p r ih =>
  obtain ⟨a,u⟩:=p;simp only [qo7] at h;split at h
  ·cases h
  ·rename_i hn;simp only [qvn,if_neg hn,vv5,ih h]
def Holds (m:List (Int×Bool)) (all:List Int):Prop:=∀x,qo7 m x=if x∈all then some true else none
theorem vm3 (cs:List (List Int)) (hl:cs.length≤1048576) (hc:∀c∈cs,c.length≤1048576):qhv cs=some (qqf [] cs):=by
 have key:∀(r:List (List Int)) (k:Nat) (all:List Int),cs.drop k=r→k≤cs.length→all.length≤k * 1048576→qag (qc1 cs) (all,(k:Int))=some (if qqf all r then .inl () else .inr false):=by
  intro r
  induction r with
  | nil =>
   intro k all hd hk hm;have hk':k=cs.length:=by
    have:=congrArg vxo hd;simp at this;omega
   subst hk';exact qad (by simp [qc1,qqf])
  | cons c r ih =>
   intro k all hd hk hm;have hx:cs[k]?=some c:=by
    have:=congrArg (·[0]?) hd;simpa [vto] using this
   have hd':cs.drop (k+1)=r:=by rw [←vxi,hd];rfl
   have hlt:=qan hx;have hcl:=hc c (vt9 hx);have hin:=qlo c (qd5 cs all k) (fun x=>!decide (x∈all)) false
    (fun j x hj hjk hp=>by
     simp only [vs6,decide_eq_false_iff_not] at hp;simp only [qd5,qaa hx,vu7,if_pos (qaj hj),qaa hj,q8n all x (by omega),hp,decide_false,vs4,if_false,qbj hjk (show c.length≤4611686018427387904 by omega)])
    (fun j x hj hp=>by
     simp only [vye,decide_eq_true_eq] at hp;simp only [qd5,qaa hx,vu7,if_pos (qaj hj),qaa hj,q8n all x (by omega),hp,decide_true,if_true])
    (by simp [qd5,qaa hx])
   by_cases ha:vey c=true
   ·rcases vw2 (c.all fun x=>!decide (x∈all)) with hall | hall
    ·have hroom:qao (all.length+c.length) 8=true:=qqd (by omega);rw [hall] at hin;rw [qaf (s':=(all++c,((k+1:Nat):Int))) (by simp only [qc1,if_pos (qaj hx),qaa hx,vu7,qt8 c (by omega),ha,if_true,hin,hroom,qbj hlt (show cs.length≤4611686018427387904 by omega)]),
      ih (k+1) (all++c) hd' hlt (by simp;omega)]
     simp only [qqf,ha,hall,vyf]
    ·rw [hall] at hin;rw [qad (t:=.inr false) (by simp only [qc1,if_pos (qaj hx),qaa hx,vu7,qt8 c (by omega),ha,if_true,hin,vs4,if_false])];simp only [qqf,hall,Bool.and_false,vyd,vs4,if_false]
   ·simp only [vw4] at ha;rw [qad (t:=.inr false) (by simp only [qc1,if_pos (qaj hx),qaa hx,vu7,qt8 c (by omega),ha,vs4,if_false])];simp only [qqf,ha,vyd,vs4,if_false]
 have h:=key cs 0 [] rfl (vww _) (by simp);simp only [vw7] at h;simp only [qhv,h,vu7];cases qqf [] cs <;> rfl
def Fits (a:Row) (l:List Int):Prop:=∀i∈l,0≤i∧i < (a.Values.length:Int)
theorem vik {a:Row} {l:List Int} (h:Fits a l) {i:Int} (hi:i∈l):idx a.Values i=some (qff a i.toNat):=by
 obtain ⟨h1,h2⟩:=h i hi;have hg:a.Values[i.toNat]?=some (qff a i.toNat):=by
  have hlt:i.toNat < a.Values.length:=by omega
  simp [qff,vys,vtp hlt]
 have:=qaa hg
 rwa [Int.toNat_of_nonneg h1] at this
def vj3 (a:Row):Prop:=∀v∈a.Values,v.Str.length≤1073741824
def vm4 (a b:Row):List Int→Int
 | []=>0
 | i :: l=>if qzo (qff a i.toNat) (qff b i.toNat)≠0 then qzo (qff a i.toNat) (qff b i.toNat) else vm4 a b l
theorem drop_take {α:Type} (l:List α) (n:Nat):(l.drop n).take (l.length - n)=l.drop n:=by
 apply List.take_of_length_le;rw [List.length_drop];exact vuv _
def vbq (s i:Int):Bool:=(vxd.wrap ((BitVec.ofInt 32 (Int.fdiv s (2 ^ (min i.toNat 32))) &&& (1#32)).toNat:Int)) == 1
def mx (a b:Int):Int:=if b > a then b else a
theorem qzx {α:Type} (p:α→Bool):∀(l:List α) {i:Nat},l.findIdx? p=some i→i < l.length
 | [],i,h=>by simp at h
 | x :: r,i,h=>by
  rw [vxk] at h;split at h
  ·cases h;simp
  ·cases hr:r.findIdx? p with
   | none=>rw [hr] at h;cases h
   | some j =>
    rw [hr] at h;simp only [vvc,vvd] at h;subst h;have:=qzx p r hr;simp;omega
theorem qro {α:Type} (p:Nat→α→Bool):∀(l:List α) (k:Nat),qeo p k l=true↔∀(j:Nat) (x:α),l[j]?=some x→p (k+j) x=true
 | [],k=>by simp [qeo]
 | y :: r,k=>by
  simp only [qeo,vs2,qro p r (k+1)];constructor
  ·rintro ⟨h1,h2⟩ j x hx;cases j with
   | zero=>simp at hx;subst hx;exact h1
   | succ j =>
    have:=h2 j x (by simpa using hx)
    rwa [vuo,vzg 1] at this
  ·intro h;refine ⟨h 0 y rfl,fun j x hx=>?_⟩;have:=h (j+1) x (by simpa using hx)
   rwa [vuo,vzg 1]
theorem q4o {α:Type} [DecidableEq α] (a b:List α) (h:a.length=b.length):qeo (fun k x=>decide (b[k]?=some x)) 0 a=decide (a=b):=by
 rw [vw3,qro,decide_eq_true_eq];simp only [vu6,decide_eq_true_eq];constructor
 ·intro hh;apply vtj ;intro i;by_cases hi:i < a.length
  ·rw [vtp hi];exact (hh i _ (vtp hi)).symm
  ·rw [vtq (by omega),vtq (by omega)]
 ·rintro rfl j x hx;exact hx
def ids (t:Table):List Int:=t.Rows.map (·.ID)
def divB (t:Table) (cs:List (List Int)):Bool:=qqf [] cs && (decide (cs.flatten.length=t.Rows.length) && cs.flatten.all fun x=>decide (x∈ids t))
theorem q4p (t:Table) (id:Int):(vh2 t id).2=decide (id∈ids t):=by
 unfold vh2 ids;cases h:t.Rows.findIdx? (fun r=>r.ID == id) with
 | none =>
  rw [List.findIdx?_eq_none_iff] at h;simp only [vwj];symm;rw [decide_eq_false_iff_not];rintro ⟨r,hr,he⟩;have:=h r hr;simp [he] at this
 | some i =>
  have hi:=qzx _ _ h;symm;rw [decide_eq_true_eq,vwj];have hp:(fun r:Row=>r.ID == id) (t.Rows[i]'hi)=true:=by
   rw [List.findIdx?_eq_some_iff_getElem] at h;exact h.2.1
  exact ⟨_,vv4 hi,by simpa using hp⟩
theorem vm5 (t:Table) (cs:List (List Int)) (hr:t.Rows.length≤1073741824) (hl:cs.length≤1048576) (hc:∀c∈cs,c.length≤1048576):∀(r:List (List Int)) (k n:Nat),cs.drop k=r→k≤cs.length→n≤k * 1048576 →
  qag (qfu t cs) ((n:Int),(k:Int))=some (if r.flatten.all (fun x=>decide (x∈ids t)) then .inl ((n+r.flatten.length:Nat):Int) else .inr false):=by
 intro r
 induction r with
 | nil =>
  intro k n hd hk hn;have hk':k=cs.length:=by
   have:=congrArg vxo hd;simp at this;omega
  subst hk';exact qad (by simp [qfu])
 | cons c r ih =>
  intro k n hd hk hn;have hx:cs[k]?=some c:=by
   have:=congrArg (·[0]?) hd;simpa [vto] using this
  have hd':cs.drop (k+1)=r:=by rw [←vxi,hd];rfl
  have hlt:=qan hx;have hcl:=hc c (vt9 hx);have hin:=qlo c (qft t cs k) (fun x=>decide (x∈ids t)) false
   (fun j x hj hjk hp=>by
    simp only [decide_eq_true_eq] at hp;simp only [qft,qaa hx,vu7,if_pos (qaj hj),qaa hj,qw7 t x hr,q4p,hp,decide_true,if_true,qbj hjk (show c.length≤4611686018427387904 by omega)])
   (fun j x hj hp=>by
    simp only [decide_eq_false_iff_not] at hp;simp only [qft,qaa hx,vu7,if_pos (qaj hj),qaa hj,qw7 t x hr,q4p,hp,decide_false,vs4,if_false])
   (by simp [qft,qaa hx])
  by_cases ha:(c.all fun x=>decide (x∈ids t))=true
  ·rw [if_pos ha] at hin;have hw:vxc.wrap ((n:Int)+(c.length:Int))=((n+c.length:Nat):Int):=by
    rw [qax (by omega) (by omega)];omega
   rw [qaf (s':=(((n+c.length:Nat):Int),((k+1:Nat):Int))) (by simp only [qfu,if_pos (qaj hx),qaa hx,vu7,hin,hw,qbj hlt (show cs.length≤4611686018427387904 by omega)]),
    ih (k+1) (n+c.length) hd' hlt (by omega)]
   simp only [vxl,vyo,ha,vyf,vtx,vuo]
  ·rw [if_neg ha] at hin;rw [qad (t:=.inr false) (by simp only [qfu,if_pos (qaj hx),qaa hx,vu7,hin])];simp only [vw4] at ha;simp only [vxl,vyo,ha,vyd,vs4,if_false]
theorem qog:∀{l l':List Int},l.Nodup→(∀x∈l,x∈l')→l.length≤l'.length
 | [],l',_,_=>vww _
 | x :: r,l',hn,hs=>by
  rw [vy5] at hn;have hx:x∈l':=hs x (by simp);have h:=qog (l':=l'.erase x) hn.2 (fun y hy=>by
   have hne:y≠x:=fun e=>hn.1 (e ▸ hy)
   rw [List.mem_erase_of_ne hne];exact hs y (by simp [hy]))
  rw [List.length_erase_of_mem hx] at h;have:0 < l'.length:=vv8 hx;simp;omega
theorem qoh (n:Nat):∀(l:List Row) (a:Int),qec n a l=0→(∀r∈l,a < r.ID∧r.Values.length=n)∧(l.map (·.ID)).Nodup
 | [],a,_=>⟨fun r hr=>by simp at hr,by simp⟩
 | r :: l,a,h=>by
  simp only [qec] at h;by_cases h1:r.ID≤a
  ·rw [if_pos h1] at h;cases h
  ·rw [if_neg h1] at h;by_cases h2:r.Values.length=n
   ·rw [if_neg (by simp [h2])] at h;by_cases h3:r.Values.all qhm=true
    ·rw [if_pos h3] at h;obtain ⟨h4,h5⟩:=qoh n l r.ID h;refine ⟨fun q hq=>?_,?_⟩
     ·rcases vwf.1 hq with e | e
      ·subst e;exact ⟨by omega,h2⟩
      ·have:=h4 q e;exact ⟨by omega,this.2⟩
     ·rw [vt5,vy5];refine ⟨fun hm=>?_,h5⟩;obtain ⟨q,hq,he⟩:=vwj.1 hm;have:=(h4 q hq).1;omega
    ·rw [if_neg h3] at h;cases h
   ·rw [if_pos h2] at h;cases h
theorem qk6 {t:Table} (h:qa4 t=0):(∀r∈t.Rows,r.Values.length=t.Attrs.length)∧(ids t).Nodup:=by
 unfold qa4 at h;split at h
 ·cases h
 ·split at h
  ·cases h
  ·split at h
   ·cases h
   ·split at h
    ·cases h
    ·obtain ⟨h1,h2⟩:=qoh _ _ _ h;exact ⟨fun r hr=>(h1 r hr).2,h2⟩
theorem vez {l:List Int} (h:vey l=true):l.Nodup:=by
 rw [List.nodup_iff_pairwise_ne,vy9];intro i j hi hj hij;have:=vr2 h i j hij (vtp hi) (vtp hj);omega
theorem qzy:∀{cs:List (List Int)} {all:List Int},qqf all cs=true→cs.flatten.Nodup∧∀x∈cs.flatten,x ∉ all
 | [],all,_=>⟨by simp,fun x hx=>by simp at hx⟩
 | c :: cs,all,h=>by
  simp only [qqf,vs2,vvr,vs6,decide_eq_false_iff_not] at h;obtain ⟨⟨h1,h2⟩,h3⟩:=h;obtain ⟨h4,h5⟩:=qzy h3;refine ⟨?_,fun x hx=>?_⟩
  ·rw [vxl,vy4];exact ⟨vez h1,h4,fun a ha b hb e=>h5 b hb (by simp [←e,ha])⟩
  ·rw [vxl,vt7] at hx;rcases hx with e | e
   ·exact h2 x e
   ·exact fun hh=>h5 x e (by simp [hh])
def q1q (t:Table) (l:List Int):List Row:=t.Rows.filter fun r=>decide (r.ID∈l)
theorem qxi (l:List (List UInt8)) (h:l.length≤1073741824):qix l=some l:=by
 unfold qix;rw [if_pos (qkn (by omega) (by omega))]
theorem q4q {B:List Row×Int→Option (LS (List Row×Int) (List Row))} (rows:List Row)
  (hB:∀(k:Nat) (out:List Row) x,rows[k]?=some x→out.length≤1048576→B (out,(k:Int))=some (.next (out++[x],((k+1:Nat):Int))))
  (hE:∀out,B (out,(rows.length:Int))=some (.done out)) (hl:rows.length≤1048576):qag B ([],0)=some rows:=by
 have h:=qh1 rows (fun (b:List Row) i=>(b,i)) B (fun b x=>b++[x]) id (fun k b=>b.length=k) (b0:=[]) (s0:=([],0)) rfl rfl
  (fun k b x hx hk hI=>⟨hB k b x hx (by omega),by simp [hI]⟩) (fun b _=>hE b)
 rw [h];have key:∀(l:List Row) (b:List Row),l.foldl (fun b x=>b++[x]) b=b++l:=by
  intro l
  induction l with
  | nil=>simp
  | cons x l ih=>intro b;rw [vxm,ih];simp
 rw [key];rfl
theorem vm6 (t:Table) (rows:List Row) (ha:t.Attrs.length≤1073741824) (hl:rows.length≤1048576) (hv:∀r∈rows,r.Values.length≤1048576):qt0 t rows=some ⟨t.Name,t.Attrs,rows⟩:=by
 simp only [qt0,qxi _ ha,vu7];rw [q4q rows (fun k out x hx ho=>by
  have hk:=qan hx;have hvx:=hv x (vt9 hx);have r1:qao x.Values.length 32=true:=qkn (by omega) (by omega);have r2:qao (out.length+1) 32=true:=qkn (by omega) (by omega);have hcp:qpa x=some x:=by
   simp only [qpa,qml];rw [if_pos r1];rfl
  simp only [qoc,if_pos (qaj hx),qaa hx,vu7,hcp,r2,if_true,qbj hk (show rows.length≤4611686018427387904 by omega)]) (fun out=>by simp [qoc]) hl]
 rfl
theorem vm7 (t:Table) (rows:List Row) (ha:t.Attrs.length≤1073741824) (hl:rows.length≤1048576) (hv:∀r∈rows,r.Values.length≤1048576):qhx t rows=some ⟨t.Name,t.Attrs,rows⟩:=by
 have r0:qao t.Attrs.length 16=true:=qkn (by omega) (by omega);simp only [qhx,r0,if_true];rw [q4q rows (fun k out x hx ho=>by
  have hk:=qan hx;have hvx:=hv x (vt9 hx);have r1:qao x.Values.length 32=true:=qkn (by omega) (by omega);have r2:qao (out.length+1) 32=true:=qkn (by omega) (by omega);have hcp:qjm x=some x:=by
   simp only [qjm,r1,if_true]
  simp only [qhk,if_pos (qaj hx),qaa hx,vu7,hcp,r2,if_true,qbj hk (show rows.length≤4611686018427387904 by omega)]) (fun out=>by simp [qhk]) hl]
 rfl
theorem q4r {B:List Row×Int→Option (LS (List Row×Int) (List Row))} (rows:List Row) (p:Row→Bool)
  (hB:∀(k:Nat) (out:List Row) x,rows[k]?=some x→out.length≤1048576→B (out,(k:Int))=some (.next (if p x then out++[x] else out,((k+1:Nat):Int))))
  (hE:∀out,B (out,(rows.length:Int))=some (.done out)) (hl:rows.length≤1048576):qag B ([],0)=some (rows.filter p):=by
 have h:=qh1 rows (fun (b:List Row) i=>(b,i)) B (fun b x=>if p x then b++[x] else b) id (fun k b=>b.length≤k) (b0:=[]) (s0:=([],0)) rfl (vuv _)
  (fun k b x hx hk hI=>⟨hB k b x hx (by omega),by split <;> (try simp only [vtx,vwa]) <;> omega⟩) (fun b _=>hE b)
 rw [h];have key:∀(l:List Row) (b:List Row),l.foldl (fun b x=>if p x then b++[x] else b) b=b++l.filter p:=by
  intro l
  induction l with
  | nil=>simp
  | cons x l ih =>
   intro b;rw [vxm,ih];by_cases hp:p x=true <;> simp [hp]
 rw [key];rfl
theorem va0 {t:Table} {l:List Int} (hn:t.Rows.length≤1048576) (hv:∀r∈t.Rows,r.Values.length≤1048576):(q1q t l).length≤1048576∧∀r∈q1q t l,r.Values.length≤1048576 :=
 ⟨vux (vv7 _ _) hn,fun r hr=>hv r (vwi.1 hr).1⟩
theorem vm8 (t:Table) (l:List Int) (ha:t.Attrs.length≤1073741824) (hn:t.Rows.length≤1048576) (hv:∀r∈t.Rows,r.Values.length≤1048576) (hl:l.length≤1073741824) :
  qzj t l=some ⟨t.Name,t.Attrs,q1q t l⟩∧qhy t l=some ⟨t.Name,t.Attrs,q1q t l⟩:=by
 obtain ⟨k1,k2⟩:=va0 (l:=l) hn hv;refine ⟨?_,?_⟩
 ·simp only [qzj];rw [q4r t.Rows (fun r=>decide (r.ID∈l)) (fun k out x hx ho=>by
   have hk:=qan hx;have r2:qao (out.length+1) 32=true:=qkn (by omega) (by omega);simp only [qod,if_pos (qaj hx),qaa hx,vu7,qt9 l x.ID hl,r2,if_true,qbj hk (show t.Rows.length≤4611686018427387904 by omega)];by_cases hm:x.ID∈l <;> simp [hm]) (fun out=>by simp [qod]) hn]
  simp only [vu7];exact (congrArg (Option.bind · _) (vm6 t (q1q t l) ha k1 k2)).trans rfl
 ·simp only [qhy];rw [q4r t.Rows (fun r=>decide (r.ID∈l)) (fun k out x hx ho=>by
   have hk:=qan hx;have r2:qao (out.length+1) 32=true:=qkn (by omega) (by omega);simp only [qhl,if_pos (qaj hx),qaa hx,vu7,q8n l x.ID (by omega),r2,if_true,qbj hk (show t.Rows.length≤4611686018427387904 by omega)];by_cases hm:x.ID∈l <;> simp [hm]) (fun out=>by simp [qhl]) hn]
  simp only [vu7];exact (congrArg (Option.bind · _) (vm7 t (q1q t l) ha k1 k2)).trans rfl
theorem q1r {t:Table} (h:qa4 t=0):qec t.Attrs.length 0 t.Rows=0:=by
 unfold qa4 at h;split at h
 ·cases h
 ·split at h
  ·cases h
  ·split at h
   ·cases h
   ·split at h
    ·cases h
    ·exact h
def sorted (cs:List (List Int)):List (List Int):=(qag qri (cs,0)).getD []
theorem q4s {α:Type} [DecidableEq α] (a b:List α) (h:a.length=b.length) {B:Int→Option (LS Int (Unit ⊕ Bool))}
  (hB:∀(k:Nat) x y,a[k]?=some x→b[k]?=some y→B (k:Int)=if decide (x=y)=true then some (.next ((k+1:Nat):Int)) else some (.done (.inr false)))
  (hE:B (a.length:Int)=some (.done (.inl ()))):qag B 0=some (if decide (a=b) then .inl () else .inr false):=by
 have hl:=qt1 a B (fun k x=>decide (b[k]?=some x)) false
  (fun k x hx hk hp=>by
   simp only [decide_eq_true_eq] at hp;rw [hB k x x hx hp];simp)
  (fun k x hx hp=>by
   have hk:=qan hx;have hb:b[k]?=some (b[k]'(by omega)):=vtp (by omega);rw [hb] at hp;simp only [vvd,decide_eq_false_iff_not] at hp;rw [hB k x _ hx hb,if_neg];simp only [decide_eq_true_eq];exact fun e=>hp e.symm) hE a 0 rfl (vww _)
 simp only [vw7,q4o a b h] at hl;exact hl
theorem va1 (a b:List (List Int)) (ha:a.length≤1073741824) (hl:∀c∈a,c.length≤1073741824):qfm a b=some (decide (a=b)):=by
 simp only [qfm];by_cases h:a.length=b.length
 ·have e:¬(((a.length:Int) != (b.length:Int))=true):=by simp [h]
  rw [if_neg e,q4s a b h (fun k x y hx hy=>by
   have hk:=qan hx;simp only [qg1,if_pos (qaj hx),qaa hx,qaa hy,vu7,vrw x y (hl x (vt9 hx)),qbj hk (show a.length≤4611686018427387904 by omega)]) (by simp [qg1])]
  by_cases hab:a=b <;> simp [hab]
 ·have e:(((a.length:Int) != (b.length:Int))=true):=by rw [bne_iff_ne];omega
  rw [if_pos e];have:a≠b:=fun hh=>h (by rw [hh])
  simp [this]
def hd (l:List (List Int)) (i:Nat):Int:=(l.getD i []).headD 0
theorem q1s:∀(cs:List (List Int)) (all:List Int),qqf all cs=true↔(∀c∈cs,vey c=true)∧cs.flatten.Nodup∧∀x∈cs.flatten,x ∉ all
 | [],all=>by simp [qqf]
 | c :: cs,all=>by
  constructor
  ·intro h;obtain ⟨h1,h2⟩:=qzy h;simp only [qqf,vs2] at h;refine ⟨fun d hd=>?_,h1,h2⟩;rcases vwf.1 hd with e | e
   ·subst e;exact h.1.1
   ·exact ((q1s cs (all++c)).1 h.2).1 d e
  ·rintro ⟨h1,h2,h3⟩;rw [vxl,vy4] at h2;simp only [qqf,vs2,vvr,vs6,decide_eq_false_iff_not];refine ⟨⟨h1 c (by simp),fun x hx=>h3 x (by simp [hx])⟩,(q1s cs (all++c)).2 ⟨fun d hd=>h1 d (by simp [hd]),h2.2.1,fun x hx hm=>?_⟩⟩;rcases vt7.1 hm with e | e
   ·exact h3 x (by rw [vxl];exact vt7.2 (.inr hx)) e
   ·exact h2.2.2 x e x hx rfl
theorem qxj (n:Nat):∀(l:List Row) (a:Int),(∀r∈l,a < r.ID∧r.Values.length=n∧r.Values.all qhm=true)→l.Pairwise (fun r q=>r.ID < q.ID)→qec n a l=0
 | [],_,_,_=>rfl
 | r :: l,a,h,hp=>by
  obtain ⟨h1,h2,h3⟩:=h r (by simp);rw [vxs] at hp;simp only [qec];rw [if_neg (by omega),if_neg (by simp [h2]),if_pos h3];exact qxj n l r.ID (fun q hq=>⟨hp.1 q hq,(h q (by simp [hq])).2⟩) hp.2
theorem q4t {α:Type} {B:List α×Int→Option (LS (List α×Int) (List α))} (N:Nat) (f:Nat→α)
  (hB:∀(k:Nat) (out:List α),k < N→out.length=k→B (out,(k:Int))=some (.next (out++[f k],((k+1:Nat):Int))))
  (hE:∀out:List α,B (out,(N:Int))=some (.done out)):qag B ([],0)=some ((vuf N).map f):=by
 have key:∀(r k:Nat) (out:List α),k+r=N→out.length=k→qag B (out,(k:Int))=some (out++(vwo k r).map f):=by
  intro r
  induction r with
  | zero =>
   intro k out hk ho;have:k=N:=by omega
   subst this;rw [qad (hE out)];simp
  | succ r ih =>
   intro k out hk ho;rw [qaf (hB k out (by omega) ho),ih (k+1) _ (by omega) (by simp [ho])];simp [vzc]
 have h:=key N 0 [] (by omega) rfl;simp only [vw7,vue] at h;rw [h,vug]
theorem vm9 (c:Int):∃v,qdy c=some v∧qhm v=true∧v.Str.length≤2:=by
 unfold qdy;by_cases h0:(vxa c 12 == 0)=true
 ·rw [if_pos h0];exact ⟨_,rfl,by decide,by decide⟩
 rw [if_neg h0];by_cases h1:(vxa c 12 == 1)=true
 ·rw [if_pos h1];exact ⟨_,rfl,by decide,by decide⟩
 rw [if_neg h1];by_cases h2:(vxa c 12 == 2)=true
 ·rw [if_pos h2];exact ⟨_,rfl,by decide,by decide⟩
 rw [if_neg h2];by_cases h3:(vxa c 12 == 3)=true
 ·rw [if_pos h3];exact ⟨_,rfl,by decide,by decide⟩
 rw [if_neg h3];by_cases h4:(vxa c 12 == 4)=true
 ·rw [if_pos h4];exact ⟨_,rfl,by decide,by decide⟩
 rw [if_neg h4];by_cases h5:(vxa c 12 == 5)=true
 ·rw [if_pos h5];exact ⟨_,rfl,by decide,by decide⟩
 rw [if_neg h5];by_cases h6:(vxa c 12 == 6)=true
 ·rw [if_pos h6];exact ⟨_,rfl,by decide,by decide⟩
 rw [if_neg h6];by_cases h7:(vxa c 12 == 7)=true
 ·rw [if_pos h7];exact ⟨_,rfl,by decide,by decide⟩
 rw [if_neg h7];by_cases h8:(vxa c 12 == 8)=true
 ·rw [if_pos h8];exact ⟨_,rfl,by decide,by decide⟩
 rw [if_neg h8];by_cases h9:(vxa c 12 == 9)=true
 ·rw [if_pos h9];exact ⟨_,rfl,by decide,by decide⟩
 rw [if_neg h9];by_cases h10:(vxa c 12 == 10)=true
 ·rw [if_pos h10];exact ⟨_,rfl,by decide,by decide⟩
 rw [if_neg h10];exact ⟨_,rfl,by decide,by decide⟩
def ofV (c:Int):Value:=(qdy c).getD ⟨0,0,[]⟩
theorem q8o (c:Int):qdy c=some (ofV c)∧qhm (ofV c)=true∧(ofV c).Str.length≤2:=by
 obtain ⟨v,h1,h2,h3⟩:=vm9 c;have:ofV c=v:=by unfold ofV;rw [h1];rfl
 rw [this];exact ⟨h1,h2,h3⟩
def vr3 (x:Drossref03_Recipe) (i k:Nat):Value:=ofV (((x.Rows.getD i []).getD k 0))
def qqg (x:Drossref03_Recipe):Nat:=1+x.Gap.toNat % 3
def q8p (x:Drossref03_Recipe) (n i:Nat):Row:=⟨((1+i * qqg x:Nat):Int),(vuf n).map (vr3 x i)⟩
def qnt:List (List UInt8):=[[97],[98],[99],[100],[101],[102],[103],[104]]
def q8q (x:Drossref03_Recipe) (n:Nat):Table:=⟨[114],qnt.take n,(vuf x.Rows.length).map (q8p x n)⟩
theorem va2 (x:Drossref03_Recipe) (n i:Nat) (hn:n≤8) (hi:i < x.Rows.length) (hl:∀r∈x.Rows,r.length≤1048576) :
  qag (qf3 x (n:Int) (i:Int)) ([],0)=some ((vuf n).map (vr3 x i)):=by
 have hx:x.Rows[i]?=some (x.Rows.getD i []):=by simp [vys,vtp hi]
 have hxl:=hl _ (vt9 hx);refine q4t n (vr3 x i) (fun k out hk ho=>?_) (fun out=>by simp [qf3]);have hk':((k:Int) < (n:Int)):=by omega
 have hroom:qao (out.length+1) 32=true:=qkn (by omega) (by omega);have hw:=qj8 (k:=k) (by omega);simp only [qf3,if_pos hk',qaa hx,vu7];by_cases h:k < (x.Rows.getD i []).length
 ·have h':((k:Int) < ((x.Rows.getD i []).length:Int)):=by omega
  have hg:(x.Rows.getD i [])[k]?=some ((x.Rows.getD i []).getD k 0):=by
   generalize x.Rows.getD i []=l at h;simp [vys,vtp h]
  simp only [if_pos h',qaa hg,vu7,(q8o _).1,hroom,if_true,hw];rfl
 ·have h':¬((k:Int) < ((x.Rows.getD i []).length:Int)):=by omega
  have hg:(x.Rows.getD i []).getD k 0=0:=by
   generalize x.Rows.getD i []=l at h;simp [vys,vtq (show l.length≤k by omega)]
  simp only [if_neg h',(q8o _).1,vu7,hroom,if_true,hw];unfold vr3;rw [hg]
theorem vna (x:Drossref03_Recipe) (n:Nat) (hn:n≤8) (hr:x.Rows.length≤8) (hl:∀r∈x.Rows,r.length≤1048576) (hg:0≤x.Gap∧x.Gap≤255):qhs x (n:Int)=some (q8q x n):=by
 have h1:(0:Int)≤(n:Int):=by omega
 have h2:(n:Int)≤8:=by omega
 have hroom:qao ((qnt.take n).length) 16=true:=qkn (by simp;omega) (by omega);have ho:qag (qf4 x (n:Int)) ([],0)=some ((vuf x.Rows.length).map (q8p x n)):=by
  refine q4t x.Rows.length (q8p x n) (fun i out hi ho=>?_) (fun out=>by simp [qf4]);have hi':((i:Int) < (x.Rows.length:Int)):=by omega
  have hroom:qao (out.length+1) 32=true:=qkn (by omega) (by omega);have hm:vxa x.Gap 3=((x.Gap.toNat % 3:Nat):Int):=by
   rw [Int.tmod_eq_emod_of_nonneg hg.1];omega
  have e1:vxc.wrap (vxa x.Gap 3)=((x.Gap.toNat % 3:Nat):Int):=by rw [hm,qax (by omega) (by omega)]
  have e2:vxc.wrap (1+vxc.wrap (vxa x.Gap 3))=((qqg x:Nat):Int):=by
   rw [e1,qax (by omega) (by omega)];unfold qqg;omega
  have hs:qqg x≤3:=by unfold qqg;omega
  have hmul:i * qqg x≤8 * 3:=vzk (by omega) hs;have e3:vxc.wrap ((i:Int) * ((qqg x:Nat):Int))=((i * qqg x:Nat):Int):=by
   rw [←Int.natCast_mul,qax (by omega) (by omega)]
  have e4:vxc.wrap (1+vxc.wrap ((i:Int) * vxc.wrap (1+vxc.wrap (vxa x.Gap 3))))=((1+i * qqg x:Nat):Int):=by
   rw [e2,e3,qax (by omega) (by omega)];omega
  simp only [qf4,if_pos hi',va2 x n i hn hi hl,vu7,hroom,if_true,e4,qj8 (k:=i) (by omega)];rfl
 simp only [qhs,if_pos h1,if_pos h2,vu7,vxb];have hroom':qao ((List.take n [[97],[98],[99],[100],[101],[102],[103],[104]]:List (List UInt8)).length) 16=true:=hroom;rw [if_pos hroom',ho];rfl
theorem ve0 {n:Nat} (h:n≤8):qzp (qnt.take n)=true:=by
 have:n=0∨n=1∨n=2∨n=3∨n=4∨n=5∨n=6∨n=7∨n=8:=by omega
 rcases this with rfl | rfl | rfl | rfl | rfl | rfl | rfl | rfl | rfl <;> decide
theorem va3 (x:Drossref03_Recipe) (n:Nat) (hn:n≤8) (hr:x.Rows.length≤8):qa4 (q8q x n)=0:=by
 have h1:¬(qvg [114]=false):=by decide
 have hlen:(qnt.take n).length=n:=by simp [qnt];omega
 have h2:¬(qnt.take n).length > 16:=by omega
 have h3:¬((vuf x.Rows.length).map (q8p x n)).length > 1000:=by simp;omega
 have h4:¬(qzp (qnt.take n)=false):=by rw [ve0 hn];simp
 have hc:qec (qnt.take n).length 0 ((vuf x.Rows.length).map (q8p x n))=0:=by
  refine qxj _ _ _ (fun r hr=>?_) ?_
  ·obtain ⟨i,hi,rfl⟩:=vwj.1 hr;refine ⟨by simp only [q8p];omega,by simp only [q8p,vtz,vv9];omega,?_⟩;rw [vvr];intro v hv;obtain ⟨k,hk,rfl⟩:=vwj.1 hv;exact (q8o _).2.1
  ·rw [vzb];refine vyn.imp ?_ vxu;intro a b hab;simp only [q8p];have hs:1≤qqg x:=by unfold qqg;omega
   have:(a+1) * qqg x≤b * qqg x:=vu2 _ hab;rw [Nat.add_mul,Nat.one_mul] at this;omega
 show (if qvg [114]=false then (1:Int) else if (qnt.take n).length > 16 then 3 else if ((vuf x.Rows.length).map (q8p x n)).length > 1000 then 3 else if qzp (qnt.take n)=false then 1 else qec (qnt.take n).length 0 ((vuf x.Rows.length).map (q8p x n)))=0;rw [if_neg h1,if_neg h2,if_neg h3,if_neg h4];exact hc
theorem vr4 {n:Int} (h:okI .u8 n):0≤n∧n≤255:=by
 have h':(decide (vyj .u8≤n) && decide (n≤vyi .u8))=true:=h;simp only [vs2,decide_eq_true_eq] at h';have e1:vyj .u8=0:=by decide
 have e2:vyi .u8=255:=by decide
 rw [e1,e2] at h';exact h'
theorem q4u (a b:Row):∀l:List Int,vm4 a b l=0↔∀i∈l,qzo (qff a i.toNat) (qff b i.toNat)=0
 | []=>by simp [vm4]
 | i :: l=>by
  simp only [vm4,List.forall_mem_cons];by_cases h:qzo (qff a i.toNat) (qff b i.toNat)=0
  ·rw [if_neg (by omega),q4u a b l];exact ⟨fun k=>⟨h,k⟩,fun k=>k.2⟩
  ·rw [if_pos (by omega)];exact ⟨fun k=>absurd k h,fun k=>absurd k.1 h⟩
structure Good (t:Table):Prop where
 ok:TableOk t
 err:qa4 t=0
 attrs:t.Attrs.length≤5
 rows:t.Rows.length≤8
theorem va4 (x:Drossref03_Recipe) (n:Nat) (hn:n≤8) (hr:x.Rows.length≤8):TableOk (q8q x n):=by
 refine ⟨?_,?_,?_,?_⟩
 ·simp only [q8q,vt3];omega
 ·simp only [q8q,vtz,vv9];omega
 ·intro r h;obtain ⟨i,_,rfl⟩:=vwj.1 h;simp only [q8p,vtz,vv9];omega
 ·intro r h v hv;obtain ⟨i,_,rfl⟩:=vwj.1 h;obtain ⟨k,_,rfl⟩:=vwj.1 hv;have:=(q8o ((x.Rows.getD i []).getD k 0)).2.2;unfold vr3;omega
theorem q7a (x:Drossref03_Recipe) (hr:x.Rows.length≤8):Good (q8q x (x.Attrs.toNat % 6)):=by
 refine ⟨va4 _ _ (by omega) hr,va3 _ _ (by omega) hr,?_,?_⟩
 ·simp only [q8q,vt3];omega
 ·simp only [q8q,vtz,vv9];omega
theorem q8r {a:Nat} (ha:a < 4294967296) {i:Nat} (hi:i≤32):vbq (a:Int) (i:Int)=a.testBit i:=by
 unfold vbq;rw [vxb];exact vmx ha hi
def voy (n:Nat) (s:Int):List Int:=((vuf n).map fun (k:Nat)=>(k:Int)).filter fun a=>vbq s a
theorem vil {n:Nat} {s i:Int} (h:i∈voy n s):0≤i∧i < (n:Int):=by
 unfold voy at h;obtain ⟨h1,_⟩:=vwi.1 h;obtain ⟨k,hk,rfl⟩:=vwj.1 h1;have:=vwl.1 hk;omega
theorem vim {r:Row} {i:Int} (h0:0≤i) (h1:i < (r.Values.length:Int)):idx r.Values i=some (qff r i.toNat) :=
 vik (a:=r) (l:=[i]) (fun j hj=>by rcases vwm.1 hj with rfl;exact ⟨h0,h1⟩) (by simp)
theorem qzz {α β:Type} (p:α→Bool) (f:α→β):∀(l:List α) (o:List β),l.foldl (fun o x=>if p x then o++[f x] else o) o=o++(l.filter p).map f
 | [],o=>by simp
 | x :: l,o=>by
  rw [vxm,qzz p f l,vyr];by_cases h:p x=true
  ·rw [if_pos h,if_pos h];simp
  ·rw [if_neg h,if_neg h]
theorem ve1 (s a:Int):qio s a=some (decide (0≤a) && (decide (a < 32) && vbq s a)):=by
 unfold qio;by_cases h0:a≥0
 ·rw [if_pos h0,decide_eq_true (show 0≤a from h0)];by_cases h1:a < 32
  ·rw [if_pos h1,decide_eq_true h1,if_neg (by omega)];rfl
  ·rw [if_neg h1,decide_eq_false h1];rfl
 ·rw [if_neg h0,decide_eq_false (show ¬0≤a from h0)];rfl
theorem q8s (a b:Row) (n:Nat) (s:Int):vm4 a b (voy n s)=0↔∀i:Int,0≤i→i < (n:Int)→vbq s i=true→qzo (qff a i.toNat) (qff b i.toNat)=0:=by
 rw [q4u];constructor
 ·intro h i h0 h1 hb;refine h i ?_;unfold voy;rw [vwi,vwj];exact ⟨⟨i.toNat,by rw [vwl];omega,by omega⟩,hb⟩
 ·intro h i hi;obtain ⟨h0,h1⟩:=vil hi;exact h i h0 h1 (vwi.1 hi).2
def q4v (r:Row) (s:Int):List Value:=((vuf r.Values.length).filter fun (k:Nat)=>vbq s k).map (qff r)
theorem qxk (r:Row) (s:Int) (h:r.Values.length≤16):qex r s=some (q4v r s):=by
 have hl:=qh1 (vuf r.Values.length) (fun (o:List Value) i=>(o,i)) (qel r s) (fun o (k:Nat)=>if vbq s k then o++[qff r k] else o) id (fun k o=>o.length≤k) (b0:=[]) (s0:=([],0)) rfl (vuv 0)
  (fun k o z hz hk hI=>by
   have hzk:z=k:=by
    have:=(vtr.1 hz).2;simpa using this.symm
   subst hzk;rw [vv9] at hk;refine ⟨?_,by cases vbq s z <;> simp <;> omega⟩;have hx:=vim (r:=r) (i:=(z:Int)) (by omega) (by omega);rw [vxb] at hx;have hh:(decide (0≤(z:Int)) && (decide ((z:Int) < 32) && vbq s z))=vbq s z:=by
    rw [decide_eq_true (show 0≤(z:Int) by omega),decide_eq_true (show (z:Int) < 32 by omega)];rfl
   simp only [qel,if_pos (show (z:Int) < (r.Values.length:Int) by omega),ve1,hh,hx,vu7,qkn (show o.length+1≤1073741824 by omega) (show 32≤65536 by omega),if_true,wqn z];cases vbq s z <;> rfl)
  (fun o _=>by rw [vv9];simp [qel])
 simp only [qex,hl,id,vu7];rw [qzz];rfl
theorem qz0 {α β:Type} (f g:α→β):∀l:List α,l.map f=l.map g↔∀x∈l,f x=g x
 | []=>by simp
 | x :: l=>by simp [qz0 f g l]
theorem va5 {n:Nat} (a b:Row) (s:Int) (ha:a.Values.length=n) (hb:b.Values.length=n) (hn:n≤16) (hs:vj3 a):qef a b s=some (decide (vm4 a b (voy n s)=0)):=by
 have h1:∀v∈q4v a s,v.Str.length≤1073741824:=by
  intro v hv;obtain ⟨k,hk,rfl⟩:=vwj.1 hv;have hk':=vwl.1 (vwi.1 hk).1;have:qff a k=a.Values[k]:=by simp [qff,vys,vtp hk']
  rw [this];exact hs _ (vv4 hk')
 have hlen:(q4v a s).length≤1073741824:=by
  unfold q4v;rw [vtz];have:=vv7 (fun (k:Nat)=>vbq s k) (vuf a.Values.length);rw [vv9] at this;omega
 simp only [qef,qxk a s (by omega),qxk b s (by omega),vu7,vms _ _ hlen h1];congr 1;rw [vw3,decide_eq_true_eq,decide_eq_true_eq];unfold q4v;rw [ha,hb,qz0,q8s];constructor
 ·intro h i h0 h2 hi;rw [qrm];obtain ⟨k,rfl⟩:=vvp h0;rw [vxb];exact h k (vwi.2 ⟨by rw [vwl];omega,hi⟩)
 ·intro h k hk;obtain ⟨h2,h3⟩:=vwi.1 hk;have:=h (k:Int) (by omega) (by have:=vwl.1 h2;omega) h3
  rwa [vxb,qrm] at this
def qkr (p:Row→Row→Bool) (rows:List Row) (i:Nat) (a:Row):Bool:=(rows.take i).all fun b=>p a b
def vr5 (n:Nat) (a b:Row) (s:Nat):Prop:=∀k,k < n→s.testBit k=true→qzo (qff a k) (qff b k)=0
theorem ve2 {n:Nat} (hn:n≤16) (a b:Row) {s:Nat} (hs:s < 4294967296):vm4 a b (voy n (s:Int))=0↔vr5 n a b s:=by
 rw [q8s];constructor
 ·intro h k hk hb;have:=h (k:Int) (by omega) (by omega) (by rw [q8r hs (by omega)];exact hb)
  rwa [vxb] at this
 ·intro h i h0 h1 hb;obtain ⟨k,rfl⟩:=vvp h0;rw [q8r hs (by omega)] at hb;rw [vxb];exact h k (by omega) hb
structure StOk (t:Table) (s:Nat) (A B:Int):Prop where
 hs:s < 2 ^ t.Attrs.length
 a0:0≤A
 a1:A < (t.Attrs.length:Int)
 b0:-1≤B
 b1:B < (t.Attrs.length:Int)
theorem vr6 {n s s':Nat} (hs:s < 2 ^ n) (h:∀k,s'.testBit k=true→s.testBit k=true):s' < 2 ^ n :=
 vmy fun i hi=>by
  cases hb:s'.testBit i with
  | false=>rfl
  | true=>rw [←h i hb];exact vr0 hs hi
theorem StOk.sub {t:Table} {s s':Nat} {A B:Int} (h:StOk t s A B) (hs:∀k,s'.testBit k=true→s.testBit k=true):StOk t s' A B:=⟨vr6 h.hs hs,h.a0,h.a1,h.b0,h.b1⟩
end Go.Proofs.YtmlegeeinnkhkaaGreat
namespace Go.Ab
open Go
theorem qlc {α:Type} (B:List α×Int→Option (LS (List α×Int) (List α))) (f:Nat→List α) (N M c:Nat)
  (h:∀(k:Nat) out,k < N→out.length+c≤M→B (out,(k:Int))=some (.next (out++f k,((k+1:Nat):Int)))) (hf:∀k,k < N→(f k).length≤c)
  (he:∀out,B (out,(N:Int))=some (.done out)):∀(d k:Nat) (out:List α),k+d=N→out.length+d * c≤M→qag B (out,(k:Int))=some (out++(vwo k d).flatMap f):=by
 intro d
 induction d with
 | zero =>
  intro k out hk _;obtain rfl:k=N:=by omega
  rw [qad (he out)];simp
 | succ d ih =>
  intro k out hk hl;have hm:(d+1) * c=d * c+c:=vzo d c;have hc:=hf k (by omega);rw [qaf (h k out (by omega) (by omega)),ih (k+1) (out++f k) (by omega) (by rw [vtx];omega)];rw [vzc,vvw,vtc]
def qjt {α:Type} (n:Nat) (p:Nat→Nat→Bool) (mk:Nat→Nat→α):List α :=
 (vwo 0 n).flatMap fun i=>(vwo (i+1) (n - (i+1))).flatMap fun k=>if p i k then [mk i k] else []
theorem qua {α β:Type} (n:Nat) (p:Nat→Nat→Bool) (mk:Nat→Nat→α) (g:α→β):(qjt n p mk).map g=qjt n p fun i k=>g (mk i k):=by
 unfold qjt;rw [vyx];congr 1;funext i;rw [vyx];congr 1;funext k;split <;> rfl
theorem qj2 {α β:Type} (f:α→List β) (c:Nat):∀l:List α,(∀x∈l,(f x).length≤c)→(l.flatMap f).length≤l.length * c
 | [],_=>by simp
 | x :: l,h=>by
  have h1:=h x (by simp);have h2:=qj2 f c l fun y hy=>h y (by simp [hy])
  rw [vvw,vtx,vv5,vzo];omega
theorem ve3 {α:Type} (b:Bool) (x:α):(if b then [x] else []).length≤1:=by cases b <;> simp
theorem qu6 {α:Type} (n i:Nat) (p:Nat→Nat→Bool) (mk:Nat→Nat→α):((vwo (i+1) (n - (i+1))).flatMap fun k=>if p i k then [mk i k] else []).length≤n:=by
 have:=qj2 (fun k=>if p i k then [mk i k] else []) 1 (vwo (i+1) (n - (i+1))) fun k _=>ve3 _ _
 rw [vyv] at this;omega
theorem qub {α:Type} (n:Nat) (p:Nat→Nat→Bool) (mk:Nat→Nat→α):(qjt n p mk).length≤n * n:=by
 have:=qj2 (fun i=>(vwo (i+1) (n - (i+1))).flatMap fun k=>if p i k then [mk i k] else []) n (vwo 0 n) fun i _=>qu6 n i p mk
 rwa [vyv] at this
theorem qi8 {α:Type} {n:Nat} {p:Nat→Nat→Bool} {mk:Nat→Nat→α} {x:α}:x∈qjt n p mk↔∃i k,i < k∧k < n∧p i k=true∧x=mk i k:=by
 unfold qjt;simp only [vt8,vy3];constructor
 ·rintro ⟨i,hi,k,hk,hx⟩;split at hx
  ·rename_i hp;simp only [vwm] at hx;exact ⟨i,k,by omega,by omega,hp,hx⟩
  ·simp at hx
 ·rintro ⟨i,k,h1,h2,hp,rfl⟩;exact ⟨i,by omega,k,by omega,by simp [hp]⟩
theorem qke {α β:Type} {f g:α→List β}:∀{l:List α},(∀x∈l,f x=g x)→l.flatMap f=l.flatMap g
 | [],_=>rfl
 | x :: l,h=>by rw [vvw,vvw,h x (by simp),qke fun y hy=>h y (by simp [hy])]
theorem qu7 {α:Type} {n:Nat} {p q:Nat→Nat→Bool} {mk mk':Nat→Nat→α} (h:∀i k,i < k→k < n→p i k=q i k∧mk i k=mk' i k):qjt n p mk=qjt n q mk':=by
 unfold qjt;refine qke fun i hi=>qke fun k hk=>?_
 simp only [vy3] at hi hk;obtain ⟨h1,h2⟩:=h i k (by omega) (by omega);rw [h1,h2]
end Go.Ab
namespace Go.Proofs.YtmlegeeinnkhkaaGreat
open Go Go.Ab
structure LnkT (t:Table) (l:Linkage):Prop where
 err:qa4 t=0
 ok:TableOk t
 rows:t.Rows.length≤300
 attrs:t.Attrs.length≤16
 rules:l.Rules.length≤1000000
 rule:∀r∈l.Rules,r.length≤1000000
 nblock:l.Block.length≤1000000
 nsurv:l.Survive.length≤1000000
 block:∀k∈l.Block,0≤k∧k < (t.Attrs.length:Int)
def qmr (l:Linkage) (a b:Row):Bool:=l.Block.isEmpty || l.Block.any fun k=>decide (qff a k.toNat=qff b k.toNat)
def qs6 (a b:Row) (r:List Similar):Bool:=r.all fun c=>(qzt a b c).1
def qnu (l:Linkage) (a b:Row):Int:=q61 (l.Rules.findIdx? (qs6 a b))
def qoi (l:Linkage) (a b:Row):Bool:=qmr l a b && decide (qnu l a b≥0)
theorem vnb (l:Linkage) (h1:l.Rules.length≤1000000) (h2:∀r∈l.Rules,r.length≤1000000) (a b:Row):qjh l a b=some (qnu l a b):=by
 have hin:∀x∈l.Rules,qe3 x a b=some (qs6 a b x):=by
  intro x hx;have hc:qbh x (fun y=>qes y a b)=some (x.any fun c=>!(qzt a b c).1):=qt7 x _ (fun c=>!(qzt a b c).1) (fun c _=>by
   simp only [qes,vev,vu7]) (by have:=h2 x hx;omega)
  simp only [qe3,hc,vu7,qs6];congr 1;rw [vw3];simp
 simp only [qjh,qym l.Rules (fun y=>qe3 y a b) (qs6 a b) hin (by omega),vu7,qnu]
theorem qs7 (l:Linkage) (a b:Row) (i:Nat) {r:List Similar} (hr:l.Rules[i]?=some r) (hl:r.length≤1000000):qag (qdp a b l (i:Int)) (true,0)=some (qs6 a b r):=by
 have h:=qh1 r (fun (q:Bool) (k:Int)=>(q,k)) (qdp a b l (i:Int)) (fun q c=>q && (qzt a b c).1) id (fun _ _=>True) (b0:=true) (s0:=(true,0)) rfl trivial
  (fun k q x hx hk _=>by
   refine ⟨?_,trivial⟩;simp only [qdp,qaa hr,vu7,if_pos (qaj hx),qaa hx,vm1,wqn k];cases q <;> simp)
  (fun q _=>by simp [qdp,qaa hr])
 rw [h];simp only [id,qs6];congr 1;have key:∀(l:List Similar) (q:Bool),l.foldl (fun q c=>q && (qzt a b c).1) q=(q && l.all fun c=>(qzt a b c).1):=by
  intro l
  induction l with
  | nil=>intro q;simp
  | cons x l ih=>intro q;simp only [vxm,List.all_cons,ih,Bool.and_assoc]
 rw [key];simp
theorem vnc (l:Linkage) (h1:l.Rules.length≤1000000) (h2:∀r∈l.Rules,r.length≤1000000) (a b:Row):qhc a b l=some (qnu l a b):=by
 have h:=qi7 l.Rules (qdq a b l) (qs6 a b)
  (fun k x hx hk hp=>by
   simp only [qdq,if_pos (qaj hx),qs7 l a b k hx (h2 x (vt9 hx)),vu7,hp,vs4,if_false,wqn k])
  (fun k x hx hp=>by
   simp only [qdq,if_pos (qaj hx),qs7 l a b k hx (h2 x (vt9 hx)),vu7,hp,if_true])
  (by simp [qdq])
 simp only [qhc,h,vu7,qnu];cases l.Rules.findIdx? (qs6 a b) <;> rfl
theorem qvq {t:Table} (h:qa4 t=0) {r:Row} (hr:r∈t.Rows):r.Values.length=t.Attrs.length:=(qk6 h).1 r hr
theorem q8t {t:Table} (h:qa4 t=0) {r:Row} (hr:r∈t.Rows) {k:Int} (hk:0≤k∧k < (t.Attrs.length:Int)):idx r.Values k=some (qff r k.toNat):=by
 have hl:=qvq h hr;have e:k=((k.toNat:Nat):Int):=by omega
 have hlt:k.toNat < r.Values.length:=by omega
 conv=>lhs;rw [e]
 rw [q6c,qff,vvx,vtp hlt];rfl
theorem vj4 {t:Table} {l:Linkage} (T:LnkT t l) {a b:Row} (ha:a∈t.Rows) (hb:b∈t.Rows):qfj l a b=some (qmr l a b):=by
 unfold qmr;by_cases h0:l.Block=[]
 ·simp [qfj,h0]
 ·have c:((l.Block.length:Int) == 0)=false:=by
   rw [beq_eq_false_iff_ne];intro h;exact h0 (vv6.1 (by omega))
  have e:l.Block.isEmpty=false:=by simpa using h0
  simp only [qfj,c,vs4,if_false,e,Bool.false_or];have:=T.nblock;rw [qj1 l.Block _ (fun k=>decide (qff a k.toNat=qff b k.toNat)) (fun k hk=>by
   simp only [qfz,q8t T.err ha (T.block k hk),q8t T.err hb (T.block k hk),vu7,veu]) (by omega)]
  rfl
theorem ve4 {t:Table} {l:Linkage} (T:LnkT t l) {a b:Row} (ha:a∈t.Rows) (hb:b∈t.Rows) {k:Nat} (hk:k < t.Attrs.length):qef a b ((2 ^ k:Nat):Int)=some (decide (qff a k=qff b k)):=by
 have hs:vj3 a:=fun v hv=>T.ok.short a ha v hv
 have hk16:k < 16:=vuy hk T.attrs;rw [va5 a b _ (qvq T.err ha) (qvq T.err hb) T.attrs hs];congr 1;have h2:2 ^ k < 4294967296:=vuy (vzn (by omega) hk16) (by decide);rw [vw3,decide_eq_true_eq,decide_eq_true_eq,ve2 T.attrs a b h2];constructor
 ·intro h;exact (qrm _ _).1 (h k hk (by simp))
 ·intro h j hj hb;rw [Nat.testBit_two_pow,decide_eq_true_eq] at hb;subst hb;exact (qrm _ _).2 h
theorem vr7 {t:Table} {l:Linkage} (T:LnkT t l) {a b:Row} (ha:a∈t.Rows) (hb:b∈t.Rows):qdr a b l=some (qmr l a b):=by
 unfold qmr;by_cases h0:l.Block=[]
 ·simp [qdr,h0]
 ·have c:((l.Block.length:Int) == 0)=false:=by
   rw [beq_eq_false_iff_ne];intro h;exact h0 (vv6.1 (by omega))
  have e:l.Block.isEmpty=false:=by simpa using h0
  have hnb:=T.nblock;have hag:∀k∈l.Block,qef a b (vxd.wrap (1 * 2 ^ (min k.toNat 32)))=some (decide (qff a k.toNat=qff b k.toNat)):=by
   intro k hk;obtain ⟨h1,h2⟩:=T.block k hk;have hk':k.toNat < t.Attrs.length:=by omega
   have h16:k.toNat < 16:=vuy hk' T.attrs;have hlt:2 ^ k.toNat < 4294967296:=vuy (vzn (by omega) h16) (by decide);have hw:vxd.wrap (1 * 2 ^ (min k.toNat 32))=((2 ^ k.toNat:Nat):Int):=vib (by omega);rw [hw];exact ve4 T ha hb hk'
  have h:=qlo l.Block (qcj a b l) (fun k=>!decide (qff a k.toNat=qff b k.toNat)) true
   (fun k x hx hk hp=>by
    have hm:=vt9 hx;have hn:¬x < 0:=by have:=T.block x hm;omega
    have hp':decide (qff a x.toNat=qff b x.toNat)=false:=by simpa using hp
    simp only [qcj,if_pos (qaj hx),qaa hx,vu7,if_neg hn,hag x hm,hp',vs4,if_false,wqn k])
   (fun k x hx hp=>by
    have hm:=vt9 hx;have hn:¬x < 0:=by have:=T.block x hm;omega
    have hp':decide (qff a x.toNat=qff b x.toNat)=true:=by simpa using hp
    simp only [qcj,if_pos (qaj hx),qaa hx,vu7,if_neg hn,hag x hm,hp',if_true])
   (by simp [qcj])
  simp only [qdr,c,vs4,if_false,h,vu7,e,Bool.false_or];have hall:(l.Block.all fun k=>!decide (qff a k.toNat=qff b k.toNat))=!(l.Block.any fun k=>decide (qff a k.toNat=qff b k.toNat)):=by
   rw [vw3];simp
  rw [hall];rcases vw2 (l.Block.any fun k=>decide (qff a k.toNat=qff b k.toNat)) with q | q <;> simp only [q] <;> rfl
theorem vnd {t:Table} {l:Linkage} (T:LnkT t l) {a b:Row} (ha:a∈t.Rows) (hb:b∈t.Rows) (hne:a.ID≠b.ID):qfs a b l=some (qoi l a b):=by
 have c:(a.ID != b.ID)=true:=by simp [hne]
 simp only [qfs,c,if_true,vr7 T ha hb,vnc l T.rules T.rule,vu7,qoi];cases qmr l a b <;> simp
def qi9 (t:Table) (i:Nat):Row:=t.Rows.getD i ⟨0,[]⟩
theorem qh9 {t:Table} {i:Nat} (h:i < t.Rows.length):t.Rows[i]?=some (qi9 t i):=by simp [qi9,vys,vtp h]
theorem qms {t:Table} {i:Nat} (h:i < t.Rows.length):qi9 t i∈t.Rows:=vt9 (qh9 h)
theorem vr8 {t:Table} (he:qa4 t=0) {i k:Nat} (hi:i < t.Rows.length) (hk:k < t.Rows.length) (h:i≠k):(qi9 t i).ID≠(qi9 t k).ID:=by
 intro e;have hn:=(qk6 he).2;have g1:(ids t)[i]?=some (qi9 t i).ID:=by simp [ids,qh9 hi]
 have g2:(ids t)[k]?=some (qi9 t k).ID:=by simp [ids,qh9 hk]
 have l1:=qan g1;rw [e,←g2] at g1;exact h ((vyu l1 hn).1 g1)
def mT (t:Table) (l:Linkage) (i k:Nat):Bool:=qoi l (qi9 t i) (qi9 t k)
theorem qxl {n:Nat} (h:n≤1000000):qao n 16=true:=by
 unfold qao;simp only [decide_eq_true_eq];omega
theorem q4w {t:Table} {l:Linkage} (T:LnkT t l):qe4 t l=some (qjt t.Rows.length (mT t l) fun i k=>Arr2_int.mk (i:Int) (k:Int)):=by
 have hn:=T.rows;have qyf:∀(i:Nat),i < t.Rows.length→∀out:List Arr2_int,out.length≤500000→qag (qcx t l (i:Int) (qi9 t i)) (out,((i+1:Nat):Int))=some (out++(vwo (i+1) (t.Rows.length - (i+1))).flatMap fun k=>if mT t l i k then [Arr2_int.mk (i:Int) (k:Int)] else []):=by
  intro i hi out hout;refine qlc (qcx t l (i:Int) (qi9 t i)) (fun k=>if mT t l i k then [Arr2_int.mk (i:Int) (k:Int)] else []) t.Rows.length 600000 1 ?_ (fun k _=>ve3 _ _) ?_ _ _ out (by omega) (by omega)
  ·intro k out hk hl;have c:((k:Int) < (t.Rows.length:Int)):=by omega
   have hb:=qh9 hk;have hr:qao (out.length+1) 16=true:=qxl (by omega);have w:=wqn k;have hm:mT t l i k=(qmr l (qi9 t i) (qi9 t k) && decide (qnu l (qi9 t i) (qi9 t k)≥0)):=rfl;rcases vw2 (qmr l (qi9 t i) (qi9 t k)) with q | q
   ·simp only [qcx,if_pos c,qaa hb,vu7,vj4 T (qms hi) (qms hk),q,if_true,vnb l T.rules T.rule,hm,vyf,w,hr];by_cases f:qnu l (qi9 t i) (qi9 t k)≥0 <;> simp [f]
   ·simp only [qcx,if_pos c,qaa hb,vu7,vj4 T (qms hi) (qms hk),q,vs4,if_false,hm,vyd,w];simp
  ·intro out;have c:¬((t.Rows.length:Int) < (t.Rows.length:Int)):=by omega
   simp only [qcx,if_neg c]
 have outer:=qlc (qf0 t l) (fun i=>(vwo (i+1) (t.Rows.length - (i+1))).flatMap fun k=>if mT t l i k then [Arr2_int.mk (i:Int) (k:Int)] else []) t.Rows.length 200000 300 (by
   intro i out hi hl;have c:((i:Int) < (t.Rows.length:Int)):=by omega
   have w:=wqn i;simp only [qf0,if_pos c,qaa (qh9 hi),vu7,w,qyf i hi out (by omega)]) (fun i _=>by
   have:=qu6 t.Rows.length i (mT t l) fun i k=>Arr2_int.mk (i:Int) (k:Int)
   omega) (by
   intro out;have c:¬((t.Rows.length:Int) < (t.Rows.length:Int)):=by omega
   simp only [qf0,if_neg c]) t.Rows.length 0 [] (by omega) (by simp;omega)
 simp only [qe4];simp only [vw7,vue] at outer;rw [outer];rfl
def vj5 (t:Table) (l:Linkage):Int :=
 if qa4 t≠0 then qa4 t else if q4m (t.Attrs.length:Int) l≠0 then q4m (t.Attrs.length:Int) l else if t.Rows.length > 200 then 3 else 0
theorem q8u (t:Table) (l:Linkage) (H:TableOk t) (hr:∀r∈l.Rules,r.length≤1000000) (hR:l.Rules.length≤1000000) (hb:l.Block.length≤1000000) (hs:l.Survive.length≤1000000):qhf t l=some (vj5 t l):=by
 unfold vj5;simp only [qhf,qt5 t H,vu7,vr1 _ l hr hR hb hs,bne_iff_ne];by_cases h1:qa4 t=0
 ·by_cases h2:q4m (t.Attrs.length:Int) l=0
  ·by_cases h3:(t.Rows.length:Int) > 200
   ·simp [h1,h2,h3,show t.Rows.length > 200 by omega]
   ·simp [h1,h2,h3,show ¬t.Rows.length > 200 by omega]
  ·simp [h1,h2]
 ·simp [h1]
def qvr (t:Table) (l:Linkage):List Arr2_int64:=qjt t.Rows.length (mT t l) fun i k=>Arr2_int64.mk (qi9 t i).ID (qi9 t k).ID
theorem q1t {α β:Type} (B:List β×Int→Option (LS (List β×Int) (List β))) (l:List α) (g:α→β) (M:Nat) (hM:l.length≤M)
  (h:∀(k:Nat) out x,l[k]?=some x→out.length+1≤M→B (out,(k:Int))=some (.next (out++[g x],((k+1:Nat):Int)))) (he:∀out,B (out,(l.length:Int))=some (.done out)):qag B ([],0)=some (l.map g):=by
 have h':=qh1 l (fun (b:List β) (k:Int)=>(b,k)) B (fun b x=>b++[g x]) id (fun k b=>b.length=k) (b0:=[]) (s0:=([],0)) rfl rfl
  (fun k b x hx hk hb=>⟨h k b x hx (by omega),by rw [vtx,hb];rfl⟩) (fun b _=>he b)
 rw [h'];congr 1;have key:∀(l:List α) (b:List β),l.foldl (fun b x=>b++[g x]) b=b++l.map g:=by
  intro l
  induction l with
  | nil=>intro b;simp
  | cons x l ih=>intro b;simp [vxm,ih]
 rw [id,key];simp
theorem ve5 {t:Table} {l:Linkage} (T:LnkT t l) (h0:vj5 t l=0):qho t l=some (qvr t l,0):=by
 have hn:=T.rows;have hL:qag (qf1 t (qjt t.Rows.length (mT t l) fun i k=>Arr2_int.mk (i:Int) (k:Int))) ([],0)=some (qvr t l):=by
  have hlen:=qub t.Rows.length (mT t l) fun i k=>Arr2_int.mk (i:Int) (k:Int)
  have h2:t.Rows.length * t.Rows.length≤300 * 300:=vzk hn hn;rw [q1t _ (qjt t.Rows.length (mT t l) fun i k=>Arr2_int.mk (i:Int) (k:Int)) (fun p=>Arr2_int64.mk (qi9 t p.x0.toNat).ID (qi9 t p.x1.toNat).ID) 100000 (by omega) (by
   intro k out x hx hl;obtain ⟨i,j,h1,h2,_,rfl⟩:=qi8.1 (vt9 hx);have hlt:=qan hx;have hr:qao (out.length+1) 16=true:=qxl (by omega);simp only [qf1,if_pos (qaj hx),qaa hx,vu7,qaa (qh9 (show i < t.Rows.length by omega)),qaa (qh9 h2),hr,if_true,wqn k,vxb]) (by
   intro out;simp only [qf1,if_neg (vyh _)])]
  rw [qua];rfl
 simp only [qho,q8u t l T.ok T.rule T.rules T.nblock T.nsurv,h0,vu7,bne_self_eq_false,vs4,if_false,q4w T,hL]
theorem q4x (a b:List Arr2_int64) (ha:a.length≤1000000):qc2 a b=some (decide (a=b)):=by
 simp only [qc2];by_cases h:a.length=b.length
 ·have e:¬(((a.length:Int) != (b.length:Int))=true):=by simp [h]
  rw [if_neg e,q4s a b h (fun k x y hx hy=>by
   have hk:=qan hx;have hd:((x.x0 == y.x0) && (x.x1 == y.x1))=decide (x=y):=by
    obtain ⟨a0,a1⟩:=x;obtain ⟨b0,b1⟩:=y;rw [vw3];simp
   simp only [qen,if_pos (qaj hx),qaa hx,qaa hy,vu7,hd,qbj hk (show a.length≤4611686018427387904 by omega)]) (by simp [qen])]
  by_cases hab:a=b <;> simp [hab]
 ·have e:(((a.length:Int) != (b.length:Int))=true):=by rw [bne_iff_ne];omega
  rw [if_pos e];have:a≠b:=fun hh=>h (by rw [hh])
  simp [this]
def qja (W:Nat→Nat→Int) (n:Nat):List (List Int):=(vuf n).map fun i=>(vuf n).map fun k=>W i k
theorem qs8 (W:Nat→Nat→Int) (n:Nat):(qja W n).length=n:=by simp [qja]
theorem qj3 {α:Type} (f:Nat→α) {n v:Nat} (hv:v < n):((vuf n).map f)[v]?=some (f v):=by simp [vxn hv]
theorem vin (w:Int) (b:Bool) (hw:-1000≤w∧w≤1000):qdw w b=some (qdc w b):=by
 have h:vxc.wrap (0 - w)=- w:=by rw [qax (by omega) (by omega)];omega
 unfold qdw qdc;cases b
 ·simp only [vs4,if_false];congr 1;split <;> omega
 ·simp only [if_true,h];congr 1;split <;> omega
theorem qs9 (w:Int) (b:Bool) (hw:-1000≤w∧w≤1000):0≤qdc w b∧qdc w b≤1000:=by
 unfold qdc;split <;> omega
theorem q1u (W:Nat→Nat→Int) (hW:∀i k,-1000≤W i k∧W i k≤1000) (l:List Int) (c:Int):∀k:Nat,qp2 W l c k≤1000 * (k:Int):=by
 intro k;unfold qp2
 induction k with
 | zero=>simp
 | succ k ih =>
  rw [vxw,vt4,vxp,qst];have:((vuf k).map fun i=>qdc (W i (k+1)) (l.getD i 0 == c)).sum≤1000 * (k:Int):=by
   have key:∀m:Nat,((vuf m).map fun i=>qdc (W i (k+1)) (l.getD i 0 == c)).sum≤1000 * (m:Int):=by
    intro m
    induction m with
    | zero=>simp
    | succ m ihm =>
     rw [vxw,vt4,vxp,qst];have:=(qs9 (W m (k+1)) (l.getD m 0 == c) (hW _ _)).2;omega
   exact key k
  have h2:=(qs9 (W k (k+1)) (l.getD k 0 == c) (hW _ _)).2;omega
theorem vio (W:Nat→Nat→Int) (hW:∀i k,-1000≤W i k∧W i k≤1000) (l:List Int):∀v:Nat,v≤10→0≤qdu W l v∧qdu W l v≤10000 * (v:Int):=by
 intro v
 induction v with
 | zero=>intro _;simp [qdu]
 | succ v ih =>
  intro hv;rw [qlb];have h1:=q1u W hW l (l.getD v 0) v;have h2:=qwz W l (l.getD v 0) v;have h3:=ih (by omega);omega
theorem vip (W:Nat→Nat→Int) (hW:∀i k,-1000≤W i k∧W i k≤1000) (v:Nat) (hv:v≤10) (s:List Int) (c:Int) (B:Int×Int→Option (LS (Int×Int) Int))
  (hB:∀(k:Nat) (m:Int),k < v→0≤m→m≤100000→B (m,(k:Int))=some (.next (m+qdc (W k v) (s.getD k 0 == c),((k+1:Nat):Int)))) (hE:∀m,B (m,(v:Int))=some (.done m)):qag B (0,0)=some (qp2 W s c v):=by
 have key:∀(d k:Nat),k+d=v→qag B (((vuf k).map fun i=>qdc (W i v) (s.getD i 0 == c)).sum,(k:Int))=some (qp2 W s c v):=by
  intro d
  induction d with
  | zero =>
   intro k hk;obtain rfl:k=v:=by omega
   exact qad (hE _)
  | succ d ih =>
   intro k hk;have hb:∀m:Nat,0≤((vuf m).map fun i=>qdc (W i v) (s.getD i 0 == c)).sum∧((vuf m).map fun i=>qdc (W i v) (s.getD i 0 == c)).sum≤1000 * (m:Int):=by
    intro m
    induction m with
    | zero=>simp
    | succ m ihm =>
     rw [vxw,vt4,vxp,qst];have:=qs9 (W m v) (s.getD m 0 == c) (hW _ _);omega
   have h1:=hb k;rw [qaf (hB k _ (by omega) h1.1 (by omega))];have e:((vuf k).map fun i=>qdc (W i v) (s.getD i 0 == c)).sum+qdc (W k v) (s.getD k 0 == c)=((vuf (k+1)).map fun i=>qdc (W i v) (s.getD i 0 == c)).sum:=by
    rw [vxw,vt4,vxp,qst]
   rw [e];exact ih (k+1) (by omega)
 exact key v 0 (by omega)
def qyp (b:Bool) (h:Int) (t:List Int) (least:Int):Option (List Int×Int):=if b then some (h :: t,least) else none
abbrev qm4:=List Int×Bool×Int×List Int×Int×Int
abbrev qxm:=List Int×Bool×Int×List Int×Int
def qm5 (W:Nat→Nat→Int) (n v:Nat) (L:Int→Int→qm4→Option (LS qm4 qxm)):Prop :=
 ∀(p:List Int) (u:Nat) (s:List Int) (b:Bool) (h:Int) (t:List Int) (least:Int),p.length=v→s.length=n→s.take v=p→u≤v →
  ∃s' b' h' t' least',qag (L (u:Int) (qdu W p v)) (s,b,h,t,least,0)=some (s',b',h',t',least')∧s'.length=n∧s'.take v=p∧qyp b' h' t' least'=(qbv (n - v) p u).foldl (qkq fun x=>qdu W x n) (qyp b h t least)
theorem viq {s p:List Int} {v:Nat} {c:Int} (h:s.take v=p) (hl:v < s.length):(s.set v c).take (v+1)=p++[c]:=by
 rw [vx4,vzf (by omega),h,vv1,if_pos rfl,if_pos hl];rfl
theorem ve6 {s p:List Int} {v:Nat} (h:s.take v=p) (i:Nat) (hi:i < v):s.getD i 0=p.getD i 0:=by
 rw [←h];simp only [vvx,vtv,if_pos hi]
theorem vir (W:Nat→Nat→Int) (l:List Int) (v:Nat) (h:v≤1):qdu W l v=0:=by
 rcases Nat.le_one_iff_eq_zero_or_eq_one.1 h with rfl | rfl
 ·rfl
 ·simp [qdu,qp2]
theorem qta (W:Nat→Nat→Int) (hW:∀i k,-1000≤W i k∧W i k≤1000) (n v:Nat) (hv:v < n) (hn:n≤6) (L L':Int→Int→qm4→Option (LS qm4 qxm)) (hI:v+1 < n→qm5 W n (v+1) L')
  (hB:∀(u c:Nat) (cost:Int) (s:List Int) (b:Bool) (h:Int) (t:List Int) (least:Int),s.length=n→c≤u→u≤10→0≤cost→cost≤100000→(v≤1→cost=0)→(v=0→u=0)→∀x r,(s.set v (c:Int))=x :: r →
   L (u:Int) cost (s,b,h,t,least,(c:Int)) =
    if b=true∧cost+qp2 W s (c:Int) v≥least then some (.next (s.set v (c:Int),b,h,t,least,((c+1:Nat):Int)))
    else if v+1=n then some (.next (s.set v (c:Int),true,x,r,cost+qp2 W s (c:Int) v,((c+1:Nat):Int)))
    else (qag (L' ((max u (c+1):Nat):Int) (cost+qp2 W s (c:Int) v)) (s.set v (c:Int),b,h,t,least,0)).bind fun q=>if q.1.length=n then some (.next (q.1,q.2.1,q.2.2.1,q.2.2.2.1,q.2.2.2.2,((c+1:Nat):Int))) else none)
  (hE:∀(u:Nat) (cost:Int) (s:List Int) (b:Bool) (h:Int) (t:List Int) (least:Int),u≤10→(v=0→u=0)→L (u:Int) cost (s,b,h,t,least,((u+1:Nat):Int))=some (.done (s,b,h,t,least))):qm5 W n v L:=by
 intro p u s b h t least hp hs hst hu;have key:∀(d c:Nat) (s:List Int) (b:Bool) (h:Int) (t:List Int) (least:Int),c+d=u+1→s.length=n→s.take v=p →
   ∃s' b' h' t' least',qag (L (u:Int) (qdu W p v)) (s,b,h,t,least,(c:Int))=some (s',b',h',t',least')∧s'.length=n∧s'.take v=p∧qyp b' h' t' least'=((vwo c d).flatMap fun (c:Nat)=>qbv (n - (v+1)) (p++[(c:Int)]) (max u (c+1))).foldl (qkq fun x=>qdu W x n) (qyp b h t least):=by
  intro d
  induction d with
  | zero =>
   intro c s b h t least hc hs hst;obtain rfl:c=u+1:=by omega
   exact ⟨s,b,h,t,least,qad (hE u _ s b h t least (by omega) (by omega)),hs,hst,by simp⟩
  | succ d ih =>
   intro c s b h t least hc hs hst;have hcost:=vio W hW p v (by omega);obtain ⟨x,r,hxr⟩:∃x r,s.set v (c:Int)=x :: r:=by
    cases hq:s.set v (c:Int) with
    | nil =>
     have:=congrArg vxo hq;rw [vt2,hs,List.length_nil] at this;omega
    | cons x r=>exact ⟨x,r,rfl⟩
   have hadd:qp2 W s (c:Int) v=qp2 W p (c:Int) v:=qw0 W _ fun i hi=>ve6 hst i hi
   have hcs:qdu W p v+qp2 W s (c:Int) v=qdu W (p++[(c:Int)]) (v+1):=by
    have:=vao W p (c:Int);rw [hp] at this;rw [this,hadd]
   have hb:=hB u c (qdu W p v) s b h t least hs (by omega) (by omega) hcost.1 (by omega) (fun e=>vir W p v e) (fun e=>by omega) x r hxr;rw [hcs] at hb;have hlen:(s.set v (c:Int)).length=n:=by rw [vt2];exact hs
   have htk:(s.set v (c:Int)).take v=p:=by rw [vzf (vuv _)];exact hst
   have htk1:(s.set v (c:Int)).take (v+1)=p++[(c:Int)]:=viq hst (by omega);have hpl:(p++[(c:Int)]).length=v+1:=by simp [hp]
   rw [vzc,vvw,List.foldl_append];by_cases h1:b=true∧qdu W (p++[(c:Int)]) (v+1)≥least
   ·rw [if_pos h1] at hb;obtain ⟨s',b',h',t',least',q1,q2,q3,q4⟩:=ih (c+1) (s.set v (c:Int)) b h t least (by omega) hlen htk;refine ⟨s',b',h',t',least',?_,q2,q3,?_⟩
    ·rw [qaf hb];exact q1
    ·rw [q4];have:qyp b h t least=some (h :: t,least):=by simp [qyp,h1.1]
     have hpr:=qwy (fun x=>qdu W x n) (h :: t) least (qbv (n - (v+1)) (p++[(c:Int)]) (max u (c+1))) (by
      intro y hy;obtain ⟨l1,l2⟩:=qnp _ _ _ y hy;have:=q36 W (x:=y) (p:=p++[(c:Int)]) l2 n (by rw [hpl];omega);rw [hpl] at this;have:=h1.2;show least≤qdu W y n;omega)
     rw [this,hpr]
   ·rw [if_neg h1] at hb;by_cases h2:v+1=n
    ·rw [if_pos h2] at hb;obtain ⟨s',b',h',t',least',q1,q2,q3,q4⟩:=ih (c+1) (s.set v (c:Int)) true x r (qdu W (p++[(c:Int)]) (v+1)) (by omega) hlen htk;refine ⟨s',b',h',t',least',?_,q2,q3,?_⟩
     ·rw [qaf hb];exact q1
     ·rw [q4];have e0:n - (v+1)=0:=by omega
      have exr:x :: r=p++[(c:Int)]:=by
       rw [←hxr,←htk1,h2,←hlen,vx5]
      rw [e0];simp only [qbv,vxm,List.foldl_nil];congr 1;simp only [qyp,if_true];rw [exr];unfold qkq;cases b with
      | false=>simp [h2]
      | true =>
       simp only [true_and,ge_iff_le,Int.not_le] at h1;simp only [if_true];rw [h2] at h1 ⊢;rw [if_pos h1]
    ·rw [if_neg h2] at hb;have hv1:v+1 < n:=by omega
     obtain ⟨s1,b1,h1',t1,l1,r1,r2,r3,r4⟩:=hI hv1 (p++[(c:Int)]) (max u (c+1)) (s.set v (c:Int)) b h t least hpl hlen htk1 (by omega);rw [r1] at hb;simp only [vu7,if_pos r2] at hb;have htk2:s1.take v=p:=by
      have:=congrArg (List.take v) r3;rw [List.take_take,vws (by omega),List.take_left' hp] at this;exact this
     obtain ⟨s',b',h',t',least',q1,q2,q3,q4⟩:=ih (c+1) s1 b1 h1' t1 l1 (by omega) r2 htk2;refine ⟨s',b',h',t',least',?_,q2,q3,?_⟩
     ·rw [qaf hb];exact q1
     ·rw [q4,r4]
 obtain ⟨s',b',h',t',least',q1,q2,q3,q4⟩:=key (u+1) 0 s b h t least (by omega) hs hst;refine ⟨s',b',h',t',least',by simpa using q1,q2,q3,?_⟩;rw [q4];congr 1;rw [show n - v=(n - (v+1))+1 by omega,qbv,vug]
def vlj (m:List (List Int)) (v:Nat) (s:List Int) (c:Int):(Int×Int)→Option (LS (Int×Int) Int):=fun (more,t) =>
 if t < (v:Int) then
 (idx m t).bind fun (x:List Int) =>
 (x[v]?).bind fun (y:Int) =>
 (idx s t).bind fun (z:Int) =>
 (qdw y (z == c)).bind fun (r:Int) =>
 some (.next ((vxc.wrap (more+r)),(vxc.wrap (t+1))))
 else
 some (.done more)
theorem q1v (W:Nat→Nat→Int) (hW:∀i k,-1000≤W i k∧W i k≤1000) (v:Nat) (hv:v≤10) (n:Nat) (hn:v < n) (s:List Int) (hs:s.length=n) (c:Int):qag (vlj (qja W n) v s c) (0,0)=some (qp2 W s c v):=by
 refine vip W hW v hv s c (vlj (qja W n) v s c) ?_ ?_
 ·intro k m hk h0 h1;have c1:((k:Int) < (v:Int)):=by omega
  have hkl:k < s.length:=by omega
  have g1:idx (qja W n) (k:Int)=some ((vuf n).map fun j=>W k j):=qaa (qj3 _ (by omega));have g2:((vuf n).map fun j=>W k j)[v]?=some (W k v):=qj3 _ hn;have g3:idx s (k:Int)=some (s.getD k 0):=by
   refine qaa ?_;simp [vvx,vtp hkl]
  have hp:=qs9 (W k v) (s.getD k 0 == c) (hW _ _);have w:vxc.wrap (m+qdc (W k v) (s.getD k 0 == c))=m+qdc (W k v) (s.getD k 0 == c):=qax (by omega) (by omega);simp only [vlj,if_pos c1,g1,g2,g3,vu7,vin _ _ (hW _ _),w,wqn k]
 ·intro m;simp [vlj]
theorem vr9 (W:Nat→Nat→Int) (hW:∀i k,-1000≤W i k∧W i k≤1000) (n:Nat) (hn:1 < n) (s:List Int) (hs:s.length=n) (c:Int):qag (qjj (qja W n) s c) (0,0)=some (qp2 W s c 1):=q1v W hW 1 (by omega) n hn s hs c
theorem vsa (W:Nat→Nat→Int) (hW:∀i k,-1000≤W i k∧W i k≤1000) (n:Nat) (hn:5 < n) (s:List Int) (hs:s.length=n) (c:Int):qag (qjk (qja W n) s c) (0,0)=some (qp2 W s c 5):=q1v W hW 5 (by omega) n hn s hs c
theorem vne (W:Nat→Nat→Int) (hW:∀i k,-1000≤W i k∧W i k≤1000) (n:Nat) (hv:5 < n) (hn:n≤6):qm5 W n 5 (fun u cost=>qbs (qja W n) u cost):=by
 refine qta W hW n 5 hv hn _ (fun _ _ _=>none) (fun h=>by omega) ?_ ?_
 ·intro u c cost s b h t least hs hc hu h0 h1 hz hz0 x r hxr;have hlen:(qja W n).length=n:=qs8 W n;have wc:=wqn c;have hmax:(if ((c+1:Nat):Int) > (u:Int) then ((c+1:Nat):Int) else (u:Int))=((max u (c+1):Nat):Int):=by split <;> omega
  have hx0:(s.set 5 (c:Int))[0]?=some x:=by rw [hxr];rfl
  have hdr:(s.set 5 (c:Int)).drop 1=r:=by rw [hxr];rfl
  have hl9:(s.set 5 (c:Int)).length≤1000000000:=by rw [vt2];omega
  have hsv:s[5]?=some (s.getD 5 0):=by simp [vvx,vtp (show 5 < s.length by omega)]
  have wu:=wqn u;have c1:(c:Int) < ((u+1:Nat):Int):=by omega
  have hm:=vsa W hW n hv s hs (c:Int);have ha1:=qwz W s (c:Int) 5;have ha2:=q1u W hW s (c:Int) 5;have wcost:vxc.wrap (cost+qp2 W s (c:Int) 5)=cost+qp2 W s (c:Int) 5:=qax (by omega) (by omega);by_cases hb:b=true
  ·by_cases hge:cost+qp2 W s (c:Int) 5≥least
   ·rw [if_pos ⟨hb,hge⟩];simp only [qbs,wu,if_pos c1,hm,hsv,vu7,wc,hmax,wcost,if_pos hb,if_pos hge]
   ·rw [if_neg (fun q=>hge q.2)];by_cases hlast:5+1=n
    ·have e:((6:Int) == ((qja W n).length:Int))=true:=by rw [hlen,beq_iff_eq];omega
     rw [if_pos hlast];simp only [qbs,wu,if_pos c1,hm,hsv,vu7,wc,hmax,wcost,if_pos hb,if_neg hge,e,if_true,if_pos hl9,hx0,hdr]
    ·have e:((6:Int) == ((qja W n).length:Int))=false:=by rw [hlen,beq_eq_false_iff_ne];omega
     rw [if_neg hlast];omega
  ·have hb':b=false:=by simpa using hb
   rw [if_neg (fun q=>hb q.1)];by_cases hlast:5+1=n
   ·have e:((6:Int) == ((qja W n).length:Int))=true:=by rw [hlen,beq_iff_eq];omega
    rw [if_pos hlast];simp only [qbs,wu,if_pos c1,hm,hsv,vu7,wc,hmax,wcost,if_neg hb,e,if_true,if_pos hl9,hx0,hdr]
   ·have e:((6:Int) == ((qja W n).length:Int))=false:=by rw [hlen,beq_eq_false_iff_ne];omega
    rw [if_neg hlast];omega
 ·intro u cost s b h t least hu hz;have wu:=wqn u;simp only [qbs,wu,if_neg (vyh _)]
def vnf (m:List (List Int)) (v:Nat) (L':Int→Int→qm4→Option (LS qm4 qxm)) (used cost:Int):qm4→Option (LS qm4 qxm):=fun (s,b,h,t,least,c) =>
 if c < (vxc.wrap (used+1)) then
 (qag (vlj m v s c) (0,0)).bind (fun more =>
 (s[v]?).bind fun (_:Int) =>
 (some (if (vxc.wrap (c+1)) > used then (vxc.wrap (c+1)) else used)).bind fun (used2:Int) =>
 (some (vxc.wrap (cost+more))).bind fun (cost2:Int) =>
 (show Option ((Unit) ⊕ (Unit)) from
 if b=true then
 if cost2≥least then
 some (.inr ())
 else
 some (.inl ())
 else
 some (.inl ())).bind (fun o=>match o with
 | .inl () =>
 if (((v+1:Nat):Int) == (m.length:Int))=true then
 if (s.set v c).length≤1000000000 then
 ((s.set v c)[0]?).bind fun (x:Int) =>
 (some ((s.set v c).drop 1)).bind fun (l:List Int) =>
 some (.next ((s.set v c),true,x,l,cost2,(vxc.wrap (c+1))))
 else none
 else
 (qag (L' used2 cost2) ((s.set v c),b,h,t,least,0)).bind (fun (b1,b2,b3,b4,b5) =>
 if b1.length=((s.set v c)).length then
 some (.next (b1,b2,b3,b4,b5,(vxc.wrap (c+1))))
 else none)
 | .inr () =>
 some (.next ((s.set v c),b,h,t,least,(vxc.wrap (c+1))))))
 else
 some (.done (s,b,h,t,least))
theorem qxn (W:Nat→Nat→Int) (hW:∀i k,-1000≤W i k∧W i k≤1000) (v n:Nat) (hv:v < n) (hn:n≤6) (L':Int→Int→qm4→Option (LS qm4 qxm)) (hI:v+1 < n→qm5 W n (v+1) L'):qm5 W n v (fun u cost=>vnf (qja W n) v L' u cost):=by
 refine qta W hW n v hv hn _ L' hI ?_ ?_
 ·intro u c cost s b h t least hs hc hu h0 h1 hz hz0 x r hxr;have hlen:(qja W n).length=n:=qs8 W n;have wc:=wqn c;have hmax:(if ((c+1:Nat):Int) > (u:Int) then ((c+1:Nat):Int) else (u:Int))=((max u (c+1):Nat):Int):=by split <;> omega
  have hx0:(s.set v (c:Int))[0]?=some x:=by rw [hxr];rfl
  have hdr:(s.set v (c:Int)).drop 1=r:=by rw [hxr];rfl
  have hl9:(s.set v (c:Int)).length≤1000000000:=by rw [vt2];omega
  have hsv:s[v]?=some (s.getD v 0):=by simp [vvx,vtp (show v < s.length by omega)]
  have wu:=wqn u;have c1:(c:Int) < ((u+1:Nat):Int):=by omega
  have hm:=q1v W hW v (by omega) n hv s hs (c:Int);have ha1:=qwz W s (c:Int) v;have ha2:=q1u W hW s (c:Int) v;have wcost:vxc.wrap (cost+qp2 W s (c:Int) v)=cost+qp2 W s (c:Int) v:=qax (by omega) (by omega);by_cases hb:b=true
  ·by_cases hge:cost+qp2 W s (c:Int) v≥least
   ·rw [if_pos ⟨hb,hge⟩];simp only [vnf,wu,if_pos c1,hm,hsv,vu7,wc,hmax,wcost,if_pos hb,if_pos hge]
   ·rw [if_neg (fun q=>hge q.2)];by_cases hlast:v+1=n
    ·have e:(((v+1:Nat):Int) == ((qja W n).length:Int))=true:=by rw [hlen,beq_iff_eq];omega
     rw [if_pos hlast];simp only [vnf,wu,if_pos c1,hm,hsv,vu7,wc,hmax,wcost,if_pos hb,if_neg hge,e,if_true,if_pos hl9,hx0,hdr]
    ·have e:(((v+1:Nat):Int) == ((qja W n).length:Int))=false:=by rw [hlen,beq_eq_false_iff_ne];omega
     rw [if_neg hlast];simp only [vnf,wu,if_pos c1,hm,hsv,vu7,wc,hmax,wcost,if_pos hb,if_neg hge,e,vs4,if_false,vt2,hs]
     all_goals rfl
  ·have hb':b=false:=by simpa using hb
   rw [if_neg (fun q=>hb q.1)];by_cases hlast:v+1=n
   ·have e:(((v+1:Nat):Int) == ((qja W n).length:Int))=true:=by rw [hlen,beq_iff_eq];omega
    rw [if_pos hlast];simp only [vnf,wu,if_pos c1,hm,hsv,vu7,wc,hmax,wcost,if_neg hb,e,if_true,if_pos hl9,hx0,hdr]
   ·have e:(((v+1:Nat):Int) == ((qja W n).length:Int))=false:=by rw [hlen,beq_eq_false_iff_ne];omega
    rw [if_neg hlast];simp only [vnf,wu,if_pos c1,hm,hsv,vu7,wc,hmax,wcost,if_neg hb,e,vs4,if_false,vt2,hs]
    all_goals rfl
 ·intro u cost s b h t least hu hz;have wu:=wqn u;simp only [vnf,wu,if_neg (vyh _)]
theorem vng (W:Nat→Nat→Int) (hW:∀i k,-1000≤W i k∧W i k≤1000) (n:Nat) (hv:4 < n) (hn:n≤6) (hI:5 < n→qm5 W n 5 (fun u cost=>qbs (qja W n) u cost)):qm5 W n 4 (fun u cost=>qe7 (qja W n) u cost):=qxn W hW 4 n hv hn (fun u cost=>qbs (qja W n) u cost) hI
theorem vnh (W:Nat→Nat→Int) (hW:∀i k,-1000≤W i k∧W i k≤1000) (n:Nat) (hv:3 < n) (hn:n≤6) (hI:4 < n→qm5 W n 4 (fun u cost=>qe7 (qja W n) u cost)):qm5 W n 3 (fun u cost=>qe8 (qja W n) u cost):=qxn W hW 3 n hv hn (fun u cost=>qe7 (qja W n) u cost) hI
theorem vni (W:Nat→Nat→Int) (hW:∀i k,-1000≤W i k∧W i k≤1000) (n:Nat) (hv:2 < n) (hn:n≤6) (hI:3 < n→qm5 W n 3 (fun u cost=>qe8 (qja W n) u cost)):qm5 W n 2 (fun u cost=>qe9 (qja W n) u cost):=qxn W hW 2 n hv hn (fun u cost=>qe8 (qja W n) u cost) hI
theorem vnj (W:Nat→Nat→Int) (hW:∀i k,-1000≤W i k∧W i k≤1000) (n:Nat) (hv:1 < n) (hn:n≤6) (hI:2 < n→qm5 W n 2 (fun u cost=>qe9 (qja W n) u cost)):qm5 W n 1 (fun u cost=>qa5 (qja W n) u):=by
 refine qta W hW n 1 hv hn _ (fun u cost=>qe9 (qja W n) u cost) hI ?_ ?_
 ·intro u c cost s b h t least hs hc hu h0 h1 hz hz0 x r hxr;have hlen:(qja W n).length=n:=qs8 W n;have wc:=wqn c;have hmax:(if ((c+1:Nat):Int) > (u:Int) then ((c+1:Nat):Int) else (u:Int))=((max u (c+1):Nat):Int):=by split <;> omega
  have hx0:(s.set 1 (c:Int))[0]?=some x:=by rw [hxr];rfl
  have hdr:(s.set 1 (c:Int)).drop 1=r:=by rw [hxr];rfl
  have hl9:(s.set 1 (c:Int)).length≤1000000000:=by rw [vt2];omega
  have hsv:s[1]?=some (s.getD 1 0):=by simp [vvx,vtp (show 1 < s.length by omega)]
  have wu:=wqn u;have c1:(c:Int) < ((u+1:Nat):Int):=by omega
  have hm:=vr9 W hW n hv s hs (c:Int);have ha1:=qwz W s (c:Int) 1;have ha2:=q1u W hW s (c:Int) 1;have wcost:vxc.wrap (cost+qp2 W s (c:Int) 1)=cost+qp2 W s (c:Int) 1:=qax (by omega) (by omega);have hz1:=hz (by omega);subst hz1;by_cases hb:b=true
  ·by_cases hge:0+qp2 W s (c:Int) 1≥least
   ·rw [if_pos ⟨hb,hge⟩];simp only [qa5,wu,if_pos c1,hm,hsv,vu7,wc,hmax,wcost,if_pos hb,if_pos hge]
   ·rw [if_neg (fun q=>hge q.2)];by_cases hlast:1+1=n
    ·have e:((2:Int) == ((qja W n).length:Int))=true:=by rw [hlen,beq_iff_eq];omega
     rw [if_pos hlast];simp only [qa5,wu,if_pos c1,hm,hsv,vu7,wc,hmax,wcost,if_pos hb,if_neg hge,e,if_true,if_pos hl9,hx0,hdr]
    ·have e:((2:Int) == ((qja W n).length:Int))=false:=by rw [hlen,beq_eq_false_iff_ne];omega
     rw [if_neg hlast];simp only [qa5,wu,if_pos c1,hm,hsv,vu7,wc,hmax,wcost,if_pos hb,if_neg hge,e,vs4,if_false,vt2,hs]
     all_goals rfl
  ·have hb':b=false:=by simpa using hb
   rw [if_neg (fun q=>hb q.1)];by_cases hlast:1+1=n
   ·have e:((2:Int) == ((qja W n).length:Int))=true:=by rw [hlen,beq_iff_eq];omega
    rw [if_pos hlast];simp only [qa5,wu,if_pos c1,hm,hsv,vu7,wc,hmax,wcost,if_neg hb,e,if_true,if_pos hl9,hx0,hdr]
   ·have e:((2:Int) == ((qja W n).length:Int))=false:=by rw [hlen,beq_eq_false_iff_ne];omega
    rw [if_neg hlast];simp only [qa5,wu,if_pos c1,hm,hsv,vu7,wc,hmax,wcost,if_neg hb,e,vs4,if_false,vt2,hs]
    all_goals rfl
 ·intro u cost s b h t least hu hz;have wu:=wqn u;simp only [qa5,wu,if_neg (vyh _)]
theorem vnk (W:Nat→Nat→Int) (hW:∀i k,-1000≤W i k∧W i k≤1000) (n:Nat) (hv:0 < n) (hn:n≤6) (hI:1 < n→qm5 W n 1 (fun u cost=>qa5 (qja W n) u)):qm5 W n 0 (fun u cost=>qbl (qja W n)):=by
 refine qta W hW n 0 hv hn _ (fun u cost=>qa5 (qja W n) u) hI ?_ ?_
 ·intro u c cost s b h t least hs hc hu h0 h1 hz hz0 x r hxr;have hlen:(qja W n).length=n:=qs8 W n;have wc:=wqn c;have hmax:(if ((c+1:Nat):Int) > (u:Int) then ((c+1:Nat):Int) else (u:Int))=((max u (c+1):Nat):Int):=by split <;> omega
  have hx0:(s.set 0 (c:Int))[0]?=some x:=by rw [hxr];rfl
  have hdr:(s.set 0 (c:Int)).drop 1=r:=by rw [hxr];rfl
  have hl9:(s.set 0 (c:Int)).length≤1000000000:=by rw [vt2];omega
  have hsv:s[0]?=some (s.getD 0 0):=by simp [vvx,vtp (show 0 < s.length by omega)]
  have hz1:=hz (by omega);have hz2:=hz0 rfl;subst hz1;subst hz2;obtain rfl:c=0:=by omega
  have ha:qp2 W s ((0:Nat):Int) 0=0:=rfl;have c1:((0:Nat):Int) < 1:=by omega
  have hm1:(max 0 (0+1):Nat)=1:=rfl;have wc':(if (vxc.wrap (((0:Nat):Int)+1)) > 0 then (vxc.wrap (((0:Nat):Int)+1)) else 0)=((1:Nat):Int):=by rw [wc];rfl
  have hl1:qag qji ()=some ():=qad rfl;rw [ha,hm1,Int.add_zero];by_cases hb:b=true
  ·by_cases hge:(0:Int)≥least
   ·rw [if_pos ⟨hb,hge⟩];simp only [qbl,if_pos c1,hl1,hsv,vu7,wc',wc,if_pos hb,if_pos hge]
   ·rw [if_neg (fun q=>hge q.2)];by_cases hlast:0+1=n
    ·have e:((1:Int) == ((qja W n).length:Int))=true:=by rw [hlen,beq_iff_eq];omega
     rw [if_pos hlast];simp only [qbl,if_pos c1,hl1,hsv,vu7,wc',wc,if_pos hb,if_neg hge,e,if_true,if_pos hl9,hx0,hdr]
    ·have e:((1:Int) == ((qja W n).length:Int))=false:=by rw [hlen,beq_eq_false_iff_ne];omega
     rw [if_neg hlast];simp only [qbl,if_pos c1,hl1,hsv,vu7,wc',wc,if_pos hb,if_neg hge,e,vs4,if_false,vt2,hs];rfl
  ·have hb':b=false:=by simpa using hb
   rw [if_neg (fun q=>hb q.1)];by_cases hlast:0+1=n
   ·have e:((1:Int) == ((qja W n).length:Int))=true:=by rw [hlen,beq_iff_eq];omega
    rw [if_pos hlast];simp only [qbl,if_pos c1,hl1,hsv,vu7,wc',wc,if_neg hb,e,if_true,if_pos hl9,hx0,hdr]
   ·have e:((1:Int) == ((qja W n).length:Int))=false:=by rw [hlen,beq_eq_false_iff_ne];omega
    rw [if_neg hlast];simp only [qbl,if_pos c1,hl1,hsv,vu7,wc',wc,if_neg hb,e,vs4,if_false,vt2,hs];rfl
 ·intro u cost s b h t least hu hz;have:=hz rfl;subst this;have c1:¬(((0+1:Nat):Int) < 1):=by omega
  simp only [qbl,if_neg c1]
def q1w (n:Nat) (E:List Arr2_int):Prop:=∀e∈E,0≤e.x0∧e.x0 < (n:Int)∧0≤e.x1∧e.x1 < (n:Int)
theorem ve7 (n:Nat) (E:List Arr2_int) (hn:n≤1000) (hE:E.length≤20000) (h:q1w n E):qlm (n:Int) E=some 0:=by
 have c1:¬((n:Int) > 1000):=by omega
 have c2:((E.length:Int) > 20000)=False:=eq_false (by omega);have c3:¬((n:Int) < 0):=by omega
 have hl:=qlo E (qii (n:Int) E) (fun _=>true) 1
  (fun k x hx hk _=>by
   obtain ⟨h1,h2,h3,h4⟩:=h x (vt9 hx);have q1:¬((if x.x1 < x.x0 then x.x1 else x.x0) < 0):=by split <;> omega
   have q2:¬((if x.x1 > x.x0 then x.x1 else x.x0)≥(n:Int)):=by split <;> omega
   simp only [qii,if_pos (qaj hx),qaa hx,vu7,if_neg q1,if_neg q2,wqn k])
  (fun k x hx hp=>by cases hp) (by simp [qii])
 have hall:(E.all fun _=>true)=true:=by simp
 rw [hall] at hl;simp only [qlm,if_neg c1,c2,decide_false,vu7,vs4,if_false,if_neg c3,hl];rfl
def qqh (e:Arr2_int):Arr2_int:=⟨e.x1,e.x0⟩
theorem ve8 {α β:Type} (f:α→β) (z:β) (E:List α) {k:Nat} {x:α} (hx:E[k]?=some x):(((E.take k).map f)++vuh (E.length - k) z).set k (f x)=((E.take (k+1)).map f)++vuh (E.length - (k+1)) z:=by
 have hk:=qan hx;have hl:((E.take k).map f).length=k:=by rw [vtz,vt3];omega
 rw [show E.length - k=(E.length - (k+1))+1 by omega,List.replicate_succ,vx1 _ _ (by omega),hl,vwu,vzd,vx4,hx];simp
theorem q7b (E:List Arr2_int) (hE:E.length≤1000000):qij E=some (E.map qqh):=by
 have h0:(0:Int)≤(E.length:Int):=by omega
 have hr:qao E.length 16=true:=qxl hE;have key:∀(d k:Nat),k+d=E.length→qag (qgm E) (((E.take k).map qqh)++vuh (E.length - k) ⟨0,0⟩,(k:Int))=some (E.map qqh):=by
  intro d
  induction d with
  | zero =>
   intro k hk;obtain rfl:k=E.length:=by omega
   exact qad (by simp [qgm])
  | succ d ih =>
   intro k hk;have hlt:k < E.length:=by omega
   have hx:E[k]?=some E[k]:=vtp hlt;have hg:idx (((E.take k).map qqh)++vuh (E.length - k) (⟨0,0⟩:Arr2_int)) (k:Int)=some ⟨0,0⟩:=by
    refine qaa ?_;have hl:((E.take k).map qqh).length=k:=by rw [vtz,vt3];omega
    rw [vyt,hl,if_neg (by omega),vtu,if_pos (by omega)]
   rw [qaf (s':=(((E.take (k+1)).map qqh)++vuh (E.length - (k+1)) ⟨0,0⟩,((k+1:Nat):Int))) (by
    simp only [qgm,if_pos (qaj hx),qaa hx,hg,vu7,wqn k,vxb];rw [←ve8 qqh ⟨0,0⟩ E hx];rfl)]
   exact ih (k+1) (by omega)
 have h:=key E.length 0 (by omega);simp only [vum,List.map_nil,vue,vu5,vw7] at h;simp only [qij,if_pos h0,hr,if_true,h,vu7]
theorem va6 (a b:List Arr2_int) (ha:a.length≤500000) (hb:b.length≤500000):qej [a,b]=some (a++b):=by
 have w0:vxc.wrap (0+(a.length:Int))=(a.length:Int):=by rw [qax (by omega) (by omega)];omega
 have w1:vxc.wrap ((a.length:Int)+(b.length:Int))=((a.length+b.length:Nat):Int):=by rw [qax (by omega) (by omega)];omega
 have v0:vxc.wrap (0+1)=1:=by rw [qax (by omega) (by omega)];rfl
 have v1:vxc.wrap (1+1)=2:=by rw [qax (by omega) (by omega)];rfl
 have g0:idx [a,b] 0=some a:=rfl;have g1:idx [a,b] 1=some b:=rfl;have c0:(0:Int) < (([a,b]:List (List Arr2_int)).length:Int):=by simp
 have c1:(1:Int) < (([a,b]:List (List Arr2_int)).length:Int):=by simp
 have c2:¬(2:Int) < (([a,b]:List (List Arr2_int)).length:Int):=by simp
 have n0:¬(a.length:Int) < 0:=by omega
 have n1:¬((a.length+b.length:Nat):Int) < 0:=by omega
 have L1:qag (qb4 [a,b]) (0,0)=some ((a.length+b.length:Nat):Int):=by
  rw [qaf (s':=((a.length:Int),1)) (by simp only [qb4,if_pos c0,g0,vu7,w0,if_neg n0,v0])];rw [qaf (s':=(((a.length+b.length:Nat):Int),2)) (by simp only [qb4,if_pos c1,g1,vu7,w1,if_neg n1,v1])];exact qad (by simp only [qb4,if_neg c2])
 have L2:qag (qb5 [a,b]) (([]:List Arr2_int),0)=some (a++b):=by
  have r0:qao (([]:List Arr2_int).length+a.length) 16=true:=qxl (by simp;omega);have r1:qao (a.length+b.length) 16=true:=qxl (by omega);rw [qaf (s':=(a,1)) (by simp only [qb5,if_pos c0,g0,vu7,r0,if_true,vue,v0])];rw [qaf (s':=(a++b,2)) (by simp only [qb5,if_pos c1,g1,vu7,r1,if_true,v1])];exact qad (by simp only [qb5,if_neg c2])
 have n3:(0:Int)≤((a.length+b.length:Nat):Int):=by omega
 have n4:((a.length+b.length:Nat):Int)≤1000000000000:=by omega
 simp only [qej,L1,vu7,if_pos n3,if_pos n4,L2]
def qkj (E:List Arr2_int) (v:Nat):List Int:=(E.filter fun e=>decide (e.x0=(v:Int))).map (·.x1)
theorem q4y (E:List Arr2_int) (e:Arr2_int) (v:Nat):qkj (E++[e]) v=if e.x0=(v:Int) then qkj E v++[e.x1] else qkj E v:=by
 unfold qkj;rw [vyp,vt4];by_cases h:e.x0=(v:Int) <;> simp [h]
theorem q1x (E:List Arr2_int) (v:Nat):(qkj E v).length≤E.length:=by
 unfold qkj;rw [vtz];exact vv7 _ _
theorem qf8 {α:Type} (f g:Nat→α) {n v:Nat} (hv:v < n) (h:∀u,u < n→u≠v→f u=g u):((vuf n).map f).set v (g v)=(vuf n).map g:=by
 refine vtj fun j=>?_
 rw [vv1];simp only [vtz,vv9,vts];by_cases e:v=j
 ·subst e;simp [hv]
 ·rw [if_neg e];by_cases hj:j < n
  ·simp [vxn hj,h j hj (fun q=>e q.symm)]
  ·simp [hj]
theorem qp8 {α:Type} (f:Nat→α) {n v:Nat} (hv:v < n):((vuf n).map f)[v]?=some (f v):=by simp [vxn hv]
def qu8 (E:List Arr2_int) (n:Nat):List (List Int):=(vuf n).map fun v=>vw0 (qn4 (qkj E v))
theorem q1y (n:Nat) (E:List Arr2_int) (hn:n≤1000) (hE:E.length≤100000) (h:q1w n E):qha (n:Int) E=some (qu8 E n):=by
 have h0:(0:Int)≤(n:Int):=by omega
 have hr:qao n 24=true:=by unfold qao;simp only [decide_eq_true_eq];omega
 have L1:∀(d k:Nat),k+d=E.length→qag (qe5 E) ((vuf n).map (qkj (E.take k)),(k:Int))=some ((vuf n).map (qkj E)):=by
  intro d
  induction d with
  | zero =>
   intro k hk;obtain rfl:k=E.length:=by omega
   rw [vx5];exact qad (by simp [qe5])
  | succ d ih =>
   intro k hk;have hlt:k < E.length:=by omega
   have hx:E[k]?=some E[k]:=vtp hlt;obtain ⟨h1,h2,h3,h4⟩:=h _ (vt9 hx);have hv:E[k].x0.toNat < n:=by omega
   have e0:E[k].x0=((E[k].x0.toNat:Nat):Int):=by omega
   have hg:idx ((vuf n).map (qkj (E.take k))) E[k].x0=some (qkj (E.take k) E[k].x0.toNat):=by
    conv=>lhs;rw [e0]
    exact qaa (qp8 _ hv)
   have hlen:=q1x (E.take k) E[k].x0.toNat;rw [vt3] at hlen;have hroom:qao ((qkj (E.take k) E[k].x0.toNat).length+1) 8=true:=qqd (by omega);have ht:E.take (k+1)=E.take k++[E[k]]:=by rw [vx4,hx];rfl
   rw [qaf (s':=((vuf n).map (qkj (E.take (k+1))),((k+1:Nat):Int))) (by
    simp only [qe5,if_pos (qaj hx),qaa hx,hg,vu7,hroom,if_true,wqn k];congr 3;have hs:=qf8 (qkj (E.take k)) (qkj (E.take (k+1))) hv (fun u hu hne=>by
     rw [ht,q4y,if_neg];intro e;exact hne (by omega))
    rw [←hs,ht,q4y,if_pos e0])]
   exact ih (k+1) (by omega)
 have hinit:(vuf n).map (qkj ([]:List Arr2_int))=vuh n ([]:List Int):=by
  have:qkj ([]:List Arr2_int)=fun _=>[]:=by funext v;rfl
  rw [this];refine vtj fun j=>?_
  rw [vts,vtu];by_cases hj:j < n
  ·rw [vxn hj,if_pos hj];rfl
  ·rw [vtq (by simp;omega),if_neg hj];rfl
 have L1':=L1 E.length 0 (by omega);rw [vum,hinit] at L1';simp only [vw7] at L1';have L2:∀(d k:Nat),k+d=n→qag (qe6 ((vuf n).map (qkj E))) ((vuf n).map (fun v=>if v < k then vw0 (qn4 (qkj E v)) else qkj E v),(k:Int))=some (qu8 E n):=by
  intro d
  induction d with
  | zero =>
   intro k hk;obtain rfl:k=n:=by omega
   have e:(vuf k).map (fun v=>if v < k then vw0 (qn4 (qkj E v)) else qkj E v)=qu8 E k:=by
    refine vwc fun v hv=>?_
    rw [if_pos (vwl.1 hv)]
   rw [e];exact qad (by simp [qe6])
  | succ d ih =>
   intro k hk;have hlt:k < n:=by omega
   have c:((k:Int) < ((((vuf n).map (qkj E)).length:Nat):Int)):=by simp;omega
   have hlen:=q1x E k;have hsl:(qn4 (qkj E k)).length=(qkj E k).length:=(qlj _).length_eq;have g1:idx ((vuf n).map (fun v=>if v < k then vw0 (qn4 (qkj E v)) else qkj E v)) (k:Int)=some (qkj E k):=by
    rw [qaa (qp8 _ hlt),if_neg (Nat.lt_irrefl _)]
   have g2:qwm (qkj E k)=some (qn4 (qkj E k)):=if_pos (by omega);have g3:vf8 (qn4 (qkj E k))=some (vw0 (qn4 (qkj E k))):=if_pos (by omega);have g4:idx (((vuf n).map (fun v=>if v < k then vw0 (qn4 (qkj E v)) else qkj E v)).set k (qn4 (qkj E k))) (k:Int)=some (qn4 (qkj E k)):=by
    refine qaa ?_;rw [vv1,if_pos rfl,if_pos (by simp;omega)]
   rw [qaf (s':=((vuf n).map (fun v=>if v < k+1 then vw0 (qn4 (qkj E v)) else qkj E v),((k+1:Nat):Int))) (by
    simp only [qe6,if_pos c,g1,g2,vu7,vxb,g4,g3,wqn k,List.set_set];congr 3;have hs:=qf8 (fun v=>if v < k then vw0 (qn4 (qkj E v)) else qkj E v) (fun v=>if v < k+1 then vw0 (qn4 (qkj E v)) else qkj E v) hlt (fun u hu hne=>by
     by_cases q:u < k
     ·simp only [if_pos q,if_pos (show u < k+1 by omega)]
     ·simp only [if_neg q,if_neg (show ¬u < k+1 by omega)])
    rw [←hs];simp only [if_pos (Nat.lt_succ_self k)])]
   exact ih (k+1) (by omega)
 have L2':=L2 n 0 (by omega);have e0:(vuf n).map (fun v=>if v < 0 then vw0 (qn4 (qkj E v)) else qkj E v)=(vuf n).map (qkj E):=by
  refine vwc fun v hv=>?_
  rw [if_neg (by omega)]
 rw [e0] at L2';simp only [vw7] at L2';simp only [qha,if_pos h0,vxb,hr,if_true,L1',L2',vu7]
def qez (E:List Arr2_int) (u v:Nat):Prop:=(⟨(u:Int),(v:Int)⟩:Arr2_int)∈E
theorem ve9 {E:List Arr2_int} {n u:Nat} {x:Int} (hu:u < n) (h:q1w n E) {l:List Int} (hl:(qu8 E n)[u]?=some l):x∈l↔∃v:Nat,x=(v:Int)∧v < n∧qez E u v:=by
 unfold qu8 at hl;rw [qp8 _ hu] at hl;cases hl;rw [q67,(qlj _).mem_iff];unfold qkj qez;simp only [vwj,vwi,decide_eq_true_eq];constructor
 ·rintro ⟨e,⟨he,h0⟩,rfl⟩;obtain ⟨h1,h2,h3,h4⟩:=h e he;refine ⟨e.x1.toNat,by omega,by omega,?_⟩;have:(⟨(u:Int),((e.x1.toNat:Nat):Int)⟩:Arr2_int)=e:=by
   obtain ⟨a,b⟩:=e;simp only at *;congr 1
   ·exact h0.symm
   ·omega
  rw [this];exact he
 ·rintro ⟨v,rfl,_,he⟩;exact ⟨_,⟨he,rfl⟩,rfl⟩
def qa1 (W:Nat→Nat→Int) (n:Nat):List Pair:=qjt n (fun _ _=>true) fun i k=>⟨(i:Int),(k:Int),W i k⟩
theorem qj4 {W:Nat→Nat→Int} {n:Nat} {p:Pair}:p∈qa1 W n↔∃i k:Nat,i < k∧k < n∧p=⟨(i:Int),(k:Int),W i k⟩:=by
 unfold qa1;rw [qi8];constructor
 ·rintro ⟨i,k,h1,h2,_,h3⟩;exact ⟨i,k,h1,h2,h3⟩
 ·rintro ⟨i,k,h1,h2,h3⟩;exact ⟨i,k,h1,h2,rfl,h3⟩
def q8v (p:Pair):Arr2_int:=⟨p.I,p.K⟩
theorem qxo (W:Nat→Nat→Int) (n:Nat):((qa1 W n).map q8v).Nodup:=by
 unfold qa1;rw [qua];unfold qjt vym;rw [vy7];constructor
 ·intro i _;rw [vy7];constructor
  ·intro k _;simp
  ·refine (vza (s:=i+1) (n:=n - (i+1)) (step:=1)).imp fun {a b} hab x hx y hy=>?_
   simp only [if_true,vwm] at hx hy;subst hx;subst hy;intro e;simp only [q8v,Arr2_int.mk.injEq] at e;omega
 ·refine (vza (s:=0) (n:=n) (step:=1)).imp fun {a b} hab x hx y hy=>?_
  simp only [vt8,if_true,vwm] at hx hy;obtain ⟨k,_,rfl⟩:=hx;obtain ⟨j,_,rfl⟩:=hy;intro e;simp only [q8v,Arr2_int.mk.injEq] at e;omega
theorem qp9 (W:Nat→Nat→Int) (n:Nat) (hn:n≤6):(qa1 W n).length≤36:=by
 have:=qub n (fun _ _=>true) fun i k=>(⟨(i:Int),(k:Int),W i k⟩:Pair)
 have h2:n * n≤6 * 6:=vzk hn hn;unfold qa1;omega
def WOk (W:Nat→Nat→Int):Prop:=(∀i k,-1000≤W i k∧W i k≤1000)∧(∀i k,W i k=W k i)∧∀i,W i i=0
theorem vfa {l:List Pair} (h:(l.map q8v).Nodup) {k:Nat} {x:Pair} (hx:l[k]?=some x):q8v x ∉ (l.take k).map q8v:=by
 intro hm;have hk:=qan hx;obtain ⟨p,hp,e⟩:=vwj.1 hm;obtain ⟨j,hj,hjp⟩:=List.mem_take_iff_getElem.1 hp;have g1:(l.map q8v)[j]?=some (q8v x):=by
  rw [vts,vtp (by omega),hjp,vvc,e]
 have g2:(l.map q8v)[k]?=some (q8v x):=by rw [vts,hx,vvc]
 have l1:=qan g1;rw [←g2] at g1;have:=(vyu l1 h).1 g1;omega
theorem vfb (W:Nat→Nat→Int) (hW:WOk W) (n:Nat) (hn:n≤6):qh7 (n:Int) (qa1 W n)=some 0:=by
 have hl:=qp9 W n hn;have c1:¬((n:Int) < 0):=by omega
 have c2:((n:Int) > 200)=False:=eq_false (by omega);have c3:¬(((qa1 W n).length:Int) > 20000):=by omega
 have key:∀(d k:Nat) (seen:List (Arr2_int×Bool)),k+d=(qa1 W n).length→(∀q,(qo7 seen q).getD false=decide (q∈((qa1 W n).take k).map q8v))→qag (qhb (n:Int) (qa1 W n)) (seen,(k:Int))=some (.inl ()):=by
  intro d
  induction d with
  | zero =>
   intro k seen hk _;have c:¬((k:Int) < ((qa1 W n).length:Int)):=by omega
   exact qad (by simp only [qhb,if_neg c])
  | succ d ih =>
   intro k seen hk hs;have hlt:k < (qa1 W n).length:=by omega
   have hx:(qa1 W n)[k]?=some (qa1 W n)[k]:=vtp hlt;obtain ⟨i,j,h1,h2,he⟩:=qj4.1 (vt9 hx);have hkn:=vfa (qxo W n) hx;have hq:=hs (q8v (qa1 W n)[k]);rw [decide_eq_false hkn] at hq;have ht:(qa1 W n).take (k+1)=(qa1 W n).take k++[(qa1 W n)[k]]:=by rw [vx4,hx];rfl
   rw [he] at hx hq ht;have hw:=hW.1 i j;have q1:¬((i:Int) < 0):=by omega
   have q2:¬((i:Int)≥(j:Int)):=by omega
   have q3:¬((j:Int)≥(n:Int)):=by omega
   have q4:¬(W i j < -1000):=by omega
   have q5:¬(W i j > 1000):=by omega
   have hq':(qo7 seen (Arr2_int.mk (i:Int) (j:Int))).getD false=false:=hq;rw [qaf (s':=(qvn seen (Arr2_int.mk (i:Int) (j:Int)) true,((k+1:Nat):Int))) (by
    simp only [qhb,if_pos (qaj hx),qaa hx,vu7,if_neg q1,if_neg q2,if_neg q3,if_neg q4,if_neg q5,hq',vs4,if_false,wqn k])]
   refine ih (k+1) _ (by omega) fun q=>?_
   rw [qxh,ht,vt4,vxp];by_cases e:q=Arr2_int.mk (i:Int) (j:Int)
   ·rw [if_pos e];symm;rw [e];simp [q8v]
   ·rw [if_neg e,hs q];rw [vw3,decide_eq_true_eq,decide_eq_true_eq,vt7,vwm];constructor
    ·exact fun h=>.inl h
    ·rintro (h | h)
     ·exact h
     ·exact absurd h e
 have h:=key (qa1 W n).length 0 [] (by omega) (by intro q;simp [qo7]);simp only [vw7] at h;simp only [qh7,if_neg c1,c2,decide_false,vu7,vs4,if_false,if_neg c3,h]
theorem q4z (W:Nat→Nat→Int) (hW:WOk W) (n:Nat) (hn:n≤6):qfw (n:Int) (qa1 W n)=some 0:=by
 have hl:=qp9 W n hn;have c1:¬((n:Int) < 0):=by omega
 have c2:¬((n:Int) > 200):=by omega
 have c3:¬(((qa1 W n).length:Int) > 20000):=by omega
 have qyf:∀(i:Nat) (x:Pair),(qa1 W n)[i]?=some x→qag (qcn (qa1 W n) (i:Int) x) 0=some (.inl ()):=by
  intro i x hx;have hi:=qan hx;have hkn:=vfa (qxo W n) hx;have h:=qlo ((qa1 W n).take i) (qcn (qa1 W n) (i:Int) x) (fun _=>true) 1 (fun k y hy hk _=>by
   have hk':k < i:=by rw [vt3] at hk;omega
   have c:((k:Int) < (i:Int)):=by omega
   have hy':(qa1 W n)[k]?=some y:=by rw [vtv,if_pos hk'] at hy;exact hy
   have w:=wqn k;have hne:¬(y.I=x.I∧y.K=x.K):=by
    rintro ⟨e1,e2⟩;exact hkn (vwj.2 ⟨y,vt9 hy,by simp [q8v,e1,e2]⟩)
   by_cases e1:y.I=x.I
   ·have e2:¬y.K=x.K:=fun e=>hne ⟨e1,e⟩
    simp only [qcn,if_pos c,qaa hy',vu7,beq_iff_eq,if_pos e1,if_neg e2,w]
   ·simp only [qcn,if_pos c,qaa hy',vu7,beq_iff_eq,if_neg e1,w]) (fun k y _ hp=>by cases hp) (by
   rw [vt3,vws (by omega)];simp only [qcn,if_neg (vyh _)])
  rw [h];simp
 have h:=qlo (qa1 W n) (qfc (n:Int) (qa1 W n)) (fun _=>true) 1 (fun k x hx hk _=>by
  obtain ⟨i,j,h1,h2,he⟩:=qj4.1 (vt9 hx);have hin:=qyf k x hx;subst he;have hw:=hW.1 i j;have q1:¬((i:Int) < 0):=by omega
  have q2:¬((i:Int)≥(j:Int)):=by omega
  have q3:¬((j:Int)≥(n:Int)):=by omega
  have q4:¬(W i j < -1000):=by omega
  have q5:¬(W i j > 1000):=by omega
  simp only [qfc,if_pos (qaj hx),qaa hx,vu7,if_neg q1,if_neg q2,if_neg q3,if_neg q4,if_neg q5,hin,wqn k]) (fun k y _ hp=>by cases hp) (by simp [qfc])
 have hall:((qa1 W n).all fun _=>true)=true:=by simp
 rw [hall] at h;simp only [qfw,if_neg c1,if_neg c2,if_neg c3,h,if_true,vu7]
def wOf (l:List Pair) (i k:Nat):Int:=l.foldl (fun m p=>if (p.I=(i:Int)∧p.K=(k:Int))∨(p.K=(i:Int)∧p.I=(k:Int)) then p.Weight else m) 0
theorem vis (l:List Pair) (p:Pair) (i k:Nat):wOf (l++[p]) i k=if (p.I=(i:Int)∧p.K=(k:Int))∨(p.K=(i:Int)∧p.I=(k:Int)) then p.Weight else wOf l i k:=by simp [wOf]
theorem vnl {W:Nat→Nat→Int} (hW:WOk W) {n i k:Nat} (hi:i < n) (hk:k < n):wOf (qa1 W n) i k=W i k:=by
 have key:∀(l:List Pair) (m:Int),(∀p∈l,p∈qa1 W n)→(m=W i k∨∃p∈l,(p.I=(i:Int)∧p.K=(k:Int))∨(p.K=(i:Int)∧p.I=(k:Int))) →
   l.foldl (fun m p=>if (p.I=(i:Int)∧p.K=(k:Int))∨(p.K=(i:Int)∧p.I=(k:Int)) then p.Weight else m) m=W i k:=by
  intro l
  induction l with
  | nil=>intro m _ h;rcases h with h | ⟨p,hp,_⟩;exact h;cases hp
  | cons p l ih =>
   intro m hl h;rw [vxm];refine ih _ (fun q hq=>hl q (by simp [hq])) ?_;by_cases c:(p.I=(i:Int)∧p.K=(k:Int))∨(p.K=(i:Int)∧p.I=(k:Int))
   ·left;rw [if_pos c];obtain ⟨a,b,h1,h2,rfl⟩:=qj4.1 (hl p (by simp));simp only at c ⊢;rcases c with ⟨e1,e2⟩ | ⟨e1,e2⟩
    ·have:a=i:=by omega
     have:b=k:=by omega
     subst a b;rfl
    ·have:a=k:=by omega
     have:b=i:=by omega
     subst a b;exact hW.2.1 _ _
   ·rw [if_neg c];rcases h with h | ⟨q,hq,hc⟩
    ·exact .inl h
    ·rcases vwf.1 hq with rfl | hq
     ·exact absurd hc c
     ·exact .inr ⟨q,hq,hc⟩
 refine key _ 0 (fun p hp=>hp) ?_;rcases vwr i k with h | h | h
 ·exact .inr ⟨_,qj4.2 ⟨i,k,h,hk,rfl⟩,.inl ⟨rfl,rfl⟩⟩
 ·subst h;exact .inl (hW.2.2 i).symm
 ·exact .inr ⟨_,qj4.2 ⟨k,i,h,hi,rfl⟩,.inr ⟨rfl,rfl⟩⟩
theorem vfc (W:Nat→Nat→Int) (hW:WOk W) (n:Nat) (hn:n≤6):qik (n:Int) (qa1 W n)=some (qja W n):=by
 have hl:=qp9 W n hn;have h0:(0:Int)≤(n:Int):=by omega
 have hr1:qao n 24=true:=by unfold qao;simp only [decide_eq_true_eq];omega
 have hr2:qao n 8=true:=qqd (by omega);have L1:∀(d k:Nat),k+d=n→qag (qgn (n:Int)) (vuh k (vuh n (0:Int))++vuh (n - k) [],(k:Int))=some (vuh n (vuh n (0:Int))):=by
  intro d
  induction d with
  | zero =>
   intro k hk;obtain rfl:k=n:=by omega
   have c:¬((k:Int) < (((vuh k ([]:List Int)).length:Nat):Int)):=by simp
   exact qad (by simp only [qgn,vxb,if_neg c,vwu,vxz,vtd])
  | succ d ih =>
   intro k hk;have c:((k:Int) < (((vuh n ([]:List Int)).length:Nat):Int)):=by simp;omega
   have g:idx (vuh k (vuh n (0:Int))++vuh (n - k) []) (k:Int)=some []:=by
    refine qaa ?_;rw [vyt,vt1,if_neg (by omega),vtu,if_pos (by omega)]
   refine (qaf (s':=(vuh (k+1) (vuh n (0:Int))++vuh (n - (k+1)) [],((k+1:Nat):Int))) ?_).trans (ih (k+1) (by omega));simp only [qgn,vxb,if_pos c,if_pos h0,hr2,if_true,g,vu7,wqn k,vep (show k < n by omega)]
 have L1':=L1 n 0 (by omega);simp only [vxz,vue,vu5,vw7] at L1';have L2:∀(d k:Nat),k+d=(qa1 W n).length→qag (qgo (qa1 W n)) (qja (wOf ((qa1 W n).take k)) n,(k:Int))=some (qja (wOf (qa1 W n)) n):=by
  intro d
  induction d with
  | zero =>
   intro k hk;obtain rfl:k=(qa1 W n).length:=by omega
   rw [vx5];exact qad (by simp only [qgo,if_neg (vyh _)])
  | succ d ih =>
   intro k hk;have hlt:k < (qa1 W n).length:=by omega
   have hx:(qa1 W n)[k]?=some (qa1 W n)[k]:=vtp hlt;obtain ⟨i,j,h1,h2,he⟩:=qj4.1 (vt9 hx);have ht:(qa1 W n).take (k+1)=(qa1 W n).take k++[(qa1 W n)[k]]:=by rw [vx4,hx];rfl
   rw [he] at hx ht;generalize hA:wOf ((qa1 W n).take k)=A at *;generalize hA':wOf ((qa1 W n).take (k+1))=A';have hAA:∀a b:Nat,A' a b=if (a=i∧b=j)∨(a=j∧b=i) then W i j else A a b:=by
    intro a b;rw [←hA',ht,vis,←hA];by_cases q:(a=i∧b=j)∨(a=j∧b=i)
    ·rw [if_pos q,if_pos (by simp only;omega)]
    ·rw [if_neg q,if_neg (by simp only;omega)]
   have gi:idx (qja A n) (i:Int)=some ((vuf n).map fun b=>A i b):=qaa (qj3 _ (by omega));have gj:idx (qja A n) (j:Int)=some ((vuf n).map fun b=>A j b):=qaa (qj3 _ h2);have gij:idx ((vuf n).map fun b=>A i b) (j:Int)=some (A i j):=qaa (qj3 _ h2);have gji:idx ((vuf n).map fun b=>A j b) (i:Int)=some (A j i):=qaa (qj3 _ (by omega));have gj2:idx ((qja A n).set i (((vuf n).map fun b=>A i b).set j (W i j))) (j:Int)=some ((vuf n).map fun b=>A j b):=by
    refine qaa ?_;rw [vv1,if_neg (by omega)];exact qj3 _ h2
   have clen:((i:Int) < ((((vuf n).map fun b=>A j b).length:Nat):Int)):=by simp;omega
   have qm9:((qja A n).set i (((vuf n).map fun b=>A i b).set j (W i j))).set j (((vuf n).map fun b=>A j b).set i (W i j))=qja A' n:=by
    have r1:((vuf n).map fun b=>A i b).set j (W i j)=(vuf n).map fun b=>A' i b:=by
     have:=qf8 (fun b=>A i b) (fun b=>A' i b) h2 (fun u hu hne=>by rw [hAA,if_neg (by omega)]);rw [←this,hAA i j,if_pos (.inl ⟨rfl,rfl⟩)]
    have r2:((vuf n).map fun b=>A j b).set i (W i j)=(vuf n).map fun b=>A' j b:=by
     have:=qf8 (fun b=>A j b) (fun b=>A' j b) (show i < n by omega) (fun u hu hne=>by rw [hAA,if_neg (by omega)]);rw [←this,hAA j i,if_pos (.inr ⟨rfl,rfl⟩)]
    rw [r1,r2];have s1:=qf8 (fun a=>(vuf n).map fun b=>A a b) (fun a=>if a=i then (vuf n).map (fun b=>A' i b) else (vuf n).map fun b=>A a b) (show i < n by omega) (fun u hu hne=>by simp only [if_neg hne]);simp only [if_true] at s1;have s2:=qf8 (fun a=>if a=i then (vuf n).map (fun b=>A' i b) else (vuf n).map fun b=>A a b) (fun a=>(vuf n).map fun b=>A' a b) h2 (fun u hu hne=>by
     by_cases e:u=i
     ·subst e;simp
     ·simp only [if_neg e];refine vwc fun b _=>?_
      rw [hAA,if_neg (by omega)])
    have e0:qja A n=(vuf n).map fun a=>(vuf n).map fun b=>A a b:=rfl
    rw [e0,s1,s2];rfl
   rw [qaf (s':=(qja A' n,((k+1:Nat):Int))) (by
    simp only [qgo,if_pos (qaj hx),qaa hx,vu7,gi,gj,gij,vxb,gj2,gji,if_pos clen,qm9,wqn k])]
   rw [←hA'];exact ih (k+1) (by omega)
 have L2':=L2 (qa1 W n).length 0 (by omega);have e0:qja (wOf ((qa1 W n).take 0)) n=vuh n (vuh n (0:Int)):=by
  refine vtj fun a=>?_
  by_cases ha:a < n
  ·rw [qja,qj3 _ ha,vtu,if_pos ha];congr 1;refine vtj fun b=>?_
   by_cases hb:b < n
   ·rw [qj3 _ hb,vtu,if_pos hb];rfl
   ·rw [vtq (by simp;omega),vtu,if_neg hb]
  ·rw [vtq (by simp [qja];omega),vtu,if_neg ha]
 rw [e0] at L2';have e1:qja (wOf (qa1 W n)) n=qja W n:=by
  refine vwc fun a ha=>vwc fun b hb=>?_
  exact vnl hW (vwl.1 ha) (vwl.1 hb)
 rw [e1] at L2';simp only [vw7] at L2';simp only [qik,if_pos h0,vxb,hr1,if_true,L1',vu7,L2']
theorem vfd (W:Nat→Nat→Int) (hW:WOk W) (n:Nat) (h1:1≤n) (hn:n≤6):∃l c,vap W n=some (l,c)∧qgp (n:Int) (qa1 W n)=some (l,c,0):=by
 have hb:=hW.1;have s5:5 < n→qm5 W n 5 _:=fun h=>vne W hb n h hn
 have s4:4 < n→qm5 W n 4 _:=fun h=>vng W hb n h hn s5
 have s3:3 < n→qm5 W n 3 _:=fun h=>vnh W hb n h hn s4
 have s2:2 < n→qm5 W n 2 _:=fun h=>vni W hb n h hn s3
 have s1:1 < n→qm5 W n 1 _:=fun h=>vnj W hb n h hn s2
 have s0:qm5 W n 0 _:=vnk W hb n (by omega) hn s1;obtain ⟨s',b',h',t',least',q1,q2,q3,q4⟩:=s0 [] 0 (vuh n 0) false 0 [] 0 rfl (by simp) (by simp) (vuv _);obtain ⟨l,c,ho,_⟩:=qpc W n;have q4':qyp b' h' t' least'=some (l,c):=by rw [q4];exact ho
 refine ⟨l,c,ho,?_⟩;have hb':b'=true:=by
  cases b' with
  | true=>rfl
  | false=>simp [qyp] at q4'
 subst hb';simp only [qyp,if_true,vvd,Prod.mk.injEq] at q4';have c1:¬((n:Int) > 10):=by omega
 have h0:(0:Int)≤(n:Int):=by omega
 have hr:qao n 8=true:=qqd (by omega);have e:((0:Int) == ((qja W n).length:Int))=false:=by rw [qs8,beq_eq_false_iff_ne];omega
 simp only [qgp,vfb W hW n hn,vu7,bne_self_eq_false,vs4,if_false,if_neg c1,vfc W hW n hn,if_pos h0,vxb,hr,if_true,e,q1,vt1,q2,q4'.1,q4'.2]
theorem qrp:∀(k:Nat) (p:List Int) (u:Nat),(qbv k p u).length≤(u+k+1) ^ k
 | 0,p,u=>by simp [qbv]
 | k+1,p,u=>by
  simp only [qbv];have h:=qj2 (fun c:Nat=>qbv k (p++[(c:Int)]) (max u (c+1))) ((u+(k+1)+1) ^ k) (vuf (u+1)) (fun c hc=>by
   have hc:=vwl.1 hc;refine vux (qrp k _ _) (vzl ?_ k);omega)
  rw [vv9] at h;refine vux h ?_;rw [Nat.pow_succ,Nat.mul_comm];exact Nat.mul_le_mul_left _ (by omega)
theorem qj5 (l:List Int) (k:Nat) {x:Int} (hx:l[k]?=some x):qct (l.take (k+1))=max (qct (l.take k)) (x.toNat+1):=by
 rw [vx4,hx];simp [qct]
theorem vfe (out:List (List Int)) (i:Nat) {l:List Int} (hl:out[i]?=some l) (hnn:∀x∈l,(0:Int)≤x) (hlen:l.length≤1000000):qag (qd8 out (i:Int)) (-1,0)=some ((qct l:Int) - 1):=by
 have key:∀(d k:Nat),k+d=l.length→qag (qd8 out (i:Int)) ((qct (l.take k):Int) - 1,(k:Int))=some ((qct l:Int) - 1):=by
  intro d
  induction d with
  | zero =>
   intro k hk;obtain rfl:k=l.length:=by omega
   rw [vx5];exact qad (by simp only [qd8,qaa hl,vu7,if_neg (vyh _)])
  | succ d ih =>
   intro k hk;have hlt:k < l.length:=by omega
   have hx:l[k]?=some l[k]:=vtp hlt;have h0:=hnn _ (vt9 hx);have hm:(if l[k] > (qct (l.take k):Int) - 1 then l[k] else (qct (l.take k):Int) - 1)=(qct (l.take (k+1)):Int) - 1:=by
    rw [qj5 l k hx];split <;> omega
   rw [qaf (s':=((qct (l.take (k+1)):Int) - 1,((k+1:Nat):Int))) (by simp only [qd8,qaa hl,vu7,if_pos (qaj hx),qaa hx,hm,wqn k])];exact ih (k+1) (by omega)
 have h:=key l.length 0 (by omega);simpa [qct] using h
def nfL (l:List Int):Prop:=(∀x∈l,(0:Int)≤x)∧∀(k:Nat) (x:Int),l[k]?=some x→x.toNat≤qct (l.take k)
theorem vit {l:List Int} (h:nfL l) {c:Nat} (hc:c≤qct l):nfL (l++[(c:Int)]):=by
 refine ⟨?_,?_⟩
 ·intro x hx;rcases vt7.1 hx with hx | hx
  ·exact h.1 x hx
  ·rw [vwm] at hx;subst hx;omega
 ·intro k x hx;by_cases hk:k < l.length
  ·rw [vtm hk] at hx;have:=h.2 k x hx
   rwa [vze (by omega)]
  ·have hlt:=qan hx;rw [vtx,vwa] at hlt;obtain rfl:k=l.length:=by omega
   rw [vze (vuv _),vx5];simp at hx;subst hx;simpa using hc
theorem q1z:∀(k:Nat) (p:List Int) (u:Nat) (x:List Int),nfL p→u=qct p→x∈qbv k p u→nfL x
 | 0,p,u,x,hp,_,h=>by
  simp only [qbv,vwm] at h;subst h;exact hp
 | k+1,p,u,x,hp,hu,h=>by
  simp only [qbv,vt8,vwl] at h;obtain ⟨c,hc,hx⟩:=h;exact q1z k _ _ x (vit hp (by omega)) (by rw [qzk,hu]) hx
theorem vff:nfL []:=⟨by simp,by simp⟩
theorem quc {l:List Int} (h:nfL l):qct l≤l.length:=by
 have key:∀k,k≤l.length→qct (l.take k)≤k:=by
  intro k
  induction k with
  | zero=>intro _;simp [qct]
  | succ k ih =>
   intro hk;have hx:l[k]?=some l[k]:=vtp (by omega);have:=h.2 k _ hx;have:=ih (by omega);rw [qj5 l k hx];omega
 have:=key l.length (vuv _)
 rwa [vx5] at this
theorem va7 (out:List (List Int)) (i:Nat) {l:List Int} (hl:out[i]?=some l) (hlen:l.length≤1000) (u:Nat) (hu:u≤1000) (more:List (List Int)) (hm:more.length≤20000000) :
  qag (qd9 out (i:Int) ((u:Int) - 1)) (more,0)=some (more++(vuf (u+1)).map fun c=>l++[((c:Nat):Int)]):=by
 have w:vxc.wrap ((u:Int) - 1+1)=(u:Int):=by rw [qax (by omega) (by omega)];omega
 have r1:qao l.length 8=true:=qqd (by omega);have r2:qao (l.length+1) 8=true:=qqd (by omega);have h:=qlc (qd9 out (i:Int) ((u:Int) - 1)) (fun c=>[l++[((c:Nat):Int)]]) (u+1) 30000000 1 (by
  intro k mo hk hl';have c:((k:Int)≤(u:Int)):=by omega
  have r3:qao (mo.length+1) 24=true:=by unfold qao;simp only [decide_eq_true_eq];omega
  simp only [qd9,w,if_pos c,qaa hl,vu7,r1,r2,r3,if_true,wqn k]) (fun _ _=>vuv _) (by
  intro mo;have c:¬(((u+1:Nat):Int)≤(u:Int)):=by omega
  simp only [qd9,w,if_neg c]) (u+1) 0 more (by omega) (by omega)
 simp only [vw7] at h;rw [h];congr 2;rw [←vug,vyw]
theorem viu (n:Nat) (hn:n≤6):qip (n:Int)=some (qbv n [] 0):=by
 have step:∀k,k < n→qag (qea (qbv k [] 0)) ([],0)=some (qbv (k+1) [] 0):=by
  intro k hk;have hcount:(qbv k [] 0).length≤117649:=by
   refine vux (qrp k [] 0) ?_;have:(0+k+1) ^ k≤7 ^ 6:=vux (vzl (by omega) k) (vzm (by omega) (by omega));exact vux this (by decide)
  have hel:∀x∈qbv k [] 0,nfL x∧x.length=k:=fun x hx=>⟨q1z k [] 0 x vff rfl hx,by simpa using (qnp k [] 0 x hx).1⟩
  have h:=qlc (qea (qbv k [] 0)) (fun i=>(vuf (qct ((qbv k [] 0).getD i [])+1)).map fun c=>(qbv k [] 0).getD i []++[((c:Nat):Int)]) (qbv k [] 0).length 10000000 8 (by
   intro i mo hi hl;have hx:(qbv k [] 0)[i]?=some ((qbv k [] 0).getD i []):=by simp [vys,vtp hi]
   obtain ⟨hnf,hlen⟩:=hel _ (vt9 hx);have hus:=quc hnf;simp only [qea,if_pos (qaj hx),vfe _ i hx hnf.1 (by omega),vu7,va7 _ i hx (by omega) (qct ((qbv k [] 0).getD i [])) (by omega) mo (by omega),wqn i]) (by
   intro i hi;have hx:(qbv k [] 0)[i]?=some ((qbv k [] 0).getD i []):=by simp [vys,vtp hi]
   obtain ⟨hnf,hlen⟩:=hel _ (vt9 hx);have hus:=quc hnf;rw [vtz,vv9];omega) (by
   intro mo;simp only [qea,if_neg (vyh _)]) (qbv k [] 0).length 0 [] (by omega) (by simp;omega)
  simp only [vw7,vue] at h;rw [h,qt2 k [] 0 rfl];congr 1;have key:∀(l:List (List Int)) (f:List Int→List (List Int)),(vwo 0 l.length).flatMap (fun i=>f (l.getD i []))=l.flatMap f:=by
   intro l f;rw [←vug];have e:l=(vuf l.length).map fun i=>l.getD i []:=by
    refine vtj fun i=>?_
    by_cases hi:i < l.length
    ·rw [qj3 _ hi,vtp hi];simp [vys,vtp hi]
    ·rw [vtq (by omega),vtq (by simp;omega)]
   conv=>rhs;rw [e]
   rw [List.flatMap_map]
  exact key (qbv k [] 0) fun l=>(vuf (qct l+1)).map fun c=>l++[((c:Nat):Int)]
 have key:∀(d k:Nat),k+d=n→qag (qeb (n:Int)) (qbv k [] 0,(k:Int))=some (qbv n [] 0):=by
  intro d
  induction d with
  | zero =>
   intro k hk;obtain rfl:k=n:=by omega
   exact qad (by simp only [qeb,if_neg (vyh _)])
  | succ d ih =>
   intro k hk;have c:((k:Int) < (n:Int)):=by omega
   rw [qaf (s':=(qbv (k+1) [] 0,((k+1:Nat):Int))) (by simp only [qeb,if_pos c,step k (by omega),vu7,wqn k])];exact ih (k+1) (by omega)
 have h:=key n 0 (by omega);simp only [vw7] at h;have h':qag (qeb (n:Int)) ([[]],0)=some (qbv n [] 0):=h;simp only [qip,vu7,h']
theorem q40 (W:Nat→Nat→Int) (g:Nat→Nat→Int):∀(d i:Nat),((vwo i d).flatMap fun a=>(vwo (a+1) (i+d - (a+1))).map fun b=>g a b).sum=qb6 g (vwo i d)
 | 0,i=>rfl
 | d+1,i=>by
  rw [vzc,vvw,qb6,qw1];have e:i+(d+1) - (i+1)=d:=by omega
  rw [e];congr 1;rw [←q40 W g d (i+1)];congr 1;refine qke fun a _=>?_
  rw [show i+1+d=i+(d+1) by omega]
theorem va8 (n:Nat) (g:Nat→Nat→Int):(qjt n (fun _ _=>true) g).sum=qb6 g (vuf n):=by
 have:=q40 (fun _ _=>0) g n 0;rw [vu6,←vug] at this;rw [←this];unfold qjt;rw [vug];congr 1;refine qke fun a _=>?_
 simp only [if_true];rw [vyw]
theorem qud (W:Nat→Nat→Int) (hW:WOk W) (n:Nat) (hn:n≤6) (l:List Int) (hl:l.length=n):qd1 (qa1 W n) l=some (qdu W l n):=by
 have hlen:=qp9 W n hn;have hgen:∀p∈qa1 W n,0≤p.I∧p.I.toNat < n∧0≤p.K∧p.K.toNat < n∧-1000≤p.Weight∧p.Weight≤1000:=by
  intro p hp;obtain ⟨i,k,h1,h2,rfl⟩:=qj4.1 hp;have:=hW.1 i k;simp only;omega
 have hstep:∀(k:Nat) (m:Int) (p:Pair),(qa1 W n)[k]?=some p→-1000000≤m→m≤1000000→qd7 (qa1 W n) l (m,(k:Int))=some (.next (m+qdc p.Weight (l.getD p.I.toNat 0 == l.getD p.K.toNat 0),((k+1:Nat):Int))):=by
  intro k m p hx hm1 hm2;have hk:=qan hx;obtain ⟨q1,q2,q3,q4,q5,q6⟩:=hgen p (vt9 hx);have gI:idx l p.I=some (l.getD p.I.toNat 0):=by
   conv=>lhs;rw [show p.I=((p.I.toNat:Nat):Int) by omega]
   refine qaa ?_;simp [vvx,vtp (show p.I.toNat < l.length by omega)]
  have gK:idx l p.K=some (l.getD p.K.toNat 0):=by
   conv=>lhs;rw [show p.K=((p.K.toNat:Nat):Int) by omega]
   refine qaa ?_;simp [vvx,vtp (show p.K.toNat < l.length by omega)]
  have w:=wqn k;have w1:vxc.wrap (m+p.Weight)=m+p.Weight:=qax (by omega) (by omega);have w2:vxc.wrap (m - p.Weight)=m - p.Weight:=qax (by omega) (by omega);simp only [qd7,if_pos (qaj hx),qaa hx,gI,gK,vu7,w,w1,w2];by_cases a1:p.Weight > 0
  ·have a2:¬p.Weight < 0:=by omega
   rcases vw2 (l.getD p.I.toNat 0 == l.getD p.K.toNat 0) with e | e
   ·simp only [if_pos a1,if_neg a2,e,Bool.not_true,vu7,vs4,if_false,qdc,if_true];congr 3;omega
   ·simp only [if_pos a1,if_neg a2,e,Bool.not_false,vu7,vs4,if_false,qdc,if_true];congr 3;omega
  ·by_cases a2:p.Weight < 0
   ·rcases vw2 (l.getD p.I.toNat 0 == l.getD p.K.toNat 0) with e | e
    ·simp only [if_neg a1,if_pos a2,e,vu7,vs4,if_false,qdc,if_true];congr 3;omega
    ·simp only [if_neg a1,if_pos a2,e,vu7,vs4,if_false,qdc];congr 3;omega
   ·have h0:p.Weight=0:=by omega
    simp only [if_neg a1,if_neg a2,vu7,vs4,if_false,qdc,h0];congr 3;simp
 have hsum:∀(l':List Pair) (m:Int),(∀p∈l',p∈qa1 W n)→l'.foldl (fun m p=>m+qdc p.Weight (l.getD p.I.toNat 0 == l.getD p.K.toNat 0)) m=m+(l'.map fun p=>qdc p.Weight (l.getD p.I.toNat 0 == l.getD p.K.toNat 0)).sum:=by
  intro l'
  induction l' with
  | nil=>intro m _;simp
  | cons p l' ih =>
   intro m h;rw [vxm,ih _ (fun q hq=>h q (by simp [hq])),vt5,List.sum_cons];omega
 have h:=qh1 (qa1 W n) (fun (m:Int) (k:Int)=>(m,k)) (qd7 (qa1 W n) l) (fun m p=>m+qdc p.Weight (l.getD p.I.toNat 0 == l.getD p.K.toNat 0)) id (fun k m=>0≤m∧m≤1000 * (k:Int)) (b0:=0) (s0:=(0,0)) rfl (by simp) (by
  intro k m p hx hk hm;have:=qs9 p.Weight (l.getD p.I.toNat 0 == l.getD p.K.toNat 0) (hgen p (vt9 hx)).2.2.2.2;exact ⟨hstep k m p hx (by omega) (by omega),by omega,by omega⟩) (by
  intro m _;simp only [qd7,if_neg (vyh _),id])
 simp only [qd1,h,id,vu7];rw [hsum _ 0 (fun p hp=>hp),Int.zero_add];congr 1;rw [qjy,←va8];unfold qa1;rw [qua];rfl
theorem vfg (W:Nat→Nat→Int) (hW:WOk W) (n:Nat) (hn:n≤6):∃l c,vap W n=some (l,c)∧qf6 (n:Int) (qa1 W n)=some (l,c,0):=by
 obtain ⟨l,c,ho,hmem,hcost,_⟩:=qpc W n;refine ⟨l,c,ho,?_⟩;have c1:¬((n:Int) > 10):=by omega
 have hlen:∀x∈qbv n [] 0,x.length=n:=fun x hx=>by simpa using (qnp n [] 0 x hx).1
 have hcount:(qbv n [] 0).length≤117649:=by
  refine vux (qrp n [] 0) ?_;have:(0+n+1) ^ n≤7 ^ 6:=vux (vzl (by omega) n) (vzm (by omega) (by omega));exact vux this (by decide)
 cases hA:qbv n [] 0 with
 | nil=>exact absurd hA (q8b n [] 0)
 | cons x xs =>
  have hx0:(qbv n [] 0)[0]?=some x:=by rw [hA];rfl
  have loop:∀(d k:Nat) (best:List Int),k+d=(qbv n [] 0).length→best∈qbv n [] 0→qag (qbx (qa1 W n) (qbv n [] 0)) (best,(k:Int))=some ((((qbv n [] 0).drop k).foldl (qkq fun y=>qdu W y n) (some (best,qdu W best n))).map (·.1)).get!:=by
   intro d
   induction d with
   | zero =>
    intro k best hk hb;have e:(qbv n [] 0).drop k=[]:=List.drop_of_length_le (by omega);have c:¬((k:Int) < ((qbv n [] 0).length:Int)):=by omega
    rw [e];exact qad (by simp only [qbx,if_neg c];rfl)
   | succ d ih =>
    intro k best hk hb;have hlt:k < (qbv n [] 0).length:=by omega
    have hy:(qbv n [] 0)[k]?=some (qbv n [] 0)[k]:=vtp hlt;have hym:=vt9 hy;have w:=wqn k;rw [qiq hy,vxm];by_cases hc:qdu W (qbv n [] 0)[k] n < qdu W best n
    ·rw [qaf (s':=((qbv n [] 0)[k],((k+1:Nat):Int))) (by simp only [qbx,if_pos (qaj hy),qaa hy,vu7,qud W hW n hn _ (hlen _ hym),qud W hW n hn _ (hlen _ hb),if_pos hc,w])];rw [ih (k+1) _ (by omega) hym];simp only [qkq,if_pos hc]
    ·rw [qaf (s':=(best,((k+1:Nat):Int))) (by simp only [qbx,if_pos (qaj hy),qaa hy,vu7,qud W hW n hn _ (hlen _ hym),qud W hW n hn _ (hlen _ hb),if_neg hc,w])];rw [ih (k+1) _ (by omega) hb];simp only [qkq,if_neg hc]
  have h:=loop ((qbv n [] 0).length - 1) 1 x (by rw [hA];simp;omega) (by rw [hA];simp);have ho':((qbv n [] 0).drop 1).foldl (qkq fun y=>qdu W y n) (some (x,qdu W x n))=some (l,c):=by
   rw [←ho];unfold vap;rw [hA];rfl
  rw [ho'] at h;have h':qag (qbx (qa1 W n) (qbv n [] 0)) (x,1)=some l:=h;simp only [qf6,q4z W hW n hn,vu7,bne_self_eq_false,vs4,if_false,if_neg c1,viu n hn,hx0,h',qud W hW n hn l (hlen l hmem),hcost]
structure Vis (R:Nat→Nat→Prop) (n v:Nat) (seen:List Bool) (out:List Int):Prop where
 len:seen.length=n
 nodup:out.Nodup
 mem:∀x∈out,0≤x∧x < (n:Int)∧Rch R v x.toNat
 seen:∀u,u < n→seen[u]?=some (decide ((u:Int)∈out))
def qby (l:List Nat):List Int:=l.map fun (k:Nat)=>(k:Int)
theorem qxp {l:List Nat} {x:Int}:x∈qby l↔∃k∈l,x=(k:Int):=by
 simp only [qby,vwj];exact ⟨fun ⟨k,h,e⟩=>⟨k,h,e.symm⟩,fun ⟨k,h,e⟩=>⟨k,h,e.symm⟩⟩
theorem Vis.small {R:Nat→Nat→Prop} {n v:Nat} {seen:List Bool} {out:List Int} (V:Vis R n v seen out):out.length≤n:=by
 have:=qog (l':=qby (vuf n)) V.nodup (by
  intro x hx;obtain ⟨h1,h2,_⟩:=V.mem x hx;exact qxp.2 ⟨x.toNat,vwl.2 (by omega),by omega⟩)
 simpa [qby] using this
theorem q7c {R:Nat→Nat→Prop} {n v:Nat} (hn:n≤1000) (L:List Int) (hL:∀x∈L,0≤x∧x < (n:Int)∧Rch R v x.toNat) (hlen:L.length≤1000000):∀(d k:Nat) (seen:List Bool) (out:List Int),k+d=L.length→Vis R n v seen out →
  ∃seen' out',qag (qhg L) (seen,out,(k:Int))=some (seen',out')∧Vis R n v seen' out'∧(∃e,out'=out++e)∧(∀j x,k≤j→L[j]?=some x→x∈out'):=by
 intro d
 induction d with
 | zero =>
  intro k seen out hk V;refine ⟨seen,out,qad ?_,V,⟨[],by simp⟩,?_⟩
  ·have c:¬((k:Int) < (L.length:Int)):=by omega
   simp only [qhg,if_neg c]
  ·intro j x hj hx;have:=qan hx;omega
 | succ d ih =>
  intro k seen out hk V;have hlt:k < L.length:=by omega
  have hx:L[k]?=some L[k]:=vtp hlt;obtain ⟨h1,h2,h3⟩:=hL _ (vt9 hx);have e0:L[k]=((L[k].toNat:Nat):Int):=by omega
  have hu:L[k].toNat < n:=by omega
  have w:=wqn k;have hs:idx seen L[k]=some (decide (L[k]∈out)):=by
   have:=V.seen _ hu;rw [←e0] at this
   conv=>lhs;rw [e0]
   exact qaa this
  by_cases hm:L[k]∈out
  ·obtain ⟨seen',out',q1,q2,⟨e,q3⟩,q4⟩:=ih (k+1) seen out (by omega) V;refine ⟨seen',out',?_,q2,⟨e,q3⟩,?_⟩
   ·rw [qaf (s':=(seen,out,((k+1:Nat):Int))) (by simp only [qhg,if_pos (qaj hx),qaa hx,vu7,hs,hm,decide_true,if_true,w])];exact q1
   ·intro j x hj hxj;rcases vzi hj with hlt' | rfl
    ·exact q4 j x hlt' hxj
    ·rw [hx] at hxj;cases hxj;rw [q3];exact vy0 _ hm
  ·have hroom:qao (out.length+1) 8=true:=qqd (by have:=V.small;omega);have V':Vis R n v (seen.set L[k].toNat true) (out++[L[k]]):=by
    refine ⟨by rw [vt2];exact V.len,?_,?_,?_⟩
    ·rw [vy4];refine ⟨V.nodup,by simp,?_⟩;intro a ha b hb hab;rw [vwm] at hb;subst hb;subst hab;exact hm ha
    ·intro x hxm;rcases vt7.1 hxm with h | h
     ·exact V.mem x h
     ·rw [vwm] at h;subst h;exact ⟨h1,h2,h3⟩
    ·intro u hu';rw [vv1];by_cases e:L[k].toNat=u
     ·subst e;rw [if_pos rfl,if_pos (by rw [V.len];exact hu')];congr 1;symm;rw [decide_eq_true_eq,←e0];simp
     ·rw [if_neg e,V.seen u hu'];congr 1;rw [vw3,decide_eq_true_eq,decide_eq_true_eq,vt7,vwm];constructor
      ·exact fun h=>.inl h
      ·rintro (h | h)
       ·exact h
       ·exact absurd (show L[k].toNat=u by omega) e
   obtain ⟨seen',out',q1,q2,⟨e,q3⟩,q4⟩:=ih (k+1) _ _ (by omega) V';refine ⟨seen',out',?_,q2,⟨[L[k]]++e,by rw [q3,vtc]⟩,?_⟩
   ·rw [qaf (s':=(seen.set L[k].toNat true,out++[L[k]],((k+1:Nat):Int))) (by simp only [qhg,if_pos (qaj hx),qaa hx,vu7,hs,hm,decide_false,vs4,if_false,hroom,if_true,w])];exact q1
   ·intro j x hj hxj;rcases vzi hj with hlt' | rfl
    ·exact q4 j x hlt' hxj
    ·rw [hx] at hxj;cases hxj;rw [q3];simp
theorem vnm {E:List Arr2_int} {n u:Nat} {l:List Int} (hl:(qu8 E n)[u]?=some l):l.length≤E.length:=by
 have hu:u < n:=by have:=qan hl;simpa [qu8] using this
 unfold qu8 at hl;rw [qp8 _ hu] at hl;cases hl;have h1:=q1a (l:=qn4 (qkj E u)) (l':=vw0 (qn4 (qkj E u))) ;have h2:(qn4 (qkj E u)).length=(qkj E u).length:=(qlj _).length_eq;have h3:=q1x E u;unfold vw0 vyk;rw [vtz];have:=vv7 (vyl (qn4 (qkj E u)).toArray) (vuf (qn4 (qkj E u)).length);rw [vv9] at this;omega
theorem q7d {n v:Nat} (hn:n≤1000) (E:List Arr2_int) (hE:E.length≤100000) (h:q1w n E):∀(d i:Nat) (seen:List Bool) (out:List Int),i+d=n→i≤out.length→Vis (qez E) n v seen out →
  (∀j x,j < i→out[j]?=some x→∀w:Nat,w < n→qez E x.toNat w→(w:Int)∈out) →
  ∃out' seen',qag (qhh (qu8 E n)) (seen,out,(i:Int))=some out'∧Vis (qez E) n v seen' out'∧(∀x∈out,x∈out')∧(∀x∈out',∀w:Nat,w < n→qez E x.toNat w→(w:Int)∈out'):=by
 intro d
 induction d with
 | zero =>
  intro i seen out hk hi V hc;have hs:=V.small;have c:¬((i:Int) < ((out.length:Nat):Int)):=by omega
  refine ⟨out,seen,qad (by simp only [qhh,if_neg c]),V,fun x hx=>hx,?_⟩;intro x hx w hw he;obtain ⟨j,hj,e⟩:=vy2.1 hx;exact hc j x (by omega) (by rw [vtp hj,e]) w hw he
 | succ d ih =>
  intro i seen out hk hi V hc;by_cases hlt:i < out.length
  ·have c:((i:Int) < ((out.length:Nat):Int)):=by omega
   have hx:out[i]?=some out[i]:=vtp hlt;obtain ⟨h1,h2,h3⟩:=V.mem _ (vt9 hx);have e0:out[i]=((out[i].toNat:Nat):Int):=by omega
   have hu:out[i].toNat < n:=by omega
   have ha:(qu8 E n)[out[i].toNat]?=some ((qu8 E n).getD out[i].toNat []):=by
    have:out[i].toNat < (qu8 E n).length:=by simp [qu8];omega
    simp [vys,vtp this]
   have hidx:idx (qu8 E n) out[i]=some ((qu8 E n).getD out[i].toNat []):=by
    conv=>lhs;rw [e0]
    exact qaa ha
   have hlen:=vnm ha;obtain ⟨seen',out',q1,q2,⟨e,q3⟩,q4⟩:=q7c (R:=qez E) (n:=n) (v:=v) hn ((qu8 E n).getD out[i].toNat []) (by
    intro x hxm;obtain ⟨w,rfl,hw,he⟩:=(ve9 hu h ha).1 hxm;refine ⟨by omega,by omega,?_⟩;rw [vxb];exact h3.step he) (by omega) ((qu8 E n).getD out[i].toNat []).length 0 seen out (by omega) V
   simp only [vw7] at q1;have hpre:∀j x,j < out.length→out'[j]?=some x→out[j]?=some x:=by
    intro j x hj hx';rw [q3,vtm hj] at hx';exact hx'
   obtain ⟨out2,seen2,r1,r2,r3,r4⟩:=ih (i+1) seen' out' (by omega) (by rw [q3,vtx];omega) q2 (by
    intro j x hj hx' w hw he;have hx2:=hpre j x (by omega) hx';rcases vzi (vzh hj) with hlt' | rfl
    ·rw [q3];exact vy0 _ (hc j x hlt' hx2 w hw he)
    ·rw [hx] at hx2;cases hx2;have hm:(w:Int)∈(qu8 E n).getD out[j].toNat []:=(ve9 hu h ha).2 ⟨w,rfl,hw,he⟩;obtain ⟨m,hm1,hm2⟩:=vy2.1 hm;exact q4 m _ (vww _) (by rw [vtp hm1,hm2]))
   refine ⟨out2,seen2,?_,r2,fun x hxm=>r3 x (by rw [q3];exact vy0 _ hxm),r4⟩;rw [qaf (s':=(seen',out',((i+1:Nat):Int))) (by simp only [qhh,if_pos c,qaa hx,hidx,vu7,q1,wqn i])];exact r1
  ·have c:¬((i:Int) < ((out.length:Nat):Int)):=by omega
   refine ⟨out,seen,qad (by simp only [qhh,if_neg c]),V,fun x hx=>hx,?_⟩;intro x hx w hw he;obtain ⟨j,hj,e⟩:=vy2.1 hx;exact hc j x (by omega) (by rw [vtp hj,e]) w hw he
theorem vfh {l:List Nat} (h:l.Pairwise (· < ·)):(qby l).Pairwise (· < ·):=by
 unfold qby;rw [vzb];exact h.imp fun h=>by omega
theorem viv {n v:Nat} (hn:n≤1000) (hv:v < n) (E:List Arr2_int) (hE:E.length≤100000) (h:q1w n E):qln (qu8 E n) (v:Int)=some (qby (ql0 (qez E) n v)):=by
 have hl:(qu8 E n).length=n:=by simp [qu8]
 have h0:(0:Int)≤((qu8 E n).length:Int):=by omega
 have hr:qao (qu8 E n).length 1=true:=by rw [hl];unfold qao;simp only [decide_eq_true_eq];omega
 have hg:idx (vuh (qu8 E n).length false) (v:Int)=some false:=by
  refine qaa ?_;rw [hl,vtu,if_pos hv]
 have V0:Vis (qez E) n v ((vuh (qu8 E n).length false).set v true) [(v:Int)]:=by
  rw [hl];refine ⟨by simp,by simp,?_,?_⟩
  ·intro x hx;rw [vwm] at hx;subst hx;exact ⟨by omega,by omega,by rw [vxb];exact .refl⟩
  ·intro u hu;rw [vv1,vtu];by_cases e:v=u
   ·subst e;simp [hu]
   ·rw [if_neg e,if_pos hu];congr 1;symm;rw [decide_eq_false_iff_not,vwm];omega
 obtain ⟨out,seen,q1,q2,q3,q4⟩:=q7d hn E hE h n 0 _ _ (by omega) (by simp) V0 (by intro j x hj;omega);simp only [vw7] at q1;have hsm:=q2.small;have hsrt:qwm out=some (qn4 out):=if_pos (by omega);have hmem:∀x,x∈out↔x∈qby (ql0 (qez E) n v):=by
  intro x;rw [qxp];constructor
  ·intro hx;obtain ⟨h1,h2,h3⟩:=q2.mem x hx;exact ⟨x.toNat,qfe.2 ⟨by omega,h3⟩,by omega⟩
  ·rintro ⟨k,hk,rfl⟩;obtain ⟨hkn,hkr⟩:=qfe.1 hk;have:=hkr.closed (S:=fun u=>u < n→(u:Int)∈out) (fun _=>q3 _ (by simp)) (by
    intro x y hx hxy hy;have hxn:x < n:=by
     obtain ⟨_,h2,_,_⟩:=h _ hxy;simp only at h2;omega
    have hin:=hx hxn;exact q4 _ hin y hy (by rw [vxb];exact hxy))
   exact this hkn
 have hasc:=vfh (qw3 (qez E) n v);have hperm:(qn4 out).Perm (qby (ql0 (qez E) n v)):=(qlj out).trans ((List.perm_ext_iff_of_nodup q2.nodup (hasc.imp fun h=>by omega)).2 hmem);have heq:qn4 out=qby (ql0 (qez E) n v):=hperm.eq_of_pairwise (fun a b _ _ h1 h2=>Int.le_antisymm h1 h2) (qwo out) (hasc.imp fun h=>by omega);simp only [qln,if_pos h0,hr,if_true,vu7,hg,vxb,q1,hsrt,heq]
theorem vfi {n:Nat} (hn:n≤1000) (L:List Nat) (hL:∀x∈L,x < n) (hlen:L.length≤1000000) (p:Nat→Bool):qag (qdj (qby L)) ((vuf n).map p,0)=some ((vuf n).map fun u=>p u || decide (u∈L)):=by
 have key:∀(d k:Nat),k+d=L.length→qag (qdj (qby L)) ((vuf n).map (fun u=>p u || decide (u∈L.take k)),(k:Int))=some ((vuf n).map fun u=>p u || decide (u∈L)):=by
  intro d
  induction d with
  | zero =>
   intro k hk;obtain rfl:k=L.length:=by omega
   rw [vx5];exact qad (by simp [qdj,qby])
  | succ d ih =>
   intro k hk;have hlt:k < L.length:=by omega
   have hx:L[k]?=some L[k]:=vtp hlt;have hxn:=hL _ (vt9 hx);have hx':(qby L)[k]?=some ((L[k]:Nat):Int):=by simp [qby,hx]
   have hg:=qaa (qp8 (fun u=>p u || decide (u∈L.take k)) hxn);have ht:L.take (k+1)=L.take k++[L[k]]:=by rw [vx4,hx];rfl
   rw [qaf (s':=((vuf n).map (fun u=>p u || decide (u∈L.take (k+1))),((k+1:Nat):Int))) (by
    simp only [qdj,if_pos (qaj hx'),qaa hx',hg,vu7,vxb,wqn k];congr 3;have hs:=qf8 (fun u=>p u || decide (u∈L.take k)) (fun u=>p u || decide (u∈L.take (k+1))) hxn (fun u hu hne=>by
     rw [ht];congr 1;rw [vw3,decide_eq_true_eq,decide_eq_true_eq,vt7,vwm];exact ⟨fun h=>.inl h,fun h=>h.resolve_right hne⟩)
    have hmk:L[k]∈L.take (k+1):=by rw [ht];exact vy1 _ (vwm.2 rfl)
    rw [←hs,decide_eq_true hmk,Bool.or_true])]
   exact ih (k+1) (by omega)
 have h:=key L.length 0 (by omega);simpa using h
open Classical in
def qm6 (R:Nat→Nat→Prop) (k:Nat):List Nat:=(vuf k).filter fun v=>decide (∀u,u < v→¬Rch R u v)
theorem q7e (R:Nat→Nat→Prop) (n:Nat):qm6 R n=qmn R n:=rfl
open Classical in
theorem va9 {n:Nat} (hn:n≤1000) (E:List Arr2_int) (hE:E.length≤100000) (h:q1w n E):∀(d k:Nat),k+d=n →
  qag (qdk (n:Int) (qu8 E n)) ((vuf n).map (fun x=>decide (∃u,u < k∧Rch (qez E) u x)),(qm6 (qez E) k).map (fun v=>qby (ql0 (qez E) n v)),(k:Int))=some ((qmn (qez E) n).map fun v=>qby (ql0 (qez E) n v)):=by
 intro d
 induction d with
 | zero =>
  intro k hk
  obtain rfl:k=n:=by omega
  exact qad (by simp only [qdk,if_neg (vyh _),q7e])
 | succ d ih =>
  intro k hk
  have hlt:k < n:=by omega
  have c:((k:Int) < (n:Int)):=by omega
  have hg:=qaa (qp8 (fun x=>decide (∃u,u < k∧Rch (qez E) u x)) hlt)
  have w:=wqn k
  have hsucc:qm6 (qez E) (k+1)=qm6 (qez E) k++(if decide (∀u,u < k→¬Rch (qez E) u k) then [k] else []):=by
   unfold qm6
   rw [vxw,vyp]
   congr 1
   simp only [vyr,List.filter_nil]
  by_cases hd:∃u,u < k∧Rch (qez E) u k
  ·have hno:¬∀u,u < k→¬Rch (qez E) u k:=fun q=>by
    obtain ⟨u,hu,hr⟩:=hd
    exact q u hu hr
   have hfun:(fun x=>decide (∃u,u < k+1∧Rch (qez E) u x))=fun x=>decide (∃u,u < k∧Rch (qez E) u x):=by
    funext x
    rw [vw3,decide_eq_true_eq,decide_eq_true_eq]
    constructor
    ·rintro ⟨u,hu,hr⟩
     rcases vzi (vzh hu) with h1 | rfl
     ·exact ⟨u,h1,hr⟩
     ·obtain ⟨w,hw,hwr⟩:=hd
      exact ⟨w,hw,hwr.trans hr⟩
    ·rintro ⟨u,hu,hr⟩
     exact ⟨u,by omega,hr⟩
   have hi:=ih (k+1) (by omega)
   rw [hfun,hsucc,decide_eq_false hno] at hi
   simp only [vs4,if_false,vtd] at hi
   rw [qaf (s':=((vuf n).map (fun x=>decide (∃u,u < k∧Rch (qez E) u x)),(qm6 (qez E) k).map (fun v=>qby (ql0 (qez E) n v)),((k+1:Nat):Int))) (by simp only [qdk,if_pos c,hg,vu7,decide_eq_true hd,if_true,w])]
   exact hi
  ·have hyes:∀u,u < k→¬Rch (qez E) u k:=fun u hu hr=>hd ⟨u,hu,hr⟩
   have hm:=vfi hn (ql0 (qez E) n k) (fun x hx=>(qfe.1 hx).1) (by
    have:(ql0 (qez E) n k).length≤(vuf n).length:=vv7 _ _
    rw [vv9] at this;omega) (fun x=>decide (∃u,u < k∧Rch (qez E) u x))
   have hfun:(vuf n).map (fun u=>decide (∃w,w < k∧Rch (qez E) w u) || decide (u∈ql0 (qez E) n k))=(vuf n).map fun x=>decide (∃u,u < k+1∧Rch (qez E) u x):=by
    refine vwc fun x hx=>?_
    have hxn:=vwl.1 hx
    rw [vw3,vs7,decide_eq_true_eq,decide_eq_true_eq,decide_eq_true_eq]
    constructor
    ·rintro (⟨u,hu,hr⟩ | hm)
     ·exact ⟨u,by omega,hr⟩
     ·exact ⟨k,by omega,(qfe.1 hm).2⟩
    ·rintro ⟨u,hu,hr⟩
     rcases vzi (vzh hu) with h1 | rfl
     ·exact .inl ⟨u,h1,hr⟩
     ·exact .inr (qfe.2 ⟨hxn,hr⟩)
   rw [hfun] at hm
   have hroom:qao (((qm6 (qez E) k).map (fun v=>qby (ql0 (qez E) n v))).length+1) 24=true:=by
    have:(qm6 (qez E) k).length≤(vuf k).length:=vv7 _ _
    rw [vv9] at this
    unfold qao
    simp only [vtz,decide_eq_true_eq];omega
   have hi:=ih (k+1) (by omega)
   rw [hsucc,decide_eq_true hyes,if_pos rfl,vt4] at hi
   rw [qaf (s':=((vuf n).map (fun x=>decide (∃u,u < k+1∧Rch (qez E) u x)),(qm6 (qez E) k).map (fun v=>qby (ql0 (qez E) n v))++[qby (ql0 (qez E) n k)],((k+1:Nat):Int))) (by simp only [qdk,if_pos c,hg,vu7,decide_eq_false hd,vs4,if_false,viv hn hlt E hE h,hm,hroom,if_true,w])]
   exact hi
open Classical in
theorem q11 {n:Nat} (hn:n≤1000) (E:List Arr2_int) (hE:E.length≤20000) (h:q1w n E):qfk (n:Int) E=some ((qf7 (qez (E++E.map qqh)) n).map qby,0):=by
 have h':q1w n (E++E.map qqh):=by
  intro e he
  rcases vt7.1 he with he | he
  ·exact h e he
  ·obtain ⟨e',he',rfl⟩:=vwj.1 he
   obtain ⟨h1,h2,h3,h4⟩:=h e' he'
   exact ⟨h3,h4,h1,h2⟩
 have h0:(0:Int)≤(n:Int):=by omega
 have hr:qao n 1=true:=by unfold qao;simp only [decide_eq_true_eq];omega
 have hl:(E++E.map qqh).length≤100000:=by simp;omega
 have hloop:=va9 hn (E++E.map qqh) hl h' n 0 (by omega)
 have e1:∀f:Nat→Bool,(∀x,f x=false)→(vuf n).map f=vuh n false:=by
  intro f hf
  refine vtj fun j=>?_
  rw [vts,vtu]
  by_cases hj:j < n
  ·rw [vxn hj,if_pos hj];simp [hf]
  ·rw [vtq (by simp;omega),if_neg hj];rfl
 rw [e1 _ (fun x=>decide_eq_false (by rintro ⟨u,hu,_⟩;omega))] at hloop
 have e2:(qm6 (qez (E++E.map qqh)) 0).map (fun v=>qby (ql0 (qez (E++E.map qqh)) n v))=[]:=rfl
 rw [e2] at hloop
 simp only [vw7] at hloop
 simp only [qfk,ve7 n E hn hE h,vu7,bne_self_eq_false,vs4,if_false,q7b E (by omega),va6 E (E.map qqh) (by omega) (by simp;omega),q1y n _ hn hl h',if_pos h0,vxb,hr,if_true,hloop,qf7,vyz]
 rfl
theorem viw {l:List Int} (h:nfL l):∀(k c:Nat),k≤l.length→c < qct (l.take k)→(c:Int)∈l.take k:=by
 intro k
 induction k with
 | zero=>intro c _ hc;simp [qct] at hc
 | succ k ih =>
  intro c hk hc;have hx:l[k]?=some l[k]:=vtp (by omega);have h0:=h.1 _ (vt9 hx);have hle:=h.2 k _ hx;rw [qj5 l k hx] at hc;rw [vx4,hx];by_cases hcu:c < qct (l.take k)
  ·exact vy0 _ (ih c (by omega) hcu)
  ·refine vy1 _ ?_;simp only [vzp,vwm];omega
theorem nf_lt {l:List Int} (h:nfL l) {k:Nat} {x:Int} (hx:x∈l.take k):x.toNat < qct (l.take k):=by
 obtain ⟨i,hi,e⟩:=vy2.1 hx;have:(l.take k)[i]?=some x:=by rw [vtp hi,e]
 exact qsu this
theorem vix {l:List Int} (h:nfL l) (hl:l.length≤1000):qhi l=some l:=by
 have h0:(0:Int)≤(l.length:Int):=by omega
 have hr:qao l.length 8=true:=qqd (by omega);have key:∀(d k:Nat) (m:List (Int×Int)),k+d=l.length→(∀x,qo7 m x=if 0≤x∧x.toNat < qct (l.take k) then some x else none)→m.length=qct (l.take k)→qag (qet l) (m,l.take k++vuh (l.length - k) 0,(k:Int))=some l:=by
  intro d
  induction d with
  | zero =>
   intro k m hk _ _;obtain rfl:k=l.length:=by omega
   exact qad (by simp [qet])
  | succ d ih =>
   intro k m hk hm hml;have hlt:k < l.length:=by omega
   have hx:l[k]?=some l[k]:=vtp hlt;have h1:=h.1 _ (vt9 hx);have hle:=h.2 k _ hx;have w:=wqn k;have hg:idx (l.take k++vuh (l.length - k) 0) (k:Int)=some 0:=by
    refine qaa ?_;have:(l.take k).length=k:=by rw [vt3];omega
    rw [vyt,this,if_neg (by omega),vtu,if_pos (by omega)]
   have qm9:(l.take k++vuh (l.length - k) (0:Int)).set k l[k]=l.take (k+1)++vuh (l.length - (k+1)) 0:=by
    have:=ve8 (fun x:Int=>x) 0 l hx;simpa using this
   by_cases hc:l[k].toNat < qct (l.take k)
   ·have hmk:qo7 m l[k]=some l[k]:=by rw [hm,if_pos ⟨h1,hc⟩]
    have hu:qct (l.take (k+1))=qct (l.take k):=by rw [qj5 l k hx];omega
    rw [qaf (s':=(m,l.take (k+1)++vuh (l.length - (k+1)) 0,((k+1:Nat):Int))) (by
     simp only [qet,if_pos (qaj hx),qaa hx,vu7,hmk,Option.isSome_some,if_true,hg,vu9,vxb,qm9,w])]
    exact ih (k+1) m (by omega) (by rw [hu];exact hm) (by rw [hu];exact hml)
   ·have hmk:qo7 m l[k]=none:=by rw [hm,if_neg (by omega)]
    have he:(m.length:Int)=l[k]:=by omega
    have hu:qct (l.take (k+1))=qct (l.take k)+1:=by rw [qj5 l k hx];omega
    rw [qaf (s':=(qvn m l[k] (m.length:Int),l.take (k+1)++vuh (l.length - (k+1)) 0,((k+1:Nat):Int))) (by
     simp only [qet,if_pos (qaj hx),qaa hx,vu7,hmk,Option.isSome_none,vs4,if_false,hg,vxb,w];rw [he,qm9])]
    refine ih (k+1) _ (by omega) (fun x=>?_) ?_
    ·rw [qxh,hm,hu];by_cases e:x=l[k]
     ·rw [if_pos e,if_pos (by omega),he,e]
     ·rw [if_neg e];by_cases q:0≤x∧x.toNat < qct (l.take k)
      ·rw [if_pos q,if_pos (by omega)]
      ·rw [if_neg q,if_neg (by omega)]
    ·rw [vij m _ _ hmk,hu,hml]
 have hk:=key l.length 0 [] (by omega) (by
  intro x;rw [if_neg (by simp [qct])];rfl) (by simp [qct])
 simp only [vum,vue,vu5,vw7] at hk;simp only [qhi,if_pos h0,hr,if_true,hk,vu7]
def qvs (r:List Int) (k c:Nat):List Nat:=(vuf k).filter fun i=>decide (r.getD i 0=(c:Int))
def qko (r:List Int) (k:Nat):List (List Int):=(vuf (qct (r.take k))).map fun c=>qby (qvs r k c)
theorem qtb (r:List Int) (k c:Nat):qvs r (k+1) c=qvs r k c++if r.getD k 0=(c:Int) then [k] else []:=by
 unfold qvs;rw [vxw,vyp];congr 1;by_cases h:r.getD k 0=(c:Int)
 ·rw [if_pos h,vyr,if_pos (decide_eq_true h)];rfl
 ·rw [if_neg h,vyr,if_neg (by rw [decide_eq_true_eq];exact h)];rfl
theorem viy {r:List Int} (h:nfL r) (hl:r.length≤1000):qag (qem r) ([],0)=some (qko r r.length):=by
 have key:∀(d k:Nat),k+d=r.length→qag (qem r) (qko r k,(k:Int))=some (qko r r.length):=by
  intro d
  induction d with
  | zero =>
   intro k hk;obtain rfl:k=r.length:=by omega
   exact qad (by simp only [qem,if_neg (vyh _)])
  | succ d ih =>
   intro k hk;have hlt:k < r.length:=by omega
   have hx:r[k]?=some r[k]:=vtp hlt;have hxd:r.getD k 0=r[k]:=by simp [vvx,hx]
   have h1:=h.1 _ (vt9 hx);have hle:=h.2 k _ hx;have hgl:(qko r k).length=qct (r.take k):=by simp [qko]
   have w:=wqn k;have hus:qct (r.take k)≤1000:=by
    have:(r.take k).length≤1000:=by rw [vt3];omega
    have hh:∀(l:List Int) (m:Nat),(∀x∈l,x.toNat≤1000)→True:=fun _ _ _=>trivial
    have hnf:nfL (r.take k):=⟨fun x hx=>h.1 x (vub hx),fun j x hj=>by
     have hjk:j < k:=by have:=qan hj;rw [vt3] at this;omega
     rw [vtv,if_pos hjk] at hj;have:=h.2 j x hj
     rwa [List.take_take,vws (by omega)]⟩
    have:=quc hnf;omega
   have hml:∀c,(qby (qvs r k c)).length≤k:=by
    intro c;unfold qby qvs;rw [vtz];have:=vv7 (fun i=>decide (r.getD i 0=(c:Int))) (vuf k)
    rwa [vv9] at this
   by_cases hc:r[k].toNat < qct (r.take k)
   ·have hne:(r[k] == (((qko r k).length:Nat):Int))=false:=by rw [hgl,beq_eq_false_iff_ne];omega
    have hu:qct (r.take (k+1))=qct (r.take k):=by rw [qj5 r k hx];omega
    have hg:idx (qko r k) r[k]=some (qby (qvs r k r[k].toNat)):=by
     conv=>lhs;rw [show r[k]=((r[k].toNat:Nat):Int) by omega]
     exact qaa (qj3 _ hc)
    have hroom:qao ((qby (qvs r k r[k].toNat)).length+1) 8=true:=qqd (by have:=hml r[k].toNat;omega);have qm9:(qko r k).set r[k].toNat (qby (qvs r k r[k].toNat)++[(k:Int)])=qko r (k+1):=by
     unfold qko;rw [hu];have:=qf8 (fun c=>qby (qvs r k c)) (fun c=>qby (qvs r (k+1) c)) hc (fun u hu hne=>by
      rw [qtb,hxd,if_neg (by omega),vtd])
     rw [←this,qtb,hxd,if_pos (by omega)];simp [qby]
    rw [qaf (s':=(qko r (k+1),((k+1:Nat):Int))) (by
     simp only [qem,if_pos (qaj hx),qaa hx,vu7,hne,vs4,if_false,hg,hroom,if_true,qm9,w])]
    exact ih (k+1) (by omega)
   ·have he:r[k]=((qct (r.take k):Nat):Int):=by omega
    have heq:(r[k] == (((qko r k).length:Nat):Int))=true:=by rw [hgl,beq_iff_eq,he]
    have hu:qct (r.take (k+1))=qct (r.take k)+1:=by rw [qj5 r k hx];omega
    have hr1:qao ((qko r k).length+1) 24=true:=by unfold qao;rw [hgl];simp only [decide_eq_true_eq];omega
    have hg:idx (qko r k++[[]]) r[k]=some []:=by
     rw [he];refine qaa ?_;rw [vyt,hgl,if_neg (by omega),vwu];rfl
    have hr2:qao (([]:List Int).length+1) 8=true:=qqd (by simp);have qm9:(qko r k++[[]]).set r[k].toNat ([]++[(k:Int)])=qko r (k+1):=by
     have htn:r[k].toNat=qct (r.take k):=by omega
     rw [htn,vx1 _ _ (by omega),hgl,vwu,vzd];unfold qko;rw [hu,vxw,vt4,vxp];congr 1
     ·refine vwc fun c hc'=>?_
      have:=vwl.1 hc';rw [qtb,hxd,if_neg (by omega),vtd]
     ·rw [qtb,hxd,if_pos he];have:qvs r k (qct (r.take k))=[]:=by
       unfold qvs;rw [List.filter_eq_nil_iff];intro i hi hq;have hik:=vwl.1 hi;rw [decide_eq_true_eq] at hq;have hri:r[i]?=some (r.getD i 0):=by simp [vvx,vtp (show i < r.length by omega)]
       have hm:r.getD i 0∈r.take k:=by
        refine vt9 (i:=i) ?_;rw [vtv,if_pos hik];exact hri
       have:=nf_lt h hm;omega
      rw [this];rfl
    rw [qaf (s':=(qko r (k+1),((k+1:Nat):Int))) (by
     simp only [qem,if_pos (qaj hx),qaa hx,vu7,heq,if_true,hr1,hg,hr2,qm9,w])]
    exact ih (k+1) (by omega)
 have hk:=key r.length 0 (by omega);have e0:qko r 0=[]:=by simp [qko,qct]
 rw [e0] at hk;simpa using hk
def qks (r:List Int) (C:List Nat):List (List Nat):=(vuf (qct r)).map fun c=>(qvs r r.length c).map fun i=>C.getD i 0
def wT (t:Table) (l:Linkage) (a b:Nat):Int:=if a=b then 0 else if mT t l (min a b) (max a b) then 1 else -1
theorem vfj (t:Table) (l:Linkage):WOk (wT t l):=by
 refine ⟨fun i k=>?_,fun i k=>?_,fun i=>by simp [wT]⟩
 ·unfold wT;split
  ·omega
  ·split <;> omega
 ·unfold wT;by_cases h:i=k
  ·rw [if_pos h,if_pos h.symm]
  ·rw [if_neg h,if_neg (show ¬k=i from fun e=>h e.symm),Nat.min_comm,Nat.max_comm]
theorem viz {W:Nat→Nat→Int} (h:WOk W) (C:List Nat):WOk (qjo W C):=⟨fun i k=>h.1 _ _,fun i k=>h.2.1 _ _,fun i=>h.2.2 _⟩
def vfk (t:Table) (l:Linkage) (M:List (Arr2_int×Bool)):Prop:=∀a b:Nat,a < b→b < t.Rows.length→(qo7 M ⟨(a:Int),(b:Int)⟩).getD false=mT t l a b
theorem q41 {C:List Nat} {i:Nat} (h:i < C.length):(qby C)[i]?=some ((C.getD i 0:Nat):Int):=by
 simp [qby,vvx,vtp h]
theorem qtc {C:List Nat} (h:C.Pairwise (· < ·)) {i k:Nat} (hik:i < k) (hk:k < C.length):C.getD i 0 < C.getD k 0:=by
 have:=(vy9.1 h) i k (by omega) hk hik;simpa [vvx,vtp hk,vtp (show i < C.length by omega)] using this
theorem q8w {n:Nat} (h:n≤1000000):qao n 24=true:=by
 unfold qao;simp only [decide_eq_true_eq];omega
theorem q7f {t:Table} {l:Linkage} {M:List (Arr2_int×Bool)} (hM:vfk t l M) {C:List Nat} (hC:C.Pairwise (· < ·)) (hCn:∀x∈C,x < t.Rows.length) (hn:C.length≤6) :
  qag (qev (qby C) M) ([],0)=some (qa1 (qjo (wT t l) C) C.length):=by
 have hlen:(qby C).length=C.length:=by simp [qby]
 have qyf:∀(i:Nat),i < C.length→∀(d k:Nat) (out:List Pair),i < k→k+d=C.length→out.length+d≤1000→qag (qeu (qby C) M (i:Int)) (out,(k:Int))=some (out++(vwo k d).flatMap fun (j:Nat)=>[(⟨(i:Int),(j:Int),qjo (wT t l) C i j⟩:Pair)]):=by
  intro i hi d
  induction d with
  | zero =>
   intro k out _ hk _;have c:¬((k:Int) < ((qby C).length:Int)):=by omega
   rw [qad (t:=out) (by simp only [qeu,if_neg c])];simp
  | succ d ih =>
   intro k out hik hk hl;have hk':k < C.length:=by omega
   have c:((k:Int) < ((qby C).length:Int)):=by omega
   have hr:qao (out.length+1) 24=true:=q8w (by omega);have hlt:=qtc hC hik hk';have hbn:C.getD k 0 < t.Rows.length:=hCn _ (vt9 (i:=k) (by simp [vvx,vtp hk']));have hm:=hM _ _ hlt hbn;have w:=wqn k;have hw:qjo (wT t l) C i k=if mT t l (C.getD i 0) (C.getD k 0)=true then 1 else -1:=by
    unfold qjo wT;rw [if_neg (by omega),vws (by omega),vzj (by omega)]
   have hb:qeu (qby C) M (i:Int) (out,(k:Int))=some (.next (out++[(⟨(i:Int),(k:Int),qjo (wT t l) C i k⟩:Pair)],((k+1:Nat):Int))):=by
    simp only [qeu,if_pos c,qaa (q41 hi),qaa (q41 hk'),vu7,hm,hr,if_true,w,hw];cases mT t l (C.getD i 0) (C.getD k 0) <;> rfl
   rw [qaf hb,ih (k+1) _ (by omega) (by omega) (by rw [vtx,vwa];omega),vzc,vvw,vtc]
 have outer:=qlc (qev (qby C) M) (fun i=>(vwo (i+1) (C.length - (i+1))).flatMap fun (k:Nat)=>if true=true then [(⟨(i:Int),(k:Int),qjo (wT t l) C i k⟩:Pair)] else []) C.length 100 6 (by
  intro i out hi hl;have c:((i:Int) < ((qby C).length:Int)):=by omega
  have w:=wqn i;have hin:=qyf i hi (C.length - (i+1)) (i+1) out (by omega) (by omega) (by omega);simp only [qev,if_pos c,w,hin,vu7,if_true]) (by
  intro i _;have:=qj2 (fun (k:Nat)=>if true=true then [(⟨(i:Int),(k:Int),qjo (wT t l) C i k⟩:Pair)] else []) 1 (vwo (i+1) (C.length - (i+1))) (fun k _=>by simp);rw [vyv] at this;omega) (by
  intro out;have c:¬((C.length:Int) < ((qby C).length:Int)):=by omega
  simp only [qev,if_neg c]) C.length 0 [] (by omega) (by simp;omega)
 simp only [vw7,vue] at outer;exact outer
theorem q42 (comp x:List Int) (hx:∀y∈x,0≤y∧y < (comp.length:Int)) (hlen:x.length≤1000) (k:Nat):∀(d j:Nat) (G:List (List Int)),j+d=x.length→k < G.length→G[k]?=some ((x.take j).map (fun y=>comp.getD y.toNat 0)++x.drop j) →
  qag (qgq comp (k:Int) x) (G,(j:Int))=some (G.set k (x.map fun y=>comp.getD y.toNat 0)):=by
 intro d
 induction d with
 | zero =>
  intro j G hj hk hG;obtain rfl:j=x.length:=by omega
  have c:¬((x.length:Int) < ((x.length:Nat):Int)):=by omega
  rw [qad (t:=G) (by simp only [qgq,if_neg c])];congr 1;refine vtj fun i=>?_
  rw [vv1];by_cases e:k=i
  ·subst e;rw [if_pos rfl,if_pos hk,hG];simp
  ·rw [if_neg e]
 | succ d ih =>
  intro j G hj hk hG;have hlt:j < x.length:=by omega
  have hxj:x[j]?=some x[j]:=vtp hlt;obtain ⟨h1,h2⟩:=hx _ (vt9 hxj);have c:((j:Int) < ((x.length:Nat):Int)):=by omega
  have w:=wqn j;have hl:((x.take j).map (fun y=>comp.getD y.toNat 0)).length=j:=by rw [vtz,vt3];omega
  have g2:idx ((x.take j).map (fun y=>comp.getD y.toNat 0)++x.drop j) (j:Int)=some x[j]:=by
   refine qaa ?_;rw [vyt,hl,if_neg (by omega),vwu,vto,Nat.add_zero,hxj]
  have g3:idx comp x[j]=some (comp.getD x[j].toNat 0):=by
   conv=>lhs;rw [show x[j]=((x[j].toNat:Nat):Int) by omega]
   refine qaa ?_;simp [vvx,vtp (show x[j].toNat < comp.length by omega)]
  have qm9:((x.take j).map (fun y=>comp.getD y.toNat 0)++x.drop j).set j (comp.getD x[j].toNat 0)=(x.take (j+1)).map (fun y=>comp.getD y.toNat 0)++x.drop (j+1):=by
   rw [vx1 _ _ (by omega),hl,vwu,qiq hxj,vzd,vx4,hxj,vzp,vt4,vxp,vtc,vx2]
  rw [qaf (s':=(G.set k ((x.take (j+1)).map (fun y=>comp.getD y.toNat 0)++x.drop (j+1)),((j+1:Nat):Int))) (by
   simp only [qgq,if_pos c,qaa hG,g2,g3,vu7,vxb,qm9,w])]
  rw [ih (j+1) _ (by omega) (by rw [vt2];exact hk) (by rw [vv1,if_pos rfl,if_pos hk]),List.set_set]
theorem q43 (comp:List Int) (out:List (List Int)) (ho:∀x∈out,(∀y∈x,0≤y∧y < (comp.length:Int))∧x.length≤1000) (hlen:out.length≤1000):qag (qd4 comp out) (out,0)=some (out.map fun x=>x.map fun y=>comp.getD y.toNat 0):=by
 have key:∀(d k:Nat),k+d=out.length→qag (qd4 comp out) ((out.take k).map (fun x=>x.map fun y=>comp.getD y.toNat 0)++out.drop k,(k:Int))=some (out.map fun x=>x.map fun y=>comp.getD y.toNat 0):=by
  intro d
  induction d with
  | zero =>
   intro k hk;obtain rfl:k=out.length:=by omega
   exact qad (by simp [qd4])
  | succ d ih =>
   intro k hk;have hlt:k < out.length:=by omega
   have hx:out[k]?=some out[k]:=vtp hlt;obtain ⟨h1,h2⟩:=ho _ (vt9 hx);have c:((k:Int) < ((out.length:Nat):Int)):=by omega
   have hl:((out.take k).map (fun x=>x.map fun y=>comp.getD y.toNat 0)).length=k:=by rw [vtz,vt3];omega
   have g:((out.take k).map (fun x=>x.map fun y=>comp.getD y.toNat 0)++out.drop k)[k]?=some out[k]:=by
    rw [vyt,hl,if_neg (by omega),vwu,vto,Nat.add_zero,hx]
   have hin:=q42 comp out[k] h1 h2 k out[k].length 0 _ (by omega) (qan g) (by simpa using g);simp only [vw7] at hin;have qm9:((out.take k).map (fun x=>x.map fun y=>comp.getD y.toNat 0)++out.drop k).set k (out[k].map fun y=>comp.getD y.toNat 0)=(out.take (k+1)).map (fun x=>x.map fun y=>comp.getD y.toNat 0)++out.drop (k+1):=by
    rw [vx1 _ _ (by omega),hl,vwu,qiq hx,vzd,vx4,hx,vzp,vt4,vxp,vtc,vx2]
   rw [qaf (s':=((out.take (k+1)).map (fun x=>x.map fun y=>comp.getD y.toNat 0)++out.drop (k+1),((k+1:Nat):Int))) (by
    simp only [qd4,if_pos c,qaa g,hin,vu7,qm9,wqn k])]
   exact ih (k+1) (by omega)
 have h:=key out.length 0 (by omega);simpa using h
theorem q7g {r:List Int} {k c i:Nat} (h:i∈qvs r k c):i < k:=vwl.1 (vwi.1 h).1
def qib (W:Nat→Nat→Int) (C:List Nat):List Int:=((vap (qjo W C) C.length).map (·.1)).getD []
theorem qmt (W:Nat→Nat→Int) (C:List Nat):∃c,vap (qjo W C) C.length=some (qib W C,c)∧nfL (qib W C)∧(qib W C).length=C.length:=by
 obtain ⟨l,c,h,hm,_,_⟩:=qpc (qjo W C) C.length;have e:qib W C=l:=by unfold qib;rw [h];rfl
 rw [e];exact ⟨c,h,q1z _ [] 0 l vff rfl hm,by simpa using (qnp _ [] 0 l hm).1⟩
theorem vi0 {t:Table} {l:Linkage} {M:List (Arr2_int×Bool)} (hM:vfk t l M) {C:List Nat} (hC:C.Pairwise (· < ·)) (hCn:∀x∈C,x < t.Rows.length) (h1:1≤C.length) (hn:C.length≤6) :
  qil (qby C) M=some ((qks (qib (wT t l) C) C).map qby,0):=by
 have hlen:(qby C).length=C.length:=by simp [qby]
 obtain ⟨c0,hb,hnf,hbl⟩:=qmt (wT t l) C;obtain ⟨b,c,ho,hp⟩:=vfd (qjo (wT t l) C) (viz (vfj t l) C) C.length h1 hn;rw [hb] at ho;simp only [vvd,Prod.mk.injEq] at ho;obtain ⟨e1,e2⟩:=ho;subst e1;have c1:((qby C).length:Int)≤10:=by omega
 have hN:=vix hnf (by omega);have hG:qag (qjx (qib (wT t l) C)) ([],0)=some (qko (qib (wT t l) C) (qib (wT t l) C).length):=viy hnf (by omega);have hR:=q43 (qby C) (qko (qib (wT t l) C) (qib (wT t l) C).length) (by
  intro x hx;obtain ⟨c,_,rfl⟩:=vwj.1 hx;refine ⟨?_,?_⟩
  ·intro y hy;obtain ⟨i,hi,rfl⟩:=qxp.1 hy;have:=q7g hi;omega
  ·have:=vv7 (fun i=>decide ((qib (wT t l) C).getD i 0=(c:Int))) (vuf (qib (wT t l) C).length);simp only [qby,vtz,qvs];rw [vv9] at this;omega) (by
  have:=quc hnf;simp only [qko,vtz,vv9,vx5];omega)
 have hfin:((qko (qib (wT t l) C) (qib (wT t l) C).length).map fun x=>x.map fun y=>(qby C).getD y.toNat 0)=(qks (qib (wT t l) C) C).map qby:=by
  unfold qko qks;rw [vyz,vyz,vx5];refine vwc fun c _=>?_
  simp only [vyg,qby,vyz];refine vwc fun i hi=>?_
  have hic:=q7g hi;simp only [vyg,vxb];simp [vvx,vtp (show i < C.length by omega)]
 rw [hfin] at hR;rw [←hlen] at hp;have hp':qgp (((qby C).length:Nat):Int) (qa1 (qjo (wT t l) C) C.length)=some (qib (wT t l) C,c,0):=by rw [hlen] at hp ⊢;exact hp
 simp only [qil,q7f hM hC hCn hn,vu7,if_pos c1,hp',bne_self_eq_false,vs4,if_false,hN,hG,hR]
end Go.Proofs.YtmlegeeinnkhkaaGreat
namespace Go.Ab
open Go
variable {α κ:Type} [DecidableEq κ]
def keysF (key:α→κ) (ks:List κ) (x:α):List κ:=if key x∈ks then ks else ks++[key x]
def vsb (key:α→κ) (l:List α):List κ:=l.foldl (keysF key) []
def vnn (key:α→κ) (l:List α):List (List α):=(vsb key l).map fun k=>l.filter fun x=>decide (key x=k)
end Go.Ab
namespace Go.Ab
open Go
def bitsN (n:Nat):List Nat:=(vuf 32).filter fun k=>n.testBit k
end Go.Ab
namespace Go.Proofs.YtmlegeeinnkhkaaGreat
open Go Go.Ab
end Go.Proofs.YtmlegeeinnkhkaaGreat
namespace Go.Ab
open Go
def numB (u:Nat):List UInt8:=[56,48,40,32,24,16,8,0].map fun s=>UInt8.ofNat (u / 2 ^ s)
def escB:List UInt8→List UInt8
 | []=>[]
 | c :: s=>if c=0 then 0 :: 255 :: escB s else c :: escB s
end Go.Ab
namespace Go.Proofs.YtmlegeeinnkhkaaGreat
open Go Go.Ab
def vsc (n:Int):Nat:=(n+9223372036854775808).toNat
def keyV (v:Value):List UInt8:=UInt8.ofNat v.Kind.toNat :: (if v.Kind=1∨v.Kind=3 then numB (vsc v.Num) else if v.Kind=2 then escB v.Str++[0,1] else [])
def numOk (v:Value):Prop:=-9223372036854775808≤v.Num∧v.Num≤9223372036854775807
structure GT (t:Table):Prop where
 ok:TableOk t
 err:qa4 t=0
 num:∀r∈t.Rows,∀v∈r.Values,numOk v
theorem GT.attrs {t:Table} (h:GT t):t.Attrs.length≤16:=by
 have:=h.err;unfold qa4 at this;split at this
 ·cases this
 ·split at this
  ·cases this
  ·omega
theorem GT.rows {t:Table} (h:GT t):t.Rows.length≤1000:=by
 have:=h.err;unfold qa4 at this;split at this
 ·cases this
 ·split at this
  ·cases this
  ·split at this
   ·cases this
   ·omega
def rowN (t:Table) (i:Nat):Row:=t.Rows.getD i ⟨0,[]⟩
def rkey (s:Nat) (r:Row):List UInt8:=(bitsN s).flatMap fun k=>keyV (qff r k)
def qaz (t:Table) (p:Nat) (c:List Nat):List (List Nat):=vnn (fun i=>rkey p (rowN t i)) c
theorem vno {n:Int} (h:okI .i64 n):-9223372036854775808≤n∧n≤9223372036854775807:=by
 have h':(decide (vyj .i64≤n) && decide (n≤vyi .i64))=true:=h;simp only [vs2,decide_eq_true_eq] at h';have e1:vyj .i64=-9223372036854775808:=by decide
 have e2:vyi .i64=9223372036854775807:=by decide
 rw [e1,e2] at h';exact h'
theorem gt_of {t:Table} (h:qoe t) (he:qa4 t=0):GT t:=by
 refine ⟨vh1 h,he,fun r hr v hv=>?_⟩;exact vno ((h.2.2.2 r hr).2.2 v hv).2.1
theorem qvk {α β:Type} (f:α→β):∀l:List α,(l.flatMap fun i=>[f i])=l.map f
 | []=>rfl
 | x :: l=>by rw [vvw,qvk f l];rfl
def vj6:List Value:=[⟨1,0,[]⟩,⟨1,1,[]⟩,⟨1,2,[]⟩,⟨0,0,[]⟩,⟨2,0,[97]⟩,⟨2,0,[98]⟩,⟨2,0,[]⟩,⟨3,1,[]⟩,⟨1,-1,[]⟩,⟨2,0,[97,98]⟩,⟨3,2,[]⟩,⟨1,7,[]⟩]
theorem vnp (c:Int):∃v,qdy c=some v∧v∈vj6:=by
 unfold qdy;by_cases h0:(vxa c 12 == 0)=true
 ·rw [if_pos h0];exact ⟨_,rfl,by decide⟩
 rw [if_neg h0];by_cases h1:(vxa c 12 == 1)=true
 ·rw [if_pos h1];exact ⟨_,rfl,by decide⟩
 rw [if_neg h1];by_cases h2:(vxa c 12 == 2)=true
 ·rw [if_pos h2];exact ⟨_,rfl,by decide⟩
 rw [if_neg h2];by_cases h3:(vxa c 12 == 3)=true
 ·rw [if_pos h3];exact ⟨_,rfl,by decide⟩
 rw [if_neg h3];by_cases h4:(vxa c 12 == 4)=true
 ·rw [if_pos h4];exact ⟨_,rfl,by decide⟩
 rw [if_neg h4];by_cases h5:(vxa c 12 == 5)=true
 ·rw [if_pos h5];exact ⟨_,rfl,by decide⟩
 rw [if_neg h5];by_cases h6:(vxa c 12 == 6)=true
 ·rw [if_pos h6];exact ⟨_,rfl,by decide⟩
 rw [if_neg h6];by_cases h7:(vxa c 12 == 7)=true
 ·rw [if_pos h7];exact ⟨_,rfl,by decide⟩
 rw [if_neg h7];by_cases h8:(vxa c 12 == 8)=true
 ·rw [if_pos h8];exact ⟨_,rfl,by decide⟩
 rw [if_neg h8];by_cases h9:(vxa c 12 == 9)=true
 ·rw [if_pos h9];exact ⟨_,rfl,by decide⟩
 rw [if_neg h9];by_cases h10:(vxa c 12 == 10)=true
 ·rw [if_pos h10];exact ⟨_,rfl,by decide⟩
 rw [if_neg h10];exact ⟨_,rfl,by decide⟩
theorem vsd (c:Int):qwx (ofV c):=by
 obtain ⟨v,h1,h2⟩:=vnp c;have:ofV c=v:=by unfold ofV;rw [h1];rfl
 rw [this];have all:∀w∈vj6,((Lit.int .i64 w.Kind).wf && (Lit.int .i64 w.Num).wf && decide (w.Str.length≤1048576))=true:=by decide
 have:=all v h2;simp only [vs2,decide_eq_true_eq] at this;exact ⟨this.1.1,this.1.2,this.2⟩
theorem vse {n:Int} (h1:-9223372036854775808≤n) (h2:n≤9223372036854775807):okI .i64 n:=by
 show (decide (vyj .i64≤n) && decide (n≤vyi .i64))=true;have e1:vyj .i64=-9223372036854775808:=by decide
 have e2:vyi .i64=9223372036854775807:=by decide
 rw [e1,e2,vs2,decide_eq_true_eq,decide_eq_true_eq];exact ⟨h1,h2⟩
theorem vnq (x:Drossref03_Recipe) (n:Nat) (hn:n≤8) (hr:x.Rows.length≤8):qoe (q8q x n):=by
 refine ⟨by show okS [114];unfold okS;decide,⟨?_,fun s hs=>?_⟩,⟨?_,fun r h=>?_⟩⟩
 ·simp only [q8q,vt3];omega
 ·have hm:s∈qnt:=vub hs;have:∀w∈qnt,w.length≤1048576:=by decide
  exact this s hm
 ·simp only [q8q,vtz,vv9];omega
 ·obtain ⟨i,hi,rfl⟩:=vwj.1 h;have hi':=vwl.1 hi;have hs:qqg x≤3:=by unfold qqg;omega
  have hm:i * qqg x≤8 * 3:=vzk (by omega) hs;refine ⟨vse (by simp only [q8p];omega) (by simp only [q8p];omega),?_,fun v hv=>?_⟩
  ·simp only [q8p,vtz,vv9];omega
  ·obtain ⟨k,_,rfl⟩:=vwj.1 hv;exact vsd _
theorem Good.gt {t:Table} (G:Good t) (h:qoe t):GT t:=gt_of h G.err
end Go.Proofs.YtmlegeeinnkhkaaGreat
namespace Go.Ab
open Go
end Go.Ab
namespace Go.Proofs.YtmlegeeinnkhkaaGreat
open Go Go.Ab
end Go.Proofs.YtmlegeeinnkhkaaGreat
namespace Go.Ab
open Go
end Go.Ab
namespace Go.Proofs.YtmlegeeinnkhkaaGreat
open Go Go.Ab
def befN (q z:Nat×Nat):Prop:=lexN q.1 z.1∨(q.1=z.1∧q.2 < z.2)
instance instDecBefN (q z:Nat×Nat):Decidable (befN q z):=by unfold befN;exact inferInstance
end Go.Proofs.YtmlegeeinnkhkaaGreat
namespace Go.Ab
open Go
end Go.Ab
namespace Go.Proofs.YtmlegeeinnkhkaaGreat
open Go Go.Ab
def ltL:List Int→List Int→Bool
 | [],[]=>false
 | [],_ :: _=>true
 | _ :: _,[]=>false
 | x :: a,y :: b=>if x=y then ltL a b else decide (x < y)
theorem vfl:∀a:List Int,ltL a a=false
 | []=>rfl
 | x :: a=>by rw [ltL,if_pos rfl,vfl a]
theorem qxq:∀a b:List Int,ltL a b=false→ltL b a=false→a=b
 | [],[],_,_=>rfl
 | [],_ :: _,h,_=>by cases h
 | _ :: _,[],_,h=>by cases h
 | x :: a,y :: b,h1,h2=>by
  rw [ltL] at h1 h2;by_cases e:x=y
  ·subst e;rw [if_pos rfl] at h1 h2;rw [qxq a b h1 h2]
  ·rw [if_neg e] at h1;rw [if_neg (fun e'=>e e'.symm)] at h2;simp at h1 h2;omega
theorem qxr:∀a b c:List Int,ltL a b=true→ltL b c=true→ltL a c=true
 | [],[],_,h,_=>by cases h
 | _ :: _,[],_,h,_=>by cases h
 | _,_ :: _,[],_,h=>by cases h
 | [],_ :: _,_ :: _,_,_=>rfl
 | x :: a,y :: b,z :: c,h1,h2=>by
  rw [ltL] at h1 h2 ⊢;by_cases e1:x=y
  ·subst e1;rw [if_pos rfl] at h1;by_cases e2:x=z
   ·subst e2;rw [if_pos rfl] at h2 ⊢;exact qxr a b c h1 h2
   ·rw [if_neg e2] at h2 ⊢;exact h2
  ·rw [if_neg e1] at h1;by_cases e2:y=z
   ·subst e2;rw [if_neg e1];exact h1
   ·rw [if_neg e2] at h2;have h1':x < y:=by simpa using h1
    have h2':y < z:=by simpa using h2
    rw [if_neg (by omega)];simp;omega
theorem vnr (a b c:List Int) (h1:ltL a b=false) (h2:ltL b c=false):ltL a c=false:=by
 cases h:ltL a c with
 | false=>rfl
 | true =>
  exfalso;cases h3:ltL b a with
  | true =>
   have:=qxr b a c h3 h;rw [h2] at this;cases this
  | false =>
   have:=qxq a b h1 h3;subst this;rw [h2] at h;cases h
theorem qvt {α:Type} {l:List α} {k:Nat} {x:α} {r:List α} (h:l.drop k=x :: r):l[k]?=some x∧l.drop (k+1)=r∧k < l.length:=by
 have h1:l[k]?=some x:=by
  have:=congrArg (·[0]?) h;simpa [vto] using this
 exact ⟨h1,by rw [←vxi,h];rfl,qan h1⟩
theorem qvu {α:Type} {l:List α} {k:Nat} (h:l.drop k=[]) (hk:k≤l.length):k=l.length:=by
 have:=congrArg vxo h;simp at this;omega
theorem qq2 (a b:List Int) (ha:a.length≤1000000) (hb:b.length≤1000000):∀(ra rb:List Int) (k:Nat),a.drop k=ra→b.drop k=rb→k≤a.length→k≤b.length →
  ∃o,qag (qa3 a b) (k:Int)=some o∧(match o with | .inl ()=>if (a.length:Int) < (b.length:Int) then -1 else 0 | .inr r=>r)=if ltL ra rb=true then (-1:Int) else if ltL rb ra=true then 1 else 0
 | [],[],k,h1,h2,h3,h4=>by
  have e1:=qvu h1 h3;have e2:=qvu h2 h4;refine ⟨.inl (),qad (by simp [qa3,e1]),?_⟩;simp only;rw [if_neg (by omega)];rfl
 | [],y :: rb,k,h1,h2,h3,h4=>by
  have e1:=qvu h1 h3;have e2:=(qvt h2).2.2;refine ⟨.inl (),qad (by simp [qa3,e1]),?_⟩;simp only;rw [if_pos (by omega)];rfl
 | x :: ra,[],k,h1,h2,h3,h4=>by
  have e2:=qvu h2 h4;obtain ⟨x1,x2,x3⟩:=qvt h1;refine ⟨.inr 1,qad (by simp only [qa3,if_pos (qaj x1),qaa x1,vu7,if_pos (show (k:Int)≥(b.length:Int) by omega)]),?_⟩;simp [ltL]
 | x :: ra,y :: rb,k,h1,h2,h3,h4=>by
  obtain ⟨x1,x2,x3⟩:=qvt h1;obtain ⟨y1,y2,y3⟩:=qvt h2;by_cases e:x=y
  ·subst e;obtain ⟨o,ho1,ho2⟩:=qq2 a b ha hb ra rb (k+1) x2 y2 x3 y3;refine ⟨o,?_,?_⟩
   ·rw [qaf (s':=((k+1:Nat):Int)) (by simp only [qa3,if_pos (qaj x1),if_neg (show ¬(k:Int)≥(b.length:Int) by omega),qaa x1,qaa y1,vu7,qu1,vhz,bne_self_eq_false,vs4,if_false,qbj x3 (show a.length≤4611686018427387904 by omega)])];exact ho1
   ·rw [ho2,ltL,ltL,if_pos rfl,if_pos rfl]
  ·refine ⟨.inr (sgn x y),qad ?_,?_⟩
   ·have:(sgn x y != 0)=true:=by simpa using vjy e
    simp only [qa3,if_pos (qaj x1),if_neg (show ¬(k:Int)≥(b.length:Int) by omega),qaa x1,qaa y1,vu7,qu1,this,if_true]
   ·simp only [ltL,if_neg e,if_neg (fun e'=>e e'.symm:¬y=x)];unfold sgn;by_cases h:x < y
    ·simp [h]
    ·have:y < x:=by omega
     simp [h,this]
def vfm (a b:List Int):Int:=if ltL a b=true then -1 else if ltL b a=true then 1 else 0
theorem qu9 (a b:List Int) (ha:a.length≤1000000) (hb:b.length≤1000000):qah a b=some (vfm a b):=by
 obtain ⟨o,h1,h2⟩:=qq2 a b ha hb a b 0 rfl rfl (vww _) (vww _);have h1':qag (qa3 a b) 0=some o:=h1;unfold qah vfm;rw [h1',vu7,←h2];cases o with
 | inl u =>
  cases u;simp only;by_cases h:(a.length:Int) < (b.length:Int)
  ·rw [if_pos h,if_pos h]
  ·rw [if_neg h,if_neg h]
 | inr r=>rfl
theorem qmu (a b:List Int):vfm a b < 0↔ltL a b=true:=by
 unfold vfm;cases h:ltL a b with
 | true=>simp
 | false =>
  cases ltL b a <;> simp
theorem vba (l:List (List Int)) (hl:l.length≤1000000) (hs:∀a∈l,a.length≤1000000) (hn:l.Nodup) :
  ∃s,vha (fun (a:List Int) (b:List Int)=>qah a b) l=some s∧s.Perm l∧s.Pairwise (fun a b=>ltL a b=true):=by
 have hc:∀x∈l,∀y∈l,(qah x y).getD 0=vfm x y:=fun x hx y hy=>by rw [qu9 x y (hs x hx) (hs y hy)];rfl
 have hok:q6e (fun x y=>(qah x y).getD 0) l:=by
  refine ⟨fun x hx=>?_,fun x hx y hy z hz h1 h2=>?_,fun x hx y hy z hz h1 h2=>?_⟩
  ·show ¬(qah x x).getD 0 < 0;rw [hc x hx x hx,qmu,vfl];simp
  ·replace h1:(qah x y).getD 0 < 0:=h1;replace h2:(qah y z).getD 0 < 0:=h2;show (qah x z).getD 0 < 0;rw [hc _ hx _ hy,qmu] at h1;rw [hc _ hy _ hz,qmu] at h2;rw [hc _ hx _ hz,qmu];exact qxr x y z h1 h2
  ·replace h1:¬(qah x y).getD 0 < 0:=h1;replace h2:¬(qah y z).getD 0 < 0:=h2;show ¬(qah x z).getD 0 < 0;rw [hc _ hx _ hy,qmu] at h1;rw [hc _ hy _ hz,qmu] at h2;rw [hc _ hx _ hz,qmu];have h1':ltL x y=false:=by simpa using h1
   have h2':ltL y z=false:=by simpa using h2
   rw [vnr x y z h1' h2'];simp
 have hp:=q70 hok;refine ⟨srt (fun x y=>(qah x y).getD 0) l,?_,hp,?_⟩
 ·unfold vha;rw [if_pos ⟨fun x hx y hy=>by show (qah x y).isSome=true;rw [qu9 x y (hs x hx) (hs y hy)];rfl,hok,by omega⟩]
 ·have h1:=vaa hok;have hn':(srt (fun x y=>(qah x y).getD 0) l).Nodup:=hp.nodup_iff.2 hn;refine vyn.imp_of_mem ?_ (h1.and hn');intro a b ha hb hab;have ha':=hp.mem_iff.1 ha;have hb':=hp.mem_iff.1 hb;obtain ⟨g1,g2⟩:=hab;replace g1:¬(qah b a).getD 0 < 0:=g1;rw [hc _ hb' _ ha',qmu] at g1;cases h:ltL a b with
  | true=>rfl
  | false=>exact absurd (qxq a b h (by simpa using g1)) g2
def qnv (t:Table) (l:Linkage):List Arr2_int:=qjt t.Rows.length (mT t l) fun i k=>Arr2_int.mk (i:Int) (k:Int)
def RT (t:Table) (l:Linkage) (u v:Nat):Prop:=qez (qnv t l++(qnv t l).map qqh) u v
theorem vfn (t:Table) (l:Linkage) (u v:Nat):RT t l u v↔(u < v∧v < t.Rows.length∧mT t l u v=true)∨(v < u∧u < t.Rows.length∧mT t l v u=true):=by
 unfold RT qez;rw [vt7,vwj];unfold qnv;constructor
 ·rintro (h | ⟨e,he,hs⟩)
  ·obtain ⟨i,k,h1,h2,h3,h4⟩:=qi8.1 h;simp only [Arr2_int.mk.injEq] at h4;have:i=u:=by omega
   have:k=v:=by omega
   subst i k;exact .inl ⟨h1,h2,h3⟩
  ·obtain ⟨i,k,h1,h2,h3,rfl⟩:=qi8.1 he;simp only [qqh,Arr2_int.mk.injEq] at hs;have:i=v:=by omega
   have:k=u:=by omega
   subst i k;exact .inr ⟨h1,h2,h3⟩
 ·rintro (⟨h1,h2,h3⟩ | ⟨h1,h2,h3⟩)
  ·exact .inl (qi8.2 ⟨u,v,h1,h2,h3,rfl⟩)
  ·exact .inr ⟨_,qi8.2 ⟨v,u,h1,h2,h3,rfl⟩,rfl⟩
theorem q12 (t:Table) (l:Linkage) (u v:Nat) (h:RT t l u v):RT t l v u:=by
 rw [vfn] at h ⊢;exact h.symm
theorem q7h (t:Table) (l:Linkage):q1w t.Rows.length (qnv t l):=by
 intro e he;obtain ⟨i,k,h1,h2,_,rfl⟩:=qi8.1 he;simp only;omega
theorem qz1 (t:Table) (l:Linkage) (h:t.Rows.length≤100):(qnv t l).length≤10000:=by
 have:=qub t.Rows.length (mT t l) fun i k=>Arr2_int.mk (i:Int) (k:Int)
 have h2:t.Rows.length * t.Rows.length≤100 * 100:=vzk h h;unfold qnv;omega
theorem vi1 (t:Table) (l:Linkage) (h:t.Rows.length≤100):∃M,qag (qdl (qnv t l)) ([],0)=some M∧vfk t l M:=by
 have hlen:=qz1 t l h;have hf:=qh1 (qnv t l) (fun (m:List (Arr2_int×Bool)) (k:Int)=>(m,k)) (qdl (qnv t l)) (fun m e=>qvn m e true) id (fun _ _=>True) (b0:=[]) (s0:=([],0)) rfl trivial (by
  intro k m e hx hk _;refine ⟨?_,trivial⟩;simp only [qdl,if_pos (qaj hx),qaa hx,vu7,wqn k]) (by
  intro m _;simp only [qdl,if_neg (vyh _),id])
 refine ⟨_,hf,?_⟩;have key:∀(E:List Arr2_int) (m:List (Arr2_int×Bool)) (q:Arr2_int),(qo7 (E.foldl (fun m e=>qvn m e true) m) q).getD false=(decide (q∈E) || (qo7 m q).getD false):=by
  intro E
  induction E with
  | nil=>intro m q;simp
  | cons e E ih =>
   intro m q;rw [vxm,ih,qxh];by_cases c:q=e
   ·subst c;simp
   ·simp [c]
 intro a b hab hb;rw [id,key];have:(qo7 ([]:List (Arr2_int×Bool)) ⟨(a:Int),(b:Int)⟩).getD false=false:=rfl;rw [this,Bool.or_false,vw3,decide_eq_true_eq];unfold qnv;rw [qi8];constructor
 ·rintro ⟨i,k,h1,h2,h3,h4⟩;simp only [Arr2_int.mk.injEq] at h4;have:i=a:=by omega
  have:k=b:=by omega
  subst i k;exact h3
 ·intro h3;exact ⟨a,b,hab,hb,h3,rfl⟩
theorem que {t:Table} {l:Linkage} {C:List Nat} (h:C∈qf7 (RT t l) t.Rows.length):C.Pairwise (· < ·)∧(∀x∈C,x < t.Rows.length)∧1≤C.length∧C.length≤t.Rows.length:=by
 obtain ⟨v,hv,rfl⟩:=vwj.1 h;refine ⟨qw3 _ _ _,fun x hx=>(qfe.1 hx).1,?_,?_⟩
 ·have:v∈ql0 (RT t l) t.Rows.length v:=qfe.2 ⟨(qp3.1 hv).1,.refl⟩;exact vv8 this
 ·have:(ql0 (RT t l) t.Rows.length v).length≤(vuf t.Rows.length).length:=vv7 _ _
  rwa [vv9] at this
theorem q44 {r:List Int} (h:nfL r) {i:Nat} (hi:i < r.length):∃c,c < qct r∧r.getD i 0=(c:Int):=by
 have hx:r[i]?=some (r.getD i 0):=by simp [vvx,vtp hi]
 have h0:=h.1 _ (vt9 hx);exact ⟨(r.getD i 0).toNat,qsu hx,by omega⟩
theorem qk7 {r:List Int} {k c i:Nat}:i∈qvs r k c↔i < k∧r.getD i 0=(c:Int):=by simp [qvs]
theorem vi2 {r:List Int} (h:nfL r):(((vuf (qct r)).map fun c=>qvs r r.length c).flatten).Perm (vuf r.length):=by
 refine qp4 ?_ vy6 ?_
 ·unfold vym;rw [vy8];refine ⟨?_,?_⟩
  ·intro x hx;obtain ⟨c,_,rfl⟩:=vwj.1 hx;exact (vy6.sublist List.filter_sublist)
  ·rw [vzb];refine (vxu (n:=qct r)).imp fun {a b} hab x hx y hy e=>?_
   subst e;have h1:=(qk7.1 hx).2;have h2:=(qk7.1 hy).2;omega
 ·intro x;rw [vwl,vxq];constructor
  ·rintro ⟨y,hy,hx⟩;obtain ⟨c,_,rfl⟩:=vwj.1 hy;exact (qk7.1 hx).1
  ·intro hx;obtain ⟨c,hc,hr⟩:=q44 h hx;exact ⟨_,vwj.2 ⟨c,vwl.2 hc,rfl⟩,qk7.2 ⟨hx,hr⟩⟩
theorem quf {r:List Int} (h:nfL r) {C:List Nat} (hl:r.length=C.length):(qks r C).flatten.Perm C:=by
 have e:(qks r C).flatten=(((vuf (qct r)).map fun c=>qvs r r.length c).flatten).map fun i=>C.getD i 0:=by
  unfold qks;rw [vyy,vyz];rfl
 rw [e];refine ((vi2 h).map _).trans ?_;rw [hl,←qsx C]
theorem q8x {r:List Int} (h:nfL r) {C:List Nat} (hC:C.Pairwise (· < ·)) (hl:r.length=C.length) {P:List Nat} (hP:P∈qks r C):P.Pairwise (· < ·)∧1≤P.length∧P.length≤C.length:=by
 obtain ⟨c,hc,rfl⟩:=vwj.1 hP;have hc:=vwl.1 hc;refine ⟨?_,?_,?_⟩
 ·rw [vzb];have:(qvs r r.length c).Pairwise (· < ·):=vxu.filter _;refine (vyn.and_mem.1 this).imp fun {a b} hab=>?_
  obtain ⟨ha,hb,hlt⟩:=hab;exact qtc hC hlt (by have:=q7g hb;omega)
 ·have hm:=viw h r.length c (vuv _) (by rw [vx5];exact hc);rw [vx5] at hm;obtain ⟨i,hi,e⟩:=vy2.1 hm;have:i∈qvs r r.length c:=qk7.2 ⟨hi,by simp [vvx,vtp hi,e]⟩;rw [vtz];exact vv8 this
 ·rw [vtz];have:=vv7 (fun i=>decide (r.getD i 0=(c:Int))) (vuf r.length);unfold qvs;rw [vv9] at this;omega
def qxs (t:Table) (l:Linkage):List (List Nat):=(qf7 (RT t l) t.Rows.length).flatMap fun C=>qks (qib (wT t l) C) C
theorem qpj {α β:Type} (f:α→List (List β)):∀l:List α,(l.flatMap f).flatten=l.flatMap fun x=>(f x).flatten
 | []=>rfl
 | x :: l=>by rw [vvw,List.flatten_append,vvw,qpj f l]
theorem qva {α β:Type} {f g:α→List β}:∀{l:List α},(∀x∈l,(f x).Perm (g x))→(l.flatMap f).Perm (l.flatMap g)
 | [],_=>.refl _
 | x :: l,h=>by
  rw [vvw,vvw];exact (h x (by simp)).append (qva fun y hy=>h y (by simp [hy]))
theorem q45 (t:Table) (l:Linkage):(qxs t l).flatten.Perm (vuf t.Rows.length):=by
 unfold qxs;rw [qpj];have h1:((qf7 (RT t l) t.Rows.length).flatMap fun C=>(qks (qib (wT t l) C) C).flatten).Perm ((qf7 (RT t l) t.Rows.length).flatMap fun C=>C):=by
  refine qva fun C hC=>?_
  obtain ⟨c,_,hnf,hbl⟩:=qmt (wT t l) C;exact quf hnf hbl
 refine h1.trans ?_;have:((qf7 (RT t l) t.Rows.length).flatMap fun C=>C)=(qf7 (RT t l) t.Rows.length).flatten:=by simp [List.flatMap]
 rw [this];exact qrj (q12 t l) _
theorem vfo {t:Table} {l:Linkage} {P:List Nat} (h:P∈qxs t l):P.Pairwise (· < ·)∧1≤P.length∧(∀x∈P,x < t.Rows.length)∧P.length≤t.Rows.length:=by
 have hm:∀x∈P,x < t.Rows.length:=by
  intro x hx;have:x∈(qxs t l).flatten:=vxq.2 ⟨P,h,hx⟩;exact vwl.1 ((q45 t l).mem_iff.1 this)
 unfold qxs at h;obtain ⟨C,hC,hP⟩:=vt8.1 h;obtain ⟨h1,h2,h3,h4⟩:=que hC;obtain ⟨c,_,hnf,hbl⟩:=qmt (wT t l) C;obtain ⟨q1,q2,q3⟩:=q8x hnf h1 hbl hP;exact ⟨q1,q2,hm,by omega⟩
def ql1 (t:Table) (P:List Nat):List Int:=P.map fun i=>(qi9 t i).ID
theorem q46 {t:Table}:ql1 t (vuf t.Rows.length)=ids t:=by
 unfold ql1 ids;refine vtj fun i=>?_
 by_cases hi:i < t.Rows.length
 ·rw [qj3 _ hi,vts,qh9 hi];rfl
 ·rw [vtq (by simp;omega),vtq (by simp;omega)]
theorem id_lt {t:Table} (he:qa4 t=0) {i k:Nat} (hk:k < t.Rows.length) (h:i < k):(qi9 t i).ID < (qi9 t k).ID:=by
 have hc:=q1r he;have key:∀(l:List Row) (a:Int),qec t.Attrs.length a l=0→l.Pairwise (fun r q=>r.ID < q.ID)∧∀r∈l,a < r.ID:=by
  intro l
  induction l with
  | nil=>intro a _;simp
  | cons r l ih =>
   intro a h;have h2:=(qoh t.Attrs.length (r :: l) a h).1 r (by simp);have h3:qec t.Attrs.length r.ID l=0:=by
    unfold qec at h;split at h
    ·omega
    ·split at h
     ·omega
     ·split at h
      ·exact h
      ·omega
   obtain ⟨q1,q2⟩:=ih r.ID h3;refine ⟨vxs.2 ⟨q2,q1⟩,fun x hx=>?_⟩;rcases vwf.1 hx with rfl | hx
   ·exact h2.1
   ·have:=q2 x hx;have:=h2.1;omega
 have hp:=(key t.Rows 0 hc).1;have g1:=qh9 (show i < t.Rows.length by omega);have g2:=qh9 hk;rw [vtp (by omega),vvd] at g1;rw [vtp hk,vvd] at g2;have:=(vy9.1 hp) i k (by omega) hk h
 rwa [g1,g2] at this
def qqa (t:Table) (l:Linkage):List (List Int):=(qxs t l).map (ql1 t)
theorem vns {l:List Int} (h:l.Pairwise (· < ·)) (hn:1≤l.length):vey l=true:=by
 unfold vey;rw [vs2];refine ⟨?_,by rw [decide_eq_true_eq];omega⟩;rw [qro];intro j x hx;rw [vto] at hx;rw [decide_eq_true_eq];have hlt:=qan hx;rw [show 1+j - 1=j by omega];have hj:l[j]?=some (l.getD j 0):=by simp [vvx,vtp (show j < l.length by omega)]
 have g1:=hj;have g2:=hx;rw [vtp (by omega),vvd] at g1;rw [vtp hlt,vvd] at g2;have:=(vy9.1 h) j (1+j) (by omega) hlt (by omega)
 rwa [g1,g2] at this
def ltH (a b:List Int):Bool:=decide (a.headD 0 < b.headD 0)
theorem q8y (x y:List Int) (h:ltH x y=true):ltH y x=false:=by
 unfold ltH at *;simp only [decide_eq_true_eq,decide_eq_false_iff_not] at *;omega
theorem vfp (x y z:List Int) (h1:ltH y x=false) (h2:ltH z y=false):ltH z x=false:=by
 unfold ltH at *;simp only [decide_eq_false_iff_not] at *;omega
def qtd (cs:List (List Int)):List (List Int):=qu2 ltH cs
theorem qj6 (cs:List (List Int)):(qtd cs).Perm cs:=by
 have:=(qlp ltH q8y vfp cs [] vyn.nil).1;simpa [qtd,qu2] using this
theorem q47 (cs:List (List Int)):(qtd cs).Pairwise fun a b=>ltH b a=false:=(qlp ltH q8y vfp cs [] vyn.nil).2
def q7i (cs:List (List Int)):Prop:=∀a∈cs,∀b∈cs,a.headD 0=b.headD 0→a=b
theorem q48 {cs s:List (List Int)} (hi:q7i cs) (hp:s.Perm cs) (hs:s.Pairwise fun a b=>ltH b a=false):s=qtd cs:=by
 refine List.Perm.eq_of_pairwise (le:=fun a b=>ltH b a=false) (fun a b ha hb h1 h2=>?_) hs (q47 cs) (hp.trans (qj6 cs).symm);unfold ltH at h1 h2;simp only [decide_eq_false_iff_not] at h1 h2;exact hi a (hp.mem_iff.1 ha) b ((qj6 cs).mem_iff.1 hb) (by omega)
theorem vi3 {a b:List Int} (ha:a≠[]) (hb:b≠[]) (h:ltL a b=true):ltH b a=false:=by
 cases a with
 | nil=>exact absurd rfl ha
 | cons x a =>
  cases b with
  | nil=>exact absurd rfl hb
  | cons y b =>
   unfold ltH;rw [decide_eq_false_iff_not];show ¬y < x;by_cases e:x=y
   ·subst e;exact vyh _
   ·rw [ltL,if_neg e] at h;have:=of_decide_eq_true h;omega
theorem qte {t:Table} (l:Linkage):(qqa t l).flatten.Perm (ids t):=by
 have:(qqa t l).flatten=ql1 t (qxs t l).flatten:=by
  unfold qqa ql1;rw [vyy]
 rw [this,←q46];exact (q45 t l).map _
theorem vfq {t:Table} (he:qa4 t=0) {P:List Nat} (h:P.Pairwise (· < ·)) (hn:∀x∈P,x < t.Rows.length):(ql1 t P).Pairwise (· < ·):=by
 unfold ql1;rw [vzb];refine (vyn.and_mem.1 h).imp fun {a b} hab=>?_
 exact id_lt he (hn b hab.2.1) hab.2.2
theorem qpk {t:Table} {l:Linkage} (he:qa4 t=0) {c:List Int} (h:c∈qqa t l):c.Pairwise (· < ·)∧1≤c.length∧c.length≤t.Rows.length∧c≠[]:=by
 obtain ⟨P,hP,rfl⟩:=vwj.1 h;obtain ⟨h1,h2,h3,h4⟩:=vfo hP;refine ⟨vfq he h1 h3,by simpa [ql1] using h2,by simpa [ql1] using h4,?_⟩;intro e;have:=congrArg vxo e;simp [ql1] at this;rw [this] at h2;simp at h2
theorem qug {t:Table} (l:Linkage) (he:qa4 t=0):(qqa t l).flatten.Nodup:=(qte l).nodup_iff.2 (qk6 he).2
theorem qtf {cs:List (List Int)} (h:cs.flatten.Nodup) {i j:Nat} {a b:List Int} {x:Int} (ha:cs[i]?=some a) (hb:cs[j]?=some b) (hxa:x∈a) (hxb:x∈b):i=j:=by
 unfold vym at h;rw [vy8] at h;have h2:=vy9.1 h.2;obtain ⟨hi,ea⟩:=vtr.1 ha;obtain ⟨hj,eb⟩:=vtr.1 hb;subst ea eb;rcases vwr i j with q | q | q
 ·exact absurd rfl (h2 i j hi hj q x hxa x hxb)
 ·exact q
 ·exact absurd rfl (h2 j i hj hi q x hxb x hxa)
theorem vbb {cs:List (List Int)} (h:cs.flatten.Nodup) (hne:∀c∈cs,c≠[]):q7i cs:=by
 intro a ha b hb e;obtain ⟨i,hi,ea⟩:=vy2.1 ha;obtain ⟨j,hj,eb⟩:=vy2.1 hb;have h1:a.headD 0∈a:=by
  cases a with
  | nil=>exact absurd rfl (hne _ ha)
  | cons x r=>simp
 have h2:b.headD 0∈b:=by
  cases b with
  | nil=>exact absurd rfl (hne _ hb)
  | cons x r=>simp
 have:=qtf h (i:=i) (j:=j) (by rw [vtp hi,ea]) (by rw [vtp hj,eb]) h1 (e ▸ h2);subst this;rw [←ea,←eb]
theorem vi4 {t:Table} (l:Linkage) (he:qa4 t=0):q7i (qqa t l):=vbb (qug l he) fun c hc=>(qpk he hc).2.2.2
theorem q8z {t:Table} (l:Linkage) (he:qa4 t=0):(qqa t l).length≤t.Rows.length:=by
 have h1:=(qte (t:=t) l).length_eq;have key:∀cs:List (List Int),(∀c∈cs,1≤c.length)→cs.length≤cs.flatten.length:=by
  intro cs
  induction cs with
  | nil=>intro _;simp
  | cons c cs ih =>
   intro h;have h1:=h c (by simp);have h2:=ih fun d hd=>h d (by simp [hd])
   rw [vxl,vtx,vv5];omega
 have:=key (qqa t l) fun c hc=>(qpk he hc).2.1
 rw [h1] at this;simpa [ids] using this
theorem q7j {t:Table} (l:Linkage) (he:qa4 t=0):(qqa t l).Nodup:=by
 refine vy9.2 fun i j hi hj hij e=>?_
 have hne:=(qpk he (vv4 hi)).2.2.2;have h1:((qqa t l)[i]).headD 0∈(qqa t l)[i]:=by
  cases hq:(qqa t l)[i] with
  | nil=>exact absurd hq hne
  | cons x r=>simp
 have:=qtf (qug l he) (i:=i) (j:=j) (vtp hi) (vtp hj) h1 (e ▸ h1);omega
theorem vsf {t:Table} (l:Linkage) (he:qa4 t=0) (hn:t.Rows.length≤6):vha (fun (a:List Int) (b:List Int)=>qah a b) (qqa t l)=some (qtd (qqa t l)):=by
 have hl:=q8z l he;obtain ⟨s,h1,h2,h3⟩:=vba (qqa t l) (by omega) (fun a ha=>by have:=(qpk he ha).2.2.1;omega) (q7j l he);rw [h1];congr 1;refine q48 (vi4 l he) h2 ?_;refine (vyn.and_mem.1 h3).imp fun {a b} hab=>?_
 obtain ⟨ha,hb,hlt⟩:=hab;exact vi3 (qpk he (h2.mem_iff.1 ha)).2.2.2 (qpk he (h2.mem_iff.1 hb)).2.2.2 hlt
theorem qz2 {α β τ:Type} (B:List β×Int→Option (LS (List β×Int) τ)) (L:List α) (f:α→List β) (fin:List β→τ) (M c:Nat) (hM:L.length * c≤M) (hf:∀x∈L,(f x).length≤c)
  (h:∀(k:Nat) out x,L[k]?=some x→out.length+c≤M→B (out,(k:Int))=some (.next (out++f x,((k+1:Nat):Int)))) (he:∀out,B (out,(L.length:Int))=some (.done (fin out))):∀out0:List β,out0.length+L.length * c≤M→qag B (out0,0)=some (fin (out0++L.flatMap f)):=by
 intro out0 h0;have hh:=qh1 L (fun (b:List β) (k:Int)=>(b,k)) B (fun b x=>b++f x) fin (fun k b=>b.length≤out0.length+k * c) (b0:=out0) (s0:=(out0,0)) rfl (by simp) (by
  intro k b x hx hk hb;have h1:k * c+c≤L.length * c:=by
   have:=vu2 c (show k+1≤L.length by omega);rw [vzo] at this;exact this
  have h2:=hf x (vt9 hx);refine ⟨h k b x hx (by omega),?_⟩;rw [vtx,vzo];omega) (fun b _=>he b)
 rw [hh];congr 2;have key:∀(L:List α) (b:List β),L.foldl (fun b x=>b++f x) b=b++L.flatMap f:=by
  intro L
  induction L with
  | nil=>intro b;simp
  | cons x L ih=>intro b;rw [vxm,ih,vvw,vtc]
 exact key L out0
theorem vi5 {t:Table} {P:List Nat} (hP:∀x∈P,x < t.Rows.length) (hl:P.length≤1000):qag (qc3 t (qby P)) ([],0)=some (ql1 t P):=by
 have hlen:(qby P).length=P.length:=by simp [qby]
 have h:=q1t (qc3 t (qby P)) P (fun i=>(qi9 t i).ID) 1000 hl (by
  intro k out x hx hl';have hk:=qan hx;have hx':(qby P)[k]?=some (x:Int):=by simp [qby,hx]
  have hr:qao (out.length+1) 8=true:=qqd (by omega);simp only [qc3,if_pos (qaj hx'),qaa hx',vu7,qaa (qh9 (hP x (vt9 hx))),hr,if_true,wqn k]) (by
  intro out;rw [←hlen];simp only [qc3,if_neg (vyh _)])
 exact h
theorem vbc {t:Table} {Ps:List (List Nat)} (hP:∀P∈Ps,(∀x∈P,x < t.Rows.length)∧P.length≤1000) (hl:Ps.length≤100) (out:List (List Int)) (ho:out.length≤1000):qag (qc4 t (Ps.map qby,0)) (out,0)=some (out++Ps.map (ql1 t)):=by
 have h:=qz2 (qc4 t (Ps.map qby,0)) Ps (fun P=>[ql1 t P]) id 2000 1 (by omega) (fun _ _=>vuv _) (by
  intro k out x hx hl';have hk:=qan hx;have hx':(Ps.map qby)[k]?=some (qby x):=by rw [vts,hx];rfl
  have hr:qao (out.length+1) 24=true:=q8w (by omega);obtain ⟨q1,q2⟩:=hP x (vt9 hx);simp only [qc4,if_pos (qaj hx'),qaa hx',vu7,vi5 q1 q2,hr,if_true,wqn k]) (by
  intro out;have:(Ps.length:Int)=((Ps.map qby).length:Int):=by simp
  rw [this];simp only [qc4,if_neg (vyh _),id]) out (by omega)
 rw [h];congr 2;simp [vyw]
theorem vfr (t:Table) (l:Linkage):(qf7 (RT t l) t.Rows.length).length≤t.Rows.length:=by
 unfold qf7;rw [vtz];have:(qmn (RT t l) t.Rows.length).length≤(vuf t.Rows.length).length:=vv7 _ _
 rwa [vv9] at this
theorem q49 (r:List Int) (C:List Nat):(qks r C).length=qct r:=by simp [qks]
theorem qz3 {t:Table} {l:Linkage} (T:LnkT t l) (h0:vj5 t l=0) (hn:t.Rows.length≤6):qfl t l=some (qtd (qqa t l),0):=by
 obtain ⟨M,hM,hMM⟩:=vi1 t l (by omega);have hE:=qz1 t l (by omega);have hcomp:=q11 (n:=t.Rows.length) (by omega) (qnv t l) (by omega) (q7h t l);have hcl:=vfr t l;have hloop:=qz2 (qek t M ((qf7 (RT t l) t.Rows.length).map qby,0)) (qf7 (RT t l) t.Rows.length) (fun C=>(qks (qib (wT t l) C) C).map (ql1 t)) (fun out=>(Sum.inl out:List (List Int) ⊕ (List (List Int)×Int))) 1000 6 (by omega) (by
  intro C hC;obtain ⟨c,_,hnf,hbl⟩:=qmt (wT t l) C;have:=quc hnf;have:=(que hC).2.2.2;rw [vtz,q49];omega) (by
  intro k out C hC hl;have hk:=qan hC;have hmem:=vt9 hC;obtain ⟨q1,q2,q3,q4⟩:=que hmem;have hC':((qf7 (RT t l) t.Rows.length).map qby)[k]?=some (qby C):=by rw [vts,hC];rfl
  obtain ⟨c,_,hnf,hbl⟩:=qmt (wT t l) C;have hus:=quc hnf;have hg:=vbc (t:=t) (Ps:=qks (qib (wT t l) C) C) (fun P hP=>by
   refine ⟨fun x hx=>?_,by have:=(q8x hnf q1 hbl hP).2.2;omega⟩;have:x∈(qks (qib (wT t l) C) C).flatten:=vxq.2 ⟨P,hP,hx⟩;exact q2 x ((quf hnf hbl).mem_iff.1 this)) (by rw [q49];omega) out (by omega)
  simp only [qek,if_pos (qaj hC'),qaa hC',vu7,vi0 hMM q1 q2 q3 (by omega),bne_self_eq_false,vs4,if_false,hg,wqn k]) (by
  intro out;have:((qf7 (RT t l) t.Rows.length).length:Int)=(((qf7 (RT t l) t.Rows.length).map qby).length:Int):=by simp
  rw [this];simp only [qek,if_neg (vyh _)]) [] (by simp;omega)
 have hflat:[]++(qf7 (RT t l) t.Rows.length).flatMap (fun C=>(qks (qib (wT t l) C) C).map (ql1 t))=qqa t l:=by
  unfold qqa qxs;rw [vue,vyx]
 rw [hflat] at hloop;have hm:=q4w T;have hm':qe4 t l=some (qnv t l):=hm;have hcomp':qfk (t.Rows.length:Int) (qnv t l)=some ((qf7 (RT t l) t.Rows.length).map qby,0):=hcomp;simp only [qfl,q8u t l T.ok T.rule T.rules T.nblock T.nsurv,h0,vu7,bne_self_eq_false,vs4,if_false,hm',hM,hcomp',hloop,vsf l T.err hn]
structure Grp (t:Table) (l:Linkage) (v:Nat) (g:List Int):Prop where
 nodup:g.Nodup
 mem:∀x∈g,∃k,k < t.Rows.length∧x=(qi9 t k).ID∧Rch (RT t l) v k
theorem Grp.small {t:Table} {l:Linkage} {v:Nat} {g:List Int} (G:Grp t l v g):g.length≤t.Rows.length:=by
 have:=qog (l':=ids t) G.nodup (by
  intro x hx;obtain ⟨k,hk,rfl,_⟩:=G.mem x hx;exact vwj.2 ⟨_,qms hk,rfl⟩)
 simpa [ids] using this
theorem vfs {t:Table} (he:qa4 t=0) {i k:Nat} (hi:i < t.Rows.length) (hk:k < t.Rows.length) (h:(qi9 t i).ID=(qi9 t k).ID):i=k:=by
 by_cases e:i=k
 ·exact e
 ·exact absurd h (vr8 he hi hk e)
theorem vbd {t:Table} (he:qa4 t=0) {C:List Nat} (hC:C.Pairwise (· < ·)) (hn:∀x∈C,x < t.Rows.length):q1q t (ql1 t C)=C.map (qi9 t):=by
 have hrows:t.Rows=(vuf t.Rows.length).map (qi9 t):=by
  refine vtj fun i=>?_
  by_cases hi:i < t.Rows.length
  ·rw [qj3 _ hi,qh9 hi]
  ·rw [vtq (by omega),vtq (by simp;omega)]
 have h1:q1q t (ql1 t C)=((vuf t.Rows.length).filter fun i=>decide (i∈C)).map (qi9 t):=by
  unfold q1q
  conv=>lhs;rw [hrows]
  rw [List.filter_map];congr 1;refine vyq fun i hi=>?_
  have hi:=vwl.1 hi;simp only [vyg];rw [vw3,decide_eq_true_eq,decide_eq_true_eq];unfold ql1;rw [vwj];constructor
  ·rintro ⟨k,hk,e⟩;have:=vfs he (hn k hk) hi e;subst this;exact hk
  ·intro h;exact ⟨i,h,rfl⟩
 rw [h1];congr 1;have hs:((vuf t.Rows.length).filter fun i=>decide (i∈C)).Pairwise (· < ·):=vxu.filter _;refine List.Perm.eq_of_pairwise (le:=fun a b=>a < b) (fun a b _ _ h1 h2=>by omega) hs hC (qp4 (hs.imp fun h=>Nat.ne_of_lt h) (hC.imp fun h=>Nat.ne_of_lt h) fun x=>?_);rw [vwi,vwl,decide_eq_true_eq];exact ⟨fun h=>h.2,fun h=>⟨hn x h,h⟩⟩
theorem vnt {t:Table} {l:Linkage} (T:LnkT t l) {C:List Nat} (hC:C.Pairwise (· < ·)) (hCn:∀x∈C,x < t.Rows.length) (hn:C.length≤6):qfv t l (ql1 t C)=some (qa1 (qjo (wT t l) C) C.length):=by
 have hat:=T.attrs;have hrw:=T.rows;have hk:=vm8 t (ql1 t C) (by omega) (by omega) (fun r hr=>by have:=qvq T.err hr;omega) (by simp [ql1];omega);rw [vbd T.err hC hCn] at hk;have hlen:(C.map (qi9 t)).length=C.length:=by simp
 have qaw:∀i,i < C.length→(C.map (qi9 t))[i]?=some (qi9 t (C.getD i 0)):=by
  intro i hi;rw [vts,vtp hi];simp [vvx,vtp hi]
 have hmem:∀i,i < C.length→C.getD i 0 < t.Rows.length:=fun i hi=>hCn _ (vt9 (i:=i) (by simp [vvx,vtp hi]))
 have qyf:∀(r:Table),r.Rows=C.map (qi9 t)→∀(i:Nat),i < C.length→∀(d k:Nat) (out:List Pair),i < k→k+d=C.length→out.length+d≤1000→qag (qds l r (i:Int)) (out,(k:Int))=some (out++(vwo k d).flatMap fun (j:Nat)=>[(⟨(i:Int),(j:Int),qjo (wT t l) C i j⟩:Pair)]):=by
  intro r hr i hi d
  induction d with
  | zero =>
   intro k out _ hk _;have c:¬((k:Int) < (r.Rows.length:Int)):=by rw [hr,hlen];omega
   rw [qad (t:=out) (by simp only [qds,if_neg c])];simp
  | succ d ih =>
   intro k out hik hk hl;have hk':k < C.length:=by omega
   have c:((k:Int) < (r.Rows.length:Int)):=by rw [hr,hlen];omega
   have hrm:qao (out.length+1) 24=true:=q8w (by omega);have hlt:=qtc hC hik hk';have w:=wqn k;have gi:idx r.Rows (i:Int)=some (qi9 t (C.getD i 0)):=by rw [hr];exact qaa (qaw i hi)
   have gk:idx r.Rows (k:Int)=some (qi9 t (C.getD k 0)):=by rw [hr];exact qaa (qaw k hk')
   have hm:=vnd T (qms (hmem i hi)) (qms (hmem k hk')) (vr8 T.err (hmem i hi) (hmem k hk') (by omega));have hm':qfs (qi9 t (C.getD i 0)) (qi9 t (C.getD k 0)) l=some (mT t l (C.getD i 0) (C.getD k 0)):=hm;have hw:qjo (wT t l) C i k=if mT t l (C.getD i 0) (C.getD k 0)=true then 1 else -1:=by
    unfold qjo wT;rw [if_neg (by omega),vws (by omega),vzj (by omega)]
   have hb:qds l r (i:Int) (out,(k:Int))=some (.next (out++[(⟨(i:Int),(k:Int),qjo (wT t l) C i k⟩:Pair)],((k+1:Nat):Int))):=by
    simp only [qds,if_pos c,gi,gk,vu7,hm',hrm,if_true,w,hw];cases mT t l (C.getD i 0) (C.getD k 0) <;> rfl
   rw [qaf hb,ih (k+1) _ (by omega) (by omega) (by rw [vtx,vwa];omega),vzc,vvw,vtc]
 have outer:∀(r:Table),r.Rows=C.map (qi9 t)→qag (qdt l r) ([],0)=some (qa1 (qjo (wT t l) C) C.length):=by
  intro r hr;have o:=qlc (qdt l r) (fun i=>(vwo (i+1) (C.length - (i+1))).flatMap fun (k:Nat)=>if true=true then [(⟨(i:Int),(k:Int),qjo (wT t l) C i k⟩:Pair)] else []) C.length 100 6 (by
   intro i out hi hl;have c:((i:Int) < (r.Rows.length:Int)):=by rw [hr,hlen];omega
   have w:=wqn i;have hin:=qyf r hr i hi (C.length - (i+1)) (i+1) out (by omega) (by omega) (by omega);simp only [qdt,if_pos c,w,hin,vu7,if_true]) (by
   intro i _;have:=qj2 (fun (k:Nat)=>if true=true then [(⟨(i:Int),(k:Int),qjo (wT t l) C i k⟩:Pair)] else []) 1 (vwo (i+1) (C.length - (i+1))) (fun k _=>by simp);rw [vyv] at this;omega) (by
   intro out;have c:¬((C.length:Int) < (r.Rows.length:Int)):=by rw [hr,hlen];omega
   simp only [qdt,if_neg c]) C.length 0 [] (by omega) (by simp;omega)
  simp only [vw7,vue] at o;exact o
 have ho:=outer ⟨t.Name,t.Attrs,C.map (qi9 t)⟩ rfl;simp only [qfv,hk.2,vu7,ho]
theorem vnu {t:Table} (l:Linkage) (he:qa4 t=0):divB t (qtd (qqa t l))=true:=by
 have hp:=qj6 (qqa t l);have hf:=hp.flatten.trans (qte (t:=t) l);unfold divB;rw [vs2,vs2];refine ⟨?_,?_,?_⟩
 ·rw [q1s];refine ⟨fun c hc=>?_,hf.nodup_iff.2 (qk6 he).2,by simp⟩;have:=qpk he (hp.mem_iff.1 hc);exact vns this.1 this.2.1
 ·rw [decide_eq_true_eq,hf.length_eq];simp [ids]
 ·rw [vvr];intro x hx;rw [decide_eq_true_eq];exact hf.mem_iff.1 hx
end Go.Proofs.YtmlegeeinnkhkaaGreat
namespace Go.Ab
open Go
def runL {σ τ:Type} (B:σ→Option (LS σ τ)):Nat→σ→Option τ
 | 0,_=>none
 | n+1,s=>match B s with
  | some (.next s')=>runL B n s'
  | some (.done t)=>some t
  | none=>none
theorem qiv {σ τ:Type} {B:σ→Option (LS σ τ)}:∀(n:Nat) {s:σ} {t:τ},runL B n s=some t→qag B s=some t
 | 0,s,t,h=>by simp [runL] at h
 | n+1,s,t,h=>by
  simp only [runL] at h;split at h
  ·rename_i s' e;rw [qaf e];exact qiv n h
  ·rename_i t' e;cases h;exact qad e
  ·cases h
theorem vbe {W W':Nat→Nat→Int} (l:List Int) (c:Int) {k:Nat} (h:∀i,i < k→W i k=W' i k):qp2 W l c k=qp2 W' l c k:=by
 unfold qp2;congr 1;refine vwc fun i hi=>?_
 rw [h i (vwl.1 hi)]
theorem q7k {W W':Nat→Nat→Int} (l:List Int) {n:Nat} (h:∀i k,i < k→k < n→W i k=W' i k):qdu W l n=qdu W' l n:=by
 unfold qdu;congr 1;refine vwc fun k hk=>?_
 exact vbe l _ fun i hi=>h i k hi (vwl.1 hk)
theorem qz4 {W W':Nat→Nat→Int} {n:Nat} (h:∀i k,i < k→k < n→W i k=W' i k):vap W n=vap W' n:=by
 unfold vap;have:(fun x=>qdu W x n)=fun x=>qdu W' x n:=by
  funext x;exact q7k x h
 rw [this]
end Go.Ab
namespace Go.Proofs.YtmlegeeinnkhkaaGreat
open Go Go.Ab
def t56:Table:=⟨[112],[[110,97,109,101]],[⟨1,[⟨2,0,[97,110,110]⟩]⟩,⟨2,[⟨2,0,[97,110,110,101]⟩]⟩,⟨3,[⟨2,0,[97,110,110,101,115]⟩]⟩,⟨4,[⟨2,0,[98,111,98]⟩]⟩]⟩
def l56:Linkage:=⟨[[⟨0,2,1⟩]],[],[3]⟩
theorem vft:qf2=some (t56,l56):=by
 have h:qag (qhq [[97,110,110],[97,110,110,101],[97,110,110,101,115],[98,111,98]]) ([],0)=some t56.Rows:=qiv 6 (by decide +kernel);simp only [qf2,vu7,h];rfl
theorem vsg:qa4 t56=0:=by decide +kernel
theorem vsh:q4m (t56.Attrs.length:Int) l56=0:=by decide +kernel
theorem vsi:LnkT t56 l56 where
 err:=vsg
 ok:=⟨by decide,by decide,by decide,by unfold vrv;decide⟩
 rows:=by decide
 attrs:=by decide
 rules:=by decide
 rule:=by decide
 nblock:=by decide
 nsurv:=by decide
 block:=by intro k hk;cases hk
theorem vsj:vj5 t56 l56=0:=by
 unfold vj5;rw [if_neg (by rw [vsg];simp),if_neg (by rw [vsh];simp)];rfl
theorem sed01:sed ([97,110,110]:Str) [97,110,110,101]=1:=by simp [sed]
theorem sed02:sed ([97,110,110]:Str) [97,110,110,101,115]=2:=by simp [sed]
theorem sed03:sed ([97,110,110]:Str) [98,111,98]=3:=by simp [sed]
theorem sed12:sed ([97,110,110,101]:Str) [97,110,110,101,115]=1:=by simp [sed]
theorem sed13:sed ([97,110,110,101]:Str) [98,111,98]=4:=by simp [sed]
theorem sed23:sed ([97,110,110,101,115]:Str) [98,111,98]=5:=by simp [sed]
theorem m01:mT t56 l56 0 1=true:=by
 simp [mT,qoi,qmr,qnu,qs6,l56,t56,qi9,qzt,qg2,vAt,qhm,q2i,qlq,sed01,q61,vxk]
theorem m02:mT t56 l56 0 2=false:=by
 simp [mT,qoi,qmr,qnu,qs6,l56,t56,qi9,qzt,qg2,vAt,qhm,q2i,qlq,sed02,q61,vxk]
theorem m03:mT t56 l56 0 3=false:=by
 simp [mT,qoi,qmr,qnu,qs6,l56,t56,qi9,qzt,qg2,vAt,qhm,q2i,qlq,sed03,q61,vxk]
theorem m12:mT t56 l56 1 2=true:=by
 simp [mT,qoi,qmr,qnu,qs6,l56,t56,qi9,qzt,qg2,vAt,qhm,q2i,qlq,sed12,q61,vxk]
theorem m13:mT t56 l56 1 3=false:=by
 simp [mT,qoi,qmr,qnu,qs6,l56,t56,qi9,qzt,qg2,vAt,qhm,q2i,qlq,sed13,q61,vxk]
theorem m23:mT t56 l56 2 3=false:=by
 simp [mT,qoi,qmr,qnu,qs6,l56,t56,qi9,qzt,qg2,vAt,qhm,q2i,qlq,sed23,q61,vxk]
theorem n56:t56.Rows.length=4:=rfl
def b56 (i k:Nat):Bool:=(i == 0 && k == 1) || (i == 1 && k == 2)
theorem mT56:∀i k,i < k→k < 4→mT t56 l56 i k=b56 i k:=by
 intro i k h1 h2;have hk:k=1∨k=2∨k=3:=by omega
 rcases hk with rfl | rfl | rfl
 ·obtain rfl:i=0:=by omega
  rw [m01];rfl
 ·have hi:i=0∨i=1:=by omega
  rcases hi with rfl | rfl
  ·rw [m02];rfl
  ·rw [m12];rfl
 ·have hi:i=0∨i=1∨i=2:=by omega
  rcases hi with rfl | rfl | rfl
  ·rw [m03];rfl
  ·rw [m13];rfl
  ·rw [m23];rfl
theorem vfu:qvr t56 l56=[⟨1,2⟩,⟨2,3⟩]:=by
 unfold qvr;rw [n56,qu7 (q:=b56) (mk':=fun i k=>Arr2_int64.mk (qi9 t56 i).ID (qi9 t56 k).ID) (fun i k h1 h2=>⟨mT56 i k h1 h2,rfl⟩)];decide +kernel
theorem R56 (u v:Nat):RT t56 l56 u v↔(u=0∧v=1)∨(u=1∧v=2)∨(u=1∧v=0)∨(u=2∧v=1):=by
 rw [vfn,n56];constructor
 ·rintro (⟨h1,h2,h3⟩ | ⟨h1,h2,h3⟩)
  ·rw [mT56 u v h1 h2] at h3;simp only [b56,vs7,vs2,beq_iff_eq] at h3;omega
  ·rw [mT56 v u h1 h2] at h3;simp only [b56,vs7,vs2,beq_iff_eq] at h3;omega
 ·rintro (⟨rfl,rfl⟩ | ⟨rfl,rfl⟩ | ⟨rfl,rfl⟩ | ⟨rfl,rfl⟩)
  ·exact .inl ⟨by omega,by omega,m01⟩
  ·exact .inl ⟨by omega,by omega,m12⟩
  ·exact .inr ⟨by omega,by omega,m01⟩
  ·exact .inr ⟨by omega,by omega,m12⟩
theorem vnv (u v:Nat) (hu:u < 4):Rch (RT t56 l56) u v↔(u < 3∧v < 3)∨(u=3∧v=3):=by
 constructor
 ·intro h;refine h.closed (S:=fun v=>(u < 3∧v < 3)∨(u=3∧v=3)) (by omega) fun x y hx hxy=>?_
  rw [R56] at hxy;omega
 ·have e01:RT t56 l56 0 1:=(R56 0 1).2 (by omega);have e12:RT t56 l56 1 2:=(R56 1 2).2 (by omega);have e10:RT t56 l56 1 0:=(R56 1 0).2 (by omega);have e21:RT t56 l56 2 1:=(R56 2 1).2 (by omega);have r1:∀v,v < 3→Rch (RT t56 l56) 1 v:=by
   intro v hv;have:v=0∨v=1∨v=2:=by omega
   rcases this with rfl | rfl | rfl
   ·exact .step .refl e10
   ·exact .refl
   ·exact .step .refl e12
  rintro (⟨h1,h2⟩ | ⟨rfl,rfl⟩)
  ·have:u=0∨u=1∨u=2:=by omega
   rcases this with rfl | rfl | rfl
   ·exact (Rch.step .refl e01).trans (r1 v h2)
   ·exact r1 v h2
   ·exact (Rch.step .refl e21).trans (r1 v h2)
  ·exact .refl
theorem vnw:qf7 (RT t56 l56) 4=[[0,1,2],[3]]:=by
 classical
 have hh:qmn (RT t56 l56) 4=[0,3]:=by
  unfold qmn;have:∀v,v∈vuf 4→(decide (∀u,u < v→¬Rch (RT t56 l56) u v))=(v == 0 || v == 3):=by
   intro v hv;have hv:=vwl.1 hv;rw [vw3,decide_eq_true_eq,vs7,beq_iff_eq,beq_iff_eq];constructor
   ·intro h;by_cases h0:v=0
    ·exact .inl h0
    ·right;have:=h 0 (by omega);rw [vnv 0 v (by omega)] at this;omega
   ·intro h u hu;rw [vnv u v (by omega)];omega
  rw [vyq this];rfl
 have hc:∀v,v < 4→ql0 (RT t56 l56) 4 v=(vuf 4).filter fun x=>(decide (v < 3) && decide (x < 3)) || (decide (v=3) && decide (x=3)):=by
  intro v hv;unfold ql0;refine vyq fun x _=>?_
  rw [vw3,decide_eq_true_eq,vnv v x hv];simp
 unfold qf7;rw [hh];simp only [vt5,List.map_nil,hc 0 (by omega),hc 3 (by omega)];rfl
theorem vnx:qib (wT t56 l56) [0,1,2]=[0,0,0]:=by
 unfold qib;rw [qz4 (W':=fun i k=>if b56 i k then 1 else -1) (fun i k h1 h2=>by
  have h2':k < 3:=h2;have e:∀j,j < 3→[0,1,2].getD j 0=j:=by
   intro j hj;have:j=0∨j=1∨j=2:=by omega
   rcases this with rfl | rfl | rfl <;> rfl
  unfold qjo wT;rw [e i (by omega),e k h2',if_neg (by omega),vws (by omega),vzj (by omega),mT56 i k h1 (by omega)])]
 decide +kernel
theorem vny:qib (wT t56 l56) [3]=[0]:=by
 unfold qib;rw [qz4 (W':=fun _ _=>0) (fun i k h1 h2=>by
  have h2':k < 1:=h2;omega)]
 decide +kernel
theorem cls56:qtd (qqa t56 l56)=[[1,2,3],[4]]:=by
 have:qqa t56 l56=[[1,2,3],[4]]:=by
  unfold qqa qxs;rw [n56,vnw];simp only [vvw,List.flatMap_nil,vnx,vny];decide +kernel
 rw [this];decide +kernel
theorem pl3a:qag (qdm 0 [1,2,3]) ([],0,0)=some (.inl [(1,0),(2,0),(3,0)]):=qiv 5 (by decide +kernel)
theorem pl3b:qag (qdm 1 [4]) ([(1,0),(2,0),(3,0)],0,0)=some (.inl [(1,0),(2,0),(3,0),(4,1)]):=qiv 5 (by decide +kernel)
theorem q5a:qep [[1,2,3],[4]]=some ([(1,0),(2,0),(3,0),(4,1)],3,true):=by
 have h:qag (qbi [[1,2,3],[4]]) ([],0,0)=some (.inl ([(1,0),(2,0),(3,0),(4,1)],3)):=by
  have i0:idx [[1,2,3],[4]] (0:Int)=some [1,2,(3:Int)]:=rfl;have i1:idx [[1,2,3],[4]] (1:Int)=some [(4:Int)]:=rfl;rw [qaf (s':=([(1,0),(2,0),(3,0)],3,1)) (by
   simp only [qbi,i0,vu7,pl3a];rfl)]
  rw [qaf (s':=([(1,0),(2,0),(3,0),(4,1)],3,2)) (by
   simp only [qbi,i1,vu7,pl3b];rfl)]
  exact qad (by simp [qbi])
 simp only [qep,h,vu7];decide +kernel
theorem pl3c:qag (qdm 0 [1,2]) ([],0,0)=some (.inl [(1,0),(2,0)]):=qiv 5 (by decide +kernel)
theorem pl3d:qag (qdm 1 [3]) ([(1,0),(2,0)],0,0)=some (.inl [(1,0),(2,0),(3,1)]):=qiv 5 (by decide +kernel)
theorem pl3e:qag (qdm 2 [4]) ([(1,0),(2,0),(3,1)],0,0)=some (.inl [(1,0),(2,0),(3,1),(4,2)]):=qiv 5 (by decide +kernel)
theorem q5b:qep [[1,2],[3],[4]]=some ([(1,0),(2,0),(3,1),(4,2)],1,true):=by
 have h:qag (qbi [[1,2],[3],[4]]) ([],0,0)=some (.inl ([(1,0),(2,0),(3,1),(4,2)],1)):=by
  have i0:idx [[1,2],[3],[4]] (0:Int)=some [1,(2:Int)]:=rfl;have i1:idx [[1,2],[3],[4]] (1:Int)=some [(3:Int)]:=rfl;have i2:idx [[1,2],[3],[4]] (2:Int)=some [(4:Int)]:=rfl;rw [qaf (s':=([(1,0),(2,0)],1,1)) (by
   simp only [qbi,i0,vu7,pl3c];rfl)]
  rw [qaf (s':=([(1,0),(2,0),(3,1)],1,2)) (by
   simp only [qbi,i1,vu7,pl3d];rfl)]
  rw [qaf (s':=([(1,0),(2,0),(3,1),(4,2)],1,3)) (by
   simp only [qbi,i2,vu7,pl3e];rfl)]
  exact qad (by simp [qbi])
 simp only [qep,h,vu7];decide +kernel
def pa56:List (Int×Int):=[(1,0),(2,0),(3,0),(4,1)]
def pb56:List (Int×Int):=[(1,0),(2,0),(3,1),(4,2)]
theorem vsk:qcq [[1,2,3],[4]] [[1,2],[3],[4]]=some (qns 1 3,0):=by
 have a1:qag (qcb (pb56,1,true) [1,2,3]) (0,[],0)=some 1:=qiv 5 (by decide +kernel);have a2:qag (qcb (pb56,1,true) [4]) (1,[],0)=some 1:=qiv 5 (by decide +kernel);have h:qag (qav [[1,2,3],[4]] (pb56,1,true)) (0,0)=some 1:=by
  have i0:idx [[1,2,3],[4]] (0:Int)=some [1,2,(3:Int)]:=rfl;have i1:idx [[1,2,3],[4]] (1:Int)=some [(4:Int)]:=rfl;rw [qaf (s':=(1,1)) (by simp only [qav,i0,vu7,a1];rfl)];rw [qaf (s':=(1,2)) (by simp only [qav,i1,vu7,a2];rfl)];exact qad (by simp [qav])
 have hm:qi5 1 3=some (qns 1 3,0):=qm3 1 3 (by omega) (by omega) (by omega);have z:((3:Int) == 0)=false:=rfl;have h':qag (qav [[1,2,3],[4]] ([(1,0),(2,0),(3,1),(4,2)],1,true)) (0,0)=some 1:=h;simp only [qcq,q5a,q5b,vu7,if_true,z,vs4,if_false,h',hm]
theorem vnz:qcq [[1,2],[3],[4]] [[1,2,3],[4]]=some (qns 1 1,0):=by
 have a1:qag (qcb (pa56,3,true) [1,2]) (0,[],0)=some 1:=qiv 5 (by decide +kernel);have a2:qag (qcb (pa56,3,true) [3]) (1,[],0)=some 1:=qiv 5 (by decide +kernel);have a3:qag (qcb (pa56,3,true) [4]) (1,[],0)=some 1:=qiv 5 (by decide +kernel);have h:qag (qav [[1,2],[3],[4]] (pa56,3,true)) (0,0)=some 1:=by
  have i0:idx [[1,2],[3],[4]] (0:Int)=some [1,(2:Int)]:=rfl;have i1:idx [[1,2],[3],[4]] (1:Int)=some [(3:Int)]:=rfl;have i2:idx [[1,2],[3],[4]] (2:Int)=some [(4:Int)]:=rfl;rw [qaf (s':=(1,1)) (by simp only [qav,i0,vu7,a1];rfl)];rw [qaf (s':=(1,2)) (by simp only [qav,i1,vu7,a2];rfl)];rw [qaf (s':=(1,3)) (by simp only [qav,i2,vu7,a3];rfl)];exact qad (by simp [qav])
 have hm:qi5 1 1=some (qns 1 1,0):=qm3 1 1 (by omega) (by omega) (by omega);have z:((1:Int) == 0)=false:=rfl;have h':qag (qav [[1,2],[3],[4]] ([(1,0),(2,0),(3,0),(4,1)],3,true)) (0,0)=some 1:=h;simp only [qcq,q5a,q5b,vu7,if_true,z,vs4,if_false,h',hm]
theorem q7l:qfo=some true:=by
 have hm:=ve5 vsi vsj;have hc:=qz3 vsi vsj (by rw [n56];omega);rw [vfu] at hm;rw [cls56] at hc;have hs:qc2 [⟨1,2⟩,⟨2,3⟩] [⟨1,2⟩,⟨2,3⟩]=some true:=by
  rw [q4x _ _ (by decide)];rfl
 have hl:qfm [[1,2,3],[4]] [[1,2,3],[4]]=some true:=by
  rw [va1 _ _ (by decide) (by decide)];rfl
 have o1:qdx 1 3=some (qns 1 3):=qt6 1 3 (by omega) (by omega) (by omega);have o2:qdx 1 1=some (qns 1 1):=qt6 1 1 (by omega) (by omega) (by omega);have hr:qin [[1,2,3],[4]] [[1,2],[3],[4]]=some (qns 1 1,0):=by
  simp only [qin,vnz,vu7]
 simp only [qfo,vft,vu7,hm,hc,vsk,hr,beq_self_eq_true,if_true,hs,hl,o1,o2,Bool.and_true]
def qqi (n:Nat) (x:Drossref56_Test):Similar :=
 ⟨vxa x.Attr (n:Int),1+vxa x.Measure 4,if 1+vxa x.Measure 4=3 then vxa x.Limit 101 else if 1+vxa x.Measure 4=1 then 0 else vxa x.Limit 4⟩
theorem q13 {n:Int} (h:okI .u8 n):0≤n∧n≤255:=vr4 h
theorem qpl {a b:Int} (ha:0≤a) (hb:0 < b):0≤vxa a b∧vxa a b < b:=by
 refine ⟨Int.tmod_nonneg b ha,Int.tmod_lt_of_pos a hb⟩
theorem vfv (n:Nat) (hn:1≤n) (hn2:n≤16) (d:Drossref56_Draft) (i k:Nat) {r:List Drossref56_Test} {x:Drossref56_Test} (hr:d.Rules[i]?=some r) (hx:r[k]?=some x) (hok:qcs x) (out:List Similar) (ho:out.length≤100) (hk:k≤1000) :
  qfq (n:Int) d (i:Int) (out,(k:Int))=some (.next (out++[qqi n x],((k+1:Nat):Int))):=by
 obtain ⟨h1,h2,h3⟩:=hok;have a1:=q13 h1;have a2:=q13 h2;have a3:=q13 h3;have hz:¬((n:Int)=0):=by omega
 have hroom:qao (out.length+1) 24=true:=q8w (by omega);have w:=wqn k;have m4:=qpl a2.1 (show (0:Int) < 4 by omega);have l101:=qpl a3.1 (show (0:Int) < 101 by omega);have l4:=qpl a3.1 (show (0:Int) < 4 by omega);have w1:vxc.wrap (vxa x.Measure 4)=vxa x.Measure 4:=qax (by omega) (by omega);have w2:vxc.wrap (1+vxa x.Measure 4)=1+vxa x.Measure 4:=qax (by omega) (by omega);have w3:vxc.wrap x.Attr=x.Attr:=qax (by omega) (by omega);have w4:vxc.wrap (vxa x.Limit 101)=vxa x.Limit 101:=qax (by omega) (by omega);have w5:vxc.wrap (vxa x.Limit 4)=vxa x.Limit 4:=qax (by omega) (by omega);simp only [qfq,qaa hr,vu7,if_pos (qaj hx),qaa hx,if_neg hz,w1,w2,w3,w4,w5,hroom,if_true,w,beq_iff_eq];unfold qqi;by_cases c1:1+vxa x.Measure 4=1
 ·have c3:¬1+vxa x.Measure 4=3:=by omega
  rw [if_pos c1,if_neg c3,if_neg c3,if_pos c1]
 ·by_cases c3:1+vxa x.Measure 4=3
  ·rw [if_neg c1,if_pos c3,if_pos c3]
  ·rw [if_neg c1,if_neg c3,if_neg c3,if_neg c1]
theorem vfw (n:Nat) (hn:1≤n) (hn2:n≤16) (d:Drossref56_Draft) (i:Nat) {r:List Drossref56_Test} (hr:d.Rules[i]?=some r) (hok:∀x∈r,qcs x) (hl:r.length≤3):qag (qfq (n:Int) d (i:Int)) ([],0)=some (r.map (qqi n)) :=
 q1t _ r (qqi n) 50 (by omega) (fun k out x hx ho=>vfv n hn hn2 d i k hr hx (hok x (vt9 hx)) out (by omega) (by have:=qan hx;omega)) (fun out=>by
  simp only [qfq,qaa hr,vu7,if_neg (vyh _)])
def q5c (d:Drossref56_Draft):Bool:=d.Rules.all fun r=>decide (1≤r.length∧r.length≤3)
theorem vbf (n:Nat) (hn:1≤n) (hn2:n≤16) (d:Drossref56_Draft) (hok:qbt d):qag (qda (n:Int) d) ([],0)=some (if q5c d then .inl (d.Rules.map fun r=>r.map (qqi n)) else .inr (⟨[],[],[]⟩,false)):=by
 have hR:=hok.1;have key:∀(m k:Nat),k+m=d.Rules.length→qag (qda (n:Int) d) ((d.Rules.take k).map (fun r=>r.map (qqi n)),(k:Int))=some (if (d.Rules.drop k).all (fun r=>decide (1≤r.length∧r.length≤3)) then .inl (d.Rules.map fun r=>r.map (qqi n)) else .inr (⟨[],[],[]⟩,false)):=by
  intro m
  induction m with
  | zero =>
   intro k hk;obtain rfl:k=d.Rules.length:=by omega
   exact qad (by simp [qda])
  | succ m ih =>
   intro k hk;have hlt:k < d.Rules.length:=by omega
   have hx:d.Rules[k]?=some d.Rules[k]:=vtp hlt;have hb:=hR.1;rw [qiq hx,List.all_cons];by_cases c1:(d.Rules[k].length:Int) < 1
   ·have:decide (1≤d.Rules[k].length∧d.Rules[k].length≤3)=false:=decide_eq_false (by omega);rw [this,vyd];exact qad (by simp only [qda,if_pos (qaj hx),qaa hx,vu7,if_pos c1];rfl)
   ·by_cases c2:(d.Rules[k].length:Int) > 3
    ·have:decide (1≤d.Rules[k].length∧d.Rules[k].length≤3)=false:=decide_eq_false (by omega);rw [this,vyd];exact qad (by simp only [qda,if_pos (qaj hx),qaa hx,vu7,if_neg c1,if_pos c2];rfl)
    ·have:decide (1≤d.Rules[k].length∧d.Rules[k].length≤3)=true:=decide_eq_true (by omega);rw [this,vyf];have hr:=vfw n hn hn2 d k hx (fun x hxm=>(hR.2 _ (vt9 hx)).2 x hxm) (by omega);have hroom:qao (((d.Rules.take k).map (fun r=>r.map (qqi n))).length+1) 24=true:=by
      unfold qao;simp only [vtz,vt3,decide_eq_true_eq];omega
     rw [qaf (s':=((d.Rules.take (k+1)).map (fun r=>r.map (qqi n)),((k+1:Nat):Int))) (by
      simp only [qda,if_pos (qaj hx),qaa hx,vu7,if_neg c1,if_neg c2,hr,hroom,if_true,wqn k];rw [vx4,hx,vzp,vt4,vxp])]
     exact ih (k+1) (by omega)
 have h:=key d.Rules.length 0 (by omega);simpa [q5c] using h
theorem vi6 (n:Nat) (hn:1≤n) {x:Drossref56_Test} (hok:qcs x):q1n (n:Int) (qqi n x)=0:=by
 obtain ⟨h1,h2,h3⟩:=hok;have a1:=q13 h1;have a2:=q13 h2;have a3:=q13 h3;have m4:=qpl a2.1 (show (0:Int) < 4 by omega);have l101:=qpl a3.1 (show (0:Int) < 101 by omega);have l4:=qpl a3.1 (show (0:Int) < 4 by omega);have an:=qpl a1.1 (show (0:Int) < (n:Int) by omega);have hlim:q2i (qqi n x)=true:=by
  unfold q2i qqi;simp only;by_cases c1:1+vxa x.Measure 4=1
  ·have c3:¬1+vxa x.Measure 4=3:=by omega
   rw [if_pos c1,if_neg c3,if_pos c1];rfl
  ·by_cases c3:1+vxa x.Measure 4=3
   ·have c2:¬(1+vxa x.Measure 4=2∨1+vxa x.Measure 4=4):=by omega
    rw [if_neg c1,if_neg c2,if_pos c3,if_pos c3,decide_eq_true_eq];omega
   ·have c2:1+vxa x.Measure 4=2∨1+vxa x.Measure 4=4:=by omega
    rw [if_neg c1,if_pos c2,if_neg c3,if_neg c1,decide_eq_true_eq];omega
 unfold q1n;rw [if_neg (show ¬((qqi n x).Attr < 0∨(qqi n x).Attr≥(n:Int)) by unfold qqi;simp only;omega),hlim];rfl
theorem vbg (n:Nat) (hn2:n≤16) (d:Drossref56_Draft) (hok:qbt d):∃B S,qag (qbo (n:Int) d) ([],[],0)=some (B,S)∧B.Nodup∧(∀x∈B,0≤x∧x < (n:Int))∧B.length≤n∧S.length=n∧∀x∈S,1≤x∧x≤5:=by
 have hS:=hok.2.2;have key:∀(m k:Nat) (B S:List Int),k+m=n→B.Nodup→(∀x∈B,0≤x∧x < (k:Int))→B.length≤k→S.length=k→(∀x∈S,1≤x∧x≤5) →
   ∃B' S',qag (qbo (n:Int) d) (B,S,(k:Int))=some (B',S')∧B'.Nodup∧(∀x∈B',0≤x∧x < (n:Int))∧B'.length≤n∧S'.length=n∧∀x∈S',1≤x∧x≤5:=by
  intro m
  induction m with
  | zero =>
   intro k B S hk h1 h2 h3 h4 h5;obtain rfl:k=n:=by omega
   exact ⟨B,S,qad (by simp only [qbo,if_neg (vyh _)]),h1,h2,h3,h4,h5⟩
  | succ m ih =>
   intro k B S hk h1 h2 h3 h4 h5;have c:((k:Int) < (n:Int)):=by omega
   have w:=wqn k;have r1:qao (B.length+1) 8=true:=qqd (by omega);have r2:qao (S.length+1) 8=true:=qqd (by omega);have hneg:¬((k:Int) < 0):=by omega
   obtain ⟨q,hq⟩:∃q:Bool,(show Option Bool from if (k:Int) < 8 then if (k:Int) < 0 then none else some ((vxa (Int.fdiv d.Block (2 ^ (min ((k:Int)).toNat 8))) 2) == 1) else some false)=some q:=by
    by_cases c8:(k:Int) < 8
    ·exact ⟨_,by rw [if_pos c8,if_neg hneg]⟩
    ·exact ⟨false,by rw [if_neg c8]⟩
   have B1:(B++[(k:Int)]).Nodup:=by
    rw [vy4];refine ⟨h1,by simp,?_⟩;intro a ha b hb e;rw [vwm] at hb;subst hb;subst e;have:=h2 _ ha;omega
   have B2:∀x∈B++[(k:Int)],0≤x∧x < ((k+1:Nat):Int):=by
    intro x hx;rcases vt7.1 hx with h | h
    ·have:=h2 x h;omega
    ·rw [vwm] at h;omega
   have B3:∀x∈B,0≤x∧x < ((k+1:Nat):Int):=fun x hx=>by have:=h2 x hx;omega
   have S1:∀y,1≤y∧y≤5→∀x∈S++[y],(1:Int)≤x∧x≤5:=by
    intro y hy x hx;rcases vt7.1 hx with h | h
    ·exact h5 x h
    ·rw [vwm] at h;subst h;exact hy
   have hq':(if (k:Int) < 8 then if (k:Int) < 0 then none else some ((vxa (Int.fdiv d.Block (2 ^ (min ((k:Int)).toNat 8))) 2) == 1) else some false)=some q:=hq;by_cases cs:(k:Int) < (d.Survive.length:Int)
   ·have hx:d.Survive[k]?=some d.Survive[k]:=vtp (by omega);have hu:=q13 (hS.2 _ (vt9 hx));have m5:=qpl hu.1 (show (0:Int) < 5 by omega);have w1:vxc.wrap (vxa d.Survive[k] 5)=vxa d.Survive[k] 5:=qax (by omega) (by omega);have w2:vxc.wrap (1+vxa d.Survive[k] 5)=1+vxa d.Survive[k] 5:=qax (by omega) (by omega);cases q with
    | true =>
     obtain ⟨B',S',g1,g2⟩:=ih (k+1) (B++[(k:Int)]) (S++[1+vxa d.Survive[k] 5]) (by omega) B1 B2 (by simp;omega) (by simp;omega) (S1 _ (by omega));refine ⟨B',S',?_,g2⟩;rw [qaf (s':=(B++[(k:Int)],S++[1+vxa d.Survive[k] 5],((k+1:Nat):Int))) (by
      simp only [qbo,if_pos c,hq',vu7,if_true,r1,r2,if_pos cs,qaa hx,w1,w2,w])]
     exact g1
    | false =>
     obtain ⟨B',S',g1,g2⟩:=ih (k+1) B (S++[1+vxa d.Survive[k] 5]) (by omega) h1 B3 (by omega) (by simp;omega) (S1 _ (by omega));refine ⟨B',S',?_,g2⟩;rw [qaf (s':=(B,S++[1+vxa d.Survive[k] 5],((k+1:Nat):Int))) (by
      simp only [qbo,if_pos c,hq',vu7,if_true,vs4,if_false,r1,r2,if_pos cs,qaa hx,w1,w2,w])]
     exact g1
   ·cases q with
    | true =>
     obtain ⟨B',S',g1,g2⟩:=ih (k+1) (B++[(k:Int)]) (S++[1]) (by omega) B1 B2 (by simp;omega) (by simp;omega) (S1 _ (by omega));refine ⟨B',S',?_,g2⟩;rw [qaf (s':=(B++[(k:Int)],S++[1],((k+1:Nat):Int))) (by
      simp only [qbo,if_pos c,hq',vu7,if_true,r1,r2,if_neg cs,w])]
     exact g1
    | false =>
     obtain ⟨B',S',g1,g2⟩:=ih (k+1) B (S++[1]) (by omega) h1 B3 (by omega) (by simp;omega) (S1 _ (by omega));refine ⟨B',S',?_,g2⟩;rw [qaf (s':=(B,S++[1],((k+1:Nat):Int))) (by
      simp only [qbo,if_pos c,hq',vu7,vs4,if_false,r1,r2,if_true,if_neg cs,w])]
     exact g1
 obtain ⟨B,S,g⟩:=key n 0 [] [] (by omega) (by simp) (by simp) (by simp) rfl (by simp);exact ⟨B,S,by simpa using g⟩
end Go.Proofs.YtmlegeeinnkhkaaGreat
