/- -/
import Derived.Lib.Repeat
import Derived.Lib.TrailingZeros
import Derived.Test.YtpealiejioeonaaGreatDoorL1
import Derived.Test.YtpealiejioeonaaGreatDoorA2
import Derived.Test.YtpealiejioeonaaGreatDoorA3
set_option linter.unusedVariables false
set_option linter.unusedSimpArgs false
open Bool renaming and_eq_false_iff→v2n,and_eq_true→vxh,eq_iff_iff→v2o,false_and→vz5,false_eq_true→vxj,false_or→v2p,not_eq_false'→v2q,not_eq_true→v2r,not_eq_true'→vxl,not_false→v2s,not_true→v2t,or_eq_false_iff→v2u,or_eq_true→vxm,or_false→v2v,true_and→v2w,true_eq_false→vxn
open Int renaming fdiv→vz6,natCast_mul→v2x,natCast_zero→v2y,one_mul→v2z,tmod→v2h,tmod_eq_emod_of_nonneg→v21,toNat_natCast→v1w
open Go.IntKind renaming bits→vz7,i64→vz8,max→v26,min→v27,signed→vz9,u16→v0a,u32→v0b,u64→v2j,wrap→v0c
open Go.Lib renaming compact→v1y,compareBytes→v28,ctzFrom_spec→v29
open List renaming Pairwise→v3a,Perm→v3b,all_eq_false→v3c,all_eq_true→v0e,any_eq_false→v3d,any_eq_true→v0g,append_assoc→vxr,append_nil→vxs,cons_append→v0h,drop_drop→v2k,eq_nil_iff_forall_not_mem→v3e,ext_getElem?→vxy,filter_append→v3f,filter_cons→v3g,filter_eq_nil_iff→v3h,filter_nil→v3i,findIdx?_eq_none_iff→v3j,findIdx?_eq_some_iff_getElem→v3k,flatMap_cons→v0j,foldl_cons→v3l,getD→v3m,getD_eq_getElem?_getD→v0k,getElem?_drop→vx3,getElem?_eq_getElem→vx4,getElem?_eq_none→vx5,getElem?_eq_some_iff→vx6,getElem?_map→vx7,getElem?_range→v3n,getElem?_set→v3o,getElem?_set_ne→v0o,getElem?_take→vya,getElem_mem→v3p,getElem_take→v3q,length→v2m,length_append→vyc,length_cons→v0q,length_drop→vyd,length_filter_le→v0s,length_map→vye,length_nil→vyf,length_range→v0u,length_replicate→vyg,length_reverse→v3r,length_set→vyh,length_singleton→v12,length_take→vyi,map_append→vyj,map_congr_left→v0w,mem_append→vym,mem_cons→v02,mem_cons_of_mem→v03,mem_cons_self→v04,mem_filter→v05,mem_flatMap→vyn,mem_iff_getElem→v3s,mem_iff_getElem?→v3t,mem_map→v06,mem_of_getElem?→vyo,mem_range→v08,mem_reverse→v3u,mem_singleton→v09,nil_append→vyt,nodup_cons→v3v,pairwise_append→v3w,pairwise_cons→v3x,pairwise_iff_getElem→v3y,pairwise_map→v3z,pairwise_reverse→v30,pairwise_singleton→v31,range→vyu,replicate→vyw,reverse_perm→v33,take_add_one→v34,take_append_drop→v1d,take_append_of_le_length→v37,take_length→v38,take_of_length_le→vy0,take_set_of_le→v4a,take_succ_eq_append_getElem→v4b
open Nat renaming add_assoc→vy3,add_comm→v4c,add_mul_mod_self_left→v4d,and_one_is_mod→v4e,and_two_pow_sub_one_eq_mod→v4f,div_eq_of_lt→v4g,div_le_self→v4h,eq_of_testBit_eq→v4i,le_refl→vza,le_trans→vzc,lt_of_le_of_lt→v4j,lt_of_lt_of_le→vzd,lt_or_ge→v4k,lt_trichotomy→v1g,min_eq_left→v1h,mod_eq_of_lt→v1i,mul_le_mul_right→vzh,not_lt_zero→v4l,one_mul→vzi,or_lt_two_pow→v4m,pow_le_pow_right→v4n,pow_lt_pow_right→v4o,pow_pos→v4p,pow_succ→v4q,strongRecOn→v1j,succ_mul→v4r,testBit_and→v4s,testBit_eq_decide_div_mod_eq→v4t,testBit_lt_two_pow→v4u,testBit_or→v4v,testBit_succ→v4w,testBit_two_pow→v4x,testBit_two_pow_mul_add→v4y,testBit_two_pow_sub_one→v4z,testBit_xor→v40,zero_add→vzl,zero_le→v1m,zero_testBit→v42
open Option renaming bind_some→vzm
open Option.some renaming inj→v1p
open Prod.mk renaming inj→v43
noncomputable section
namespace Go.Ab
inductive Rch (R:Nat→Nat→Prop) (v:Nat):Nat→Prop
 | refl:Rch R v v
 | step {x y:Nat}:Rch R v x→R x y→Rch R v y
theorem Rch.trans {R:Nat→Nat→Prop} {a b c:Nat} (h:Rch R a b) (h2:Rch R b c):Rch R a c:=by
 induction h2 with
 | refl=>exact h
 | step _ hr ih=>exact ih.step hr
theorem Rch.symm {R:Nat→Nat→Prop} (hs:∀x y,R x y→R y x) {a b:Nat} (h:Rch R a b):Rch R b a:=by
 induction h with
 | refl=>exact .refl
 | step _ hr ih=>exact (Rch.step .refl (hs _ _ hr)).trans ih
theorem Rch.closed {R:Nat→Nat→Prop} {S:Nat→Prop} {v x:Nat} (h:Rch R v x) (h0:S v) (hs:∀x y,S x→R x y→S y):S x:=by
 induction h with
 | refl=>exact h0
 | step _ hr ih=>exact hs _ _ ih hr
end Go.Ab
namespace Go.Proofs.YtpealiejioeonaaGreatDoor
open Go Go.Ab
def qrs (v:Value):Bool:=decide ((v.Kind=0∧v.Num=0∧v.Str=[])∨(v.Kind=1∧v.Str=[])∨(v.Kind=2∧v.Num=0∧v.Str.length≤200)∨(v.Kind=3∧1≤v.Num∧v.Str=[]))
theorem qsc (v:Value):qjh v=some (qrs v):=by
 simp only [qjh,qrs]
 repeat' split
 all_goals simp_all
 all_goals (try omega)
 all_goals (try (rw [v2o];simp <;> omega))
def sgn (a b:Int):Int:=if a < b then -1 else if b < a then 1 else 0
theorem q0o (a b:Int):qgp a b=some (sgn a b):=by
 simp only [qgp,qg8,sgn];simp;split <;> (try split) <;> simp_all
theorem qqm (a b:Int):qes a b=some (sgn a b):=by
 simp only [qes,qc8,sgn];simp;split <;> (try split) <;> simp_all
def vv9:List UInt8→List UInt8→Int
 | [],[]=>0
 | [],_ :: _=>-1
 | _ :: _,[]=>1
 | a :: x,b :: y=>if a=b then vv9 x y else sgn a.toNat b.toNat
theorem qqn:∀a b:List UInt8,v28 a b=vv9 a b
 | [],[]=>rfl
 | [],_ :: _=>rfl
 | _ :: _,[]=>rfl
 | x :: a,y :: b=>by
  simp only [v28,vv9,sgn,qqn a b,UInt8.lt_iff_toNat_lt,←UInt8.toNat_inj];split <;> split <;> (try split) <;> (try split) <;> omega
theorem qt7 (a b:List UInt8):qh9 a b=some (vv9 a b):=by
 simp [qh9,qf3,qqn]
theorem vwa {a b:Int} (h:a≠b):sgn a b≠0:=by
 unfold sgn;split <;> (try split) <;> omega
theorem vjm (a:Int):sgn a a=0:=by unfold sgn;simp
def vcmp (a b:Value):Int:=if sgn a.Kind b.Kind≠0 then sgn a.Kind b.Kind else if sgn a.Num b.Num≠0 then sgn a.Num b.Num else vv9 a.Str b.Str
theorem vwb (a b c:Int):qoj [a,b,c]=some (if a≠0 then a else if b≠0 then b else c):=by
 simp only [qoj];have w0:vz8.wrap 1=1:=by decide
 have w1:vz8.wrap 2=2:=by decide
 have w2:vz8.wrap 3=3:=by decide
 by_cases h1:a=0
 ·by_cases h2:b=0
  ·by_cases h3:c=0
   ·rw [qa1 (s':=1) (by simp [qcv,idx,h1,w0]),qa1 (s':=2) (by simp [qcv,idx,h2,w1]),qa1 (s':=3) (by simp [qcv,idx,h3,w2]),qam (t:=.inl ()) (by simp [qcv])];simp [h1,h2,h3]
   ·rw [qa1 (s':=1) (by simp [qcv,idx,h1,w0]),qa1 (s':=2) (by simp [qcv,idx,h2,w1]),qam (t:=.inr c) (by simp [qcv,idx,h3])];simp [h1,h2]
  ·rw [qa1 (s':=1) (by simp [qcv,idx,h1,w0]),qam (t:=.inr b) (by simp [qcv,idx,h2])];simp [h1,h2]
 ·rw [qam (t:=.inr a) (by simp [qcv,idx,h1])];simp [h1]
theorem qpo (a b:Value):qik a b=some (vcmp a b):=by
 simp only [qik,q0o,qqm,qt7,vzm,vwb,vcmp]
def vps:List Row→Int
 | []=>12
 | r :: l=>if (r :: l).all (fun x=>x.Values.length == r.Values.length) then 0 else 6
theorem qt8 (l:List Value) (f:Value→Option Bool) (p:Value→Bool) (hf:∀x∈l,f x=some (p x)) (hl:l.length≤1073741824):qdr l f=some (match l.findIdx? p with | some i=>(i:Int) | none=>-1):=by
 have h:=qhr l (qb3 l f) p
  (fun k x hx hk hp=>by simp [qb3,qah hx,qaf hx,hf x (vyo hx),hp,qcu hk (by omega)])
  (fun k x hx hp=>by simp [qb3,qah hx,qaf hx,hf x (vyo hx),hp])
  (by simp [qb3])
 simp only [qdr,h,vzm];cases l.findIdx? p <;> rfl
theorem qv9 (l:List Row) (f:Row→Option Bool) (p:Row→Bool) (hf:∀x∈l,f x=some (p x)) (hl:l.length≤1073741824):qek l f=some (match l.findIdx? p with | some i=>(i:Int) | none=>-1):=by
 have h:=qhr l (qch l f) p
  (fun k x hx hk hp=>by simp [qch,qah hx,qaf hx,hf x (vyo hx),hp,qcu hk (by omega)])
  (fun k x hx hp=>by simp [qch,qah hx,qaf hx,hf x (vyo hx),hp])
  (by simp [qch])
 simp only [qek,h,vzm];cases l.findIdx? p <;> rfl
theorem qmj {α:Type} (p:α→Bool) (l:List α):decide ((match l.findIdx? p with | some i=>((i:Nat):Int) | none=>-1)≥0)=l.any p:=by
 cases h:l.findIdx? p with
 | none =>
  rw [v3j] at h;have:l.any p=false:=by rw [v3d];intro x hx;simp [h x hx]
  rw [this];rfl
 | some i =>
  have:l.any p=true:=by
   rw [v3k] at h;obtain⟨hi,hp,_⟩:=h;rw [v0g];exact⟨_,v3p hi,hp⟩
  rw [this];simp
theorem qqo (l:List Value) (f:Value→Option Bool) (p:Value→Bool) (hf:∀x∈l,f x=some (p x)) (hl:l.length≤1073741824):qcr l f=some (l.any p):=by
 simp only [qcr,qt8 l f p hf hl,vzm,qmj]
def vl5:Int→List Row→Bool
 | _,[]=>true
 | a,r :: l=>decide (a < r.ID) && r.Values.all qrs && vl5 r.ID l
def vwc (rows:List Row):Prop:=∀r∈rows,∀v∈r.Values,v.Str.length≤1073741824
structure RowsOk (rows:List Row):Prop where
 len:rows.length≤1073741824
 vals:∀r∈rows,r.Values.length≤1073741824
 short:vwc rows
theorem q9e (a b:List Int) (ha:a.length≤1073741824):qgd a b=some (decide (a=b)):=by
 simp only [qgd];by_cases hl:a.length=b.length
 ·have hn:¬(((a.length:Int) != (b.length:Int))=true):=by simp;omega
  rw [if_neg hn];have key:∀(r:List Int) (k:Nat),a.drop k=r→k≤a.length→qaj (qe0 a b) (k:Int)=some (if r=b.drop k then .inl () else .inr false):=by
   intro r
   induction r with
   | nil =>
    intro k hd hk;have:k=a.length:=by
     have:=congrArg v2m hd;simp at this;omega
    subst this;have:b.drop a.length=[]:=by rw [hl];simp
    rw [this];exact qam (by simp [qe0])
   | cons x r ih =>
    intro k hd hk;have hx:a[k]?=some x:=by
     have:=congrArg (·[0]?) hd;simpa [vx3] using this
    have hd':a.drop (k+1)=r:=by rw [←v2k,hd];rfl
    have hlt:=qb9 hx;obtain⟨y,hy⟩:∃y,b[k]?=some y:=⟨_,vx4 (by omega)⟩;have hb:b.drop k=y :: b.drop (k+1):=by
     rw [List.drop_eq_getElem_cons (by omega)];congr 1;exact (vx6.1 hy).2
    rw [hb];by_cases hxy:x=y
    ·subst hxy;rw [qa1 (s':=((k+1:Nat):Int)) (by simp [qe0,qah hx,qaf hx,qaf hy,qcu hlt (by omega)]),ih (k+1) hd' hlt];simp
    ·rw [qam (t:=.inr false) (by simp [qe0,qah hx,qaf hx,qaf hy,hxy])];simp [hxy]
  have h0:=key a 0 (by simp) (v1m _);simp only [List.drop_zero,v2y] at h0;rw [h0];by_cases hab:a=b <;> simp [hab]
 ·have hn:(((a.length:Int) != (b.length:Int))=true):=by simp;omega
  rw [if_pos hn];have:a≠b:=fun e=>hl (by rw [e])
  simp [this]
theorem q7e {α:Type} (p:α→Bool) (l:List α):(l.any fun x=>!p x)=!l.all p:=by simp [List.all_eq_not_any_not]
def qsd (c:Int):Bool:=(decide (97≤c) && decide (c≤122)) || ((decide (65≤c) && decide (c≤90)) || c == 95)
theorem q4j (c : Int) : (show Option Bool from
            if c ≥ 97 then
              if c ≤ 122 then some true
              else if c ≥ 65 then if c ≤ 90 then some true else some (c == 95) else some (c == 95)
            else if c ≥ 65 then if c ≤ 90 then some true else some (c == 95) else some (c == 95)) = some (qsd c) := by
  simp only [qsd]
  by_cases h1 : 97 ≤ c <;> by_cases h2 : c ≤ 122 <;> by_cases h3 : 65 ≤ c <;> by_cases h4 : c ≤ 90 <;> simp [h1, h2, h3, h4]
def lod (c:UInt8):Bool:=qsd c.toNat || (decide (48≤(c.toNat:Int)) && decide ((c.toNat:Int)≤57))
def qt9:List UInt8→Bool
 | []=>false
 | c :: r=>decide (r.length < 24) && qsd c.toNat && !((c :: r) == [110,117,108,108]) && r.all lod
theorem qyd (s:List UInt8):qjr s=some (qt9 s):=by
 cases s with
 | nil=>rfl
 | cons c r =>
  have hn:¬(((c :: r) == [])=true):=by simp
  simp only [qjr,if_neg hn];by_cases h24:((c :: r).length:Int) > 24
  ·have:¬r.length < 24:=by simp at h24;omega
   rw [if_pos h24];simp [qt9,this]
  ·have h24':r.length < 24:=by simp at h24;omega
   rw [if_neg h24];by_cases hnull:((c :: r) == [110,117,108,108])=true
   ·simp only [hnull,if_true,qt9];simp
   ·simp only [v2r] at hnull;have hlet:∀x:UInt8,(show Option Bool from
      if ((x.toNat:Nat):Int)≥97 then
       if ((x.toNat:Nat):Int)≤122 then some true
       else if ((x.toNat:Nat):Int)≥65 then if ((x.toNat:Nat):Int)≤90 then some true else some (((x.toNat:Nat):Int) == 95) else some (((x.toNat:Nat):Int) == 95)
      else if ((x.toNat:Nat):Int)≥65 then if ((x.toNat:Nat):Int)≤90 then some true else some (((x.toNat:Nat):Int) == 95) else some (((x.toNat:Nat):Int) == 95))=some (qsd x.toNat):=fun x=>q4j x.toNat
    have h:=qvh (c :: r) (qgl (c :: r)) (fun k x=>qsd x.toNat || (decide (k≠0) && (decide (48≤(x.toNat:Int)) && decide ((x.toNat:Int)≤57)))) false
     (fun k x hx hk hp=>by
      simp only [qgl,if_pos (qah hx),qaf hx,vzm,hlet,qcu hk (by simp;omega)];by_cases hx1:qsd x.toNat=true
      ·simp [hx1]
      ·simp only [v2r] at hx1;simp only [hx1,v2p,vxh,decide_eq_true_eq] at hp;have e0:¬(((k:Int) == 0)=true):=by simp;omega
       have e1:¬(x.toNat:Int) < 48:=by omega
       have e2:¬(x.toNat:Int) > 57:=by omega
       simp [hx1,e0,e1,e2])
     (fun k x hx hp=>by
      simp only [qgl,if_pos (qah hx),qaf hx,vzm,hlet];simp only [v2u,v2n,decide_eq_false_iff_not] at hp;simp only [hp.1,vxj,if_false];by_cases e0:k=0
      ·simp [e0]
      ·have e0':¬(((k:Int) == 0)=true):=by simp;omega
       by_cases e1:(x.toNat:Int) < 48
       ·simp [e1]
       ·have e2:(x.toNat:Int) > 57:=by
         rcases hp.2 with h | h | h
         ·exact absurd e0 h
         ·omega
         ·omega
        simp [e1,e2])
     (by simp [qgl]) (c :: r) 0 rfl (v1m _)
    simp only [v2y] at h;simp only [hnull,vxj,if_false,h,vzm];have e:qie (fun k x=>qsd x.toNat || (decide (k≠0) && (decide (48≤(x.toNat:Int)) && decide ((x.toNat:Int)≤57)))) 0 (c :: r)=(qsd c.toNat && r.all lod):=by
     simp only [qie];rw [qt5 (q:=fun _ x=>lod x) r 1 (fun j x hj _=>by
      have hj0:j≠0:=by omega
      simp [lod,hj0]),qyc]
     simp
    rw [e];simp only [qt9,h24',decide_true,v2w,hnull,v2s,Bool.and_true];cases qsd c.toNat <;> cases r.all lod <;> rfl
def vb4:Option Nat→Int
 | some i=>i
 | none=>-1
theorem q9f {α:Type} (p:α→Bool) (l:List α):decide (vb4 (l.findIdx? p)≥0)=l.any p:=by
 rw [←qmj];cases l.findIdx? p <;> rfl
theorem qye (l:List (List UInt8)) (s:List UInt8) (hl:l.length≤1073741824):qe4 l s=some (vb4 (l.findIdx? (fun x=>s == x))):=by
 have h:=qhr l (qcn l s) (fun x=>s == x)
  (fun k x hx hk hp=>by simp only [qcn,if_pos (qah hx),qaf hx,vzm,hp,vxj,if_false,if_true,qcu hk (show l.length≤4611686018427387904 by omega)])
  (fun k x hx hp=>by simp only [qcn,if_pos (qah hx),qaf hx,vzm,hp,if_true])
  (by simp [qcn])
 simp only [qe4,h,vzm];cases l.findIdx? (fun x=>s == x) <;> rfl
theorem qnn (l:List (List UInt8)) (s:List UInt8) (hl:l.length≤1073741824):qdq l s=some (l.any fun x=>s == x):=by
 simp only [qdq,qye l s hl,vzm];exact congrArg some (q9f _ l)
def qvy (l:List (List UInt8)):Bool:=qie (fun k x=>qt9 x && !(l.take k).any fun y=>x == y) 0 l
def qd2 (n:Nat):Int→List Row→Int
 | _,[]=>0
 | a,r :: l=>if r.ID≤a then 1 else if r.Values.length≠n then 6 else if r.Values.all qrs then qd2 n r.ID l else 1
def qd3 (t:Table):Int :=
 if qt9 t.Name=false then 1 else if t.Attrs.length > 16 then 3 else if t.Rows.length > 1000 then 3 else if qvy t.Attrs=false then 1 else qd2 t.Attrs.length 0 t.Rows
theorem qzm (l:List Value) (hl:l.length≤1073741824):qgm l=some (l.all qrs):=by
 simp only [qgm,qqo l (fun y=>qdu y) (fun v=>!qrs v) (fun y _=>by simp [qdu,qsc]) hl,vzm,q7e,Bool.not_not]
theorem vfy {B:Int×Int→Option (LS (Int×Int) (Unit ⊕ Int))} (rows:List Row) (n:Nat)
  (hB:∀(k:Nat) (a:Int) x,rows[k]?=some x→k < rows.length→B (a,(k:Int))=if x.ID≤a then some (.done (.inr 1)) else if x.Values.length≠n then some (.done (.inr 6)) else if x.Values.all qrs then some (.next (x.ID,((k+1:Nat):Int))) else some (.done (.inr 1)))
  (hE:∀a,B (a,(rows.length:Int))=some (.done (.inl ()))):∀(r:List Row) (k:Nat) (a:Int),rows.drop k=r→k≤rows.length→∃o,qaj B (a,(k:Int))=some o∧(match o with | .inl ()=>qd2 n a r=0 | .inr z=>qd2 n a r=z∧z≠0):=by
 intro r
 induction r with
 | nil =>
  intro k a hd hk;have:k=rows.length:=by
   have:=congrArg v2m hd;simp at this;omega
  subst this;exact⟨.inl (),qam (hE a),rfl⟩
 | cons x r ih =>
  intro k a hd hk;have hx:rows[k]?=some x:=by
   have:=congrArg (·[0]?) hd;simpa [vx3] using this
  have hd':rows.drop (k+1)=r:=by rw [←v2k,hd];rfl
  have hlt:=qb9 hx;have hb:=hB k a x hx hlt;by_cases h1:x.ID≤a
  ·rw [if_pos h1] at hb;exact⟨_,qam hb,by simp [qd2,h1]⟩
  ·rw [if_neg h1] at hb;by_cases h2:x.Values.length≠n
   ·rw [if_pos h2] at hb;exact⟨_,qam hb,by simp [qd2,h1,h2]⟩
   ·rw [if_neg h2] at hb;by_cases h3:x.Values.all qrs=true
    ·rw [if_pos h3] at hb;obtain⟨o,h4,h5⟩:=ih (k+1) x.ID hd' hlt;refine⟨o,by rw [qa1 hb];exact h4,?_⟩;have e:qd2 n a (x :: r)=qd2 n x.ID r:=by
      simp only [qd2,if_neg h1,if_neg h2,if_pos h3]
     rw [e];exact h5
    ·rw [if_neg h3] at hb;exact⟨_,qam hb,by simp only [qd2,if_neg h1,if_neg h2,if_neg h3];exact⟨trivial,by omega⟩⟩
structure TableOk (t:Table):Prop where
 attrs:t.Attrs.length≤1073741824
 rows:t.Rows.length≤1073741824
 vals:∀r∈t.Rows,r.Values.length≤1073741824
 short:vwc t.Rows
theorem q9g {t:Table} (h:qs0 t):TableOk t:=by
 obtain⟨_,h2,h3⟩:=h;refine⟨by have:=h2.1;omega,by have:=h3.1;omega,fun r hr=>?_,fun r hr v hv=>?_⟩
 ·have:=(h3.2 r hr).2.1;omega
 ·have:okS v.Str:=((h3.2 r hr).2.2 v hv).2.2;unfold okS at this;omega
theorem qol (t : Table) (H : TableOk t) : qh7 t = some (qd3 t) := by
  simp only [qh7, qyd, vzm, qd3]
  by_cases h1 : qt9 t.Name = true
  · by_cases h2 : t.Attrs.length > 16
    · have : (t.Attrs.length : Int) > 16 := by omega
      simp [h1, h2, this]
    · have h2' : ¬ (t.Attrs.length : Int) > 16 := by omega
      by_cases h3 : t.Rows.length > 1000
      · have : (t.Rows.length : Int) > 1000 := by omega
        simp [h1, h2, h2', h3, this]
      · have h3' : ¬ (t.Rows.length : Int) > 1000 := by omega
        have hN := qvh t.Attrs (qho t) (fun k x => qt9 x && !(t.Attrs.take k).any fun y => x == y) 1
          (fun k x hx hk hp => by
            simp only [vxh, vxl] at hp
            have h0 : ((0 : Int) ≤ (k : Int)) := by omega
            have h1 : ((k : Int) ≤ (t.Attrs.length : Int)) := by omega
            have hA := H.attrs
            simp only [qho, if_pos (qah hx), qaf hx, vzm, qyd, hp.1, if_true, if_pos h0, if_pos h1, v1w, qnn _ x (show (t.Attrs.take k).length ≤ 1073741824 by simp; omega), hp.2, vxj, if_false,
              qcu hk (show t.Attrs.length ≤ 4611686018427387904 by omega)])
          (fun k x hx hp => by
            have hk := qb9 hx
            have h0 : ((0 : Int) ≤ (k : Int)) := by omega
            have h1 : ((k : Int) ≤ (t.Attrs.length : Int)) := by omega
            have hA := H.attrs
            simp only [qho, if_pos (qah hx), qaf hx, vzm, qyd, if_pos h0, if_pos h1, v1w, qnn _ x (show (t.Attrs.take k).length ≤ 1073741824 by simp; omega)]
            rcases Bool.eq_false_or_eq_true (qt9 x) with hn | hn
            · simp only [hn, v2w, v2q] at hp
              simp only [hn, if_true, hp]
            · simp [hn])
          (by simp [qho]) t.Attrs 0 rfl (v1m _)
        simp only [v2y] at hN
        simp only [h1, if_true, if_neg h2', if_neg h3', hN, vzm, vxn, if_false, if_neg h2, if_neg h3]
        have hNe : qvy t.Attrs = qie (fun k x => qt9 x && !(t.Attrs.take k).any fun y => x == y) 0 t.Attrs := rfl
        rw [← hNe]
        by_cases h4 : qvy t.Attrs = true
        · obtain ⟨o, h5, h6⟩ := vfy (B := qix t) t.Rows t.Attrs.length (fun k a x hx hk => by
              simp only [qix, if_pos (qah hx), qaf hx, vzm, qzm _ (H.vals x (vyo hx)), qcu hk (show t.Rows.length ≤ 4611686018427387904 by have := H.rows; omega)]
              by_cases e1 : x.ID ≤ a
              · simp [e1]
              · by_cases e2 : x.Values.length = t.Attrs.length
                · simp [e1, e2]
                · have : ¬ ((x.Values.length : Int) = t.Attrs.length) := by omega
                  simp [e1, e2, this]) (fun a => by simp [qix]) t.Rows 0 0 rfl (v1m _)
          simp only [v2y] at h5
          simp only [h4, if_true, h5, vzm, vxn, if_false]
          cases o with
          | inl u => simp only at h6 ⊢; rw [h6]
          | inr z => simp only at h6 ⊢; rw [h6.1]
        · simp only [v2r] at h4
          simp [h4]
  · simp only [v2r] at h1
    simp [h1]
end Go.Proofs.YtpealiejioeonaaGreatDoor
namespace Go.Ab
open Go
end Go.Ab
namespace Go.Proofs.YtpealiejioeonaaGreatDoor
open Go Go.Ab
end Go.Proofs.YtpealiejioeonaaGreatDoor
namespace Go.Ab
open Go
end Go.Ab
namespace Go.Proofs.YtpealiejioeonaaGreatDoor
open Go Go.Ab
abbrev Str:=List UInt8
end Go.Proofs.YtpealiejioeonaaGreatDoor
namespace Go.Ab
inductive EdN {α:Type}:Nat→List α→List α→Prop
 | nil:EdN 0 [] []
 | keep {n:Nat} {a b:List α} {x:α}:EdN n a b→EdN n (a++[x]) (b++[x])
 | sub {n:Nat} {a b:List α} {x y:α}:EdN n a b→EdN (n+1) (a++[x]) (b++[y])
 | del {n:Nat} {a b:List α} {x:α}:EdN n a b→EdN (n+1) (a++[x]) b
 | ins {n:Nat} {a b:List α} {y:α}:EdN n a b→EdN (n+1) a (b++[y])
theorem EdN.len {α:Type} {n:Nat} {a b:List α} (h:EdN n a b):a.length≤b.length+n∧b.length≤a.length+n:=by
 induction h <;> simp only [vyc,v12,vyf] at * <;> omega
def vwd {α:Type} (q:Nat) (w:List α):List (List α):=(vyu (w.length+1 - q)).map fun i=>(w.drop i).take q
theorem qua {α:Type} (q:Nat) (w:List α) (x:α) (h:q≤w.length+1):vwd q (w++[x])=vwd q w++[(w++[x]).drop (w.length+1 - q)]:=by
 unfold vwd;rw [vyc,v12,show w.length+1+1 - q=(w.length+1 - q)+1 by omega,List.range_succ,vyj,List.map_singleton];congr 1
 ·apply v0w;intro i hi;rw [v08] at hi;rw [List.drop_append_of_le_length (by omega),v37 (by rw [vyd];omega)]
 ·congr 1;apply vy0;rw [vyd,vyc,v12];omega
def EdI {α:Type} (q n:Nat) (a b:List α):Prop :=
 q≤a.length+1∧q≤b.length+1∧∃(u v t:List α) (C X Y:List (List α)),a=u++t∧b=v++t∧t.length≤q - 1 ∧
  (vwd q a).Perm (C++X)∧(vwd q b).Perm (C++Y)∧X.length+(q - 1)≤n * q+t.length∧Y.length+(q - 1)≤n * q+t.length
theorem qub {α:Type} {l C X:List α} (g:α) (h:l.Perm (C++X)):(l++[g]).Perm (C++(X++[g])):=by
 rw [←vxr];exact h.append_right _
theorem q0p {α:Type} {l C X:List α} (g:α) (h:l.Perm (C++X)):(l++[g]).Perm ((C++[g])++X):=by
 refine (h.append_right _).trans ?_;rw [vxr,vxr];exact (List.perm_append_comm).append_left C
theorem EdI.keep {α:Type} {q n:Nat} {a b:List α} (hq:1≤q) (x:α) (h:EdI q n a b):EdI q n (a++[x]) (b++[x]):=by
 obtain⟨ha,hb,u,v,t,C,X,Y,ea,eb,ht,hX,hY,lX,lY⟩:=h;refine⟨by rw [vyc];omega,by rw [vyc];omega,?_⟩;rw [qua q a x ha,qua q b x hb];by_cases hs:t.length=q - 1
 ·have e1:(a++[x]).drop (a.length+1 - q)=t++[x]:=by
   rw [ea,vxr];rw [show (u++t).length+1 - q=u.length by rw [vyc];omega,List.drop_left]
  have e2:(b++[x]).drop (b.length+1 - q)=t++[x]:=by
   rw [eb,vxr];rw [show (v++t).length+1 - q=v.length by rw [vyc];omega,List.drop_left]
  rw [e1,e2];refine⟨u++(t++[x]).take 1,v++(t++[x]).take 1,(t++[x]).drop 1,C++[t++[x]],X,Y,?_,?_,?_,q0p _ hX,q0p _ hY,?_,?_⟩
  ·rw [vxr,v1d,ea,vxr]
  ·rw [vxr,v1d,eb,vxr]
  all_goals (rw [vyd,vyc,v12];omega)
 ·refine⟨u,v,t++[x],C,X++[_],Y++[_],by rw [ea,vxr],by rw [eb,vxr],?_,qub _ hX,qub _ hY,?_,?_⟩
  all_goals (simp only [vyc,v12];omega)
theorem EdI.keeps {α:Type} {q n:Nat} (hq:1≤q):∀(p:List α) {a b:List α},EdI q n a b→EdI q n (a++p) (b++p)
 | [],a,b,h=>by simpa using h
 | x :: p,a,b,h=>by
  have:=EdI.keeps hq p (h.keep hq x);simpa [vxr] using this
theorem EdI.sub {α:Type} {q n:Nat} {a b:List α} (hq:1≤q) (x y:α) (h:EdI q n a b):EdI q (n+1) (a++[x]) (b++[y]):=by
 obtain⟨ha,hb,u,v,t,C,X,Y,ea,eb,ht,hX,hY,lX,lY⟩:=h;refine⟨by rw [vyc];omega,by rw [vyc];omega,?_⟩;rw [qua q a x ha,qua q b y hb];refine⟨a++[x],b++[y],[],C,X++[_],Y++[_],by simp,by simp,by simp,qub _ hX,qub _ hY,?_,?_⟩
 all_goals (simp only [vyc,v12,vyf,Nat.add_mul,vzi];omega)
end Go.Ab
namespace Go.Proofs.YtpealiejioeonaaGreatDoor
open Go Go.Ab
end Go.Proofs.YtpealiejioeonaaGreatDoor
namespace Go.Ab
open Go
end Go.Ab
namespace Go.Proofs.YtpealiejioeonaaGreatDoor
open Go Go.Ab
end Go.Proofs.YtpealiejioeonaaGreatDoor
namespace Go.Ab
end Go.Ab
namespace Go.Ab
open Go
theorem q4k (n:Nat):v0b.wrap (n:Int)=((n % 4294967296:Nat):Int):=by
 simp only [v0c,vz9,vz7,vz5,vxj,if_false];rw [show ((2:Int) ^ 32)=4294967296 from rfl];omega
theorem qrl {n:Int} (h1:0≤n) (h2:n≤18446744073709551615):v2j.wrap n=n:=by
 simp only [v0c,vz9,vz7];simp only [vz5,vxj,if_false];rw [show ((2:Int) ^ 64)=18446744073709551616 from rfl];omega
theorem vfz {a b:Nat} (ha:a < 4294967296) (hb:b < 4294967296):v0b.wrap ((BitVec.ofInt 32 (a:Int) &&& BitVec.ofInt 32 (b:Int)).toNat:Int)=((a &&& b:Nat):Int):=by
 rw [vie,BitVec.toNat_and,qvt ha,qvt hb]
theorem q9h {a b:Nat} (ha:a < 4294967296) (hb:b < 4294967296):v0b.wrap ((BitVec.ofInt 32 (a:Int) ||| BitVec.ofInt 32 (b:Int)).toNat:Int)=((a ||| b:Nat):Int):=by
 rw [vie,BitVec.toNat_or,qvt ha,qvt hb]
def qwa (a b:Nat):Nat:=a ^^^ (a &&& b)
theorem quc (a b i:Nat):(qwa a b).testBit i=(a.testBit i && !b.testBit i):=by
 unfold qwa;rw [v40,v4s];cases a.testBit i <;> cases b.testBit i <;> rfl
theorem vjn {a b:Nat} (ha:a < 4294967296) (hb:b < 4294967296):v0b.wrap ((BitVec.ofInt 32 (a:Int) &&& ~~~ BitVec.ofInt 32 (b:Int)).toNat:Int)=((qwa a b:Nat):Int):=by
 rw [vie];congr 1;apply v4i;intro i;rw [quc];rw [BitVec.testBit_toNat,BitVec.getLsbD_and,BitVec.getLsbD_not,←BitVec.testBit_toNat,←BitVec.testBit_toNat,qvt ha,qvt hb];by_cases hi:i < 32
 ·simp [hi]
 ·have:a.testBit i=false:=v4u (vzd ha (by
   have:2 ^ 32≤2 ^ i:=v4n (by omega) (by omega);exact this))
  simp [this]
theorem q9i {i:Nat} (h:i < 32):2 ^ i < 4294967296:=v4o (by omega) h
theorem vjo {i:Nat} (h:i < 32):v0b.wrap (1 * 2 ^ (min i 32))=((2 ^ i:Nat):Int):=by
 rw [v1h (by omega),v2z];have:((2:Int) ^ i)=((2 ^ i:Nat):Int):=by simp
 rw [this];have h2:=q9i h;generalize 2 ^ i=p at h2 ⊢;exact qwm (by omega) (by omega)
theorem vpt (a i:Nat):(((a / 2 ^ i % 2:Nat):Int) == 1)=a.testBit i:=by
 rw [v4t,v2o];simp only [beq_iff_eq,decide_eq_true_eq];omega
theorem vf0 {a n:Nat} (h:∀i,n≤i→a.testBit i=false):a < 2 ^ n:=Nat.lt_pow_two_of_testBit a h
theorem q0q {a n i:Nat} (h:a < 2 ^ n) (hi:n≤i):a.testBit i=false:=v4u (vzd h (v4n (by omega) hi))
theorem vwe {a b:Nat} (ha:a < 4294967296) (hb:b < 4294967296):a ||| b < 4294967296:=v4m (n:=32) ha hb
theorem vjp {a b:Nat} (ha:a < 4294967296):qwa a b < 4294967296:=by
 refine vf0 (n:=32) fun i hi=>?_
 rw [quc,q0q (n:=32) ha hi];rfl
def setN (l:List Nat):Nat:=l.foldl (fun s x=>s ||| 2 ^ x) 0
theorem qud (i:Nat):∀(l:List Nat) (s:Nat),(l.foldl (fun s x=>s ||| 2 ^ x) s).testBit i=(s.testBit i || decide (i∈l))
 | [],s=>by simp
 | x :: l,s=>by
  rw [v3l,qud i l,v4v,v4x];by_cases h:i=x
  ·subst h;simp
  ·have:decide (x=i)=false:=by simp;exact fun e=>h e.symm
   rw [this];simp [h]
theorem vjq (l:List Nat) (i:Nat):(setN l).testBit i=decide (i∈l):=by unfold setN;rw [qud];simp
end Go.Ab
namespace Go.Proofs.YtpealiejioeonaaGreatDoor
open Go Go.Ab
theorem qtu (a k:Nat):vz6 (a:Int) (2 ^ k)=((a / 2 ^ k:Nat):Int):=by
 have e:(2:Int) ^ k=((2 ^ k:Nat):Int):=by simp
 rw [e];exact (Int.ofNat_fdiv a (2 ^ k)).symm
end Go.Proofs.YtpealiejioeonaaGreatDoor
namespace Go.Ab
open Go
theorem q7f (zs:List Int) (x:Int):x∈v1y zs↔x∈zs:=by
 unfold v1y Lib.compactUpTo;simp only [v06,v05,v08];constructor
 ·rintro⟨j,⟨hj,_⟩,rfl⟩;simp [getElem!_pos,hj]
 ·intro hx;have hlt:=List.idxOf_lt_length_of_mem hx;refine⟨zs.idxOf x,⟨hlt,?_⟩,by simp [getElem!_pos,hlt]⟩;simp only [Lib.keeps,decide_eq_true_eq];by_cases h0:zs.idxOf x=0
  ·exact .inl h0
  ·right;have h1:zs.idxOf x - 1 < zs.length:=by omega
   have e1:zs.toArray[zs.idxOf x]! = x:=by simp [getElem!_pos,hlt]
   have e2:zs.toArray[zs.idxOf x - 1]! = zs[zs.idxOf x - 1]:=by simp [getElem!_pos,h1]
   rw [e1,e2];intro e;have hm:=List.not_of_lt_findIdx (p:=fun y=>y == x) (xs:=zs) (i:=zs.idxOf x - 1) (by show zs.idxOf x - 1 < zs.idxOf x;omega);simp only [beq_eq_false_iff_ne,ne_eq] at hm;exact hm e.symm
end Go.Ab
namespace Go.Proofs.YtpealiejioeonaaGreatDoor
open Go Go.Ab
def lexN (x y:Nat):Prop:=q8w x < q8w y∨(q8w x=q8w y∧x < y)
instance (x y:Nat):Decidable (lexN x y):=by unfold lexN;exact inferInstance
end Go.Proofs.YtpealiejioeonaaGreatDoor
namespace Go.Ab
open Go
theorem q7g (m i:Nat):(2 * m+1).testBit (i+1)=m.testBit i:=by
 rw [v4w];congr 1;omega
theorem q4l (m i:Nat):(2 * m).testBit (i+1)=m.testBit i:=by
 rw [v4w];congr 1;omega
theorem vpu {n:Nat} (h0:n≠0) (h:n < 4294967296):∃k,k < 32∧n.testBit k=true∧n &&& (4294967296 - n)=2 ^ k∧(∀j,(n &&& (n - 1)).testBit j=(n.testBit j && decide (j≠k)))∧n &&& (n - 1) < n:=by
 obtain⟨m,hm,hk⟩:=v29 32 n (by omega) h;generalize Lib.ctzFrom 32 n=k at hm hk;have hp:0 < 2 ^ k:=v4p (by omega);have b1:∀j,n.testBit j=if j < k then false else (2 * m+1).testBit (j - k):=by
  intro j;have:=v4y (2 * m+1) (b:=0) hp j;rw [Nat.add_zero,←hm] at this;rw [this];simp
 have e1:n - 1=2 ^ k * (2 * m)+(2 ^ k - 1):=by
  rw [hm,Nat.mul_add,Nat.mul_one];omega
 have b2:∀j,(n - 1).testBit j=if j < k then (2 ^ k - 1).testBit j else (2 * m).testBit (j - k):=by
  intro j;rw [e1];exact v4y (2 * m) (b:=2 ^ k - 1) (by omega) j
 have hbits:∀j,(n &&& (n - 1)).testBit j=(n.testBit j && decide (j≠k)):=by
  intro j;rw [v4s,b1,b2];by_cases hj:j < k
  ·simp [hj]
  ·simp only [if_neg hj];by_cases hjk:j=k
   ·subst hjk;simp
   ·obtain⟨i,hi⟩:∃i,j - k=i+1:=⟨j - k - 1,by omega⟩;rw [hi,q7g,q4l];simp [hjk]
 refine⟨k,hk,?_,?_,hbits,?_⟩
 ·rw [b1,if_neg (by omega),Nat.sub_self];simp
 ·have:=Lib.and_neg 32 k m (by rw [←hm];exact h);rw [←hm] at this;exact this
 ·exact v4j Nat.and_le_right (by omega)
end Go.Ab
namespace Go.Proofs.YtpealiejioeonaaGreatDoor
open Go Go.Ab
theorem vwf (l:List Int) (x:Int) (hl:l.length≤4611686018427387904):qi9 l x=some (decide (x∈l)):=by
 have h:=qfg l (qe1 l x) (fun y=>!(y == x)) true
  (fun k y hx hk hp=>by
   simp only [vxl] at hp;simp only [qe1,if_pos (qah hx),qaf hx,vzm,hp,vxj,if_false,qcu hk hl])
  (fun k y hx hp=>by
   simp only [v2q] at hp;simp only [qe1,if_pos (qah hx),qaf hx,vzm,hp,if_true])
  (by simp [qe1])
 simp only [qi9,h,vzm];by_cases hm:x∈l
 ·have:l.all (fun y=>!(y == x))=false:=by rw [v3c];exact⟨x,hm,by simp⟩
  simp [this,hm]
 ·have:l.all (fun y=>!(y == x))=true:=by
   rw [v0e];intro y hy;simp only [vxl,beq_eq_false_iff_ne];intro e;rw [e] at hy;exact hm hy
  simp [this,hm]
theorem qzn (l:List Int) (x:Int) (hl:l.length≤1073741824):qf7 l x=some (vb4 (l.findIdx? (fun y=>x == y))):=by
 have h:=qhr l (qc3 l x) (fun y=>x == y)
  (fun k y hx hk hp=>by simp only [qc3,if_pos (qah hx),qaf hx,vzm,hp,vxj,if_false,if_true,qcu hk (show l.length≤4611686018427387904 by omega)])
  (fun k y hx hp=>by simp only [qc3,if_pos (qah hx),qaf hx,vzm,hp,if_true])
  (by simp [qc3])
 simp only [qf7,h,vzm];cases l.findIdx? (fun y=>x == y) <;> rfl
theorem q4m {K V:Type} [DecidableEq K] (m:List (K×V)) (k x:K) (v:V):quy (qzg m k v) x=if x=k then some v else quy m x:=by
 induction m with
 | nil=>simp [qzg,quy]
 | cons p r ih =>
  obtain⟨a,u⟩:=p;simp only [qzg];by_cases h:k=a
  ·subst h;simp only [if_pos,quy];by_cases hx:x=k <;> simp [hx]
  ·simp only [if_neg h,quy,ih];by_cases hx:x=a
   ·subst hx;have:¬x=k:=fun e=>h e.symm
    simp [this]
   ·simp [hx]
theorem q4n (l:List Int) (x:Int) (hl:l.length≤1073741824):qeg l x=some (vb4 (l.findIdx? (fun y=>x == y))):=by
 have h:=qhr l (qdz l x) (fun y=>x == y)
  (fun k y hx hk hp=>by simp only [qdz,if_pos (qah hx),qaf hx,vzm,hp,vxj,if_false,if_true,qcu hk (show l.length≤4611686018427387904 by omega)])
  (fun k y hx hp=>by simp only [qdz,if_pos (qah hx),qaf hx,vzm,hp,if_true])
  (by simp [qdz])
 simp only [qeg,h,vzm];cases l.findIdx? (fun y=>x == y) <;> rfl
theorem qvz:∀(n:Nat) (a:Int) (l:List Row),qd2 n a l=0→(∀r∈l,r.Values.length=n∧r.Values.all qrs=true∧a < r.ID)∧l.Pairwise (fun x y=>x.ID < y.ID)
 | n,a,[],_=>⟨fun r hr=>(by cases hr),v3a.nil⟩
 | n,a,x :: l,h=>by
  simp only [qd2] at h;by_cases h1:x.ID≤a
  ·simp [h1] at h
  by_cases h2:x.Values.length≠n
  ·simp [h1,h2] at h
  by_cases h3:x.Values.all qrs=true
  ·rw [if_neg h1,if_neg h2,if_pos h3] at h;obtain⟨k1,k2⟩:=qvz n x.ID l h;refine⟨fun r hr=>?_,v3a.cons (fun y hy=>(k1 y hy).2.2) k2⟩;rcases v02.1 hr with rfl | hr
   ·exact⟨by omega,h3,by omega⟩
   ·have:=k1 r hr;exact⟨this.1,this.2.1,by omega⟩
  ·rw [if_neg h1,if_neg h2,if_neg h3] at h;cases h
theorem q4o {t:Table} (h:qd3 t=0):t.Attrs.length≤16∧t.Rows.length≤1000∧qd2 t.Attrs.length 0 t.Rows=0:=by
 unfold qd3 at h;by_cases h1:qt9 t.Name=false
 ·simp [h1] at h
 by_cases h2:t.Attrs.length > 16
 ·rw [if_neg h1,if_pos h2] at h;cases h
 by_cases h3:t.Rows.length > 1000
 ·rw [if_neg h1,if_neg h2,if_pos h3] at h;cases h
 by_cases h4:qvy t.Attrs=false
 ·rw [if_neg h1,if_neg h2,if_neg h3,if_pos h4] at h;cases h
 rw [if_neg h1,if_neg h2,if_neg h3,if_neg h4] at h;exact⟨by omega,by omega,h⟩
theorem qyf {α:Type} (p:Nat→α→Bool):∀(l:List α) (k:Nat),qie p k l=true↔∀(j:Nat) (x:α),l[j]?=some x→p (k+j) x=true
 | [],k=>by simp [qie]
 | y :: r,k=>by
  simp only [qie,vxh,qyf p r (k+1)];constructor
  ·rintro⟨h1,h2⟩ j x hx;cases j with
   | zero=>simp at hx;subst hx;exact h1
   | succ j =>
    have:=h2 j x (by simpa using hx)
    rwa [vy3,v4c 1] at this
  ·intro h;refine⟨h 0 y rfl,fun j x hx=>?_⟩;have:=h (j+1) x (by simpa using hx)
   rwa [vy3,v4c 1]
theorem q4p {α:Type} [DecidableEq α] (a b:List α) (h:a.length=b.length):qie (fun k x=>decide (b[k]?=some x)) 0 a=decide (a=b):=by
 rw [v2o,qyf,decide_eq_true_eq];simp only [vzl,decide_eq_true_eq];constructor
 ·intro hh;apply vxy ;intro i;by_cases hi:i < a.length
  ·rw [vx4 hi];exact (hh i _ (vx4 hi)).symm
  ·rw [vx5 (by omega),vx5 (by omega)]
 ·rintro rfl j x hx;exact hx
theorem vjr {n:Nat} (h:n≤12):∃x,qrk (v2j.wrap ((n:Nat):Int))=some x:=by
 have:n=0∨n=1∨n=2∨n=3∨n=4∨n=5∨n=6∨n=7∨n=8∨n=9∨n=10∨n=11∨n=12:=by omega
 rcases this with rfl | rfl | rfl | rfl | rfl | rfl | rfl | rfl | rfl | rfl | rfl | rfl | rfl <;>
 exact⟨_,by simp only [qrk,qvf];rw [if_pos (by decide)];rfl⟩
theorem qzo (l:List Int) (h:l.length≤1073741824):qhw l=some l:=by
 unfold qhw;rw [if_pos (qeh (by omega) (by omega))]
structure KR (t:Table) (rows:List Row) (rules:List Int):Prop where
 ok:RowsOk rows
 ne:rows≠[]
 err:vps rows=0
 okr:vl5 0 rows=true
 lens:∀r∈rows,r.Values.length=t.Attrs.length
theorem vf1 {α:Type} [DecidableEq α] (a b:List α) (h:a.length=b.length) {B:Int→Option (LS Int (Unit ⊕ Bool))}
  (hB:∀(k:Nat) x y,a[k]?=some x→b[k]?=some y→B (k:Int)=if decide (x=y)=true then some (.next ((k+1:Nat):Int)) else some (.done (.inr false)))
  (hE:B (a.length:Int)=some (.done (.inl ()))):qaj B 0=some (if decide (a=b) then .inl () else .inr false):=by
 have hl:=qvh a B (fun k x=>decide (b[k]?=some x)) false
  (fun k x hx hk hp=>by
   simp only [decide_eq_true_eq] at hp;rw [hB k x x hx hp];simp)
  (fun k x hx hp=>by
   have hk:=qb9 hx;have hb:b[k]?=some (b[k]'(by omega)):=vx4 (by omega);rw [hb] at hp;simp only [Option.some.injEq,decide_eq_false_iff_not] at hp;rw [hB k x _ hx hb,if_neg];simp only [decide_eq_true_eq];exact fun e=>hp e.symm) hE a 0 rfl (v1m _)
 simp only [v2y,q4p a b h] at hl;exact hl
theorem qse (a b:List Int) (ha:a.length≤1073741824):qd9 a b=some (decide (a=b)):=by
 simp only [qd9];by_cases h:a.length=b.length
 ·have e:¬(((a.length:Int) != (b.length:Int))=true):=by simp [h]
  rw [if_neg e,vf1 a b h (fun k x y hx hy=>by
   have hk:=qb9 hx;simp only [qf4,if_pos (qah hx),qaf hx,qaf hy,vzm,qcu hk (show a.length≤4611686018427387904 by omega)];by_cases hxy:x=y <;> simp [hxy]) (by simp [qf4])]
  by_cases hab:a=b <;> simp [hab]
 ·have e:(((a.length:Int) != (b.length:Int))=true):=by rw [bne_iff_ne];omega
  rw [if_pos e];have:a≠b:=fun hh=>h (by rw [hh])
  simp [this]
theorem qyg (n:Nat):∀(l:List Row) (a:Int),(∀r∈l,a < r.ID∧r.Values.length=n∧r.Values.all qrs=true)→l.Pairwise (fun r q=>r.ID < q.ID)→qd2 n a l=0
 | [],_,_,_=>rfl
 | r :: l,a,h,hp=>by
  obtain⟨h1,h2,h3⟩:=h r (by simp);rw [v3x] at hp;simp only [qd2];rw [if_neg (by omega),if_neg (by simp [h2]),if_pos h3];exact qyg n l r.ID (fun q hq=>⟨hp.1 q hq,(h q (by simp [hq])).2⟩) hp.2
theorem q4q {α:Type} {B:List α×Int→Option (LS (List α×Int) (List α))} (N:Nat) (f:Nat→α)
  (hB:∀(k:Nat) (out:List α),k < N→out.length=k→B (out,(k:Int))=some (.next (out++[f k],((k+1:Nat):Int))))
  (hE:∀out:List α,B (out,(N:Int))=some (.done out)):qaj B ([],0)=some ((vyu N).map f):=by
 have key:∀(r k:Nat) (out:List α),k+r=N→out.length=k→qaj B (out,(k:Int))=some (out++(List.range' k r).map f):=by
  intro r
  induction r with
  | zero =>
   intro k out hk ho;have:k=N:=by omega
   subst this;rw [qam (hE out)];simp
  | succ r ih =>
   intro k out hk ho;rw [qa1 (hB k out (by omega) ho),ih (k+1) _ (by omega) (by simp [ho])];simp [List.range'_succ]
 have h:=key N 0 [] (by omega) rfl;simp only [v2y,vyt] at h;rw [h,List.range_eq_range']
theorem vpv (c:Int):∃v,qd1 c=some v∧qrs v=true∧v.Str.length≤2:=by
 unfold qd1;by_cases h0:(v2h c 12 == 0)=true
 ·rw [if_pos h0];exact⟨_,rfl,by decide,by decide⟩
 rw [if_neg h0];by_cases h1:(v2h c 12 == 1)=true
 ·rw [if_pos h1];exact⟨_,rfl,by decide,by decide⟩
 rw [if_neg h1];by_cases h2:(v2h c 12 == 2)=true
 ·rw [if_pos h2];exact⟨_,rfl,by decide,by decide⟩
 rw [if_neg h2];by_cases h3:(v2h c 12 == 3)=true
 ·rw [if_pos h3];exact⟨_,rfl,by decide,by decide⟩
 rw [if_neg h3];by_cases h4:(v2h c 12 == 4)=true
 ·rw [if_pos h4];exact⟨_,rfl,by decide,by decide⟩
 rw [if_neg h4];by_cases h5:(v2h c 12 == 5)=true
 ·rw [if_pos h5];exact⟨_,rfl,by decide,by decide⟩
 rw [if_neg h5];by_cases h6:(v2h c 12 == 6)=true
 ·rw [if_pos h6];exact⟨_,rfl,by decide,by decide⟩
 rw [if_neg h6];by_cases h7:(v2h c 12 == 7)=true
 ·rw [if_pos h7];exact⟨_,rfl,by decide,by decide⟩
 rw [if_neg h7];by_cases h8:(v2h c 12 == 8)=true
 ·rw [if_pos h8];exact⟨_,rfl,by decide,by decide⟩
 rw [if_neg h8];by_cases h9:(v2h c 12 == 9)=true
 ·rw [if_pos h9];exact⟨_,rfl,by decide,by decide⟩
 rw [if_neg h9];by_cases h10:(v2h c 12 == 10)=true
 ·rw [if_pos h10];exact⟨_,rfl,by decide,by decide⟩
 rw [if_neg h10];exact⟨_,rfl,by decide,by decide⟩
def ofV (c:Int):Value:=(qd1 c).getD ⟨0,0,[]⟩
theorem q9j (c:Int):qd1 c=some (ofV c)∧qrs (ofV c)=true∧(ofV c).Str.length≤2:=by
 obtain⟨v,h1,h2,h3⟩:=vpv c;have:ofV c=v:=by unfold ofV;rw [h1];rfl
 rw [this];exact⟨h1,h2,h3⟩
def vwg (x:Drossref03_Recipe) (i k:Nat):Value:=ofV (((x.Rows.getD i []).getD k 0))
def qrt (x:Drossref03_Recipe):Nat:=1+x.Gap.toNat % 3
def q9k (x:Drossref03_Recipe) (n i:Nat):Row:=⟨((1+i * qrt x:Nat):Int),(vyu n).map (vwg x i)⟩
def qom:List (List UInt8):=[[97],[98],[99],[100],[101],[102],[103],[104]]
def q9l (x:Drossref03_Recipe) (n:Nat):Table:=⟨[114],qom.take n,(vyu x.Rows.length).map (q9k x n)⟩
theorem vb5 (x:Drossref03_Recipe) (n i:Nat) (hn:n≤8) (hi:i < x.Rows.length) (hl:∀r∈x.Rows,r.length≤1048576) :
  qaj (qfz x (n:Int) (i:Int)) ([],0)=some ((vyu n).map (vwg x i)):=by
 have hx:x.Rows[i]?=some (x.Rows.getD i []):=by simp [v3m,vx4 hi]
 have hxl:=hl _ (vyo hx);refine q4q n (vwg x i) (fun k out hk ho=>?_) (fun out=>by simp [qfz]);have hk':((k:Int) < (n:Int)):=by omega
 have hroom:qcm (out.length+1) 32=true:=qeh (by omega) (by omega);have hw:=qg9 (k:=k) (by omega);simp only [qfz,if_pos hk',qaf hx,vzm];by_cases h:k < (x.Rows.getD i []).length
 ·have h':((k:Int) < ((x.Rows.getD i []).length:Int)):=by omega
  have hg:(x.Rows.getD i [])[k]?=some ((x.Rows.getD i []).getD k 0):=by
   generalize x.Rows.getD i []=l at h;simp [v3m,vx4 h]
  simp only [if_pos h',qaf hg,vzm,(q9j _).1,hroom,if_true,hw];rfl
 ·have h':¬((k:Int) < ((x.Rows.getD i []).length:Int)):=by omega
  have hg:(x.Rows.getD i []).getD k 0=0:=by
   generalize x.Rows.getD i []=l at h;simp [v3m,vx5 (show l.length≤k by omega)]
  simp only [if_neg h',(q9j _).1,vzm,hroom,if_true,hw];unfold vwg;rw [hg]
theorem vpw (x:Drossref03_Recipe) (n:Nat) (hn:n≤8) (hr:x.Rows.length≤8) (hl:∀r∈x.Rows,r.length≤1048576) (hg:0≤x.Gap∧x.Gap≤255):qh6 x (n:Int)=some (q9l x n):=by
 have h1:(0:Int)≤(n:Int):=by omega
 have h2:(n:Int)≤8:=by omega
 have hroom:qcm ((qom.take n).length) 16=true:=qeh (by simp;omega) (by omega);have ho:qaj (qf0 x (n:Int)) ([],0)=some ((vyu x.Rows.length).map (q9k x n)):=by
  refine q4q x.Rows.length (q9k x n) (fun i out hi ho=>?_) (fun out=>by simp [qf0]);have hi':((i:Int) < (x.Rows.length:Int)):=by omega
  have hroom:qcm (out.length+1) 32=true:=qeh (by omega) (by omega);have hm:v2h x.Gap 3=((x.Gap.toNat % 3:Nat):Int):=by
   rw [v21 hg.1];omega
  have e1:vz8.wrap (v2h x.Gap 3)=((x.Gap.toNat % 3:Nat):Int):=by rw [hm,wrap_i64 (by omega) (by omega)]
  have e2:vz8.wrap (1+vz8.wrap (v2h x.Gap 3))=((qrt x:Nat):Int):=by
   rw [e1,wrap_i64 (by omega) (by omega)];unfold qrt;omega
  have hs:qrt x≤3:=by unfold qrt;omega
  have hmul:i * qrt x≤8 * 3:=Nat.mul_le_mul (by omega) hs;have e3:vz8.wrap ((i:Int) * ((qrt x:Nat):Int))=((i * qrt x:Nat):Int):=by
   rw [←v2x,wrap_i64 (by omega) (by omega)]
  have e4:vz8.wrap (1+vz8.wrap ((i:Int) * vz8.wrap (1+vz8.wrap (v2h x.Gap 3))))=((1+i * qrt x:Nat):Int):=by
   rw [e2,e3,wrap_i64 (by omega) (by omega)];omega
  simp only [qf0,if_pos hi',vb5 x n i hn hi hl,vzm,hroom,if_true,e4,qg9 (k:=i) (by omega)];rfl
 simp only [qh6,if_pos h1,if_pos h2,vzm,v1w];have hroom':qcm ((List.take n [[97],[98],[99],[100],[101],[102],[103],[104]]:List (List UInt8)).length) 16=true:=hroom;rw [if_pos hroom',ho];rfl
theorem vf2 {n:Nat} (h:n≤8):qvy (qom.take n)=true:=by
 have:n=0∨n=1∨n=2∨n=3∨n=4∨n=5∨n=6∨n=7∨n=8:=by omega
 rcases this with rfl | rfl | rfl | rfl | rfl | rfl | rfl | rfl | rfl <;> decide
theorem vb6 (x:Drossref03_Recipe) (n:Nat) (hn:n≤8) (hr:x.Rows.length≤8):qd3 (q9l x n)=0:=by
 have h1:¬(qt9 [114]=false):=by decide
 have hlen:(qom.take n).length=n:=by simp [qom];omega
 have h2:¬(qom.take n).length > 16:=by omega
 have h3:¬((vyu x.Rows.length).map (q9k x n)).length > 1000:=by simp;omega
 have h4:¬(qvy (qom.take n)=false):=by rw [vf2 hn];simp
 have hc:qd2 (qom.take n).length 0 ((vyu x.Rows.length).map (q9k x n))=0:=by
  refine qyg _ _ _ (fun r hr=>?_) ?_
  ·obtain⟨i,hi,rfl⟩:=v06.1 hr;refine⟨by simp only [q9k];omega,by simp only [q9k,vye,v0u];omega,?_⟩;rw [v0e];intro v hv;obtain⟨k,hk,rfl⟩:=v06.1 hv;exact (q9j _).2.1
  ·rw [v3z];refine v3a.imp ?_ List.pairwise_lt_range;intro a b hab;simp only [q9k];have hs:1≤qrt x:=by unfold qrt;omega
   have:(a+1) * qrt x≤b * qrt x:=vzh _ hab;rw [Nat.add_mul,vzi] at this;omega
 show (if qt9 [114]=false then (1:Int) else if (qom.take n).length > 16 then 3 else if ((vyu x.Rows.length).map (q9k x n)).length > 1000 then 3 else if qvy (qom.take n)=false then 1 else qd2 (qom.take n).length 0 ((vyu x.Rows.length).map (q9k x n)))=0;rw [if_neg h1,if_neg h2,if_neg h3,if_neg h4];exact hc
theorem q9m {n:Int} (h:okI .u8 n):0≤n∧n≤255:=by
 have h':(decide (v27 .u8≤n) && decide (n≤v26 .u8))=true:=h;simp only [vxh,decide_eq_true_eq] at h';have e1:v27 .u8=0:=by decide
 have e2:v26 .u8=255:=by decide
 rw [e1,e2] at h';exact h'
structure qo6 (t:Table):Prop where
 ok:TableOk t
 err:qd3 t=0
 attrs:t.Attrs.length≤5
 rows:t.Rows.length≤8
theorem vb7 (x:Drossref03_Recipe) (n:Nat) (hn:n≤8) (hr:x.Rows.length≤8):TableOk (q9l x n):=by
 refine⟨?_,?_,?_,?_⟩
 ·simp only [q9l,vyi];omega
 ·simp only [q9l,vye,v0u];omega
 ·intro r h;obtain⟨i,_,rfl⟩:=v06.1 h;simp only [q9k,vye,v0u];omega
 ·intro r h v hv;obtain⟨i,_,rfl⟩:=v06.1 h;obtain⟨k,_,rfl⟩:=v06.1 hv;have:=(q9j ((x.Rows.getD i []).getD k 0)).2.2;unfold vwg;omega
theorem q7h (x:Drossref03_Recipe) (hr:x.Rows.length≤8):qo6 (q9l x (x.Attrs.toNat % 6)):=by
 refine⟨vb7 _ _ (by omega) hr,vb6 _ _ (by omega) hr,?_,?_⟩
 ·simp only [q9l,vyi];omega
 ·simp only [q9l,vye,v0u];omega
theorem vpx {n:Nat} (h:n≤16):qia (n:Int)=some ((2 ^ n - 1:Nat):Int):=by
 have hl:=qcl (vyu n) (fun (s:Nat) i=>((s:Int),i)) (qf5 (n:Int)) (fun s k=>s ||| 2 ^ k) (fun s=>(s:Int)) (fun _ s=>s < 4294967296) (b0:=0) (s0:=(0,0)) rfl (by omega)
  (fun k s z hz hk hs=>by
   have hzk:z=k:=by
    have:=(vx6.1 hz).2;simpa using this.symm
   subst hzk;rw [v0u] at hk;refine⟨?_,vwe hs (q9i (by omega))⟩;simp only [qf5,if_pos (show (z:Int) < (n:Int) by omega),if_pos (show (z:Int) < 32 by omega),if_neg (show ¬(z:Int) < 0 by omega),wqn z,v1w,vjo (show z < 32 by omega),q9h hs (q9i (show z < 32 by omega))])
  (fun s _=>by rw [v0u];simp [qf5])
 simp only [qia,hl,vzm];congr 2;apply v4i;intro i;have:=vjq (vyu n) i;unfold setN at this;rw [this,v4z];congr 1;rw [v08]
structure StOk (t:Table) (s:Nat) (A B:Int):Prop where
 hs:s < 2 ^ t.Attrs.length
 a0:0≤A
 a1:A < (t.Attrs.length:Int)
 b0:-1≤B
 b1:B < (t.Attrs.length:Int)
theorem vwh {n s s':Nat} (hs:s < 2 ^ n) (h:∀k,s'.testBit k=true→s.testBit k=true):s' < 2 ^ n :=
 vf0 fun i hi=>by
  cases hb:s'.testBit i with
  | false=>rfl
  | true=>rw [←h i hb];exact q0q hs hi
theorem StOk.sub {t:Table} {s s':Nat} {A B:Int} (h:StOk t s A B) (hs:∀k,s'.testBit k=true→s.testBit k=true):StOk t s' A B:=⟨vwh h.hs hs,h.a0,h.a1,h.b0,h.b1⟩
end Go.Proofs.YtpealiejioeonaaGreatDoor
namespace Go.Ab
open Go
end Go.Ab
namespace Go.Proofs.YtpealiejioeonaaGreatDoor
open Go Go.Ab
def vjs (n:Nat) (E:List Arr2_int):Prop:=∀e∈E,0≤e.x0∧e.x0 < (n:Int)∧0≤e.x1∧e.x1 < (n:Int)
theorem vf3 (n:Nat) (E:List Arr2_int) (hn:n≤1000) (hE:E.length≤20000) (h:vjs n E):qkq (n:Int) E=some 0:=by
 have c1:¬((n:Int) > 1000):=by omega
 have c2:((E.length:Int) > 20000)=False:=eq_false (by omega);have c3:¬((n:Int) < 0):=by omega
 have hl:=qfg E (qi6 (n:Int) E) (fun _=>true) 1
  (fun k x hx hk _=>by
   obtain⟨h1,h2,h3,h4⟩:=h x (vyo hx);have q1:¬((if x.x1 < x.x0 then x.x1 else x.x0) < 0):=by split <;> omega
   have q2:¬((if x.x1 > x.x0 then x.x1 else x.x0)≥(n:Int)):=by split <;> omega
   simp only [qi6,if_pos (qah hx),qaf hx,vzm,if_neg q1,if_neg q2,wqn k])
  (fun k x hx hp=>by cases hp) (by simp [qi6])
 have hall:(E.all fun _=>true)=true:=by simp
 rw [hall] at hl;simp only [qkq,if_neg c1,c2,decide_false,vzm,vxj,if_false,if_neg c3,hl];rfl
def qk4 (E:List Arr2_int) (v:Nat):List Int:=(E.filter fun e=>decide (e.x0=(v:Int))).map (·.x1)
theorem q4r (E:List Arr2_int) (e:Arr2_int) (v:Nat):qk4 (E++[e]) v=if e.x0=(v:Int) then qk4 E v++[e.x1] else qk4 E v:=by
 unfold qk4;rw [v3f,vyj];by_cases h:e.x0=(v:Int) <;> simp [h]
theorem q9n (E:List Arr2_int) (v:Nat):(qk4 E v).length≤E.length:=by
 unfold qk4;rw [vye];exact v0s _ _
theorem que {α:Type} (f g:Nat→α) {n v:Nat} (hv:v < n) (h:∀u,u < n→u≠v→f u=g u):((vyu n).map f).set v (g v)=(vyu n).map g:=by
 refine vxy fun j=>?_
 rw [v3o];simp only [vye,v0u,vx7];by_cases e:v=j
 ·subst e;simp [hv]
 ·rw [if_neg e];by_cases hj:j < n
  ·simp [v3n hj,h j hj (fun q=>e q.symm)]
  ·simp [hj]
theorem qwv {α:Type} (f:Nat→α) {n v:Nat} (hv:v < n):((vyu n).map f)[v]?=some (f v):=by simp [v3n hv]
def vf4 (E:List Arr2_int) (n:Nat):List (List Int):=(vyu n).map fun v=>v1y (quz (qk4 E v))
theorem q1z (n:Nat) (E:List Arr2_int) (hn:n≤1000) (hE:E.length≤100000) (h:vjs n E):qhh (n:Int) E=some (vf4 E n):=by
 have h0:(0:Int)≤(n:Int):=by omega
 have hr:qcm n 24=true:=by unfold qcm;simp only [decide_eq_true_eq];omega
 have L1:∀(d k:Nat),k+d=E.length→qaj (qe9 E) ((vyu n).map (qk4 (E.take k)),(k:Int))=some ((vyu n).map (qk4 E)):=by
  intro d
  induction d with
  | zero =>
   intro k hk;obtain rfl:k=E.length:=by omega
   rw [v38];exact qam (by simp [qe9])
  | succ d ih =>
   intro k hk;have hlt:k < E.length:=by omega
   have hx:E[k]?=some E[k]:=vx4 hlt;obtain⟨h1,h2,h3,h4⟩:=h _ (vyo hx);have hv:E[k].x0.toNat < n:=by omega
   have e0:E[k].x0=((E[k].x0.toNat:Nat):Int):=by omega
   have hg:idx ((vyu n).map (qk4 (E.take k))) E[k].x0=some (qk4 (E.take k) E[k].x0.toNat):=by
    conv=>lhs;rw [e0]
    exact qaf (qwv _ hv)
   have hlen:=q9n (E.take k) E[k].x0.toNat;rw [vyi] at hlen;have hroom:qcm ((qk4 (E.take k) E[k].x0.toNat).length+1) 8=true:=qt6 (by omega);have ht:E.take (k+1)=E.take k++[E[k]]:=by rw [v34,hx];rfl
   rw [qa1 (s':=((vyu n).map (qk4 (E.take (k+1))),((k+1:Nat):Int))) (by
    simp only [qe9,if_pos (qah hx),qaf hx,hg,vzm,hroom,if_true,wqn k];congr 3;have hs:=que (qk4 (E.take k)) (qk4 (E.take (k+1))) hv (fun u hu hne=>by
     rw [ht,q4r,if_neg];intro e;exact hne (by omega))
    rw [←hs,ht,q4r,if_pos e0])]
   exact ih (k+1) (by omega)
 have hinit:(vyu n).map (qk4 ([]:List Arr2_int))=vyw n ([]:List Int):=by
  have:qk4 ([]:List Arr2_int)=fun _=>[]:=by funext v;rfl
  rw [this];refine vxy fun j=>?_
  rw [vx7,List.getElem?_replicate];by_cases hj:j < n
  ·rw [v3n hj,if_pos hj];rfl
  ·rw [vx5 (by simp;omega),if_neg hj];rfl
 have L1':=L1 E.length 0 (by omega);rw [List.take_zero,hinit] at L1';simp only [v2y] at L1';have L2:∀(d k:Nat),k+d=n→qaj (qfa ((vyu n).map (qk4 E))) ((vyu n).map (fun v=>if v < k then v1y (quz (qk4 E v)) else qk4 E v),(k:Int))=some (vf4 E n):=by
  intro d
  induction d with
  | zero =>
   intro k hk;obtain rfl:k=n:=by omega
   have e:(vyu k).map (fun v=>if v < k then v1y (quz (qk4 E v)) else qk4 E v)=vf4 E k:=by
    refine v0w fun v hv=>?_
    rw [if_pos (v08.1 hv)]
   rw [e];exact qam (by simp [qfa])
  | succ d ih =>
   intro k hk;have hlt:k < n:=by omega
   have c:((k:Int) < ((((vyu n).map (qk4 E)).length:Nat):Int)):=by simp;omega
   have hlen:=q9n E k;have hsl:(quz (qk4 E k)).length=(qk4 E k).length:=(qmd _).length_eq;have g1:idx ((vyu n).map (fun v=>if v < k then v1y (quz (qk4 E v)) else qk4 E v)) (k:Int)=some (qk4 E k):=by
    rw [qaf (qwv _ hlt),if_neg (Nat.lt_irrefl _)]
   have g2:qu9 (qk4 E k)=some (quz (qk4 E k)):=if_pos (by omega);have g3:vq5 (quz (qk4 E k))=some (v1y (quz (qk4 E k))):=if_pos (by omega);have g4:idx (((vyu n).map (fun v=>if v < k then v1y (quz (qk4 E v)) else qk4 E v)).set k (quz (qk4 E k))) (k:Int)=some (quz (qk4 E k)):=by
    refine qaf ?_;rw [v3o,if_pos rfl,if_pos (by simp;omega)]
   rw [qa1 (s':=((vyu n).map (fun v=>if v < k+1 then v1y (quz (qk4 E v)) else qk4 E v),((k+1:Nat):Int))) (by
    simp only [qfa,if_pos c,g1,g2,vzm,v1w,g4,g3,wqn k,List.set_set];congr 3;have hs:=que (fun v=>if v < k then v1y (quz (qk4 E v)) else qk4 E v) (fun v=>if v < k+1 then v1y (quz (qk4 E v)) else qk4 E v) hlt (fun u hu hne=>by
     by_cases q:u < k
     ·simp only [if_pos q,if_pos (show u < k+1 by omega)]
     ·simp only [if_neg q,if_neg (show ¬u < k+1 by omega)])
    rw [←hs];simp only [if_pos (Nat.lt_succ_self k)])]
   exact ih (k+1) (by omega)
 have L2':=L2 n 0 (by omega);have e0:(vyu n).map (fun v=>if v < 0 then v1y (quz (qk4 E v)) else qk4 E v)=(vyu n).map (qk4 E):=by
  refine v0w fun v hv=>?_
  rw [if_neg (by omega)]
 rw [e0] at L2';simp only [v2y] at L2';simp only [qhh,if_pos h0,v1w,hr,if_true,L1',L2',vzm]
def vwi (E:List Arr2_int) (u v:Nat):Prop:=(⟨(u:Int),(v:Int)⟩:Arr2_int)∈E
theorem vpy {E:List Arr2_int} {n u:Nat} {x:Int} (hu:u < n) (h:vjs n E) {l:List Int} (hl:(vf4 E n)[u]?=some l):x∈l↔∃v:Nat,x=(v:Int)∧v < n∧vwi E u v:=by
 unfold vf4 at hl;rw [qwv _ hu] at hl;cases hl;rw [q7f,(qmd _).mem_iff];unfold qk4 vwi;simp only [v06,v05,decide_eq_true_eq];constructor
 ·rintro⟨e,⟨he,h0⟩,rfl⟩;obtain⟨h1,h2,h3,h4⟩:=h e he;refine⟨e.x1.toNat,by omega,by omega,?_⟩;have:(⟨(u:Int),((e.x1.toNat:Nat):Int)⟩:Arr2_int)=e:=by
   obtain⟨a,b⟩:=e;simp only at *;congr 1
   ·exact h0.symm
   ·omega
  rw [this];exact he
 ·rintro⟨v,rfl,_,he⟩;exact⟨_,⟨he,rfl⟩,rfl⟩
end Go.Proofs.YtpealiejioeonaaGreatDoor
namespace Go.Ab
open Go
variable {α κ:Type} [DecidableEq κ]
end Go.Ab
namespace Go.Ab
open Go
def qly (n:Nat):List Nat:=(vyu 32).filter fun k=>n.testBit k
theorem vwj:∀k:Nat,k < 32→qkt.getD (2 ^ k * 125613361 % 4294967296 / 134217728) 0=(k:Int):=by decide +kernel
theorem vf5 {n k:Nat} (hk:n.testBit k=true) (h:n &&& (4294967296 - n)=2 ^ k) (hn:n < 4294967296):∀j,j < k→n.testBit j=false:=by
 have hk32:k < 32:=by
  apply Classical.byContradiction;intro hc;rw [q0q (n:=32) hn (by omega)] at hk;cases hk
 obtain⟨m,hm,_⟩:=v29 32 n (by rcases Nat.eq_zero_or_pos n with e | e;(subst e;simp at hk);exact e) hn;generalize Lib.ctzFrom 32 n=i at hm;have hp:0 < 2 ^ i:=v4p (by omega);have b1:∀j,n.testBit j=if j < i then false else (2 * m+1).testBit (j - i):=by
  intro j;have:=v4y (2 * m+1) (b:=0) hp j;rw [Nat.add_zero,←hm] at this;rw [this];simp
 have h2:=Lib.and_neg 32 i m (by rw [←hm];exact hn);rw [←hm] at h2;have h3:(2:Nat) ^ i=2 ^ k:=by rw [←h];exact h2.symm
 have hik:i=k:=(Nat.pow_right_inj (by omega)).1 h3;intro j hj;rw [b1,if_pos (by omega)]
theorem vjt {n k:Nat} (hk:n.testBit k=true) (h:n &&& (4294967296 - n)=2 ^ k) (hk32:k < 32):vq1 n=(k:Int):=by
 have h0:n≠0:=by intro e;subst e;simp at hk
 unfold vq1 tzI;rw [if_neg h0,h];exact vwj k hk32
theorem vf6 {n k:Nat} (hk32:k < 32) (hk:n.testBit k=true) (hl:∀j,j < k→n.testBit j=false) (hb:∀j,(n &&& (n - 1)).testBit j=(n.testBit j && decide (j≠k))):qly n=k :: qly (n &&& (n - 1)):=by
 unfold qly;have e:vyu 32=vyu k++k :: (vyu (31 - k)).map fun i=>k+1+i:=by
  apply vxy;intro i;by_cases h1:i < k
  ·rw [List.getElem?_append_left (by simpa using h1),v3n h1,v3n (by omega)]
  ·rw [List.getElem?_append_right (by simpa using h1),v0u];by_cases h2:i=k
   ·subst h2;simp [hk32]
   ·obtain⟨d,hd⟩:∃d,i - k=d+1:=⟨i - k - 1,by omega⟩;rw [hd,List.getElem?_cons_succ,vx7];by_cases h3:i < 32
    ·rw [v3n h3,v3n (by omega)];simp;omega
    ·rw [vx5 (by simp;omega),vx5 (by simp;omega)];rfl
 rw [e,v3f,v3f,v3g,v3g,if_pos hk,hb k];simp only [ne_eq,not_true_eq_false,decide_false,Bool.and_false,vxj,if_false];have e1:(vyu k).filter (fun j=>n.testBit j)=[]:=by
  rw [v3h];intro j hj;rw [hl j (v08.1 hj)];simp
 have e2:(vyu k).filter (fun j=>(n &&& (n - 1)).testBit j)=[]:=by
  rw [v3h];intro j hj;rw [hb,hl j (v08.1 hj)];simp
 rw [e1,e2,vyt,vyt];congr 1;apply List.filter_congr;intro j hj;obtain⟨i,_,rfl⟩:=v06.1 hj;rw [hb];have:k+1+i≠k:=by omega
 simp [this]
theorem q9o {n k:Nat} (h:k∈qly n):k < 32∧n.testBit k=true:=by
 unfold qly at h;rw [v05,v08] at h;exact h
theorem quf (n:Nat):(qly n).length≤32:=by
 unfold qly;exact vzc (v0s _ _) (by simp)
end Go.Ab
namespace Go.Proofs.YtpealiejioeonaaGreatDoor
open Go Go.Ab
theorem q4s:∀(n:Nat) (out:List Int),n < 4294967296→out.length+(qly n).length≤1000→qaj qf1 ((n:Int),out)=some (out++(qly n).map fun (k:Nat)=>(k:Int)):=by
 intro n
 induction n using v1j with
 | ind n ih =>
  intro out hn ho;by_cases h0:n=0
  ·subst h0;rw [qam (t:=out) (by simp [qf1])];have:qly 0=[]:=by decide
   rw [this];simp
  ·obtain⟨k,hk,hkb,hlow,hb,hlt⟩:=vpu h0 hn;have hl:=vf5 hkb hlow hn;have hcons:=vf6 hk hkb hl hb;have htz:=vjt hkb hlow hk;have h1:(((n:Int)) != 0)=true:=by simp;omega
   have h2:qge (n:Int)=some (k:Int):=by
    simp only [qge];rw [if_pos (by omega),v1w,htz]
   have h3:qcm (out.length+1) 8=true:=qt6 (by omega);have h4:v0b.wrap ((n:Int) - 1)=((n - 1:Nat):Int):=by
    have:(n:Int) - 1=((n - 1:Nat):Int):=by omega
    rw [this,q4k,v1i (by omega)]
   have h5:=vfz (a:=n) (b:=n - 1) hn (by omega);rw [hcons,v0q] at ho;rw [qa1 (s':=(((n &&& (n - 1):Nat):Int),out++[(k:Int)])) (by simp only [qf1,h1,if_true,h2,vzm,h3,h4,h5])];rw [ih _ hlt _ (by omega) (by rw [vyc,v12];omega),hcons];simp
theorem qyh {n:Nat} (hn:n < 4294967296):qgn (n:Int)=some ((qly n).map fun (k:Nat)=>(k:Int)):=by
 have:=quf n;simp only [qgn,q4s n [] hn (by simp;omega),vzm,vyt]
end Go.Proofs.YtpealiejioeonaaGreatDoor
namespace Go.Ab
open Go
end Go.Ab
namespace Go.Proofs.YtpealiejioeonaaGreatDoor
open Go Go.Ab
def numOk (v:Value):Prop:=-9223372036854775808≤v.Num∧v.Num≤9223372036854775807
theorem q4t (n:Nat):v2j.wrap (n:Int)=((n % 18446744073709551616:Nat):Int):=by
 simp only [v0c,vz9,vz7,vz5,vxj,if_false];rw [show ((2:Int) ^ 64)=18446744073709551616 from rfl];omega
structure GT (t:Table):Prop where
 ok:TableOk t
 err:qd3 t=0
 num:∀r∈t.Rows,∀v∈r.Values,numOk v
theorem GT.attrs {t:Table} (h:GT t):t.Attrs.length≤16:=by
 have:=h.err;unfold qd3 at this;split at this
 ·cases this
 ·split at this
  ·cases this
  ·omega
theorem GT.rows {t:Table} (h:GT t):t.Rows.length≤1000:=by
 have:=h.err;unfold qd3 at this;split at this
 ·cases this
 ·split at this
  ·cases this
  ·split at this
   ·cases this
   ·omega
theorem GT.code {t:Table} (h:GT t):qd2 t.Attrs.length 0 t.Rows=0:=by
 have:=h.err;unfold qd3 at this;split at this
 ·cases this
 ·split at this
  ·cases this
  ·split at this
   ·cases this
   ·split at this
    ·cases this
    ·exact this
theorem vpz {n:Int} (h:okI .i64 n):-9223372036854775808≤n∧n≤9223372036854775807:=by
 have h':(decide (v27 .i64≤n) && decide (n≤v26 .i64))=true:=h;simp only [vxh,decide_eq_true_eq] at h';have e1:v27 .i64=-9223372036854775808:=by decide
 have e2:v26 .i64=9223372036854775807:=by decide
 rw [e1,e2] at h';exact h'
theorem gt_of {t:Table} (h:qs0 t) (he:qd3 t=0):GT t:=by
 refine⟨q9g h,he,fun r hr v hv=>?_⟩;exact vpz ((h.2.2.2 r hr).2.2 v hv).2.1
def qyi (t:Table) (a:List Row):List (List Row):=(t.Rows.filter fun r=>!(a.any fun x=>x.ID == r.ID)).map fun r=>a++[r]
def q5p (t:Table):Nat→List (List Row)
 | 0=>[[]]
 | k+1=>(q5p t k).flatMap (qyi t)
def q7i (t:Table):Nat→List Row→List (List Row)
 | 0,a=>[a]
 | m+1,a=>(qyi t a).flatMap (q7i t m)
theorem q9p (t:Table):∀(m k:Nat),(q5p t k).flatMap (q7i t m)=q5p t (k+m)
 | 0,k=>by
  have:∀l:List (List Row),l.flatMap (q7i t 0)=l:=by
   intro l
   induction l with
   | nil=>rfl
   | cons a l ih=>rw [v0j,ih];rfl
  rw [this];rfl
 | m+1,k=>by
  have h:=q9p t m (k+1);rw [show k+1+m=k+(m+1) by omega] at h;rw [←h];show _=((q5p t k).flatMap (qyi t)).flatMap (q7i t m);rw [List.flatMap_assoc];rfl
theorem vju (t:Table) (m:Nat):q7i t m []=q5p t m:=by
 have:=q9p t m 0;simp only [q5p,v0j,List.flatMap_nil,vxs,vzl] at this;exact this
def vb8 (out:List (List Int)) (l:List Int):List (List Int):=if l∈out then out else out++[l]
theorem vjv (out:List (List Int)) (l z:List Int):z∈vb8 out l↔z∈out∨z=l:=by
 unfold vb8;by_cases h:l∈out
 ·rw [if_pos h];constructor
  ·intro hz;exact .inl hz
  ·rintro (hz | rfl)
   ·exact hz
   ·exact h
 ·rw [if_neg h];simp
theorem qo8 (z:List Int):∀(l out:List (List Int)),z∈l.foldl vb8 out↔z∈out∨z∈l
 | [],out=>by simp
 | x :: l,out=>by
  rw [v3l,qo8 z l,vjv];simp only [v02,or_assoc]
theorem vb9 (out:List (List Int)) (l:List Int) (h:out.Nodup):(vb8 out l).Nodup:=by
 unfold vb8;by_cases hm:l∈out
 ·rw [if_pos hm];exact h
 ·rw [if_neg hm,List.nodup_append];refine⟨h,by simp,?_⟩;intro a ha b hb e;have:b=l:=by simpa using hb
  rw [e,this] at ha;exact hm ha
theorem qqp:∀(l out:List (List Int)),out.Nodup→(l.foldl vb8 out).Nodup
 | [],_,h=>h
 | x :: l,out,h=>qqp l _ (vb9 out x h)
def q7j (l:List Int):Arr3_int64:=⟨l.getD 0 0,l.getD 1 0,l.getD 2 0⟩
theorem vjw {n:Nat} (hn:n≤3) {l m:List Int} (hl:l.length=n) (hm:m.length=n) (h:q7j l=q7j m):l=m:=by
 unfold q7j at h;obtain⟨h0,h1,h2⟩:=Arr3_int64.mk.inj h;apply vxy;intro j;by_cases hj:j < n
 ·have g:∀(q:List Int),q.length=n→q[j]?=some (q.getD j 0):=fun q hq=>by
   simp [v3m,vx4 (show j < q.length by omega)]
  rw [g l hl,g m hm];have:j=0∨j=1∨j=2:=by omega
  rcases this with rfl | rfl | rfl
  ·rw [h0]
  ·rw [h1]
  ·rw [h2]
 ·rw [vx5 (by omega),vx5 (by omega)]
def zeroV:Value:=⟨0,0,[]⟩
def qyj (n vars:Int) (t:Term):Bool:=if t.Var=0 then decide (t.Attr=0) && qrs t.Value else decide (0 < t.Var∧t.Var≤vars∧0≤t.Attr∧t.Attr < n) && ((t.Value.Kind == 0) && ((t.Value.Num == 0) && (t.Value.Str == [])))
def q11 (n vars:Int) (a:Atom):Bool:=decide (1≤a.Op∧a.Op≤4) && (qyj n vars a.Left && qyj n vars a.Right)
def vca (n:Int) (d:Denial):Bool:=decide (1≤d.Vars∧d.Vars≤3∧d.Atoms.length≤20) && d.Atoms.all (q11 n d.Vars)
theorem q4u (n vars:Int) (t:Term):qfp n vars t=some (qyj n vars t):=by
 unfold qfp qyj;by_cases h:t.Var=0
 ·rw [if_pos (by simpa using h),if_pos h];by_cases h1:t.Attr=0
  ·simp [h1,qsc]
  ·simp [h1]
 ·rw [if_neg (by simpa using h),if_neg h];by_cases h1:t.Var > 0
  ·rw [if_pos h1];by_cases h2:t.Var≤vars
   ·rw [if_pos h2];by_cases h3:t.Attr≥0
    ·rw [if_pos h3];by_cases h4:t.Attr < n
     ·rw [if_pos h4];simp [h1,h2,h3,h4]
     ·rw [if_neg h4];simp [h4]
    ·rw [if_neg h3];simp [h3]
   ·rw [if_neg h2];simp [h2]
  ·rw [if_neg h1];simp [h1]
theorem vcb (a:Atom) (n:Int) (d:Denial):qhp a n d=some (!q11 n d.Vars a):=by
 unfold qhp q11;by_cases h1:a.Op < 1
 ·rw [if_pos h1];simp;omega
 ·rw [if_neg h1];by_cases h2:a.Op > 4
  ·rw [if_pos h2];simp;omega
  ·rw [if_neg h2];have h3:1≤a.Op∧a.Op≤4:=by omega
   simp only [q4u,vzm,h3,and_self,decide_true,v2w];cases qyj n d.Vars a.Left <;> simp
theorem qvi (l:List Atom) (f:Atom→Option Bool) (p:Atom→Bool) (hf:∀x∈l,f x=some (p x)) (hl:l.length≤1073741824):qd5 l f=some (match l.findIdx? p with | some i=>(i:Int) | none=>-1):=by
 have h:=qhr l (qcb l f) p
  (fun k x hx hk hp=>by simp [qcb,qah hx,qaf hx,hf x (vyo hx),hp,qcu hk (by omega)])
  (fun k x hx hp=>by simp [qcb,qah hx,qaf hx,hf x (vyo hx),hp])
  (by simp [qcb])
 simp only [qd5,h,vzm];cases l.findIdx? p <;> rfl
theorem qru (l:List Atom) (f:Atom→Option Bool) (p:Atom→Bool) (hf:∀x∈l,f x=some (p x)) (hl:l.length≤1073741824):qc1 l f=some (l.any p):=by
 simp only [qc1,qvi l f p hf hl,vzm];exact congrArg some (qmj p l)
theorem qqq (l:List Row) (f:Row→Option Bool) (p:Row→Bool) (hf:∀x∈l,f x=some (p x)) (hl:l.length≤1073741824):qbb l f=some (l.any p):=by
 simp only [qbb,qv9 l f p hf hl,vzm];exact congrArg some (qmj p l)
theorem vp0 {α:Type} (p:α→Bool) (l:List α):(!l.any fun x=>!p x)=l.all p:=by
 induction l with
 | nil=>rfl
 | cons x l ih=>simp [ih]
theorem vf7 (n:Int) (d:Denial) (hl:d.Atoms.length≤1048576):qjs n d=some (vca n d):=by
 unfold qjs vca;by_cases h1:d.Vars < 1
 ·rw [if_pos h1];simp;omega
 ·rw [if_neg h1];by_cases h2:d.Vars > 3
  ·rw [if_pos h2];simp;omega
  ·rw [if_neg h2];by_cases h3:(d.Atoms.length:Int) > 20
   ·rw [if_pos h3];simp;omega
   ·rw [if_neg h3];have h4:1≤d.Vars∧d.Vars≤3∧d.Atoms.length≤20:=by omega
    rw [qru d.Atoms _ (fun a=>!q11 n d.Vars a) (fun x _=>vcb x n d) (by omega)];simp only [vzm,vp0,h4,and_self,decide_true,v2w]
def vsi (rows:List Row) (t:Term):Value:=if t.Var=0 then t.Value else (rows.getD (t.Var - 1).toNat ⟨0,[]⟩).Values.getD t.Attr.toNat zeroV
def opB (op n:Int):Bool:=if op=1 then decide (n=0) else if op=2 then decide (n≠0) else if op=3 then decide (n < 0) else decide (n≤0)
def q5q (rows:List Row) (a:Atom):Bool:=opB a.Op (vcmp (vsi rows a.Left) (vsi rows a.Right))
structure RowsN (n:Nat) (vars:Int) (rows:List Row):Prop where
 len:(rows.length:Int)=vars
 few:rows.length≤3
 vals:∀r∈rows,r.Values.length=n∧∀v∈r.Values,v.Str.length≤1048576
theorem vl6 {α:Type} {l:List α} {i:Int} (h:0≤i):idx l i=l[i.toNat]?:=by
 obtain⟨k,rfl⟩:=Int.eq_ofNat_of_zero_le h;rw [q6k];simp
theorem vjx {n:Nat} {vars:Int} {rows:List Row} (R:RowsN n vars rows) {t:Term} (ht:qyj n vars t=true) (h0:t.Var≠0) :
  ∃r v,idx rows (vz8.wrap (t.Var - 1))=some r∧idx r.Values t.Attr=some v∧vsi rows t=v∧r∈rows∧v∈r.Values:=by
 unfold qyj at ht;rw [if_neg h0,vxh,decide_eq_true_eq] at ht;obtain⟨⟨h1,h2,h3,h4⟩,_⟩:=ht;have hlen:=R.len;have hw:vz8.wrap (t.Var - 1)=t.Var - 1:=wrap_i64 (by have:=R.few;omega) (by have:=R.few;omega);have hi:(t.Var - 1).toNat < rows.length:=by omega
 have hr:rows[(t.Var - 1).toNat]?=some (rows[(t.Var - 1).toNat]'hi):=vx4 hi;have hm:rows[(t.Var - 1).toNat]'hi∈rows:=v3p hi;have hv:t.Attr.toNat < (rows[(t.Var - 1).toNat]'hi).Values.length:=by rw [(R.vals _ hm).1];omega
 refine⟨rows[(t.Var - 1).toNat]'hi,(rows[(t.Var - 1).toNat]'hi).Values[t.Attr.toNat]'hv,?_,?_,?_,hm,v3p hv⟩
 ·rw [hw,vl6 (by omega)];exact hr
 ·rw [vl6 h3];exact vx4 hv
 ·unfold vsi;rw [if_neg h0];have e1:rows.getD (t.Var - 1).toNat ⟨0,[]⟩=rows[(t.Var - 1).toNat]'hi:=by rw [v0k,hr];rfl
  rw [e1,v0k,vx4 hv];rfl
theorem q9q {n:Nat} {vars:Int} {rows:List Row} (R:RowsN n vars rows) {t:Term} (ht:qyj n vars t=true):ql4 rows t=some (vsi rows t):=by
 unfold ql4;by_cases h0:t.Var=0
 ·rw [if_pos (by simpa using h0)];unfold vsi;rw [if_pos h0]
 ·rw [if_neg (by simpa using h0)];obtain⟨r,v,h1,h2,h3,_⟩:=vjx R ht h0;rw [h1,vzm,h2,vzm,h3]
theorem qqr {n:Nat} {vars:Int} {rows:List Row} (R:RowsN n vars rows) (l:List Atom) (hl:l.length≤1000000) (h:∀a∈l,q11 n vars a=true):qdo rows l=some (l.all (q5q rows)):=by
 have parts:∀a∈l,(1≤a.Op∧a.Op≤4)∧qyj n vars a.Left=true∧qyj n vars a.Right=true:=fun a ha=>by
  have:=h a ha;simpa only [q11,vxh,decide_eq_true_eq] using this
 have hL:qaj (qdv rows l) 0=some (if l.all (q5q rows) then .inl () else .inr false):=by
  refine qfg l _ (q5q rows) false (fun k x hx hk hp=>?_) (fun k x hx hp=>?_) (by simp [qdv])
  ·obtain⟨h1,h2,h3⟩:=parts x (vyo hx);simp only [qdv,if_pos (qah hx),qaf hx,vzm,q9q R h2,q9q R h3,qpo,qcu hk (show l.length≤4611686018427387904 by omega)];unfold q5q opB at hp;have:x.Op=1∨x.Op=2∨x.Op=3∨x.Op=4:=by omega
   rcases this with e | e | e | e <;> simp only [e] at hp ⊢ <;> simpa using hp
  ·obtain⟨h1,h2,h3⟩:=parts x (vyo hx);simp only [qdv,if_pos (qah hx),qaf hx,vzm,q9q R h2,q9q R h3,qpo];unfold q5q opB at hp;have:x.Op=1∨x.Op=2∨x.Op=3∨x.Op=4:=by omega
   rcases this with e | e | e | e <;> simp only [e] at hp ⊢ <;> simpa using hp
 unfold qdo;rw [hL,vzm];cases l.all (q5q rows) <;> rfl
theorem qwg {α β:Type} (f:α→β):∀l:List α,(l.flatMap fun i=>[f i])=l.map f
 | []=>rfl
 | x :: l=>by rw [v0j,qwg f l];rfl
def vl7:List Value:=[⟨1,0,[]⟩,⟨1,1,[]⟩,⟨1,2,[]⟩,⟨0,0,[]⟩,⟨2,0,[97]⟩,⟨2,0,[98]⟩,⟨2,0,[]⟩,⟨3,1,[]⟩,⟨1,-1,[]⟩,⟨2,0,[97,98]⟩,⟨3,2,[]⟩,⟨1,7,[]⟩]
theorem vp1 (c:Int):∃v,qd1 c=some v∧v∈vl7:=by
 unfold qd1;by_cases h0:(v2h c 12 == 0)=true
 ·rw [if_pos h0];exact⟨_,rfl,by decide⟩
 rw [if_neg h0];by_cases h1:(v2h c 12 == 1)=true
 ·rw [if_pos h1];exact⟨_,rfl,by decide⟩
 rw [if_neg h1];by_cases h2:(v2h c 12 == 2)=true
 ·rw [if_pos h2];exact⟨_,rfl,by decide⟩
 rw [if_neg h2];by_cases h3:(v2h c 12 == 3)=true
 ·rw [if_pos h3];exact⟨_,rfl,by decide⟩
 rw [if_neg h3];by_cases h4:(v2h c 12 == 4)=true
 ·rw [if_pos h4];exact⟨_,rfl,by decide⟩
 rw [if_neg h4];by_cases h5:(v2h c 12 == 5)=true
 ·rw [if_pos h5];exact⟨_,rfl,by decide⟩
 rw [if_neg h5];by_cases h6:(v2h c 12 == 6)=true
 ·rw [if_pos h6];exact⟨_,rfl,by decide⟩
 rw [if_neg h6];by_cases h7:(v2h c 12 == 7)=true
 ·rw [if_pos h7];exact⟨_,rfl,by decide⟩
 rw [if_neg h7];by_cases h8:(v2h c 12 == 8)=true
 ·rw [if_pos h8];exact⟨_,rfl,by decide⟩
 rw [if_neg h8];by_cases h9:(v2h c 12 == 9)=true
 ·rw [if_pos h9];exact⟨_,rfl,by decide⟩
 rw [if_neg h9];by_cases h10:(v2h c 12 == 10)=true
 ·rw [if_pos h10];exact⟨_,rfl,by decide⟩
 rw [if_neg h10];exact⟨_,rfl,by decide⟩
theorem vwk (c:Int):vfx (ofV c):=by
 obtain⟨v,h1,h2⟩:=vp1 c;have:ofV c=v:=by unfold ofV;rw [h1];rfl
 rw [this];have all:∀w∈vl7,((Lit.int .i64 w.Kind).wf && (Lit.int .i64 w.Num).wf && decide (w.Str.length≤1048576))=true:=by decide
 have:=all v h2;simp only [vxh,decide_eq_true_eq] at this;exact⟨this.1.1,this.1.2,this.2⟩
theorem vwl {n:Int} (h1:-9223372036854775808≤n) (h2:n≤9223372036854775807):okI .i64 n:=by
 show (decide (v27 .i64≤n) && decide (n≤v26 .i64))=true;have e1:v27 .i64=-9223372036854775808:=by decide
 have e2:v26 .i64=9223372036854775807:=by decide
 rw [e1,e2,vxh,decide_eq_true_eq,decide_eq_true_eq];exact⟨h1,h2⟩
theorem vp2 (x:Drossref03_Recipe) (n:Nat) (hn:n≤8) (hr:x.Rows.length≤8):qs0 (q9l x n):=by
 refine⟨by show okS [114];unfold okS;decide,⟨?_,fun s hs=>?_⟩,⟨?_,fun r h=>?_⟩⟩
 ·simp only [q9l,vyi];omega
 ·have hm:s∈qom:=List.mem_of_mem_take hs;have:∀w∈qom,w.length≤1048576:=by decide
  exact this s hm
 ·simp only [q9l,vye,v0u];omega
 ·obtain⟨i,hi,rfl⟩:=v06.1 h;have hi':=v08.1 hi;have hs:qrt x≤3:=by unfold qrt;omega
  have hm:i * qrt x≤8 * 3:=Nat.mul_le_mul (by omega) hs;refine⟨vwl (by simp only [q9k];omega) (by simp only [q9k];omega),?_,fun v hv=>?_⟩
  ·simp only [q9k,vye,v0u];omega
  ·obtain⟨k,_,rfl⟩:=v06.1 hv;exact vwk _
theorem qo6.gt {t:Table} (G:qo6 t) (h:qs0 t):GT t:=gt_of h G.err
theorem vf8 {n:Nat} (hn:n≤16) {l:Int} (h:0≤l∧l≤255):v0b.wrap ((BitVec.ofInt 32 (v0b.wrap l) &&& (BitVec.ofInt 32 ((2 ^ n - 1:Nat):Int))).toNat:Int)=((l.toNat % 2 ^ n:Nat):Int):=by
 obtain⟨k,rfl⟩:∃k:Nat,l=(k:Int):=⟨l.toNat,by omega⟩;have hp:2 ^ n < 4294967296:=q9i (by omega);rw [qwm (n:=(k:Int)) (by omega) (by omega),vfz (show k < 4294967296 by omega) (show 2 ^ n - 1 < 4294967296 by omega),v4f,v1w]
theorem vf9 (n:Nat) (k:Nat):k % 2 ^ n < 2 ^ n:=Nat.mod_lt _ (v4p (by omega))
end Go.Proofs.YtpealiejioeonaaGreatDoor
namespace Go.Ab
open Go
def vcw {α:Type} (lt:α→α→Bool) (x:α):List α→List α
 | []=>[x]
 | y :: p=>if lt x y then y :: vcw lt x p else x :: y :: p
theorem q12 {α:Type} (lt:α→α→Bool) (x:α):∀(p:List α) (z:α),z∈vcw lt x p↔z=x∨z∈p
 | [],z=>by simp [vcw]
 | y :: p,z=>by
  simp only [vcw];split
  ·rw [v02,q12 lt x p z,v02];constructor
   ·rintro (h | h | h)
    ·exact .inr (.inl h)
    ·exact .inl h
    ·exact .inr (.inr h)
   ·rintro (h | h | h)
    ·exact .inr (.inl h)
    ·exact .inl h
    ·exact .inr (.inr h)
  ·rw [v02]
theorem q9r {α:Type} (lt:α→α→Bool) (x:α):∀p:List α,(vcw lt x p).length=p.length+1
 | []=>rfl
 | y :: p=>by
  simp only [vcw];split
  ·simp [q9r lt x p]
  ·simp
theorem qyk {α:Type} (lt:α→α→Bool) (asym:∀x y,lt x y=true→lt y x=false) (ntr:∀x y z,lt x y=false→lt y z=false→lt x z=false) (x:α):∀p:List α,p.Pairwise (fun a b=>lt a b=false)→(vcw lt x p).Pairwise (fun a b=>lt a b=false)
 | [],_=>by simp [vcw]
 | y :: p,h=>by
  obtain⟨h1,h2⟩:=v3x.1 h;simp only [vcw];by_cases hc:lt x y=true
  ·rw [if_pos hc];refine v3x.2 ⟨fun z hz=>?_,qyk lt asym ntr x p h2⟩;rcases (q12 lt x p z).1 hz with rfl | hz
   ·exact asym _ _ hc
   ·exact h1 z hz
  ·rw [if_neg hc];have hc':lt x y=false:=by simpa using hc
   refine v3x.2 ⟨fun z hz=>?_,h⟩;rcases v02.1 hz with rfl | hz
   ·exact hc'
   ·exact ntr _ _ _ hc' (h1 z hz)
end Go.Ab
namespace Go.Proofs.YtpealiejioeonaaGreatDoor
open Go Go.Ab
end Go.Proofs.YtpealiejioeonaaGreatDoor
namespace Go.Ab
open Go
end Go.Ab
namespace Go.Proofs.YtpealiejioeonaaGreatDoor
open Go Go.Ab
def befN (q z:Nat×Nat):Prop:=lexN q.1 z.1∨(q.1=z.1∧q.2 < z.2)
instance instDecBefN (q z:Nat×Nat):Decidable (befN q z):=by unfold befN;exact inferInstance
end Go.Proofs.YtpealiejioeonaaGreatDoor
namespace Go.Ab
open Go
theorem q4v {α:Type} (lt:α→α→Bool) (x:α):∀p:List α,(vcw lt x p).Perm (x :: p)
 | []=>v3b.refl _
 | y :: p=>by
  simp only [vcw];split
  ·exact ((q4v lt x p).cons y).trans (v3b.swap x y p)
  ·exact v3b.refl _
end Go.Ab
namespace Go.Proofs.YtpealiejioeonaaGreatDoor
open Go Go.Ab
def ltL:List Int→List Int→Bool
 | [],[]=>false
 | [],_ :: _=>true
 | _ :: _,[]=>false
 | x :: a,y :: b=>if x=y then ltL a b else decide (x < y)
theorem qvj:∀a:List Int,ltL a a=false
 | []=>rfl
 | x :: a=>by rw [ltL,if_pos rfl,qvj a]
theorem qww:∀a b:List Int,ltL a b=true→ltL b a=false
 | [],[],h=>rfl
 | [],_ :: _,h=>rfl
 | _ :: _,[],h=>by cases h
 | x :: a,y :: b,h=>by
  rw [ltL] at h ⊢;by_cases e:x=y
  ·subst e;rw [if_pos rfl] at h ⊢;exact qww a b h
  ·rw [if_neg e] at h;rw [if_neg (fun e'=>e e'.symm)];simp at h ⊢;omega
theorem qqs:∀a b:List Int,ltL a b=false→ltL b a=false→a=b
 | [],[],_,_=>rfl
 | [],_ :: _,h,_=>by cases h
 | _ :: _,[],_,h=>by cases h
 | x :: a,y :: b,h1,h2=>by
  rw [ltL] at h1 h2;by_cases e:x=y
  ·subst e;rw [if_pos rfl] at h1 h2;rw [qqs a b h1 h2]
  ·rw [if_neg e] at h1;rw [if_neg (fun e'=>e e'.symm)] at h2;simp at h1 h2;omega
theorem qug:∀a b c:List Int,ltL a b=true→ltL b c=true→ltL a c=true
 | [],[],_,h,_=>by cases h
 | _ :: _,[],_,h,_=>by cases h
 | _,_ :: _,[],_,h=>by cases h
 | [],_ :: _,_ :: _,_,_=>rfl
 | x :: a,y :: b,z :: c,h1,h2=>by
  rw [ltL] at h1 h2 ⊢;by_cases e1:x=y
  ·subst e1;rw [if_pos rfl] at h1;by_cases e2:x=z
   ·subst e2;rw [if_pos rfl] at h2 ⊢;exact qug a b c h1 h2
   ·rw [if_neg e2] at h2 ⊢;exact h2
  ·rw [if_neg e1] at h1;by_cases e2:y=z
   ·subst e2;rw [if_neg e1];exact h1
   ·rw [if_neg e2] at h2;have h1':x < y:=by simpa using h1
    have h2':y < z:=by simpa using h2
    rw [if_neg (by omega)];simp;omega
theorem q13 (a b c:List Int) (h1:ltL a b=false) (h2:ltL b c=false):ltL a c=false:=by
 cases h:ltL a c with
 | false=>rfl
 | true =>
  exfalso;cases h3:ltL b a with
  | true =>
   have:=qug b a c h3 h;rw [h2] at this;cases this
  | false =>
   have:=qqs a b h1 h3;subst this;rw [h2] at h;cases h
theorem q0r:∀{l m:List (List Int)},l.Pairwise (fun a b=>ltL a b=true)→m.Pairwise (fun a b=>ltL a b=true)→(∀z,z∈l↔z∈m)→l=m
 | [],[],_,_,_=>rfl
 | [],y :: m,_,_,h=>by have:=(h y).2 (by simp);cases this
 | x :: l,[],_,_,h=>by have:=(h x).1 (by simp);cases this
 | x :: l,y :: m,hl,hm,h=>by
  rw [v3x] at hl hm;have hxy:x=y:=by
   have hx:=(h x).1 (by simp);have hy:=(h y).2 (by simp);rcases v02.1 hx with e | hx
   ·exact e
   ·rcases v02.1 hy with e | hy
    ·exact e.symm
    ·have h1:=hl.1 y hy;have h2:=hm.1 x hx;rw [qww x y h1] at h2;cases h2
  subst hxy;have irr:∀{l:List (List Int)},(∀a∈l,ltL x a=true)→x ∉ l:=fun H hx=>by
   have:=H x hx;rw [qvj] at this;cases this
  rw [q0r hl.2 hm.2 fun z=>?_];constructor
  ·intro hz;rcases v02.1 ((h z).1 (v03 _ hz)) with e | hz'
   ·exact absurd (e ▸ hz) (irr hl.1)
   ·exact hz'
  ·intro hz;rcases v02.1 ((h z).2 (v03 _ hz)) with e | hz'
   ·exact absurd (e ▸ hz) (irr hm.1)
   ·exact hz'
theorem qwx {α:Type} {l:List α} {k:Nat} {x:α} {r:List α} (h:l.drop k=x :: r):l[k]?=some x∧l.drop (k+1)=r∧k < l.length:=by
 have h1:l[k]?=some x:=by
  have:=congrArg (·[0]?) h;simpa [vx3] using this
 exact⟨h1,by rw [←v2k,h];rfl,qb9 h1⟩
theorem qwy {α:Type} {l:List α} {k:Nat} (h:l.drop k=[]) (hk:k≤l.length):k=l.length:=by
 have:=congrArg v2m h;simp at this;omega
theorem qsf (a b:List Int) (ha:a.length≤1000000) (hb:b.length≤1000000):∀(ra rb:List Int) (k:Nat),a.drop k=ra→b.drop k=rb→k≤a.length→k≤b.length →
  ∃o,qaj (qba a b) (k:Int)=some o∧(match o with | .inl ()=>if (a.length:Int) < (b.length:Int) then -1 else 0 | .inr r=>r)=if ltL ra rb=true then (-1:Int) else if ltL rb ra=true then 1 else 0
 | [],[],k,h1,h2,h3,h4=>by
  have e1:=qwy h1 h3;have e2:=qwy h2 h4;refine⟨.inl (),qam (by simp [qba,e1]),?_⟩;simp only;rw [if_neg (by omega)];rfl
 | [],y :: rb,k,h1,h2,h3,h4=>by
  have e1:=qwy h1 h3;have e2:=(qwx h2).2.2;refine⟨.inl (),qam (by simp [qba,e1]),?_⟩;simp only;rw [if_pos (by omega)];rfl
 | x :: ra,[],k,h1,h2,h3,h4=>by
  have e2:=qwy h2 h4;obtain⟨x1,x2,x3⟩:=qwx h1;refine⟨.inr 1,qam (by simp only [qba,if_pos (qah x1),qaf x1,vzm,if_pos (show (k:Int)≥(b.length:Int) by omega)]),?_⟩;simp [ltL]
 | x :: ra,y :: rb,k,h1,h2,h3,h4=>by
  obtain⟨x1,x2,x3⟩:=qwx h1;obtain⟨y1,y2,y3⟩:=qwx h2;by_cases e:x=y
  ·subst e;obtain⟨o,ho1,ho2⟩:=qsf a b ha hb ra rb (k+1) x2 y2 x3 y3;refine⟨o,?_,?_⟩
   ·rw [qa1 (s':=((k+1:Nat):Int)) (by simp only [qba,if_pos (qah x1),if_neg (show ¬(k:Int)≥(b.length:Int) by omega),qaf x1,qaf y1,vzm,qqm,vjm,bne_self_eq_false,vxj,if_false,qcu x3 (show a.length≤4611686018427387904 by omega)])];exact ho1
   ·rw [ho2,ltL,ltL,if_pos rfl,if_pos rfl]
  ·refine⟨.inr (sgn x y),qam ?_,?_⟩
   ·have:(sgn x y != 0)=true:=by simpa using vwa e
    simp only [qba,if_pos (qah x1),if_neg (show ¬(k:Int)≥(b.length:Int) by omega),qaf x1,qaf y1,vzm,qqm,this,if_true]
   ·simp only [ltL,if_neg e,if_neg (fun e'=>e e'.symm:¬y=x)];unfold sgn;by_cases h:x < y
    ·simp [h]
    ·have:y < x:=by omega
     simp [h,this]
def q4w (a b:List Int):Int:=if ltL a b=true then -1 else if ltL b a=true then 1 else 0
theorem qky (a b:List Int) (ha:a.length≤1000000) (hb:b.length≤1000000):qae a b=some (q4w a b):=by
 obtain⟨o,h1,h2⟩:=qsf a b ha hb a b 0 rfl rfl (v1m _) (v1m _);have h1':qaj (qba a b) 0=some o:=h1;unfold qae q4w;rw [h1',vzm,←h2];cases o with
 | inl u =>
  cases u;simp only;by_cases h:(a.length:Int) < (b.length:Int)
  ·rw [if_pos h,if_pos h]
  ·rw [if_neg h,if_neg h]
 | inr r=>rfl
theorem qgf (a b:List Int):q4w a b < 0↔ltL a b=true:=by
 unfold q4w;cases h:ltL a b with
 | true=>simp
 | false =>
  cases ltL b a <;> simp
theorem vcc (l:List (List Int)) (hl:l.length≤1000000) (hs:∀a∈l,a.length≤1000000) (hn:l.Nodup) :
  ∃s,qzi (fun (a:List Int) (b:List Int)=>qae a b) l=some s∧s.Perm l∧s.Pairwise (fun a b=>ltL a b=true):=by
 have hc:∀x∈l,∀y∈l,(qae x y).getD 0=q4w x y:=fun x hx y hy=>by rw [qky x y (hs x hx) (hs y hy)];rfl
 have hok:qzh (fun x y=>(qae x y).getD 0) l:=by
  refine⟨fun x hx=>?_,fun x hx y hy z hz h1 h2=>?_,fun x hx y hy z hz h1 h2=>?_⟩
  ·show ¬(qae x x).getD 0 < 0;rw [hc x hx x hx,qgf,qvj];simp
  ·replace h1:(qae x y).getD 0 < 0:=h1;replace h2:(qae y z).getD 0 < 0:=h2;show (qae x z).getD 0 < 0;rw [hc _ hx _ hy,qgf] at h1;rw [hc _ hy _ hz,qgf] at h2;rw [hc _ hx _ hz,qgf];exact qug x y z h1 h2
  ·replace h1:¬(qae x y).getD 0 < 0:=h1;replace h2:¬(qae y z).getD 0 < 0:=h2;show ¬(qae x z).getD 0 < 0;rw [hc _ hx _ hy,qgf] at h1;rw [hc _ hy _ hz,qgf] at h2;rw [hc _ hx _ hz,qgf];have h1':ltL x y=false:=by simpa using h1
   have h2':ltL y z=false:=by simpa using h2
   rw [q13 x y z h1' h2'];simp
 have hp:=qtr hok;refine⟨srt (fun x y=>(qae x y).getD 0) l,?_,hp,?_⟩
 ·unfold qzi;rw [if_pos ⟨fun x hx y hy=>by show (qae x y).isSome=true;rw [qky x y (hs x hx) (hs y hy)];rfl,hok,by omega⟩]
 ·have h1:=q0d hok;have hn':(srt (fun x y=>(qae x y).getD 0) l).Nodup:=hp.nodup_iff.2 hn;refine v3a.imp_of_mem ?_ (h1.and hn');intro a b ha hb hab;have ha':=hp.mem_iff.1 ha;have hb':=hp.mem_iff.1 hb;obtain⟨g1,g2⟩:=hab;replace g1:¬(qae b a).getD 0 < 0:=g1;rw [hc _ hb' _ ha',qgf] at g1;cases h:ltL a b with
  | true=>rfl
  | false=>exact absurd (qqs a b h (by simpa using g1)) g2
def q0s (l:List (List Int)):Prop:=l.Pairwise fun a b=>ltL a b=true
def vga (out:List (List Int)) (x:List Int):List (List Int):=if x∈out then out else (vcw ltL x out.reverse).reverse
theorem vjy (out:List (List Int)) (x z:List Int):z∈vga out x↔z∈out∨z=x:=by
 unfold vga;by_cases h:x∈out
 ·rw [if_pos h];constructor
  ·intro hz;exact .inl hz
  ·rintro (hz | rfl)
   ·exact hz
   ·exact h
 ·rw [if_neg h,v3u,q12,v3u];exact Or.comm
theorem vp3 {l:List (List Int)} (h:l.Pairwise fun a b=>ltL b a=false) (hn:l.Nodup):q0s l:=by
 refine v3a.imp ?_ (h.and hn);rintro a b ⟨h1,h2⟩;cases h3:ltL a b with
 | true=>rfl
 | false=>exact absurd (qqs a b h3 h1) h2
theorem qvk {l:List (List Int)} (h:q0s l):l.Nodup:=by
 refine v3a.imp ?_ h;intro a b hab e;subst e;rw [qvj] at hab;cases hab
theorem vjz {out:List (List Int)} (x:List Int) (h:q0s out):q0s (vga out x):=by
 unfold vga;by_cases hm:x∈out
 ·rw [if_pos hm];exact h
 ·rw [if_neg hm];have h1:out.reverse.Pairwise fun a b=>ltL a b=false:=by
   rw [v30];exact h.imp fun {a b} hab=>qww a b hab
  have h2:=qyk ltL qww q13 x out.reverse h1;refine vp3 ?_ ?_
  ·rw [v30];exact h2
  ·rw [(v33 _).nodup_iff,(q4v ltL x out.reverse).nodup_iff,v3v];exact⟨by rw [v3u];exact hm,(v33 out).nodup_iff.2 (qvk h)⟩
theorem vj0 (out:List (List Int)) (x:List Int):(vga out x).length≤out.length+1:=by
 unfold vga;split
 ·omega
 ·rw [v3r,q9r,v3r];exact vza _
def vcx (l:List (List Int)):List (List Int):=l.foldl vga []
theorem q4x (z:List Int):∀(l out:List (List Int)),z∈l.foldl vga out↔z∈out∨z∈l
 | [],out=>by simp
 | x :: l,out=>by
  rw [v3l,q4x z l,vjy];simp only [v02,or_assoc]
theorem q4y:∀(l out:List (List Int)),q0s out→q0s (l.foldl vga out)
 | [],_,h=>h
 | x :: l,out,h=>q4y l _ (vjz x h)
theorem q4z:∀(l out:List (List Int)),(l.foldl vga out).length≤out.length+l.length
 | [],out=>by simp
 | x :: l,out=>by
  rw [v3l];have h1:=q4z l (vga out x);have h2:=vj0 out x;simp only [v0q];omega
theorem q9s (l:List (List Int)) (z:List Int):z∈vcx l↔z∈l:=by unfold vcx;rw [q4x];simp
theorem vj1 (l:List (List Int)):q0s (vcx l):=q4y l [] v3a.nil
theorem vj2 (l:List (List Int)):(vcx l).length≤l.length:=by have:=q4z l [];simpa [vcx] using this
theorem vp4 {l m:List (List Int)} (hm:q0s m) (h:∀z,z∈l↔z∈m):vcx l=m:=q0r (vj1 l) hm fun z=>by rw [q9s];exact h z
def qn8 (rows:List Row):List Int:=quz (rows.map Row.ID)
theorem qrm (rows:List Row):(qn8 rows).length=rows.length:=by
 unfold qn8;rw [(qmd _).length_eq,vye]
def qqt (t:Table) (d:Denial):Int:=if qd3 t≠0 then qd3 t else if vca t.Attrs.length d=true then (if d.Vars=3∧200 < t.Rows.length then 3 else 0) else 1
theorem vj3 (t:Table) (d:Denial) (b:Bool):(if b=true then (if (d.Vars == 3)=true then (if (t.Rows.length:Int) > 200 then some 3 else some 0) else some 0) else some 1)=some (if b=true then (if d.Vars=3∧200 < t.Rows.length then (3:Int) else 0) else 1):=by
 cases b with
 | false=>rfl
 | true =>
  simp only [if_true];by_cases h3:d.Vars=3
  ·rw [if_pos (by simpa using h3)];by_cases h4:200 < t.Rows.length
   ·rw [if_pos (by omega),if_pos ⟨h3,h4⟩]
   ·rw [if_neg (by omega),if_neg (by rintro⟨_,h⟩;exact h4 h)]
  ·rw [if_neg (by simpa using h3),if_neg (by rintro⟨h,_⟩;exact h3 h)]
theorem vcd (t:Table) (d:Denial) (T:TableOk t) (hl:d.Atoms.length≤1048576):qi2 t d=some (qqt t d):=by
 unfold qi2 qqt;rw [qol t T,vzm];by_cases h:qd3 t=0
 ·simp only [h,bne_self_eq_false,vxj,if_false,ne_eq,not_true_eq_false,vf7 _ d hl,vzm];exact vj3 t d _
 ·have h':(qd3 t != 0)=true:=by simpa using h
  simp only [h',if_true,ne_eq,h,not_false_eq_true]
structure DT (t:Table):Prop where
 ok:TableOk t
 err:qd3 t=0
 few:t.Rows.length≤7
 str:∀r∈t.Rows,∀v∈r.Values,v.Str.length≤1048576
theorem DT.code {t:Table} (H:DT t):(∀r∈t.Rows,r.Values.length=t.Attrs.length∧r.Values.all qrs=true∧0 < r.ID)∧t.Rows.Pairwise (fun x y=>x.ID < y.ID):=qvz _ _ _ (q4o H.err).2.2
theorem vgb (t:Table) (a:List Row):(qyi t a).length≤t.Rows.length:=by
 unfold qyi;rw [vye];exact v0s _ _
theorem vgc {t:Table} {a b:List Row} (h:b∈qyi t a):∃r∈t.Rows,b=a++[r]∧∀x∈a,x.ID≠r.ID:=by
 unfold qyi at h;obtain⟨r,hr,rfl⟩:=v06.1 h;obtain⟨h1,h2⟩:=v05.1 hr;refine⟨r,h1,rfl,fun x hx e=>?_⟩;simp only [vxl,v3d] at h2;exact h2 x hx (by simpa using e)
theorem q9t {t:Table} (hn:t.Rows.length≤7):∀k,(q5p t k).length≤7 ^ k
 | 0=>by simp [q5p]
 | k+1=>by
  have ih:=q9t hn k;have key:∀l:List (List Row),(l.flatMap (qyi t)).length≤7 * l.length:=by
   intro l
   induction l with
   | nil=>simp
   | cons a l ihl =>
    rw [v0j,vyc,v0q];have:=vgb t a;omega
  have:=key (q5p t k);rw [v4q];show ((q5p t k).flatMap (qyi t)).length≤_;omega
theorem q14 {t:Table}:∀{k:Nat} {a:List Row},a∈q5p t k→a.length=k∧(∀r∈a,r∈t.Rows)∧a.Pairwise fun x y=>x.ID≠y.ID
 | 0,a,h=>by
  have:a=[]:=by simpa [q5p] using h
  subst this;exact⟨rfl,by simp,v3a.nil⟩
 | k+1,a,h=>by
  obtain⟨b,hb,hab⟩:=vyn.1 (show a∈(q5p t k).flatMap (qyi t) from h);obtain⟨r,hr,rfl,hne⟩:=vgc hab;obtain⟨h1,h2,h3⟩:=q14 hb;refine⟨by simp [h1],fun x hx=>?_,?_⟩
  ·rcases vym.1 hx with hx | hx
   ·exact h2 x hx
   ·rw [v09.1 hx];exact hr
  ·rw [v3w];exact⟨h3,by simp,fun x hx y hy=>by rw [v09.1 hy];exact hne x hx⟩
theorem vgd {t:Table}:∀{k:Nat} {a:List Row},a.length=k→(∀r∈a,r∈t.Rows)→a.Pairwise (fun x y=>x.ID≠y.ID)→a∈q5p t k
 | 0,a,h,_,_=>by
  rw [List.eq_nil_of_length_eq_zero h];simp [q5p]
 | k+1,a,h,h2,h3=>by
  have hne:a≠[]:=by intro e;rw [e] at h;cases h
  have e:=(List.dropLast_concat_getLast hne).symm;generalize a.getLast hne=r at e;generalize a.dropLast=b at e;subst e;rw [v3w] at h3;refine vyn.2 ⟨b,vgd (by simpa using h) (fun x hx=>h2 x (by simp [hx])) h3.1,?_⟩;unfold qyi;refine v06.2 ⟨r,v05.2 ⟨h2 r (by simp),?_⟩,rfl⟩;simp only [vxl,v3d];intro x hx;have:=h3.2.2 x hx r (by simp);simpa using this
def qqu (t:Table) (d:Denial):List (List Int):=((q5p t d.Vars.toNat).filter fun a=>d.Atoms.all (q5q a)).map qn8
theorem vge {t:Table} (hn:t.Rows.length≤7) {d:Denial} (h:d.Vars≤3):(qqu t d).length≤343:=by
 unfold qqu;rw [vye];refine vzc (v0s _ _) ?_;have:=q9t hn d.Vars.toNat;have h7:7 ^ d.Vars.toNat≤7 ^ 3:=v4n (by omega) (by omega);have:7 ^ 3=343:=by decide
 omega
theorem q7k {t:Table} {d:Denial} {z:List Int} (h:z∈qqu t d):z.length=d.Vars.toNat:=by
 unfold qqu at h;obtain⟨a,ha,rfl⟩:=v06.1 h;rw [qrm];exact (q14 (v05.1 ha).1).1
theorem ql5 {n:Int} {d:Denial} (h:vca n d=true):(1≤d.Vars∧d.Vars≤3∧d.Atoms.length≤20)∧∀a∈d.Atoms,q11 n d.Vars a=true:=by
 simpa only [vca,vxh,decide_eq_true_eq,v0e] using h
def vp5 (t:Table) (d:Denial):List (List Int)×Int:=if qqt t d=0 then (vcx (qqu t d),0) else ([],qqt t d)
theorem qyl {t:Table} {d:Denial} (h:qqt t d=0):qd3 t=0∧vca t.Attrs.length d=true:=by
 unfold qqt at h;by_cases h1:qd3 t=0
 ·rw [if_neg (by simp [h1])] at h;refine⟨h1,?_⟩;cases h2:vca t.Attrs.length d with
  | true=>rfl
  | false=>rw [h2] at h;simp at h
 ·rw [if_pos h1] at h;exact absurd h h1
abbrev qon:=List (Arr3_int64×Bool)×List (List Int)
def qzp (d:Denial) (a:List Row) (b:qon):qon:=if d.Atoms.all (q5q a)=true then (if qn8 a∈b.2 then b else (qzg b.1 (q7j (qn8 a)) true,b.2++[qn8 a])) else b
def q0t (t:Table) (d:Denial):Nat→List Row→qon→qon
 | 0,a,b=>qzp d a b
 | m+1,a,b=>t.Rows.foldl (fun b r=>if (a.any fun x=>x.ID == r.ID)=true then b else q0t t d m (a++[r]) b) b
structure SeenOk (n:Nat) (b:qon):Prop where
 len:∀z∈b.2,z.length=n
 seen:∀z:List Int,z.length=n→((quy b.1 (q7j z)).getD false=true↔z∈b.2)
theorem vj4 {n:Nat} (hn:n≤3) {d:Denial} {a:List Row} {b:qon} (ha:a.length=n) (h:SeenOk n b):SeenOk n (qzp d a b)∧(qzp d a b).2.length≤b.2.length+1:=by
 unfold qzp;split
 ·by_cases hm:qn8 a∈b.2
  ·rw [if_pos hm];exact⟨h,by omega⟩
  ·rw [if_neg hm];have hl:(qn8 a).length=n:=by rw [qrm,ha]
   refine⟨⟨fun z hz=>?_,fun z hz=>?_⟩,by simp⟩
   ·rcases vym.1 hz with hz | hz
    ·exact h.len z hz
    ·rw [v09.1 hz];exact hl
   ·simp only [q4m,vym,v09];by_cases hk:q7j z=q7j (qn8 a)
    ·rw [if_pos hk];have:=vjw hn hz hl hk;simp [this]
    ·rw [if_neg hk,h.seen z hz];constructor
     ·intro hz;exact .inl hz
     ·rintro (hz | rfl)
      ·exact hz
      ·exact absurd rfl hk
 ·exact⟨h,by omega⟩
theorem q7l {n:Nat} (hn:n≤3) {t:Table} (ht:t.Rows.length≤7) {d:Denial}:∀(m:Nat) (a:List Row) (b:qon),a.length+m=n→SeenOk n b→SeenOk n (q0t t d m a b)∧(q0t t d m a b).2.length≤b.2.length+7 ^ m
 | 0,a,b,ha,h=>vj4 hn (by omega) h
 | m+1,a,b,ha,h=>by
  have key:∀(l:List Row) (b:qon),SeenOk n b→SeenOk n (l.foldl (fun b r=>if (a.any fun x=>x.ID == r.ID)=true then b else q0t t d m (a++[r]) b) b) ∧
    (l.foldl (fun b r=>if (a.any fun x=>x.ID == r.ID)=true then b else q0t t d m (a++[r]) b) b).2.length≤b.2.length+l.length * 7 ^ m:=by
   intro l
   induction l with
   | nil=>intro b h;exact⟨h,by simp⟩
   | cons r l ih =>
    intro b h;rw [v3l];by_cases hu:(a.any fun x=>x.ID == r.ID)=true
    ·rw [if_pos hu];obtain⟨h1,h2⟩:=ih b h;refine⟨h1,?_⟩;rw [v0q,v4r];generalize 7 ^ m=P at *;omega
    ·rw [if_neg hu];obtain⟨g1,g2⟩:=q7l hn ht m (a++[r]) b (by simp;omega) h;obtain⟨h1,h2⟩:=ih _ g1;refine⟨h1,?_⟩;rw [v0q,v4r];generalize 7 ^ m=P at *;omega
  obtain⟨h1,h2⟩:=key t.Rows b h;refine⟨h1,?_⟩;have:t.Rows.length * 7 ^ m≤7 * 7 ^ m:=vzh _ ht;rw [v4q];show (t.Rows.foldl _ b).2.length≤_;omega
theorem vgf (d:Denial) (a:List Row) (b:qon):(qzp d a b).2=if d.Atoms.all (q5q a)=true then vb8 b.2 (qn8 a) else b.2:=by
 unfold qzp vb8;split
 ·split <;> rfl
 ·rfl
theorem q9u (t:Table) (d:Denial):∀(m:Nat) (a:List Row) (b:qon),(q0t t d m a b).2=(((q7i t m a).filter fun x=>d.Atoms.all (q5q x)).map qn8).foldl vb8 b.2
 | 0,a,b=>by
  show (qzp d a b).2=_;rw [vgf];show _=(([a].filter fun x=>d.Atoms.all (q5q x)).map qn8).foldl vb8 b.2;by_cases h:d.Atoms.all (q5q a)=true
  ·rw [if_pos h,v3g,if_pos h];rfl
  ·rw [if_neg h,v3g,if_neg h];rfl
 | m+1,a,b=>by
  have key:∀(l:List Row) (b:qon),(l.foldl (fun b r=>if (a.any fun x=>x.ID == r.ID)=true then b else q0t t d m (a++[r]) b) b).2 =
    (((((l.filter fun r=>!(a.any fun x=>x.ID == r.ID)).map fun r=>a++[r]).flatMap (q7i t m)).filter fun x=>d.Atoms.all (q5q x)).map qn8).foldl vb8 b.2:=by
   intro l
   induction l with
   | nil=>intro b;rfl
   | cons r l ih =>
    intro b;rw [v3l,ih,v3g];by_cases hu:(a.any fun x=>x.ID == r.ID)=true
    ·rw [if_pos hu,if_neg (by simp [hu])]
    ·rw [if_neg hu,if_pos (by simpa using hu),q9u t d m (a++[r]) b,List.map_cons,v0j,v3f,vyj,List.foldl_append]
  exact key t.Rows b
theorem q15 (l:List Row) (hl:l.length≤1000):qaj (qdi l) ([],0)=some (l.map Row.ID):=by
 have h:=qcl l (fun (b:List Int) (i:Int)=>(b,i)) (qdi l) (fun b r=>b++[r.ID]) id (fun k b=>b.length=k) (b0:=[]) (s0:=([],0)) rfl rfl
  (fun k b x hx hk hI=>by
   refine⟨?_,by simp [hI]⟩;simp only [qdi,if_pos (qah hx),qaf hx,vzm,qt6 (show b.length+1≤17592186044416 by omega),if_true,qcu hk (show l.length≤4611686018427387904 by omega)])
  (fun b _=>by simp [qdi])
 rw [h];have key:∀(l:List Row) (b:List Int),l.foldl (fun b (r:Row)=>b++[r.ID]) b=b++l.map Row.ID:=by
  intro l
  induction l with
  | nil=>intro b;simp
  | cons x l ih=>intro b;rw [v3l,ih];simp
 rw [id,key,vyt]
theorem vj5 (l:List Row) (hl:l.length≤1000):qaj (qiu l) ([],0)=some (l.map Row.ID):=q15 l hl
theorem vj6 (l:List Row) (hl:l.length≤1000):qaj (qit l) ([],0)=some (l.map Row.ID):=q15 l hl
theorem qym (l:List Row) (hl:l.length≤1000):qu9 (l.map Row.ID)=some (qn8 l):=by
 unfold qu9 qn8;rw [if_pos (by rw [vye];omega)]
theorem qnz (a:List Row) (r:Row) (ha:a.length≤1000):qbb a (fun y=>qcs y r)=some (a.any fun x=>x.ID == r.ID) :=
 qqq a _ (fun x=>x.ID == r.ID) (fun x _=>rfl) (by omega)
theorem qoo {n:Nat} (hn:n≤3) {t:Table} (ht:t.Rows.length≤7) {d:Denial} {m:Nat} {a:List Row} (ha:a.length+(m+1)=n) {τ:Type}
  (B:List (Arr3_int64×Bool)×List (List Int)×Int→Option (LS (List (Arr3_int64×Bool)×List (List Int)×Int) ((List (Arr3_int64×Bool)×List (List Int)) ⊕ τ)))
  (hB:∀(k:Nat) (b:qon) (r:Row),t.Rows[k]?=some r→k < t.Rows.length→SeenOk n b→b.2.length+7 ^ m≤400→(a.any fun x=>x.ID == r.ID)=false→B (b.1,b.2,(k:Int))=some (.next ((q0t t d m (a++[r]) b).1,(q0t t d m (a++[r]) b).2,vz8.wrap ((k:Int)+1))))
  (hU:∀(k:Nat) (b:qon) (r:Row),t.Rows[k]?=some r→k < t.Rows.length→(a.any fun x=>x.ID == r.ID)=true→B (b.1,b.2,(k:Int))=some (.next (b.1,b.2,vz8.wrap ((k:Int)+1))))
  (hE:∀b:qon,B (b.1,b.2,(t.Rows.length:Int))=some (.done (.inl (b.1,b.2)))) (b0:qon) (h0:SeenOk n b0) (hl:b0.2.length+7 ^ (m+1)≤400) :
  qaj B (b0.1,b0.2,0)=some (.inl ((q0t t d (m+1) a b0).1,(q0t t d (m+1) a b0).2)):=by
 have h:=qcl t.Rows (fun (b:qon) (i:Int)=>(b.1,b.2,i)) B (fun b r=>if (a.any fun x=>x.ID == r.ID)=true then b else q0t t d m (a++[r]) b) (fun b=>(.inl (b.1,b.2):(List (Arr3_int64×Bool)×List (List Int)) ⊕ τ))
  (fun k b=>SeenOk n b∧b.2.length≤b0.2.length+k * 7 ^ m) (b0:=b0) (s0:=(b0.1,b0.2,0)) rfl ⟨h0,by omega⟩
  (fun k b x hx hk hI=>by
   obtain⟨hI1,hI2⟩:=hI;have hb:b.2.length+7 ^ m≤400:=by
    have:(k+1) * 7 ^ m≤7 * 7 ^ m:=vzh _ (by omega);rw [v4r] at this;rw [v4q] at hl;generalize 7 ^ m=P at *;omega
   have hw:=qcu hk (show t.Rows.length≤4611686018427387904 by omega);by_cases hu:(a.any fun x_1=>x_1.ID == x.ID)=true
   ·rw [if_pos hu];refine⟨by rw [hU k b x hx hk hu,hw],hI1,?_⟩;rw [v4r];generalize 7 ^ m=P at *;omega
   ·rw [if_neg hu];obtain⟨g1,g2⟩:=q7l hn ht m (a++[x]) b (by simp;omega) hI1;refine⟨by rw [hB k b x hx hk hI1 hb (by simpa using hu),hw],g1,?_⟩;rw [v4r];generalize 7 ^ m=P at *;omega)
  (fun b _=>hE b)
 rw [h];rfl
theorem qyn {n:Nat} {d:Denial} {a:List Row} {b:qon} (ha:a.length=n) (h:SeenOk n b) (hb:b.2.length≤400) {σ τ:Type} (k:Int) (X:σ→Option (LS (List (Arr3_int64×Bool)×List (List Int)×Int) τ)) (y1:τ) (y2:τ) :
  (if d.Atoms.all (q5q a)=true then
   (if ((quy b.1 (Arr3_int64.mk ((qn8 a).getD 0 0) ((qn8 a).getD 1 0) ((qn8 a).getD 2 0))).getD false)=true then
    (if ((b.2.length:Nat):Int)≤20000 then some (LS.next (b.1,b.2,k)) else some (LS.done y1))
   else if qcm (b.2.length+1) 24=true then
    (if (((b.2.length+1):Nat):Int)≤20000 then some (LS.next ((qzg b.1 (Arr3_int64.mk ((qn8 a).getD 0 0) ((qn8 a).getD 1 0) ((qn8 a).getD 2 0)) true),(b.2++[qn8 a]),k)) else some (LS.done y2))
   else none)
  else some (LS.next (b.1,b.2,k)))=some (LS.next ((qzp d a b).1,(qzp d a b).2,k)):=by
 have hl:(qn8 a).length=n:=by rw [qrm,ha]
 have hs:=h.seen (qn8 a) hl;unfold qzp;by_cases hsat:d.Atoms.all (q5q a)=true
 ·rw [if_pos hsat,if_pos hsat];by_cases hm:qn8 a∈b.2
  ·have h1:((quy b.1 (Arr3_int64.mk ((qn8 a).getD 0 0) ((qn8 a).getD 1 0) ((qn8 a).getD 2 0))).getD false)=true:=hs.2 hm;rw [if_pos h1,if_pos (by omega),if_pos hm]
  ·have h1:¬((quy b.1 (Arr3_int64.mk ((qn8 a).getD 0 0) ((qn8 a).getD 1 0) ((qn8 a).getD 2 0))).getD false)=true:=fun h=>hm (hs.1 h)
   rw [if_neg h1,if_neg hm,if_pos (qeh (by omega) (by omega)),if_pos (by omega)];rfl
 ·rw [if_neg hsat,if_neg hsat]
theorem q16 {t:Table} (H:DT t) {a:List Row} {n:Nat} (hn:n≤3) (ha:a.length=n) (hm:∀r∈a,r∈t.Rows):RowsN t.Attrs.length (n:Int) a :=
 ⟨by omega,by omega,fun r hr=>⟨((H.code).1 r (hm r hr)).1,H.str r (hm r hr)⟩⟩
theorem qyo {t:Table} {a:List Row} (hm:∀r∈a,r∈t.Rows) {k:Nat} {x:Row} (hx:t.Rows[k]?=some x):∀r∈a++[x],r∈t.Rows:=by
 intro r hr;rcases vym.1 hr with hr | hr
 ·exact hm r hr
 ·rw [v09.1 hr];exact vyo hx
theorem vj7 {t:Table} (H:DT t) {d:Denial} (hd:vca t.Attrs.length d=true) (hv:d.Vars=3) (a:List Row) (ha:a.length=2) (hm:∀r∈a,r∈t.Rows) (b:qon) (hb:SeenOk 3 b) (hl:b.2.length+7≤400) :
  qaj (qdj t d a) (b.1,b.2,0)=some (.inl ((q0t t d 1 a b).1,(q0t t d 1 a b).2)):=by
 obtain⟨⟨hv1,hv2,hv3⟩,hat⟩:=ql5 hd;refine qoo (n:=3) (by omega) H.few (m:=0) (by omega) _ (fun k b x hx hk hI hlen hu=>?_) (fun k b x hx hk hu=>?_) (fun b=>by simp [qdj]) b hb hl
 ·have R:=q16 H (a:=a++[x]) (n:=3) (by omega) (by simp [ha]) (qyo hm hx);have hlen3:(a++[x]).length=3:=by simp [ha]
  have hc:(((a++[x]).length:Int) == d.Vars)=true:=by rw [hlen3,hv];rfl
  rw [show ((3:Nat):Int)=d.Vars by omega] at R;simp only [qdj,if_pos (qah hx),qaf hx,vzm,qnz a x (by omega),hu,vxj,if_false,if_pos (show a.length≤1000000000 by omega),RLE (a.length+1) 32,if_true,hc,qqr R d.Atoms (by omega) hat,q15 (a++[x]) (by omega),qym (a++[x]) (by omega)];exact qyn (σ:=Unit) hlen3 hI (by omega) _ (fun _=>none) _ _
 ·simp only [qdj,if_pos (qah hx),qaf hx,vzm,qnz a x (by omega),hu,if_true]
theorem vj8 {t:Table} (H:DT t) {d:Denial} (hd:vca t.Attrs.length d=true) {n:Nat} (hv:d.Vars=(n:Int)) (h2:2≤n) (h3:n≤3) (a:List Row) (ha:a.length=1) (hm:∀r∈a,r∈t.Rows) (b:qon) (hb:SeenOk n b) (hl:b.2.length+7 ^ (n - 1)≤400) :
  qaj (qbv t d a) (b.1,b.2,0)=some (.inl ((q0t t d (n - 1) a b).1,(q0t t d (n - 1) a b).2)):=by
 obtain⟨⟨hv1,hv2,hv3⟩,hat⟩:=ql5 hd;have hcase:n=2∨n=3:=by omega
 rcases hcase with rfl | rfl
 ·refine qoo (n:=2) (by omega) H.few (m:=0) (by omega) _ (fun k b x hx hk hI hlen hu=>?_) (fun k b x hx hk hu=>?_) (fun b=>by simp [qbv]) b hb hl
  ·have R:=q16 H (a:=a++[x]) (n:=2) (by omega) (by simp [ha]) (qyo hm hx);have hlen3:(a++[x]).length=2:=by simp [ha]
   have hc:(((a++[x]).length:Int) == d.Vars)=true:=by rw [hlen3,hv];rfl
   rw [show ((2:Nat):Int)=d.Vars by omega] at R;simp only [qbv,if_pos (qah hx),qaf hx,vzm,qnz a x (by omega),hu,vxj,if_false,if_pos (show a.length≤1000000000 by omega),RLE (a.length+1) 32,if_true,hc,qqr R d.Atoms (by omega) hat,vj5 (a++[x]) (by omega),qym (a++[x]) (by omega)];exact qyn (σ:=Unit) hlen3 hI (by omega) _ (fun _=>none) _ _
  ·simp only [qbv,if_pos (qah hx),qaf hx,vzm,qnz a x (by omega),hu,if_true]
 ·refine qoo (n:=3) (by omega) H.few (m:=1) (by omega) _ (fun k b x hx hk hI hlen hu=>?_) (fun k b x hx hk hu=>?_) (fun b=>by simp [qbv]) b hb hl
  ·have hlen3:(a++[x]).length=2:=by simp [ha]
   have hc:¬((((a++[x]).length:Int) == d.Vars)=true):=by rw [hlen3,hv];decide
   simp only [qbv,if_pos (qah hx),qaf hx,vzm,qnz a x (by omega),hu,vxj,if_false,if_pos (show a.length≤1000000000 by omega),RLE (a.length+1) 32,if_true,if_neg hc];rw [vj7 H hd hv (a++[x]) hlen3 (qyo hm hx) b hI (by omega)];rfl
  ·simp only [qbv,if_pos (qah hx),qaf hx,vzm,qnz a x (by omega),hu,if_true]
theorem vj9 {t:Table} (H:DT t) {d:Denial} (hd:vca t.Attrs.length d=true) {n:Nat} (hv:d.Vars=(n:Int)) (h1:1≤n) (h3:n≤3) (b:qon) (hb:SeenOk n b) (hl:b.2.length+343≤400) :
  qaj (qbw t d []) (b.1,b.2,0)=some (.inl ((q0t t d n [] b).1,(q0t t d n [] b).2)):=by
 obtain⟨⟨hv1,hv2,hv3⟩,hat⟩:=ql5 hd;have hm:∀r∈([]:List Row),r∈t.Rows:=by simp
 by_cases hc1:n=1
 ·subst hc1;refine qoo (n:=1) (by omega) H.few (m:=0) (a:=[]) (by simp) _ (fun k b x hx hk hI hlen hu=>?_) (fun k b x hx hk hu=>?_) (fun b=>by simp [qbw]) b hb (by simp at hl ⊢;omega)
  ·have R:=q16 H (a:=[]++[x]) (n:=1) (by omega) (by simp) (qyo hm hx);have hlen3:(([]:List Row)++[x]).length=1:=by simp
   have hc:(((([]:List Row)++[x]).length:Int) == d.Vars)=true:=by rw [hlen3,hv];rfl
   rw [show ((1:Nat):Int)=d.Vars by omega] at R;simp only [qbw,if_pos (qah hx),qaf hx,vzm,qnz [] x (by simp),hu,vxj,if_false,if_pos (show ([]:List Row).length≤1000000000 by simp),qeh (show ([]:List Row).length+1≤1073741824 by simp) (show 32≤65536 by omega),if_true,hc,qqr R d.Atoms (by omega) hat,vj6 ([]++[x]) (by simp),qym ([]++[x]) (by simp)];exact qyn (σ:=Unit) hlen3 hI (by omega) _ (fun _=>none) _ _
  ·simp only [qbw,if_pos (qah hx),qaf hx,vzm,qnz [] x (by simp),hu,if_true]
 ·obtain⟨m,rfl⟩:∃m,n=m+2:=⟨n - 2,by omega⟩;have h7:7 ^ (m+2)≤343:=by
   have:m=0∨m=1:=by omega
   rcases this with rfl | rfl <;> decide
  have h7':7 ^ (m+1)≤49:=by
   have:m=0∨m=1:=by omega
   rcases this with rfl | rfl <;> decide
  refine qoo (n:=m+2) (by omega) H.few (m:=m+1) (a:=[]) (by simp) _ (fun k b x hx hk hI hlen hu=>?_) (fun k b x hx hk hu=>?_) (fun b=>by simp [qbw]) b hb (by rw [show m+1+1=m+2 by omega];omega)
  ·have hlen3:(([]:List Row)++[x]).length=1:=by simp
   have hc:¬((((([]:List Row)++[x]).length:Int) == d.Vars)=true):=by rw [hlen3,hv];simp;omega
   simp only [qbw,if_pos (qah hx),qaf hx,vzm,qnz [] x (by simp),hu,vxj,if_false,if_pos (show ([]:List Row).length≤1000000000 by simp),qeh (show ([]:List Row).length+1≤1073741824 by simp) (show 32≤65536 by omega),if_true,if_neg hc];rw [vj8 H hd hv (by omega) h3 ([]++[x]) hlen3 (qyo hm hx) b hI hlen];rfl
  ·simp only [qbw,if_pos (qah hx),qaf hx,vzm,qnz [] x (by simp),hu,if_true]
theorem vce (t:Table) (d:Denial) {n:Nat} (hn:n≤3) (ht:t.Rows.length≤7) (hv:d.Vars=(n:Int)) :
  qzi (fun (a:List Int) (b:List Int)=>qae a b) (q0t t d n [] (([]:List (Arr3_int64×Bool)),([]:List (List Int)))).2=some (vcx (qqu t d)):=by
 have h0:SeenOk n (([]:List (Arr3_int64×Bool)),([]:List (List Int))):=⟨by simp,fun z _=>by simp [quy]⟩;obtain⟨h1,h2⟩:=q7l hn ht (d:=d) n [] _ (by simp) h0;have hsnd:=q9u t d n [] (([]:List (Arr3_int64×Bool)),([]:List (List Int)));have e:n=d.Vars.toNat:=by omega
 rw [vju] at hsnd;have hv':(q0t t d n [] (([]:List (Arr3_int64×Bool)),([]:List (List Int)))).2=(qqu t d).foldl vb8 []:=by
  rw [hsnd];unfold qqu;rw [←e]
 rw [hv'] at h2 ⊢;have h7:7 ^ n≤7 ^ 3:=v4n (by omega) hn;have h343:7 ^ 3=343:=by decide
 have hnd:=qqp (qqu t d) [] List.nodup_nil;obtain⟨s,g1,g2,g3⟩:=vcc ((qqu t d).foldl vb8 []) (by simp at h2;omega) (fun a ha=>by
  rcases (qo8 a (qqu t d) []).1 ha with h | h
  ·cases h
  ·rw [q7k h];omega) hnd
 rw [g1];congr 1;refine (vp4 g3 fun z=>?_).symm;rw [g2.mem_iff,qo8];simp
theorem qzq (t:Table) (d:Denial) (T:TableOk t) (hs:∀r∈t.Rows,∀v∈r.Values,v.Str.length≤1048576) (hn:t.Rows.length≤7) (hl:d.Atoms.length≤1048576):qet t d=some (vp5 t d):=by
 unfold qet vp5;rw [vcd t d T hl,vzm];by_cases h:qqt t d=0
 ·rw [if_neg (by simp [h]),if_pos h];obtain⟨h1,h2⟩:=qyl h;have H:DT t:=⟨T,h1,hn,hs⟩;obtain⟨⟨hv1,hv2,hv3⟩,hat⟩:=ql5 h2;have hv:d.Vars=((d.Vars.toNat:Nat):Int):=by omega
  have h0:SeenOk d.Vars.toNat (([]:List (Arr3_int64×Bool)),([]:List (List Int))):=⟨by simp,fun z _=>by simp [quy]⟩;have hL:=vj9 H h2 hv (by omega) (by omega) (([]:List (Arr3_int64×Bool)),([]:List (List Int))) h0 (by simp);have hc:¬((((([]:List Row).length:Nat):Int) == d.Vars)=true):=by simp;omega
  simp only [vzm,if_neg hc];rw [hL];simp only [vzm,if_true];rw [vce t d (by omega) hn hv,vzm]
 ·rw [if_pos (by simpa using h),if_neg h]
theorem vwm {t:Table} (h:qs0 t):∀r∈t.Rows,∀v∈r.Values,v.Str.length≤1048576:=fun r hr v hv=>((h.2.2.2 r hr).2.2 v hv).2.2
theorem dt_of {t:Table} (h:qs0 t) (G:qo6 t) (hn:t.Rows.length≤7):DT t:=⟨q9g h,G.err,hn,vwm h⟩
def atT (v a:Int):Term:=⟨v,a,⟨0,0,[]⟩⟩
def q17 (op a:Int):Atom:=⟨atT 1 a,op,atT 2 a⟩
def q7m (s a:Nat):Denial:=⟨2,((qly s).map fun x:Nat=>q17 1 (x:Int))++[q17 2 (a:Int)]⟩
def fdL (s r:Nat):List Denial:=(qly (qwa r s)).map (q7m s)
theorem vgg (op a:Int):qmg op a=some (q17 op a):=rfl
theorem vcf {s n:Nat} (hn:n≤32) (h:s < 2 ^ n):qly s=(vyu n).filter fun i=>s.testBit i:=by
 unfold qly;obtain⟨m,hm⟩:∃m,32=n+m:=⟨32 - n,by omega⟩;rw [hm,List.range_add,v3f];have:(List.map (fun x=>n+x) (vyu m)).filter (fun i=>s.testBit i)=[]:=by
  rw [v3h];intro i hi;obtain⟨j,_,rfl⟩:=v06.1 hi;rw [q0q h (by omega)];simp
 rw [this,vxs]
def fdB (n s r:Nat):Bool:=decide ((s ||| r) < 2 ^ n)
theorem one_of {α:Type} {y x:α} {k:Nat} (h:[y][k]?=some x):x=y:=v09.1 (vyo h)
theorem vcg {n s r:Nat} (hn:n≤16) (hs:s < 4294967296) (hr:r < 4294967296):qj4 (n:Int) [⟨(s:Int),(r:Int)⟩]=some (if fdB n s r=true then 0 else 1):=by
 have hor:=vwe hs hr;have hsh:((vz6 (((s ||| r:Nat):Int)) (2 ^ (min ((n:Int)).toNat 32))) != 0)=!fdB n s r:=by
  rw [v1w,v1h (show n≤32 by omega),qtu];unfold fdB;by_cases h:(s ||| r) < 2 ^ n
  ·rw [v4g h];simp [h]
  ·have h2:=Nat.div_pos (show 2 ^ n≤(s ||| r) by omega) (v4p (n:=n) (show 0 < 2 by omega));simp only [h,decide_false,v2s,bne_iff_ne,ne_eq];omega
 have h:=qfg [(⟨(s:Int),(r:Int)⟩:FD)] (qfn (n:Int) [⟨(s:Int),(r:Int)⟩]) (fun _=>fdB n s r) (1:Int)
  (fun k x hx hk hp=>by
   have hxe:=one_of hx;subst hxe;simp only [qfn,if_pos (qah hx),qaf hx,vzm,q9h hs hr,if_neg (show ¬(n:Int) < 0 by omega),hsh,hp,v2t,vxj,if_false,qcu hk (show [(⟨(s:Int),(r:Int)⟩:FD)].length≤4611686018427387904 by simp)])
  (fun k x hx hp=>by
   have hxe:=one_of hx;subst hxe;simp only [qfn,if_pos (qah hx),qaf hx,vzm,q9h hs hr,if_neg (show ¬(n:Int) < 0 by omega),hsh,hp,v2s,if_true])
  (by simp [qfn])
 unfold qj4;rw [if_neg (by omega),if_neg (by omega),if_neg (by simp),h,vzm];cases hb:fdB n s r <;> simp
theorem vka (l:List Nat) (hl:l.length≤32):qaj (qfo (l.map fun x:Nat=>(x:Int))) ([],0)=some (l.map fun x:Nat=>q17 1 (x:Int)):=by
 have h:=qcl (l.map fun x:Nat=>(x:Int)) (fun (b:List Atom) (i:Int)=>(b,i)) (qfo (l.map fun x:Nat=>(x:Int))) (fun b x=>b++[q17 1 x]) id (fun k b=>b.length=k) (b0:=[]) (s0:=([],0)) rfl rfl
  (fun k b x hx hk hI=>by
   refine⟨?_,by simp [hI]⟩;rw [vye] at hk;simp only [qfo,if_pos (qah hx),qaf hx,vzm,vgg,RLE (b.length+1) 104,if_true,qcu hk (show l.length≤4611686018427387904 by omega)])
  (fun b _=>by simp [qfo])
 have key:∀(l:List Int) (b:List Atom),l.foldl (fun b x=>b++[q17 1 x]) b=b++l.map (q17 1):=by
  intro l
  induction l with
  | nil=>intro b;simp
  | cons x l ih=>intro b;rw [v3l,ih];simp
 rw [h,id,key,vyt,List.map_map];rfl
theorem vgh {n s r:Nat} (hn:n≤16) (hs:s < 4294967296) (hr:r < 4294967296):qj5 (n:Int) ⟨(s:Int),(r:Int)⟩=some (if fdB n s r=true then (fdL s r,0) else ([],1)):=by
 unfold qj5;rw [vcg hn hs hr,vzm];by_cases hb:fdB n s r=true
 ·have hd:=vjp (b:=s) hr;simp only [hb,if_true,bne_self_eq_false,vxj,if_false,vjn hr hs,qyh hd,vzm];have h:=qcl (qly (qwa r s)) (fun (b:List Denial) (i:Int)=>(b,i)) (qhf ⟨(s:Int),(r:Int)⟩ ((qly (qwa r s)).map fun x:Nat=>(x:Int))) (fun b x=>b++[q7m s x]) id (fun k b=>b.length=k) (b0:=[]) (s0:=([],0)) rfl rfl
   (fun k b x hx hk hI=>by
    refine⟨?_,by simp [hI]⟩;have hl:=quf (qwa r s);have hls:=quf s;have hx':((qly (qwa r s)).map fun x:Nat=>(x:Int))[k]?=some (x:Int):=by rw [vx7,hx];rfl
    simp only [qhf,vye,if_pos (show (k:Int) < ((qly (qwa r s)).length:Int) by omega),qaf hx',vzm,qyh hs,vka (qly s) hls,vgg,vye,RLE ((qly s).length+1) 104,RLE (b.length+1) 32,if_true,qcu hk (show (qly (qwa r s)).length≤4611686018427387904 by omega)];rfl)
   (fun b _=>by simp [qhf])
  rw [h,vzm];have key:∀(l:List Nat) (b:List Denial),l.foldl (fun b x=>b++[q7m s x]) b=b++l.map (q7m s):=by
   intro l
   induction l with
   | nil=>intro b;simp
   | cons x l ih=>intro b;rw [v3l,ih];simp
  rw [id,key,vyt];rfl
 ·rw [if_neg hb,if_neg hb];rfl
end Go.Proofs.YtpealiejioeonaaGreatDoor
namespace Go.Ab
open Go
abbrev FnM:=Nat→Nat→Int
def updM (F:FnM) (i j:Nat) (v:Int):FnM:=fun a b=>if a=i∧b=j then v else F a b
end Go.Ab
namespace Go.Proofs.YtpealiejioeonaaGreatDoor
open Go Go.Ab
def putM (F:FnM) (i j:Nat) (w:Int):FnM:=updM F i j (max (F i j) w)
theorem qyp {n s:Nat} (hn:n≤16) (hs:s < 2 ^ n):(qly s).length≤n:=by
 rw [vcf (by omega) hs];have:=v0s (fun i=>s.testBit i) (vyu n);rw [v0u] at this;exact this
theorem q40 {n:Nat} {x:Nat} (hx:x < n) {op:Int} (ho:1≤op∧op≤4):q11 (n:Int) 2 (q17 op (x:Int))=true:=by
 unfold q11 q17 atT qyj;simp only [vxh,decide_eq_true_eq];refine⟨ho,?_,?_⟩
 ·rw [if_neg (by decide)];simp only [vxh,decide_eq_true_eq];exact⟨⟨by omega,by omega,by omega,by omega⟩,by decide⟩
 ·rw [if_neg (by decide)];simp only [vxh,decide_eq_true_eq];exact⟨⟨by omega,by omega,by omega,by omega⟩,by decide⟩
theorem vgi {n s x:Nat} (hs:s < 2 ^ n) (hx:x∈qly s):x < n:=by
 obtain⟨h1,h2⟩:=q9o hx;rcases v4k x n with h' | h'
 ·exact h'
 ·rw [q0q hs h'] at h2;cases h2
theorem vkb {t:Table} (H:DT t) (hn:t.Attrs.length≤16) {s r:Nat} (hs:s < 2 ^ t.Attrs.length) (hr:r < 2 ^ t.Attrs.length):∀d∈fdL s r,qqt t d=0:=by
 intro d hd;obtain⟨x,hx,rfl⟩:=v06.1 hd;have hxr:x < t.Attrs.length:=by
  obtain⟨h1,h2⟩:=q9o hx;rw [quc,vxh] at h2;rcases v4k x t.Attrs.length with h' | h'
  ·exact h'
  ·rw [q0q hr h'] at h2;cases h2.1
 have hb:vca t.Attrs.length (q7m s x)=true:=by
  unfold vca q7m;have:=qyp hn hs;simp only [vxh,decide_eq_true_eq,vyc,vye,v12,List.all_append,List.all_map,v0e,List.all_cons,List.all_nil,Bool.and_true,Function.comp];exact⟨⟨by omega,by omega,by omega⟩,fun y hy=>q40 (vgi hs hy) (by omega),q40 hxr (by omega)⟩
 unfold qqt;rw [if_neg (by simp [H.err]),if_pos hb,if_neg (by rintro⟨h,_⟩;cases h)]
theorem qhx {β σ τ:Type} (n:Nat) (S:β→Int→σ) (B:σ→Option (LS σ τ)) (fin:β→τ) (I:Nat→β→Prop) {b0:β} {s0:σ} (h00:s0=S b0 0) (h0:I 0 b0)
  (hs:∀(k:Nat) b,k < n→I k b→∃b',B (S b (k:Int))=some (.next (S b' ((k+1:Nat):Int)))∧I (k+1) b')
  (he:∀b,I n b→B (S b (n:Int))=some (.done (fin b))):∃b,qaj B s0=some (fin b)∧I n b:=by
 have key:∀(m k:Nat) (b:β),k+m=n→I k b→∃b',qaj B (S b (k:Int))=some (fin b')∧I n b':=by
  intro m
  induction m with
  | zero =>
   intro k b hk hi;have:k=n:=by omega
   subst this;exact⟨b,qam (he b hi),hi⟩
  | succ m ih =>
   intro k b hk hi;obtain⟨b',h1,h2⟩:=hs k b (by omega) hi;obtain⟨b2,h3,h4⟩:=ih (k+1) b' (by omega) h2;exact⟨b2,by rw [qa1 h1];exact h3,h4⟩
 subst h00;exact key n 0 b0 (by omega) h0
theorem vkc (x:Drossref03_Recipe) (h:qha x):qee x 6=some (⟨[],[],[]⟩,false)∨∃t,qee x 6=some (t,true)∧qs0 t∧qo6 t∧t.Rows.length≤6∧t.Attrs.length≤5∧t.Name=[114]:=by
 by_cases hr:x.Rows.length≤6
 ·right;obtain⟨ha,hg,hl⟩:=h;have ha':=q9m ha;have hg':=q9m hg;have h1:¬((x.Rows.length:Int) > 6):=by omega
  have hm:v2h x.Attrs 6=((x.Attrs.toNat % 6:Nat):Int):=by
   rw [v21 ha'.1];omega
  have e1:vz8.wrap (v2h x.Attrs 6)=((x.Attrs.toNat % 6:Nat):Int):=by rw [hm,wrap_i64 (by omega) (by omega)]
  refine⟨q9l x (x.Attrs.toNat % 6),?_,vp2 _ _ (by omega) (by omega),q7h x (by omega),?_,?_,rfl⟩
  ·simp only [qee,if_neg h1,e1,vpw x (x.Attrs.toNat % 6) (by omega) (by omega) (fun r hr=>(hl.2 r hr).1) hg',vzm]
  ·simp only [q9l,vye,v0u];exact hr
  ·simp only [q9l,vyi];omega
 ·left;simp only [qee,if_pos (show (x.Rows.length:Int) > 6 by omega)]
theorem q7n {α β:Type} (p:α→Bool) (f:α→β) (l:List α):∀(b:List β),l.foldl (fun b a=>if p a=true then b++[f a] else b) b=b++(l.filter p).map f:=by
 induction l with
 | nil=>intro b;simp
 | cons a l ih =>
  intro b;rw [v3l,ih,v3g];by_cases h:p a=true
  ·rw [if_pos h,if_pos h];simp
  ·rw [if_neg h,if_neg h]
theorem qmk {β σ τ:Type} (n:Nat) (S:β→Int→σ) (B:σ→Option (LS σ τ)) (I:Nat→β→Prop) (T:τ→Prop) {b0:β} {s0:σ} (m:Nat) (hm:m≤n) (h00:s0=S b0 (m:Int)) (h0:I m b0)
  (hs:∀(k:Nat) b,m≤k→k < n→I k b→(∃b',B (S b (k:Int))=some (.next (S b' ((k+1:Nat):Int)))∧I (k+1) b')∨∃t,B (S b (k:Int))=some (.done t)∧T t)
  (he:∀b,I n b→∃t,B (S b (n:Int))=some (.done t)∧T t):∃o,qaj B s0=some o∧T o:=by
 have key:∀(j k:Nat) (b:β),k+j=n→m≤k→I k b→∃o,qaj B (S b (k:Int))=some o∧T o:=by
  intro j
  induction j with
  | zero =>
   intro k b hk _ hi;have:k=n:=by omega
   subst this;obtain⟨t,ht,h⟩:=he b hi;exact⟨t,qam ht,h⟩
  | succ j ih =>
   intro k b hk hmk hi;rcases hs k b hmk (by omega) hi with⟨b',h1,h2⟩|⟨t,h1,h2⟩
   ·obtain⟨o,h3,h4⟩:=ih (k+1) b' (by omega) (by omega) h2;exact⟨o,by rw [qa1 h1];exact h3,h4⟩
   ·exact⟨t,qam h1,h2⟩
 subst h00;exact key (n - m) m b0 (by omega) (vza _) h0
theorem qs1 (a b:List Int) (ha:a.length≤1000) (hb:b.length≤1000):qa5 [a,b]=some (a++b):=by
 have h1:qaj (qbt [a,b]) (0,0)=some (((a.length+b.length:Nat):Int)):=by
  have w1:vz8.wrap (0+(a.length:Int))=(a.length:Int):=by rw [Int.zero_add];exact wrap_i64 (by omega) (by omega)
  have w2:vz8.wrap ((a.length:Int)+(b.length:Int))=((a.length+b.length:Nat):Int):=by rw [wrap_i64 (by omega) (by omega)];omega
  have s1:qbt [a,b] (0,0)=some (.next ((a.length:Int),1)):=by
   have e:idx [a,b] 0=some a:=rfl;simp only [qbt,e,v0q,vyf,if_pos (show (0:Int) < ((0+1+1:Nat):Int) by decide),vzm,w1,if_neg (show ¬(a.length:Int) < 0 by omega)];rfl
  have s2:qbt [a,b] ((a.length:Int),1)=some (.next (((a.length+b.length:Nat):Int),2)):=by
   have e:idx [a,b] 1=some b:=rfl;simp only [qbt,e,v0q,vyf,if_pos (show (1:Int) < ((0+1+1:Nat):Int) by decide),vzm,w2,if_neg (show ¬((a.length+b.length:Nat):Int) < 0 by omega)];rfl
  rw [qa1 s1,qa1 s2];exact qam (by simp [qbt])
 have h2:qaj (qbu [a,b]) (([]:List Int),0)=some (a++b):=by
  have s1:qbu [a,b] ([],0)=some (.next (a,1)):=by
   have e:idx [a,b] 0=some a:=rfl;simp only [qbu,e,v0q,vyf,if_pos (show (0:Int) < ((0+1+1:Nat):Int) by decide),vzm,qt6 (show 0+a.length≤17592186044416 by omega),if_true,vyt];rfl
  have s2:qbu [a,b] (a,1)=some (.next (a++b,2)):=by
   have e:idx [a,b] 1=some b:=rfl;simp only [qbu,e,v0q,vyf,if_pos (show (1:Int) < ((0+1+1:Nat):Int) by decide),vzm,qt6 (show a.length+b.length≤17592186044416 by omega),if_true];rfl
  rw [qa1 s1,qa1 s2];exact qam (by simp [qbu])
 simp only [qa5,h1,vzm,if_pos (show (0:Int)≤((a.length+b.length:Nat):Int) by omega),if_pos (show ((a.length+b.length:Nat):Int)≤1000000000000 by omega),h2]
def E3 (l:List Int):Prop:=l≠[]∧l.length≤3∧l.Pairwise (· < ·)∧∀x∈l,0 < x
theorem E3.shape {l:List Int} (h:E3 l):(∃a,l=[a]∧0 < a)∨(∃a b,l=[a,b]∧0 < a∧a < b)∨∃a b c,l=[a,b,c]∧0 < a∧a < b∧b < c:=by
 obtain⟨h1,h2,h3,h4⟩:=h
 match l,h1,h2,h3,h4 with
 | [],h1,_,_,_=>exact absurd rfl h1
 | [a],_,_,_,h4=>exact .inl ⟨a,rfl,h4 a (by simp)⟩
 | [a,b],_,_,h3,h4=>exact .inr (.inl ⟨a,b,rfl,h4 a (by simp),(v3x.1 h3).1 b (by simp)⟩)
 | [a,b,c],_,_,h3,h4 =>
  obtain⟨g1,g2⟩:=v3x.1 h3;exact .inr (.inr ⟨a,b,c,rfl,h4 a (by simp),g1 b (by simp),(v3x.1 g2).1 c (by simp)⟩)
 | _ :: _ :: _ :: _ :: _,_,h2,_,_=>simp at h2
theorem vgj {l m:List Int} (hl:E3 l) (hm:E3 m) (h:q7j l=q7j m):l=m:=by
 unfold q7j at h;obtain⟨h0,h1,h2⟩:=Arr3_int64.mk.inj h;rcases hl.shape with⟨a,rfl,a1⟩|⟨a,b,rfl,a1,a2⟩|⟨a,b,c,rfl,a1,a2,a3⟩ <;> rcases hm.shape with⟨x,rfl,x1⟩|⟨x,y,rfl,x1,x2⟩|⟨x,y,z,rfl,x1,x2,x3⟩ <;> simp at h0 h1 h2 <;> first | (subst h0;subst h1;subst h2;rfl) | (subst h0;subst h1;rfl) | (subst h0;rfl) | omega
def vp6 (all:List (List Int)) (c:List (Arr3_int64×Bool)):Prop:=∀m,E3 m→((quy c (q7j m)).getD false=true↔m∈all)
theorem vgk (all:List (List Int)) (hl:all.length≤1000000) (hE:∀e∈all,E3 e):∃seen,qaj (qdw all) ([],0)=some seen∧vp6 all seen:=by
 obtain⟨seen,e1,i⟩:=qhx (β:=List (Arr3_int64×Bool)) all.length (fun b i=>(b,i)) (qdw all) id (fun k b=>vp6 (all.take k) b) (b0:=[]) (s0:=([],0)) rfl (fun m _=>by simp [quy])
  (fun k b hk hI=>by
   have hx:all[k]?=some all[k]:=vx4 hk;have hm:all[k]∈all:=vyo hx;refine⟨qzg b (q7j all[k]) true,?_,fun m hm3=>?_⟩
   ·simp only [qdw,if_pos (qah hx),qaf hx,qeq,vzm,wqn k];rfl
   ·rw [q4m,v4b hk,vym,v09];by_cases h:q7j m=q7j all[k]
    ·rw [if_pos h];simp [vgj hm3 (hE _ hm) h]
    ·rw [if_neg h,hI m hm3];constructor
     ·exact .inl
     ·rintro (h' | rfl)
      ·exact h'
      ·exact absurd rfl h)
  (fun b _=>by simp [qdw])
 rw [v38] at i;exact⟨seen,e1,i⟩
def vwn (all:List (List Int)) (l:List Int):Prop:=∃m∈all,(∀x∈m,x∈l)∧m≠l
theorem sub1 {m:List Int} {a:Int} (hm:E3 m) (h:∀x∈m,x∈[a]):m=[a]:=by
 rcases hm.shape with⟨x,rfl,x1⟩|⟨x,y,rfl,x1,x2⟩|⟨x,y,z,rfl,x1,x2,x3⟩ <;> simp at h <;> first | (subst h;rfl) | omega
theorem sub2 {m:List Int} {a b:Int} (hm:E3 m) (hab:a < b) (h:∀x∈m,x∈[a,b]):m=[a]∨m=[b]∨m=[a,b]:=by
 rcases hm.shape with⟨x,rfl,x1⟩|⟨x,y,rfl,x1,x2⟩|⟨x,y,z,rfl,x1,x2,x3⟩ <;> simp at h
 ·rcases h with rfl | rfl <;> simp
 ·obtain⟨h1,h2⟩:=h;have e1:x=a:=by omega
  have e2:y=b:=by omega
  subst e1;subst e2;simp
 ·omega
theorem sub3 {m:List Int} {a b c:Int} (hm:E3 m) (hab:a < b) (hbc:b < c) (h:∀x∈m,x∈[a,b,c]):m=[a]∨m=[b,c]∨m=[b]∨m=[a,c]∨m=[c]∨m=[a,b]∨m=[a,b,c]:=by
 rcases hm.shape with⟨x,rfl,x1⟩|⟨x,y,rfl,x1,x2⟩|⟨x,y,z,rfl,x1,x2,x3⟩ <;> simp at h
 ·rcases h with rfl | rfl | rfl <;> simp
 ·obtain⟨h1,h2⟩:=h;rcases h1 with rfl | rfl | rfl <;> rcases h2 with rfl | rfl | rfl <;> first | omega | simp
 ·obtain⟨h1,h2,h3⟩:=h;have e1:x=a:=by omega
  have e2:y=b:=by omega
  have e3:z=c:=by omega
  subst e1;subst e2;subst e3;simp
theorem vwo {a:Int} (h:0 < a):E3 [a]:=⟨by simp,by simp,by simp,by simpa using h⟩
theorem e3_2 {a b:Int} (h:0 < a) (h2:a < b):E3 [a,b]:=⟨by simp,by simp,by simpa using h2,by simp;omega⟩
def qk9 (c:List (Arr3_int64×Bool)) (m:List Int):Bool:=(quy c (q7j m)).getD false
theorem vch (c:List (Arr3_int64×Bool)) (a:Int):qbz [a] c=some false:=by
 have s0:qaq [a] c 0=some (.next 1):=rfl;unfold qbz;rw [qa1 s0,qam (show qaq [a] c 1=some (.done (.inl ())) from rfl)];rfl
theorem vci (c:List (Arr3_int64×Bool)) (a b:Int):qbz [a,b] c=some (qk9 c [a] || qk9 c [b]):=by
 have s0:qaq [a,b] c 0=if qk9 c [a]=true then some (.done (.inr true)) else some (.next 1):=rfl
 have s1:qaq [a,b] c 1=if qk9 c [b]=true then some (.done (.inr true)) else some (.next 2):=rfl
 have s2:qaq [a,b] c 2=some (.done (.inl ())):=rfl;unfold qbz;cases h0:qk9 c [a] with
 | true=>rw [qam (s0.trans (if_pos h0))];rfl
 | false =>
  rw [qa1 (s0.trans (if_neg (by rw [h0];simp)))];cases h1:qk9 c [b] with
  | true=>rw [qam (s1.trans (if_pos h1))];rfl
  | false=>rw [qa1 (s1.trans (if_neg (by rw [h1];simp))),qam s2];rfl
theorem vcj (c:List (Arr3_int64×Bool)) (x y z:Int):qbz [x,y,z] c=some ((qk9 c [x] || qk9 c [y,z]) || ((qk9 c [y] || qk9 c [x,z]) || (qk9 c [z] || qk9 c [x,y]))):=by
 have c0:qa5 [[],[y,z]]=some [y,z]:=qs1 [] [y,z] (by simp) (by simp);have c1:qa5 [[x],[z]]=some [x,z]:=qs1 [x] [z] (by simp) (by simp);have c2:qa5 [[x,y],[]]=some [x,y]:=qs1 [x,y] [] (by simp) (by simp);have s0:qaq [x,y,z] c 0=if qk9 c [x]=true then some (.done (.inr true)) else (qa5 [[],[y,z]]).bind fun r=>if qk9 c r=true then some (.done (.inr true)) else some (.next 1):=rfl
 have s1:qaq [x,y,z] c 1=if qk9 c [y]=true then some (.done (.inr true)) else (qa5 [[x],[z]]).bind fun r=>if qk9 c r=true then some (.done (.inr true)) else some (.next 2):=rfl
 have s2:qaq [x,y,z] c 2=if qk9 c [z]=true then some (.done (.inr true)) else (qa5 [[x,y],[]]).bind fun r=>if qk9 c r=true then some (.done (.inr true)) else some (.next 3):=rfl
 have s3:qaq [x,y,z] c 3=some (.done (.inl ())):=rfl;rw [c0,vzm] at s0;rw [c1,vzm] at s1;rw [c2,vzm] at s2;have key:∀(k n:Int) (p q:Bool),(qaq [x,y,z] c k=if p=true then some (.done (.inr true)) else if q=true then some (.done (.inr true)) else some (.next n)) →
   ((p || q)=true→qaj (qaq [x,y,z] c) k=some (.inr true))∧((p || q)=false→qaj (qaq [x,y,z] c) k=qaj (qaq [x,y,z] c) n):=fun k n p q h=>by
  cases p <;> cases q <;> simp at h <;> simp
  ·exact qa1 h
  ·exact qam h
  ·exact qam h
  ·exact qam h
 obtain⟨k0,k0'⟩:=key _ _ _ _ s0;obtain⟨k1,k1'⟩:=key _ _ _ _ s1;obtain⟨k2,k2'⟩:=key _ _ _ _ s2;unfold qbz;cases h0:(qk9 c [x] || qk9 c [y,z]) with
 | true=>rw [k0 h0];rfl
 | false =>
  rw [k0' h0];cases h1:(qk9 c [y] || qk9 c [x,z]) with
  | true=>rw [k1 h1];rfl
  | false =>
   rw [k1' h1];cases h2:(qk9 c [z] || qk9 c [x,y]) with
   | true=>rw [k2 h2];rfl
   | false=>rw [k2' h2,qam s3];rfl
theorem q7o {all:List (List Int)} {c:List (Arr3_int64×Bool)} (hc:vp6 all c) (hE:∀e∈all,E3 e) {l:List Int} (hl:E3 l):∃b,qbz l c=some b∧(b=true↔vwn all l):=by
 have hs:∀m,E3 m→(qk9 c m=true↔m∈all):=hc;rcases hl.shape with⟨a,rfl,a1⟩|⟨a,b,rfl,a1,a2⟩|⟨x,y,z,rfl,a1,a2,a3⟩
 ·refine⟨_,vch c a,by simp,?_⟩;rintro⟨m,m1,m2,m3⟩;exact absurd (sub1 (hE m m1) m2) m3
 ·refine⟨_,vci c a b,?_⟩;rw [vxm,hs _ (vwo a1),hs _ (vwo (by omega))];constructor
  ·rintro (h | h)
   ·exact⟨_,h,by simp,by simp⟩
   ·exact⟨_,h,by simp,by simp⟩
  ·rintro⟨m,m1,m2,m3⟩;rcases sub2 (hE m m1) a2 m2 with rfl | rfl | rfl
   ·exact .inl m1
   ·exact .inr m1
   ·exact absurd rfl m3
 ·refine⟨_,vcj c x y z,?_⟩;simp only [vxm];rw [hs _ (vwo a1),hs _ (vwo (show 0 < y by omega)),hs _ (vwo (show 0 < z by omega)),hs _ (e3_2 a1 a2),hs _ (e3_2 a1 (show x < z by omega)),hs _ (e3_2 (show 0 < y by omega) a3)];constructor
  ·rintro ((h | h) | (h | h) | h | h) <;> exact⟨_,h,by simp,by simp⟩
  ·rintro⟨m,m1,m2,m3⟩;rcases sub3 (hE m m1) a2 a3 m2 with rfl | rfl | rfl | rfl | rfl | rfl | rfl
   ·exact .inl (.inl m1)
   ·exact .inl (.inr m1)
   ·exact .inr (.inl (.inl m1))
   ·exact .inr (.inl (.inr m1))
   ·exact .inr (.inr (.inl m1))
   ·exact .inr (.inr (.inr m1))
   ·exact absurd rfl m3
theorem vkd (l:List (List Int)) (hl:l.length≤1000000) (hs:∀a∈l,a.length≤1000000):∃s,qzi (fun (a:List Int) (b:List Int)=>qae a b) l=some s∧s.Perm l∧s.Pairwise fun a b=>ltL b a=false:=by
 have hc:∀x∈l,∀y∈l,(qae x y).getD 0=q4w x y:=fun x hx y hy=>by rw [qky x y (hs x hx) (hs y hy)];rfl
 have hok:qzh (fun x y=>(qae x y).getD 0) l:=by
  refine⟨fun x hx=>?_,fun x hx y hy z hz h1 h2=>?_,fun x hx y hy z hz h1 h2=>?_⟩
  ·show ¬(qae x x).getD 0 < 0;rw [hc x hx x hx,qgf,qvj];simp
  ·replace h1:(qae x y).getD 0 < 0:=h1;replace h2:(qae y z).getD 0 < 0:=h2;show (qae x z).getD 0 < 0;rw [hc _ hx _ hy,qgf] at h1;rw [hc _ hy _ hz,qgf] at h2;rw [hc _ hx _ hz,qgf];exact qug x y z h1 h2
  ·replace h1:¬(qae x y).getD 0 < 0:=h1;replace h2:¬(qae y z).getD 0 < 0:=h2;show ¬(qae x z).getD 0 < 0;rw [hc _ hx _ hy,qgf] at h1;rw [hc _ hy _ hz,qgf] at h2;rw [hc _ hx _ hz,qgf];have h1':ltL x y=false:=by simpa using h1
   have h2':ltL y z=false:=by simpa using h2
   rw [q13 x y z h1' h2'];simp
 have hp:=qtr hok;refine⟨srt (fun x y=>(qae x y).getD 0) l,?_,hp,?_⟩
 ·unfold qzi;rw [if_pos ⟨fun x hx y hy=>by show (qae x y).isSome=true;rw [qky x y (hs x hx) (hs y hy)];rfl,hok,by omega⟩]
 ·refine v3a.imp_of_mem ?_ (q0d hok);intro a b ha hb g1;replace g1:¬(qae b a).getD 0 < 0:=g1;rw [hc _ (hp.mem_iff.1 hb) _ (hp.mem_iff.1 ha),qgf] at g1;simpa using g1
theorem vgl {l:List (List Int)} (h:l.Pairwise fun a b=>ltL b a=false) {j:Nat} {x y:List Int} (hx:l[j+1]?=some x) (hy:l[j]?=some y) (hne:x≠y) {z:List Int} (hz:z∈l.take (j+1)):ltL z x=true:=by
 obtain⟨i,hi,e⟩:=v3s.1 hz;rw [vyi] at hi;rw [v3q] at e;obtain⟨hx1,hx2⟩:=vx6.1 hx;obtain⟨hy1,hy2⟩:=vx6.1 hy;have g:ltL y z=false:=by
  by_cases hij:i=j
  ·subst hij;rw [←e,hy2];exact qvj y
  ·have:=v3y.1 h i j (by omega) hy1 (by omega);rw [e,hy2] at this;exact this
 have g2:ltL x y=false:=by
  have:=v3y.1 h j (j+1) hy1 hx1 (by omega);rw [hx2,hy2] at this;exact this
 have g3:ltL y x=true:=by
  cases q:ltL y x with
  | true=>rfl
  | false=>exact absurd (qqs x y g2 q) hne
 cases q:ltL z x with
 | true=>rfl
 | false =>
  have:=q13 y z x g q;rw [this] at g3;cases g3
theorem vp7 {l:List (List Int)} (hl:l.length≤1000000) (hs:∀a∈l,a.length≤1000) (hp:l.Pairwise fun a b=>ltL b a=false) {m:Nat} (hm:1≤m) (hml:m < l.length) (hasc:q0s (l.take m)) (heq:l[m]=l[m - 1]) :
  ∃s k,qaj (qcy l (m:Int)) (l,(m:Int),1)=some (s,((k:Nat):Int))∧s.length=l.length∧k≤l.length∧q0s (s.take k)∧∀e,e∈s.take k↔e∈l:=by
 obtain⟨o,ho,h1⟩:=qmk (β:=List (List Int)×Nat) (l.length - m) (fun b i=>(b.1,(b.2:Int),i)) (qcy l (m:Int))
  (fun k b=>b.1.length=l.length∧b.2 < m+k∧(∀j,m+k≤j+1→b.1[j]?=l[j]?)∧q0s (b.1.take b.2)∧∀e,e∈b.1.take b.2↔e∈l.take (m+k))
  (fun o=>∃s k,o=(s,((k:Nat):Int))∧s.length=l.length∧k≤l.length∧q0s (s.take k)∧∀e,e∈s.take k↔e∈l) (b0:=(l,m)) (s0:=(l,(m:Int),1)) 1 (by omega) rfl
  ⟨rfl,by simp,fun _ _=>rfl,hasc,fun e=>by
   simp only;rw [v4b hml,vym,v09];constructor
   ·exact .inl
   ·rintro (h | h)
    ·exact h
    ·rw [h,heq];have:m - 1 < (l.take m).length:=by rw [vyi];omega
     have e2:(l.take m)[m - 1]=l[m - 1]:=v3q;rw [←e2];exact v3p this⟩
  (fun k b hk1 hk hI=>by
   obtain⟨i1,i2,i3,i4,i5⟩:=hI;have hw:vz8.wrap ((k:Int)+1)=((k+1:Nat):Int):=qg9 (by omega);have hw1:vz8.wrap ((k:Int) - 1)=((k - 1:Nat):Int):=by rw [wrap_i64 (by omega) (by omega)];omega
   have hwb:vz8.wrap ((b.2:Int)+1)=((b.2+1:Nat):Int):=qg9 (by omega);have g:∀j,k≤j+1→j < l.length - m→((b.1.drop m).take (l.length - m))[j]?=l[m+j]?:=fun j hj0 hj=>by
    rw [vya,if_pos hj,vx3];exact i3 _ (by omega)
   have x0:l[m+k]?=some l[m+k]:=vx4 (by omega);have y0:l[m+k - 1]?=some l[m+k - 1]:=vx4 (by omega);have x1:=(g k (by omega) hk).trans x0;have y1:((b.1.drop m).take (l.length - m))[k - 1]?=some l[m+k - 1]:=by rw [g (k - 1) (by omega) (by omega),show m+(k - 1)=m+k - 1 by omega];exact y0
   have hz:b.1[b.2]?=some b.1[b.2]:=vx4 (by omega);have hE:=qse l[m+k] l[m+k - 1] (by have:=hs _ (vyo x0);omega);have htk:l.take (m+(k+1))=l.take (m+k)++[l[m+k]]:=by rw [←vy3];exact v4b (by omega)
   left;by_cases he:l[m+k]=l[m+k - 1]
   ·refine⟨b,?_,i1,by omega,fun j hj=>i3 j (by omega),i4,fun e=>?_⟩
    ·simp only [qcy,v1w,if_pos (show (k:Int) < (((l.length - m):Nat):Int) by omega),qaf x1,vzm,hw1,qaf y1,hE,decide_eq_true he,if_true,hw]
    ·rw [i5 e,htk,vym,v09];constructor
     ·exact .inl
     ·rintro (h | h)
      ·exact h
      ·rw [h,he];have:m+k - 1 < (l.take (m+k)).length:=by rw [vyi];omega
       have e2:(l.take (m+k))[m+k - 1]=l[m+k - 1]:=v3q;rw [←e2];exact v3p this
   ·have hlen:b.2 < (b.1.set b.2 l[m+k]).length:=by rw [vyh];omega
    have qod:(b.1.set b.2 l[m+k]).take (b.2+1)=b.1.take b.2++[l[m+k]]:=by
     rw [v4b hlen,v4a (vza _),List.getElem_set_self]
    refine⟨(b.1.set b.2 l[m+k],b.2+1),?_,by simp [i1],by simp only;omega,fun j hj=>?_,?_,fun e=>?_⟩
    ·simp only [qcy,v1w,if_pos (show (k:Int) < (((l.length - m):Nat):Int) by omega),qaf x1,vzm,hw1,qaf y1,hE,decide_eq_false he,vxj,if_false,qaf hz,hw,hwb]
    ·simp only;rw [v0o (by omega)];exact i3 j (by omega)
    ·simp only [qod];refine v3w.2 ⟨i4,v31 _ _,fun z hz' x hx'=>?_⟩;rw [v09.1 hx'];refine vgl hp (j:=m+k - 1) (by rw [show m+k - 1+1=m+k by omega];exact x0) y0 he ?_;rw [show m+k - 1+1=m+k by omega];exact (i5 z).1 hz'
    ·simp only [qod];rw [htk,vym,vym,i5 e])
  (fun b hI=>by
   obtain⟨i1,i2,i3,i4,i5⟩:=hI;refine⟨_,?_,b.1,b.2,rfl,i1,by omega,i4,fun e=>?_⟩
   ·simp only [qcy,v1w];rw [if_neg (by omega)]
   ·rw [i5 e,show m+(l.length - m)=l.length by omega,v38])
 obtain⟨s,k,rfl,h2⟩:=h1;exact⟨s,k,ho,h2⟩
theorem vp8 {l:List (List Int)} (h2:2≤l.length) (hl:l.length≤1000000) (hs:∀a∈l,a.length≤1000) (hp:l.Pairwise fun a b=>ltL b a=false) :
  ∃o,qaj (qdx l) 1=some o∧((o=.inl ()∧q0s l)∨∃z,o=.inr z∧q0s z∧z.length≤l.length∧∀e,e∈z↔e∈l):=by
 refine qmk (β:=Unit) l.length (fun _ i=>i) (qdx l) (fun k _=>q0s (l.take k)) (fun o=>(o=.inl ()∧q0s l)∨∃z,o=.inr z∧q0s z∧z.length≤l.length∧∀e,e∈z↔e∈l) (b0:=()) 1 (by omega) rfl ?_ (fun k _ hk1 hk hI=>?_) (fun _ hI=>⟨.inl (),by simp only [qdx];rw [if_neg (by omega)],.inl ⟨rfl,by rw [v38] at hI;exact hI⟩⟩)
 ·match l,h2 with
  | x :: r,_=>simp [q0s]
 have hw:vz8.wrap ((k:Int)+1)=((k+1:Nat):Int):=qg9 (by omega);have hw1:vz8.wrap ((k:Int) - 1)=((k - 1:Nat):Int):=by rw [wrap_i64 (by omega) (by omega)];omega
 have x1:l[k]?=some l[k]:=vx4 hk;have y1:l[k - 1]?=some l[k - 1]:=vx4 (by omega);have hE:=qse l[k] l[k - 1] (by have:=hs _ (vyo x1);omega);simp only [qdx,if_pos (show (k:Int) < ((l.length:Nat):Int) by omega),qaf x1,vzm,hw1,qaf y1,hE,hw,if_pos (show (0:Int)≤(k:Int) by omega),if_pos (show (k:Int)≤((l.length:Nat):Int) by omega)];by_cases he:l[k]=l[k - 1]
 ·right;obtain⟨s,j,e1,e2,e3,e4,e5⟩:=vp7 hl hs hp hk1 hk hI he;rw [if_pos (decide_eq_true he),e1];simp only [vzm,if_pos (show (0:Int)≤(j:Int) by omega),if_pos (show (j:Int)≤((s.length:Nat):Int) by omega),v1w];have hlen:(s.take j).length=j:=by rw [vyi];omega
  rw [if_pos (by simp only [vyi,vyg,vyd];omega),if_pos (by simp only [vyc,vyi];omega)];refine⟨_,rfl,.inr ⟨_,rfl,?_⟩⟩;rw [vxr,v37 (by omega),vy0 (by omega)];exact⟨e4,by omega,e5⟩
 ·left;rw [if_neg (by simpa using he)];refine⟨(),rfl,?_⟩;rw [v4b hk];refine v3w.2 ⟨hI,v31 _ _,fun z hz' x hx'=>?_⟩;rw [v09.1 hx'];exact vgl hp (j:=k - 1) (by rw [show k - 1+1=k by omega];exact x1) y1 he (by rw [show k - 1+1=k by omega];exact hz')
theorem vck (all:List (List Int)) (hl:all.length≤1000000) (hE:∀e∈all,E3 e) :
  ∃out,qfq all=some out∧q0s out∧out.length≤all.length∧∀e,e∈out↔e∈all∧¬vwn all e:=by
 obtain⟨seen,e1,hc⟩:=vgk all hl hE;obtain⟨out,e2,i1,i2⟩:=qhx (β:=List (List Int)) all.length (fun b i=>(b,i)) (qe6 all seen) id (fun k b=>(∀e,e∈b↔e∈all.take k∧¬vwn all e)∧b.length≤k) (b0:=[]) (s0:=([],0)) rfl ⟨by simp,by simp⟩
  (fun k b hk hI=>by
   obtain⟨i1,i2⟩:=hI;have hx:all[k]?=some all[k]:=vx4 hk;have hm:all[k]∈all:=vyo hx;have hlen:=(hE _ hm).2.1;obtain⟨m1,hm1,hm2⟩:=q7o hc hE (hE _ hm);have hw:vz8.wrap ((k:Int)+1)=((k+1:Nat):Int):=qg9 (by omega);have hsn:(quy seen (Arr3_int64.mk (all[k].getD 0 0) (all[k].getD 1 0) (all[k].getD 2 0))).getD false=true:=(hc _ (hE _ hm)).2 hm;simp only [qe6,if_pos (qah hx),qaf hx,qeq,vzm,hm1,hw,qzo all[k] (by omega),RLE (b.length+1) 24,if_true];rw [if_pos hsn,vzm,v4b hk];cases m1 with
   | true =>
    refine⟨b,rfl,fun e=>?_,by omega⟩;rw [i1 e,vym,v09];constructor
    ·exact fun h=>⟨.inl h.1,h.2⟩
    ·rintro⟨h | h,h'⟩
     ·exact⟨h,h'⟩
     ·rw [h] at h';exact absurd (hm2.1 rfl) h'
   | false =>
    refine⟨_,rfl,fun e=>?_,by simp;omega⟩;rw [vym,vym,v09,i1 e];have hns:¬vwn all all[k]:=fun h=>by have:=hm2.2 h;cases this
    constructor
    ·rintro (h | h)
     ·exact⟨.inl h.1,h.2⟩
     ·rw [h];exact⟨.inr rfl,hns⟩
    ·rintro⟨h | h,h'⟩
     ·exact .inl ⟨h,h'⟩
     ·exact .inr h)
  (fun b _=>by simp [qe6])
 rw [v38] at i1;obtain⟨s,e3,hp,hs⟩:=vkd out (by omega) (fun a ha=>by have:=(hE a ((i1 a).1 ha).1).2.1;omega);have hlen:s.length=out.length:=hp.length_eq;have hmem:∀e,e∈s↔e∈all∧¬vwn all e:=fun e=>by rw [hp.mem_iff,i1 e]
 have hfin:∃z,qfq all=some z∧q0s z∧z.length≤s.length∧∀e,e∈z↔e∈s:=by
  unfold qfq;rw [e1,vzm,e2,vzm,id,e3,vzm];by_cases h2:((s.length:Nat):Int) < 2
  ·rw [if_pos h2];refine⟨s,rfl,?_,vza _,fun e=>Iff.rfl⟩
   match s,h2 with
   | [],_=>exact v3a.nil
   | [a],_=>exact v31 _ _
   | a :: b :: r,h2=>simp only [v0q] at h2;omega
  ·rw [if_neg h2];obtain⟨o,e4,e5⟩:=vp8 (l:=s) (by omega) (by omega) (fun a ha=>by have:=(hE a ((hmem a).1 ha).1).2.1;omega) hs;rw [e4,vzm];rcases e5 with⟨rfl,h⟩|⟨z,rfl,h1,h0,h3⟩
   ·exact⟨s,rfl,h,vza _,fun e=>Iff.rfl⟩
   ·exact⟨z,rfl,h1,h0,h3⟩
 obtain⟨z,z1,z2,z0,z3⟩:=hfin;exact⟨z,z1,z2,by omega,fun e=>by rw [z3 e,hmem e]⟩
def vke (t:Table) (L:List (List Int)):Prop:=∀e∈L,(∀x∈e,∃r∈t.Rows,r.ID=x)∧e.length≤3
theorem vke.append {t:Table} {L M:List (List Int)} (h1:vke t L) (h2:vke t M):vke t (L++M):=fun e he=>(vym.1 he).elim (h1 e) (h2 e)
theorem vwp {n a:Nat} (hn:n≤32) (ha:a < 2 ^ n):vz6 (a:Int) (2 ^ (min ((n:Int)).toNat 32))=0:=by
 rw [v1w,v1h hn];have e:((2:Int) ^ n)=((2 ^ n:Nat):Int):=by simp
 rw [e,Int.fdiv_eq_ediv_of_nonneg _ (Int.natCast_nonneg _),←Int.natCast_ediv,v4g ha];rfl
def Tog (rows a:List Row):Prop:=(∀r∈a,r∈rows)∧a≠[]∧a.length≤3∧a.Pairwise fun x y=>x.ID≠y.ID
def LocV (rows:List Row) (L:List (List Int)) (p:List Row→Prop):Prop:=∀e,e∈L↔∃a,Tog rows a∧p a∧e=qn8 a
theorem LocV.nil {rows:List Row} {L:List (List Int)} {p:List Row→Prop} (h:LocV rows L p):L=[]↔∀a,Tog rows a→¬p a:=by
 constructor
 ·intro e a ha hp;have:=(h (qn8 a)).2 ⟨a,ha,hp,rfl⟩;rw [e] at this;cases this
 ·intro hn;cases L with
  | nil=>rfl
  | cons e r =>
   obtain⟨a,ha,hp,_⟩:=(h e).1 (by simp);exact absurd hp (hn a ha)
def denP (ds:List Denial) (a:List Row):Prop:=∃d∈ds,a.length=d.Vars.toNat∧d.Atoms.all (q5q a)=true
theorem vkf {t:Table} {d:Denial} (hb:vca t.Attrs.length d=true) (e:List Int):e∈qqu t d↔∃a,Tog t.Rows a∧denP [d] a∧e=qn8 a:=by
 obtain⟨⟨v1,v2,_⟩,_⟩:=ql5 hb;unfold qqu;rw [v06];constructor
 ·rintro⟨a,ha,rfl⟩;obtain⟨h1,h2⟩:=v05.1 ha;obtain⟨g1,g2,g3⟩:=q14 h1;refine⟨a,⟨g2,?_,by omega,g3⟩,⟨d,by simp,g1,h2⟩,rfl⟩;intro e;rw [e] at g1;simp at g1;omega
 ·rintro⟨a,⟨g2,_,_,g3⟩,⟨d',hd,g1,h2⟩,rfl⟩;obtain rfl:=v09.1 hd;exact⟨a,v05.2 ⟨vgd g1 g2 g3,h2⟩,rfl⟩
theorem vgm {t:Table} (H:DT t) {d:Denial} (he:qqt t d=0) (hl:d.Atoms.length≤1048576):qet t d=some (vcx (qqu t d),0):=by
 rw [qzq t d H.ok H.str H.few hl];unfold vp5;rw [if_pos he]
theorem vgn {t:Table} (H:DT t) (ds:List Denial) (h:∀d∈ds,qqt t d=0∧d.Atoms.length≤1048576) (hl:ds.length≤5) :
  ∃L,qaj (qco t (ds,0)) ([],0)=some (.inl L)∧L.length≤2000∧LocV t.Rows L (denP ds):=by
 obtain⟨L,e1,e2,e3⟩:=qhx (β:=List (List Int)) ds.length (fun b i=>(b,i)) (qco t (ds,0)) (fun b=>(Sum.inl b:(List (List Int)) ⊕ (List (List Int)×Int))) (fun k b=>LocV t.Rows b (denP (ds.take k))∧b.length≤k * 343) (b0:=[]) (s0:=([],0)) rfl
  ⟨fun e=>by simp [denP],by simp⟩
  (fun k b hk hI=>by
   obtain⟨i1,i2⟩:=hI;have hx:ds[k]?=some ds[k]:=vx4 hk;obtain⟨h1,h2⟩:=h _ (v3p hk);obtain⟨_,hB⟩:=qyl h1;have v1:=vgm H h1 h2;have v3:(vcx (qqu t ds[k])).length≤343:=vzc (vj2 _) (vge H.few (ql5 hB).1.2.1);refine⟨b++vcx (qqu t ds[k]),?_,fun e=>?_,by rw [vyc,v4r];omega⟩
   ·simp only [qco,if_pos (qah hx),qaf hx,vzm,v1,bne_self_eq_false,vxj,if_false,RLE (b.length+(vcx (qqu t ds[k])).length) 24,if_true,wqn k]
   ·rw [vym,q9s,vkf hB,i1 e,v4b hk];constructor
    ·rintro (⟨a,a1,⟨d,d1,d2⟩,a3⟩|⟨a,a1,⟨d,d1,d2⟩,a3⟩)
     ·exact⟨a,a1,⟨d,vym.2 (.inl d1),d2⟩,a3⟩
     ·exact⟨a,a1,⟨d,vym.2 (.inr d1),d2⟩,a3⟩
    ·rintro⟨a,a1,⟨d,d1,d2⟩,a3⟩;rcases vym.1 d1 with d1 | d1
     ·exact .inl ⟨a,a1,⟨d,d1,d2⟩,a3⟩
     ·exact .inr ⟨a,a1,⟨d,d1,d2⟩,a3⟩)
  (fun b _=>by simp [qco])
 rw [v38] at e2;exact⟨L,e1,by omega,e2⟩
theorem qs2 {α:Type} (l:List α) (j:Nat) (h:j < l.length):l.take (j+1)=l.take j++[l[j]]:=by
 induction l generalizing j with
 | nil=>simp at h
 | cons x r ih =>
  cases j with
  | zero=>simp
  | succ j =>
   simp only [v0q] at h;simp only [List.take_succ_cons,v0h,List.getElem_cons_succ];rw [ih j (by omega)]
theorem qvl {α:Type} (l:List α) (p:α→Bool) (B:List α×Int×Int→Option (LS (List α×Int×Int) (List α×Int)))
  (hB:∀(s:List α) (i j:Nat) x,s.length=l.length→s[j]?=some x→l[j]?=some x→i≤j→j < l.length→B (s,(i:Int),(j:Int))=some (.next (if p x=true then (s.set i x,((i+1:Nat):Int),((j+1:Nat):Int)) else (s,(i:Int),((j+1:Nat):Int)))))
  (hE:∀(s:List α) (i:Nat),s.length=l.length→B (s,(i:Int),(l.length:Int))=some (.done (s,(i:Int)))) :
  ∀(r j:Nat) (s:List α) (i:Nat),j+r=l.length→s.length=l.length→i≤j→s.take i=(l.take j).filter p→(∀m,j≤m→s[m]?=l[m]?) →
   ∃(s':List α) (i':Nat),qaj B (s,(i:Int),(j:Int))=some (s',(i':Int))∧s'.length=l.length∧i'≤l.length∧s'.take i'=l.filter p
 | 0,j,s,i,hj,hs,hij,ht,hm=>by
  have e:j=l.length:=by omega
  subst e;refine⟨s,i,qam (hE s i hs),hs,hij,?_⟩;rw [ht,v38]
 | r+1,j,s,i,hj,hs,hij,ht,hm=>by
  have hjl:j < l.length:=by omega
  have hx:l[j]?=some l[j]:=vx4 hjl;have hsx:s[j]?=some l[j]:=by rw [hm j (vza _),hx]
  have htake:l.take (j+1)=l.take j++[l[j]]:=qs2 l j hjl;have hstep:=hB s i j l[j] hs hsx hx hij hjl;cases hp:p l[j] with
  | true =>
   rw [if_pos hp] at hstep;have hil:i < s.length:=by omega
   obtain⟨s',i',h1,h2,h3,h4⟩:=qvl l p B hB hE r (j+1) (s.set i l[j]) (i+1) (by omega) (by rw [vyh];exact hs) (by omega) (by
    rw [htake,v3f,←ht,v3g,if_pos hp,v3i];have hg:(s.set i l[j])[i]?=some l[j]:=by rw [List.getElem?_set_self hil]
    have hl2:i < (s.set i l[j]).length:=by rw [vyh];exact hil
    rw [qs2 _ i hl2,v4a (vza i)];congr 2;have:=vx4 hl2;rw [hg] at this;exact (v1p this).symm) (fun m hmj=>by rw [v0o (by omega)];exact hm m (by omega))
   exact⟨s',i',by rw [qa1 hstep];exact h1,h2,h3,h4⟩
  | false =>
   rw [if_neg (by rw [hp];simp)] at hstep;obtain⟨s',i',h1,h2,h3,h4⟩:=qvl l p B hB hE r (j+1) s i (by omega) hs (by omega) (by
    rw [htake,v3f,←ht,v3g,if_neg (by rw [hp];simp),v3i,vxs]) (fun m hmj=>hm m (by omega))
   exact⟨s',i',by rw [qa1 hstep];exact h1,h2,h3,h4⟩
theorem qzr {α:Type} (p:α→Bool) (l:List α) (i:Nat) (h:l.findIdx? (fun x=>!p x)=some i):i < l.length∧(l.take (i+1)).filter p=l.take i:=by
 rw [v3k] at h;obtain⟨hi,h1,h2⟩:=h;refine⟨hi,?_⟩;rw [qs2 l i hi,v3f,v3g,if_neg (by simpa using h1),v3i,vxs];rw [List.filter_eq_self];intro x hx;obtain⟨j,hj,rfl⟩:=v3s.1 hx;rw [vyi] at hj;rw [v3q];have:=h2 j (by omega);simpa using this
theorem vcl {α:Type} (s':List α) (k' n:Nat) (z:α) (h:s'.length=n) (hk:k'≤n):(((s'.take k'++vyw (s'.length - k') z)++s'.drop (k'+(s'.length - k'))).take k')=s'.take k'∧((s'.take k'++vyw (s'.length - k') z)++s'.drop (k'+(s'.length - k'))).length=n:=by
 constructor
 ·rw [vxr,v37 (by rw [vyi];omega),List.take_take,Nat.min_self]
 ·simp only [vyc,vyi,vyg,vyd];omega
theorem q9v (a:List Row) (y:Int):y∈qn8 a↔∃r∈a,r.ID=y:=by
 unfold qn8;rw [(qmd _).mem_iff,v06]
theorem quh:∀(n:Nat) (a:Int) (l:List Row),(∀r∈l,r.Values.length=n∧r.Values.all qrs=true∧a < r.ID)→l.Pairwise (fun x y=>x.ID < y.ID)→qd2 n a l=0
 | n,a,[],_,_=>rfl
 | n,a,x :: l,h,hp=>by
  rw [v3x] at hp;obtain⟨g1,g2,g3⟩:=h x (by simp);rw [qd2,if_neg (by omega),if_neg (by simp [g1]),if_pos g2];exact quh n x.ID l (fun r hr=>⟨(h r (by simp [hr])).1,(h r (by simp [hr])).2.1,hp.1 r hr⟩) hp.2
theorem vkg {t:Table} (h:qd3 t=0) (rows':List Row) (hl:rows'.length≤t.Rows.length) (hc:qd2 t.Attrs.length 0 rows'=0):qd3 ⟨t.Name,t.Attrs,rows'⟩=0:=by
 unfold qd3 at h ⊢;by_cases h1:qt9 t.Name=false
 ·simp [h1] at h
 by_cases h2:t.Attrs.length > 16
 ·rw [if_neg h1,if_pos h2] at h;cases h
 by_cases h3:t.Rows.length > 1000
 ·rw [if_neg h1,if_neg h2,if_pos h3] at h;cases h
 by_cases h4:qvy t.Attrs=false
 ·rw [if_neg h1,if_neg h2,if_neg h3,if_pos h4] at h;cases h
 simp only;rw [if_neg h1,if_neg h2,if_neg (by omega),if_neg h4];exact hc
def q7p (t:Table) (l:List Int):Table:=⟨t.Name,t.Attrs,t.Rows.filter fun r=>decide (r.ID∈l)⟩
theorem qyq (t:Table) (l:List Int):(q7p t l).Rows.Sublist t.Rows:=List.filter_sublist
theorem qui {t:Table} (H:DT t) (l:List Int):DT (q7p t l):=by
 have hs:=qyq t l;have hl:=hs.length_le;have hT:=H.ok;have hm:∀r∈(q7p t l).Rows,r∈t.Rows:=fun r hr=>hs.subset hr
 have hT':=hT.rows;refine⟨⟨hT.attrs,by omega,fun r hr=>hT.vals r (hm r hr),fun r hr=>hT.short r (hm r hr)⟩,?_,by have:=H.few;omega,fun r hr=>H.str r (hm r hr)⟩;exact vkg H.err (q7p t l).Rows hl (quh _ _ _ (fun r hr=>(H.code).1 r (hm r hr)) (v3a.sublist hs (H.code).2))
theorem vkh {t:Table} (H:DT t) (G:GT t) (l:List Int):GT (q7p t l) :=
 ⟨(qui H l).ok,(qui H l).err,fun r hr=>G.num r ((qyq t l).subset hr)⟩
theorem vcm {t:Table} (H:DT t) (G:qo6 t) (l:List Int):qo6 (q7p t l) :=
 ⟨(qui H l).ok,(qui H l).err,G.attrs,by have:=(qyq t l).length_le;have:=G.rows;omega⟩
structure TT (n:Nat) (t:Table):Prop where
 dt:DT t
 good:qo6 t
 gt:GT t
 name:t.Name=[114]
 attrs:t.Attrs.length=n
theorem TT.keep {n:Nat} {t:Table} (H:TT n t) (l:List Int):TT n (q7p t l):=⟨qui H.dt l,vcm H.dt H.good l,vkh H.dt H.gt l,H.name,H.attrs⟩
end Go.Proofs.YtpealiejioeonaaGreatDoor
namespace Go.Ab
open Go
def vsj (a b:Nat):Prop:=∀i,a.testBit i=true→b.testBit i=true
def qzs (es:List Nat) (S:Nat):Prop:=∀e∈es,¬vsj e S
def vwq (es:List Nat) (u S:Nat):Prop:=∃e∈es,e.testBit u=true∧∀i,e.testBit i=true→i≠u→S.testBit i=true
def vsk (n:Nat) (es:List Nat) (S:Nat):Prop:=qzs es S∧∀u,u < n→S.testBit u=false→vwq es u S
open Classical in
def LM (n:Nat) (es:List Nat):Nat→Nat→Nat→List Nat
 | 0,_,iN=>if vsk n es iN then [iN] else []
 | k+1,v,iN=>LM n es k (v+1) (iN+2 ^ v)++LM n es k (v+1) iN
theorem qj8 {a v i:Nat} (h:a < 2 ^ v) (hi:v≤i):a.testBit i=false :=
 v4u (vzd h (v4n (by omega) hi))
theorem qyr {a v:Nat} (h:a < 2 ^ v) (i:Nat):(a+2 ^ v).testBit i=(a.testBit i || decide (i=v)):=by
 rw [v4c];rcases v1g i v with hi | hi | hi
 ·rw [Nat.testBit_two_pow_add_gt hi,decide_eq_false (by omega),v2v]
 ·subst hi;rw [Nat.testBit_two_pow_add_eq,qj8 h (vza _)];simp
 ·rw [qj8 (v:=v+1) (by rw [v4q];omega) hi,qj8 h (by omega),decide_eq_false (by omega)];rfl
theorem qys {a v:Nat} (h:a < 2 ^ v):a+2 ^ v < 2 ^ (v+1):=by rw [v4q];omega
theorem qo9 {a v:Nat} (h:a < 2 ^ v):a < 2 ^ (v+1):=by rw [v4q];omega
theorem vgo {a b n:Nat} (ha:a < 2 ^ n) (hb:b < 2 ^ n) (h:∀i,i < n→a.testBit i=b.testBit i):a=b:=by
 apply v4i;intro i;by_cases hi:i < n
 ·exact h i hi
 ·rw [qj8 ha (by omega),qj8 hb (by omega)]
theorem q41 (n:Nat) (es:List Nat):∀(k v iN S:Nat),v+k=n→iN < 2 ^ v→(S∈LM n es k v iN↔S < 2 ^ n∧vsk n es S∧∀i,i < v→S.testBit i=iN.testBit i)
 | 0,v,iN,S,hv,hi=>by
  have:v=n:=by omega
  subst this;unfold LM;constructor
  ·intro h;split at h
   ·rename_i hm;simp only [v09] at h;subst h;exact⟨hi,hm,fun _ _=>rfl⟩
   ·cases h
  ·rintro⟨h1,h2,h3⟩;have:S=iN:=vgo h1 hi h3;subst this;rw [if_pos h2];simp
 | k+1,v,iN,S,hv,hi=>by
  unfold LM;rw [vym,q41 n es k (v+1) (iN+2 ^ v) S (by omega) (qys hi),q41 n es k (v+1) iN S (by omega) (qo9 hi)];constructor
  ·rintro (⟨h1,h2,h3⟩|⟨h1,h2,h3⟩)
   ·refine⟨h1,h2,fun i hiv=>?_⟩;rw [h3 i (by omega),qyr hi,decide_eq_false (by omega),v2v]
   ·exact⟨h1,h2,fun i hiv=>h3 i (by omega)⟩
  ·rintro⟨h1,h2,h3⟩;cases hb:S.testBit v with
   | true =>
    refine .inl ⟨h1,h2,fun i hiv=>?_⟩;rw [qyr hi];by_cases e:i=v
    ·subst e;rw [hb];simp
    ·rw [h3 i (by omega),decide_eq_false e,v2v]
   | false =>
    refine .inr ⟨h1,h2,fun i hiv=>?_⟩;by_cases e:i=v
    ·subst e;rw [hb,qj8 hi (vza _)]
    ·exact h3 i (by omega)
theorem q42 (n:Nat) (es:List Nat):∀(k v iN:Nat),(LM n es k v iN).length≤2 ^ k
 | 0,v,iN=>by unfold LM;split <;> simp
 | k+1,v,iN=>by
  unfold LM;have h1:=q42 n es k (v+1) (iN+2 ^ v);have h2:=q42 n es k (v+1) iN;rw [vyc,v4q];omega
def qpa {σ:Type} (f:σ→Nat→Bool×σ):List Nat→σ→Bool×σ
 | [],s=>(true,s)
 | x :: r,s=>if (f s x).1=true then qpa f r (f s x).2 else (false,(f s x).2)
theorem qv0 {σ:Type} (f:σ→Nat→Bool×σ):∀(a b:List Nat) (s:σ),qpa f (a++b) s=if (qpa f a s).1=true then qpa f b (qpa f a s).2 else (false,(qpa f a s).2)
 | [],b,s=>by simp [qpa]
 | x :: a,b,s=>by
  simp only [v0h,qpa];by_cases h:(f s x).1=true
  ·simp only [if_pos h];exact qv0 f a b _
  ·simp only [if_neg h];simp
def qml (n:Nat) (es:List Nat) (v iN:Nat):Prop:=∃u,u < v∧iN.testBit u=false∧¬∃e∈es,e.testBit u=true∧∀i,e.testBit i=true→i≠u→(iN.testBit i=true∨(v≤i∧i < n))
theorem q0u {n:Nat} {es:List Nat} {k v iN:Nat} (hv:v+k=n) (hi:iN < 2 ^ v) (h:qml n es v iN):LM n es k v iN=[]:=by
 obtain⟨u,h1,h2,h3⟩:=h;rw [v3e];intro S hS;obtain⟨s1,⟨s2,s3⟩,s4⟩:=(q41 n es k v iN S hv hi).1 hS;obtain⟨e,he,e1,e2⟩:=s3 u (by omega) (by rw [s4 u h1,h2]);refine h3 ⟨e,he,e1,fun i hib hiu=>?_⟩;have:=e2 i hib hiu;by_cases hiv:i < v
 ·left;rw [←s4 i hiv];exact this
 ·refine .inr ⟨by omega,?_⟩;by_cases hin:i < n
  ·exact hin
  ·rw [qj8 s1 (by omega)] at this;cases this
theorem vgp {n:Nat} {es:List Nat} {k v iN:Nat} (hv:v+k=n) (hi:iN < 2 ^ v) (h:¬qzs es iN):LM n es k v iN=[]:=by
 rw [v3e];intro S hS;obtain⟨s1,⟨s2,s3⟩,s4⟩:=(q41 n es k v iN S hv hi).1 hS;refine h fun e he hsub=>s2 e he fun i hib=>?_
 have:=hsub i hib;by_cases hiv:i < v
 ·rw [s4 i hiv];exact this
 ·rw [qj8 hi (by omega)] at this;cases this
theorem vp9 {n:Nat} {es:List Nat} {iN:Nat} (h1:qzs es iN) (h2:¬qml n es n iN):vsk n es iN:=by
 refine⟨h1,fun u hu hb=>?_⟩;refine Classical.byContradiction fun hno=>h2 ⟨u,hu,hb,?_⟩
 rintro⟨e,he,e1,e2⟩;exact hno ⟨e,he,e1,fun i a b=>(e2 i a b).resolve_right (by omega)⟩
theorem vki {σ ST OT:Type} (n:Nat) (es:List Nat) (f:σ→Nat→Bool×σ) (B:(ST→Option OT)→ST→Option OT) (Sx:σ→Nat→Nat→Nat→ST) (R:Bool→σ→OT) (c:σ→Nat) (bnd:Nat)
  (hc:∀s x,c (f s x).2≤c s+1)
  (h1:∀rec s v iN out,v≤n→iN < 2 ^ v→out < 2 ^ v→(∀i,i < v→out.testBit i=!iN.testBit i)→qml n es v iN→B rec (Sx s v iN out)=some (R true s))
  (h2:∀rec s iN out,iN < 2 ^ n→out < 2 ^ n→(∀i,i < n→out.testBit i=!iN.testBit i)→¬qml n es n iN→c s+1≤bnd→B rec (Sx s n iN out)=some (R (f s iN).1 (f s iN).2))
  (h3:∀rec s v iN out,v < n→iN < 2 ^ v→out < 2 ^ v→(∀i,i < v→out.testBit i=!iN.testBit i)→¬qml n es v iN→¬qzs es (iN+2 ^ v)→B rec (Sx s v iN out)=rec (Sx s (v+1) iN (out+2 ^ v)))
  (h4:∀rec s v iN out,v < n→iN < 2 ^ v→out < 2 ^ v→(∀i,i < v→out.testBit i=!iN.testBit i)→¬qml n es v iN→qzs es (iN+2 ^ v)→∀b s',rec (Sx s (v+1) (iN+2 ^ v) out)=some (R b s')→B rec (Sx s v iN out)=if b=true then rec (Sx s' (v+1) iN (out+2 ^ v)) else some (R false s')) :
  ∀(k v iN out fuel:Nat) (s:σ),v+k=n→k < fuel→iN < 2 ^ v→out < 2 ^ v→(∀i,i < v→out.testBit i=!iN.testBit i)→qzs es iN→c s+(LM n es k v iN).length≤bnd →
   ve6 B fuel (Sx s v iN out)=some (R (qpa f (LM n es k v iN) s).1 (qpa f (LM n es k v iN) s).2)∧c (qpa f (LM n es k v iN) s).2≤c s+(LM n es k v iN).length:=by
 have clE:∀(l:List Nat) (s:σ),c (qpa f l s).2≤c s+l.length:=by
  intro l
  induction l with
  | nil=>intro s;simp [qpa]
  | cons x l ih =>
   intro s;have:=hc s x;simp only [qpa,v0q];split
   ·have:=ih (f s x).2;omega
   ·simp only;omega
 intro k
 induction k with
 | zero =>
  intro v iN out fuel s hv hf hi ho hio hfr hb;refine⟨?_,clE _ _⟩;cases fuel with
  | zero=>omega
  | succ fuel =>
   have:v=n:=by omega
   subst this;rw [ve6];by_cases hp:qml v es v iN
   ·rw [q0u (k:=0) hv hi hp,h1 _ s v iN out (vza _) hi ho hio hp];rfl
   ·have hm:=vp9 hfr hp;have hL:LM v es 0 v iN=[iN]:=by unfold LM;rw [if_pos hm]
    rw [hL] at hb ⊢;rw [h2 _ s iN out hi ho hio hp (by simpa using hb)];simp only [qpa];cases h:(f s iN).1 <;> simp
 | succ k ih =>
  intro v iN out fuel s hv hf hi ho hio hfr hb;refine⟨?_,clE _ _⟩;cases fuel with
  | zero=>omega
  | succ fuel =>
   rw [ve6];have hio2:∀i,i < v+1→(out+2 ^ v).testBit i=!iN.testBit i:=fun i hiv=>by
    rw [qyr ho];by_cases e:i=v
    ·subst e;rw [qj8 hi (vza _)];simp
    ·rw [hio i (by omega),decide_eq_false e,v2v]
   have hio1:∀i,i < v+1→out.testBit i=!(iN+2 ^ v).testBit i:=fun i hiv=>by
    rw [qyr hi];by_cases e:i=v
    ·subst e;rw [qj8 ho (vza _)];simp
    ·rw [hio i (by omega),decide_eq_false e,v2v]
   by_cases hp:qml n es v iN
   ·rw [q0u hv hi hp,h1 _ s v iN out (by omega) hi ho hio hp];rfl
   ·by_cases hfr2:qzs es (iN+2 ^ v)
    ·have hL:LM n es (k+1) v iN=LM n es k (v+1) (iN+2 ^ v)++LM n es k (v+1) iN:=rfl;rw [hL] at hb ⊢;rw [vyc] at hb;obtain⟨e1,e2⟩:=ih (v+1) (iN+2 ^ v) out fuel s (by omega) (by omega) (qys hi) (qo9 ho) hio1 hfr2 (by omega);rw [h4 _ s v iN out (by omega) hi ho hio hp hfr2 _ _ e1,qv0];cases hb1:(qpa f (LM n es k (v+1) (iN+2 ^ v)) s).1 with
     | false=>simp
     | true =>
      simp only [if_true];exact (ih (v+1) iN (out+2 ^ v) fuel _ (by omega) (by omega) (qo9 hi) (qys ho) hio2 hfr (by omega)).1
    ·have hL:LM n es (k+1) v iN=LM n es k (v+1) iN:=by
      show LM n es k (v+1) (iN+2 ^ v)++LM n es k (v+1) iN=_;rw [vgp (by omega) (qys hi) hfr2];rfl
     rw [hL] at hb ⊢;rw [h3 _ s v iN out (by omega) hi ho hio hp hfr2];exact (ih (v+1) iN (out+2 ^ v) fuel s (by omega) (by omega) (qo9 hi) (qys ho) hio2 hfr hb).1
theorem q7q {n:Nat} {es:List Nat} {S:Nat}:S∈LM n es n 0 0↔S < 2 ^ n∧vsk n es S:=by
 rw [q41 n es n 0 0 S (by omega) (by simp)];exact⟨fun h=>⟨h.1,h.2.1⟩,fun h=>⟨h.1,h.2,fun i hi=>absurd hi (v4l i)⟩⟩
theorem vgq {es:List Nat} (h:∀e∈es,∃i,e.testBit i=true):qzs es 0:=fun e he hs=>by
 obtain⟨i,hi⟩:=h e he;have:=hs i hi;rw [v42] at this;cases this
section
variable {n:Nat} {sz:List Nat} {cmp pos:Nat→Nat} {vert:Nat→Nat→Nat} {es:List Nat} {ces:List (List Nat)}
end
end Go.Ab
namespace Go.Proofs.YtpealiejioeonaaGreatDoor
open Go Go.Ab
end Go.Proofs.YtpealiejioeonaaGreatDoor
namespace Go.Ab
end Go.Ab
namespace Go.Proofs.YtpealiejioeonaaGreatDoor
open Go Go.Ab
def qnt (x:Str):Value:=if x=[63] then ⟨0,0,[]⟩ else match x with
 | [c]=>if 48≤c.toNat∧c.toNat≤57 then ⟨1,(c.toNat:Int) - 48,[]⟩ else ⟨2,0,x⟩
 | _=>⟨2,0,x⟩
end Go.Proofs.YtpealiejioeonaaGreatDoor
namespace Go.Ab
open Go
end Go.Ab
namespace Go.Proofs.YtpealiejioeonaaGreatDoor
open Go Go.Ab
instance instDecArr2:DecidableEq Arr2_int64:=fun a b=>match a,b with
 | ⟨x,y⟩,⟨u,v⟩=>if h:x=u∧y=v then isTrue (by rw [h.1,h.2]) else isFalse fun e=>h ⟨congrArg (·.x0) e,congrArg (·.x1) e⟩
def ltA (a b:Arr2_int64):Bool:=decide (a.x0 < b.x0∨(a.x0=b.x0∧a.x1 < b.x1))
abbrev Asc2 (l:List Arr2_int64):Prop:=l.Pairwise fun a b=>ltA a b=true
end Go.Proofs.YtpealiejioeonaaGreatDoor
namespace Go.Ab
open Go
theorem qv1 {α:Type} (l:List α) (q:α→Bool) (B:Int×Int→Option (LS (Int×Int) Int)) (hl:l.length≤1048576)
  (mono:∀(m n:Nat) x y,m≤n→l[m]?=some x→l[n]?=some y→q y=true→q x=true)
  (hB:∀(i j:Nat) x,i < j→j≤l.length→l[(i+j) / 2]?=some x→B ((i:Int),(j:Int))=some (.next (if q x=true then ((((i+j) / 2+1:Nat):Int),(j:Int)) else ((i:Int),(((i+j) / 2:Nat):Int)))))
  (hE:∀i:Nat,B ((i:Int),(i:Int))=some (.done (i:Int))) :
  ∀(d i j:Nat),j - i=d→i≤j→j≤l.length→(∀(m:Nat) x,m < i→l[m]?=some x→q x=true)→(∀(m:Nat) x,j≤m→l[m]?=some x→q x=false) →
   ∃k:Nat,qaj B ((i:Int),(j:Int))=some (k:Int)∧k≤l.length∧(∀(m:Nat) x,m < k→l[m]?=some x→q x=true)∧(∀(m:Nat) x,k≤m→l[m]?=some x→q x=false):=by
 intro d
 induction d using v1j with
 | ind d ih =>
  intro i j hd hij hj h1 h2;by_cases he:i=j
  ·subst he;exact⟨i,qam (hE i),hj,h1,h2⟩
  ·have hlt:(i+j) / 2 < l.length:=by omega
   have hx:l[(i+j) / 2]?=some l[(i+j) / 2]:=vx4 hlt;have hs:=hB i j _ (by omega) hj hx;generalize l[(i+j) / 2]=x at *;cases hq:q x with
   | true =>
    rw [if_pos hq] at hs;obtain⟨k,e1,e2⟩:=ih (j - ((i+j) / 2+1)) (by omega) ((i+j) / 2+1) j rfl (by omega) hj (fun m y hm hy=>mono m ((i+j) / 2) y x (by omega) hy hx hq) h2;exact⟨k,by rw [qa1 hs];exact e1,e2⟩
   | false =>
    rw [if_neg (by rw [hq];simp)] at hs;obtain⟨k,e1,e2⟩:=ih ((i+j) / 2 - i) (by omega) i ((i+j) / 2) rfl (by omega) (by omega) h1 (fun m y hm hy=>by
     cases hc:q y with
     | false=>rfl
     | true=>have:=mono ((i+j) / 2) m x y hm hx hy hc;rw [hq] at this;cases this)
    exact⟨k,by rw [qa1 hs];exact e1,e2⟩
theorem vgr (i j:Nat) (h:i+j≤4611686018427387904):vz8.wrap (vz6 (v2j.wrap (vz8.wrap ((i:Int)+(j:Int)))) (2 ^ (min 1 64)))=(((i+j) / 2:Nat):Int):=by
 have e:vz8.wrap ((i:Int)+(j:Int))=((i+j:Nat):Int):=by rw [wrap_i64 (by omega) (by omega)];omega
 have e2:v2j.wrap ((i+j:Nat):Int)=((i+j:Nat):Int):=by
  show ((i+j:Nat):Int) % 18446744073709551616=_;omega
 rw [e,e2];have e3:vz6 ((i+j:Nat):Int) (2 ^ (min 1 64))=(((i+j) / 2:Nat):Int):=(Int.ofNat_fdiv (i+j) 2).symm;rw [e3,wrap_i64 (by omega) (by omega)]
end Go.Ab
namespace Go.Proofs.YtpealiejioeonaaGreatDoor
open Go Go.Ab
theorem q43 (x y:Int):qi3 x y=some (decide (x < y)):=by
 have h:∀z:Int,qc8 z=some false:=fun z=>by simp [qc8]
 simp only [qi3,h,vzm,v2s,vxj,if_false,if_true]
theorem qyt (l:List Int) (p:Int) (ha:l.Pairwise (· < ·)) (hl:l.length≤1048576):∃i:Nat,qax l p=some ((i:Int),decide (p∈l)):=by
 have asc:∀(m n:Nat) x y,m < n→l[m]?=some x→l[n]?=some y→x < y:=fun m n x y hmn hx hy=>by
  obtain⟨h1,rfl⟩:=vx6.1 hx;obtain⟨h2,rfl⟩:=vx6.1 hy;exact v3y.1 ha m n h1 h2 hmn
 obtain⟨k,e1,e2,e3,e4⟩:=qv1 l (fun x=>decide (x < p)) (qa2 l p) hl
  (fun m n x y hmn hx hy hq=>by
   rw [decide_eq_true_eq] at hq ⊢;rcases v4k m n with h | h
   ·have:=asc m n x y h hx hy;omega
   ·have:m=n:=by omega
    subst this;rw [hx] at hy;cases hy;exact hq)
  (fun i j x hij hj hx=>by
   have c:(i:Int) < (j:Int):=by omega
   simp only [qa2,if_pos c,vgr i j (by omega),qaf hx,vzm,q43,qg9 (show (i+j) / 2 < 4611686018427387904 by omega)];by_cases h:x < p <;> simp [h])
  (fun i=>by simp [qa2]) _ 0 l.length rfl (v1m _) (vza _) (fun m x hm=>by omega) (fun m x hm hx=>by have:=qb9 hx;omega)
 refine⟨k,?_⟩;simp only [v2y] at e1;simp only [qax,e1,vzm];have hmem:∀x,l[k]?=some x→(p∈l↔x=p):=fun x hx=>by
  constructor
  ·intro hp;obtain⟨m,hm⟩:=v3t.1 hp;rcases v1g m k with h | h | h
   ·have:=e3 m p h hm;simp at this
   ·subst h;rw [hx] at hm;cases hm;rfl
   ·have h1:=asc k m x p h hx hm;have h2:=e4 k x (vza _) hx;simp at h2;omega
  ·rintro rfl;exact vyo hx
 by_cases hk:k < l.length
 ·have hx:l[k]?=some l[k]:=vx4 hk;have hm:=hmem _ hx;generalize l[k]=x at *;simp only [if_pos (show ((k:Int) < (l.length:Int)) by omega),qaf hx,vzm,qea];by_cases hc:x=p
  ·have:(x == p)=true:=by simp [hc]
   rw [if_pos this];simp [hm.2 hc]
  ·have:¬(x == p)=true:=by simp [hc]
   rw [if_neg this];simp [hc,hm]
 ·have:¬p∈l:=by
   intro hp;obtain⟨m,hm⟩:=v3t.1 hp;have:=e3 m p (by have:=qb9 hm;omega) hm;simp at this
  simp only [if_neg (show ¬((k:Int) < (l.length:Int)) by omega)];simp [this]
theorem qwb (l:List (List Int)) (f:List Int→Option Bool) (p:List Int→Bool) (hf:∀x∈l,f x=some (p x)) (hl:l.length≤1000000):qa6 l f=some (l.any p):=by
 have h:=qhr l (qan l f) p
  (fun k x hx hk hp=>by simp [qan,qah hx,qaf hx,hf x (vyo hx),hp,qcu hk (by omega)])
  (fun k x hx hp=>by simp [qan,qah hx,qaf hx,hf x (vyo hx),hp])
  (by simp [qan])
 have hI:qat l f=some (match l.findIdx? p with | some i=>(i:Int) | none=>-1):=by
  simp only [qat,h,vzm];cases l.findIdx? p <;> rfl
 simp only [qa6,hI,vzm];exact congrArg some (qmj p l)
def qs3 (p:Nat→Bool):Nat→List Int→List Int
 | _,[]=>[]
 | s,x :: l=>if p s=true then x :: qs3 p (s+1) l else qs3 p (s+1) l
theorem qv2 (p:Nat→Bool):∀(l:List Int) (s:Nat) (x:Int),qs3 p s (l++[x])=qs3 p s l++(if p (s+l.length)=true then [x] else [])
 | [],s,x=>by simp [qs3]
 | y :: l,s,x=>by
  simp only [v0h,qs3,qv2 p l (s+1) x,v0q,show s+1+l.length=s+(l.length+1) by omega];split <;> simp
theorem qyu (p:Nat→Bool):∀(l:List Int) (s:Nat),(qs3 p s l).Sublist l
 | [],_=>List.Sublist.refl _
 | x :: l,s=>by
  unfold qs3;split
  ·exact (qyu p l (s+1)).cons_cons x
  ·exact (qyu p l (s+1)).cons x
theorem q44 (p:Nat→Bool):∀(l:List Int) (s:Nat) (x:Int),x∈qs3 p s l↔∃k,l[k]?=some x∧p (s+k)=true
 | [],s,x=>by simp [qs3]
 | y :: l,s,x=>by
  have ih:=q44 p l (s+1) x;have e:(∃k,(y :: l)[k]?=some x∧p (s+k)=true)↔(y=x∧p s=true)∨∃k,l[k]?=some x∧p (s+1+k)=true:=by
   constructor
   ·rintro⟨k,h1,h2⟩;cases k with
    | zero=>exact .inl ⟨by simpa using h1,h2⟩
    | succ k=>exact .inr ⟨k,by simpa using h1,by rw [show s+1+k=s+(k+1) by omega];exact h2⟩
   ·rintro (⟨rfl,h⟩|⟨k,h1,h2⟩)
    ·exact⟨0,by simp,h⟩
    ·exact⟨k+1,by simpa using h1,by rw [show s+(k+1)=s+1+k by omega];exact h2⟩
  rw [e];unfold qs3;split
  ·rename_i h;rw [v02,ih];constructor
   ·rintro (rfl | h') <;> simp_all
   ·rintro (⟨rfl,_⟩ | h') <;> simp_all
  ·rename_i h;rw [ih];constructor
   ·exact .inr
   ·rintro (⟨_,h'⟩ | h')
    ·exact absurd h' h
    ·exact h'
theorem qmm {a:Nat} (h:a < 18446744073709551616):(BitVec.ofInt 64 (a:Int)).toNat=a:=by
 rw [BitVec.toNat_ofInt];have:((a:Int) % ((2 ^ 64:Nat):Int)).toNat=a:=by omega
 exact this
theorem qqv {l:List Int} (ha:l.Pairwise (· < ·)) {m n:Nat} {x y:Int} (hmn:m < n) (hx:l[m]?=some x) (hy:l[n]?=some y):x < y:=by
 obtain⟨h1,rfl⟩:=vx6.1 hx;obtain⟨h2,rfl⟩:=vx6.1 hy;exact v3y.1 ha m n h1 h2 hmn
theorem qs4 (l:List Int) (ha:l.Pairwise (· < ·)) (hl:l.length≤1000):qc9 l=some true:=by
 have h:qaj (qcc l) 1=some (.inl ()):=by
  by_cases h0:l.length=0
  ·exact qam (by simp only [qcc];rw [if_neg (by omega)])
  ·obtain⟨o,e,ho⟩:=qmk (β:=Unit) l.length (fun _ i=>i) (qcc l) (fun _ _=>True) (fun o=>o=.inl ()) (b0:=()) (s0:=1) 1 (by omega) rfl trivial
    (fun k _ hk1 hk _=>by
     have x1:l[k]?=some l[k]:=vx4 hk;have y1:l[k - 1]?=some l[k - 1]:=vx4 (by omega);have hw1:vz8.wrap ((k:Int) - 1)=((k - 1:Nat):Int):=by rw [wrap_i64 (by omega) (by omega)];omega
     have:=qqv ha (show k - 1 < k by omega) y1 x1;refine .inl ⟨(),?_,trivial⟩;simp only [qcc,if_pos (qah x1),qaf x1,vzm,hw1,qaf y1,if_neg (show ¬l[k]≤l[k - 1] by omega),wqn k])
    (fun _ _=>⟨_,by simp only [qcc];rw [if_neg (by omega)],rfl⟩)
   rw [e,ho]
 unfold qc9;rw [h];rfl
theorem q0v (l:List Int) (p:Int) (ha:l.Pairwise (· < ·)) (hl:l.length≤1000):∃k:Nat,qax l p=some ((k:Int),decide (p∈l))∧k≤l.length∧(∀m x,m < k→l[m]?=some x→x < p)∧∀m x,k≤m→l[m]?=some x→p≤x:=by
 have asc:∀(m n:Nat) x y,m < n→l[m]?=some x→l[n]?=some y→x < y:=fun m n x y h1 h2 h3=>qqv ha h1 h2 h3
 obtain⟨k,e1,e2,e3,e4⟩:=qv1 l (fun x=>decide (x < p)) (qa2 l p) (by omega)
  (fun m n x y hmn hx hy hq=>by
   rw [decide_eq_true_eq] at hq ⊢;rcases v4k m n with h | h
   ·have:=asc m n x y h hx hy;omega
   ·have:m=n:=by omega
    subst this;rw [hx] at hy;cases hy;exact hq)
  (fun i j x hij hj hx=>by
   have c:(i:Int) < (j:Int):=by omega
   simp only [qa2,if_pos c,vgr i j (by omega),qaf hx,vzm,q43,qg9 (show (i+j) / 2 < 4611686018427387904 by omega)];by_cases h:x < p <;> simp [h])
  (fun i=>by simp [qa2]) _ 0 l.length rfl (v1m _) (vza _) (fun m x hm=>by omega) (fun m x hm hx=>by have:=qb9 hx;omega)
 have e3':∀m x,m < k→l[m]?=some x→x < p:=fun m x hm hx=>by simpa using e3 m x hm hx
 have e4':∀m x,k≤m→l[m]?=some x→p≤x:=fun m x hm hx=>by have:=e4 m x hm hx;simp at this;omega
 obtain⟨i,hi⟩:=qyt l p ha (by omega);refine⟨k,?_,e2,e3',e4'⟩;rw [hi];simp only [v2y] at e1;have:qax l p=some ((i:Int),decide (p∈l)):=hi;simp only [qax,e1,vzm] at this;have hfst:(i:Int)=(k:Int):=by
  by_cases hk:k < l.length
  ·have hx:l[k]?=some l[k]:=vx4 hk;simp only [if_pos (show ((k:Int) < (l.length:Int)) by omega),qaf hx,vzm,qea] at this;split at this
   ·exact (v43 (v1p this)).1.symm
   ·rw [bne_self_eq_false,if_neg (by simp)] at this;exact (v43 (v1p this)).1.symm
  ·simp only [if_neg (show ¬((k:Int) < (l.length:Int)) by omega)] at this;exact (v43 (v1p this)).1.symm
 rw [hfst]
theorem qrn (l part:List Int) (ha:l.Pairwise (· < ·)) (hl:l.length≤1000) (hp:part.length≤1000):qc2 l part=some (part.all fun x=>decide (x∈l)):=by
 have h:=qfg part (qdk l part) (fun x=>decide (x∈l)) false
  (fun k x hx hk hq=>by
   obtain⟨i,hi⟩:=qyt l x ha (by omega);simp only [qdk,if_pos (qah hx),qaf hx,vzm,hi,hq,if_true,wqn k])
  (fun k x hx hq=>by
   obtain⟨i,hi⟩:=qyt l x ha (by omega);simp only [qdk,if_pos (qah hx),qaf hx,vzm,hi,hq,vxj,if_false])
  (by simp [qdk])
 unfold qc2;rw [h,vzm];cases part.all fun x=>decide (x∈l) <;> rfl
def vsl (V:List Int) (E:List (List Int)) (l:List Int):Bool:=(l.all fun x=>decide (x∈V)) && !(E.any fun e=>e.all fun x=>decide (x∈l))
theorem vgs {a:Nat} (ha:a < 18446744073709551616) {k:Nat} (hk:k≤64):((v2j.wrap ((BitVec.ofInt 64 (vz6 (a:Int) (2 ^ (min k 64))) &&& (1#64)).toNat:Int)) == 1)=a.testBit k:=by
 have hd:a / 2 ^ k≤a:=v4h _ _;rw [v1h hk,qtu,BitVec.toNat_and,qmm (by omega),show (1#64).toNat=1 from rfl,v4e,qrl (by omega) (by omega),vpt]
theorem vgt {v:Nat} (hv:v < 64):v2j.wrap (1 * 2 ^ (min v 64))=((2 ^ v:Nat):Int):=by
 have:2 ^ v≤2 ^ 63:=v4n (by omega) (by omega);rw [v1h (by omega),v2z,show ((2:Int) ^ v)=((2 ^ v:Nat):Int) by norm_cast];generalize 2 ^ v=q at *;exact qrl (by omega) (by omega)
theorem vsm {a b:Nat} (ha:a < 18446744073709551616) (hb:b < 18446744073709551616):v2j.wrap ((BitVec.ofInt 64 (a:Int) ||| BitVec.ofInt 64 (b:Int)).toNat:Int)=((a ||| b:Nat):Int):=by
 rw [BitVec.toNat_or,qmm ha,qmm hb];have:a ||| b < 2 ^ 64:=v4m ha hb;exact qrl (by omega) (by omega)
theorem q9w {a v:Nat} (h:a < 2 ^ v):a ||| 2 ^ v=a+2 ^ v:=by
 apply v4i;intro i;rw [qyr h,v4v,v4x];congr 1;exact decide_eq_decide.2 ⟨Eq.symm,Eq.symm⟩
theorem vl8 {a b:Nat} (ha:a < 18446744073709551616) (hb:b < 18446744073709551616):∃r:Nat,r < 18446744073709551616∧v2j.wrap ((BitVec.ofInt 64 (a:Int) &&& ~~~ BitVec.ofInt 64 (b:Int)).toNat:Int)=(r:Int)∧∀i,r.testBit i=(a.testBit i && !b.testBit i):=by
 refine⟨(BitVec.ofInt 64 (a:Int) &&& ~~~ BitVec.ofInt 64 (b:Int)).toNat,BitVec.isLt _,qrl (by omega) (by have:=(BitVec.ofInt 64 (a:Int) &&& ~~~ BitVec.ofInt 64 (b:Int)).isLt;omega),fun i=>?_⟩;have hb2:=qmm hb;have ha2:=qmm ha;rw [BitVec.toNat_and,ha2,v4s];by_cases hi:i < 64
 ·have:(~~~BitVec.ofInt 64 (b:Int)).toNat.testBit i=!b.testBit i:=by
   rw [←BitVec.getLsbD,BitVec.getLsbD_not,decide_eq_true hi,v2w,BitVec.getLsbD,hb2]
  rw [this]
 ·rw [v4u (vzd ha (v4n (n:=2) (by omega) (show 64≤i by omega)))];rfl
theorem quj {r:Nat}:r=0↔∀i,r.testBit i=false:=by
 constructor
 ·rintro rfl i;exact v42 i
 ·intro h;exact v4i fun i=>by rw [h i,v42]
open Classical in
theorem vwr {a b:Nat} (ha:a < 18446744073709551616) (hb:b < 18446744073709551616):((v2j.wrap ((BitVec.ofInt 64 (a:Int) &&& ~~~ BitVec.ofInt 64 (b:Int)).toNat:Int)) == 0)=decide (vsj a b):=by
 obtain⟨r,r1,r2,r3⟩:=vl8 ha hb
 rw [r2,v2o,beq_iff_eq,decide_eq_true_eq]
 have:((r:Int)=0)↔r=0:=by omega
 rw [this,quj]
 constructor
 ·intro h i hi
  have:=h i
  rw [r3,hi,v2w] at this
  simpa using this
 ·intro h i
  rw [r3]
  cases hb:a.testBit i with
  | false=>rfl
  | true=>rw [h i hb];rfl
theorem vqa {v n:Nat} (hv:v≤n) (hn:n≤40):∃r:Nat,r < 18446744073709551616∧(v2j.wrap ((BitVec.ofInt 64 (v2j.wrap (18446744073709551615 * 2 ^ (min v 64))) &&& (BitVec.ofInt 64 (v2j.wrap ((v2j.wrap (1 * 2 ^ (min n 64))) - 1)))).toNat:Int))=(r:Int) ∧
  ∀i,r.testBit i=(decide (v≤i) && decide (i < n)):=by
 have p1:2 ^ v≤2 ^ n:=v4n (by omega) hv;have p2:2 ^ n≤2 ^ 40:=v4n (by omega) hn;have p0:0 < 2 ^ v:=v4p (by omega);have e1:v2j.wrap (18446744073709551615 * 2 ^ (min v 64))=((18446744073709551616 - 2 ^ v:Nat):Int):=by
  rw [v1h (by omega),show ((18446744073709551615:Int) * 2 ^ v)=((18446744073709551615 * 2 ^ v:Nat):Int) by rw [v2x,Int.natCast_pow];rfl,q4t];have:18446744073709551615 * 2 ^ v=(18446744073709551616 - 2 ^ v)+18446744073709551616 * (2 ^ v - 1):=by omega
  rw [this,v4d,v1i (by omega)]
 have e2:v2j.wrap ((v2j.wrap (1 * 2 ^ (min n 64))) - 1)=((2 ^ n - 1:Nat):Int):=by
  rw [vgt (by omega),qrl (by omega) (by omega)];omega
 rw [e1,e2,BitVec.toNat_and,qmm (by omega),qmm (by omega),v4f];have hmod:(18446744073709551616 - 2 ^ v) % 2 ^ n=2 ^ n - 2 ^ v:=by
  have:18446744073709551616 - 2 ^ v=(2 ^ n - 2 ^ v)+2 ^ n * (2 ^ (64 - n) - 1):=by
   have:2 ^ n * 2 ^ (64 - n)=18446744073709551616:=by rw [←Nat.pow_add,show n+(64 - n)=64 by omega]
   rw [Nat.mul_sub,this,Nat.mul_one];omega
  rw [this,v4d,v1i (by omega)]
 rw [hmod];refine⟨2 ^ n - 2 ^ v,by omega,qrl (by omega) (by omega),fun i=>?_⟩;have:2 ^ n - 2 ^ v=(2 ^ (n - v) - 1) * 2 ^ v:=by
  rw [Nat.sub_mul,←Nat.pow_add,show n - v+v=n by omega,vzi]
 rw [this,Nat.testBit_mul_two_pow,v4z];by_cases h:v≤i
 ·rw [decide_eq_true h,v2w,v2w];exact decide_eq_decide.2 (by omega)
 ·rw [decide_eq_false h];rfl
open Classical in
theorem vcn {e u iN v n:Nat} (he:e < 18446744073709551616) (hi:iN < 18446744073709551616) (hu:u < 64) (hv:v≤n) (hn:n≤40) :
  qbn (e:Int) (u:Int) (iN:Int) (v2j.wrap ((BitVec.ofInt 64 (v2j.wrap (18446744073709551615 * 2 ^ (min v 64))) &&& (BitVec.ofInt 64 (v2j.wrap ((v2j.wrap (1 * 2 ^ (min n 64))) - 1)))).toNat:Int)) =
   some (decide (e.testBit u=true∧∀i,e.testBit i=true→i≠u→(iN.testBit i=true∨(v≤i∧i < n)))):=by
 obtain⟨L,l1,l2,l3⟩:=vqa hv hn
 have p:2 ^ u≤2 ^ 63:=v4n (by omega) (by omega)
 obtain⟨r,r1,r2,r3⟩:=vl8 (a:=e) (b:=2 ^ u) he (by omega)
 have hor:iN ||| L < 18446744073709551616:=v4m (n:=64) hi l1
 simp only [qbn,if_neg (show ¬(u:Int) < 0 by omega),v1w,vgs he (show u≤64 by omega),l2,vgt hu,r2,vsm hi l1,vwr r1 hor]
 by_cases h:e.testBit u=true
 ·rw [if_pos h]
  congr 1
  refine decide_eq_decide.2 ⟨fun hs=>⟨h,fun i hib hiu=>?_⟩,fun hs i hib=>?_⟩
  ·have:=hs i (by rw [r3,hib,v4x,decide_eq_false (Ne.symm hiu)];rfl)
   rw [v4v,l3] at this
   simpa using this
  ·rw [r3,vxh,v4x] at hib
   have hiu:i≠u:=fun e=>by subst e;simp at hib
   have:=hs.2 i hib.1 hiu
   rw [v4v,l3]
   simpa using this
 ·rw [if_neg h]
  congr 1
  exact (decide_eq_false fun hh=>h hh.1).symm
open Classical in
theorem vqb {e S:Nat} (he:e < 18446744073709551616) (hS:S < 18446744073709551616):qbr (e:Int) (S:Int)=some (decide (vsj e S)):=by
 simp only [qbr,vwr he hS]
theorem qwc (l:List Int) (f:Int→Option Bool) (p:Int→Bool) (hf:∀x∈l,f x=some (p x)) (hl:l.length≤1073741824):qda l f=some (vb4 (l.findIdx? p)):=by
 have h:=qhr l (qb0 l f) p
  (fun k y hx hk hp=>by simp only [qb0,if_pos (qah hx),qaf hx,vzm,hf y (vyo hx),hp,vxj,if_false,qcu hk (show l.length≤4611686018427387904 by omega)])
  (fun k y hx hp=>by simp only [qb0,if_pos (qah hx),qaf hx,vzm,hf y (vyo hx),hp,if_true])
  (by simp [qb0])
 simp only [qda,h,vzm];cases l.findIdx? p <;> rfl
theorem qmn (l:List Int) (f:Int→Option Bool) (p:Int→Bool) (hf:∀x∈l,f x=some (p x)) (hl:l.length≤1073741824):qbm l f=some (l.any p):=by
 simp only [qbm,qwc l f p hf hl,vzm];exact congrArg some (q9f p l)
structure HG (V:List Int) (E:List (List Int)):Prop where
 asc:V.Pairwise (· < ·)
 len:V.length≤40
 elen:E.length≤20000
 easc:∀e∈E,e.Pairwise (· < ·)
 ene:∀e∈E,e≠[]
 esub:∀e∈E,∀x∈e,x∈V
theorem q45:∀(a b:List Int),a.Nodup→(∀x∈a,x∈b)→a.length≤b.length
 | [],b,_,_=>v1m _
 | x :: a,b,hn,hs=>by
  obtain⟨h1,h2⟩:=v3v.1 hn;have hx:=hs x v04;have:=q45 a (b.erase x) h2 fun y hy=>(List.mem_erase_of_ne (fun (e:y=x)=>h1 (by rw [←e];exact hy))).2 (hs y (v03 _ hy))
  rw [List.length_erase_of_mem hx] at this;have:=List.length_pos_of_mem hx;rw [v0q];omega
theorem HG.eshort {V:List Int} {E:List (List Int)} (H:HG V E) {e:List Int} (he:e∈E):e.length≤V.length:=by
 refine q45 e V ((H.easc e he).imp ?_) (H.esub e he);intro a b h;omega
def qcf (V:List Int) (x:Int):Nat:=(V.findIdx? fun y=>x == y).getD 0
theorem qin {V:List Int} {x:Int} (h:x∈V):V.findIdx? (fun y=>x == y)=some (qcf V x)∧V[qcf V x]?=some x:=by
 cases hf:V.findIdx? (fun y=>x == y) with
 | none =>
  have:=v3j.1 hf x h;simp at this
 | some i =>
  obtain⟨h1,h2,_⟩:=v3k.1 hf;have e:qcf V x=i:=by unfold qcf;rw [hf];rfl
  rw [e];refine⟨rfl,?_⟩;rw [vx4 h1];have:x=V[i]:=by simpa using h2
  rw [←this]
theorem qif {V:List Int} {x:Int} (h:x∈V):qcf V x < V.length:=(vx6.1 (qin h).2).1
theorem qje {V:List Int} (hV:V.Pairwise (· < ·)) {x:Int} (h:x∈V) (i:Nat):qcf V x=i↔V[i]?=some x:=by
 constructor
 ·rintro rfl;exact (qin h).2
 ·intro hi;have h2:=(qin h).2;rcases v1g (qcf V x) i with hh | hh | hh
  ·have:=qqv hV hh h2 hi;omega
  ·exact hh
  ·have:=qqv hV hh hi h2;omega
def mkE (V:List Int) (e:List Int):Nat:=e.foldl (fun b x=>b ||| 2 ^ qcf V x) 0
theorem q46 (V:List Int):∀(e:List Int) (b i:Nat),(e.foldl (fun b x=>b ||| 2 ^ qcf V x) b).testBit i=(b.testBit i || e.any fun x=>qcf V x == i)
 | [],b,i=>by simp
 | x :: e,b,i=>by
  rw [v3l,q46 V e,v4v,v4x,List.any_cons,Bool.or_assoc];congr 2
theorem q9x (V:List Int):∀(e:List Int) (b:Nat),(∀x∈e,x∈V)→b < 2 ^ V.length→e.foldl (fun b x=>b ||| 2 ^ qcf V x) b < 2 ^ V.length
 | [],b,_,h=>h
 | x :: e,b,he,h=>by
  rw [v3l];exact q9x V e _ (fun y hy=>he y (v03 _ hy)) (v4m h (v4o (by omega) (qif (he x v04))))
theorem vgu {V e:List Int} (he:∀x∈e,x∈V):mkE V e < 2 ^ V.length:=q9x V e 0 he (v4p (by omega))
theorem qyv {V e:List Int} (hV:V.Pairwise (· < ·)) (he:∀x∈e,x∈V) (i:Nat):(mkE V e).testBit i=true↔∃x,x∈e∧V[i]?=some x:=by
 unfold mkE;rw [q46,v42,v2p,v0g];exact exists_congr fun x=>and_congr_right fun hx=>by rw [beq_iff_eq,qje hV (he x hx)]
theorem qrv {n m:Nat} (hn:n≤40) (h:m < 2 ^ n):m < 18446744073709551616:=by
 have:2 ^ n≤2 ^ 40:=v4n (by omega) hn;generalize 2 ^ n=q at *;omega
theorem vgv {V:List Int} {E:List (List Int)} (H:HG V E) (e:List Int) (he:e∈E):qaj (qev ⟨V,E⟩ e) (0,0)=some ((mkE V e:Nat):Int):=by
 have hs:=H.esub e he;have hl:=H.len;have hel:=H.eshort he;have h:=qcl e (fun (b:Nat) (i:Int)=>((b:Int),i)) (qev ⟨V,E⟩ e) (fun b x=>b ||| 2 ^ qcf V x) (fun b=>(b:Int)) (fun _ b=>b < 2 ^ V.length) (b0:=0) (s0:=(0,0)) rfl (v4p (by omega))
  (fun k b x hx hk hI=>by
   have hxV:=hs x (vyo hx);have hp:=qif hxV;refine⟨?_,v4m hI (v4o (by omega) hp)⟩;have hpp:2 ^ qcf V x < 2 ^ V.length:=v4o (by omega) hp;have hI2:=qzn V x (by omega);rw [(qin hxV).1] at hI2;simp only [qev,if_pos (qah hx),qaf hx,vzm,hI2,vb4,if_neg (show ¬((qcf V x:Nat):Int) < 0 by omega),v1w,vgt (show qcf V x < 64 by omega),vsm (qrv hl hI) (qrv hl hpp),wqn k])
  (fun b _=>by simp [qev])
 exact h
theorem vco {V:List Int} {E:List (List Int)} (H:HG V E):qaj (qew ⟨V,E⟩) ([],0)=some (E.map fun e=>((mkE V e:Nat):Int)):=by
 have hl:=H.elen;have h:=qcl E (fun (b:List Int) (i:Int)=>(b,i)) (qew ⟨V,E⟩) (fun b e=>b++[((mkE V e:Nat):Int)]) id (fun k b=>b.length=k) (b0:=[]) (s0:=([],0)) rfl rfl
  (fun k b x hx hk hI=>by
   refine⟨?_,by simp [hI]⟩;simp only [qew,if_pos (qah hx),qaf hx,vzm,vgv H x (vyo hx),qt6 (show b.length+1≤17592186044416 by omega),if_true,wqn k])
  (fun b _=>by simp [qew])
 rw [h,id];congr 1;have:∀(l:List (List Int)) (b:List Int),l.foldl (fun b e=>b++[((mkE V e:Nat):Int)]) b=b++l.map fun e=>((mkE V e:Nat):Int):=by
  intro l
  induction l with
  | nil=>intro b;simp
  | cons x l ih=>intro b;simp [ih]
 rw [this];rfl
def msE (V:List Int) (E:List (List Int)):List Nat:=E.map (mkE V)
theorem qvm {V:List Int} {E:List (List Int)} {m:Nat}:m∈msE V E↔∃e∈E,mkE V e=m:=by unfold msE;rw [v06]
theorem vws {V:List Int} {E:List (List Int)} (H:HG V E) {m:Nat} (h:m∈msE V E):∃i,m.testBit i=true:=by
 obtain⟨e,he,rfl⟩:=qvm.1 h;cases hc:e with
 | nil=>exact absurd hc (H.ene e he)
 | cons x r =>
  have hx:x∈e:=by rw [hc];simp
  rw [←hc];exact⟨qcf V x,(qyv H.asc (H.esub e he) _).2 ⟨x,hx,(qin (H.esub e he x hx)).2⟩⟩
theorem vl9 {V:List Int} {E:List (List Int)} (p:Nat→Bool) (q:Int→Bool) (h:∀e∈E,q ((mkE V e:Nat):Int)=p (mkE V e)):(E.map fun e=>((mkE V e:Nat):Int)).any q=(msE V E).any p:=by
 unfold msE;rw [List.any_map,List.any_map,v2o,v0g,v0g];exact exists_congr fun e=>and_congr_right fun he=>by simp only [Function.comp_apply,h e he]
open Classical in
theorem qro {V:List Int} {E:List (List Int)} (H:HG V E) {v iN out:Nat} (hv:v≤V.length) (hi:iN < 2 ^ v) (ho:out < 2 ^ v) (hio:∀i,i < v→out.testBit i=!iN.testBit i) :
  qaj (qdy ⟨V,E⟩ (E.map fun e=>((mkE V e:Nat):Int)) (v:Int) (iN:Int) (out:Int)) 0=some (if qml V.length (msE V E) v iN then .inr () else .inl ()):=by
 have hl:=H.len
 have hel:=H.elen
 have hi64:=qrv (show v≤40 by omega) hi
 have ho64:=qrv (show v≤40 by omega) ho
 let q:Nat→Bool:=fun u=>!out.testBit u || (msE V E).any fun m=>decide (m.testBit u=true∧∀i,m.testBit i=true→i≠u→(iN.testBit i=true∨(v≤i∧i < V.length)))
 have step:∀(u:Nat),u < v→qdy ⟨V,E⟩ (E.map fun e=>((mkE V e:Nat):Int)) (v:Int) (iN:Int) (out:Int) (u:Int)=if q u=true then some (.next ((u+1:Nat):Int)) else some (.done (.inr ())):=by
  intro u hu
  have hC:=qmn (E.map fun e=>((mkE V e:Nat):Int)) (fun y=>qbn y (u:Int) (iN:Int) (v2j.wrap ((BitVec.ofInt 64 (v2j.wrap (18446744073709551615 * 2 ^ (min v 64))) &&& (BitVec.ofInt 64 (v2j.wrap ((v2j.wrap (1 * 2 ^ (min V.length 64))) - 1)))).toNat:Int)))
   (fun y=>decide (y.toNat.testBit u=true∧∀i,y.toNat.testBit i=true→i≠u→(iN.testBit i=true∨(v≤i∧i < V.length)))) (fun y hy=>by
    obtain⟨e,he,rfl⟩:=v06.1 hy
    rw [vcn (qrv hl (vgu (H.esub e he))) hi64 (by omega) hv hl]
    simp only [v1w]) (by rw [vye];omega)
  rw [vl9 (fun m=>decide (m.testBit u=true∧∀i,m.testBit i=true→i≠u→(iN.testBit i=true∨(v≤i∧i < V.length)))) _ (fun e _=>by simp only [v1w])] at hC
  simp only [qdy,if_pos (show (u:Int) < (v:Int) by omega),if_neg (show ¬(u:Int) < 0 by omega),v1w,vgs ho64 (show u≤64 by omega),hC,vzm,wqn u,q]
  by_cases hbo:out.testBit u=true
  ·simp only [hbo,if_true,v2t,v2p]
  ·have hbo':out.testBit u=false:=by simpa using hbo
   simp only [hbo',vxj,if_false,v2s,Bool.true_or,if_true]
 have h:=qfg (vyu v) (qdy ⟨V,E⟩ (E.map fun e=>((mkE V e:Nat):Int)) (v:Int) (iN:Int) (out:Int)) q ()
  (fun k x hx hk hp=>by
   have:x=k:=by rw [v3n (by simpa using hk)] at hx;exact (v1p hx).symm
   subst this
   rw [step x (by simpa using hk),if_pos hp])
  (fun k x hx hp=>by
   have hk:=qb9 hx
   have:x=k:=by rw [v3n (by simpa using hk)] at hx;exact (v1p hx).symm
   subst this
   rw [step x (by simpa using hk),if_neg (by rw [hp];simp)])
  (by rw [v0u];simp [qdy])
 rw [h]
 congr 1
 have:((vyu v).all q=true)↔¬qml V.length (msE V E) v iN:=by
  rw [v0e]
  constructor
  ·rintro hh ⟨u,hu,hb,hno⟩
   have:=hh u (v08.2 hu)
   simp only [q,hio u hu,hb,v2s,v2t,v2p,v0g,decide_eq_true_eq] at this
   exact hno this
  ·intro hh u hu
   have hu:=v08.1 hu
   simp only [q,hio u hu,Bool.not_not,vxm,v0g,decide_eq_true_eq]
   by_cases hb:iN.testBit u=true
   ·exact .inl hb
   ·refine .inr (Classical.byContradiction fun hno=>hh ⟨u,hu,by simpa using hb,hno⟩)
 by_cases hp:qml V.length (msE V E) v iN
 ·rw [if_pos hp,if_neg (fun hh=>(this.1 hh) hp)]
 ·rw [if_neg hp,if_pos (this.2 hp)]
open Classical in
theorem q9y {V:List Int} {E:List (List Int)} (H:HG V E) {S:Nat} (hS:S < 18446744073709551616):qbm (E.map fun e=>((mkE V e:Nat):Int)) (fun y=>qbr y (S:Int))=some (decide (¬qzs (msE V E) S)):=by
 have hl:=H.len
 have hel:=H.elen
 have hC:=qmn (E.map fun e=>((mkE V e:Nat):Int)) (fun y=>qbr y (S:Int)) (fun y=>decide (vsj y.toNat S)) (fun y hy=>by
  obtain⟨e,he,rfl⟩:=v06.1 hy
  rw [vqb (qrv hl (vgu (H.esub e he))) hS]
  simp only [v1w]) (by rw [vye];omega)
 rw [hC,vl9 (fun m=>decide (vsj m S)) _ (fun e _=>by simp only [v1w])]
 congr 1
 rw [v2o,v0g,decide_eq_true_eq]
 simp only [decide_eq_true_eq,qzs]
 constructor
 ·rintro⟨m,h1,h2⟩ h;exact h m h1 h2
 ·intro h
  exact Classical.byContradiction fun hno=>h fun m h1 h2=>hno ⟨m,h1,h2⟩
theorem q9z {α β:Type} (x:Option (α×β)):(x.bind fun (o:α×β)=>some (o.1,o.2))=x:=by cases x <;> rfl
def q7r (most:Int) (acc:List Int) (S:Nat):Bool×List Int:=(decide (((acc.length+1:Nat):Int)≤most),acc++[(S:Int)])
theorem q47 (most:Int):∀(l:List Nat) (acc:List Int),((acc.length+l.length:Nat):Int)≤most→qpa (q7r most) l acc=(true,acc++l.map fun (S:Nat)=>(S:Int))
 | [],acc,_=>by simp [qpa]
 | x :: l,acc,h=>by
  rw [v0q] at h;have h1:(q7r most acc x).1=true:=by simp only [q7r,decide_eq_true_eq];omega
  have h2:(q7r most acc x).2=acc++[(x:Int)]:=rfl;rw [qpa,if_pos h1,h2,q47 most l _ (by rw [vyc];simp only [v12];omega)];simp
open Classical in
theorem q7s {V:List Int} {E:List (List Int)} (H:HG V E) (most:Int) (hm:((LM V.length (msE V E) V.length 0 0).length:Int)≤most):qgb ⟨V,E⟩ most=some ((LM V.length (msE V E) V.length 0 0).map fun (S:Nat)=>(S:Int),true):=by
 have hl:=H.len
 have hLM:=q42 V.length (msE V E) V.length 0 0
 have hpow:2 ^ V.length≤2 ^ 40:=v4n (by omega) hl
 have hb:(LM V.length (msE V E) V.length 0 0).length≤1099511627776:=vzc hLM hpow
 obtain⟨hw,_⟩:=vki (ST:=List Int×Int×Int×Int) (OT:=Bool×List Int) V.length (msE V E) (q7r most) (qci ⟨V,E⟩ most (E.map fun e=>((mkE V e:Nat):Int))) (fun s v iN out=>(s,(v:Int),(iN:Int),(out:Int))) (fun b s=>(b,s)) v2m 1099511627776
  (fun s x=>by simp [q7r])
  (fun rec s v iN out hv hi ho hio hp=>by
   simp only [qci,if_neg (show ¬(v:Int) < 0 by omega),if_neg (show ¬(V.length:Int) < 0 by omega),qro H hv hi ho hio,if_pos hp,vzm])
  (fun rec s iN out hi ho hio hp hc=>by
   simp only [qci,if_neg (show ¬(V.length:Int) < 0 by omega),qro H (vza _) hi ho hio,if_neg hp,vzm,beq_self_eq_true,if_true,qt6 (show s.length+1≤17592186044416 by omega),q7r])
  (fun rec s v iN out hv hi ho hio hp hf=>by
   have e1:=vgt (v:=v) (by omega)
   have hv64:=qrv (show v≤40 by omega) hi
   have ho64:=qrv (show v≤40 by omega) ho
   have hp64:2 ^ v < 18446744073709551616:=qrv (n:=40) (by omega) (v4o (by omega) (by omega))
   have ha64:=qrv (show v+1≤40 by omega) (qys hi)
   have hne:((v:Int) == (V.length:Int))=false:=by rw [beq_eq_false_iff_ne];omega
   simp only [qci,if_neg (show ¬(v:Int) < 0 by omega),if_neg (show ¬(V.length:Int) < 0 by omega),qro H (Nat.le_of_lt hv) hi ho hio,if_neg hp,vzm,hne,vxj,if_false,v1w,e1,vsm hv64 hp64,vsm ho64 hp64,q9w hi,q9w ho,q9y H ha64,decide_eq_true hf,if_true,wqn v]
   exact q9z _)
  (fun rec s v iN out hv hi ho hio hp hf b s' hr=>by
   have e1:=vgt (v:=v) (by omega)
   have hv64:=qrv (show v≤40 by omega) hi
   have ho64:=qrv (show v≤40 by omega) ho
   have hp64:2 ^ v < 18446744073709551616:=qrv (n:=40) (by omega) (v4o (by omega) (by omega))
   have ha64:=qrv (show v+1≤40 by omega) (qys hi)
   have hne:((v:Int) == (V.length:Int))=false:=by rw [beq_eq_false_iff_ne];omega
   simp only [qci,if_neg (show ¬(v:Int) < 0 by omega),if_neg (show ¬(V.length:Int) < 0 by omega),qro H (Nat.le_of_lt hv) hi ho hio,if_neg hp,vzm,hne,vxj,if_false,v1w,e1,vsm hv64 hp64,vsm ho64 hp64,q9w hi,q9w ho,q9y H ha64,decide_eq_false (not_not_intro hf),wqn v,hr]
   cases b with
   | false=>rfl
   | true=>simp only [if_true];exact q9z _)
  V.length 0 0 0 64 [] (by omega) (by omega) (by simp) (by simp) (fun i h=>absurd h (v4l i)) (vgq fun e he=>vws H he) (by simpa using hb)
 have hN:=q47 most (LM V.length (msE V E) V.length 0 0) [] (by simpa using hm)
 rw [hN] at hw
 simp only [v2y] at hw
 simp only [qgb,vco H,vzm,hw,vyt]
def qel (V:List Int) (S:Nat):List Int:=qs3 (fun k=>S.testBit k) 0 V
theorem vgw (V:List Int) (E:List (List Int)) (hV:V.length≤40) {S:Nat} (hS:S < 18446744073709551616):qil ⟨V,E⟩ (S:Int)=some (qel V S):=by
 obtain⟨b,e,i⟩:=qhx (β:=List Int) V.length (fun b i=>(b,i)) (qhg ⟨V,E⟩ (S:Int)) id (fun k b=>b=qs3 (fun k=>S.testBit k) 0 (V.take k)∧b.length≤k) (b0:=[]) (s0:=([],0)) rfl ⟨by simp [qs3],by simp⟩
  (fun k b hk hI=>by
   obtain⟨i1,i2⟩:=hI;have hx:V[k]?=some V[k]:=vx4 hk;have e:V.take (k+1)=V.take k++[V[k]]:=v4b hk;have hp:qs3 (fun k=>S.testBit k) 0 (V.take (k+1))=b++(if S.testBit k=true then [V[k]] else []):=by
    rw [e,qv2,←i1,vyi,vzl,v1h (by omega)]
   simp only [qhg,if_pos (qah hx),qaf hx,vzm,if_neg (show ¬(k:Int) < 0 by omega),v1w,vgs hS (show k≤64 by omega),qt6 (show b.length+1≤17592186044416 by omega),if_true,wqn k];by_cases h:S.testBit k=true
   ·rw [if_pos h];exact⟨_,rfl,by rw [hp,if_pos h],by simp;omega⟩
   ·rw [if_neg h];exact⟨b,rfl,by rw [hp,if_neg h];simp,by omega⟩)
  (fun b _=>by simp [qhg])
 rw [v38] at i;unfold qil;rw [e,vzm,id,i.1];rfl
theorem qmo {V:List Int} {S:Nat} {x:Int}:x∈qel V S↔∃k,V[k]?=some x∧S.testBit k=true:=by
 unfold qel;rw [q44];exact exists_congr fun k=>by rw [vzl]
theorem qpb (V:List Int) (S:Nat):(qel V S).Sublist V:=qyu _ _ _
structure HV (V:List Int) (E:List (List Int)):Prop extends HG V E where
 srtdE:E.Pairwise fun a b=>ltL a b=true
 anti:∀(i k:Nat) (a b:List Int),E[i]?=some a→E[k]?=some b→i≠k→∃x,x∈b∧x ∉ a
theorem q48 {V:List Int} {E:List (List Int)} (H:HV V E):qhq ⟨V,E⟩=some true:=by
 have hl:=H.len;have hel:=H.elen;have h1:=qfg E (qgt ⟨V,E⟩) (fun _=>true) false
  (fun k x hx hk _=>by
   have hm:=vyo hx;have hxl:=H.toHG.eshort hm;have hne:((x.length:Int) == 0)=false:=by
    have:=List.length_pos_iff.2 (H.ene x hm);rw [beq_eq_false_iff_ne];omega
   have hall:(x.all fun y=>decide (y∈V))=true:=by simpa using H.esub x hm
   simp only [qgt,if_pos (qah hx),qaf hx,vzm,hne,vxj,if_false,qs4 x (H.easc x hm) (by omega),qrn V x H.asc (by omega) (by omega),hall,if_true,wqn k];by_cases h0:k=0
   ·subst h0;rfl
   ·have hy:E[k - 1]?=some E[k - 1]:=vx4 (by omega);have hxy:x=E[k]:=(vx6.1 hx).2.symm;have hlt:ltL E[k - 1] x=true:=by rw [hxy];exact v3y.1 H.srtdE (k - 1) k (by omega) hk (by omega)
    have hyl:=H.toHG.eshort (vyo hy);have hw1:vz8.wrap ((k:Int) - 1)=((k - 1:Nat):Int):=by rw [wrap_i64 (by omega) (by omega)];omega
    have hc:q4w E[k - 1] x=-1:=by unfold q4w;rw [if_pos hlt]
    rw [if_pos (show (k:Int) > 0 by omega),hw1];simp only [qaf hy,vzm,qky _ x (show E[k - 1].length≤1000000 by omega) (by omega),hc];rfl)
  (fun k x hx hp=>by cases hp) (by simp [qgt])
 have h2:=qfg E (qgv ⟨V,E⟩) (fun _=>true) false
  (fun k x hx hk _=>by
   have hm:=vyo hx;have hxl:=H.toHG.eshort hm;have h3:=qfg E (qgu ⟨V,E⟩ (k:Int) x) (fun _=>true) false
    (fun j y hy hj _=>by
     have hym:=vyo hy;have hyl:=H.toHG.eshort hym;simp only [qgu,if_pos (qah hy),qaf hy,vzm,qrn x y (H.easc x hm) (by omega) (by omega),wqn j];by_cases hkj:k=j
     ·subst hkj;simp
     ·have hne:((k:Int) != (j:Int))=true:=by rw [bne_iff_ne];omega
      obtain⟨z,z1,z2⟩:=H.anti k j x y hx hy hkj;have hf:(y.all fun w=>decide (w∈x))=false:=by
       rw [v3c];exact⟨z,z1,by simpa using z2⟩
      rw [if_pos hne,hf];rfl)
    (fun j y hy hp=>by cases hp) (by simp [qgu])
   have hall:(E.all fun _=>true)=true:=by simp
   rw [hall,if_pos rfl] at h3;simp only [qgv,if_pos (qah hx),qaf hx,vzm,h3,wqn k])
  (fun k x hx hp=>by cases hp) (by simp [qgv])
 have hall:(E.all fun _=>true)=true:=by simp
 rw [hall,if_pos rfl] at h1 h2;unfold qhq;simp only [qs4 V H.asc (by omega),vzm,if_true,if_neg (show ¬((E.length:Int) > 20000) by omega),h1,h2]
theorem qyw {V:List Int} {E:List (List Int)} (H:HV V E):qe7 ⟨V,E⟩=some 0:=by
 have hl:=H.len;simp only [qe7,q48 H,vzm,if_true,if_neg (show ¬((V.length:Int) > 40) by omega)]
def qiv (V:List Int) (E:List (List Int)):List Nat:=LM V.length (msE V E) V.length 0 0
theorem qjm {V:List Int} {E:List (List Int)} {S:Nat} (hS:S∈qiv V E):S < 2 ^ V.length:=(q7q.1 hS).1
theorem vqc {V:List Int} {E:List (List Int)} (H:HV V E) (hm:(qiv V E).length≤1000):qf8 ⟨V,E⟩ 1000=some ((qiv V E).map (qel V),0):=by
 have hl:=H.len;have hs:=q7s H.toHG 1000 (by unfold qiv at hm;omega);have h:=qcl ((qiv V E).map fun (S:Nat)=>(S:Int)) (fun (b:List (List Int)) (i:Int)=>(b,i)) (qcw ⟨V,E⟩ ((qiv V E).map fun (S:Nat)=>(S:Int),true)) (fun b S=>b++[qel V S.toNat]) id (fun k b=>b.length=k) (b0:=[]) (s0:=([],0)) rfl rfl
  (fun k b x hx hk hI=>by
   obtain⟨S,hS,rfl⟩:=v06.1 (vyo hx);have hk':k < (qiv V E).length:=by simpa using hk
   refine⟨?_,by simp [hI]⟩;simp only [qcw,if_pos (qah hx),qaf hx,vzm,vgw V E hl (qrv hl (qjm hS)),v1w,RLE (b.length+1) 24,if_true,wqn k])
  (fun b _=>by simp [qcw])
 have hf:∀(l:List Nat) (b:List (List Int)),(l.map fun (S:Nat)=>(S:Int)).foldl (fun b S=>b++[qel V S.toNat]) b=b++l.map (qel V):=by
  intro l
  induction l with
  | nil=>intro b;simp
  | cons x l ih=>intro b;simp [ih]
 rw [hf,id,vyt] at h;unfold qiv at h;unfold qf8;simp only [qyw H,vzm,bne_self_eq_false,vxj,if_false,hs,if_true,h];rfl
theorem vqd {t:Table} (H:DT t) {a:List Row} (ha:Tog t.Rows a):E3 (qn8 a):=by
 obtain⟨h1,h2,h3,h4⟩:=ha;have hp:(qn8 a).Perm (a.map Row.ID):=qmd _;refine⟨?_,by rw [qrm];exact h3,?_,fun x hx=>?_⟩
 ·intro e;have:=qrm a;rw [e] at this;exact h2 (List.length_eq_zero_iff.1 this.symm)
 ·have hs:(qn8 a).Pairwise (fun a b=>a≤b):=q6m _;have hn:(qn8 a).Nodup:=by
   rw [hp.nodup_iff];exact v3z.2 h4
  exact v3a.imp (fun {a b} h=>by obtain⟨p,q⟩:=h;omega) (hs.and hn)
 ·obtain⟨r,hr,rfl⟩:=(q9v a x).1 hx;exact ((H.code).1 r (h1 r hr)).2.2
theorem vkj {l:List Int} {k:Nat} {v x:Int}:x∈qpu l k v↔x∈l∨x=v:=by
 have h:x∈l↔x∈l.take k∨x∈l.drop k:=by
  rw [←vym,v1d]
 rw [qpu,vym,v02,h];constructor
 ·rintro (h | h | h) <;> simp [h]
 ·rintro ((h | h) | h) <;> simp [h]
theorem vqe {l:List Int} (ha:l.Pairwise (· < ·)) {k:Nat} {v:Int} (h1:∀m x,m < k→l[m]?=some x→x < v) (h2:∀m x,k≤m→l[m]?=some x→v≤x) (hv:v ∉ l):(qpu l k v).Pairwise (· < ·):=by
 have ht:∀x∈l.take k,x < v:=fun x hx=>by
  obtain⟨m,hm⟩:=v3t.1 hx;rw [vya] at hm;split at hm
  ·rename_i hk;exact h1 m x hk hm
  ·cases hm
 have hd:∀x∈l.drop k,v < x:=fun x hx=>by
  obtain⟨m,hm⟩:=v3t.1 hx;rw [vx3] at hm;have:=h2 (k+m) x (by omega) hm;have hne:x≠v:=fun e=>hv (e ▸ vyo hm)
  omega
 have hall:(l.take k++l.drop k).Pairwise (· < ·):=by rw [v1d];exact ha
 obtain⟨p1,p2,p3⟩:=v3w.1 hall;unfold qpu;refine v3w.2 ⟨p1,v3x.2 ⟨hd,p2⟩,fun x hx y hy=>?_⟩;rcases v02.1 hy with rfl | hy
 ·exact ht x hx
 ·exact p3 x hx y hy
theorem qqw {V:List Int} (hV:V.Pairwise (· < ·)) {u:Nat} {x:Int} (hx:V[u]?=some x) (S:Nat):x∈qel V S↔S.testBit u=true:=by
 rw [qmo];constructor
 ·rintro⟨k,h1,h2⟩;have:k=u:=by
   rcases v1g k u with h | h | h
   ·have:=qqv hV h h1 hx;omega
   ·exact h
   ·have:=qqv hV h hx h1;omega
  rw [←this];exact h2
 ·intro h;exact⟨u,hx,h⟩
theorem q49 {V:List Int} {E:List (List Int)} (H:HG V E) {u:Nat} {x:Int} (hx:V[u]?=some x) {e:List Int} (he:e∈E):(mkE V e).testBit u=true↔x∈e:=by
 rw [qyv H.asc (H.esub e he)];constructor
 ·rintro⟨y,h1,h2⟩;rw [hx] at h2;cases h2;exact h1
 ·intro h;exact⟨x,h,hx⟩
theorem vkk {V:List Int} {E:List (List Int)} (H:HG V E) {e:List Int} (he:e∈E) (S:Nat):vsj (mkE V e) S↔∀x∈e,x∈qel V S:=by
 constructor
 ·intro h x hx;have hg:=(qin (H.esub e he x hx)).2;exact (qqw H.asc hg S).2 (h _ ((q49 H hg he).2 hx))
 ·intro h i hi;obtain⟨x,h1,h2⟩:=(qyv H.asc (H.esub e he) i).1 hi;exact (qqw H.asc h2 S).1 (h x h1)
theorem quk (V:List Int) (E:List (List Int)) (l:List Int) (hV:V.Pairwise (· < ·)) (ha:l.Pairwise (· < ·)) (hVl:V.length≤1000) (hl:l.length≤1000) (hE:E.length≤1000000) (hEl:∀e∈E,e.length≤1000) :
  qdm ⟨V,E⟩ l=some (vsl V E l):=by
 have hC:=qwb E (fun y=>qcq y l) (fun e=>e.all fun x=>decide (x∈l)) (fun e he=>by
  simp only [qcq,qrn l e ha hl (hEl e he),vzm]) hE
 unfold qdm vsl;rw [qs4 l ha hl,vzm,if_pos rfl,qrn V l hV hVl hl,vzm];cases h:l.all fun x=>decide (x∈V) with
 | false=>simp
 | true=>simp only [if_true,hC,vzm,v2w]
theorem vgx {V:List Int} {E:List (List Int)} (H:HG V E) {S:Nat} (hS:S∈qiv V E):qfw ⟨V,E⟩ (qel V S)=some true:=by
 have hl:=H.len;have hel:=H.elen;obtain⟨s1,s2,s3⟩:=q7q.1 hS;have hsub:=qpb V S;have hsl:=hsub.length_le;have hasc:=v3a.sublist hsub H.asc;have hEl:∀e∈E,e.length≤1000:=fun e he=>by have:=H.eshort he;omega
 have hi:=quk V E (qel V S) H.asc hasc (by omega) (by omega) (by omega) hEl;have hind:vsl V E (qel V S)=true:=by
  unfold vsl;rw [vxh];refine⟨by rw [v0e];exact fun x hx=>decide_eq_true (hsub.subset hx),?_⟩;rw [vxl,v3d];intro e he hall;rw [v0e] at hall;exact s2 _ (qvm.2 ⟨e,he,rfl⟩) ((vkk H he S).2 fun x hx=>of_decide_eq_true (hall x hx))
 have hL:=qfg V (qff ⟨V,E⟩ (qel V S)) (fun _=>true) false
  (fun k v hx hk _=>by
   obtain⟨i,q1,q2,q3,q4⟩:=q0v (qel V S) v hasc (by omega);have hw:vz8.wrap ((k:Int)+1)=((k+1:Nat):Int):=qg9 (by omega);simp only [qff,if_pos (qah hx),qaf hx,vzm,q1,hw];by_cases hm:v∈qel V S
   ·simp [hm]
   ·have hI:=quk V E (qpu (qel V S) i v) H.asc (vqe hasc q3 q4 hm) (by omega) (by rw [qsu q2];omega) (by omega) hEl;have hb:S.testBit k=false:=by
     cases hb:S.testBit k with
     | false=>rfl
     | true=>exact absurd ((qqw H.asc hx S).2 hb) hm
    obtain⟨m,hm1,m2,m3⟩:=s3 k hk hb;obtain⟨e,he,rfl⟩:=qvm.1 hm1;have hno:vsl V E (qpu (qel V S) i v)=false:=by
     unfold vsl;rw [v2n];right;rw [v2q,v0g];refine⟨e,he,?_⟩;rw [v0e];intro x hxe;rw [decide_eq_true_eq,vkj];by_cases hxv:x=v
     ·exact .inr hxv
     ·left;have hg:=(qin (H.esub e he x hxe)).2;refine (qqw H.asc hg S).2 (m3 _ ((q49 H hg he).2 hxe) fun hh=>hxv ?_);rw [hh,hx] at hg;exact (v1p hg).symm
    rw [hno] at hI;simp only [hm,decide_false,vxj,if_false,if_pos (show (qel V S).length≤1000000000 by omega),if_pos (show (0:Int)≤(i:Int) by omega),if_pos (show (i:Int)≤(((qel V S).length:Nat):Int) by omega),v1w,hI,vzm])
  (fun k v hx hp=>by cases hp) (by simp [qff])
 have hall:(V.all fun _=>true)=true:=by simp
 rw [hall,if_pos rfl] at hL;unfold qfw;simp only [hi,hind,vzm,if_true,hL]
def MIg (n:Nat) (near:Nat→Nat) (S:Nat):Prop:=(∀i j,S.testBit i=true→S.testBit j=true→(near i).testBit j=false)∧∀u,u < n→S.testBit u=false→∃i,S.testBit i=true∧(near u).testBit i=true
def vqf (above:Nat→Nat) (r s:Nat):Prop:=r≠s∧∀x,r.testBit x=true→s.testBit x=false→∃y,(above x).testBit y=true∧s.testBit y=true∧r.testBit y=false
def parG (above:Nat→Nat) (r s:Nat):Prop:=∃b,s.testBit b=true∧r.testBit b=false∧∀x,r.testBit x=true→s.testBit x=false→(above x).testBit b=true
theorem vqg {above:Nat→Nat} {r s:Nat} (h:parG above r s):vqf above r s:=by
 obtain⟨b,b1,b2,b3⟩:=h;refine⟨fun e=>?_,fun x h1 h2=>⟨b,b3 x h1 h2,b1,b2⟩⟩;subst e;rw [b1] at b2;cases b2
structure GmG (n:Nat) (near above:Nat→Nat) (rk:Nat→Nat):Prop where
 near_lt:∀i,i < n→near i < 2 ^ n
 above_lt:∀i,i < n→above i < 2 ^ n
 symm:∀i j,i < n→j < n→(near i).testBit j=true→(near j).testBit i=true
 irr:∀i,i < n→(near i).testBit i=false
 ab_near:∀i j,i < n→(above i).testBit j=true→(near i).testBit j=true
 rank:∀i j,i < n→(above i).testBit j=true→rk j < rk i
def rstG (near:Nat→Nat) (rest i r':Nat):Prop:=∀j,r'.testBit j=(rest.testBit j && !(decide (j=i) || (near i).testBit j))
structure RunG (n:Nat) (near above:Nat→Nat) (al kept rest:Nat):Prop where
 klt:kept < 2 ^ n
 rlt:rest < 2 ^ n
 sub:∀i,kept.testBit i=true→al.testBit i=true
 cover:∀i,i < n→rest.testBit i=false→kept.testBit i=true∨∃z,kept.testBit z=true∧(near i).testBit z=true
 away:∀i z,rest.testBit i=true→kept.testBit z=true→i≠z∧(near i).testBit z=false
 indep:∀i j,kept.testBit i=true→kept.testBit j=true→(near i).testBit j=false
 inG:∀s,MIg n near s→s < 2 ^ n→vqf above al s→∀i,kept.testBit i=true→s.testBit i=true
section
variable {n:Nat} {near above rk:Nat→Nat} (G:GmG n near above rk)
theorem qj9 {S i:Nat} (h:S < 2 ^ n) (hi:S.testBit i=true):i < n:=by
 refine Classical.byContradiction fun hh=>?_
 rw [qj8 h (by omega)] at hi;cases hi
include G
omit G in
theorem RunG.start {al:Nat} {free:Nat} (hf:free < 2 ^ n) (hall:∀i,i < n→free.testBit i=true):RunG n near above al 0 free where
 klt:=v4p (by omega)
 rlt:=hf
 sub:=fun i h=>by simp at h
 cover:=fun i hi h=>by rw [hall i hi] at h;cases h
 away:=fun i z _ h=>by simp at h
 indep:=fun i j h=>by simp at h
 inG:=fun s _ _ _ i h=>by simp at h
theorem RunG.step {al kept rest i r':Nat} (H:RunG n near above al kept rest) (h1:rest.testBit i=true) (h2:al.testBit i=true) (h3:∀j,(above i).testBit j=true→rest.testBit j=false) (hr:rstG near rest i r') :
  RunG n near above al (kept ||| 2 ^ i) r'∧r' < rest:=by
 have hi:=qj9 H.rlt h1;have hk:∀j,(kept ||| 2 ^ i).testBit j=true↔kept.testBit j=true∨j=i:=fun j=>by
  rw [v4v,v4x,vxm,decide_eq_true_eq];exact or_congr_right eq_comm
 have hr1:∀j,r'.testBit j=true→rest.testBit j=true∧j≠i∧(near i).testBit j=false:=fun j hj=>by
  rw [hr j] at hj;simp only [vxh,vxl,v2u,decide_eq_false_iff_not] at hj;exact hj
 have hsub:∀j,r'.testBit j=true→rest.testBit j=true:=fun j hj=>(hr1 j hj).1
 have hlt:r' < rest:=by
  have hle:r'≤rest:=by
   have:r' ||| rest=rest:=v4i fun j=>by
    rw [v4v];cases hj:r'.testBit j with
    | true=>rw [hsub j hj];rfl
    | false=>rfl
   rw [←this];exact Nat.left_le_or
  have hne:r'≠rest:=fun e=>by
   rw [←e] at h1;exact (hr1 i h1).2.1 rfl
  omega
 refine⟨⟨v4m H.klt (v4o (by omega) hi),Nat.lt_trans hlt H.rlt,?_,?_,?_,?_,?_⟩,hlt⟩
 ·intro j hj;rcases (hk j).1 hj with hj | rfl
  ·exact H.sub j hj
  ·exact h2
 ·intro j hj hjr;cases hrj:rest.testBit j with
  | false =>
   rcases H.cover j hj hrj with h | ⟨z,z1,z2⟩
   ·exact .inl ((hk j).2 (.inl h))
   ·exact .inr ⟨z,(hk z).2 (.inl z1),z2⟩
  | true =>
   rw [hr j,hrj,v2w,v2q,vxm,decide_eq_true_eq] at hjr;rcases hjr with rfl | h
   ·exact .inl ((hk j).2 (.inr rfl))
   ·exact .inr ⟨i,(hk i).2 (.inr rfl),G.symm i j hi hj h⟩
 ·intro j z hj hz;obtain⟨a1,a2,a3⟩:=hr1 j hj;rcases (hk z).1 hz with hz | rfl
  ·exact H.away j z a1 hz
  ·refine⟨a2,?_⟩;cases hn:(near j).testBit z with
   | false=>rfl
   | true=>rw [G.symm j z (qj9 H.rlt a1) hi hn] at a3;cases a3
 ·intro a b ha' hb';rcases (hk a).1 ha' with ha | rfl
  ·rcases (hk b).1 hb' with hb | rfl
   ·exact H.indep a b ha hb
   ·cases hn:(near a).testBit b with
    | false=>rfl
    | true =>
     have:=G.symm a b (qj9 H.klt ha) hi hn;rw [(H.away b a h1 ha).2] at this;cases this
  ·rcases (hk b).1 hb' with hb | rfl
   ·exact (H.away a b h1 hb).2
   ·exact G.irr _ hi
 ·intro s hs hsl hg j hj;rcases (hk j).1 hj with hj | rfl
  ·exact H.inG s hs hsl hg j hj
  ·refine Classical.byContradiction fun hno=>?_
   obtain⟨y,y1,y2,y3⟩:=hg.2 j h2 (by simpa using hno);have hyn:=qj9 hsl y2;rcases H.cover y hyn (h3 y y1) with h | ⟨z,z1,z2⟩
   ·rw [H.sub y h] at y3;cases y3
   ·have:=H.inG s hs hsl hg z z1;rw [hs.1 y z y2 this] at z2;cases z2
omit G in
theorem RunG.done {al kept:Nat} (H:RunG n near above al kept 0):MIg n near kept :=
 ⟨H.indep,fun u hu h=>(H.cover u hu (by simp)).elim (fun hh=>by rw [hh] at h;cases h) id⟩
omit G in
theorem MIg.eq_of_sub {S T:Nat} (hS:MIg n near S) (hT:MIg n near T) (hTl:T < 2 ^ n) (h:∀i,S.testBit i=true→T.testBit i=true):S=T:=by
 refine v4i fun i=>?_
 rw [v2o];refine⟨h i,fun hi=>Classical.byContradiction fun hno=>?_⟩;obtain⟨z,z1,z2⟩:=hS.2 i (qj9 hTl hi) (by simpa using hno);rw [hT.1 i z hi (h z z1)] at z2;cases z2
omit G in
theorem RunG.best {r kept:Nat} (H:RunG n near above r kept 0) (hr:MIg n near r) (hrl:r < 2 ^ n) {s:Nat} (hs:MIg n near s) (hsl:s < 2 ^ n):¬vqf above r s:=fun hg=>by
 have hK:=H.done;have e1:=MIg.eq_of_sub hK hr hrl H.sub;have e2:=MIg.eq_of_sub hK hs hsl (H.inG s hs hsl hg);exact hg.1 (e1.symm.trans e2)
theorem vqh {rest:Nat} (hl:rest < 2 ^ n) (h0:rest≠0):∃i,rest.testBit i=true∧∀j,(above i).testBit j=true→rest.testBit j=false:=by
 have hex:∃i,rest.testBit i=true:=Classical.byContradiction fun hno=>h0 (quj.2 fun i=>by
  cases hb:rest.testBit i with
  | false=>rfl
  | true=>exact absurd ⟨i,hb⟩ hno)
 obtain⟨i0,hi0⟩:=hex;have:∀m i,rk i≤m→rest.testBit i=true→∃i,rest.testBit i=true∧∀j,(above i).testBit j=true→rest.testBit j=false:=by
  intro m
  induction m with
  | zero =>
   intro i hm hi;refine⟨i,hi,fun j hj=>?_⟩;have:=G.rank i j (qj9 hl hi) hj;omega
  | succ m ih =>
   intro i hm hi;by_cases hh:∀j,(above i).testBit j=true→rest.testBit j=false
   ·exact⟨i,hi,hh⟩
   ·obtain⟨j,hj⟩:=Classical.not_forall.1 hh;obtain⟨j1,j2⟩:=Classical.not_imp.1 hj;have:=G.rank i j (qj9 hl hi) j1;exact ih j (by omega) (by simpa using j2)
 exact this _ i0 (vza _) hi0
omit G in
theorem vgy {r s:Nat} (hr:MIg n near r) (hs:MIg n near s) (hsl:s < 2 ^ n):¬vqf (fun _=>0) r s:=fun hg=>by
 refine hg.1 (MIg.eq_of_sub hr hs hsl fun i hi=>Classical.byContradiction fun hno=>?_);obtain⟨y,y1,_⟩:=hg.2 i hi (by simpa using hno);simp at y1
end
inductive PathG (near above:Nat→Nat) (r:Nat):Nat→Prop
 | nil:PathG near above r 0
 | step {rest i r':Nat}:rest.testBit i=true→r.testBit i=true→(∀j,(above i).testBit j=true→rest.testBit j=false)→rstG near rest i r'→PathG near above r r'→PathG near above r rest
structure E2 (n:Nat) (es:List Nat) (near:Nat→Nat):Prop where
 two:∀e∈es,∃i k,i < n∧k < n∧i≠k∧∀j,e.testBit j=true↔j=i∨j=k
 near_iff:∀i,i < n→∀j,(near i).testBit j=true↔i≠j∧∃e∈es,e.testBit i=true∧e.testBit j=true
theorem q18 {n:Nat} {es:List Nat} {near:Nat→Nat} (H:E2 n es near) {S:Nat} (hS:S < 2 ^ n):vsk n es S↔MIg n near S:=by
 constructor
 ·rintro⟨h1,h2⟩;refine⟨fun i j hi hj=>?_,fun u hu hn=>?_⟩
  ·cases hb:(near i).testBit j with
   | false=>rfl
   | true =>
    obtain⟨hne,e,he,e1,e2⟩:=(H.near_iff i (qj9 hS hi) j).1 hb;obtain⟨a,b,ha,hb',hab,hiff⟩:=H.two e he;refine absurd (fun k hk=>?_) (h1 e he);rcases (hiff i).1 e1 with rfl | rfl <;> rcases (hiff j).1 e2 with rfl | rfl <;> rcases (hiff k).1 hk with rfl | rfl <;> first | assumption | exact absurd rfl hne
  ·obtain⟨e,he,e1,e2⟩:=h2 u hu hn;obtain⟨a,b,ha,hb,hab,hiff⟩:=H.two e he;rcases (hiff u).1 e1 with rfl | rfl
   ·exact⟨b,e2 b ((hiff b).2 (.inr rfl)) (fun h=>hab h.symm),(H.near_iff _ hu b).2 ⟨hab,e,he,e1,(hiff b).2 (.inr rfl)⟩⟩
   ·exact⟨a,e2 a ((hiff a).2 (.inl rfl)) hab,(H.near_iff _ hu a).2 ⟨fun h=>hab h.symm,e,he,e1,(hiff a).2 (.inl rfl)⟩⟩
 ·rintro⟨h1,h2⟩;refine⟨fun e he hs=>?_,fun u hu hn=>?_⟩
  ·obtain⟨a,b,ha,hb,hab,hiff⟩:=H.two e he;have:=h1 a b (hs a ((hiff a).2 (.inl rfl))) (hs b ((hiff b).2 (.inr rfl)));rw [(H.near_iff a ha b).2 ⟨hab,e,he,(hiff a).2 (.inl rfl),(hiff b).2 (.inr rfl)⟩] at this;cases this
  ·obtain⟨i,hi,hni⟩:=h2 u hu hn;obtain⟨hne,e,he,e1,e2⟩:=(H.near_iff u hu i).1 hni;obtain⟨a,b,ha,hb,hab,hiff⟩:=H.two e he;refine⟨e,he,e1,fun k hk hku=>?_⟩;have:k=i:=by
    rcases (hiff u).1 e1 with rfl | rfl <;> rcases (hiff i).1 e2 with rfl | rfl <;> rcases (hiff k).1 hk with rfl | rfl <;> first | rfl | exact absurd rfl hku | exact absurd rfl hne
   rw [this];exact hi
end Go.Proofs.YtpealiejioeonaaGreatDoor
namespace Go.Proofs.YtpealiejioeonaaGreatDoor
open Go Go.Ab
theorem vsn {a b:Nat} (ha:a < 65536) (hb:b < 65536):v0a.wrap ((BitVec.ofInt 16 (a:Int) ||| BitVec.ofInt 16 (b:Int)).toNat:Int)=((a ||| b:Nat):Int):=by
 rw [q1m,BitVec.toNat_or,qlu ha,qlu hb]
theorem q5a {a b:Nat} (ha:a < 65536) (hb:b < 65536):v0a.wrap ((BitVec.ofInt 16 (a:Int) &&& BitVec.ofInt 16 (b:Int)).toNat:Int)=((a &&& b:Nat):Int):=by
 rw [q1m,BitVec.toNat_and,qlu ha,qlu hb]
def dnN (a b:Nat):Nat:=a ^^^ (a &&& b)
theorem qjn (a b i:Nat):(dnN a b).testBit i=(a.testBit i && !b.testBit i):=by
 unfold dnN;rw [v40,v4s];cases a.testBit i <;> cases b.testBit i <;> rfl
theorem q7t {a b:Nat} (h:∀i,a.testBit i=true→b.testBit i=true):a≤b:=by
 have:a ||| b=b:=v4i fun j=>by
  rw [v4v];cases hj:a.testBit j with
  | true=>rw [h j hj];rfl
  | false=>rfl
 rw [←this];exact Nat.left_le_or
theorem q90 (a b:Nat):dnN a b≤a:=q7t fun i h=>by
 rw [qjn,vxh] at h;exact h.1
theorem q5b {a b:Nat} (ha:a < 65536) (hb:b < 65536):v0a.wrap ((BitVec.ofInt 16 (a:Int) &&& ~~~ BitVec.ofInt 16 (b:Int)).toNat:Int)=((dnN a b:Nat):Int):=by
 rw [q1m];congr 1;refine v4i fun i=>?_
 have ha2:=qlu ha;have hb2:=qlu hb;rw [BitVec.toNat_and,ha2,v4s,qjn];by_cases hi:i < 16
 ·have:(~~~BitVec.ofInt 16 (b:Int)).toNat.testBit i=!b.testBit i:=by
   rw [←BitVec.getLsbD,BitVec.getLsbD_not,decide_eq_true hi,v2w,BitVec.getLsbD,hb2]
  rw [this]
 ·rw [v4u (vzd ha (v4n (n:=2) (by omega) (show 16≤i by omega)))];rfl
theorem vcp {v:Nat} (hv:v < 16):v0a.wrap (1 * 2 ^ (min v 16))=((2 ^ v:Nat):Int):=by
 have:2 ^ v≤2 ^ 15:=v4n (by omega) (by omega);rw [v1h (by omega),v2z,show ((2:Int) ^ v)=((2 ^ v:Nat):Int) by norm_cast];generalize 2 ^ v=q at *;exact qtw (by omega) (by omega)
theorem vwt {a:Nat} (ha:a < 65536) {k:Nat} (hk:k≤16):((v0a.wrap ((BitVec.ofInt 16 (vz6 (a:Int) (2 ^ (min k 16))) &&& (1#16)).toNat:Int)) == 0)=!a.testBit k:=by
 have hd:a / 2 ^ k≤a:=v4h _ _;rw [v1h hk,qtu,BitVec.toNat_and,qlu (by omega),show (1#16).toNat=1 from rfl,v4e,qtw (by omega) (by omega)];have:a.testBit k=decide (a / 2 ^ k % 2=1):=by
  rw [v4t]
 rw [this,v2o];simp only [beq_iff_eq,vxl,decide_eq_false_iff_not];omega
theorem q19 {S:Nat} (h0:S≠0) (h:S < 65536):v0a.wrap ((S:Int) - 1)=((S - 1:Nat):Int):=by
 rw [qtw (by omega) (by omega)];omega
def qio (S:Nat):Nat:=(vt0 S).toNat
theorem vqi:∀x:Fin 64,x.val≠0→vt0 x.val=((qio x.val:Nat):Int)∧qio x.val < 6∧x.val.testBit (qio x.val)=true∧(∀j:Fin 6,j.val < qio x.val→x.val.testBit j.val=false)∧∀j:Fin 6,(x.val &&& (x.val - 1)).testBit j.val=(x.val.testBit j.val && !decide (j.val=qio x.val)):=by decide +kernel
theorem qrp {S:Nat} (h0:S≠0) (h:S < 64):vt0 S=((qio S:Nat):Int)∧S.testBit (qio S)=true∧(∀j,j < qio S→S.testBit j=false)∧(∀j,(S &&& (S - 1)).testBit j=(S.testBit j && !decide (j=qio S)))∧qio S < 6:=by
 obtain⟨a,b,c,d,e⟩:=vqi ⟨S,h⟩ h0;simp only at a b c d e;refine⟨a,c,fun j hj=>d ⟨j,by omega⟩ hj,fun j=>?_,b⟩;by_cases hj:j < 6
 ·exact e ⟨j,hj⟩
 ·have h1:S.testBit j=false:=v4u (vzd h (v4n (n:=2) (by omega) (show 6≤j by omega)));rw [v4s,h1];rfl
theorem q91 {S:Nat} (h0:S≠0) (h:S < 64):S &&& (S - 1) < S:=by
 obtain⟨_,b,_,d,_⟩:=qrp h0 h;have hle:S &&& (S - 1)≤S:=Nat.and_le_left;have:S &&& (S - 1)≠S:=fun e=>by
  have:=d (qio S);rw [e,b] at this;simp at this
 omega
def TwoV (t:Table) (c:Constraint):Prop:=∃ds L,qcx t c=some (ds,0)∧qe5 t c=some (L,0)∧L.length≤2000∧∀e∈L,∃a,Tog t.Rows a∧a.length=2∧e=qn8 a
theorem vwu {t:Table} (T:DT t) (hn:t.Attrs.length≤5) (hname:t.Name=[114]) (nm:List UInt8) {s r:Nat} (hs:s < 2 ^ t.Attrs.length) (hr:r < 2 ^ t.Attrs.length):TwoV t (Constraint.mk nm [114] 1 (FD.mk (s:Int) (r:Int)) (FD.mk 0 0) (IND.mk [] [] [] []) (CFD.mk [] 0 []) (OD.mk [] []) (Denial.mk 0 [])):=by
 have few:=T.few;have hp:2 ^ t.Attrs.length≤2 ^ 5:=v4n (by omega) hn;have hor:s ||| r < 2 ^ t.Attrs.length:=v4m hs hr;have h32:(2:Nat) ^ 5=32:=by decide
 have hF:=vgh (n:=t.Attrs.length) (s:=s) (r:=r) (by omega) (by omega) (by omega);rw [if_pos (by unfold fdB;simpa using hor)] at hF;have hne:¬(t.Attrs.length:Int) < 0:=by omega
 have hT:qcx t (Constraint.mk nm [114] 1 (FD.mk (s:Int) (r:Int)) (FD.mk 0 0) (IND.mk [] [] [] []) (CFD.mk [] 0 []) (OD.mk [] []) (Denial.mk 0 []))=some (fdL s r,0):=by
  simp only [qcx,hname,beq_self_eq_true,if_true,if_neg (show ¬(1:Int) < 1 by decide),if_neg (show ¬(1:Int) > 6 by decide),if_neg (show ¬((1:Int) == 2)=true by decide),if_neg (show ¬((1:Int) == 3)=true by decide),if_neg hne,
   q9h (show s < 4294967296 by omega) (show r < 4294967296 by omega),vwp (show t.Attrs.length≤32 by omega) hor,bne_self_eq_false,vxj,if_false,hF,vzm]
 have hlen:(fdL s r).length≤5:=by
  unfold fdL;rw [vye];have hd:qwa r s < 2 ^ t.Attrs.length:=by
   refine v4j ?_ hr;refine Nat.le_of_testBit fun i hi=>?_
   rw [quc,vxh] at hi;exact hi.1
  have:=qyp (n:=t.Attrs.length) (by omega) hd;omega
 obtain⟨L,l1,l2,hloc⟩:=vgn T (fdL s r) (fun d hd=>⟨vkb T (by omega) hs hr d hd,by
  obtain⟨x,hx,rfl⟩:=v06.1 hd;have:=quf s;simp only [q7m,vyc,vye,v12];omega⟩) hlen
 have hdv:∀d∈fdL s r,d.Vars=2:=fun d hd=>by obtain⟨x,_,rfl⟩:=v06.1 hd;rfl
 refine⟨fdL s r,L,hT,?_,by omega,fun e he=>?_⟩
 ·unfold qe5;rw [hT,vzm];simp [l1]
 ·obtain⟨a,a1,⟨d,d1,d2,_⟩,a3⟩:=(hloc e).1 he;rw [hdv d d1] at d2;exact⟨a,a1,d2,a3⟩
theorem vgz {t:Table} (T:DT t) {R:List Constraint} (h4:R.length≤4) (hu:∀c∈R,TwoV t c) :
  ∃E,qi4 t R=some (⟨t.Rows.map Row.ID,E⟩,0)∧HV (t.Rows.map Row.ID) E∧∀e∈E,e.length=2:=by
 have few:=T.few;have e1:qaj (qeu t R) 0=some (.inl ()):=by
  obtain⟨_,e,_⟩:=qhx (β:=Unit) R.length (fun _ i=>i) (qeu t R) (fun _=>(Sum.inl ():Unit ⊕ (Hypergraph×Int))) (fun _ _=>True) (b0:=()) (s0:=0) rfl trivial
   (fun k _ hk _=>by
    have hx:R[k]?=some R[k]:=vx4 hk;obtain⟨ds,L,f1,_⟩:=hu _ (v3p hk);refine⟨(),?_,trivial⟩;simp only [qeu,if_pos (qah hx),qaf hx,vzm,f1,bne_self_eq_false,vxj,if_false,wqn k])
   (fun _ _=>by simp [qeu])
  exact e
 obtain⟨all,e2,a1,a2⟩:=qhx (β:=List (List Int)) R.length (fun b i=>(b,i)) (qgq t R) (fun b=>(Sum.inl b:(List (List Int)) ⊕ (Hypergraph×Int))) (fun k b=>(∀e∈b,∃a,Tog t.Rows a∧a.length=2∧e=qn8 a)∧b.length≤k * 2000) (b0:=[]) (s0:=([],0)) rfl ⟨fun e he=>(by cases he),by simp⟩
  (fun k b hk hI=>by
   obtain⟨i1,i2⟩:=hI;have hx:R[k]?=some R[k]:=vx4 hk;obtain⟨ds,L,f1,f2,f3,f4⟩:=hu _ (v3p hk);refine⟨b++L,?_,fun e he=>(vym.1 he).elim (i1 e) (f4 e),by rw [vyc,v4r];omega⟩;simp only [qgq,if_pos (qah hx),qaf hx,vzm,f2,bne_self_eq_false,vxj,if_false,RLE (b.length+L.length) 24,if_true,wqn k])
  (fun b _=>by simp [qgq])
 have hE3:∀e∈all,E3 e:=fun e he=>by
  obtain⟨a,ha,_,rfl⟩:=a1 e he;exact vqd T ha
 obtain⟨E,e3,b1,b2,b3⟩:=vck all (by omega) hE3;obtain⟨V,e4,v1⟩:=qhx (β:=List Int) t.Rows.length (fun b i=>(b,i)) (qgr t) id (fun k b=>b=(t.Rows.take k).map Row.ID) (b0:=[]) (s0:=([],0)) rfl (by simp)
  (fun k b hk hI=>by
   subst hI;have hx:t.Rows[k]?=some t.Rows[k]:=vx4 hk;refine⟨(t.Rows.take k).map Row.ID++[t.Rows[k].ID],?_,?_⟩
   ·simp only [qgr,if_pos (qah hx),qaf hx,vzm,qt6 (show ((t.Rows.take k).map Row.ID).length+1≤17592186044416 by rw [vye,vyi];omega),if_true,wqn k]
   ·have e:t.Rows.take (k+1)=t.Rows.take k++[t.Rows[k]]:=by rw [v34,hx];rfl
    rw [e,vyj];rfl)
  (fun b _=>by simp [qgr])
 rw [v38] at v1;subst v1;have hVasc:(t.Rows.map Row.ID).Pairwise (· < ·):=v3z.2 (T.code).2;have hEall:∀e∈E,e∈all:=fun e he=>((b3 e).1 he).1
 have hsub:∀e∈all,∀x∈e,x∈t.Rows.map Row.ID:=fun e he x hx=>by
  obtain⟨a,ha,_,rfl⟩:=a1 e he;obtain⟨r,hr,rfl⟩:=(q9v a x).1 hx;exact v06.2 ⟨r,ha.1 r hr,rfl⟩
 refine⟨E,?_,⟨⟨hVasc,by rw [vye];omega,by omega,fun e he=>(hE3 e (hEall e he)).2.2.1,fun e he=>(hE3 e (hEall e he)).1,fun e he=>hsub e (hEall e he)⟩,b1,?_⟩,fun e he=>?_⟩
 ·unfold qi4;rw [qol t T.ok,vzm,T.err];simp only [bne_self_eq_false,vxj,if_false,if_neg (show ¬(t.Rows.length:Int) > 200 by omega),e1,e2,e3,e4,vzm,id,if_neg (show ¬(E.length:Int) > 20000 by omega)]
 ·intro i k a b hi hk hik;have hnd:=qvk b1;have hab:b≠a:=fun h=>by
   subst h;obtain⟨hil,hie⟩:=vx6.1 hi;obtain⟨hkl,hke⟩:=vx6.1 hk;exact hik ((List.getElem_inj hnd).1 (hie.trans hke.symm))
  obtain⟨_,na⟩:=(b3 a).1 (vyo hi);by_cases h:∃x,x∈b∧x ∉ a
  ·exact h
  ·exfalso;refine na ⟨b,hEall b (vyo hk),fun x hx=>?_,hab⟩;by_cases hx':x∈a
   ·exact hx'
   ·exact absurd ⟨x,hx,hx'⟩ h
 ·obtain⟨a,_,ha,rfl⟩:=a1 e (hEall e he);rw [qrm,ha]
end Go.Proofs.YtpealiejioeonaaGreatDoor
