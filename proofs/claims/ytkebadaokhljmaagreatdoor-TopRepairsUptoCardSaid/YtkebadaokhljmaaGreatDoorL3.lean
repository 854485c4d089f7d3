/- -/
import Derived.Lib.TrailingZeros
import Derived.Lib.Repeat
import Derived.Test.YtkebadaokhljmaaGreatDoorL1
import Derived.Test.YtkebadaokhljmaaGreatDoorA2
set_option linter.unusedVariables false
set_option linter.unusedSimpArgs false
open Bool renaming and_eq_true→v2m,and_true→v2n,eq_iff_iff→v73,false_and→v74,false_eq_true→v2o,not_eq_false'→v78,not_eq_true→v79,not_eq_true'→v2q,not_false→v8a,or_eq_true→v2r,true_and→v8b,true_eq_false→v2s
open Function renaming comp→v8c
open Int renaming eq_ofNat_of_zero_le→v8d,fdiv→v7t,natCast_nonneg→v8e,natCast_zero→v8f,tmod→v7u,tmod_eq_emod_of_nonneg→v8g,toNat_natCast→v8h
open Go.IntKind renaming bits→v8i,i64→v67,max→v8j,min→v8k,signed→v8l,u32→v68,u64→v7w,u8→v7x,wrap→v8m
open Go.Lib renaming compareBytes→v8n,ctzFrom_spec→v8o
open List renaming Pairwise→v8p,Perm→v8q,all_append→v8r,all_eq_true→v5m,any_eq_false→v8s,append_assoc→v2w,append_nil→v2x,cons→v2y,cons_append→v5p,drop_drop→v7y,ext_getElem?→v27,filter_append→v8t,filter_congr→v8u,filter_cons→v8v,filter_eq_nil_iff→v8w,filter_eq_self→v8x,filter_nil→v8y,findIdx?_eq_none_iff→v8z,findIdx?_eq_some_iff_getElem→v80,flatMap_cons→v5r,foldl_append→v81,foldl_cons→v82,getD→v83,getD_eq_getElem?_getD→v5s,getElem?_append_right→v3b,getElem?_drop→v3c,getElem?_eq_getElem→v3d,getElem?_eq_none→v3e,getElem?_eq_some_iff→v3f,getElem?_inj→v84,getElem?_map→v3g,getElem?_range→v85,getElem?_set→v86,getElem?_set_ne→v5w,getElem?_take→v3j,getElem_drop→v87,getElem_mem→v88,getElem_take→v89,length→v71,length_append→v3l,length_cons→v5y,length_drop→v3m,length_filter_le→v51,length_map→v3n,length_nil→v3o,length_range→v54,length_replicate→v3p,length_reverse→v9a,length_set→v3q,length_singleton→v56,length_take→v3r,map_append→v3s,map_congr_left→v59,map_cons→v3t,mem_append→v3v,mem_cons→v6d,mem_cons_of_mem→v6e,mem_filter→v6g,mem_flatMap→v3w,mem_iff_getElem→v9b,mem_iff_getElem?→v9c,mem_map→v6h,mem_of_getElem?→v3x,mem_of_mem_drop→v3y,mem_range→v6j,mem_reverse→v9d,mem_singleton→v6k,nil_append→v33,nodup_append→v9e,pairwise_append→v9f,pairwise_cons→v9g,pairwise_iff_getElem→v9h,pairwise_reverse→v9i,pairwise_singleton→v9j,range→v34,range'_succ→v9k,range_eq_range'→v38,replicate→v4a,reverse_perm→v9l,take_append_of_le_length→v9m,take_length→v9n,take_of_length_le→v4e,take_set_of_le→v9o,take_succ_eq_append_getElem→v9p
open Nat renaming add_assoc→v4h,div_eq_of_lt→v9q,eq_of_testBit_eq→v9r,le_refl→v4o,le_trans→v4q,lt_of_le_of_lt→v9s,lt_of_lt_of_le→v4r,lt_or_ge→v9t,min_eq_left→v6s,mod_lt→v4t,mul_le_mul→v9u,mul_le_mul_right→v4v,pow_le_pow_right→v9v,pow_pos→v9w,pow_succ→v9x,succ_mul→v9y,testBit_and→v9z,testBit_lt_two_pow→v90,testBit_succ→v91,testBit_two_pow→v92,testBit_two_pow_mul_add→v93,testBit_xor→v94,zero_le→v6w
open Option renaming bind_some→v40,getD_some→v43,map_some→v49
open Option.some renaming inj→v6z,injEq→v5a
noncomputable section
namespace Go.Proofs.YtkebadaokhljmaaGreatDoor
open Go Go.Ab
def qkl (v:Value):Bool:=decide ((v.Kind=0∧v.Num=0∧v.Str=[])∨(v.Kind=1∧v.Str=[])∨(v.Kind=2∧v.Num=0∧v.Str.length≤200)∨(v.Kind=3∧1≤v.Num∧v.Str=[]))
theorem qk2 (v:Value):qh7 v=some (qkl v):=by
 simp only [qh7,qkl]
 repeat' split
 all_goals simp_all
 all_goals (try omega)
 all_goals (try (rw [v73];simp <;> omega))
def sgn (a b:Int):Int:=if a < b then -1 else if b < a then 1 else 0
theorem veh (a b:Int):qh9 a b=some (sgn a b):=by
 simp only [qh9,qj5,sgn];simp;split <;> (try split) <;> simp_all
theorem qq6 (a b:Int):qe1 a b=some (sgn a b):=by
 simp only [qe1,qdo,sgn];simp;split <;> (try split) <;> simp_all
def q12:List UInt8→List UInt8→Int
 | [],[]=>0
 | [],_ :: _=>-1
 | _ :: _,[]=>1
 | a :: x,b :: y=>if a=b then q12 x y else sgn a.toNat b.toNat
theorem qq7:∀a b:List UInt8,v8n a b=q12 a b
 | [],[]=>rfl
 | [],_ :: _=>rfl
 | _ :: _,[]=>rfl
 | x :: a,y :: b=>by
  simp only [v8n,q12,sgn,qq7 a b,UInt8.lt_iff_toNat_lt,←UInt8.toNat_inj];split <;> split <;> (try split) <;> (try split) <;> omega
theorem qup (a b:List UInt8):qia a b=some (q12 a b):=by
 simp [qia,qf2,qq7]
theorem vpj {a b:Int} (h:a≠b):sgn a b≠0:=by
 unfold sgn;split <;> (try split) <;> omega
theorem vmq (a:Int):sgn a a=0:=by unfold sgn;simp
def qq8 (a b:Value):Int:=if sgn a.Kind b.Kind≠0 then sgn a.Kind b.Kind else if sgn a.Num b.Num≠0 then sgn a.Num b.Num else q12 a.Str b.Str
theorem v1a (a b c:Int):qot [a,b,c]=some (if a≠0 then a else if b≠0 then b else c):=by
 simp only [qot];have w0:v67.wrap 1=1:=by decide
 have w1:v67.wrap 2=2:=by decide
 have w2:v67.wrap 3=3:=by decide
 by_cases h1:a=0
 ·by_cases h2:b=0
  ·by_cases h3:c=0
   ·rw [qaq (s':=1) (by simp [qdb,idx,h1,w0]),qaq (s':=2) (by simp [qdb,idx,h2,w1]),qaq (s':=3) (by simp [qdb,idx,h3,w2]),qao (t:=.inl ()) (by simp [qdb])];simp [h1,h2,h3]
   ·rw [qaq (s':=1) (by simp [qdb,idx,h1,w0]),qaq (s':=2) (by simp [qdb,idx,h2,w1]),qao (t:=.inr c) (by simp [qdb,idx,h3])];simp [h1,h2]
  ·rw [qaq (s':=1) (by simp [qdb,idx,h1,w0]),qao (t:=.inr b) (by simp [qdb,idx,h2])];simp [h1,h2]
 ·rw [qao (t:=.inr a) (by simp [qdb,idx,h1])];simp [h1]
theorem qll (a b:Value):qio a b=some (qq8 a b):=by
 simp only [qio,veh,qq6,qup,v40,v1a,qq8]
theorem vio:∀a b:List UInt8,q12 a b=0↔a=b
 | [],[]=>by simp [q12]
 | [],_ :: _=>by simp [q12]
 | _ :: _,[]=>by simp [q12]
 | x :: a,y :: b=>by
  simp only [q12];by_cases h:x=y
  ·subst h;simp [vio a b]
  ·have:sgn x.toNat y.toNat≠0:=vpj (by simpa [Int.natCast_inj,UInt8.toNat_inj] using h);simp [h,this]
theorem qr4 (a b:Int):sgn a b=0↔a=b:=by
 unfold sgn;split <;> (try split) <;> omega
theorem q30 (a b:Value):qq8 a b=0↔a=b:=by
 unfold qq8;cases a;cases b;simp only [Value.mk.injEq];split
 ·rename_i h;simp only [ne_eq,qr4] at h;simp [qr4,h]
 ·rename_i h;simp only [ne_eq,qr4,Decidable.not_not] at h;split
  ·rename_i h2;simp only [ne_eq,qr4] at h2;simp [qr4,h2]
  ·rename_i h2;simp only [ne_eq,qr4,Decidable.not_not] at h2;simp [vio,h,h2]
def veq (a b:Value):Bool:=(a.Kind == b.Kind) && ((a.Num == b.Num) && (a.Str == b.Str))
def qzg:List Row→Int
 | []=>12
 | r :: l=>if (r :: l).all (fun x=>x.Values.length == r.Values.length) then 0 else 6
theorem quq (l:List Value) (f:Value→Option Bool) (p:Value→Bool) (hf:∀x∈l,f x=some (p x)) (hl:l.length≤1073741824):qd3 l f=some (match l.findIdx? p with | some i=>(i:Int) | none=>-1):=by
 have h:=qgx l (qb1 l f) p
  (fun k x hx hk hp=>by simp [qb1,qai hx,qaf hx,hf x (v3x hx),hp,qbh hk (by omega)])
  (fun k x hx hp=>by simp [qb1,qai hx,qaf hx,hf x (v3x hx),hp])
  (by simp [qb1])
 simp only [qd3,h,v40];cases l.findIdx? p <;> rfl
theorem qw3 (l:List Row) (f:Row→Option Bool) (p:Row→Bool) (hf:∀x∈l,f x=some (p x)) (hl:l.length≤1073741824):qeu l f=some (match l.findIdx? p with | some i=>(i:Int) | none=>-1):=by
 have h:=qgx l (qcn l f) p
  (fun k x hx hk hp=>by simp [qcn,qai hx,qaf hx,hf x (v3x hx),hp,qbh hk (by omega)])
  (fun k x hx hp=>by simp [qcn,qai hx,qaf hx,hf x (v3x hx),hp])
  (by simp [qcn])
 simp only [qeu,h,v40];cases l.findIdx? p <;> rfl
theorem qjk {α:Type} (p:α→Bool) (l:List α):decide ((match l.findIdx? p with | some i=>((i:Nat):Int) | none=>-1)≥0)=l.any p:=by
 cases h:l.findIdx? p with
 | none =>
  rw [v8z] at h;have:l.any p=false:=by rw [v8s];intro x hx;simp [h x hx]
  rw [this];rfl
 | some i =>
  have:l.any p=true:=by
   rw [v80] at h;obtain ⟨hi,hp,_⟩:=h;rw [List.any_eq_true];exact ⟨_,v88 hi,hp⟩
  rw [this];simp
theorem qq9 (l:List Value) (f:Value→Option Bool) (p:Value→Bool) (hf:∀x∈l,f x=some (p x)) (hl:l.length≤1073741824):qc6 l f=some (l.any p):=by
 simp only [qc6,quq l f p hf hl,v40,qjk]
def vbn:Int→List Row→Bool
 | _,[]=>true
 | a,r :: l=>decide (a < r.ID) && r.Values.all qkl && vbn r.ID l
theorem q9k (a b:Int):sgn b a=- sgn a b:=by unfold sgn;split <;> (try split) <;> (try split) <;> omega
theorem vbo:∀a b:List UInt8,q12 b a=- q12 a b
 | [],[]=>rfl
 | [],_ :: _=>rfl
 | _ :: _,[]=>rfl
 | x :: a,y :: b=>by
  simp only [q12];by_cases h:x=y
  ·subst h;simp [vbo a b]
  ·have h':¬y=x:=fun e=>h e.symm
   simp only [if_neg h,if_neg h'];exact q9k _ _
theorem vmr (a b:Value):qq8 b a=- qq8 a b:=by
 unfold qq8;rw [q9k a.Kind,q9k a.Num,vbo a.Str];split <;> (try split) <;> (try split) <;> (try split) <;> omega
def vth (cnt:Value→Int) (rule:Int) (v b:Value):Bool :=
 if rule=2 then decide (cnt v > cnt b) else if rule=3 then decide (v.Kind=2) && (decide (b.Kind≠2) || decide ((v.Str.length:Int) > b.Str.length))
 else if rule=4 then decide (qq8 v b < 0) else if rule=5 then decide (qq8 v b > 0) else false
def qb8 (r:Row) (a:Nat):Value:=r.Values.getD a ⟨0,0,[]⟩
def v1b (rows:List Row):Prop:=∀r∈rows,∀v∈r.Values,v.Str.length≤1073741824
def pickF {β:Type} (B:Value→Value→Bool) (o:Value×β) (x:Value×β):Value×β:=if B x.1 o.1 then x else o
def nn (rows:List Row) (a:Nat):List Row:=rows.filter fun r=>(qb8 r a).Kind != 0
def vbp (rows:List Row) (a:Nat) (rule:Int):Value×Int :=
 match nn rows a with
 | []=>(⟨0,0,[]⟩,(rows[0]?.map (·.ID)).getD 0)
 | r :: l=>(l.map fun x=>(qb8 x a,x.ID)).foldl (pickF (vth (fun x=>(((rows.map (qb8 · a)).countP (veq · x):Nat):Int)) rule)) (qb8 r a,r.ID)
structure RowsOk (rows:List Row):Prop where
 len:rows.length≤1073741824
 vals:∀r∈rows,r.Values.length≤1073741824
 short:v1b rows
def choice (rows:List Row) (attr rule:Int):Value×Int×Int :=
 if qzg rows≠0 then (⟨0,0,[]⟩,0,qzg rows)
 else if attr < 0∨((rows[0]?.map (·.Values.length)).getD 0:Nat)≤attr then (⟨0,0,[]⟩,0,6)
 else if vbn 0 rows=false∨rule < 1∨5 < rule then (⟨0,0,[]⟩,0,1)
 else ((vbp rows attr.toNat rule).1,(vbp rows attr.toNat rule).2,0)
theorem v1c (a b:List Int) (ha:a.length≤1073741824):qi9 a b=some (decide (a=b)):=by
 simp only [qi9];by_cases hl:a.length=b.length
 ·have hn:¬(((a.length:Int) != (b.length:Int))=true):=by simp;omega
  rw [if_neg hn];have key:∀(r:List Int) (k:Nat),a.drop k=r→k≤a.length→qaj (qe6 a b) (k:Int)=some (if r=b.drop k then .inl () else .inr false):=by
   intro r
   induction r with
   | nil =>
    intro k hd hk;have:k=a.length:=by
     have:=congrArg v71 hd;simp at this;omega
    subst this;have:b.drop a.length=[]:=by rw [hl];simp
    rw [this];exact qao (by simp [qe6])
   | cons x r ih =>
    intro k hd hk;have hx:a[k]?=some x:=by
     have:=congrArg (·[0]?) hd;simpa [v3c] using this
    have hd':a.drop (k+1)=r:=by rw [←v7y,hd];rfl
    have hlt:=qdf hx;obtain ⟨y,hy⟩:∃y,b[k]?=some y:=⟨_,v3d (by omega)⟩;have hb:b.drop k=y :: b.drop (k+1):=by
     rw [List.drop_eq_getElem_cons (by omega)];congr 1;exact (v3f.1 hy).2
    rw [hb];by_cases hxy:x=y
    ·subst hxy;rw [qaq (s':=((k+1:Nat):Int)) (by simp [qe6,qai hx,qaf hx,qaf hy,qbh hlt (by omega)]),ih (k+1) hd' hlt];simp
    ·rw [qao (t:=.inr false) (by simp [qe6,qai hx,qaf hx,qaf hy,hxy])];simp [hxy]
  have h0:=key a 0 (by simp) (v6w _);simp only [List.drop_zero,v8f] at h0;rw [h0];by_cases hab:a=b <;> simp [hab]
 ·have hn:(((a.length:Int) != (b.length:Int))=true):=by simp;omega
  rw [if_pos hn];have:a≠b:=fun e=>hl (by rw [e])
  simp [this]
def v1d (r:Int):Bool:=decide (1≤r) && decide (r≤5)
theorem qw4 (l:List Int) (f:Int→Option Bool) (p:Int→Bool) (hf:∀x∈l,f x=some (p x)) (hl:l.length≤1073741824):qet l f=some (match l.findIdx? p with | some i=>(i:Int) | none=>-1):=by
 have h:=qgx l (qcm l f) p
  (fun k x hx hk hp=>by simp [qcm,qai hx,qaf hx,hf x (v3x hx),hp,qbh hk (show l.length≤4611686018427387904 by omega)])
  (fun k x hx hp=>by simp [qcm,qai hx,qaf hx,hf x (v3x hx),hp])
  (by simp [qcm])
 simp only [qet,h,v40];cases l.findIdx? p <;> rfl
theorem qmu (l:List Int) (f:Int→Option Bool) (p:Int→Bool) (hf:∀x∈l,f x=some (p x)) (hl:l.length≤1073741824):qbz l f=some (l.any p):=by
 simp only [qbz,qw4 l f p hf hl,v40];exact congrArg some (qjk p l)
def stepM (rows:List Row) (b:List Value×List Int) (rule:Int):List Value×List Int:=(b.1++[(vbp rows b.1.length rule).1],b.2++[(vbp rows b.1.length rule).2])
def vip (rows:List Row) (rules:List Int):List Value×List Int:=rules.foldl (stepM rows) ([],[])
def merging (rows:List Row) (rules:List Int):(Row×List Int)×Int :=
 if qzg rows≠0 then ((⟨0,[]⟩,[]),qzg rows)
 else if rules.length≠(rows[0]?.map (·.Values.length)).getD 0 then ((⟨0,[]⟩,[]),6)
 else if vbn 0 rows=false∨rules.all v1d=false then ((⟨0,[]⟩,[]),1)
 else ((⟨(rows[0]?.map (·.ID)).getD 0,(vip rows rules).1⟩,(vip rows rules).2),0)
theorem q9l {α:Type} (p:α→Bool) (l:List α):(l.any fun x=>!p x)=!l.all p:=by simp [List.all_eq_not_any_not]
def qst (c:Int):Bool:=(decide (97≤c) && decide (c≤122)) || ((decide (65≤c) && decide (c≤90)) || c == 95)
theorem q6l (c : Int) : (show Option Bool from
            if c ≥ 97 then
              if c ≤ 122 then some true
              else if c ≥ 65 then if c ≤ 90 then some true else some (c == 95) else some (c == 95)
            else if c ≥ 65 then if c ≤ 90 then some true else some (c == 95) else some (c == 95)) = some (qst c) := by
  simp only [qst]
  by_cases h1 : 97 ≤ c <;> by_cases h2 : c ≤ 122 <;> by_cases h3 : 65 ≤ c <;> by_cases h4 : c ≤ 90 <;> simp [h1, h2, h3, h4]
def lod (c:UInt8):Bool:=qst c.toNat || (decide (48≤(c.toNat:Int)) && decide ((c.toNat:Int)≤57))
def qur:List UInt8→Bool
 | []=>false
 | c :: r=>decide (r.length < 24) && qst c.toNat && !((c :: r) == [110,117,108,108]) && r.all lod
theorem qzh (s:List UInt8):qjp s=some (qur s):=by
 cases s with
 | nil=>rfl
 | cons c r =>
  have hn:¬(((c :: r) == [])=true):=by simp
  simp only [qjp,if_neg hn];by_cases h24:((c :: r).length:Int) > 24
  ·have:¬r.length < 24:=by simp at h24;omega
   rw [if_pos h24];simp [qur,this]
  ·have h24':r.length < 24:=by simp at h24;omega
   rw [if_neg h24];by_cases hnull:((c :: r) == [110,117,108,108])=true
   ·simp only [hnull,if_true,qur];simp
   ·simp only [v79] at hnull;have hlet:∀x:UInt8,(show Option Bool from
      if ((x.toNat:Nat):Int)≥97 then
       if ((x.toNat:Nat):Int)≤122 then some true
       else if ((x.toNat:Nat):Int)≥65 then if ((x.toNat:Nat):Int)≤90 then some true else some (((x.toNat:Nat):Int) == 95) else some (((x.toNat:Nat):Int) == 95)
      else if ((x.toNat:Nat):Int)≥65 then if ((x.toNat:Nat):Int)≤90 then some true else some (((x.toNat:Nat):Int) == 95) else some (((x.toNat:Nat):Int) == 95))=some (qst x.toNat):=fun x=>q6l x.toNat
    have h:=qv1 (c :: r) (qgm (c :: r)) (fun k x=>qst x.toNat || (decide (k≠0) && (decide (48≤(x.toNat:Int)) && decide ((x.toNat:Int)≤57)))) false
     (fun k x hx hk hp=>by
      simp only [qgm,if_pos (qai hx),qaf hx,v40,hlet,qbh hk (by simp;omega)];by_cases hx1:qst x.toNat=true
      ·simp [hx1]
      ·simp only [v79] at hx1;simp only [hx1,Bool.false_or,v2m,decide_eq_true_eq] at hp;have e0:¬(((k:Int) == 0)=true):=by simp;omega
       have e1:¬(x.toNat:Int) < 48:=by omega
       have e2:¬(x.toNat:Int) > 57:=by omega
       simp [hx1,e0,e1,e2])
     (fun k x hx hp=>by
      simp only [qgm,if_pos (qai hx),qaf hx,v40,hlet];simp only [Bool.or_eq_false_iff,Bool.and_eq_false_iff,decide_eq_false_iff_not] at hp;simp only [hp.1,v2o,if_false];by_cases e0:k=0
      ·simp [e0]
      ·have e0':¬(((k:Int) == 0)=true):=by simp;omega
       by_cases e1:(x.toNat:Int) < 48
       ·simp [e1]
       ·have e2:(x.toNat:Int) > 57:=by
         rcases hp.2 with h | h | h
         ·exact absurd e0 h
         ·omega
         ·omega
        simp [e1,e2])
     (by simp [qgm]) (c :: r) 0 rfl (v6w _)
    simp only [v8f] at h;simp only [hnull,v2o,if_false,h,v40];have e:qih (fun k x=>qst x.toNat || (decide (k≠0) && (decide (48≤(x.toNat:Int)) && decide ((x.toNat:Int)≤57)))) 0 (c :: r)=(qst c.toNat && r.all lod):=by
     simp only [qih];rw [qun (q:=fun _ x=>lod x) r 1 (fun j x hj _=>by
      have hj0:j≠0:=by omega
      simp [lod,hj0]),qzf]
     simp
    rw [e];simp only [qur,h24',decide_true,v8b,hnull,v8a,v2n];cases qst c.toNat <;> cases r.all lod <;> rfl
def vkr:Option Nat→Int
 | some i=>i
 | none=>-1
theorem vbq {α:Type} (p:α→Bool) (l:List α):decide (vkr (l.findIdx? p)≥0)=l.any p:=by
 rw [←qjk];cases l.findIdx? p <;> rfl
theorem qzi (l:List (List UInt8)) (s:List UInt8) (hl:l.length≤1073741824):qfc l s=some (vkr (l.findIdx? (fun x=>s == x))):=by
 have h:=qgx l (qcv l s) (fun x=>s == x)
  (fun k x hx hk hp=>by simp only [qcv,if_pos (qai hx),qaf hx,v40,hp,v2o,if_false,if_true,qbh hk (show l.length≤4611686018427387904 by omega)])
  (fun k x hx hp=>by simp only [qcv,if_pos (qai hx),qaf hx,v40,hp,if_true])
  (by simp [qcv])
 simp only [qfc,h,v40];cases l.findIdx? (fun x=>s == x) <;> rfl
theorem qny (l:List (List UInt8)) (s:List UInt8) (hl:l.length≤1073741824):qd2 l s=some (l.any fun x=>s == x):=by
 simp only [qd2,qzi l s hl,v40];exact congrArg some (vbq _ l)
def qwq (l:List (List UInt8)):Bool:=qih (fun k x=>qur x && !(l.take k).any fun y=>x == y) 0 l
def qdv (n:Nat):Int→List Row→Int
 | _,[]=>0
 | a,r :: l=>if r.ID≤a then 1 else if r.Values.length≠n then 6 else if r.Values.all qkl then qdv n r.ID l else 1
def qcp (t:Table):Int :=
 if qur t.Name=false then 1 else if t.Attrs.length > 16 then 3 else if t.Rows.length > 1000 then 3 else if qwq t.Attrs=false then 1 else qdv t.Attrs.length 0 t.Rows
theorem q0t (l:List Value) (hl:l.length≤1073741824):qgn l=some (l.all qkl):=by
 simp only [qgn,qq9 l (fun y=>qd7 y) (fun v=>!qkl v) (fun y _=>by simp [qd7,qk2]) hl,v40,q9l,Bool.not_not]
theorem viq {B:Int×Int→Option (LS (Int×Int) (Unit ⊕ Int))} (rows:List Row) (n:Nat)
  (hB:∀(k:Nat) (a:Int) x,rows[k]?=some x→k < rows.length→B (a,(k:Int))=if x.ID≤a then some (.done (.inr 1)) else if x.Values.length≠n then some (.done (.inr 6)) else if x.Values.all qkl then some (.next (x.ID,((k+1:Nat):Int))) else some (.done (.inr 1)))
  (hE:∀a,B (a,(rows.length:Int))=some (.done (.inl ()))):∀(r:List Row) (k:Nat) (a:Int),rows.drop k=r→k≤rows.length→∃o,qaj B (a,(k:Int))=some o∧(match o with | .inl ()=>qdv n a r=0 | .inr z=>qdv n a r=z∧z≠0):=by
 intro r
 induction r with
 | nil =>
  intro k a hd hk;have:k=rows.length:=by
   have:=congrArg v71 hd;simp at this;omega
  subst this;exact ⟨.inl (),qao (hE a),rfl⟩
 | cons x r ih =>
  intro k a hd hk;have hx:rows[k]?=some x:=by
   have:=congrArg (·[0]?) hd;simpa [v3c] using this
  have hd':rows.drop (k+1)=r:=by rw [←v7y,hd];rfl
  have hlt:=qdf hx;have hb:=hB k a x hx hlt;by_cases h1:x.ID≤a
  ·rw [if_pos h1] at hb;exact ⟨_,qao hb,by simp [qdv,h1]⟩
  ·rw [if_neg h1] at hb;by_cases h2:x.Values.length≠n
   ·rw [if_pos h2] at hb;exact ⟨_,qao hb,by simp [qdv,h1,h2]⟩
   ·rw [if_neg h2] at hb;by_cases h3:x.Values.all qkl=true
    ·rw [if_pos h3] at hb;obtain ⟨o,h4,h5⟩:=ih (k+1) x.ID hd' hlt;refine ⟨o,by rw [qaq hb];exact h4,?_⟩;have e:qdv n a (x :: r)=qdv n x.ID r:=by
      simp only [qdv,if_neg h1,if_neg h2,if_pos h3]
     rw [e];exact h5
    ·rw [if_neg h3] at hb;exact ⟨_,qao hb,by simp only [qdv,if_neg h1,if_neg h2,if_neg h3];exact ⟨trivial,by omega⟩⟩
structure TableOk (t:Table):Prop where
 attrs:t.Attrs.length≤1073741824
 rows:t.Rows.length≤1073741824
 vals:∀r∈t.Rows,r.Values.length≤1073741824
 short:v1b t.Rows
theorem vbr {t:Table} (h:qtc t):TableOk t:=by
 obtain ⟨_,h2,h3⟩:=h;refine ⟨by have:=h2.1;omega,by have:=h3.1;omega,fun r hr=>?_,fun r hr v hv=>?_⟩
 ·have:=(h3.2 r hr).2.1;omega
 ·have:okS v.Str:=((h3.2 r hr).2.2 v hv).2.2;unfold okS at this;omega
theorem qe8 (t : Table) (H : TableOk t) : qfd t = some (qcp t) := by
  simp only [qfd, qzh, v40, qcp]
  by_cases h1 : qur t.Name = true
  · by_cases h2 : t.Attrs.length > 16
    · have : (t.Attrs.length : Int) > 16 := by omega
      simp [h1, h2, this]
    · have h2' : ¬ (t.Attrs.length : Int) > 16 := by omega
      by_cases h3 : t.Rows.length > 1000
      · have : (t.Rows.length : Int) > 1000 := by omega
        simp [h1, h2, h2', h3, this]
      · have h3' : ¬ (t.Rows.length : Int) > 1000 := by omega
        have hN := qv1 t.Attrs (qhn t) (fun k x => qur x && !(t.Attrs.take k).any fun y => x == y) 1
          (fun k x hx hk hp => by
            simp only [v2m, v2q] at hp
            have h0 : ((0 : Int) ≤ (k : Int)) := by omega
            have h1 : ((k : Int) ≤ (t.Attrs.length : Int)) := by omega
            have hA := H.attrs
            simp only [qhn, if_pos (qai hx), qaf hx, v40, qzh, hp.1, if_true, if_pos h0, if_pos h1, v8h, qny _ x (show (t.Attrs.take k).length ≤ 1073741824 by simp; omega), hp.2, v2o, if_false,
              qbh hk (show t.Attrs.length ≤ 4611686018427387904 by omega)])
          (fun k x hx hp => by
            have hk := qdf hx
            have h0 : ((0 : Int) ≤ (k : Int)) := by omega
            have h1 : ((k : Int) ≤ (t.Attrs.length : Int)) := by omega
            have hA := H.attrs
            simp only [qhn, if_pos (qai hx), qaf hx, v40, qzh, if_pos h0, if_pos h1, v8h, qny _ x (show (t.Attrs.take k).length ≤ 1073741824 by simp; omega)]
            rcases Bool.eq_false_or_eq_true (qur x) with hn | hn
            · simp only [hn, v8b, v78] at hp
              simp only [hn, if_true, hp]
            · simp [hn])
          (by simp [qhn]) t.Attrs 0 rfl (v6w _)
        simp only [v8f] at hN
        simp only [h1, if_true, if_neg h2', if_neg h3', hN, v40, v2s, if_false, if_neg h2, if_neg h3]
        have hNe : qwq t.Attrs = qih (fun k x => qur x && !(t.Attrs.take k).any fun y => x == y) 0 t.Attrs := rfl
        rw [← hNe]
        by_cases h4 : qwq t.Attrs = true
        · obtain ⟨o, h5, h6⟩ := viq (B := qi1 t) t.Rows t.Attrs.length (fun k a x hx hk => by
              simp only [qi1, if_pos (qai hx), qaf hx, v40, q0t _ (H.vals x (v3x hx)), qbh hk (show t.Rows.length ≤ 4611686018427387904 by have := H.rows; omega)]
              by_cases e1 : x.ID ≤ a
              · simp [e1]
              · by_cases e2 : x.Values.length = t.Attrs.length
                · simp [e1, e2]
                · have : ¬ ((x.Values.length : Int) = t.Attrs.length) := by omega
                  simp [e1, e2, this]) (fun a => by simp [qi1]) t.Rows 0 0 rfl (v6w _)
          simp only [v8f] at h5
          simp only [h4, if_true, h5, v40, v2s, if_false]
          cases o with
          | inl u => simp only at h6 ⊢; rw [h6]
          | inr z => simp only at h6 ⊢; rw [h6.1]
        · simp only [v79] at h4
          simp [h4]
  · simp only [v79] at h1
    simp [h1]
theorem v1e (l:List Int) (x:Int) (hl:l.length≤4611686018427387904):qi6 l x=some (decide (x∈l)):=by
 have h:=qlc l (qe3 l x) (fun y=>!(y == x)) true
  (fun k y hx hk hp=>by
   simp only [v2q] at hp;simp only [qe3,if_pos (qai hx),qaf hx,v40,hp,v2o,if_false,qbh hk hl])
  (fun k y hx hp=>by
   simp only [v78] at hp;simp only [qe3,if_pos (qai hx),qaf hx,v40,hp,if_true])
  (by simp [qe3])
 simp only [qi6,h,v40];by_cases hm:x∈l
 ·have:l.all (fun y=>!(y == x))=false:=by rw [List.all_eq_false];exact ⟨x,hm,by simp⟩
  simp [this,hm]
 ·have:l.all (fun y=>!(y == x))=true:=by
   rw [v5m];intro y hy;simp only [v2q,beq_eq_false_iff_ne];intro e;rw [e] at hy;exact hm hy
  simp [this,hm]
theorem q0u (l:List Int) (x:Int) (hl:l.length≤1073741824):qf8 l x=some (vkr (l.findIdx? (fun y=>x == y))):=by
 have h:=qgx l (qdl l x) (fun y=>x == y)
  (fun k y hx hk hp=>by simp only [qdl,if_pos (qai hx),qaf hx,v40,hp,v2o,if_false,if_true,qbh hk (show l.length≤4611686018427387904 by omega)])
  (fun k y hx hp=>by simp only [qdl,if_pos (qai hx),qaf hx,v40,hp,if_true])
  (by simp [qdl])
 simp only [qf8,h,v40];cases l.findIdx? (fun y=>x == y) <;> rfl
theorem qus {K V:Type} [DecidableEq K] (m:List (K×V)) (k x:K) (v:V):qnq (qrz m k v) x=if x=k then some v else qnq m x:=by
 induction m with
 | nil=>simp [qrz,qnq]
 | cons p r ih =>
  obtain ⟨a,u⟩:=p;simp only [qrz];by_cases h:k=a
  ·subst h;simp only [if_pos,qnq];by_cases hx:x=k <;> simp [hx]
  ·simp only [if_neg h,qnq,ih];by_cases hx:x=a
   ·subst hx;have:¬x=k:=fun e=>h e.symm
    simp [this]
   ·simp [hx]
def Holds (m:List (Int×Bool)) (all:List Int):Prop:=∀x,qnq m x=if x∈all then some true else none
end Go.Proofs.YtkebadaokhljmaaGreatDoor
namespace Go.Ab
open Go
variable {α κ:Type} [DecidableEq κ]
def q6m (key:α→κ) (ks:List κ) (x:α):List κ:=if key x∈ks then ks else ks++[key x]
def qg1 (key:α→κ) (l:List α):List κ:=l.foldl (q6m key) []
def qbs (key:α→κ) (l:List α):List (List α):=(qg1 key l).map fun k=>l.filter fun x=>decide (key x=k)
theorem q13 (key:α→κ):qg1 key []=[]:=rfl
theorem qkx (key:α→κ) (l:List α) (x:α):qg1 key (l++[x])=q6m key (qg1 key l) x:=by
 unfold qg1;rw [v81];rfl
theorem qzj (key:α→κ):qbs key ([]:List α)=[]:=rfl
theorem qxq {P:List α→Prop} (h0:P []) (h1:∀l x,P l→P (l++[x])) (l:List α):P l:=by
 have key:∀r:List α,P r.reverse:=by
  intro r
  induction r with
  | nil=>exact h0
  | cons x r ih=>rw [List.reverse_cons];exact h1 _ _ ih
 have:=key l.reverse
 rwa [List.reverse_reverse] at this
theorem qmh (key:α→κ) (l:List α) (k:κ):k∈qg1 key l↔∃x∈l,key x=k:=by
 induction l using qxq with
 | h0=>simp [q13]
 | h1 l x ih =>
  rw [qkx];unfold q6m;constructor
  ·intro h;split at h
   ·obtain ⟨y,hy,e⟩:=ih.1 h;exact ⟨y,by simp [hy],e⟩
   ·rcases v3v.1 h with h | h
    ·obtain ⟨y,hy,e⟩:=ih.1 h;exact ⟨y,by simp [hy],e⟩
    ·exact ⟨x,by simp,by simpa [eq_comm] using h⟩
  ·rintro ⟨y,hy,e⟩;rcases v3v.1 hy with hy | hy
   ·have:=ih.2 ⟨y,hy,e⟩;split
    ·exact this
    ·exact List.mem_append_left _ this
   ·have:y=x:=by simpa using hy
    subst this;subst e;split
    ·assumption
    ·simp
theorem qwr (key:α→κ) (l:List α):(qg1 key l).Nodup:=by
 induction l using qxq with
 | h0=>simp [q13]
 | h1 l x ih =>
  rw [qkx];unfold q6m;split
  ·exact ih
  ·rename_i hn;rw [v9e];exact ⟨ih,by simp,fun a ha b hb=>by
    have:b=key x:=by simpa using hb
    subst this;intro e;subst e;exact hn ha⟩
theorem qpo (p:α→Bool) (l:List α) (x:α):(l++[x]).filter p=if p x then l.filter p++[x] else l.filter p:=by
 rw [v8t];by_cases h:p x=true <;> simp [h]
theorem qpp (key:α→κ) (l:List α) (x:α) (h:key x ∉ qg1 key l):qbs key (l++[x])=qbs key l++[[x]]:=by
 unfold qbs;rw [qkx,q6m,if_neg h,v3s];congr 1
 ·refine v59 fun k hk=>?_
  rw [qpo,if_neg];simp only [decide_eq_true_eq];intro e;subst e;exact h hk
 ·simp only [v3t,List.map_nil];rw [qpo,if_pos (by simp)];have:l.filter (fun y=>decide (key y=key x))=[]:=by
   rw [v8w];intro y hy;simp only [decide_eq_true_eq];intro e;exact h ((qmh key l _).2 ⟨y,hy,e⟩)
  rw [this];rfl
theorem qpq (key:α→κ) (l:List α) (x:α) {j:Nat} (h:(qg1 key l)[j]?=some (key x)) :
  qbs key (l++[x])=(qbs key l).set j ((l.filter fun y=>decide (key y=key x))++[x])∧(qbs key l)[j]?=some (l.filter fun y=>decide (key y=key x)):=by
 have hm:key x∈qg1 key l:=v3x h;refine ⟨?_,by unfold qbs;rw [v3g,h];rfl⟩;unfold qbs;rw [qkx,q6m,if_pos hm];apply v27;intro i;rw [v3g,v86];by_cases hi:j=i
 ·subst hi;have hlt:=(v3f.1 h).1;rw [if_pos rfl,if_pos (by simpa using hlt),h];simp only [v49];rw [qpo,if_pos (by simp)]
 ·rw [if_neg hi,v3g];cases hk:(qg1 key l)[i]? with
  | none=>rfl
  | some k =>
   simp only [v49];rw [qpo,if_neg];simp only [decide_eq_true_eq];intro e;have hnd:=qwr key l;have hjl:=(v3f.1 h).1;exact hi ((v84 hjl hnd).1 (by rw [h,hk,e]))
theorem qtd (key:α→κ) (l:List α) (c:List α):c∈qbs key l↔∃x∈l,c=l.filter fun y=>decide (key y=key x):=by
 unfold qbs;rw [v6h];constructor
 ·rintro ⟨k,hk,rfl⟩;obtain ⟨x,hx,rfl⟩:=(qmh key l k).1 hk;exact ⟨x,hx,rfl⟩
 ·rintro ⟨x,hx,rfl⟩;exact ⟨key x,(qmh key l _).2 ⟨x,hx,rfl⟩,rfl⟩
end Go.Ab
namespace Go.Ab
open Go
theorem q6n (n:Nat):v68.wrap (n:Int)=((n % 4294967296:Nat):Int):=by
 simp only [v8m,v8l,v8i,v74,v2o,if_false];rw [show ((2:Int) ^ 32)=4294967296 from rfl];omega
theorem qnz {n:Int} (h1:0≤n) (h2:n≤18446744073709551615):v7w.wrap n=n:=by
 simp only [v8m,v8l,v8i];simp only [v74,v2o,if_false];rw [show ((2:Int) ^ 64)=18446744073709551616 from rfl];omega
theorem vir {a b:Nat} (ha:a < 4294967296) (hb:b < 4294967296):v68.wrap ((BitVec.ofInt 32 (a:Int) &&& BitVec.ofInt 32 (b:Int)).toNat:Int)=((a &&& b:Nat):Int):=by
 rw [vhd,BitVec.toNat_and,quf ha,quf hb]
theorem q6o {a b:Nat} (ha:a < 4294967296) (hb:b < 4294967296):v68.wrap ((BitVec.ofInt 32 (a:Int) ||| BitVec.ofInt 32 (b:Int)).toNat:Int)=((a ||| b:Nat):Int):=by
 rw [vhd,BitVec.toNat_or,quf ha,quf hb]
def qw5 (a b:Nat):Nat:=a ^^^ (a &&& b)
theorem qow (a b i:Nat):(qw5 a b).testBit i=(a.testBit i && !b.testBit i):=by
 unfold qw5;rw [v94,v9z];cases a.testBit i <;> cases b.testBit i <;> rfl
theorem vms {a b:Nat} (ha:a < 4294967296) (hb:b < 4294967296):v68.wrap ((BitVec.ofInt 32 (a:Int) &&& ~~~ BitVec.ofInt 32 (b:Int)).toNat:Int)=((qw5 a b:Nat):Int):=by
 rw [vhd];congr 1;apply v9r;intro i;rw [qow];rw [BitVec.testBit_toNat,BitVec.getLsbD_and,BitVec.getLsbD_not,←BitVec.testBit_toNat,←BitVec.testBit_toNat,quf ha,quf hb];by_cases hi:i < 32
 ·simp [hi]
 ·have:a.testBit i=false:=v90 (v4r ha (by
   have:2 ^ 32≤2 ^ i:=v9v (by omega) (by omega);exact this))
  simp [this]
theorem vmt {a:Nat} (ha:a < 4294967296):v68.wrap ((BitVec.ofInt 32 (a:Int) &&& (1#32)).toNat:Int)=((a % 2:Nat):Int):=by
 rw [vhd,BitVec.toNat_and,quf ha];congr 1;have:(1#32).toNat=1:=rfl;rw [this,Nat.and_one_is_mod]
theorem qzk {i:Nat} (h:i < 32):2 ^ i < 4294967296:=Nat.pow_lt_pow_right (by omega) h
theorem vmu {i:Nat} (h:i < 32):v68.wrap (1 * 2 ^ (min i 32))=((2 ^ i:Nat):Int):=by
 rw [v6s (by omega),Int.one_mul];have:((2:Int) ^ i)=((2 ^ i:Nat):Int):=by simp
 rw [this];have h2:=qzk h;generalize 2 ^ i=p at h2 ⊢;exact qxk (by omega) (by omega)
theorem q9m (a i:Nat):(((a / 2 ^ i % 2:Nat):Int) == 1)=a.testBit i:=by
 rw [Nat.testBit_eq_decide_div_mod_eq,v73];simp only [beq_iff_eq,decide_eq_true_eq];omega
theorem vis {a:Nat} (ha:a < 4294967296) {i:Nat} (hi:i≤32):((v68.wrap ((BitVec.ofInt 32 (v7t (a:Int) (2 ^ (min i 32))) &&& (1#32)).toNat:Int)) == 1)=a.testBit i:=by
 rw [v6s hi,qnt,vmt (v9s (Nat.div_le_self _ _) ha),q9m]
theorem vti {a n:Nat} (h:∀i,n≤i→a.testBit i=false):a < 2 ^ n:=Nat.lt_pow_two_of_testBit a h
theorem qzl {a n i:Nat} (h:a < 2 ^ n) (hi:n≤i):a.testBit i=false:=v90 (v4r h (v9v (by omega) hi))
theorem v1f {a b:Nat} (ha:a < 4294967296) (hb:b < 4294967296):a ||| b < 4294967296:=Nat.or_lt_two_pow (n:=32) ha hb
theorem vmv {a b:Nat} (ha:a < 4294967296):qw5 a b < 4294967296:=by
 refine vti (n:=32) fun i hi=>?_
 rw [qow,qzl (n:=32) ha hi];rfl
def setN (l:List Nat):Nat:=l.foldl (fun s x=>s ||| 2 ^ x) 0
theorem qut (i:Nat):∀(l:List Nat) (s:Nat),(l.foldl (fun s x=>s ||| 2 ^ x) s).testBit i=(s.testBit i || decide (i∈l))
 | [],s=>by simp
 | x :: l,s=>by
  rw [v82,qut i l,Nat.testBit_or,v92];by_cases h:i=x
  ·subst h;simp
  ·have:decide (x=i)=false:=by simp;exact fun e=>h e.symm
   rw [this];simp [h]
theorem vmw (l:List Nat) (i:Nat):(setN l).testBit i=decide (i∈l):=by unfold setN;rw [qut];simp
theorem q9n (m i:Nat):(2 * m+1).testBit (i+1)=m.testBit i:=by
 rw [v91];congr 1;omega
theorem q6p (m i:Nat):(2 * m).testBit (i+1)=m.testBit i:=by
 rw [v91];congr 1;omega
theorem vtj {n:Nat} (h0:n≠0) (h:n < 4294967296):∃k,k < 32∧n.testBit k=true∧n &&& (4294967296 - n)=2 ^ k∧(∀j,(n &&& (n - 1)).testBit j=(n.testBit j && decide (j≠k)))∧n &&& (n - 1) < n:=by
 obtain ⟨m,hm,hk⟩:=v8o 32 n (by omega) h;generalize Lib.ctzFrom 32 n=k at hm hk;have hp:0 < 2 ^ k:=v9w (by omega);have b1:∀j,n.testBit j=if j < k then false else (2 * m+1).testBit (j - k):=by
  intro j;have:=v93 (2 * m+1) (b:=0) hp j;rw [Nat.add_zero,←hm] at this;rw [this];simp
 have e1:n - 1=2 ^ k * (2 * m)+(2 ^ k - 1):=by
  rw [hm,Nat.mul_add,Nat.mul_one];omega
 have b2:∀j,(n - 1).testBit j=if j < k then (2 ^ k - 1).testBit j else (2 * m).testBit (j - k):=by
  intro j;rw [e1];exact v93 (2 * m) (b:=2 ^ k - 1) (by omega) j
 have hbits:∀j,(n &&& (n - 1)).testBit j=(n.testBit j && decide (j≠k)):=by
  intro j;rw [v9z,b1,b2];by_cases hj:j < k
  ·simp [hj]
  ·simp only [if_neg hj];by_cases hjk:j=k
   ·subst hjk;simp
   ·obtain ⟨i,hi⟩:∃i,j - k=i+1:=⟨j - k - 1,by omega⟩;rw [hi,q9n,q6p];simp [hjk]
 refine ⟨k,hk,?_,?_,hbits,?_⟩
 ·rw [b1,if_neg (by omega),Nat.sub_self];simp
 ·have:=Lib.and_neg 32 k m (by rw [←hm];exact h);rw [←hm] at this;exact this
 ·exact v9s Nat.and_le_right (by omega)
def qe9 (n:Nat):List Nat:=(v34 32).filter fun k=>n.testBit k
theorem v1g:∀k:Nat,k < 32→qm8.getD (2 ^ k * 125613361 % 4294967296 / 134217728) 0=(k:Int):=by decide +kernel
theorem vit {n k:Nat} (hk:n.testBit k=true) (h:n &&& (4294967296 - n)=2 ^ k) (hn:n < 4294967296):∀j,j < k→n.testBit j=false:=by
 have hk32:k < 32:=by
  apply Classical.byContradiction;intro hc;rw [qzl (n:=32) hn (by omega)] at hk;cases hk
 obtain ⟨m,hm,_⟩:=v8o 32 n (by rcases Nat.eq_zero_or_pos n with e | e;(subst e;simp at hk);exact e) hn;generalize Lib.ctzFrom 32 n=i at hm;have hp:0 < 2 ^ i:=v9w (by omega);have b1:∀j,n.testBit j=if j < i then false else (2 * m+1).testBit (j - i):=by
  intro j;have:=v93 (2 * m+1) (b:=0) hp j;rw [Nat.add_zero,←hm] at this;rw [this];simp
 have h2:=Lib.and_neg 32 i m (by rw [←hm];exact hn);rw [←hm] at h2;have h3:(2:Nat) ^ i=2 ^ k:=by rw [←h];exact h2.symm
 have hik:i=k:=(Nat.pow_right_inj (by omega)).1 h3;intro j hj;rw [b1,if_pos (by omega)]
theorem vmx {n k:Nat} (hk:n.testBit k=true) (h:n &&& (4294967296 - n)=2 ^ k) (hk32:k < 32):vvg n=(k:Int):=by
 have h0:n≠0:=by intro e;subst e;simp at hk
 unfold vvg tzI;rw [if_neg h0,h];exact v1g k hk32
theorem viu {n k:Nat} (hk32:k < 32) (hk:n.testBit k=true) (hl:∀j,j < k→n.testBit j=false) (hb:∀j,(n &&& (n - 1)).testBit j=(n.testBit j && decide (j≠k))):qe9 n=k :: qe9 (n &&& (n - 1)):=by
 unfold qe9;have e:v34 32=v34 k++k :: (v34 (31 - k)).map fun i=>k+1+i:=by
  apply v27;intro i;by_cases h1:i < k
  ·rw [List.getElem?_append_left (by simpa using h1),v85 h1,v85 (by omega)]
  ·rw [v3b (by simpa using h1),v54];by_cases h2:i=k
   ·subst h2;simp [hk32]
   ·obtain ⟨d,hd⟩:∃d,i - k=d+1:=⟨i - k - 1,by omega⟩;rw [hd,List.getElem?_cons_succ,v3g];by_cases h3:i < 32
    ·rw [v85 h3,v85 (by omega)];simp;omega
    ·rw [v3e (by simp;omega),v3e (by simp;omega)];rfl
 rw [e,v8t,v8t,v8v,v8v,if_pos hk,hb k];simp only [ne_eq,not_true_eq_false,decide_false,Bool.and_false,v2o,if_false];have e1:(v34 k).filter (fun j=>n.testBit j)=[]:=by
  rw [v8w];intro j hj;rw [hl j (v6j.1 hj)];simp
 have e2:(v34 k).filter (fun j=>(n &&& (n - 1)).testBit j)=[]:=by
  rw [v8w];intro j hj;rw [hb,hl j (v6j.1 hj)];simp
 rw [e1,e2,v33,v33];congr 1;apply v8u;intro j hj;obtain ⟨i,_,rfl⟩:=v6h.1 hj;rw [hb];have:k+1+i≠k:=by omega
 simp [this]
theorem qn0 {n k:Nat} (h:k∈qe9 n):k < 32∧n.testBit k=true:=by
 unfold qe9 at h;rw [v6g,v6j] at h;exact h
theorem qra (n:Nat):(qe9 n).length≤32:=by
 unfold qe9;exact v4q (v51 _ _) (by simp)
end Go.Ab
namespace Go.Proofs.YtkebadaokhljmaaGreatDoor
open Go Go.Ab
theorem q6q:∀(n:Nat) (out:List Int),n < 4294967296→out.length+(qe9 n).length≤1000→qaj qf1 ((n:Int),out)=some (out++(qe9 n).map fun (k:Nat)=>(k:Int)):=by
 intro n
 induction n using Nat.strongRecOn with
 | ind n ih =>
  intro out hn ho;by_cases h0:n=0
  ·subst h0;rw [qao (t:=out) (by simp [qf1])];have:qe9 0=[]:=by decide
   rw [this];simp
  ·obtain ⟨k,hk,hkb,hlow,hb,hlt⟩:=vtj h0 hn;have hl:=vit hkb hlow hn;have hcons:=viu hk hkb hl hb;have htz:=vmx hkb hlow hk;have h1:(((n:Int)) != 0)=true:=by simp;omega
   have h2:qgf (n:Int)=some (k:Int):=by
    simp only [qgf];rw [if_pos (by omega),v8h,htz]
   have h3:qbi (out.length+1) 8=true:=qw2 (by omega);have h4:v68.wrap ((n:Int) - 1)=((n - 1:Nat):Int):=by
    have:(n:Int) - 1=((n - 1:Nat):Int):=by omega
    rw [this,q6n,Nat.mod_eq_of_lt (by omega)]
   have h5:=vir (a:=n) (b:=n - 1) hn (by omega);rw [hcons,v5y] at ho;rw [qaq (s':=(((n &&& (n - 1):Nat):Int),out++[(k:Int)])) (by simp only [qf1,h1,if_true,h2,v40,h3,h4,h5])];rw [ih _ hlt _ (by omega) (by rw [v3l,v56];omega),hcons];simp
theorem qte {n:Nat} (hn:n < 4294967296):qfe (n:Int)=some ((qe9 n).map fun (k:Nat)=>(k:Int)):=by
 have:=qra n;simp only [qfe,q6q n [] hn (by simp;omega),v40,v33]
end Go.Proofs.YtkebadaokhljmaaGreatDoor
namespace Go.Ab
open Go
def vpk (u:Nat):List UInt8:=[56,48,40,32,24,16,8,0].map fun s=>UInt8.ofNat (u / 2 ^ s)
def qv2:List UInt8→List UInt8
 | []=>[]
 | c :: s=>if c=0 then 0 :: 255 :: qv2 s else c :: qv2 s
theorem q6r (x:Nat):(UInt8.ofNat x).toNat=x % 256:=by rw [UInt8.toNat_ofNat']
theorem vbs {u v:Nat} (hu:u < 18446744073709551616) (hv:v < 18446744073709551616) (h:vpk u=vpk v):u=v:=by
 unfold vpk at h;simp only [v3t,List.map_nil,v2y.injEq,and_true] at h;obtain ⟨h1,h2,h3,h4,h5,h6,h7,h8⟩:=h;have k:∀{x y:Nat},UInt8.ofNat x=UInt8.ofNat y→x % 256=y % 256:=fun e=>by rw [←q6r,e,q6r]
 have k1:=k h1;have k2:=k h2;have k3:=k h3;have k4:=k h4;have k5:=k h5;have k6:=k h6;have k7:=k h7;have k8:=k h8;simp only [Nat.reducePow,Nat.div_one] at k1 k2 k3 k4 k5 k6 k7 k8;omega
theorem quu (u:Nat):(vpk u).length=8:=rfl
theorem q9o:∀(s t:List UInt8) (x y:List UInt8),qv2 s++(0 :: 1 :: x)=qv2 t++(0 :: 1 :: y)→s=t∧x=y
 | [],[],x,y,h=>by simpa [qv2] using h
 | [],c :: t,x,y,h=>by
  exfalso;unfold qv2 at h;split at h <;> simp [qv2] at h;rename_i hc;exact hc h.1.symm
 | c :: s,[],x,y,h=>by
  exfalso;unfold qv2 at h;split at h <;> simp [qv2] at h;rename_i hc;exact hc h.1
 | c :: s,d :: t,x,y,h=>by
  unfold qv2 at h;by_cases hc:c=0 <;> by_cases hd:d=0
  ·subst hc;subst hd;simp at h;obtain ⟨h1,h2⟩:=q9o s t x y h;exact ⟨by rw [h1],h2⟩
  ·rw [if_pos hc,if_neg hd] at h;simp at h;exact absurd h.1.symm hd
  ·rw [if_neg hc,if_pos hd] at h;simp at h;exact absurd h.1 hc
  ·rw [if_neg hc,if_neg hd] at h;simp at h;obtain ⟨h1,h2⟩:=q9o s t x y h.2;exact ⟨by rw [h.1,h1],h2⟩
theorem q9p (s t:List UInt8):qv2 (s++t)=qv2 s++qv2 t:=by
 induction s with
 | nil=>rfl
 | cons c s ih =>
  simp only [v5p,qv2];split <;> simp [ih]
theorem q31 (s:List UInt8):(qv2 s).length≤2 * s.length:=by
 induction s with
 | nil=>simp [qv2]
 | cons c s ih=>unfold qv2;split <;> simp <;> omega
end Go.Ab
namespace Go.Proofs.YtkebadaokhljmaaGreatDoor
open Go Go.Ab
def qp8 (n:Int):Nat:=(n+9223372036854775808).toNat
def q14 (v:Value):List UInt8:=UInt8.ofNat v.Kind.toNat :: (if v.Kind=1∨v.Kind=3 then vpk (qp8 v.Num) else if v.Kind=2 then qv2 v.Str++[0,1] else [])
def q32 (v:Value):Prop:=-9223372036854775808≤v.Num∧v.Num≤9223372036854775807
theorem qpr {v:Value} (h:qkl v=true):(v.Kind=0∧v.Num=0∧v.Str=[])∨(v.Kind=1∧v.Str=[])∨(v.Kind=2∧v.Num=0∧v.Str.length≤200)∨(v.Kind=3∧1≤v.Num∧v.Str=[]):=by
 simpa [qkl] using h
theorem q15 {a b:Int} (ha:-9223372036854775808≤a) (hb:-9223372036854775808≤b) (h:qp8 a=qp8 b):a=b:=by
 unfold qp8 at h;omega
theorem quv {a:Int} (h:a≤9223372036854775807):qp8 a < 18446744073709551616:=by unfold qp8;omega
theorem qps {α:Type}:∀{a b x y:List α},a.length=b.length→a++x=b++y→a=b∧x=y
 | [],[],_,_,_,h=>⟨rfl,h⟩
 | _ :: a,_ :: b,x,y,hl,h=>by
  simp only [v5p,v2y.injEq] at h;obtain ⟨h1,h2⟩:=qps (by simpa using hl) h.2;exact ⟨by rw [h.1,h1],h2⟩
theorem vmy {v w:Value} (hv:qkl v=true) (hw:qkl w=true) (nv:q32 v) (nw:q32 w) {x y:List UInt8} (h:q14 v++x=q14 w++y):v=w∧x=y:=by
 obtain ⟨k,n,s⟩:=v;obtain ⟨k',n',s'⟩:=w;have h1:=qpr hv;have h2:=qpr hw;unfold q32 at nv nw;simp only at h1 h2 nv nw;unfold q14 at h;simp only [v5p,v2y.injEq] at h;obtain ⟨hk,h⟩:=h;have hkn:k.toNat % 256=k'.toNat % 256:=by rw [←q6r,hk,q6r]
 have hkk:k=k':=by omega
 subst hkk;rcases h1 with ⟨rfl,rfl,rfl⟩ | ⟨rfl,rfl⟩ | ⟨rfl,rfl,_⟩ | ⟨rfl,_,rfl⟩
 ·rcases h2 with ⟨_,rfl,rfl⟩ | ⟨e,_⟩ | ⟨e,_⟩ | ⟨e,_⟩
  ·simp at h;exact ⟨rfl,h⟩
  all_goals cases e
 ·rcases h2 with ⟨e,_⟩ | ⟨_,rfl⟩ | ⟨e,_⟩ | ⟨e,_⟩
  ·cases e
  ·simp only [true_or,if_true] at h;obtain ⟨e1,e2⟩:=qps (by rw [quu,quu]) h;have:=q15 nv.1 nw.1 (vbs (quv nv.2) (quv nw.2) e1);exact ⟨by rw [this],e2⟩
  all_goals cases e
 ·rcases h2 with ⟨e,_⟩ | ⟨e,_⟩ | ⟨_,rfl,_⟩ | ⟨e,_⟩
  ·cases e
  ·cases e
  ·have hc:¬((2:Int)=1∨(2:Int)=3):=by omega
   simp only [hc,if_false,if_true,v2w,v5p,v33] at h;obtain ⟨e1,e2⟩:=q9o _ _ _ _ h;exact ⟨by rw [e1],e2⟩
  ·cases e
 ·rcases h2 with ⟨e,_⟩ | ⟨e,_⟩ | ⟨e,_⟩ | ⟨_,_,rfl⟩
  ·cases e
  ·cases e
  ·cases e
  ·simp only [or_true,if_true] at h;obtain ⟨e1,e2⟩:=qps (by rw [quu,quu]) h;have:=q15 nv.1 nw.1 (vbs (quv nv.2) (quv nw.2) e1);exact ⟨by rw [this],e2⟩
theorem vmz {v:Value} (h:qkl v=true):(q14 v).length≤403:=by
 unfold q14;have:=q31 v.Str;rcases qpr h with ⟨h1,_⟩ | ⟨h1,_⟩ | ⟨h1,_,h2⟩ | ⟨h1,_⟩ <;> simp [h1,quu] <;> omega
def qnc (l:List UInt8):List Int:=l.map fun c=>((c.toNat:Nat):Int)
theorem qrb (l:List UInt8):qhp (qnc l)=l:=by
 unfold qhp qnc;rw [List.map_map]
 conv=>rhs;rw [←List.map_id l]
 apply v59;intro c _;simp
theorem qws (n:Nat):v7w.wrap (n:Int)=((n % 18446744073709551616:Nat):Int):=by
 simp only [v8m,v8l,v8i,v74,v2o,if_false];rw [show ((2:Int) ^ 64)=18446744073709551616 from rfl];omega
theorem q6s {n:Int} (h1:-9223372036854775808≤n) (h2:n≤9223372036854775807):v7w.wrap n=(((n % 18446744073709551616).toNat:Nat):Int):=by
 simp only [v8m,v8l,v8i,v74,v2o,if_false];rw [show ((2:Int) ^ 64)=18446744073709551616 from rfl];omega
theorem vtk {x:Nat} (h:x < 18446744073709551616):x ^^^ 9223372036854775808=(x+9223372036854775808) % 18446744073709551616:=by
 have hx:x=2 ^ 63 * (x / 9223372036854775808)+x % 9223372036854775808:=by
  rw [show (2:Nat) ^ 63=9223372036854775808 from rfl];omega
 have hl:x % 9223372036854775808 < 2 ^ 63:=by
  rw [show (2:Nat) ^ 63=9223372036854775808 from rfl];omega
 have hh:x / 9223372036854775808=0∨x / 9223372036854775808=1:=by omega
 have key:x ^^^ 9223372036854775808=2 ^ 63 * ((x / 9223372036854775808) ^^^ 1)+x % 9223372036854775808:=by
  apply v9r;intro j;rw [v94,v93 _ hl]
  conv=>lhs;rw [hx]
  rw [v93 _ hl,show (9223372036854775808:Nat)=2 ^ 63 from rfl,v92];by_cases hj:j < 63
  ·have:¬(63=j):=by omega
   simp [hj,this]
  ·simp only [if_neg hj,v94];congr 1;by_cases h63:63=j
   ·subst h63;simp
   ·obtain ⟨d,hd⟩:∃d,j - 63=d+1:=⟨j - 64,by omega⟩;rw [hd,v91];simp [h63]
 rw [key,show (2:Nat) ^ 63=9223372036854775808 from rfl];rcases hh with h0 | h0
 ·rw [h0];simp only [Nat.zero_xor];omega
 ·rw [h0];simp only [Nat.xor_self];omega
theorem key_u {n:Int} (h1:-9223372036854775808≤n) (h2:n≤9223372036854775807):v7w.wrap ((BitVec.ofInt 64 (v7w.wrap n) ^^^ (9223372036854775808#64)).toNat:Int)=((qp8 n:Nat):Int):=by
 rw [q6s h1 h2,BitVec.toNat_xor,BitVec.ofInt_natCast,BitVec.toNat_ofNat,BitVec.toNat_ofNat];have e1:(n % 18446744073709551616).toNat % 2 ^ 64=(n % 18446744073709551616).toNat:=by
  rw [show (2:Nat) ^ 64=18446744073709551616 from rfl];omega
 have e2:9223372036854775808 % 2 ^ 64=9223372036854775808:=by decide
 rw [e1,e2,vtk (by omega),qws];unfold qp8;omega
theorem vtl (x:Nat):v7x.wrap (x:Int)=(((UInt8.ofNat x).toNat:Nat):Int):=by
 rw [q6r];simp only [v8m,v8l,v8i,v74,v2o,if_false];rw [show ((2:Int) ^ 8)=256 from rfl];omega
theorem vbt {v:Value} (hv:q32 v) {B:List Int×Int→Option (LS (List Int×Int) (List Int))}
  (hB:∀(out:List Int) (shift:Int),B (out,shift)=if shift≥0 then (if shift < 0 then none else if qbi (out.length+1) 1=true then some (.next ((out++[(v7x.wrap (v7t (v7w.wrap ((BitVec.ofInt 64 (v7w.wrap v.Num) ^^^ (9223372036854775808#64)).toNat:Int)) (2 ^ (min (shift).toNat 64))))]),(v67.wrap (shift - 8)))) else none) else some (.done out)) (k:Int) :
  qaj B ([k],56)=some (k :: qnc (vpk (qp8 v.Num))):=by
 have hroom:∀n:Nat,n≤10→qbi n 1=true:=fun n hn=>qbq (by omega) (by omega)
 have step:∀(out:List Int) (s:Nat),out.length≤9→s≤56→B (out,(s:Int))=some (.next (out++[(((UInt8.ofNat (qp8 v.Num / 2 ^ s)).toNat:Nat):Int)],v67.wrap ((s:Int) - 8))):=by
  intro out s ho hs;rw [hB,if_pos (by omega),if_neg (by omega),if_pos (hroom _ (by omega)),key_u hv.1 hv.2,v8h,v6s (by omega),qnt,vtl]
 have w:∀s:Nat,8≤s→s≤56→v67.wrap ((s:Int) - 8)=((s - 8:Nat):Int):=fun s h1 h2=>by
  rw [qbx (by omega) (by omega)];omega
 have e:∀s:Nat,((s:Nat):Int)=(s:Int):=fun _=>rfl
 rw [show (56:Int)=((56:Nat):Int) from rfl,qaq (step _ 56 (by simp) (by omega)),w 56 (by omega) (by omega)];rw [qaq (step _ _ (by simp) (by omega)),w _ (by omega) (by omega)];rw [qaq (step _ _ (by simp) (by omega)),w _ (by omega) (by omega)];rw [qaq (step _ _ (by simp) (by omega)),w _ (by omega) (by omega)];rw [qaq (step _ _ (by simp) (by omega)),w _ (by omega) (by omega)];rw [qaq (step _ _ (by simp) (by omega)),w _ (by omega) (by omega)];rw [qaq (step _ _ (by simp) (by omega)),w _ (by omega) (by omega)];rw [qaq (step _ _ (by simp) (by omega)),qao (t:=[k]++[_]++[_]++[_]++[_]++[_]++[_]++[_]++[_]) (by rw [hB,if_neg];rw [qbx (by omega) (by omega)];omega)];rfl
theorem vtm (c:UInt8):(((c.toNat:Nat):Int) == 0)=decide (c=0):=by
 rw [v73];simp only [beq_iff_eq,decide_eq_true_eq,←UInt8.toNat_inj];constructor
 ·intro h;have:c.toNat=0:=by omega
  rw [this];rfl
 ·intro h;rw [h];rfl
theorem qzm (a:List UInt8):(qnc a).length=a.length:=by simp [qnc]
theorem vm0 (v:Value) (hl:v.Str.length≤200) (k:UInt8):qaj (qjr v) ([((k.toNat:Nat):Int)],0)=some (qnc (k :: qv2 v.Str)):=by
 have h:=qdu v.Str (fun (o:List UInt8) i=>(qnc o,i)) (qjr v) (fun o c=>o++qv2 [c]) (fun o=>qnc o) (fun j o=>o.length≤2 * j+1) (b0:=[k]) (s0:=([((k.toNat:Nat):Int)],0)) rfl (by simp)
  (fun j o c hc hj hI=>by
   have hw:=qbh hj (by omega);have r1:qbi ((qnc o).length+1) 1=true:=qbq (by rw [qzm];omega) (by omega);have r2:qbi (((qnc o).length+1)+1) 1=true:=qbq (by rw [qzm];omega) (by omega);refine ⟨?_,by have:=q31 [c];simp at this ⊢;omega⟩;simp only [qjr,qai hc,if_true,qaf hc,v40,r1,r2,vtm,hw];by_cases h0:c=0
   ·subst h0;simp [qv2,qnc]
   ·simp [qv2,qnc,h0])
  (fun o _=>by simp [qjr])
 rw [h];congr 2;have:∀(s o:List UInt8),s.foldl (fun o c=>o++qv2 [c]) o=o++qv2 s:=by
  intro s
  induction s with
  | nil=>intro o;simp [qv2]
  | cons c s ih =>
   intro o;rw [v82,ih,v2w];have:=q9p [c] s;simp only [List.singleton_append] at this;rw [this]
 rw [this];rfl
theorem q6t {v:Value} (h:qkl v=true) (hn:q32 v):qou v=some (q14 v,0):=by
 have hk:=qpr h;simp only [qou,qk2,h,v40,if_true];have l1:=vbt (B:=qq4 v) hn (fun _ _=>rfl);have l2:=vbt (B:=qq5 v) hn (fun _ _=>rfl);have w1:v7x.wrap 1=1:=by decide
 have w2:v7x.wrap 2=(((2:UInt8).toNat:Nat):Int):=by decide
 have w3:v7x.wrap 3=3:=by decide
 rcases hk with ⟨hk,_⟩ | ⟨hk,_⟩ | ⟨hk,_,hs⟩ | ⟨hk,_⟩
 ·simp only [hk];simp [q14,hk,qhp];decide
 ·simp only [hk,w1,l1];simp only [beq_self_eq_true,if_true,v40];have:(1:Int) :: qnc (vpk (qp8 v.Num))=qnc (q14 v):=by simp [q14,hk,qnc]
  rw [this,qrb]
 ·simp only [hk];have c1:((2:Int) == 1)=false:=by decide
  have c2:((2:Int) == 3)=false:=by decide
  simp only [c1,c2,v2o,if_false,beq_self_eq_true,if_true,w2,vm0 v hs,v40];have hl:=q31 v.Str;have hr:qbi ((qnc (2 :: qv2 v.Str)).length+2) 1=true:=qbq (by rw [qzm,v5y];omega) (by omega);rw [if_pos hr];have:qnc (2 :: qv2 v.Str)++[0,1]=qnc (q14 v):=by simp [q14,hk,qnc]
  rw [this,qrb]
 ·simp only [hk,w3,l2];have c1:((3:Int) == 1)=false:=by decide
  simp only [c1,v2o,if_false,beq_self_eq_true,if_true,v40];have:(3:Int) :: qnc (vpk (qp8 v.Num))=qnc (q14 v):=by simp [q14,hk,qnc]
  rw [this,qrb]
end Go.Proofs.YtkebadaokhljmaaGreatDoor
namespace Go.Ab
open Go
end Go.Ab
namespace Go.Proofs.YtkebadaokhljmaaGreatDoor
open Go Go.Ab
end Go.Proofs.YtkebadaokhljmaaGreatDoor
namespace Go.Ab
open Go
def comm {α:Type} (lt:α→α→Bool):List α→List α→Nat
 | [],_=>0
 | _ :: _,[]=>0
 | a :: u,b :: v=>if lt a b then comm lt u (b :: v) else if lt b a then comm lt (a :: u) v else comm lt u v+1
termination_by l r=>l.length+r.length
end Go.Ab
namespace Go.Proofs.YtkebadaokhljmaaGreatDoor
open Go Go.Ab
abbrev Str:=List UInt8
def vfl {α:Type} (n k:Nat) (f:Nat→α) (z:α):List α:=(v34 n).map fun j=>if j < k then f j else z
theorem q33 {α:Type} {n k j:Nat} {f:Nat→α} {z:α} (h:j < n):(vfl n k f z)[j]?=some (if j < k then f j else z):=by
 unfold vfl;rw [v3g,v85 h];rfl
theorem vm1 {α:Type} {n k:Nat} {f:Nat→α} {z:α} (h:k < n):(vfl n k f z).set k (f k)=vfl n (k+1) f z:=by
 apply v27;intro j;by_cases hj:j < n
 ·rw [v86,q33 hj,q33 hj];by_cases hk:k=j
  ·subst hk;simp [vfl,hj]
  ·rw [if_neg hk];congr 1;by_cases h1:j < k
   ·rw [if_pos h1,if_pos (by omega)]
   ·rw [if_neg h1,if_neg (by omega)]
 ·rw [v3e (by simp [vfl];omega),v3e (by simp [vfl];omega)]
theorem viv {α:Type} {n:Nat} {f:Nat→α} {z:α}:vfl n 0 f z=v4a n z:=by
 unfold vfl;apply List.ext_getElem (by simp);intro i h1 h2;simp
theorem qzn {α τ:Type} (C:τ):∀l:List α,qze (fun (_:Unit) (_:α)=>(Sum.inl ():Unit ⊕ τ)) (fun _=>C) l ()=C
 | []=>rfl
 | x :: l=>qzn C l
def lexN (x y:Nat):Prop:=va4 x < va4 y∨(va4 x=va4 y∧x < y)
instance (x y:Nat):Decidable (lexN x y):=by unfold lexN;exact inferInstance
def qzo (n:Int) (l:List Int):Bool:=decide (l.length≤8) && l.all fun a=>decide (0≤a) && decide (a < n)
def qmv (n:Int) (d:OD):Bool:=qzo n d.Lhs && qzo n d.Rhs
theorem viw (n:Int) (l:List Int) (hl:l.length≤1073741824):qim n l=some (qzo n l):=by
 have h:=qmu l (fun y=>qgo y n) (fun a=>decide (a < 0) || decide (n≤a)) (fun x _=>by
  simp only [qgo];by_cases h:x < 0 <;> simp [h]) hl
 simp only [qim,h,v40,qzo];by_cases hc:(l.length:Int)≤8
 ·rw [if_pos hc,decide_eq_true (show l.length≤8 by omega),v8b];congr 1;rw [v73];simp only [v2q,v8s,v5m,v2r,decide_eq_true_eq,v2m,not_or];exact ⟨fun h x hx=>by have:=h x hx;omega,fun h x hx=>by have:=h x hx;omega⟩
 ·rw [if_neg hc,decide_eq_false (show ¬l.length≤8 by omega)];rfl
theorem vbu (n:Int) (d:OD) (h1:d.Lhs.length≤1073741824) (h2:d.Rhs.length≤1073741824):qgc n d=some (qmv n d):=by
 simp only [qgc,viw n _ h1,viw n _ h2,v40,qmv];cases qzo n d.Lhs <;> simp
def vwo (a:Row) (l:List Int):Prop:=∀i∈l,0≤i∧i < (a.Values.length:Int)
theorem vbv {a:Row} {l:List Int} (h:vwo a l) {i:Int} (hi:i∈l):idx a.Values i=some (qb8 a i.toNat):=by
 obtain ⟨h1,h2⟩:=h i hi;have hg:a.Values[i.toNat]?=some (qb8 a i.toNat):=by
  have hlt:i.toNat < a.Values.length:=by omega
  simp [qb8,v83,v3d hlt]
 have:=qaf hg
 rwa [Int.toNat_of_nonneg h1] at this
def v1h (a:Row):Prop:=∀v∈a.Values,v.Str.length≤1073741824
def qtf (a b:Row):List Int→Int
 | []=>0
 | i :: l=>if qq8 (qb8 a i.toNat) (qb8 b i.toNat)≠0 then qq8 (qb8 a i.toNat) (qb8 b i.toNat) else qtf a b l
theorem q16 (a b:Row):∀l:List Int,qze (fun (_:Unit) i=>if qq8 (qb8 a i.toNat) (qb8 b i.toNat)≠0 then Sum.inr (Sum.inr (qq8 (qb8 a i.toNat) (qb8 b i.toNat)):Unit ⊕ Int) else Sum.inl ()) (fun _=>Sum.inl ()) l ()=if qtf a b l≠0 then .inr (qtf a b l) else .inl ()
 | []=>rfl
 | i :: l=>by
  simp only [qze,qtf];by_cases h:qq8 (qb8 a i.toNat) (qb8 b i.toNat)≠0
  ·simp [h]
  ·simp only [if_neg h];exact q16 a b l
theorem q17 (a b:Row) (l:List Int) (ha:vwo a l) (hb:vwo b l) (hl:l.length≤1073741824):qfq a b l=some (qtf a b l):=by
 have h:=qr3 l (fun (_:Unit) i=>i) (qea a b l) (fin:=fun _=>Sum.inl ()) (I:=fun _ _=>True) (b0:=()) (s0:=0) rfl trivial
  (f:=fun (_:Unit) i=>if qq8 (qb8 a i.toNat) (qb8 b i.toNat)≠0 then Sum.inr (Sum.inr (qq8 (qb8 a i.toNat) (qb8 b i.toNat)):Unit ⊕ Int) else Sum.inl ())
  (fun k u i hx hk _=>by
   have hm:=v3x hx;have e:qea a b l (k:Int)=if (qq8 (qb8 a i.toNat) (qb8 b i.toNat) != 0)=true then some (.done (.inr (qq8 (qb8 a i.toNat) (qb8 b i.toNat)))) else some (.next ((k+1:Nat):Int)):=by
    simp only [qea,if_pos (qai hx),qaf hx,vbv ha hm,vbv hb hm,qll,v40,qbh hk (show l.length≤4611686018427387904 by omega)]
   rw [e];by_cases h0:qq8 (qb8 a i.toNat) (qb8 b i.toNat)=0
   ·simp [h0]
   ·simp [h0])
  (fun _ _=>by simp [qea])
 rw [q16] at h;simp only [qfq,h,v40];by_cases h0:qtf a b l=0 <;> simp [h0]
theorem qzp (a b:Int):sgn a b=-1∨sgn a b=0∨sgn a b=1:=by
 unfold sgn;by_cases h:a < b
 ·simp [h]
 ·by_cases k:b < a <;> simp [h,k]
theorem q18:∀a b:List UInt8,q12 a b=-1∨q12 a b=0∨q12 a b=1
 | [],[]=>by simp [q12]
 | [],_ :: _=>by simp [q12]
 | _ :: _,[]=>by simp [q12]
 | x :: a,y :: b=>by
  simp only [q12];by_cases h:x=y
  ·rw [if_pos h];exact q18 a b
  ·rw [if_neg h];exact qzp _ _
theorem vei (a b:Value):qq8 a b=-1∨qq8 a b=0∨qq8 a b=1:=by
 unfold qq8;split;· exact qzp _ _
 split;· exact qzp _ _
 exact q18 _ _
theorem qv3 (a b:Row):∀l:List Int,qtf a b l=-1∨qtf a b l=0∨qtf a b l=1
 | []=>by simp [qtf]
 | i :: l=>by
  simp only [qtf];split
  ·exact vei _ _
  ·exact qv3 a b l
def q0v (a b:Row) (d:OD):Int:=if qtf a b d.Lhs=0∧qtf a b d.Rhs≠0 then 1 else if qtf a b d.Lhs * qtf a b d.Rhs < 0 then 2 else 0
structure FitsD (a:Row) (d:OD):Prop where
 lhs:vwo a d.Lhs
 rhs:vwo a d.Rhs
structure LenD (d:OD):Prop where
 lhs:d.Lhs.length≤1073741824
 rhs:d.Rhs.length≤1073741824
theorem vm2 (a b:Row) (d:OD):v67.wrap (qtf a b d.Lhs * qtf a b d.Rhs)=qtf a b d.Lhs * qtf a b d.Rhs:=by
 rcases qv3 a b d.Lhs with h | h | h <;> rcases qv3 a b d.Rhs with k | k | k <;> rw [h,k] <;> rfl
theorem vtn (a b:Row) (d:OD) (ha:FitsD a d) (hb:FitsD b d) (hl:LenD d):qj6 a b d=some (q0v a b d):=by
 simp only [qj6,q17 a b _ ha.lhs hb.lhs hl.lhs,q17 a b _ ha.rhs hb.rhs hl.rhs,v40,vm2,q0v];by_cases h:qtf a b d.Lhs=0
 ·by_cases k:qtf a b d.Rhs=0 <;> simp [h,k]
 ·by_cases k:qtf a b d.Lhs * qtf a b d.Rhs < 0 <;> simp [h,k]
def vej (d:OD) (a:Row) (out:List (List Int)) (b:Row):List (List Int):=if (q0v a b d != 0)=true then out++[[a.ID,b.ID]] else out
def qzq (d:OD) (a:Row) (l:List Row):List (List Int):=(l.filter fun b=>q0v a b d != 0).map fun b=>[a.ID,b.ID]
def qtg (d:OD):List Row→List (List Int)
 | []=>[]
 | a :: r=>qzq d a r++qtg d r
theorem q19 (d:OD) (a:Row):∀(l:List Row) (out:List (List Int)),l.foldl (vej d a) out=out++qzq d a l
 | [],out=>by simp [qzq]
 | b :: l,out=>by
  rw [v82,q19 d a l];unfold vej qzq;by_cases h:(q0v a b d != 0)=true
  ·rw [if_pos h,v8v,if_pos h];simp
  ·rw [if_neg h,v8v,if_neg h]
theorem vix (d:OD) (a:Row) (out:List (List Int)) (b:Row):(vej d a out b).length≤out.length+1:=by unfold vej;split <;> simp
theorem q6u (d:OD) (a:Row) (l:List Row):(qzq d a l).length≤l.length:=by
 unfold qzq;rw [v3n];exact v51 _ _
theorem q6v (d:OD):∀l:List Row,(qtg d l).length≤l.length * l.length
 | []=>v4o _
 | a :: r=>by
  simp only [qtg,v3l,v5y];have h1:=q6u d a r;have h2:=q6v d r;have:(r.length+1) * (r.length+1)=r.length * r.length+2 * r.length+1:=by
   rw [Nat.add_mul,Nat.mul_add];omega
  omega
theorem drop_take {α:Type} (l:List α) (n:Nat):(l.drop n).take (l.length - n)=l.drop n:=by
 apply v4e;rw [v3m];exact v4o _
theorem q6w (k:Nat):((k:Int)).toNat=k:=v8h k
structure RowsD (rows:List Row) (d:OD):Prop where
 len:rows.length≤1000
 fits:∀r∈rows,FitsD r d
 short:∀r∈rows,v1h r
 lenD:LenD d
theorem vek (t:Table) (d:OD) (H:RowsD t.Rows d) (k:Nat) (a:Row) (hk:t.Rows[k]?=some a) (out:List (List Int)) (ho:out.length≤1000000) :
  qaj (qcw t d k a) (out,0)=some (out++qzq d a (t.Rows.drop (k+1))):=by
 have hkl:=qdf hk;have hlen:=H.len;have h:=qdu (t.Rows.drop (k+1)) (fun (o:List (List Int)) i=>(o,i)) (qcw t d k a) (vej d a) id (fun j o=>o.length≤out.length+j) (b0:=out) (s0:=(out,0)) rfl (v4o _)
  (fun j o b hx hj hI=>by
   refine ⟨?_,v4q (vix d a o b) (by omega)⟩;have hb:b∈t.Rows:=v3y (v3x hx);have ha:a∈t.Rows:=v3x hk;have hjl:j < 1000:=by rw [v3m] at hj;omega
   simp only [qcw,wqn k,q6w,drop_take,if_pos (qai hx),qaf hx,v40,vtn a b d (H.fits a ha) (H.fits b hb) H.lenD,wqn j,vej];by_cases hm:(q0v a b d != 0)=true
   ·simp [hm,qbq (show o.length+1≤1073741824 by omega) (show 24≤65536 by omega)]
   ·simp [hm])
  (fun o _=>by
   simp only [qcw,wqn k,q6w,drop_take];simp)
 rw [h,id,q19]
theorem q2a (t:Table) (d:OD) (H:RowsD t.Rows d):∀(r:List Row) (k:Nat) (out:List (List Int)),t.Rows.drop k=r→k≤t.Rows.length→out.length≤k * 1000 →
  qaj (qcx t d) (out,(k:Int))=some (out++qtg d r)
 | [],k,out,hd,hk,ho=>by
  have:k=t.Rows.length:=by have:=congrArg v71 hd;simp at this;omega
  subst this;exact qao (by simp [qcx,qtg])
 | a :: r,k,out,hd,hk,ho=>by
  have hx:t.Rows[k]?=some a:=by
   have:=congrArg (·[0]?) hd;simpa [v3c] using this
  have hkl:=qdf hx;have hlen:=H.len;have hd':t.Rows.drop (k+1)=r:=by rw [←v7y,hd];rfl
  have hin:=vek t d H k a hx out (by omega);rw [hd'] at hin;have hrl:r.length≤1000:=by rw [←hd',v3m];omega
  have hstep:qcx t d (out,(k:Int))=some (.next (out++qzq d a r,((k+1:Nat):Int))):=by
   simp only [qcx,if_pos (qai hx),qaf hx,v40,wqn k,if_pos (show (0:Int)≤((k+1:Nat):Int) by omega),if_pos (show ((k+1:Nat):Int)≤(t.Rows.length:Int) by omega),hin]
  rw [qaq hstep,q2a t d H r (k+1) (out++qzq d a r) hd' hkl (by have:=q6u d a r;rw [v3l];omega)];simp [qtg]
def qv4 (t:Table) (d:OD):Int:=if qcp t≠0 then qcp t else if qmv t.Attrs.length d=true then 0 else 1
theorem vm3 (t:Table) (d:OD) (H:TableOk t) (hl:LenD d) (f:Int→Option Bool) (hf:f (t.Attrs.length:Int)=some (qmv t.Attrs.length d)):qi2 t f=some (qv4 t d):=by
 simp only [qi2,qe8 t H,v40,hf,qv4];by_cases h:qcp t=0
 ·simp only [h,bne_self_eq_false,v2o,if_false,ne_eq,not_true_eq_false];cases qmv t.Attrs.length d <;> simp
 ·simp [h]
theorem qn1:∀(n:Nat) (a:Int) (l:List Row),qdv n a l=0→(∀r∈l,r.Values.length=n∧r.Values.all qkl=true∧a < r.ID)∧l.Pairwise (fun x y=>x.ID < y.ID)
 | n,a,[],_=>⟨fun r hr=>(by cases hr),v8p.nil⟩
 | n,a,x :: l,h=>by
  simp only [qdv] at h;by_cases h1:x.ID≤a
  ·simp [h1] at h
  by_cases h2:x.Values.length≠n
  ·simp [h1,h2] at h
  by_cases h3:x.Values.all qkl=true
  ·rw [if_neg h1,if_neg h2,if_pos h3] at h;obtain ⟨k1,k2⟩:=qn1 n x.ID l h;refine ⟨fun r hr=>?_,v8p.cons (fun y hy=>(k1 y hy).2.2) k2⟩;rcases v6d.1 hr with rfl | hr
   ·exact ⟨by omega,h3,by omega⟩
   ·have:=k1 r hr;exact ⟨this.1,this.2.1,by omega⟩
  ·rw [if_neg h1,if_neg h2,if_neg h3] at h;cases h
theorem qrc {t:Table} (h:qcp t=0):t.Attrs.length≤16∧t.Rows.length≤1000∧qdv t.Attrs.length 0 t.Rows=0:=by
 unfold qcp at h;by_cases h1:qur t.Name=false
 ·simp [h1] at h
 by_cases h2:t.Attrs.length > 16
 ·rw [if_neg h1,if_pos h2] at h;cases h
 by_cases h3:t.Rows.length > 1000
 ·rw [if_neg h1,if_neg h2,if_pos h3] at h;cases h
 by_cases h4:qwq t.Attrs=false
 ·rw [if_neg h1,if_neg h2,if_neg h3,if_pos h4] at h;cases h
 rw [if_neg h1,if_neg h2,if_neg h3,if_neg h4] at h;exact ⟨by omega,by omega,h⟩
theorem vel {t:Table} {d:OD} (h:qv4 t d=0):qcp t=0∧qmv t.Attrs.length d=true:=by
 unfold qv4 at h;by_cases h1:qcp t≠0
 ·rw [if_pos h1] at h;exact absurd h h1
 ·rw [if_neg h1] at h;by_cases h2:qmv t.Attrs.length d=true
  ·exact ⟨by omega,h2⟩
  ·rw [if_neg h2] at h;cases h
theorem viy {n:Nat} {l:List Int} {a:Row} (h:qzo n l=true) (ha:a.Values.length=n):vwo a l:=by
 intro i hi;simp only [qzo,v2m,v5m,decide_eq_true_eq] at h;have:=h.2 i hi;omega
theorem vm4 {t:Table} {d:OD} (h:qv4 t d=0) (H:TableOk t) (hl:LenD d):RowsD t.Rows d:=by
 obtain ⟨h1,h2⟩:=vel h;obtain ⟨_,h3,h4⟩:=qrc h1;simp only [qmv,v2m] at h2;exact ⟨h3,fun r hr=>⟨viy h2.1 ((qn1 _ _ _ h4).1 r hr).1,viy h2.2 ((qn1 _ _ _ h4).1 r hr).1⟩,fun r hr=>H.short r hr,hl⟩
theorem quw (t:Table) (d:OD) (H:TableOk t) (hl:LenD d):qch t d=some (if qv4 t d=0 then (qtg d t.Rows,0) else ([],qv4 t d)):=by
 simp only [qch,vm3 t d H hl (fun y=>qcg y d) (show qcg (t.Attrs.length:Int) d=_ by simp only [qcg,vbu _ d hl.lhs hl.rhs,v40]),v40];by_cases h:qv4 t d=0
 ·have:=q2a t d (vm4 h H hl) t.Rows 0 [] rfl (v6w _) (v6w _);simp only [h,bne_self_eq_false,v2o,if_false,if_true];rw [show (0:Int)=((0:Nat):Int) from rfl,this];rfl
 ·simp [h]
def vpl (d:OD):List Row→Option (Row×Row)
 | []=>none
 | a :: r=>match r.find? (fun b=>q0v a b d != 0) with
  | some b=>some (a,b)
  | none=>vpl d r
def v1i (t:Table) (d:OD):Int×Int×Int×Bool :=
 if qv4 t d=0 then match vpl d t.Rows with | some (a,b)=>(a.ID,b.ID,q0v a b d,true) | none=>(0,0,0,false) else (0,0,0,false)
def v1j (s i:Int):Bool:=(v68.wrap ((BitVec.ofInt 32 (v7t s (2 ^ (min i.toNat 32))) &&& (1#32)).toNat:Int)) == 1
def mx (a b:Int):Int:=if b > a then b else a
theorem q6x {n:Int} {l:List Int} (h:qzo n l=true):l.length≤8∧∀z∈l,0≤z∧z < n:=by
 simp only [qzo,v2m,decide_eq_true_eq,v5m] at h;exact h
theorem qzr {α:Type} (p:Nat→α→Bool):∀(l:List α) (k:Nat),qih p k l=true↔∀(j:Nat) (x:α),l[j]?=some x→p (k+j) x=true
 | [],k=>by simp [qih]
 | y :: r,k=>by
  simp only [qih,v2m,qzr p r (k+1)];constructor
  ·rintro ⟨h1,h2⟩ j x hx;cases j with
   | zero=>simp at hx;subst hx;exact h1
   | succ j =>
    have:=h2 j x (by simpa using hx)
    rwa [v4h,Nat.add_comm 1] at this
  ·intro h;refine ⟨h 0 y rfl,fun j x hx=>?_⟩;have:=h (j+1) x (by simpa using hx)
   rwa [v4h,Nat.add_comm 1]
theorem q6y {α:Type} [DecidableEq α] (a b:List α) (h:a.length=b.length):qih (fun k x=>decide (b[k]?=some x)) 0 a=decide (a=b):=by
 rw [v73,qzr,decide_eq_true_eq];simp only [Nat.zero_add,decide_eq_true_eq];constructor
 ·intro hh;apply v27 ;intro i;by_cases hi:i < a.length
  ·rw [v3d hi];exact (hh i _ (v3d hi)).symm
  ·rw [v3e (by omega),v3e (by omega)]
 ·rintro rfl j x hx;exact hx
theorem q0w (l:List Int) (h:l.length≤1073741824):qht l=some l:=by
 unfold qht;rw [if_pos (qbq (by omega) (by omega))]
structure KR (t:Table) (rows:List Row) (rules:List Int):Prop where
 ok:RowsOk rows
 ne:rows≠[]
 err:qzg rows=0
 okr:vbn 0 rows=true
 lens:∀r∈rows,r.Values.length=t.Attrs.length
theorem viz {α:Type} [DecidableEq α] (a b:List α) (h:a.length=b.length) {B:Int→Option (LS Int (Unit ⊕ Bool))}
  (hB:∀(k:Nat) x y,a[k]?=some x→b[k]?=some y→B (k:Int)=if decide (x=y)=true then some (.next ((k+1:Nat):Int)) else some (.done (.inr false)))
  (hE:B (a.length:Int)=some (.done (.inl ()))):qaj B 0=some (if decide (a=b) then .inl () else .inr false):=by
 have hl:=qv1 a B (fun k x=>decide (b[k]?=some x)) false
  (fun k x hx hk hp=>by
   simp only [decide_eq_true_eq] at hp;rw [hB k x x hx hp];simp)
  (fun k x hx hp=>by
   have hk:=qdf hx;have hb:b[k]?=some (b[k]'(by omega)):=v3d (by omega);rw [hb] at hp;simp only [v5a,decide_eq_false_iff_not] at hp;rw [hB k x _ hx hb,if_neg];simp only [decide_eq_true_eq];exact fun e=>hp e.symm) hE a 0 rfl (v6w _)
 simp only [v8f,q6y a b h] at hl;exact hl
theorem qsu (a b:List Int) (ha:a.length≤1073741824):qem a b=some (decide (a=b)):=by
 simp only [qem];by_cases h:a.length=b.length
 ·have e:¬(((a.length:Int) != (b.length:Int))=true):=by simp [h]
  rw [if_neg e,viz a b h (fun k x y hx hy=>by
   have hk:=qdf hx;simp only [qf3,if_pos (qai hx),qaf hx,qaf hy,v40,qbh hk (show a.length≤4611686018427387904 by omega)];by_cases hxy:x=y <;> simp [hxy]) (by simp [qf3])]
  by_cases hab:a=b <;> simp [hab]
 ·have e:(((a.length:Int) != (b.length:Int))=true):=by rw [bne_iff_ne];omega
  rw [if_pos e];have:a≠b:=fun hh=>h (by rw [hh])
  simp [this]
def hd (l:List (List Int)) (i:Nat):Int:=(l.getD i []).headD 0
theorem qzs (n:Nat):∀(l:List Row) (a:Int),(∀r∈l,a < r.ID∧r.Values.length=n∧r.Values.all qkl=true)→l.Pairwise (fun r q=>r.ID < q.ID)→qdv n a l=0
 | [],_,_,_=>rfl
 | r :: l,a,h,hp=>by
  obtain ⟨h1,h2,h3⟩:=h r (by simp);rw [v9g] at hp;simp only [qdv];rw [if_neg (by omega),if_neg (by simp [h2]),if_pos h3];exact qzs n l r.ID (fun q hq=>⟨hp.1 q hq,(h q (by simp [hq])).2⟩) hp.2
theorem q6z {α:Type} {B:List α×Int→Option (LS (List α×Int) (List α))} (N:Nat) (f:Nat→α)
  (hB:∀(k:Nat) (out:List α),k < N→out.length=k→B (out,(k:Int))=some (.next (out++[f k],((k+1:Nat):Int))))
  (hE:∀out:List α,B (out,(N:Int))=some (.done out)):qaj B ([],0)=some ((v34 N).map f):=by
 have key:∀(r k:Nat) (out:List α),k+r=N→out.length=k→qaj B (out,(k:Int))=some (out++(List.range' k r).map f):=by
  intro r
  induction r with
  | zero =>
   intro k out hk ho;have:k=N:=by omega
   subst this;rw [qao (hE out)];simp
  | succ r ih =>
   intro k out hk ho;rw [qaq (hB k out (by omega) ho),ih (k+1) _ (by omega) (by simp [ho])];simp [v9k]
 have h:=key N 0 [] (by omega) rfl;simp only [v8f,v33] at h;rw [h,v38]
theorem vto (c:Int):∃v,qda c=some v∧qkl v=true∧v.Str.length≤2:=by
 unfold qda;by_cases h0:(v7u c 12 == 0)=true
 ·rw [if_pos h0];exact ⟨_,rfl,by decide,by decide⟩
 rw [if_neg h0];by_cases h1:(v7u c 12 == 1)=true
 ·rw [if_pos h1];exact ⟨_,rfl,by decide,by decide⟩
 rw [if_neg h1];by_cases h2:(v7u c 12 == 2)=true
 ·rw [if_pos h2];exact ⟨_,rfl,by decide,by decide⟩
 rw [if_neg h2];by_cases h3:(v7u c 12 == 3)=true
 ·rw [if_pos h3];exact ⟨_,rfl,by decide,by decide⟩
 rw [if_neg h3];by_cases h4:(v7u c 12 == 4)=true
 ·rw [if_pos h4];exact ⟨_,rfl,by decide,by decide⟩
 rw [if_neg h4];by_cases h5:(v7u c 12 == 5)=true
 ·rw [if_pos h5];exact ⟨_,rfl,by decide,by decide⟩
 rw [if_neg h5];by_cases h6:(v7u c 12 == 6)=true
 ·rw [if_pos h6];exact ⟨_,rfl,by decide,by decide⟩
 rw [if_neg h6];by_cases h7:(v7u c 12 == 7)=true
 ·rw [if_pos h7];exact ⟨_,rfl,by decide,by decide⟩
 rw [if_neg h7];by_cases h8:(v7u c 12 == 8)=true
 ·rw [if_pos h8];exact ⟨_,rfl,by decide,by decide⟩
 rw [if_neg h8];by_cases h9:(v7u c 12 == 9)=true
 ·rw [if_pos h9];exact ⟨_,rfl,by decide,by decide⟩
 rw [if_neg h9];by_cases h10:(v7u c 12 == 10)=true
 ·rw [if_pos h10];exact ⟨_,rfl,by decide,by decide⟩
 rw [if_neg h10];exact ⟨_,rfl,by decide,by decide⟩
def ofV (c:Int):Value:=(qda c).getD ⟨0,0,[]⟩
theorem qux (c:Int):qda c=some (ofV c)∧qkl (ofV c)=true∧(ofV c).Str.length≤2:=by
 obtain ⟨v,h1,h2,h3⟩:=vto c;have:ofV c=v:=by unfold ofV;rw [h1];rfl
 rw [this];exact ⟨h1,h2,h3⟩
def v1k (x:Drossref03_Recipe) (i k:Nat):Value:=ofV (((x.Rows.getD i []).getD k 0))
def qsd (x:Drossref03_Recipe):Nat:=1+x.Gap.toNat % 3
def vbw (x:Drossref03_Recipe) (n i:Nat):Row:=⟨((1+i * qsd x:Nat):Int),(v34 n).map (v1k x i)⟩
def qox:List (List UInt8):=[[97],[98],[99],[100],[101],[102],[103],[104]]
def vbx (x:Drossref03_Recipe) (n:Nat):Table:=⟨[114],qox.take n,(v34 x.Rows.length).map (vbw x n)⟩
theorem vem (x:Drossref03_Recipe) (n i:Nat) (hn:n≤8) (hi:i < x.Rows.length) (hl:∀r∈x.Rows,r.length≤1048576) :
  qaj (qfx x (n:Int) (i:Int)) ([],0)=some ((v34 n).map (v1k x i)):=by
 have hx:x.Rows[i]?=some (x.Rows.getD i []):=by simp [v83,v3d hi]
 have hxl:=hl _ (v3x hx);refine q6z n (v1k x i) (fun k out hk ho=>?_) (fun out=>by simp [qfx]);have hk':((k:Int) < (n:Int)):=by omega
 have hroom:qbi (out.length+1) 32=true:=qbq (by omega) (by omega);have hw:=qcd (k:=k) (by omega);simp only [qfx,if_pos hk',qaf hx,v40];by_cases h:k < (x.Rows.getD i []).length
 ·have h':((k:Int) < ((x.Rows.getD i []).length:Int)):=by omega
  have hg:(x.Rows.getD i [])[k]?=some ((x.Rows.getD i []).getD k 0):=by
   generalize x.Rows.getD i []=l at h;simp [v83,v3d h]
  simp only [if_pos h',qaf hg,v40,(qux _).1,hroom,if_true,hw];rfl
 ·have h':¬((k:Int) < ((x.Rows.getD i []).length:Int)):=by omega
  have hg:(x.Rows.getD i []).getD k 0=0:=by
   generalize x.Rows.getD i []=l at h;simp [v83,v3e (show l.length≤k by omega)]
  simp only [if_neg h',(qux _).1,v40,hroom,if_true,hw];unfold v1k;rw [hg]
theorem vtp (x:Drossref03_Recipe) (n:Nat) (hn:n≤8) (hr:x.Rows.length≤8) (hl:∀r∈x.Rows,r.length≤1048576) (hg:0≤x.Gap∧x.Gap≤255):qh4 x (n:Int)=some (vbx x n):=by
 have h1:(0:Int)≤(n:Int):=by omega
 have h2:(n:Int)≤8:=by omega
 have hroom:qbi ((qox.take n).length) 16=true:=qbq (by simp;omega) (by omega);have ho:qaj (qfy x (n:Int)) ([],0)=some ((v34 x.Rows.length).map (vbw x n)):=by
  refine q6z x.Rows.length (vbw x n) (fun i out hi ho=>?_) (fun out=>by simp [qfy]);have hi':((i:Int) < (x.Rows.length:Int)):=by omega
  have hroom:qbi (out.length+1) 32=true:=qbq (by omega) (by omega);have hm:v7u x.Gap 3=((x.Gap.toNat % 3:Nat):Int):=by
   rw [v8g hg.1];omega
  have e1:v67.wrap (v7u x.Gap 3)=((x.Gap.toNat % 3:Nat):Int):=by rw [hm,qbx (by omega) (by omega)]
  have e2:v67.wrap (1+v67.wrap (v7u x.Gap 3))=((qsd x:Nat):Int):=by
   rw [e1,qbx (by omega) (by omega)];unfold qsd;omega
  have hs:qsd x≤3:=by unfold qsd;omega
  have hmul:i * qsd x≤8 * 3:=v9u (by omega) hs;have e3:v67.wrap ((i:Int) * ((qsd x:Nat):Int))=((i * qsd x:Nat):Int):=by
   rw [←Int.natCast_mul,qbx (by omega) (by omega)]
  have e4:v67.wrap (1+v67.wrap ((i:Int) * v67.wrap (1+v67.wrap (v7u x.Gap 3))))=((1+i * qsd x:Nat):Int):=by
   rw [e2,e3,qbx (by omega) (by omega)];omega
  simp only [qfy,if_pos hi',vem x n i hn hi hl,v40,hroom,if_true,e4,qcd (k:=i) (by omega)];rfl
 simp only [qh4,if_pos h1,if_pos h2,v40,v8h];have hroom':qbi ((List.take n [[97],[98],[99],[100],[101],[102],[103],[104]]:List (List UInt8)).length) 16=true:=hroom;rw [if_pos hroom',ho];rfl
theorem vi0 {n:Nat} (h:n≤8):qwq (qox.take n)=true:=by
 have:n=0∨n=1∨n=2∨n=3∨n=4∨n=5∨n=6∨n=7∨n=8:=by omega
 rcases this with rfl | rfl | rfl | rfl | rfl | rfl | rfl | rfl | rfl <;> decide
theorem ven (x:Drossref03_Recipe) (n:Nat) (hn:n≤8) (hr:x.Rows.length≤8):qcp (vbx x n)=0:=by
 have h1:¬(qur [114]=false):=by decide
 have hlen:(qox.take n).length=n:=by simp [qox];omega
 have h2:¬(qox.take n).length > 16:=by omega
 have h3:¬((v34 x.Rows.length).map (vbw x n)).length > 1000:=by simp;omega
 have h4:¬(qwq (qox.take n)=false):=by rw [vi0 hn];simp
 have hc:qdv (qox.take n).length 0 ((v34 x.Rows.length).map (vbw x n))=0:=by
  refine qzs _ _ _ (fun r hr=>?_) ?_
  ·obtain ⟨i,hi,rfl⟩:=v6h.1 hr;refine ⟨by simp only [vbw];omega,by simp only [vbw,v3n,v54];omega,?_⟩;rw [v5m];intro v hv;obtain ⟨k,hk,rfl⟩:=v6h.1 hv;exact (qux _).2.1
  ·rw [List.pairwise_map];refine v8p.imp ?_ List.pairwise_lt_range;intro a b hab;simp only [vbw];have hs:1≤qsd x:=by unfold qsd;omega
   have:(a+1) * qsd x≤b * qsd x:=v4v _ hab;rw [Nat.add_mul,Nat.one_mul] at this;omega
 show (if qur [114]=false then (1:Int) else if (qox.take n).length > 16 then 3 else if ((v34 x.Rows.length).map (vbw x n)).length > 1000 then 3 else if qwq (qox.take n)=false then 1 else qdv (qox.take n).length 0 ((v34 x.Rows.length).map (vbw x n)))=0;rw [if_neg h1,if_neg h2,if_neg h3,if_neg h4];exact hc
theorem qrd {n:Int} (h:okI .u8 n):0≤n∧n≤255:=by
 have h':(decide (v8k .u8≤n) && decide (n≤v8j .u8))=true:=h;simp only [v2m,decide_eq_true_eq] at h';have e1:v8k .u8=0:=by decide
 have e2:v8j .u8=255:=by decide
 rw [e1,e2] at h';exact h'
theorem vby (a b:Row):∀l:List Int,qtf b a l=- qtf a b l
 | []=>rfl
 | i :: l=>by
  simp only [qtf];rw [vmr (qb8 a i.toNat) (qb8 b i.toNat),vby a b l];by_cases h:qq8 (qb8 a i.toNat) (qb8 b i.toNat)=0
  ·rw [if_neg (by omega),if_neg (by omega)]
  ·rw [if_pos (by omega),if_pos (by omega)]
theorem q60 (a b:Row):∀l:List Int,qtf a b l=0↔∀i∈l,qq8 (qb8 a i.toNat) (qb8 b i.toNat)=0
 | []=>by simp [qtf]
 | i :: l=>by
  simp only [qtf,List.forall_mem_cons];by_cases h:qq8 (qb8 a i.toNat) (qb8 b i.toNat)=0
  ·rw [if_neg (by omega),q60 a b l];exact ⟨fun k=>⟨h,k⟩,fun k=>k.2⟩
  ·rw [if_pos (by omega)];exact ⟨fun k=>absurd k h,fun k=>absurd k.1 h⟩
def vm5 (n:Nat) (l:List Int):List Int:=if n=0 then [] else (l.take 5).map fun c=>c % (n:Int)
theorem veo {c:Int} (h:0≤c∧c≤255):v67.wrap c=c:=qbx (by omega) (by omega)
theorem q2b (n:Nat) (l:List Int) (hl:l.length≤1048576) (h:∀c∈l,0≤c∧c≤255):qdn (n:Int) l=some (vm5 n l):=by
 by_cases hn:n=0
 ·subst hn;have:qaj (qcf ((0:Nat):Int) l) ([],0)=some []:=by
   refine qao ?_;simp only [qcf];by_cases h1:(0:Int) < (l.length:Int)
   ·simp [h1]
   ·simp [h1]
  simp only [qdn,this,v40,vm5,if_true]
 ·have h1:=qdu (l.take 5) (fun (o:List Int) i=>(o,i)) (qcf (n:Int) l) (fun o c=>o++[c % (n:Int)]) id (fun k o=>o.length=k) (b0:=[]) (s0:=([],0)) rfl rfl
   (fun k o c hx hk hI=>by
    have hk5:k < 5:=by rw [v3r] at hk;omega
    have hx':l[k]?=some c:=by rw [v3j,if_pos hk5] at hx;exact hx
    have hc:=h c (v3x hx');refine ⟨?_,by simp [hI]⟩;simp only [qcf,if_pos (qai hx'),if_pos (show (k:Int) < 5 by omega),if_pos (show (n:Int) > 0 by omega),if_neg (show ¬(n:Int)=0 by omega),qaf hx',v40,veo hc,qbq (show o.length+1≤1073741824 by omega) (show 8≤65536 by omega),if_true,wqn k,v8g hc.1])
   (fun o hI=>by
    rw [v3r] at hI ⊢;simp only [qcf,id];by_cases h5:l.length≤5
    ·rw [if_neg (by omega)]
    ·rw [if_pos (by omega),if_neg (by omega)])
  simp only [qdn,h1,v40,vm5,if_neg hn,id];have:∀(l:List Int) (o:List Int),l.foldl (fun o c=>o++[c % (n:Int)]) o=o++l.map fun c=>c % (n:Int):=by
   intro l
   induction l with
   | nil=>intro o;simp
   | cons c l ih=>intro o;rw [v82,ih];simp
  rw [this];rfl
def ofL (n:Nat) (x:Drossref17_Lists):OD:=⟨vm5 n x.X,vm5 n x.Y⟩
theorem vi1 {l:List Int} (h:okL (okI .u8) l):∀c∈l,0≤c∧c≤255:=fun c hc=>qrd (h.2 c hc)
theorem vtq (n:Nat) (x:Drossref17_Lists) (h:qhx x):qj0 (n:Int) x=some (ofL n x):=by
 simp only [qj0,q2b n x.X h.1.1 (vi1 h.1),q2b n x.Y h.2.1 (vi1 h.2),v40,ofL]
theorem vbz (n:Nat) (l:List Int):(vm5 n l).length≤5:=by
 unfold vm5;split
 ·simp
 ·rw [v3n,v3r];omega
theorem vb0 (n:Nat) (l:List Int):∀z∈vm5 n l,0≤z∧z < (n:Int):=by
 intro z hz;unfold vm5 at hz;split at hz
 ·cases hz
 ·rename_i hn;obtain ⟨c,_,rfl⟩:=v6h.1 hz;exact ⟨Int.emod_nonneg _ (by omega),Int.emod_lt_of_pos _ (by omega)⟩
theorem vb1 {n:Int} {l:List Int} (h1:l.length≤8) (h2:∀z∈l,0≤z∧z < n):qzo n l=true:=by
 simp only [qzo,v2m,decide_eq_true_eq,v5m];exact ⟨h1,h2⟩
theorem vi2 (n:Nat) (x:Drossref17_Lists):qmv n (ofL n x)=true:=by
 simp only [qmv,v2m];exact ⟨vb1 (v4q (vbz _ _) (by omega)) (vb0 _ _),vb1 (v4q (vbz _ _) (by omega)) (vb0 _ _)⟩
structure qos (t:Table):Prop where
 ok:TableOk t
 err:qcp t=0
 attrs:t.Attrs.length≤5
 rows:t.Rows.length≤8
theorem vep (x:Drossref03_Recipe) (n:Nat) (hn:n≤8) (hr:x.Rows.length≤8):TableOk (vbx x n):=by
 refine ⟨?_,?_,?_,?_⟩
 ·simp only [vbx,v3r];omega
 ·simp only [vbx,v3n,v54];omega
 ·intro r h;obtain ⟨i,_,rfl⟩:=v6h.1 h;simp only [vbw,v3n,v54];omega
 ·intro r h v hv;obtain ⟨i,_,rfl⟩:=v6h.1 h;obtain ⟨k,_,rfl⟩:=v6h.1 hv;have:=(qux ((x.Rows.getD i []).getD k 0)).2.2;unfold v1k;omega
theorem q9q (x:Drossref03_Recipe) (hr:x.Rows.length≤8):qos (vbx x (x.Attrs.toNat % 6)):=by
 refine ⟨vep _ _ (by omega) hr,ven _ _ (by omega) hr,?_,?_⟩
 ·simp only [vbx,v3r];omega
 ·simp only [vbx,v3n,v54];omega
theorem ver {t:Table} (G:qos t) {d:OD} (h:qmv t.Attrs.length d=true):qv4 t d=0:=by
 unfold qv4;rw [if_neg (by rw [G.err];simp),if_pos h]
theorem q2c {n:Int} {d:OD} (h:qmv n d=true):LenD d:=by
 simp only [qmv,v2m] at h;have h1:=(q6x h.1).1;have h2:=(q6x h.2).1;exact ⟨by omega,by omega⟩
theorem q34 {a:Nat} (ha:a < 4294967296) {i:Nat} (hi:i≤32):v1j (a:Int) (i:Int)=a.testBit i:=by
 unfold v1j;rw [v8h];exact vis ha hi
def v1l (n:Nat) (s:Int):List Int:=((v34 n).map fun (k:Nat)=>(k:Int)).filter fun a=>v1j s a
theorem vm6 {n:Nat} {s i:Int} (h:i∈v1l n s):0≤i∧i < (n:Int):=by
 unfold v1l at h;obtain ⟨h1,_⟩:=v6g.1 h;obtain ⟨k,hk,rfl⟩:=v6h.1 h1;have:=v6j.1 hk;omega
theorem vi3 (s a:Int):qhm s a=some (decide (0≤a) && (decide (a < 32) && v1j s a)):=by
 unfold qhm;by_cases h0:a≥0
 ·rw [if_pos h0,decide_eq_true (show 0≤a from h0)];by_cases h1:a < 32
  ·rw [if_pos h1,decide_eq_true h1,if_neg (by omega)];rfl
  ·rw [if_neg h1,decide_eq_false h1];rfl
 ·rw [if_neg h0,decide_eq_false (show ¬0≤a from h0)];rfl
theorem vm7 (a b:Row) (n:Nat) (s:Int):qtf a b (v1l n s)=0↔∀i:Int,0≤i→i < (n:Int)→v1j s i=true→qq8 (qb8 a i.toNat) (qb8 b i.toNat)=0:=by
 rw [q60];constructor
 ·intro h i h0 h1 hb;refine h i ?_;unfold v1l;rw [v6g,v6h];exact ⟨⟨i.toNat,by rw [v6j];omega,by omega⟩,hb⟩
 ·intro h i hi;obtain ⟨h0,h1⟩:=vm6 hi;exact h i h0 h1 (v6g.1 hi).2
theorem vtr {n:Nat} (h:n≤16):qh5 (n:Int)=some ((2 ^ n - 1:Nat):Int):=by
 have hl:=qdu (v34 n) (fun (s:Nat) i=>((s:Int),i)) (qfz (n:Int)) (fun s k=>s ||| 2 ^ k) (fun s=>(s:Int)) (fun _ s=>s < 4294967296) (b0:=0) (s0:=(0,0)) rfl (by omega)
  (fun k s z hz hk hs=>by
   have hzk:z=k:=by
    have:=(v3f.1 hz).2;simpa using this.symm
   subst hzk;rw [v54] at hk;refine ⟨?_,v1f hs (qzk (by omega))⟩;simp only [qfz,if_pos (show (z:Int) < (n:Int) by omega),if_pos (show (z:Int) < 32 by omega),if_neg (show ¬(z:Int) < 0 by omega),wqn z,v8h,vmu (show z < 32 by omega),q6o hs (qzk (show z < 32 by omega))])
  (fun s _=>by rw [v54];simp [qfz])
 simp only [qh5,hl,v40];congr 2;apply v9r;intro i;have:=vmw (v34 n) i;unfold setN at this;rw [this,Nat.testBit_two_pow_sub_one];congr 1;rw [v6j]
def qlv (p:Row→Row→Bool) (rows:List Row) (i:Nat) (a:Row):Bool:=(rows.take i).all fun b=>p a b
def qzt (n:Nat) (a b:Row) (s:Nat):Prop:=∀k,k < n→s.testBit k=true→qq8 (qb8 a k) (qb8 b k)=0
theorem q61 {α:Type} (l:List α) (j:Nat) (h:j < l.length):l.take (j+1)=l.take j++[l[j]]:=by
 induction l generalizing j with
 | nil=>simp at h
 | cons x r ih =>
  cases j with
  | zero=>simp
  | succ j =>
   simp only [v5y] at h;simp only [List.take_succ_cons,v5p,List.getElem_cons_succ];rw [ih j (by omega)]
theorem q35 {α:Type} (l:List α) (p:α→Bool) (B:List α×Int×Int→Option (LS (List α×Int×Int) (List α×Int)))
  (hB:∀(s:List α) (i j:Nat) x,s.length=l.length→s[j]?=some x→i≤j→j < l.length→B (s,(i:Int),(j:Int))=some (.next (if p x=true then (s.set i x,((i+1:Nat):Int),((j+1:Nat):Int)) else (s,(i:Int),((j+1:Nat):Int)))))
  (hE:∀(s:List α) (i:Nat),s.length=l.length→B (s,(i:Int),(l.length:Int))=some (.done (s,(i:Int)))) :
  ∀(r j:Nat) (s:List α) (i:Nat),j+r=l.length→s.length=l.length→i≤j→s.take i=(l.take j).filter p→(∀m,j≤m→s[m]?=l[m]?) →
   ∃(s':List α) (i':Nat),qaj B (s,(i:Int),(j:Int))=some (s',(i':Int))∧s'.length=l.length∧i'≤l.length∧s'.take i'=l.filter p
 | 0,j,s,i,hj,hs,hij,ht,hm=>by
  have e:j=l.length:=by omega
  subst e;refine ⟨s,i,qao (hE s i hs),hs,hij,?_⟩;rw [ht,v9n]
 | r+1,j,s,i,hj,hs,hij,ht,hm=>by
  have hjl:j < l.length:=by omega
  have hx:l[j]?=some l[j]:=v3d hjl;have hsx:s[j]?=some l[j]:=by rw [hm j (v4o _),hx]
  have htake:l.take (j+1)=l.take j++[l[j]]:=q61 l j hjl;have hstep:=hB s i j l[j] hs hsx hij hjl;cases hp:p l[j] with
  | true =>
   rw [if_pos hp] at hstep;have hil:i < s.length:=by omega
   obtain ⟨s',i',h1,h2,h3,h4⟩:=q35 l p B hB hE r (j+1) (s.set i l[j]) (i+1) (by omega) (by rw [v3q];exact hs) (by omega) (by
    rw [htake,v8t,←ht,v8v,if_pos hp,v8y];have hg:(s.set i l[j])[i]?=some l[j]:=by rw [List.getElem?_set_self hil]
    have hl2:i < (s.set i l[j]).length:=by rw [v3q];exact hil
    rw [q61 _ i hl2,v9o (v4o i)];congr 2;have:=v3d hl2;rw [hg] at this;exact (v6z this).symm) (fun m hmj=>by rw [v5w (by omega)];exact hm m (by omega))
   exact ⟨s',i',by rw [qaq hstep];exact h1,h2,h3,h4⟩
  | false =>
   rw [if_neg (by rw [hp];simp)] at hstep;obtain ⟨s',i',h1,h2,h3,h4⟩:=q35 l p B hB hE r (j+1) s i (by omega) hs (by omega) (by
    rw [htake,v8t,←ht,v8v,if_neg (by rw [hp];simp),v8y,v2x]) (fun m hmj=>hm m (by omega))
   exact ⟨s',i',by rw [qaq hstep];exact h1,h2,h3,h4⟩
structure GT (t:Table):Prop where
 ok:TableOk t
 err:qcp t=0
 num:∀r∈t.Rows,∀v∈r.Values,q32 v
theorem GT.attrs {t:Table} (h:GT t):t.Attrs.length≤16:=by
 have:=h.err;unfold qcp at this;split at this
 ·cases this
 ·split at this
  ·cases this
  ·omega
theorem GT.rows {t:Table} (h:GT t):t.Rows.length≤1000:=by
 have:=h.err;unfold qcp at this;split at this
 ·cases this
 ·split at this
  ·cases this
  ·split at this
   ·cases this
   ·omega
theorem GT.code {t:Table} (h:GT t):qdv t.Attrs.length 0 t.Rows=0:=by
 have:=h.err;unfold qcp at this;split at this
 ·cases this
 ·split at this
  ·cases this
  ·split at this
   ·cases this
   ·split at this
    ·cases this
    ·exact this
theorem q62:∀(rows:List Row) (n:Nat) (b:Int),qdv n b rows=0→∀r∈rows,r.Values.length=n∧∀v∈r.Values,qkl v=true
 | [],_,_,_=>by simp
 | r :: rows,n,b,h=>by
  simp only [qdv] at h;by_cases h1:r.ID≤b
  ·rw [if_pos h1] at h;cases h
  ·rw [if_neg h1] at h;by_cases h2:r.Values.length=n
   ·by_cases h3:r.Values.all qkl=true
    ·simp only [h2,h3,ne_eq,not_true_eq_false,if_false,if_true,Bool.not_true,v2o,v2s] at h;intro x hx;rcases v6d.1 hx with rfl | hx
     ·exact ⟨h2,by simpa using h3⟩
     ·exact q62 rows n _ h x hx
    ·simp [h2,h3] at h
   ·simp [h2] at h
def qja (t:Table) (i:Nat):Row:=t.Rows.getD i ⟨0,[]⟩
theorem qn2 {t:Table} {i:Nat} (h:i < t.Rows.length):t.Rows[i]?=some (qja t i):=by
 simp [qja,v83,v3d h]
theorem qr5 {t:Table} {i:Nat} (h:i < t.Rows.length):qja t i∈t.Rows:=v3x (qn2 h)
theorem GT.cell {t:Table} (G:GT t) {i k:Nat} (hi:i < t.Rows.length) (hk:k < t.Attrs.length):(qja t i).Values[k]?=some (qb8 (qja t i) k)∧qkl (qb8 (qja t i) k)=true∧q32 (qb8 (qja t i) k):=by
 obtain ⟨h1,h2⟩:=q62 _ _ _ G.code _ (qr5 hi);have hg:(qja t i).Values[k]?=some (qb8 (qja t i) k):=by
  have hl:k < (qja t i).Values.length:=by omega
  simp [qb8,v83,v3d hl]
 exact ⟨hg,h2 _ (v3x hg),G.num _ (qr5 hi) _ (v3x hg)⟩
def q2d (s:Nat) (r:Row):List UInt8:=(qe9 s).flatMap fun k=>q14 (qb8 r k)
theorem qky {n s k:Nat} (hs:s < 2 ^ n) (h:k∈qe9 s):k < n:=by
 have:=(qn0 h).2;apply Classical.byContradiction;intro hc;rw [qzl hs (by omega)] at this;cases this
theorem qzu:∀(l:List Nat) (a b:Row),(∀k∈l,qkl (qb8 a k)=true∧q32 (qb8 a k)∧qkl (qb8 b k)=true∧q32 (qb8 b k)) →
  ((l.flatMap fun k=>q14 (qb8 a k))=(l.flatMap fun k=>q14 (qb8 b k))↔∀k∈l,qb8 a k=qb8 b k)
 | [],a,b,_=>by simp
 | k :: l,a,b,h=>by
  obtain ⟨h1,h2,h3,h4⟩:=h k (by simp);simp only [v5r];constructor
  ·intro e;obtain ⟨e1,e2⟩:=vmy h1 h3 h2 h4 e;intro x hx;rcases v6d.1 hx with rfl | hx
   ·exact e1
   ·exact (qzu l a b fun y hy=>h y (by simp [hy])).1 e2 x hx
  ·intro e;rw [e k (by simp),(qzu l a b fun y hy=>h y (by simp [hy])).2 fun x hx=>e x (by simp [hx])]
def agN (t:Table) (s i k:Nat):Bool:=decide (q2d s (qja t i)=q2d s (qja t k))
theorem vi4 {t:Table} (G:GT t) {s:Nat} (hs:s < 2 ^ t.Attrs.length) {i k:Nat} (hi:i < t.Rows.length) (hk:k < t.Rows.length):agN t s i k=true↔qzt t.Attrs.length (qja t i) (qja t k) s:=by
 unfold agN q2d;rw [decide_eq_true_eq,qzu _ _ _ fun a ha=>⟨(G.cell hi (qky hs ha)).2.1,(G.cell hi (qky hs ha)).2.2,(G.cell hk (qky hs ha)).2.1,(G.cell hk (qky hs ha)).2.2⟩];unfold qzt;constructor
 ·intro h a ha hb;rw [q30];exact h a (by unfold qe9;rw [v6g,v6j];exact ⟨by have:=G.attrs;omega,hb⟩)
 ·intro h a ha;have:=h a (qky hs ha) (qn0 ha).2
  rwa [q30] at this
theorem vi5 {n s:Nat} (hn:n≤16) (hs:s < 2 ^ n):s < 4294967296:=Nat.lt_trans hs (qzk (by omega))
theorem vm8 {t:Table} (G:GT t) {s:Nat} (hs:s < 2 ^ t.Attrs.length) {i:Nat} (hi:i < t.Rows.length) :
  ∃b,qaj (qgs ((qe9 s).map fun (k:Nat)=>(k:Int)) (qja t i)) (false,[],0)=some (b,q2d s (qja t i)):=by
 have key:∀(r:List Nat) (j:Nat) (b:Bool) (o:List UInt8),(qe9 s).drop j=r→j≤(qe9 s).length→o.length≤1000 * j →
   ∃b',qaj (qgs ((qe9 s).map fun (k:Nat)=>(k:Int)) (qja t i)) (b,o,(j:Int))=some (b',o++r.flatMap fun k=>q14 (qb8 (qja t i) k)):=by
  have hbl:=qra s;intro r
  induction r with
  | nil =>
   intro j b o hd hj ho;have:j=(qe9 s).length:=by
    have:=congrArg v71 hd;simp at this;omega
   subst this;exact ⟨b,qao (by simp [qgs])⟩
  | cons k r ih =>
   intro j b o hd hj ho;have hk:(qe9 s)[j]?=some k:=by
    have:=congrArg (·[0]?) hd;simpa [v3c] using this
   have hd':(qe9 s).drop (j+1)=r:=by rw [←v7y,hd];rfl
   have hlt:=qdf hk;have hkm:k∈qe9 s:=v3x hk;obtain ⟨c1,c2,c3⟩:=G.cell hi (qky hs hkm);have hl1:(((j:Nat):Int) < (((qe9 s).map fun (k:Nat)=>(k:Int)).length:Int)):=by rw [v3n];omega
   have hg:idx ((qe9 s).map fun (k:Nat)=>(k:Int)) (j:Int)=some (k:Int):=by
    rw [qym,v3g,hk];rfl
   have hkl:=vmz c2;have hr:o.length+(q14 (qb8 (qja t i) k)).length≤140737488355328:=by omega
   obtain ⟨b',h⟩:=ih (j+1) true (o++q14 (qb8 (qja t i) k)) hd' hlt (by rw [v3l];omega);refine ⟨b',?_⟩;rw [qaq (s':=(true,o++q14 (qb8 (qja t i) k),((j+1:Nat):Int))) (by
    simp only [qgs,if_pos hl1,hg,v40,qaf c1,q6t c2 c3,if_pos hr,wqn j]),h]
   simp
 obtain ⟨b,h⟩:=key (qe9 s) 0 false [] rfl (v6w _) (v6w _);exact ⟨b,by simpa [q2d] using h⟩
theorem vi6 {t:Table} (G:GT t) {s:Nat} (hs:s < 2 ^ t.Attrs.length) :
  qaj (qgt t ((qe9 s).map fun (k:Nat)=>(k:Int))) (v4a t.Rows.length [],0)=some ((v34 t.Rows.length).map fun i=>q2d s (qja t i)):=by
 have hn:=G.rows;have hL:=qr3 t.Rows (fun (_:Unit) (k:Int)=>(vfl t.Rows.length k.toNat (fun i=>q2d s (qja t i)) [],k)) (qgt t ((qe9 s).map fun (k:Nat)=>(k:Int))) (fun _ _=>(Sum.inl ():Unit ⊕ List (List UInt8))) (fun _=>(v34 t.Rows.length).map fun i=>q2d s (qja t i)) (fun _ _=>True)
  (b0:=()) (s0:=(v4a t.Rows.length [],0)) (by simp only [Int.toNat_zero,viv]) trivial
  (fun k b x hx hk _=>by
   refine ⟨fun b' hb=>⟨?_,trivial⟩,fun t ht=>by cases ht⟩;have hki:(k:Int) < (t.Rows.length:Int):=by omega
   have hxr:x=qja t k:=by rw [qn2 hk] at hx;exact (v6z hx).symm
   obtain ⟨bb,hb⟩:=vm8 G hs hk;have e1:=q33 (f:=fun i=>q2d s (qja t i)) (z:=[]) (k:=k) hk;have e3:=vm1 (f:=fun i=>q2d s (qja t i)) (z:=[]) hk;subst hxr;simp only [qgt,if_pos hki,v8h,qaf hx,v40,hb,qaf e1,wqn k];rw [e3])
  (fun b _=>by
   have:vfl t.Rows.length t.Rows.length (fun i=>q2d s (qja t i)) []=(v34 t.Rows.length).map fun i=>q2d s (qja t i):=by
    unfold vfl;apply v59;intro j hj;rw [if_pos (v6j.1 hj)]
   simp only [qgt,v8h,this];simp)
 rw [hL,qzn]
def qwt (l:List Nat):List Int:=l.map fun (k:Nat)=>(k:Int)
def qii (l:List (List Nat)):List (List Int):=l.map qwt
theorem qr6 (l:List Nat):(qwt l).length=l.length:=by simp [qwt]
theorem quy (l:List (List Nat)):(qii l).length=l.length:=by simp [qii]
theorem q63 (l:List (List Nat)) (j:Nat):(qii l)[j]?=(l[j]?).map qwt:=by simp [qii]
theorem vi7 (l:List (List Nat)) (j:Nat) (x:List Nat):(qii l).set j (qwt x)=qii (l.set j x):=by simp [qii,List.map_set]
theorem vi8 (l:List Nat) (x:Nat):qwt l++[(x:Int)]=qwt (l++[x]):=by simp [qwt]
def vpm {κ:Type} [DecidableEq κ] (m:List (κ×Int)) (ks:List κ):Prop:=∀k,qnq m k=(ks.findIdx? fun x=>decide (k=x)).map fun (j:Nat)=>(j:Int)
theorem v1m {κ:Type} [DecidableEq κ] {m:List (κ×Int)} {ks:List κ} (h:vpm m ks) {k:κ} (hk:k∈ks):∃j:Nat,ks[j]?=some k∧qnq m k=some (j:Int):=by
 have:=h k;cases hf:ks.findIdx? fun x=>decide (k=x) with
 | none =>
  rw [v8z] at hf;have:=hf k hk;simp at this
 | some j =>
  rw [hf] at this;obtain ⟨hj,h2⟩:=v80.1 hf |>.imp fun a b=>b.1
  simp only [decide_eq_true_eq] at h2;exact ⟨j,by rw [v3d hj,←h2],this⟩
theorem vts {κ:Type} [DecidableEq κ] {m:List (κ×Int)} {ks:List κ} (h:vpm m ks) {k:κ} (hk:k ∉ ks):qnq m k=none:=by
 rw [h k];have:(ks.findIdx? fun x=>decide (k=x))=none:=by
  rw [v8z];intro x hx;simp only [decide_eq_false_iff_not];intro e;subst e;exact hk hx
 rw [this];rfl
theorem v1n {κ:Type} [DecidableEq κ] {m:List (κ×Int)} {ks:List κ} (h:vpm m ks) {k:κ} (hk:k ∉ ks):vpm (qrz m k (ks.length:Int)) (ks++[k]):=by
 intro x;rw [qus,List.findIdx?_append];by_cases hx:x=k
 ·subst hx;rw [if_pos rfl];have:(ks.findIdx? fun y=>decide (x=y))=none:=by
   rw [v8z];intro y hy;simp only [decide_eq_false_iff_not];intro e;subst e;exact hk hy
  rw [this];simp
 ·rw [if_neg hx,h x];cases hf:ks.findIdx? fun y=>decide (x=y) with
  | none=>simp [hx]
  | some j=>rfl
theorem v1o {κ:Type} [DecidableEq κ]:vpm ([]:List (κ×Int)) []:=fun k=>rfl
theorem ves {κ:Type} [DecidableEq κ] {key:Nat→κ} {l:List Nat} {m:List (κ×Int)} (h:vpm m (qg1 key l)) (x:Nat) :
  (key x∈qg1 key l∧∃(j:Nat) (c:List Nat),qnq m (key x)=some (j:Int)∧(qbs key l)[j]?=some c∧qbs key (l++[x])=(qbs key l).set j (c++[x])∧qg1 key (l++[x])=qg1 key l) ∨
  (key x ∉ qg1 key l∧qnq m (key x)=none∧qbs key (l++[x])=qbs key l++[[x]]∧vpm (qrz m (key x) ((qbs key l).length:Int)) (qg1 key (l++[x]))):=by
 by_cases hk:key x∈qg1 key l
 ·left;obtain ⟨j,h1,h2⟩:=v1m h hk;obtain ⟨h3,h4⟩:=qpq key l x h1;exact ⟨hk,j,_,h2,h4,h3,by rw [qkx,q6m,if_pos hk]⟩
 ·right;refine ⟨hk,vts h hk,qpp key l x hk,?_⟩;have:(qbs key l).length=(qg1 key l).length:=by simp [qbs]
  rw [this,qkx,q6m,if_neg hk];exact v1n h hk
theorem qth (κ:Type) [DecidableEq κ] (key:Nat→κ) (l:List Nat):(qbs key l).length≤l.length:=by
 induction l using qxq with
 | h0=>simp [qzj]
 | h1 l x ih =>
  by_cases h:key x∈qg1 key l
  ·obtain ⟨j,hj⟩:=v9c.1 h;rw [(qpq key l x hj).1,v3q,v3l];omega
  ·rw [qpp key l x h];simp;exact ih
theorem q64 {κ:Type} [DecidableEq κ] {key:Nat→κ} {l c:List Nat} (h:c∈qbs key l):c.length≤l.length:=by
 obtain ⟨x,_,rfl⟩:=(qtd key l c).1 h;exact v51 _ _
theorem q9r (qfl:List (List UInt8)) (hn:qfl.length≤1000000):∀(r k:Nat) (m:List (List UInt8×Int)),k+r=qfl.length→vpm m (qg1 (fun i=>qfl.getD i []) (v34 k)) →
  qaj (qbu qfl) (m,qii (qbs (fun i=>qfl.getD i []) (v34 k)),(k:Int))=some (qii (qbs (fun i=>qfl.getD i []) (v34 qfl.length))):=by
 intro r
 induction r with
 | zero =>
  intro k m hk hm;have:k=qfl.length:=by omega
  subst this;exact qao (by simp [qbu])
 | succ r ih =>
  intro k m hk hm;have hlt:k < qfl.length:=by omega
  have hx:qfl[k]?=some (qfl.getD k []):=by simp [v83,v3d hlt]
  have hki:((k:Int) < (qfl.length:Int)):=by omega
  have hcl:=qth (List UInt8) (fun i=>qfl.getD i []) (v34 k);rw [v54] at hcl;have hw:=wqn k;have hrs:v34 (k+1)=v34 k++[k]:=List.range_succ;rcases ves hm k with ⟨h0,j,c,h1,h2,h3,h4⟩ | ⟨h0,h1,h2,h3⟩
  ·have hcm:=q64 (v3x h2);rw [v54] at hcm;have hg:idx (qii (qbs (fun i=>qfl.getD i []) (v34 k))) (j:Int)=some (qwt c):=by
    rw [qym,q63,h2];rfl
   have hr:qbi ((qwt c).length+1) 8=true:=qw2 (by rw [qr6];omega);rw [qaq (s':=(m,qii (qbs (fun i=>qfl.getD i []) (v34 (k+1))),((k+1:Nat):Int))) (by
    simp only [qbu,if_pos hki,qaf hx,v40,h1,Option.isSome_some,if_true,v43,hg,hr,hw,v8h];rw [vi8,vi7,hrs,h3])]
   exact ih (k+1) m (by omega) (by rw [hrs,h4];exact hm)
  ·have hr:qbi ((qii (qbs (fun i=>qfl.getD i []) (v34 k))).length+1) 24=true:=qbq (by rw [quy];omega) (by omega);have hg:idx (qii (qbs (fun i=>qfl.getD i []) (v34 k))++[[]]) (((qii (qbs (fun i=>qfl.getD i []) (v34 k))).length:Nat):Int)=some []:=by
    rw [qym,v3b (v4o _)];simp
   have hr2:qbi (([]:List Int).length+1) 8=true:=by decide
   have qph:((qii (qbs (fun i=>qfl.getD i []) (v34 k)))++[[]]).set (qii (qbs (fun i=>qfl.getD i []) (v34 k))).length [(k:Int)]=qii (qbs (fun i=>qfl.getD i []) (v34 k)++[[k]]):=by
    rw [List.set_append_right _ _ (v4o _)];simp [qii,qwt]
   rw [qaq (s':=(qrz m (qfl.getD k []) ((qii (qbs (fun i=>qfl.getD i []) (v34 k))).length:Int),qii (qbs (fun i=>qfl.getD i []) (v34 (k+1))),((k+1:Nat):Int))) (by
    simp only [qbu,if_pos hki,qaf hx,v40,h1,Option.isSome_none,v2o,if_false,hr,if_true,hg,hr2,hw,v8h,v33];rw [qph,hrs,h2])]
   exact ih (k+1) _ (by omega) (by rw [quy,hrs];exact h3)
def big (l:List (List Nat)):List (List Nat):=l.filter fun c=>decide (2≤c.length)
theorem vi9 (l:List (List Nat)):(qii l).filter (fun c=>!decide ((c.length:Int) < 2))=qii (big l):=by
 unfold qii big;rw [List.filter_map];congr 1;apply v8u;intro c _;simp only [v8c,qr6];rw [v73];simp;omega
theorem q36 {α:Type} (p:α→Bool) (l:List α) (i:Nat) (h:l.findIdx? (fun x=>!p x)=some i):i < l.length∧(l.take (i+1)).filter p=l.take i:=by
 obtain ⟨hi,h1,h2⟩:=v80.1 h;refine ⟨hi,?_⟩;have ht:l.take (i+1)=l.take i++[l[i]]:=by
  rw [List.take_add_one,v3d hi];rfl
 rw [ht,v8t];have e1:[l[i]].filter p=[]:=by
  have:p l[i]=false:=by simpa using h1
  simp [this]
 rw [e1,v2x,v8x];intro x hx;obtain ⟨j,hj,rfl⟩:=v9b.1 hx;have hj':j < i:=by simp at hj;omega
 have:=h2 j hj';rw [v89];simpa using this
theorem vet (l:List (List Int)) (hl:l.length≤1000000):qej l (fun y=>qau y)=some (vkr (l.findIdx? fun c=>decide ((c.length:Int) < 2))):=by
 have h:=qgx l (qcc l (fun y=>qau y)) (fun c=>decide ((c.length:Int) < 2))
  (fun k x hx hk hp=>by simp only [qcc,if_pos (qai hx),qaf hx,v40,qau,hp,v2o,if_false,wqn k])
  (fun k x hx hp=>by simp only [qcc,if_pos (qai hx),qaf hx,v40,qau,hp,if_true])
  (by simp [qcc])
 simp only [qej];rw [h];cases l.findIdx? fun c=>decide ((c.length:Int) < 2) with
 | none=>rfl
 | some i=>rfl
theorem vja (qfl:List (List UInt8)) (hn:qfl.length≤1000000):qdp qfl=some (qii (big (qbs (fun i=>qfl.getD i []) (v34 qfl.length)))):=by
 have h1:=q9r qfl hn qfl.length 0 [] (by omega) v1o;have hc:=qth (List UInt8) (fun i=>qfl.getD i []) (v34 qfl.length);rw [v54] at hc;simp only [v8f,List.range_zero,qzj] at h1;generalize hL:qbs (fun i=>qfl.getD i []) (v34 qfl.length)=L at *;have hIl:(qii L).length≤1000000:=by rw [quy];omega
 simp only [qdp];rw [show (([]:List (List UInt8×Int)),([]:List (List Int)),(0:Int))=([],qii [],0) from rfl,h1];simp only [v40,vet _ hIl];have hp:∀c:List Int,decide ((c.length:Int) < 2)=!(!decide ((c.length:Int) < 2)):=fun c=>by simp
 cases hf:(qii L).findIdx? fun c=>decide ((c.length:Int) < 2) with
 | none =>
  simp only [vkr,beq_self_eq_true,if_true];rw [←vi9,v8x.2];intro c hc;have:=v8z.1 hf c hc;rw [this];rfl
 | some i =>
  have hneg:((i:Int) == -1)=false:=by rw [beq_eq_false_iff_ne];omega
  simp only [vkr,hneg,v2o,if_false];obtain ⟨f1,f2⟩:=q36 (fun c:List Int=>!decide ((c.length:Int) < 2)) (qii L) i (by rw [←hf];congr 1;funext c;exact (hp c).symm);have hw:v67.wrap ((i:Int)+1)=((i+1:Nat):Int):=qcd (by omega);obtain ⟨s',i',d1,d2,d3,d4⟩:=q35 (qii L) (fun c:List Int=>!decide ((c.length:Int) < 2)) qcr
   (fun s i j x hs hx hij hj=>by
    have hjl:((j:Int) < ((s.length:Nat):Int)):=by omega
    have hil:i < s.length:=by omega
    have hi':s[i]?=some s[i]:=v3d hil;simp only [qcr,if_pos hjl,qaf hx,v40,qau,wqn j];by_cases hc:(x.length:Int) < 2
    ·simp [hc]
    ·simp [hc,qaf hi',wqn i])
   (fun s i hs=>by simp [qcr,hs])
   ((qii L).length - (i+1)) (i+1) (qii L) i (by omega) rfl (by omega) f2.symm (fun m _=>rfl)
  rw [hw,d1];simp only [v40,v8h];have c1:(0:Int)≤(i':Int):=by omega
  have c2:(i':Int)≤((s'.length:Nat):Int):=by omega
  have t1:(s'.take i').length=i':=by rw [v3r];omega
  have t2:(s'.drop (i'+(s'.length - i'))).length=0:=by rw [v3m];omega
  have c3:(i':Int)≤((((s'.take i').length+(v4a (s'.length - i') ([]:List Int)).length)+(s'.drop (i'+(s'.length - i'))).length:Nat):Int):=by
   rw [t1,t2,v3p];omega
  have c4:i'≤((s'.take i'++v4a (s'.length - i') ([]:List Int))++s'.drop (i'+(s'.length - i'))).length:=by
   rw [v3l,v3l,t1,t2,v3p];omega
  rw [if_pos c1,if_pos c2,if_pos c1,if_pos c3,if_pos c4];congr 1;rw [v2w,v9m (by rw [t1];exact v4o _),List.take_take,Nat.min_self,d4,vi9]
def vfm (t:Table) (s:Nat):List (List Nat):=qbs (fun i=>q2d s (qja t i)) (v34 t.Rows.length)
theorem q37 {κ κ':Type} [DecidableEq κ] [DecidableEq κ'] {f:Nat→κ} {g:Nat→κ'}:∀(l:List Nat),(∀x∈l,∀y∈l,f x=f y↔g x=g y)→qbs f l=qbs g l:=by
 intro l
 induction l using qxq with
 | h0=>intro _;rfl
 | h1 l x ih =>
  intro h;have ih':=ih fun a ha b hb=>h a (by simp [ha]) b (by simp [hb])
  have hmem:f x∈qg1 f l↔g x∈qg1 g l:=by
   rw [qmh,qmh];constructor
   ·rintro ⟨y,hy,e⟩;exact ⟨y,hy,(h y (by simp [hy]) x (by simp)).1 e⟩
   ·rintro ⟨y,hy,e⟩;exact ⟨y,hy,(h y (by simp [hy]) x (by simp)).2 e⟩
  by_cases hx:f x∈qg1 f l
  ·have hgx:=hmem.1 hx;obtain ⟨j,hj⟩:=v9c.1 hx;obtain ⟨j',hj'⟩:=v9c.1 hgx;obtain ⟨p1,p2⟩:=qpq f l x hj;obtain ⟨q1,q2⟩:=qpq g l x hj';have hfil:(l.filter fun y=>decide (f y=f x))=l.filter fun y=>decide (g y=g x):=by
    apply v8u;intro y hy;rw [decide_eq_decide];exact h y (by simp [hy]) x (by simp)
   have hjj:j=j':=by
    -- the class of x stands at one place
    rw [ih'] at p2;rw [hfil] at p2;obtain ⟨y,hy,hyx⟩:=(qmh g l _).1 hgx;have hyc:y∈l.filter fun z=>decide (g z=g x):=v6g.2 ⟨hy,by simp [hyx]⟩
    have e1:(qg1 g l)[j]?=some (g x):=by
     unfold qbs at p2;rw [v3g] at p2;cases hk:(qg1 g l)[j]? with
     | none=>rw [hk] at p2;cases p2
     | some k =>
      rw [hk] at p2;simp only [v49,v5a] at p2;rw [←p2] at hyc;have:=(v6g.1 hyc).2;simp only [decide_eq_true_eq] at this;rw [←this,hyx]
    exact (v84 (v3f.1 e1).1 (qwr g l)).1 (by rw [e1,hj'])
   rw [p1,q1,ih',hjj,hfil]
  ·rw [qpp f l x hx,qpp g l x (fun e=>hx (hmem.2 e)),ih']
theorem of_eq {t:Table} (G:GT t) {s:Nat} (hs:s < 2 ^ t.Attrs.length):qk9 t (s:Int)=some ⟨(t.Rows.length:Int),qii (big (vfm t s))⟩:=by
 have hr:=G.rows;have h0:(0:Int)≤(t.Rows.length:Int):=by omega
 have h1:qbi t.Rows.length 16=true:=qbq (by omega) (by omega);simp only [qk9,qte (vi5 G.attrs hs),v40,if_pos h0,h1,if_true,vi6 G hs,vja _ (show ((v34 t.Rows.length).map fun i=>q2d s (qja t i)).length≤1000000 by simp;omega)];congr 3;rw [v3n,v54];congr 1;unfold vfm;apply q37;intro x hx y hy;rw [v6j] at hx hy;simp [v83,hx,hy]
theorem vjb {t:Table} (G:GT t) {s:Nat} (hs:s < 4294967296):qhi t (s:Int)=some (decide (s < 2 ^ t.Attrs.length)):=by
 have h1:¬((t.Attrs.length:Int) < 0):=by omega
 have ha:=G.attrs;simp only [qhi,if_neg h1,v8h,v6s (show t.Attrs.length≤64 by omega),qnz (n:=(s:Int)) (by omega) (by omega),qnt];congr 1;rw [v73];simp only [beq_iff_eq,decide_eq_true_eq];have hp:0 < 2 ^ t.Attrs.length:=v9w (by omega);constructor
 ·intro h;have:s / 2 ^ t.Attrs.length=0:=by omega
  rcases v9t s (2 ^ t.Attrs.length) with h2 | h2
  ·exact h2
  ·have:=Nat.div_pos h2 hp;omega
 ·intro h;rw [v9q h];rfl
theorem Of_eq {t:Table} (G:GT t) {s:Nat} (hs:s < 2 ^ t.Attrs.length):qla t (s:Int)=some (⟨(t.Rows.length:Int),qii (big (vfm t s))⟩,0):=by
 have h:decide (s < 2 ^ t.Attrs.length)=true:=decide_eq_true hs;simp only [qla,qe8 t G.ok,G.err,v40,bne_self_eq_false,v2o,if_false,vjb G (vi5 G.attrs hs),h,if_true,of_eq G hs]
def qas (t:Table) (p:Nat) (c:List Nat):List (List Nat):=qbs (fun i=>q2d p (qja t i)) c
theorem qnt (a k:Nat):v7t (a:Int) (2 ^ k)=((a / 2 ^ k:Nat):Int):=by
 have e:(2:Int) ^ k=((2 ^ k:Nat):Int):=by simp
 rw [e];exact (Int.ofNat_fdiv a (2 ^ k)).symm
theorem vtt {n:Int} (h:okI .i64 n):-9223372036854775808≤n∧n≤9223372036854775807:=by
 have h':(decide (v8k .i64≤n) && decide (n≤v8j .i64))=true:=h;simp only [v2m,decide_eq_true_eq] at h';have e1:v8k .i64=-9223372036854775808:=by decide
 have e2:v8j .i64=9223372036854775807:=by decide
 rw [e1,e2] at h';exact h'
theorem gt_of {t:Table} (h:qtc t) (he:qcp t=0):GT t:=by
 refine ⟨vbr h,he,fun r hr v hv=>?_⟩;exact vtt ((h.2.2.2 r hr).2.2 v hv).2.1
def qzv (t:Table) (a:List Row):List (List Row):=(t.Rows.filter fun r=>!(a.any fun x=>x.ID == r.ID)).map fun r=>a++[r]
def q7y (t:Table):Nat→List (List Row)
 | 0=>[[]]
 | k+1=>(q7y t k).flatMap (qzv t)
def q9s (t:Table):Nat→List Row→List (List Row)
 | 0,a=>[a]
 | m+1,a=>(qzv t a).flatMap (q9s t m)
theorem vb2 (t:Table):∀(m k:Nat),(q7y t k).flatMap (q9s t m)=q7y t (k+m)
 | 0,k=>by
  have:∀l:List (List Row),l.flatMap (q9s t 0)=l:=by
   intro l
   induction l with
   | nil=>rfl
   | cons a l ih=>rw [v5r,ih];rfl
  rw [this];rfl
 | m+1,k=>by
  have h:=vb2 t m (k+1);rw [show k+1+m=k+(m+1) by omega] at h;rw [←h];show _=((q7y t k).flatMap (qzv t)).flatMap (q9s t m);rw [List.flatMap_assoc];rfl
theorem vm9 (t:Table) (m:Nat):q9s t m []=q7y t m:=by
 have:=vb2 t m 0;simp only [q7y,v5r,List.flatMap_nil,v2x,Nat.zero_add] at this;exact this
def veu (out:List (List Int)) (l:List Int):List (List Int):=if l∈out then out else out++[l]
theorem vna (out:List (List Int)) (l z:List Int):z∈veu out l↔z∈out∨z=l:=by
 unfold veu;by_cases h:l∈out
 ·rw [if_pos h];constructor
  ·intro hz;exact .inl hz
  ·rintro (hz | rfl)
   ·exact hz
   ·exact h
 ·rw [if_neg h];simp
theorem qpt (z:List Int):∀(l out:List (List Int)),z∈l.foldl veu out↔z∈out∨z∈l
 | [],out=>by simp
 | x :: l,out=>by
  rw [v82,qpt z l,vna];simp only [v6d,or_assoc]
theorem vev (out:List (List Int)) (l:List Int) (h:out.Nodup):(veu out l).Nodup:=by
 unfold veu;by_cases hm:l∈out
 ·rw [if_pos hm];exact h
 ·rw [if_neg hm,v9e];refine ⟨h,by simp,?_⟩;intro a ha b hb e;have:b=l:=by simpa using hb
  rw [e,this] at ha;exact hm ha
theorem qre:∀(l out:List (List Int)),out.Nodup→(l.foldl veu out).Nodup
 | [],_,h=>h
 | x :: l,out,h=>qre l _ (vev out x h)
def q9t (l:List Int):Arr3_int64:=⟨l.getD 0 0,l.getD 1 0,l.getD 2 0⟩
theorem vnb {n:Nat} (hn:n≤3) {l m:List Int} (hl:l.length=n) (hm:m.length=n) (h:q9t l=q9t m):l=m:=by
 unfold q9t at h;obtain ⟨h0,h1,h2⟩:=Arr3_int64.mk.inj h;apply v27;intro j;by_cases hj:j < n
 ·have g:∀(q:List Int),q.length=n→q[j]?=some (q.getD j 0):=fun q hq=>by
   simp [v83,v3d (show j < q.length by omega)]
  rw [g l hl,g m hm];have:j=0∨j=1∨j=2:=by omega
  rcases this with rfl | rfl | rfl
  ·rw [h0]
  ·rw [h1]
  ·rw [h2]
 ·rw [v3e (by omega),v3e (by omega)]
def vtu:Value:=⟨0,0,[]⟩
def qv5 (n vars:Int) (t:Term):Bool:=if t.Var=0 then decide (t.Attr=0) && qkl t.Value else decide (0 < t.Var∧t.Var≤vars∧0≤t.Attr∧t.Attr < n) && ((t.Value.Kind == 0) && ((t.Value.Num == 0) && (t.Value.Str == [])))
def q0x (n vars:Int) (a:Atom):Bool:=decide (1≤a.Op∧a.Op≤4) && (qv5 n vars a.Left && qv5 n vars a.Right)
def q7z (n:Int) (d:Denial):Bool:=decide (1≤d.Vars∧d.Vars≤3∧d.Atoms.length≤20) && d.Atoms.all (q0x n d.Vars)
theorem q65 (n vars:Int) (t:Term):qfo n vars t=some (qv5 n vars t):=by
 unfold qfo qv5;by_cases h:t.Var=0
 ·rw [if_pos (by simpa using h),if_pos h];by_cases h1:t.Attr=0
  ·simp [h1,qk2]
  ·simp [h1]
 ·rw [if_neg (by simpa using h),if_neg h];by_cases h1:t.Var > 0
  ·rw [if_pos h1];by_cases h2:t.Var≤vars
   ·rw [if_pos h2];by_cases h3:t.Attr≥0
    ·rw [if_pos h3];by_cases h4:t.Attr < n
     ·rw [if_pos h4];simp [h1,h2,h3,h4]
     ·rw [if_neg h4];simp [h4]
    ·rw [if_neg h3];simp [h3]
   ·rw [if_neg h2];simp [h2]
  ·rw [if_neg h1];simp [h1]
theorem vew (a:Atom) (n:Int) (d:Denial):qho a n d=some (!q0x n d.Vars a):=by
 unfold qho q0x;by_cases h1:a.Op < 1
 ·rw [if_pos h1];simp;omega
 ·rw [if_neg h1];by_cases h2:a.Op > 4
  ·rw [if_pos h2];simp;omega
  ·rw [if_neg h2];have h3:1≤a.Op∧a.Op≤4:=by omega
   simp only [q65,v40,h3,and_self,decide_true,v8b];cases qv5 n d.Vars a.Left <;> simp
theorem qv6 (l:List Atom) (f:Atom→Option Bool) (p:Atom→Bool) (hf:∀x∈l,f x=some (p x)) (hl:l.length≤1073741824):qeh l f=some (match l.findIdx? p with | some i=>(i:Int) | none=>-1):=by
 have h:=qgx l (qca l f) p
  (fun k x hx hk hp=>by simp [qca,qai hx,qaf hx,hf x (v3x hx),hp,qbh hk (by omega)])
  (fun k x hx hp=>by simp [qca,qai hx,qaf hx,hf x (v3x hx),hp])
  (by simp [qca])
 simp only [qeh,h,v40];cases l.findIdx? p <;> rfl
theorem qse (l:List Atom) (f:Atom→Option Bool) (p:Atom→Bool) (hf:∀x∈l,f x=some (p x)) (hl:l.length≤1073741824):qdg l f=some (l.any p):=by
 simp only [qdg,qv6 l f p hf hl,v40];exact congrArg some (qjk p l)
theorem qrf (l:List Row) (f:Row→Option Bool) (p:Row→Bool) (hf:∀x∈l,f x=some (p x)) (hl:l.length≤1073741824):qa0 l f=some (l.any p):=by
 simp only [qa0,qw3 l f p hf hl,v40];exact congrArg some (qjk p l)
theorem vjc {α:Type} (p:α→Bool) (l:List α):(!l.any fun x=>!p x)=l.all p:=by
 induction l with
 | nil=>rfl
 | cons x l ih=>simp [ih]
theorem q66 (n:Int) (d:Denial) (hl:d.Atoms.length≤1048576):qh8 n d=some (q7z n d):=by
 unfold qh8 q7z;by_cases h1:d.Vars < 1
 ·rw [if_pos h1];simp;omega
 ·rw [if_neg h1];by_cases h2:d.Vars > 3
  ·rw [if_pos h2];simp;omega
  ·rw [if_neg h2];by_cases h3:(d.Atoms.length:Int) > 20
   ·rw [if_pos h3];simp;omega
   ·rw [if_neg h3];have h4:1≤d.Vars∧d.Vars≤3∧d.Atoms.length≤20:=by omega
    rw [qse d.Atoms _ (fun a=>!q0x n d.Vars a) (fun x _=>vew x n d) (by omega)];simp only [v40,vjc,h4,and_self,decide_true,v8b]
def vtv (rows:List Row) (t:Term):Value:=if t.Var=0 then t.Value else (rows.getD (t.Var - 1).toNat ⟨0,[]⟩).Values.getD t.Attr.toNat vtu
def opB (op n:Int):Bool:=if op=1 then decide (n=0) else if op=2 then decide (n≠0) else if op=3 then decide (n < 0) else decide (n≤0)
def q2e (rows:List Row) (a:Atom):Bool:=opB a.Op (qq8 (vtv rows a.Left) (vtv rows a.Right))
structure RowsN (n:Nat) (vars:Int) (rows:List Row):Prop where
 len:(rows.length:Int)=vars
 few:rows.length≤3
 vals:∀r∈rows,r.Values.length=n∧∀v∈r.Values,v.Str.length≤1048576
theorem vpn {α:Type} {l:List α} {i:Int} (h:0≤i):idx l i=l[i.toNat]?:=by
 obtain ⟨k,rfl⟩:=v8d h;rw [qym];simp
theorem vnc {n:Nat} {vars:Int} {rows:List Row} (R:RowsN n vars rows) {t:Term} (ht:qv5 n vars t=true) (h0:t.Var≠0) :
  ∃r v,idx rows (v67.wrap (t.Var - 1))=some r∧idx r.Values t.Attr=some v∧vtv rows t=v∧r∈rows∧v∈r.Values:=by
 unfold qv5 at ht;rw [if_neg h0,v2m,decide_eq_true_eq] at ht;obtain ⟨⟨h1,h2,h3,h4⟩,_⟩:=ht;have hlen:=R.len;have hw:v67.wrap (t.Var - 1)=t.Var - 1:=qbx (by have:=R.few;omega) (by have:=R.few;omega);have hi:(t.Var - 1).toNat < rows.length:=by omega
 have hr:rows[(t.Var - 1).toNat]?=some (rows[(t.Var - 1).toNat]'hi):=v3d hi;have hm:rows[(t.Var - 1).toNat]'hi∈rows:=v88 hi;have hv:t.Attr.toNat < (rows[(t.Var - 1).toNat]'hi).Values.length:=by rw [(R.vals _ hm).1];omega
 refine ⟨rows[(t.Var - 1).toNat]'hi,(rows[(t.Var - 1).toNat]'hi).Values[t.Attr.toNat]'hv,?_,?_,?_,hm,v88 hv⟩
 ·rw [hw,vpn (by omega)];exact hr
 ·rw [vpn h3];exact v3d hv
 ·unfold vtv;rw [if_neg h0];have e1:rows.getD (t.Var - 1).toNat ⟨0,[]⟩=rows[(t.Var - 1).toNat]'hi:=by rw [v5s,hr];rfl
  rw [e1,v5s,v3d hv];rfl
theorem vb3 {n:Nat} {vars:Int} {rows:List Row} (R:RowsN n vars rows) {t:Term} (ht:qv5 n vars t=true):qmg rows t=some (vtv rows t):=by
 unfold qmg;by_cases h0:t.Var=0
 ·rw [if_pos (by simpa using h0)];unfold vtv;rw [if_pos h0]
 ·rw [if_neg (by simpa using h0)];obtain ⟨r,v,h1,h2,h3,_⟩:=vnc R ht h0;rw [h1,v40,h2,v40,h3]
theorem qrg {n:Nat} {vars:Int} {rows:List Row} (R:RowsN n vars rows) (l:List Atom) (hl:l.length≤1000000) (h:∀a∈l,q0x n vars a=true):qd0 rows l=some (l.all (q2e rows)):=by
 have qas:∀a∈l,(1≤a.Op∧a.Op≤4)∧qv5 n vars a.Left=true∧qv5 n vars a.Right=true:=fun a ha=>by
  have:=h a ha;simpa only [q0x,v2m,decide_eq_true_eq] using this
 have hL:qaj (qeb rows l) 0=some (if l.all (q2e rows) then .inl () else .inr false):=by
  refine qlc l _ (q2e rows) false (fun k x hx hk hp=>?_) (fun k x hx hp=>?_) (by simp [qeb])
  ·obtain ⟨h1,h2,h3⟩:=qas x (v3x hx);simp only [qeb,if_pos (qai hx),qaf hx,v40,vb3 R h2,vb3 R h3,qll,qbh hk (show l.length≤4611686018427387904 by omega)];unfold q2e opB at hp;have:x.Op=1∨x.Op=2∨x.Op=3∨x.Op=4:=by omega
   rcases this with e | e | e | e <;> simp only [e] at hp ⊢ <;> simpa using hp
  ·obtain ⟨h1,h2,h3⟩:=qas x (v3x hx);simp only [qeb,if_pos (qai hx),qaf hx,v40,vb3 R h2,vb3 R h3,qll];unfold q2e opB at hp;have:x.Op=1∨x.Op=2∨x.Op=3∨x.Op=4:=by omega
   rcases this with e | e | e | e <;> simp only [e] at hp ⊢ <;> simpa using hp
 unfold qd0;rw [hL,v40];cases l.all (q2e rows) <;> rfl
theorem qxf {α β:Type} (f:α→β):∀l:List α,(l.flatMap fun i=>[f i])=l.map f
 | []=>rfl
 | x :: l=>by rw [v5r,qxf f l];rfl
def vpo:List Value:=[⟨1,0,[]⟩,⟨1,1,[]⟩,⟨1,2,[]⟩,⟨0,0,[]⟩,⟨2,0,[97]⟩,⟨2,0,[98]⟩,⟨2,0,[]⟩,⟨3,1,[]⟩,⟨1,-1,[]⟩,⟨2,0,[97,98]⟩,⟨3,2,[]⟩,⟨1,7,[]⟩]
theorem vtw (c:Int):∃v,qda c=some v∧v∈vpo:=by
 unfold qda;by_cases h0:(v7u c 12 == 0)=true
 ·rw [if_pos h0];exact ⟨_,rfl,by decide⟩
 rw [if_neg h0];by_cases h1:(v7u c 12 == 1)=true
 ·rw [if_pos h1];exact ⟨_,rfl,by decide⟩
 rw [if_neg h1];by_cases h2:(v7u c 12 == 2)=true
 ·rw [if_pos h2];exact ⟨_,rfl,by decide⟩
 rw [if_neg h2];by_cases h3:(v7u c 12 == 3)=true
 ·rw [if_pos h3];exact ⟨_,rfl,by decide⟩
 rw [if_neg h3];by_cases h4:(v7u c 12 == 4)=true
 ·rw [if_pos h4];exact ⟨_,rfl,by decide⟩
 rw [if_neg h4];by_cases h5:(v7u c 12 == 5)=true
 ·rw [if_pos h5];exact ⟨_,rfl,by decide⟩
 rw [if_neg h5];by_cases h6:(v7u c 12 == 6)=true
 ·rw [if_pos h6];exact ⟨_,rfl,by decide⟩
 rw [if_neg h6];by_cases h7:(v7u c 12 == 7)=true
 ·rw [if_pos h7];exact ⟨_,rfl,by decide⟩
 rw [if_neg h7];by_cases h8:(v7u c 12 == 8)=true
 ·rw [if_pos h8];exact ⟨_,rfl,by decide⟩
 rw [if_neg h8];by_cases h9:(v7u c 12 == 9)=true
 ·rw [if_pos h9];exact ⟨_,rfl,by decide⟩
 rw [if_neg h9];by_cases h10:(v7u c 12 == 10)=true
 ·rw [if_pos h10];exact ⟨_,rfl,by decide⟩
 rw [if_neg h10];exact ⟨_,rfl,by decide⟩
theorem v1p (c:Int):vin (ofV c):=by
 obtain ⟨v,h1,h2⟩:=vtw c;have:ofV c=v:=by unfold ofV;rw [h1];rfl
 rw [this];have all:∀w∈vpo,((Lit.int .i64 w.Kind).wf && (Lit.int .i64 w.Num).wf && decide (w.Str.length≤1048576))=true:=by decide
 have:=all v h2;simp only [v2m,decide_eq_true_eq] at this;exact ⟨this.1.1,this.1.2,this.2⟩
theorem v1q {n:Int} (h1:-9223372036854775808≤n) (h2:n≤9223372036854775807):okI .i64 n:=by
 show (decide (v8k .i64≤n) && decide (n≤v8j .i64))=true;have e1:v8k .i64=-9223372036854775808:=by decide
 have e2:v8j .i64=9223372036854775807:=by decide
 rw [e1,e2,v2m,decide_eq_true_eq,decide_eq_true_eq];exact ⟨h1,h2⟩
theorem vtx (x:Drossref03_Recipe) (n:Nat) (hn:n≤8) (hr:x.Rows.length≤8):qtc (vbx x n):=by
 refine ⟨by show okS [114];unfold okS;decide,⟨?_,fun s hs=>?_⟩,⟨?_,fun r h=>?_⟩⟩
 ·simp only [vbx,v3r];omega
 ·have hm:s∈qox:=List.mem_of_mem_take hs;have:∀w∈qox,w.length≤1048576:=by decide
  exact this s hm
 ·simp only [vbx,v3n,v54];omega
 ·obtain ⟨i,hi,rfl⟩:=v6h.1 h;have hi':=v6j.1 hi;have hs:qsd x≤3:=by unfold qsd;omega
  have hm:i * qsd x≤8 * 3:=v9u (by omega) hs;refine ⟨v1q (by simp only [vbw];omega) (by simp only [vbw];omega),?_,fun v hv=>?_⟩
  ·simp only [vbw,v3n,v54];omega
  ·obtain ⟨k,_,rfl⟩:=v6h.1 hv;exact v1p _
theorem qos.gt {t:Table} (G:qos t) (h:qtc t):GT t:=gt_of h G.err
theorem vjd {n:Nat} (hn:n≤16) {l:Int} (h:0≤l∧l≤255):v68.wrap ((BitVec.ofInt 32 (v68.wrap l) &&& (BitVec.ofInt 32 ((2 ^ n - 1:Nat):Int))).toNat:Int)=((l.toNat % 2 ^ n:Nat):Int):=by
 obtain ⟨k,rfl⟩:∃k:Nat,l=(k:Int):=⟨l.toNat,by omega⟩;have hp:2 ^ n < 4294967296:=qzk (by omega);rw [qxk (n:=(k:Int)) (by omega) (by omega),vir (show k < 4294967296 by omega) (show 2 ^ n - 1 < 4294967296 by omega),Nat.and_two_pow_sub_one_eq_mod,v8h]
theorem vje (n:Nat) (k:Nat):k % 2 ^ n < 2 ^ n:=v4t _ (v9w (by omega))
end Go.Proofs.YtkebadaokhljmaaGreatDoor
namespace Go.Ab
open Go
def vfn {α:Type} (lt:α→α→Bool) (x:α):List α→List α
 | []=>[x]
 | y :: p=>if lt x y then y :: vfn lt x p else x :: y :: p
theorem q38 {α:Type} (lt:α→α→Bool) (x:α):∀(p:List α) (z:α),z∈vfn lt x p↔z=x∨z∈p
 | [],z=>by simp [vfn]
 | y :: p,z=>by
  simp only [vfn];split
  ·rw [v6d,q38 lt x p z,v6d];constructor
   ·rintro (h | h | h)
    ·exact .inr (.inl h)
    ·exact .inl h
    ·exact .inr (.inr h)
   ·rintro (h | h | h)
    ·exact .inr (.inl h)
    ·exact .inl h
    ·exact .inr (.inr h)
  ·rw [v6d]
theorem vb4 {α:Type} (lt:α→α→Bool) (x:α):∀p:List α,(vfn lt x p).length=p.length+1
 | []=>rfl
 | y :: p=>by
  simp only [vfn];split
  ·simp [vb4 lt x p]
  ·simp
theorem qzw {α:Type} (lt:α→α→Bool) (asym:∀x y,lt x y=true→lt y x=false) (ntr:∀x y z,lt x y=false→lt y z=false→lt x z=false) (x:α):∀p:List α,p.Pairwise (fun a b=>lt a b=false)→(vfn lt x p).Pairwise (fun a b=>lt a b=false)
 | [],_=>by simp [vfn]
 | y :: p,h=>by
  obtain ⟨h1,h2⟩:=v9g.1 h;simp only [vfn];by_cases hc:lt x y=true
  ·rw [if_pos hc];refine v9g.2 ⟨fun z hz=>?_,qzw lt asym ntr x p h2⟩;rcases (q38 lt x p z).1 hz with rfl | hz
   ·exact asym _ _ hc
   ·exact h1 z hz
  ·rw [if_neg hc];have hc':lt x y=false:=by simpa using hc
   refine v9g.2 ⟨fun z hz=>?_,h⟩;rcases v6d.1 hz with rfl | hz
   ·exact hc'
   ·exact ntr _ _ _ hc' (h1 z hz)
end Go.Ab
namespace Go.Proofs.YtkebadaokhljmaaGreatDoor
open Go Go.Ab
end Go.Proofs.YtkebadaokhljmaaGreatDoor
namespace Go.Ab
open Go
end Go.Ab
namespace Go.Proofs.YtkebadaokhljmaaGreatDoor
open Go Go.Ab
theorem vty {s k:Nat} (hs:s < 4294967296) (hk:k < 32):qhm (s:Int) (k:Int)=some (s.testBit k):=by
 rw [vi3,q34 hs (by omega),decide_eq_true (show 0≤(k:Int) by omega),decide_eq_true (show (k:Int) < 32 by omega)];rfl
def befN (q z:Nat×Nat):Prop:=lexN q.1 z.1∨(q.1=z.1∧q.2 < z.2)
instance instDecBefN (q z:Nat×Nat):Decidable (befN q z):=by unfold befN;exact inferInstance
end Go.Proofs.YtkebadaokhljmaaGreatDoor
namespace Go.Ab
open Go
theorem q67 {α:Type} (lt:α→α→Bool) (x:α):∀p:List α,(vfn lt x p).Perm (x :: p)
 | []=>v8q.refl _
 | y :: p=>by
  simp only [vfn];split
  ·exact ((q67 lt x p).cons y).trans (v8q.swap x y p)
  ·exact v8q.refl _
end Go.Ab
namespace Go.Proofs.YtkebadaokhljmaaGreatDoor
open Go Go.Ab
def ltL:List Int→List Int→Bool
 | [],[]=>false
 | [],_ :: _=>true
 | _ :: _,[]=>false
 | x :: a,y :: b=>if x=y then ltL a b else decide (x < y)
theorem qv7:∀a:List Int,ltL a a=false
 | []=>rfl
 | x :: a=>by rw [ltL,if_pos rfl,qv7 a]
theorem qxr:∀a b:List Int,ltL a b=true→ltL b a=false
 | [],[],h=>rfl
 | [],_ :: _,h=>rfl
 | _ :: _,[],h=>by cases h
 | x :: a,y :: b,h=>by
  rw [ltL] at h ⊢;by_cases e:x=y
  ·subst e;rw [if_pos rfl] at h ⊢;exact qxr a b h
  ·rw [if_neg e] at h;rw [if_neg (fun e'=>e e'.symm)];simp at h ⊢;omega
theorem qrh:∀a b:List Int,ltL a b=false→ltL b a=false→a=b
 | [],[],_,_=>rfl
 | [],_ :: _,h,_=>by cases h
 | _ :: _,[],_,h=>by cases h
 | x :: a,y :: b,h1,h2=>by
  rw [ltL] at h1 h2;by_cases e:x=y
  ·subst e;rw [if_pos rfl] at h1 h2;rw [qrh a b h1 h2]
  ·rw [if_neg e] at h1;rw [if_neg (fun e'=>e e'.symm)] at h2;simp at h1 h2;omega
theorem quz:∀a b c:List Int,ltL a b=true→ltL b c=true→ltL a c=true
 | [],[],_,h,_=>by cases h
 | _ :: _,[],_,h,_=>by cases h
 | _,_ :: _,[],_,h=>by cases h
 | [],_ :: _,_ :: _,_,_=>rfl
 | x :: a,y :: b,z :: c,h1,h2=>by
  rw [ltL] at h1 h2 ⊢;by_cases e1:x=y
  ·subst e1;rw [if_pos rfl] at h1;by_cases e2:x=z
   ·subst e2;rw [if_pos rfl] at h2 ⊢;exact quz a b c h1 h2
   ·rw [if_neg e2] at h2 ⊢;exact h2
  ·rw [if_neg e1] at h1;by_cases e2:y=z
   ·subst e2;rw [if_neg e1];exact h1
   ·rw [if_neg e2] at h2;have h1':x < y:=by simpa using h1
    have h2':y < z:=by simpa using h2
    rw [if_neg (by omega)];simp;omega
theorem q39 (a b c:List Int) (h1:ltL a b=false) (h2:ltL b c=false):ltL a c=false:=by
 cases h:ltL a c with
 | false=>rfl
 | true =>
  exfalso;cases h3:ltL b a with
  | true =>
   have:=quz b a c h3 h;rw [h2] at this;cases this
  | false =>
   have:=qrh a b h1 h3;subst this;rw [h2] at h;cases h
theorem q2f:∀{l m:List (List Int)},l.Pairwise (fun a b=>ltL a b=true)→m.Pairwise (fun a b=>ltL a b=true)→(∀z,z∈l↔z∈m)→l=m
 | [],[],_,_,_=>rfl
 | [],y :: m,_,_,h=>by have:=(h y).2 (by simp);cases this
 | x :: l,[],_,_,h=>by have:=(h x).1 (by simp);cases this
 | x :: l,y :: m,hl,hm,h=>by
  rw [v9g] at hl hm;have hxy:x=y:=by
   have hx:=(h x).1 (by simp);have hy:=(h y).2 (by simp);rcases v6d.1 hx with e | hx
   ·exact e
   ·rcases v6d.1 hy with e | hy
    ·exact e.symm
    ·have h1:=hl.1 y hy;have h2:=hm.1 x hx;rw [qxr x y h1] at h2;cases h2
  subst hxy;have irr:∀{l:List (List Int)},(∀a∈l,ltL x a=true)→x ∉ l:=fun H hx=>by
   have:=H x hx;rw [qv7] at this;cases this
  rw [q2f hl.2 hm.2 fun z=>?_];constructor
  ·intro hz;rcases v6d.1 ((h z).1 (v6e _ hz)) with e | hz'
   ·exact absurd (e ▸ hz) (irr hl.1)
   ·exact hz'
  ·intro hz;rcases v6d.1 ((h z).2 (v6e _ hz)) with e | hz'
   ·exact absurd (e ▸ hz) (irr hm.1)
   ·exact hz'
theorem qu0 {α:Type} {l:List α} {k:Nat} {x:α} {r:List α} (h:l.drop k=x :: r):l[k]?=some x∧l.drop (k+1)=r∧k < l.length:=by
 have h1:l[k]?=some x:=by
  have:=congrArg (·[0]?) h;simpa [v3c] using this
 exact ⟨h1,by rw [←v7y,h];rfl,qdf h1⟩
theorem qu1 {α:Type} {l:List α} {k:Nat} (h:l.drop k=[]) (hk:k≤l.length):k=l.length:=by
 have:=congrArg v71 h;simp at this;omega
theorem qsv (a b:List Int) (ha:a.length≤1000000) (hb:b.length≤1000000):∀(ra rb:List Int) (k:Nat),a.drop k=ra→b.drop k=rb→k≤a.length→k≤b.length →
  ∃o,qaj (qa5 a b) (k:Int)=some o∧(match o with | .inl ()=>if (a.length:Int) < (b.length:Int) then -1 else 0 | .inr r=>r)=if ltL ra rb=true then (-1:Int) else if ltL rb ra=true then 1 else 0
 | [],[],k,h1,h2,h3,h4=>by
  have e1:=qu1 h1 h3;have e2:=qu1 h2 h4;refine ⟨.inl (),qao (by simp [qa5,e1]),?_⟩;simp only;rw [if_neg (by omega)];rfl
 | [],y :: rb,k,h1,h2,h3,h4=>by
  have e1:=qu1 h1 h3;have e2:=(qu0 h2).2.2;refine ⟨.inl (),qao (by simp [qa5,e1]),?_⟩;simp only;rw [if_pos (by omega)];rfl
 | x :: ra,[],k,h1,h2,h3,h4=>by
  have e2:=qu1 h2 h4;obtain ⟨x1,x2,x3⟩:=qu0 h1;refine ⟨.inr 1,qao (by simp only [qa5,if_pos (qai x1),qaf x1,v40,if_pos (show (k:Int)≥(b.length:Int) by omega)]),?_⟩;simp [ltL]
 | x :: ra,y :: rb,k,h1,h2,h3,h4=>by
  obtain ⟨x1,x2,x3⟩:=qu0 h1;obtain ⟨y1,y2,y3⟩:=qu0 h2;by_cases e:x=y
  ·subst e;obtain ⟨o,ho1,ho2⟩:=qsv a b ha hb ra rb (k+1) x2 y2 x3 y3;refine ⟨o,?_,?_⟩
   ·rw [qaq (s':=((k+1:Nat):Int)) (by simp only [qa5,if_pos (qai x1),if_neg (show ¬(k:Int)≥(b.length:Int) by omega),qaf x1,qaf y1,v40,qq6,vmq,bne_self_eq_false,v2o,if_false,qbh x3 (show a.length≤4611686018427387904 by omega)])];exact ho1
   ·rw [ho2,ltL,ltL,if_pos rfl,if_pos rfl]
  ·refine ⟨.inr (sgn x y),qao ?_,?_⟩
   ·have:(sgn x y != 0)=true:=by simpa using vpj e
    simp only [qa5,if_pos (qai x1),if_neg (show ¬(k:Int)≥(b.length:Int) by omega),qaf x1,qaf y1,v40,qq6,this,if_true]
   ·simp only [ltL,if_neg e,if_neg (fun e'=>e e'.symm:¬y=x)];unfold sgn;by_cases h:x < y
    ·simp [h]
    ·have:y < x:=by omega
     simp [h,this]
def q68 (a b:List Int):Int:=if ltL a b=true then -1 else if ltL b a=true then 1 else 0
theorem qld (a b:List Int) (ha:a.length≤1000000) (hb:b.length≤1000000):qab a b=some (q68 a b):=by
 obtain ⟨o,h1,h2⟩:=qsv a b ha hb a b 0 rfl rfl (v6w _) (v6w _);have h1':qaj (qa5 a b) 0=some o:=h1;unfold qab q68;rw [h1',v40,←h2];cases o with
 | inl u =>
  cases u;simp only;by_cases h:(a.length:Int) < (b.length:Int)
  ·rw [if_pos h,if_pos h]
  ·rw [if_neg h,if_neg h]
 | inr r=>rfl
theorem qgg (a b:List Int):q68 a b < 0↔ltL a b=true:=by
 unfold q68;cases h:ltL a b with
 | true=>simp
 | false =>
  cases ltL b a <;> simp
theorem vex (l:List (List Int)) (hl:l.length≤1000000) (hs:∀a∈l,a.length≤1000000) (hn:l.Nodup) :
  ∃s,q3e (fun (a:List Int) (b:List Int)=>qab a b) l=some s∧s.Perm l∧s.Pairwise (fun a b=>ltL a b=true):=by
 have hc:∀x∈l,∀y∈l,(qab x y).getD 0=q68 x y:=fun x hx y hy=>by rw [qld x y (hs x hx) (hs y hy)];rfl
 have hok:q5q (fun x y=>(qab x y).getD 0) l:=by
  refine ⟨fun x hx=>?_,fun x hx y hy z hz h1 h2=>?_,fun x hx y hy z hz h1 h2=>?_⟩
  ·show ¬(qab x x).getD 0 < 0;rw [hc x hx x hx,qgg,qv7];simp
  ·replace h1:(qab x y).getD 0 < 0:=h1;replace h2:(qab y z).getD 0 < 0:=h2;show (qab x z).getD 0 < 0;rw [hc _ hx _ hy,qgg] at h1;rw [hc _ hy _ hz,qgg] at h2;rw [hc _ hx _ hz,qgg];exact quz x y z h1 h2
  ·replace h1:¬(qab x y).getD 0 < 0:=h1;replace h2:¬(qab y z).getD 0 < 0:=h2;show ¬(qab x z).getD 0 < 0;rw [hc _ hx _ hy,qgg] at h1;rw [hc _ hy _ hz,qgg] at h2;rw [hc _ hx _ hz,qgg];have h1':ltL x y=false:=by simpa using h1
   have h2':ltL y z=false:=by simpa using h2
   rw [q39 x y z h1' h2'];simp
 have hp:=q3g hok;refine ⟨srt (fun x y=>(qab x y).getD 0) l,?_,hp,?_⟩
 ·unfold q3e;rw [if_pos ⟨fun x hx y hy=>by show (qab x y).isSome=true;rw [qld x y (hs x hx) (hs y hy)];rfl,hok,by omega⟩]
 ·have h1:=q1r hok;have hn':(srt (fun x y=>(qab x y).getD 0) l).Nodup:=hp.nodup_iff.2 hn;refine v8p.imp_of_mem ?_ (h1.and hn');intro a b ha hb hab;have ha':=hp.mem_iff.1 ha;have hb':=hp.mem_iff.1 hb;obtain ⟨g1,g2⟩:=hab;replace g1:¬(qab b a).getD 0 < 0:=g1;rw [hc _ hb' _ ha',qgg] at g1;cases h:ltL a b with
  | true=>rfl
  | false=>exact absurd (qrh a b h (by simpa using g1)) g2
def q2g (l:List (List Int)):Prop:=l.Pairwise fun a b=>ltL a b=true
def vjf (out:List (List Int)) (x:List Int):List (List Int):=if x∈out then out else (vfn ltL x out.reverse).reverse
theorem vnd (out:List (List Int)) (x z:List Int):z∈vjf out x↔z∈out∨z=x:=by
 unfold vjf;by_cases h:x∈out
 ·rw [if_pos h];constructor
  ·intro hz;exact .inl hz
  ·rintro (hz | rfl)
   ·exact hz
   ·exact h
 ·rw [if_neg h,v9d,q38,v9d];exact Or.comm
theorem vtz {l:List (List Int)} (h:l.Pairwise fun a b=>ltL b a=false) (hn:l.Nodup):q2g l:=by
 refine v8p.imp ?_ (h.and hn);rintro a b ⟨h1,h2⟩;cases h3:ltL a b with
 | true=>rfl
 | false=>exact absurd (qrh a b h3 h1) h2
theorem q2h {l:List (List Int)} (h:q2g l):l.Nodup:=by
 refine v8p.imp ?_ h;intro a b hab e;subst e;rw [qv7] at hab;cases hab
theorem vne {out:List (List Int)} (x:List Int) (h:q2g out):q2g (vjf out x):=by
 unfold vjf;by_cases hm:x∈out
 ·rw [if_pos hm];exact h
 ·rw [if_neg hm];have h1:out.reverse.Pairwise fun a b=>ltL a b=false:=by
   rw [v9i];exact h.imp fun {a b} hab=>qxr a b hab
  have h2:=qzw ltL qxr q39 x out.reverse h1;refine vtz ?_ ?_
  ·rw [v9i];exact h2
  ·rw [(v9l _).nodup_iff,(q67 ltL x out.reverse).nodup_iff,List.nodup_cons];exact ⟨by rw [v9d];exact hm,(v9l out).nodup_iff.2 (q2h h)⟩
theorem vnf (out:List (List Int)) (x:List Int):(vjf out x).length≤out.length+1:=by
 unfold vjf;split
 ·omega
 ·rw [v9a,vb4,v9a];exact v4o _
def q9u (l:List (List Int)):List (List Int):=l.foldl vjf []
theorem q69 (z:List Int):∀(l out:List (List Int)),z∈l.foldl vjf out↔z∈out∨z∈l
 | [],out=>by simp
 | x :: l,out=>by
  rw [v82,q69 z l,vnd];simp only [v6d,or_assoc]
theorem q7a:∀(l out:List (List Int)),q2g out→q2g (l.foldl vjf out)
 | [],_,h=>h
 | x :: l,out,h=>q7a l _ (vne x h)
theorem q7b:∀(l out:List (List Int)),(l.foldl vjf out).length≤out.length+l.length
 | [],out=>by simp
 | x :: l,out=>by
  rw [v82];have h1:=q7b l (vjf out x);have h2:=vnf out x;simp only [v5y];omega
theorem q4a (l:List (List Int)) (z:List Int):z∈q9u l↔z∈l:=by unfold q9u;rw [q69];simp
theorem vng (l:List (List Int)):q2g (q9u l):=q7a l [] v8p.nil
theorem vb5 (l:List (List Int)):(q9u l).length≤l.length:=by have:=q7b l [];simpa [q9u] using this
theorem vt0 {l m:List (List Int)} (hm:q2g m) (h:∀z,z∈l↔z∈m):q9u l=m:=q2f (vng l) hm fun z=>by rw [q4a];exact h z
def qnd (rows:List Row):List Int:=vkn (rows.map Row.ID)
theorem q0y:∀{l m:List Int},l.Perm m→l.Pairwise (fun a b=>a≤b)→m.Pairwise (fun a b=>a≤b)→l=m:=fun hp h1 h2=>hp.eq_of_pairwise (fun a b _ _ h h'=>by omega) h1 h2
theorem qr7 (rows:List Row):(qnd rows).length=rows.length:=by
 unfold qnd;rw [(qop _).length_eq,v3n]
def qoy (t:Table) (d:Denial):Int:=if qcp t≠0 then qcp t else if q7z t.Attrs.length d=true then (if d.Vars=3∧200 < t.Rows.length then 3 else 0) else 1
theorem vnh (t:Table) (d:Denial) (b:Bool):(if b=true then (if (d.Vars == 3)=true then (if (t.Rows.length:Int) > 200 then some 3 else some 0) else some 0) else some 1)=some (if b=true then (if d.Vars=3∧200 < t.Rows.length then (3:Int) else 0) else 1):=by
 cases b with
 | false=>rfl
 | true =>
  simp only [if_true];by_cases h3:d.Vars=3
  ·rw [if_pos (by simpa using h3)];by_cases h4:200 < t.Rows.length
   ·rw [if_pos (by omega),if_pos ⟨h3,h4⟩]
   ·rw [if_neg (by omega),if_neg (by rintro ⟨_,h⟩;exact h4 h)]
  ·rw [if_neg (by simpa using h3),if_neg (by rintro ⟨h,_⟩;exact h3 h)]
theorem vey (t:Table) (d:Denial) (T:TableOk t) (hl:d.Atoms.length≤1048576):qi3 t d=some (qoy t d):=by
 unfold qi3 qoy;rw [qe8 t T,v40];by_cases h:qcp t=0
 ·simp only [h,bne_self_eq_false,v2o,if_false,ne_eq,not_true_eq_false,q66 _ d hl,v40];exact vnh t d _
 ·have h':(qcp t != 0)=true:=by simpa using h
  simp only [h',if_true,ne_eq,h,not_false_eq_true]
structure DT (t:Table):Prop where
 ok:TableOk t
 err:qcp t=0
 few:t.Rows.length≤7
 str:∀r∈t.Rows,∀v∈r.Values,v.Str.length≤1048576
theorem DT.code {t:Table} (H:DT t):(∀r∈t.Rows,r.Values.length=t.Attrs.length∧r.Values.all qkl=true∧0 < r.ID)∧t.Rows.Pairwise (fun x y=>x.ID < y.ID):=qn1 _ _ _ (qrc H.err).2.2
theorem vjg (t:Table) (a:List Row):(qzv t a).length≤t.Rows.length:=by
 unfold qzv;rw [v3n];exact v51 _ _
theorem vjh {t:Table} {a b:List Row} (h:b∈qzv t a):∃r∈t.Rows,b=a++[r]∧∀x∈a,x.ID≠r.ID:=by
 unfold qzv at h;obtain ⟨r,hr,rfl⟩:=v6h.1 h;obtain ⟨h1,h2⟩:=v6g.1 hr;refine ⟨r,h1,rfl,fun x hx e=>?_⟩;simp only [v2q,v8s] at h2;exact h2 x hx (by simpa using e)
theorem vb6 {t:Table} (hn:t.Rows.length≤7):∀k,(q7y t k).length≤7 ^ k
 | 0=>by simp [q7y]
 | k+1=>by
  have ih:=vb6 hn k;have key:∀l:List (List Row),(l.flatMap (qzv t)).length≤7 * l.length:=by
   intro l
   induction l with
   | nil=>simp
   | cons a l ihl =>
    rw [v5r,v3l,v5y];have:=vjg t a;omega
  have:=key (q7y t k);rw [v9x];show ((q7y t k).flatMap (qzv t)).length≤_;omega
theorem q4b {t:Table}:∀{k:Nat} {a:List Row},a∈q7y t k→a.length=k∧(∀r∈a,r∈t.Rows)∧a.Pairwise fun x y=>x.ID≠y.ID
 | 0,a,h=>by
  have:a=[]:=by simpa [q7y] using h
  subst this;exact ⟨rfl,by simp,v8p.nil⟩
 | k+1,a,h=>by
  obtain ⟨b,hb,hab⟩:=v3w.1 (show a∈(q7y t k).flatMap (qzv t) from h);obtain ⟨r,hr,rfl,hne⟩:=vjh hab;obtain ⟨h1,h2,h3⟩:=q4b hb;refine ⟨by simp [h1],fun x hx=>?_,?_⟩
  ·rcases v3v.1 hx with hx | hx
   ·exact h2 x hx
   ·rw [v6k.1 hx];exact hr
  ·rw [v9f];exact ⟨h3,by simp,fun x hx y hy=>by rw [v6k.1 hy];exact hne x hx⟩
theorem vji {t:Table}:∀{k:Nat} {a:List Row},a.length=k→(∀r∈a,r∈t.Rows)→a.Pairwise (fun x y=>x.ID≠y.ID)→a∈q7y t k
 | 0,a,h,_,_=>by
  rw [List.eq_nil_of_length_eq_zero h];simp [q7y]
 | k+1,a,h,h2,h3=>by
  have hne:a≠[]:=by intro e;rw [e] at h;cases h
  have e:=(List.dropLast_concat_getLast hne).symm;generalize a.getLast hne=r at e;generalize a.dropLast=b at e;subst e;rw [v9f] at h3;refine v3w.2 ⟨b,vji (by simpa using h) (fun x hx=>h2 x (by simp [hx])) h3.1,?_⟩;unfold qzv;refine v6h.2 ⟨r,v6g.2 ⟨h2 r (by simp),?_⟩,rfl⟩;simp only [v2q,v8s];intro x hx;have:=h3.2.2 x hx r (by simp);simpa using this
def qoz (t:Table) (d:Denial):List (List Int):=((q7y t d.Vars.toNat).filter fun a=>d.Atoms.all (q2e a)).map qnd
theorem q7c {t:Table} (hn:t.Rows.length≤7) {d:Denial} (h:d.Vars≤3):(qoz t d).length≤343:=by
 unfold qoz;rw [v3n];refine v4q (v51 _ _) ?_;have:=vb6 hn d.Vars.toNat;have h7:7 ^ d.Vars.toNat≤7 ^ 3:=v9v (by omega) (by omega);have:7 ^ 3=343:=by decide
 omega
theorem q9v {t:Table} {d:Denial} {z:List Int} (h:z∈qoz t d):z.length=d.Vars.toNat:=by
 unfold qoz at h;obtain ⟨a,ha,rfl⟩:=v6h.1 h;rw [qr7];exact (q4b (v6g.1 ha).1).1
theorem qkz {n:Int} {d:Denial} (h:q7z n d=true):(1≤d.Vars∧d.Vars≤3∧d.Atoms.length≤20)∧∀a∈d.Atoms,q0x n d.Vars a=true:=by
 simpa only [q7z,v2m,decide_eq_true_eq,v5m] using h
def vt1 (t:Table) (d:Denial):List (List Int)×Int:=if qoy t d=0 then (q9u (qoz t d),0) else ([],qoy t d)
theorem qzx {t:Table} {d:Denial} (h:qoy t d=0):qcp t=0∧q7z t.Attrs.length d=true:=by
 unfold qoy at h;by_cases h1:qcp t=0
 ·rw [if_neg (by simp [h1])] at h;refine ⟨h1,?_⟩;cases h2:q7z t.Attrs.length d with
  | true=>rfl
  | false=>rw [h2] at h;simp at h
 ·rw [if_pos h1] at h;exact absurd h h1
abbrev qo0:=List (Arr3_int64×Bool)×List (List Int)
def q0z (d:Denial) (a:List Row) (b:qo0):qo0:=if d.Atoms.all (q2e a)=true then (if qnd a∈b.2 then b else (qrz b.1 (q9t (qnd a)) true,b.2++[qnd a])) else b
def q2i (t:Table) (d:Denial):Nat→List Row→qo0→qo0
 | 0,a,b=>q0z d a b
 | m+1,a,b=>t.Rows.foldl (fun b r=>if (a.any fun x=>x.ID == r.ID)=true then b else q2i t d m (a++[r]) b) b
structure SeenOk (n:Nat) (b:qo0):Prop where
 len:∀z∈b.2,z.length=n
 seen:∀z:List Int,z.length=n→((qnq b.1 (q9t z)).getD false=true↔z∈b.2)
theorem vni {n:Nat} (hn:n≤3) {d:Denial} {a:List Row} {b:qo0} (ha:a.length=n) (h:SeenOk n b):SeenOk n (q0z d a b)∧(q0z d a b).2.length≤b.2.length+1:=by
 unfold q0z;split
 ·by_cases hm:qnd a∈b.2
  ·rw [if_pos hm];exact ⟨h,by omega⟩
  ·rw [if_neg hm];have hl:(qnd a).length=n:=by rw [qr7,ha]
   refine ⟨⟨fun z hz=>?_,fun z hz=>?_⟩,by simp⟩
   ·rcases v3v.1 hz with hz | hz
    ·exact h.len z hz
    ·rw [v6k.1 hz];exact hl
   ·simp only [qus,v3v,v6k];by_cases hk:q9t z=q9t (qnd a)
    ·rw [if_pos hk];have:=vnb hn hz hl hk;simp [this]
    ·rw [if_neg hk,h.seen z hz];constructor
     ·intro hz;exact .inl hz
     ·rintro (hz | rfl)
      ·exact hz
      ·exact absurd rfl hk
 ·exact ⟨h,by omega⟩
theorem q9w {n:Nat} (hn:n≤3) {t:Table} (ht:t.Rows.length≤7) {d:Denial}:∀(m:Nat) (a:List Row) (b:qo0),a.length+m=n→SeenOk n b→SeenOk n (q2i t d m a b)∧(q2i t d m a b).2.length≤b.2.length+7 ^ m
 | 0,a,b,ha,h=>vni hn (by omega) h
 | m+1,a,b,ha,h=>by
  have key:∀(l:List Row) (b:qo0),SeenOk n b→SeenOk n (l.foldl (fun b r=>if (a.any fun x=>x.ID == r.ID)=true then b else q2i t d m (a++[r]) b) b) ∧
    (l.foldl (fun b r=>if (a.any fun x=>x.ID == r.ID)=true then b else q2i t d m (a++[r]) b) b).2.length≤b.2.length+l.length * 7 ^ m:=by
   intro l
   induction l with
   | nil=>intro b h;exact ⟨h,by simp⟩
   | cons r l ih =>
    intro b h;rw [v82];by_cases hu:(a.any fun x=>x.ID == r.ID)=true
    ·rw [if_pos hu];obtain ⟨h1,h2⟩:=ih b h;refine ⟨h1,?_⟩;rw [v5y,v9y];generalize 7 ^ m=P at *;omega
    ·rw [if_neg hu];obtain ⟨g1,g2⟩:=q9w hn ht m (a++[r]) b (by simp;omega) h;obtain ⟨h1,h2⟩:=ih _ g1;refine ⟨h1,?_⟩;rw [v5y,v9y];generalize 7 ^ m=P at *;omega
  obtain ⟨h1,h2⟩:=key t.Rows b h;refine ⟨h1,?_⟩;have:t.Rows.length * 7 ^ m≤7 * 7 ^ m:=v4v _ ht;rw [v9x];show (t.Rows.foldl _ b).2.length≤_;omega
theorem vjj (d:Denial) (a:List Row) (b:qo0):(q0z d a b).2=if d.Atoms.all (q2e a)=true then veu b.2 (qnd a) else b.2:=by
 unfold q0z veu;split
 ·split <;> rfl
 ·rfl
theorem vb7 (t:Table) (d:Denial):∀(m:Nat) (a:List Row) (b:qo0),(q2i t d m a b).2=(((q9s t m a).filter fun x=>d.Atoms.all (q2e x)).map qnd).foldl veu b.2
 | 0,a,b=>by
  show (q0z d a b).2=_;rw [vjj];show _=(([a].filter fun x=>d.Atoms.all (q2e x)).map qnd).foldl veu b.2;by_cases h:d.Atoms.all (q2e a)=true
  ·rw [if_pos h,v8v,if_pos h];rfl
  ·rw [if_neg h,v8v,if_neg h];rfl
 | m+1,a,b=>by
  have key:∀(l:List Row) (b:qo0),(l.foldl (fun b r=>if (a.any fun x=>x.ID == r.ID)=true then b else q2i t d m (a++[r]) b) b).2 =
    (((((l.filter fun r=>!(a.any fun x=>x.ID == r.ID)).map fun r=>a++[r]).flatMap (q9s t m)).filter fun x=>d.Atoms.all (q2e x)).map qnd).foldl veu b.2:=by
   intro l
   induction l with
   | nil=>intro b;rfl
   | cons r l ih =>
    intro b;rw [v82,ih,v8v];by_cases hu:(a.any fun x=>x.ID == r.ID)=true
    ·rw [if_pos hu,if_neg (by simp [hu])]
    ·rw [if_neg hu,if_pos (by simpa using hu),vb7 t d m (a++[r]) b,v3t,v5r,v8t,v3s,v81]
  exact key t.Rows b
theorem q4c (l:List Row) (hl:l.length≤1000):qaj (qdx l) ([],0)=some (l.map Row.ID):=by
 have h:=qdu l (fun (b:List Int) (i:Int)=>(b,i)) (qdx l) (fun b r=>b++[r.ID]) id (fun k b=>b.length=k) (b0:=[]) (s0:=([],0)) rfl rfl
  (fun k b x hx hk hI=>by
   refine ⟨?_,by simp [hI]⟩;simp only [qdx,if_pos (qai hx),qaf hx,v40,qw2 (show b.length+1≤17592186044416 by omega),if_true,qbh hk (show l.length≤4611686018427387904 by omega)])
  (fun b _=>by simp [qdx])
 rw [h];have key:∀(l:List Row) (b:List Int),l.foldl (fun b (r:Row)=>b++[r.ID]) b=b++l.map Row.ID:=by
  intro l
  induction l with
  | nil=>intro b;simp
  | cons x l ih=>intro b;rw [v82,ih];simp
 rw [id,key,v33]
theorem vnj (l:List Row) (hl:l.length≤1000):qaj (qiv l) ([],0)=some (l.map Row.ID):=q4c l hl
theorem vnk (l:List Row) (hl:l.length≤1000):qaj (qiu l) ([],0)=some (l.map Row.ID):=q4c l hl
theorem qzy (l:List Row) (hl:l.length≤1000):qyp (l.map Row.ID)=some (qnd l):=by
 unfold qyp qnd;rw [if_pos (by rw [v3n];omega)]
theorem qn7 (a:List Row) (r:Row) (ha:a.length≤1000):qa0 a (fun y=>qc8 y r)=some (a.any fun x=>x.ID == r.ID) :=
 qrf a _ (fun x=>x.ID == r.ID) (fun x _=>rfl) (by omega)
theorem qo1 {n:Nat} (hn:n≤3) {t:Table} (ht:t.Rows.length≤7) {d:Denial} {m:Nat} {a:List Row} (ha:a.length+(m+1)=n) {τ:Type}
  (B:List (Arr3_int64×Bool)×List (List Int)×Int→Option (LS (List (Arr3_int64×Bool)×List (List Int)×Int) ((List (Arr3_int64×Bool)×List (List Int)) ⊕ τ)))
  (hB:∀(k:Nat) (b:qo0) (r:Row),t.Rows[k]?=some r→k < t.Rows.length→SeenOk n b→b.2.length+7 ^ m≤400→(a.any fun x=>x.ID == r.ID)=false→B (b.1,b.2,(k:Int))=some (.next ((q2i t d m (a++[r]) b).1,(q2i t d m (a++[r]) b).2,v67.wrap ((k:Int)+1))))
  (hU:∀(k:Nat) (b:qo0) (r:Row),t.Rows[k]?=some r→k < t.Rows.length→(a.any fun x=>x.ID == r.ID)=true→B (b.1,b.2,(k:Int))=some (.next (b.1,b.2,v67.wrap ((k:Int)+1))))
  (hE:∀b:qo0,B (b.1,b.2,(t.Rows.length:Int))=some (.done (.inl (b.1,b.2)))) (b0:qo0) (h0:SeenOk n b0) (hl:b0.2.length+7 ^ (m+1)≤400) :
  qaj B (b0.1,b0.2,0)=some (.inl ((q2i t d (m+1) a b0).1,(q2i t d (m+1) a b0).2)):=by
 have h:=qdu t.Rows (fun (b:qo0) (i:Int)=>(b.1,b.2,i)) B (fun b r=>if (a.any fun x=>x.ID == r.ID)=true then b else q2i t d m (a++[r]) b) (fun b=>(.inl (b.1,b.2):(List (Arr3_int64×Bool)×List (List Int)) ⊕ τ))
  (fun k b=>SeenOk n b∧b.2.length≤b0.2.length+k * 7 ^ m) (b0:=b0) (s0:=(b0.1,b0.2,0)) rfl ⟨h0,by omega⟩
  (fun k b x hx hk hI=>by
   obtain ⟨hI1,hI2⟩:=hI;have hb:b.2.length+7 ^ m≤400:=by
    have:(k+1) * 7 ^ m≤7 * 7 ^ m:=v4v _ (by omega);rw [v9y] at this;rw [v9x] at hl;generalize 7 ^ m=P at *;omega
   have hw:=qbh hk (show t.Rows.length≤4611686018427387904 by omega);by_cases hu:(a.any fun x_1=>x_1.ID == x.ID)=true
   ·rw [if_pos hu];refine ⟨by rw [hU k b x hx hk hu,hw],hI1,?_⟩;rw [v9y];generalize 7 ^ m=P at *;omega
   ·rw [if_neg hu];obtain ⟨g1,g2⟩:=q9w hn ht m (a++[x]) b (by simp;omega) hI1;refine ⟨by rw [hB k b x hx hk hI1 hb (by simpa using hu),hw],g1,?_⟩;rw [v9y];generalize 7 ^ m=P at *;omega)
  (fun b _=>hE b)
 rw [h];rfl
theorem qzz {n:Nat} {d:Denial} {a:List Row} {b:qo0} (ha:a.length=n) (h:SeenOk n b) (hb:b.2.length≤400) {σ τ:Type} (k:Int) (X:σ→Option (LS (List (Arr3_int64×Bool)×List (List Int)×Int) τ)) (y1:τ) (y2:τ) :
  (if d.Atoms.all (q2e a)=true then
   (if ((qnq b.1 (Arr3_int64.mk ((qnd a).getD 0 0) ((qnd a).getD 1 0) ((qnd a).getD 2 0))).getD false)=true then
    (if ((b.2.length:Nat):Int)≤20000 then some (LS.next (b.1,b.2,k)) else some (LS.done y1))
   else if qbi (b.2.length+1) 24=true then
    (if (((b.2.length+1):Nat):Int)≤20000 then some (LS.next ((qrz b.1 (Arr3_int64.mk ((qnd a).getD 0 0) ((qnd a).getD 1 0) ((qnd a).getD 2 0)) true),(b.2++[qnd a]),k)) else some (LS.done y2))
   else none)
  else some (LS.next (b.1,b.2,k)))=some (LS.next ((q0z d a b).1,(q0z d a b).2,k)):=by
 have hl:(qnd a).length=n:=by rw [qr7,ha]
 have hs:=h.seen (qnd a) hl;unfold q0z;by_cases hsat:d.Atoms.all (q2e a)=true
 ·rw [if_pos hsat,if_pos hsat];by_cases hm:qnd a∈b.2
  ·have h1:((qnq b.1 (Arr3_int64.mk ((qnd a).getD 0 0) ((qnd a).getD 1 0) ((qnd a).getD 2 0))).getD false)=true:=hs.2 hm;rw [if_pos h1,if_pos (by omega),if_pos hm]
  ·have h1:¬((qnq b.1 (Arr3_int64.mk ((qnd a).getD 0 0) ((qnd a).getD 1 0) ((qnd a).getD 2 0))).getD false)=true:=fun h=>hm (hs.1 h)
   rw [if_neg h1,if_neg hm,if_pos (qbq (by omega) (by omega)),if_pos (by omega)];rfl
 ·rw [if_neg hsat,if_neg hsat]
theorem q4d {t:Table} (H:DT t) {a:List Row} {n:Nat} (hn:n≤3) (ha:a.length=n) (hm:∀r∈a,r∈t.Rows):RowsN t.Attrs.length (n:Int) a :=
 ⟨by omega,by omega,fun r hr=>⟨((H.code).1 r (hm r hr)).1,H.str r (hm r hr)⟩⟩
theorem qz0 {t:Table} {a:List Row} (hm:∀r∈a,r∈t.Rows) {k:Nat} {x:Row} (hx:t.Rows[k]?=some x):∀r∈a++[x],r∈t.Rows:=by
 intro r hr;rcases v3v.1 hr with hr | hr
 ·exact hm r hr
 ·rw [v6k.1 hr];exact v3x hx
theorem vnl {t:Table} (H:DT t) {d:Denial} (hd:q7z t.Attrs.length d=true) (hv:d.Vars=3) (a:List Row) (ha:a.length=2) (hm:∀r∈a,r∈t.Rows) (b:qo0) (hb:SeenOk 3 b) (hl:b.2.length+7≤400) :
  qaj (qdy t d a) (b.1,b.2,0)=some (.inl ((q2i t d 1 a b).1,(q2i t d 1 a b).2)):=by
 obtain ⟨⟨hv1,hv2,hv3⟩,hat⟩:=qkz hd;refine qo1 (n:=3) (by omega) H.few (m:=0) (by omega) _ (fun k b x hx hk hI hlen hu=>?_) (fun k b x hx hk hu=>?_) (fun b=>by simp [qdy]) b hb hl
 ·have R:=q4d H (a:=a++[x]) (n:=3) (by omega) (by simp [ha]) (qz0 hm hx);have hlen3:(a++[x]).length=3:=by simp [ha]
  have hc:(((a++[x]).length:Int) == d.Vars)=true:=by rw [hlen3,hv];rfl
  rw [show ((3:Nat):Int)=d.Vars by omega] at R;simp only [qdy,if_pos (qai hx),qaf hx,v40,qn7 a x (by omega),hu,v2o,if_false,if_pos (show a.length≤1000000000 by omega),qbq (show a.length+1≤1073741824 by omega) (show 32≤65536 by omega),if_true,hc,qrg R d.Atoms (by omega) hat,q4c (a++[x]) (by omega),qzy (a++[x]) (by omega)];exact qzz (σ:=Unit) hlen3 hI (by omega) _ (fun _=>none) _ _
 ·simp only [qdy,if_pos (qai hx),qaf hx,v40,qn7 a x (by omega),hu,if_true]
theorem vnm {t:Table} (H:DT t) {d:Denial} (hd:q7z t.Attrs.length d=true) {n:Nat} (hv:d.Vars=(n:Int)) (h2:2≤n) (h3:n≤3) (a:List Row) (ha:a.length=1) (hm:∀r∈a,r∈t.Rows) (b:qo0) (hb:SeenOk n b) (hl:b.2.length+7 ^ (n - 1)≤400) :
  qaj (qbm t d a) (b.1,b.2,0)=some (.inl ((q2i t d (n - 1) a b).1,(q2i t d (n - 1) a b).2)):=by
 obtain ⟨⟨hv1,hv2,hv3⟩,hat⟩:=qkz hd;have hcase:n=2∨n=3:=by omega
 rcases hcase with rfl | rfl
 ·refine qo1 (n:=2) (by omega) H.few (m:=0) (by omega) _ (fun k b x hx hk hI hlen hu=>?_) (fun k b x hx hk hu=>?_) (fun b=>by simp [qbm]) b hb hl
  ·have R:=q4d H (a:=a++[x]) (n:=2) (by omega) (by simp [ha]) (qz0 hm hx);have hlen3:(a++[x]).length=2:=by simp [ha]
   have hc:(((a++[x]).length:Int) == d.Vars)=true:=by rw [hlen3,hv];rfl
   rw [show ((2:Nat):Int)=d.Vars by omega] at R;simp only [qbm,if_pos (qai hx),qaf hx,v40,qn7 a x (by omega),hu,v2o,if_false,if_pos (show a.length≤1000000000 by omega),qbq (show a.length+1≤1073741824 by omega) (show 32≤65536 by omega),if_true,hc,qrg R d.Atoms (by omega) hat,vnj (a++[x]) (by omega),qzy (a++[x]) (by omega)];exact qzz (σ:=Unit) hlen3 hI (by omega) _ (fun _=>none) _ _
  ·simp only [qbm,if_pos (qai hx),qaf hx,v40,qn7 a x (by omega),hu,if_true]
 ·refine qo1 (n:=3) (by omega) H.few (m:=1) (by omega) _ (fun k b x hx hk hI hlen hu=>?_) (fun k b x hx hk hu=>?_) (fun b=>by simp [qbm]) b hb hl
  ·have hlen3:(a++[x]).length=2:=by simp [ha]
   have hc:¬((((a++[x]).length:Int) == d.Vars)=true):=by rw [hlen3,hv];decide
   simp only [qbm,if_pos (qai hx),qaf hx,v40,qn7 a x (by omega),hu,v2o,if_false,if_pos (show a.length≤1000000000 by omega),qbq (show a.length+1≤1073741824 by omega) (show 32≤65536 by omega),if_true,if_neg hc];rw [vnl H hd hv (a++[x]) hlen3 (qz0 hm hx) b hI (by omega)];rfl
  ·simp only [qbm,if_pos (qai hx),qaf hx,v40,qn7 a x (by omega),hu,if_true]
theorem vnn {t:Table} (H:DT t) {d:Denial} (hd:q7z t.Attrs.length d=true) {n:Nat} (hv:d.Vars=(n:Int)) (h1:1≤n) (h3:n≤3) (b:qo0) (hb:SeenOk n b) (hl:b.2.length+343≤400) :
  qaj (qbn t d []) (b.1,b.2,0)=some (.inl ((q2i t d n [] b).1,(q2i t d n [] b).2)):=by
 obtain ⟨⟨hv1,hv2,hv3⟩,hat⟩:=qkz hd;have hm:∀r∈([]:List Row),r∈t.Rows:=by simp
 by_cases hc1:n=1
 ·subst hc1;refine qo1 (n:=1) (by omega) H.few (m:=0) (a:=[]) (by simp) _ (fun k b x hx hk hI hlen hu=>?_) (fun k b x hx hk hu=>?_) (fun b=>by simp [qbn]) b hb (by simp at hl ⊢;omega)
  ·have R:=q4d H (a:=[]++[x]) (n:=1) (by omega) (by simp) (qz0 hm hx);have hlen3:(([]:List Row)++[x]).length=1:=by simp
   have hc:(((([]:List Row)++[x]).length:Int) == d.Vars)=true:=by rw [hlen3,hv];rfl
   rw [show ((1:Nat):Int)=d.Vars by omega] at R;simp only [qbn,if_pos (qai hx),qaf hx,v40,qn7 [] x (by simp),hu,v2o,if_false,if_pos (show ([]:List Row).length≤1000000000 by simp),qbq (show ([]:List Row).length+1≤1073741824 by simp) (show 32≤65536 by omega),if_true,hc,qrg R d.Atoms (by omega) hat,vnk ([]++[x]) (by simp),qzy ([]++[x]) (by simp)];exact qzz (σ:=Unit) hlen3 hI (by omega) _ (fun _=>none) _ _
  ·simp only [qbn,if_pos (qai hx),qaf hx,v40,qn7 [] x (by simp),hu,if_true]
 ·obtain ⟨m,rfl⟩:∃m,n=m+2:=⟨n - 2,by omega⟩;have h7:7 ^ (m+2)≤343:=by
   have:m=0∨m=1:=by omega
   rcases this with rfl | rfl <;> decide
  have h7':7 ^ (m+1)≤49:=by
   have:m=0∨m=1:=by omega
   rcases this with rfl | rfl <;> decide
  refine qo1 (n:=m+2) (by omega) H.few (m:=m+1) (a:=[]) (by simp) _ (fun k b x hx hk hI hlen hu=>?_) (fun k b x hx hk hu=>?_) (fun b=>by simp [qbn]) b hb (by rw [show m+1+1=m+2 by omega];omega)
  ·have hlen3:(([]:List Row)++[x]).length=1:=by simp
   have hc:¬((((([]:List Row)++[x]).length:Int) == d.Vars)=true):=by rw [hlen3,hv];simp;omega
   simp only [qbn,if_pos (qai hx),qaf hx,v40,qn7 [] x (by simp),hu,v2o,if_false,if_pos (show ([]:List Row).length≤1000000000 by simp),qbq (show ([]:List Row).length+1≤1073741824 by simp) (show 32≤65536 by omega),if_true,if_neg hc];rw [vnm H hd hv (by omega) h3 ([]++[x]) hlen3 (qz0 hm hx) b hI hlen];rfl
  ·simp only [qbn,if_pos (qai hx),qaf hx,v40,qn7 [] x (by simp),hu,if_true]
theorem vez (t:Table) (d:Denial) {n:Nat} (hn:n≤3) (ht:t.Rows.length≤7) (hv:d.Vars=(n:Int)) :
  q3e (fun (a:List Int) (b:List Int)=>qab a b) (q2i t d n [] (([]:List (Arr3_int64×Bool)),([]:List (List Int)))).2=some (q9u (qoz t d)):=by
 have h0:SeenOk n (([]:List (Arr3_int64×Bool)),([]:List (List Int))):=⟨by simp,fun z _=>by simp [qnq]⟩;obtain ⟨h1,h2⟩:=q9w hn ht (d:=d) n [] _ (by simp) h0;have hsnd:=vb7 t d n [] (([]:List (Arr3_int64×Bool)),([]:List (List Int)));have e:n=d.Vars.toNat:=by omega
 rw [vm9] at hsnd;have hv':(q2i t d n [] (([]:List (Arr3_int64×Bool)),([]:List (List Int)))).2=(qoz t d).foldl veu []:=by
  rw [hsnd];unfold qoz;rw [←e]
 rw [hv'] at h2 ⊢;have h7:7 ^ n≤7 ^ 3:=v9v (by omega) hn;have h343:7 ^ 3=343:=by decide
 have hnd:=qre (qoz t d) [] List.nodup_nil;obtain ⟨s,g1,g2,g3⟩:=vex ((qoz t d).foldl veu []) (by simp at h2;omega) (fun a ha=>by
  rcases (qpt a (qoz t d) []).1 ha with h | h
  ·cases h
  ·rw [q9v h];omega) hnd
 rw [g1];congr 1;refine (vt0 g3 fun z=>?_).symm;rw [g2.mem_iff,qpt];simp
theorem q00 (t:Table) (d:Denial) (T:TableOk t) (hs:∀r∈t.Rows,∀v∈r.Values,v.Str.length≤1048576) (hn:t.Rows.length≤7) (hl:d.Atoms.length≤1048576):qdi t d=some (vt1 t d):=by
 unfold qdi vt1;rw [vey t d T hl,v40];by_cases h:qoy t d=0
 ·rw [if_neg (by simp [h]),if_pos h];obtain ⟨h1,h2⟩:=qzx h;have H:DT t:=⟨T,h1,hn,hs⟩;obtain ⟨⟨hv1,hv2,hv3⟩,hat⟩:=qkz h2;have hv:d.Vars=((d.Vars.toNat:Nat):Int):=by omega
  have h0:SeenOk d.Vars.toNat (([]:List (Arr3_int64×Bool)),([]:List (List Int))):=⟨by simp,fun z _=>by simp [qnq]⟩;have hL:=vnn H h2 hv (by omega) (by omega) (([]:List (Arr3_int64×Bool)),([]:List (List Int))) h0 (by simp);have hc:¬((((([]:List Row).length:Nat):Int) == d.Vars)=true):=by simp;omega
  simp only [v40,if_neg hc];rw [hL];simp only [v40,if_true];rw [vez t d (by omega) hn hv,v40]
 ·rw [if_pos (by simpa using h),if_neg h]
theorem v1r {t:Table} (h:qtc t):∀r∈t.Rows,∀v∈r.Values,v.Str.length≤1048576:=fun r hr v hv=>((h.2.2.2 r hr).2.2 v hv).2.2
theorem dt_of {t:Table} (h:qtc t) (G:qos t) (hn:t.Rows.length≤7):DT t:=⟨vbr h,G.err,hn,v1r h⟩
def ve0 (n:Nat) (vars:Nat) (s:Drossref18_Side):Term:=if s.Var.toNat % (vars+1)=0∨n=0 then ⟨0,0,ofV s.Code⟩ else ⟨((s.Var.toNat % (vars+1):Nat):Int),((s.Code.toNat % n:Nat):Int),⟨0,0,[]⟩⟩
def vjk (n vars:Nat) (a:Drossref18_Sentence):Atom:=⟨ve0 n vars a.Left,((1+a.Op.toNat % 4:Nat):Int),ve0 n vars a.Right⟩
def vjl (n:Nat) (r:Drossref18_Recipe):Denial:=⟨((1+r.Vars.toNat % 3:Nat):Int),r.Atoms.map (vjk n (1+r.Vars.toNat % 3))⟩
theorem qu2 {a:Int} {b:Nat} (h:0≤a):v7u a (b:Int)=((a.toNat % b:Nat):Int):=by
 obtain ⟨k,rfl⟩:=v8d h;rw [v8h]
 first | exact (Int.ofNat_tmod k b).symm | (rw [v8g (v8e k)];exact (Int.natCast_emod k b).symm) | (rw [v8g (v8e k)];simp)
theorem vjm {n vars:Nat} (hn:n≤16) (hv:vars≤3) {s:Drossref18_Side} (hs:qgy s):qgk (n:Int) (vars:Int) s=some (ve0 n vars s):=by
 have h1:=qrd hs.1;have h2:=qrd hs.2;have w1:v67.wrap ((vars:Int)+1)=((vars+1:Nat):Int):=by rw [qbx (by omega) (by omega)];omega
 have w2:v67.wrap s.Var=s.Var:=qbx (by omega) (by omega);have w3:v67.wrap s.Code=s.Code:=qbx (by omega) (by omega);unfold qgk ve0;rw [w1,w2,w3,if_neg (by omega),qu2 h1.1];by_cases h0:s.Var.toNat % (vars+1)=0
 ·rw [if_pos (show s.Var.toNat % (vars+1)=0∨n=0 from .inl h0)];have:((((s.Var.toNat % (vars+1):Nat):Int)) == 0)=true:=by rw [h0];rfl
  simp only [this,if_true,v40,(qux s.Code).1]
 ·have:¬(((((s.Var.toNat % (vars+1):Nat):Int)) == 0)=true):=by
   generalize s.Var.toNat % (vars+1)=q at *;simp;exact h0
  simp only [if_neg this,v40];by_cases hn0:n=0
  ·rw [if_pos (show s.Var.toNat % (vars+1)=0∨n=0 from .inr hn0)];subst hn0;simp only [v8f,beq_self_eq_true,if_true,(qux s.Code).1,v40]
  ·rw [if_neg (show ¬(s.Var.toNat % (vars+1)=0∨n=0) by rintro (h | h);exact h0 h;exact hn0 h)];have:¬(((n:Int) == 0)=true):=by simpa using hn0
   simp only [if_neg this,if_neg (show ¬(n:Int)=0 by omega),qu2 h2.1]
theorem ve1 {n vars:Nat} (s:Drossref18_Side):qv5 (n:Int) (vars:Int) (ve0 n vars s)=true:=by
 unfold ve0 qv5;by_cases h0:s.Var.toNat % (vars+1)=0∨n=0
 ·rw [if_pos h0,if_pos rfl];simp [(qux s.Code).2.1]
 ·rw [if_neg h0];have h1:¬s.Var.toNat % (vars+1)=0:=fun h=>h0 (.inl h)
  have h2:¬n=0:=fun h=>h0 (.inr h)
  have h3:=v4t s.Var.toNat (show 0 < vars+1 by omega);have h4:=v4t s.Code.toNat (show 0 < n by omega);rw [if_neg (by simp only;omega)];simp only [v2m,decide_eq_true_eq];refine ⟨⟨by omega,by omega,by omega,by omega⟩,by decide⟩
theorem vt2 {n:Nat} (hn:n≤16) {r:Drossref18_Recipe} (h:qhb r):qj1 (n:Int) r=some (vjl n r,decide ((r.Atoms.length:Int)≤5)):=by
 have hv:=qrd h.1;have w0:v7u r.Vars 3=((r.Vars.toNat % 3:Nat):Int):=qu2 (b:=3) hv.1;have wv:v67.wrap (1+(v67.wrap (v7u r.Vars 3)))=((1+r.Vars.toNat % 3:Nat):Int):=by
  rw [w0,qbx (n:=((r.Vars.toNat % 3:Nat):Int)) (by omega) (by omega),qbx (by omega) (by omega)];omega
 have hL:=qdu r.Atoms (fun (b:List Atom) (i:Int)=>(b,i)) (qhf (n:Int) r) (fun b a=>b++[vjk n (1+r.Vars.toNat % 3) a]) id (fun k b=>b.length=k) (b0:=[]) (s0:=([],0)) rfl rfl
  (fun k b x hx hk hI=>by
   refine ⟨?_,by simp [hI]⟩;have hlen:=h.2.1;obtain ⟨g1,g2,g3⟩:=h.2.2 x (v3x hx);have g2':=qrd g2;have w4:v7u x.Op 4=((x.Op.toNat % 4:Nat):Int):=qu2 (b:=4) g2'.1;have wo:v67.wrap (1+(v67.wrap (v7u x.Op 4)))=((1+x.Op.toNat % 4:Nat):Int):=by
    rw [w4,qbx (n:=((x.Op.toNat % 4:Nat):Int)) (by omega) (by omega),qbx (by omega) (by omega)];omega
   simp only [qhf,if_pos (qai hx),qaf hx,v40,wv,vjm hn (show 1+r.Vars.toNat % 3≤3 by omega) g1,vjm hn (show 1+r.Vars.toNat % 3≤3 by omega) g3,qbq (show b.length+1≤1073741824 by omega) (show 104≤65536 by omega),if_true,wo,qbh hk (show r.Atoms.length≤4611686018427387904 by omega)];rfl)
  (fun b _=>by simp [qhf])
 unfold qj1 vjl;rw [hL,v40,wv];have key:∀(l:List Drossref18_Sentence) (b:List Atom),l.foldl (fun b a=>b++[vjk n (1+r.Vars.toNat % 3) a]) b=b++l.map (vjk n (1+r.Vars.toNat % 3)):=by
  intro l
  induction l with
  | nil=>intro b;simp
  | cons x l ih=>intro b;rw [v82,ih];simp
 rw [id,key,v33]
theorem q9x {n:Nat} {r:Drossref18_Recipe} (hl:r.Atoms.length≤5):q7z (n:Int) (vjl n r)=true:=by
 unfold q7z vjl;simp only [v2m,decide_eq_true_eq,v5m,v3n];refine ⟨⟨by omega,by omega,by omega⟩,fun a ha=>?_⟩;obtain ⟨s,_,rfl⟩:=v6h.1 ha;unfold q0x vjk;simp only [v2m,decide_eq_true_eq,ve1,and_self,and_true];omega
def atT (v a:Int):Term:=⟨v,a,⟨0,0,[]⟩⟩
def qz1 (op a:Int):Atom:=⟨atT 1 a,op,atT 2 a⟩
def q01 (s a:Nat):Denial:=⟨2,((qe9 s).map fun x:Nat=>qz1 1 (x:Int))++[qz1 2 (a:Int)]⟩
def fdL (s r:Nat):List Denial:=(qe9 (qw5 r s)).map (q01 s)
theorem vjn (op a:Int):qmr op a=some (qz1 op a):=rfl
theorem ve2 {s n:Nat} (hn:n≤32) (h:s < 2 ^ n):qe9 s=(v34 n).filter fun i=>s.testBit i:=by
 unfold qe9;obtain ⟨m,hm⟩:∃m,32=n+m:=⟨32 - n,by omega⟩;rw [hm,List.range_add,v8t];have:(List.map (fun x=>n+x) (v34 m)).filter (fun i=>s.testBit i)=[]:=by
  rw [v8w];intro i hi;obtain ⟨j,_,rfl⟩:=v6h.1 hi;rw [qzl h (by omega)];simp
 rw [this,v2x]
def fdB (n s r:Nat):Bool:=decide ((s ||| r) < 2 ^ n)
theorem one_of {α:Type} {y x:α} {k:Nat} (h:[y][k]?=some x):x=y:=v6k.1 (v3x h)
theorem ve3 {n s r:Nat} (hn:n≤16) (hs:s < 4294967296) (hr:r < 4294967296):qj3 (n:Int) [⟨(s:Int),(r:Int)⟩]=some (if fdB n s r=true then 0 else 1):=by
 have hor:=v1f hs hr;have hsh:((v7t (((s ||| r:Nat):Int)) (2 ^ (min ((n:Int)).toNat 32))) != 0)=!fdB n s r:=by
  rw [v8h,v6s (show n≤32 by omega),qnt];unfold fdB;by_cases h:(s ||| r) < 2 ^ n
  ·rw [v9q h];simp [h]
  ·have h2:=Nat.div_pos (show 2 ^ n≤(s ||| r) by omega) (v9w (n:=n) (show 0 < 2 by omega));simp only [h,decide_false,v8a,bne_iff_ne,ne_eq];omega
 have h:=qlc [(⟨(s:Int),(r:Int)⟩:FD)] (qfm (n:Int) [⟨(s:Int),(r:Int)⟩]) (fun _=>fdB n s r) (1:Int)
  (fun k x hx hk hp=>by
   have hxe:=one_of hx;subst hxe;simp only [qfm,if_pos (qai hx),qaf hx,v40,q6o hs hr,if_neg (show ¬(n:Int) < 0 by omega),hsh,hp,Bool.not_true,v2o,if_false,qbh hk (show [(⟨(s:Int),(r:Int)⟩:FD)].length≤4611686018427387904 by simp)])
  (fun k x hx hp=>by
   have hxe:=one_of hx;subst hxe;simp only [qfm,if_pos (qai hx),qaf hx,v40,q6o hs hr,if_neg (show ¬(n:Int) < 0 by omega),hsh,hp,v8a,if_true])
  (by simp [qfm])
 unfold qj3;rw [if_neg (by omega),if_neg (by omega),if_neg (by simp),h,v40];cases hb:fdB n s r <;> simp
theorem vno (l:List Nat) (hl:l.length≤32):qaj (qfn (l.map fun x:Nat=>(x:Int))) ([],0)=some (l.map fun x:Nat=>qz1 1 (x:Int)):=by
 have h:=qdu (l.map fun x:Nat=>(x:Int)) (fun (b:List Atom) (i:Int)=>(b,i)) (qfn (l.map fun x:Nat=>(x:Int))) (fun b x=>b++[qz1 1 x]) id (fun k b=>b.length=k) (b0:=[]) (s0:=([],0)) rfl rfl
  (fun k b x hx hk hI=>by
   refine ⟨?_,by simp [hI]⟩;rw [v3n] at hk;simp only [qfn,if_pos (qai hx),qaf hx,v40,vjn,qbq (show b.length+1≤1073741824 by omega) (show 104≤65536 by omega),if_true,qbh hk (show l.length≤4611686018427387904 by omega)])
  (fun b _=>by simp [qfn])
 have key:∀(l:List Int) (b:List Atom),l.foldl (fun b x=>b++[qz1 1 x]) b=b++l.map (qz1 1):=by
  intro l
  induction l with
  | nil=>intro b;simp
  | cons x l ih=>intro b;rw [v82,ih];simp
 rw [h,id,key,v33,List.map_map];rfl
theorem vjo {n s r:Nat} (hn:n≤16) (hs:s < 4294967296) (hr:r < 4294967296):qj4 (n:Int) ⟨(s:Int),(r:Int)⟩=some (if fdB n s r=true then (fdL s r,0) else ([],1)):=by
 unfold qj4;rw [ve3 hn hs hr,v40];by_cases hb:fdB n s r=true
 ·have hd:=vmv (b:=s) hr;simp only [hb,if_true,bne_self_eq_false,v2o,if_false,vms hr hs,qte hd,v40];have h:=qdu (qe9 (qw5 r s)) (fun (b:List Denial) (i:Int)=>(b,i)) (qhh ⟨(s:Int),(r:Int)⟩ ((qe9 (qw5 r s)).map fun x:Nat=>(x:Int))) (fun b x=>b++[q01 s x]) id (fun k b=>b.length=k) (b0:=[]) (s0:=([],0)) rfl rfl
   (fun k b x hx hk hI=>by
    refine ⟨?_,by simp [hI]⟩;have hl:=qra (qw5 r s);have hls:=qra s;have hx':((qe9 (qw5 r s)).map fun x:Nat=>(x:Int))[k]?=some (x:Int):=by rw [v3g,hx];rfl
    simp only [qhh,v3n,if_pos (show (k:Int) < ((qe9 (qw5 r s)).length:Int) by omega),qaf hx',v40,qte hs,vno (qe9 s) hls,vjn,v3n,qbq (show (qe9 s).length+1≤1073741824 by omega) (show 104≤65536 by omega),qbq (show b.length+1≤1073741824 by omega) (show 32≤65536 by omega),if_true,qbh hk (show (qe9 (qw5 r s)).length≤4611686018427387904 by omega)];rfl)
   (fun b _=>by simp [qhh])
  rw [h,v40];have key:∀(l:List Nat) (b:List Denial),l.foldl (fun b x=>b++[q01 s x]) b=b++l.map (q01 s):=by
   intro l
   induction l with
   | nil=>intro b;simp
   | cons x l ih=>intro b;rw [v82,ih];simp
  rw [id,key,v33];rfl
 ·rw [if_neg hb,if_neg hb];rfl
end Go.Proofs.YtkebadaokhljmaaGreatDoor
namespace Go.Ab
open Go
abbrev FnM:=Nat→Nat→Int
def updM (F:FnM) (i j:Nat) (v:Int):FnM:=fun a b=>if a=i∧b=j then v else F a b
end Go.Ab
namespace Go.Proofs.YtkebadaokhljmaaGreatDoor
open Go Go.Ab
def putM (F:FnM) (i j:Nat) (w:Int):FnM:=updM F i j (max (F i j) w)
theorem vjp {rows:List Row} {l:List Int} (hp:(rows.map Row.ID).Perm l) (hs:l.Pairwise fun a b=>a≤b):qnd rows=l :=
 q0y ((qop _).trans hp) (qyq _) hs
theorem vnp {a b:Row} (h:a.ID≠b.ID):qnd [a,b]=if a.ID < b.ID then [a.ID,b.ID] else [b.ID,a.ID]:=by
 by_cases h1:a.ID < b.ID
 ·rw [if_pos h1];exact vjp (v8q.refl _) (by simp;omega)
 ·rw [if_neg h1];exact vjp (v8q.swap _ _ _) (by simp;omega)
theorem vnq (a b:Row) (op:Int) (x:Nat):q2e [a,b] (qz1 op (x:Int))=opB op (qq8 (qb8 a x) (qb8 b x)):=by
 unfold q2e qz1 atT vtv;simp [qb8,vtu]
def agP (n:Nat) (s:Int) (a b:Row):Bool:=decide (qtf a b (v1l n s)=0)
def fdP (n:Nat) (s r:Int) (a b:Row):Bool:=agP n s a b && !agP n r a b
theorem qxs {n s:Nat} (hn:n≤16) (hs:s < 2 ^ n) (a b:Row):agP n (s:Int) a b=true↔∀y∈qe9 s,qq8 (qb8 a y) (qb8 b y)=0:=by
 have hs':s < 4294967296:=Nat.lt_trans hs (qzk (by omega));unfold agP;rw [decide_eq_true_eq,vm7];constructor
 ·intro h y hy;obtain ⟨h1,h2⟩:=qn0 hy;have hyn:y < n:=by
   rcases v9t y n with h' | h'
   ·exact h'
   ·rw [qzl hs h'] at h2;cases h2
  have:=h (y:Int) (by omega) (by omega) (by rw [q34 hs' (by omega)];exact h2);simpa using this
 ·intro h i h0 h1 hb;obtain ⟨k,rfl⟩:=v8d h0;rw [q34 hs' (by omega)] at hb;rw [v8h];refine h k ?_;unfold qe9;rw [v6g,v6j];exact ⟨by omega,hb⟩
theorem vb8 (n:Nat) (s:Int) (a b:Row):agP n s b a=agP n s a b:=by
 unfold agP;rw [v73,decide_eq_true_eq,decide_eq_true_eq,vby a b];omega
theorem vnr (n:Nat) (s r:Int) (a b:Row):fdP n s r b a=fdP n s r a b:=by unfold fdP;rw [vb8,vb8 n r]
theorem vpp {n s r:Nat} (hn:n≤16) (hs:s < 2 ^ n) (hr:r < 2 ^ n) (a b:Row):(∃d∈fdL s r,d.Atoms.all (q2e [a,b])=true)↔fdP n (s:Int) (r:Int) a b=true:=by
 have hone:∀x,(q01 s x).Atoms.all (q2e [a,b])=true↔(∀y∈qe9 s,qq8 (qb8 a y) (qb8 b y)=0)∧qq8 (qb8 a x) (qb8 b x)≠0:=by
  intro x;unfold q01;simp only [v8r,List.all_map,v2m,v5m,List.all_cons,List.all_nil,v2n,v8c,vnq,opB,if_true,decide_eq_true_eq,show ¬(2:Int)=1 by decide,if_false]
 unfold fdP;rw [v2m,v2q,qxs hn hs];constructor
 ·rintro ⟨d,hd,hsat⟩;obtain ⟨x,hx,rfl⟩:=v6h.1 hd;obtain ⟨h1,h2⟩:=(hone x).1 hsat;refine ⟨h1,?_⟩;cases hag:agP n (r:Int) a b with
  | false=>rfl
  | true =>
   exfalso;obtain ⟨h3,h4⟩:=qn0 hx;rw [qow,v2m] at h4;refine h2 ((qxs hn hr a b).1 hag x ?_);unfold qe9;rw [v6g,v6j];exact ⟨h3,h4.1⟩
 ·rintro ⟨h1,h2⟩;have:¬∀y∈qe9 r,qq8 (qb8 a y) (qb8 b y)=0:=fun h=>by
   rw [(qxs hn hr a b).2 h] at h2;cases h2
  obtain ⟨y,hy⟩:=Classical.not_forall.1 this;obtain ⟨hy1,hy2⟩:=Classical.not_imp.1 hy;obtain ⟨h3,h4⟩:=qn0 hy1;refine ⟨q01 s y,v6h.2 ⟨y,?_,rfl⟩,(hone y).2 ⟨h1,hy2⟩⟩;unfold qe9;rw [v6g,v6j,qow,h4];refine ⟨h3,?_⟩;cases hb:s.testBit y with
  | false=>rfl
  | true =>
   exfalso;refine hy2 (h1 y ?_);unfold qe9;rw [v6g,v6j];exact ⟨h3,hb⟩
theorem qz2 {n s:Nat} (hn:n≤16) (hs:s < 2 ^ n):(qe9 s).length≤n:=by
 rw [ve2 (by omega) hs];have:=v51 (fun i=>s.testBit i) (v34 n);rw [v54] at this;exact this
theorem q7d {n:Nat} {x:Nat} (hx:x < n) {op:Int} (ho:1≤op∧op≤4):q0x (n:Int) 2 (qz1 op (x:Int))=true:=by
 unfold q0x qz1 atT qv5;simp only [v2m,decide_eq_true_eq];refine ⟨ho,?_,?_⟩
 ·rw [if_neg (by decide)];simp only [v2m,decide_eq_true_eq];exact ⟨⟨by omega,by omega,by omega,by omega⟩,by decide⟩
 ·rw [if_neg (by decide)];simp only [v2m,decide_eq_true_eq];exact ⟨⟨by omega,by omega,by omega,by omega⟩,by decide⟩
theorem vjq {n s x:Nat} (hs:s < 2 ^ n) (hx:x∈qe9 s):x < n:=by
 obtain ⟨h1,h2⟩:=qn0 hx;rcases v9t x n with h' | h'
 ·exact h'
 ·rw [qzl hs h'] at h2;cases h2
theorem vns {t:Table} (H:DT t) (hn:t.Attrs.length≤16) {s r:Nat} (hs:s < 2 ^ t.Attrs.length) (hr:r < 2 ^ t.Attrs.length):∀d∈fdL s r,qoy t d=0:=by
 intro d hd;obtain ⟨x,hx,rfl⟩:=v6h.1 hd;have hxr:x < t.Attrs.length:=by
  obtain ⟨h1,h2⟩:=qn0 hx;rw [qow,v2m] at h2;rcases v9t x t.Attrs.length with h' | h'
  ·exact h'
  ·rw [qzl hr h'] at h2;cases h2.1
 have hb:q7z t.Attrs.length (q01 s x)=true:=by
  unfold q7z q01;have:=qz2 hn hs;simp only [v2m,decide_eq_true_eq,v3l,v3n,v56,v8r,List.all_map,v5m,List.all_cons,List.all_nil,v2n,v8c];exact ⟨⟨by omega,by omega,by omega⟩,fun y hy=>q7d (vjq hs hy) (by omega),q7d hxr (by omega)⟩
 unfold qoy;rw [if_neg (by simp [H.err]),if_pos hb,if_neg (by rintro ⟨h,_⟩;cases h)]
def ve4 (n rhs:Int):Int→List Int→Bool
 | _,[]=>true
 | b,x :: l=>(decide (b < x) && (decide (x < n) && decide (x≠rhs))) && ve4 n rhs x l
def q7e (p:Cell):Bool:=if p.Any=true then ((p.Value.Kind == 0) && ((p.Value.Num == 0) && (p.Value.Str == []))) else qkl p.Value
def ve5 (n:Int) (c:CFD):Bool:=decide (0≤n∧n≤16∧0≤c.Rhs∧c.Rhs < n∧c.Pattern.length=c.Lhs.length+1) && (ve4 n c.Rhs (-1) c.Lhs && c.Pattern.all q7e)
theorem vnt (p:Cell):qd8 p=some (!q7e p):=by
 unfold qd8 q7e;by_cases h:p.Any=true
 ·rw [if_pos h,if_pos h];cases ((p.Value.Kind == 0) && ((p.Value.Num == 0) && (p.Value.Str == []))) <;> rfl
 ·rw [if_neg h,if_neg h,qk2,v40]
theorem qsf (l:List Cell) (f:Cell→Option Bool) (p:Cell→Bool) (hf:∀x∈l,f x=some (p x)) (hl:l.length≤1000000):qdh l f=some (l.any p):=by
 have h:=qgx l (qcb l f) p
  (fun k x hx hk hp=>by simp [qcb,qai hx,qaf hx,hf x (v3x hx),hp,qbh hk (by omega)])
  (fun k x hx hp=>by simp [qcb,qai hx,qaf hx,hf x (v3x hx),hp])
  (by simp [qcb])
 have hI:qei l f=some (match l.findIdx? p with | some i=>(i:Int) | none=>-1):=by
  simp only [qei,h,v40];cases l.findIdx? p <;> rfl
 simp only [qdh,hI,v40];exact congrArg some (qjk p l)
theorem vpq (n:Int) (c:CFD) (hl:c.Lhs.length≤1000000):∀(r:List Int) (k:Nat) (b:Int),c.Lhs.drop k=r→k≤c.Lhs.length→qaj (qbl n c) (b,(k:Int))=some (if ve4 n c.Rhs b r=true then .inl () else .inr false)
 | [],k,b,hd,hk=>by
  have:=qu1 hd hk;subst this;exact qao (by simp [qbl,ve4])
 | x :: r,k,b,hd,hk=>by
  obtain ⟨x1,x2,x3⟩:=qu0 hd;by_cases h1:x≤b
  ·rw [qao (t:=.inr false) (by simp only [qbl,if_pos (qai x1),qaf x1,v40,if_pos h1])];simp [ve4,show ¬b < x by omega]
  ·by_cases h2:x≥n
   ·rw [qao (t:=.inr false) (by simp only [qbl,if_pos (qai x1),qaf x1,v40,if_neg h1,if_pos h2])];simp [ve4,show ¬x < n by omega]
   ·by_cases h3:x=c.Rhs
    ·rw [qao (t:=.inr false) (by simp only [qbl,if_pos (qai x1),qaf x1,v40,if_neg h1,if_neg h2,if_pos (show (x == c.Rhs)=true by simpa using h3)])];simp [ve4,h3]
    ·rw [qaq (s':=(x,((k+1:Nat):Int))) (by simp only [qbl,if_pos (qai x1),qaf x1,v40,if_neg h1,if_neg h2,if_neg (show ¬(x == c.Rhs)=true by simpa using h3),qbh x3 (show c.Lhs.length≤4611686018427387904 by omega)])];rw [vpq n c hl r (k+1) x x2 x3];simp [ve4,show b < x by omega,show x < n by omega,h3]
theorem q7f (n:Int) (c:CFD) (h1:c.Lhs.length≤1000000) (h2:c.Pattern.length≤1000000):qd9 n c=some (ve5 n c):=by
 have hL:=vpq n c h1 c.Lhs 0 (-1) rfl (v6w _);have hL':qaj (qbl n c) (-1,0)=_:=hL;unfold qd9 ve5;by_cases a1:n < 0
 ·rw [if_pos a1];simp [show ¬0≤n by omega]
 rw [if_neg a1];by_cases a2:n > 16
 ·rw [if_pos a2];simp [show ¬n≤16 by omega]
 rw [if_neg a2];by_cases a3:c.Rhs < 0
 ·rw [if_pos a3];simp [show ¬0≤c.Rhs by omega]
 rw [if_neg a3];by_cases a4:c.Rhs≥n
 ·rw [if_pos a4];simp [show ¬c.Rhs < n by omega]
 rw [if_neg a4];have hw:v67.wrap ((c.Lhs.length:Int)+1)=((c.Lhs.length+1:Nat):Int):=qcd (by omega);rw [hw];by_cases a5:c.Pattern.length=c.Lhs.length+1
 ·rw [if_neg (by rw [a5];simp),hL',v40];have e:(0≤n∧n≤16∧0≤c.Rhs∧c.Rhs < n∧c.Pattern.length=c.Lhs.length+1):=⟨by omega,by omega,by omega,by omega,a5⟩;simp only [e,and_self,decide_true,v8b];cases ve4 n c.Rhs (-1) c.Lhs with
  | false=>simp
  | true =>
   simp only [if_true,v8b,qsf c.Pattern _ (fun p=>!q7e p) (fun p _=>vnt p) h2,v40,vjc]
 ·rw [if_pos (by simp only [bne_iff_ne,ne_eq];omega)];simp [a5]
theorem qdc {β σ τ:Type} (n:Nat) (S:β→Int→σ) (B:σ→Option (LS σ τ)) (fin:β→τ) (I:Nat→β→Prop) {b0:β} {s0:σ} (h00:s0=S b0 0) (h0:I 0 b0)
  (hs:∀(k:Nat) b,k < n→I k b→∃b',B (S b (k:Int))=some (.next (S b' ((k+1:Nat):Int)))∧I (k+1) b')
  (he:∀b,I n b→B (S b (n:Int))=some (.done (fin b))):∃b,qaj B s0=some (fin b)∧I n b:=by
 have key:∀(m k:Nat) (b:β),k+m=n→I k b→∃b',qaj B (S b (k:Int))=some (fin b')∧I n b':=by
  intro m
  induction m with
  | zero =>
   intro k b hk hi;have:k=n:=by omega
   subst this;exact ⟨b,qao (he b hi),hi⟩
  | succ m ih =>
   intro k b hk hi;obtain ⟨b',h1,h2⟩:=hs k b (by omega) hi;obtain ⟨b2,h3,h4⟩:=ih (k+1) b' (by omega) h2;exact ⟨b2,by rw [qaq h1];exact h3,h4⟩
 subst h00;exact key n 0 b0 (by omega) h0
theorem vnu (x:Drossref03_Recipe) (h:qha x):qeo x 6=some (⟨[],[],[]⟩,false)∨∃t,qeo x 6=some (t,true)∧qtc t∧qos t∧t.Rows.length≤6∧t.Attrs.length≤5∧t.Name=[114]:=by
 by_cases hr:x.Rows.length≤6
 ·right;obtain ⟨ha,hg,hl⟩:=h;have ha':=qrd ha;have hg':=qrd hg;have h1:¬((x.Rows.length:Int) > 6):=by omega
  have hm:v7u x.Attrs 6=((x.Attrs.toNat % 6:Nat):Int):=by
   rw [v8g ha'.1];omega
  have e1:v67.wrap (v7u x.Attrs 6)=((x.Attrs.toNat % 6:Nat):Int):=by rw [hm,qbx (by omega) (by omega)]
  refine ⟨vbx x (x.Attrs.toNat % 6),?_,vtx _ _ (by omega) (by omega),q9q x (by omega),?_,?_,rfl⟩
  ·simp only [qeo,if_neg h1,e1,vtp x (x.Attrs.toNat % 6) (by omega) (by omega) (fun r hr=>(hl.2 r hr).1) hg',v40]
  ·simp only [vbx,v3n,v54];exact hr
  ·simp only [vbx,v3r];omega
 ·left;simp only [qeo,if_pos (show (x.Rows.length:Int) > 6 by omega)]
theorem vnv {n:Nat} (hn:n≤16) (d:Drossref09_Dep) (h:qjg d):qgl (n:Int) [d]=some [⟨((d.L.toNat % 2 ^ n:Nat):Int),((d.R.toNat % 2 ^ n:Nat):Int)⟩]:=by
 unfold qgl;rw [vtr hn,v40];rw [qaq (s':=([(⟨((d.L.toNat % 2 ^ n:Nat):Int),((d.R.toNat % 2 ^ n:Nat):Int)⟩:FD)],1)) (by
  have e:idx [d] 0=some d:=rfl;simp only [qhs,v56,e,if_pos (show (0:Int) < ((1:Nat):Int) by decide),v40,vjd hn (qrd h.1),vjd hn (qrd h.2),v3o,qw2 (show 0+1≤17592186044416 by omega),if_true,v33];rfl)]
 rw [qao (t:=[⟨((d.L.toNat % 2 ^ n:Nat):Int),((d.R.toNat % 2 ^ n:Nat):Int)⟩]) (by simp [qhs])];rfl
theorem qv8 (n rhs:Int) (p:Nat→Bool) (hp:∀a,p a=true→(a:Int)≠rhs):∀(m s:Nat) (b:Int),b < (s:Int)→((s+m:Nat):Int)≤n→ve4 n rhs b (((List.range' s m).filter p).map fun a:Nat=>(a:Int))=true
 | 0,_,_,_,_=>rfl
 | m+1,s,b,hb,hn=>by
  rw [v9k,v8v];by_cases h:p s=true
  ·rw [if_pos h,v3t];simp only [ve4,v2m,decide_eq_true_eq];exact ⟨⟨hb,by omega,hp s h⟩,qv8 n rhs p hp m (s+1) s (by omega) (by omega)⟩
  ·rw [if_neg h];exact qv8 n rhs p hp m (s+1) b (by omega) (by omega)
theorem q9y {α β:Type} (p:α→Bool) (f:α→β) (l:List α):∀(b:List β),l.foldl (fun b a=>if p a=true then b++[f a] else b) b=b++(l.filter p).map f:=by
 induction l with
 | nil=>intro b;simp
 | cons a l ih =>
  intro b;rw [v82,ih,v8v];by_cases h:p a=true
  ·rw [if_pos h,if_pos h];simp
  ·rw [if_neg h,if_neg h]
theorem vt3 {n:Nat} (h0:0 < n) (hn:n≤16) (d:Drossref16_Draft) (h:qhw d):∃c,qjz (n:Int) d=some c∧ve5 n c=true∧c.Lhs.length≤n:=by
 obtain ⟨h1,h2,h3⟩:=h;have a1:=qrd h1;have a2:=qrd h2;have hw:v67.wrap d.Rhs=d.Rhs:=qbx (by omega) (by omega);have hr:v7u d.Rhs (n:Int)=((d.Rhs.toNat % n:Nat):Int):=qu2 a2.1;have hl:v68.wrap d.Lhs=((d.Lhs.toNat:Nat):Int):=by rw [qxk (by omega) (by omega)];omega
 have hrn:d.Rhs.toNat % n < n:=v4t _ h0;have L1:=qdu (v34 n) (fun (b:List Int) (i:Int)=>(b,i)) (qhd (n:Int) d) (fun b (a:Nat)=>if (d.Lhs.toNat.testBit a && decide (a≠d.Rhs.toNat % n))=true then b++[(a:Int)] else b) id (fun k b=>b.length≤k) (b0:=[]) (s0:=([],0)) rfl (by simp)
  (fun k b x hx hk hI=>by
   have hxk:x=k:=by
    have:=(v3f.1 hx).2;simpa using this.symm
   subst hxk;rw [v54] at hk;have hb:=vty (s:=d.Lhs.toNat) (k:=x) (by omega) (by omega);have hw1:v67.wrap ((x:Int)+1)=((x+1:Nat):Int):=qcd (by omega);have hne:((x:Int) != ((d.Rhs.toNat % n:Nat):Int))=decide (x≠d.Rhs.toNat % n):=by
    rw [v73];simp only [bne_iff_ne,ne_eq,decide_eq_true_eq];omega
   simp only [qhd,if_pos (show (x:Int) < (n:Int) by omega),hl,hb,v40,hw,hr,hne,hw1];cases ht:d.Lhs.toNat.testBit x with
   | false=>simp;omega
   | true =>
    by_cases hx2:x=d.Rhs.toNat % n
    ·simp [hx2];omega
    ·simp only [if_true,v40,hx2,ne_eq,not_false_eq_true,decide_true,Bool.and_self,qw2 (show b.length+1≤17592186044416 by omega)];refine ⟨trivial,by simp;omega⟩)
  (fun b hI=>by simp [qhd])
 rw [q9y,v33] at L1;generalize hc:(((v34 n).filter fun a:Nat=>d.Lhs.toNat.testBit a && decide (a≠d.Rhs.toNat % n)).map fun a:Nat=>(a:Int))=c at L1;have hcl:c.length≤n:=by
  rw [←hc,v3n];exact v4q (v51 _ _) (by simp)
 obtain ⟨cells,e1,e2,e3⟩:=qdc (c.length+1) (fun (b:List Cell) (i:Int)=>(b,i)) (qhe d c) id (fun k b=>b.length=k∧b.all q7e=true) (b0:=[]) (s0:=([],0)) rfl ⟨rfl,rfl⟩
  (fun k b hk hI=>by
   obtain ⟨i1,i2⟩:=hI;have hw1:v67.wrap ((k:Int)+1)=((k+1:Nat):Int):=qcd (by omega);have hroom:qbi (b.length+1) 40=true:=qbq (by omega) (by omega);have any:∃b',some (LS.next (τ:=List Cell) ((b++[(Cell.mk true (Value.mk 0 0 []))]),((k+1:Nat):Int)))=some (LS.next (b',((k+1:Nat):Int)))∧(b'.length=k+1∧b'.all q7e=true) :=
    ⟨_,rfl,by simp [i1],by rw [v8r,i2];simp [q7e]⟩
   simp only [qhe,if_pos (show (k:Int)≤((c.length:Nat):Int) by omega),hw1,hroom,if_true];by_cases hk2:(k:Int)≥(d.Codes.length:Int)
   ·simp only [if_pos hk2,v40,if_true];exact any
   ·have hx:d.Codes[k]?=some d.Codes[k]:=v3d (by omega);simp only [if_neg hk2,qaf hx,v40];by_cases hb:(v7u d.Codes[k] 2 == 0)=true
    ·rw [if_pos hb];exact any
    ·rw [if_neg hb];simp only [(qux _).1,v40];refine ⟨_,rfl,by simp [i1],?_⟩;rw [v8r,i2];simp [q7e,(qux _).2.1])
  (fun b hI=>by simp only [qhe];rw [if_neg (by omega)];rfl)
 refine ⟨⟨c,((d.Rhs.toNat % n:Nat):Int),cells⟩,?_,?_,hcl⟩
 ·simp only [qjz,if_neg (show ¬((n:Int)=0) by omega),L1,id,v40,e1,hw,hr]
 ·unfold ve5;simp only [v2m,decide_eq_true_eq];refine ⟨⟨by omega,by omega,by omega,by omega,e2⟩,?_,e3⟩;rw [←hc,v38];exact qv8 _ _ _ (fun a ha=>by simp only [v2m,decide_eq_true_eq] at ha;omega) n 0 (-1) (by omega) (by omega)
theorem qo2 {β σ τ:Type} (n:Nat) (S:β→Int→σ) (B:σ→Option (LS σ τ)) (I:Nat→β→Prop) (T:τ→Prop) {b0:β} {s0:σ} (m:Nat) (hm:m≤n) (h00:s0=S b0 (m:Int)) (h0:I m b0)
  (hs:∀(k:Nat) b,m≤k→k < n→I k b→(∃b',B (S b (k:Int))=some (.next (S b' ((k+1:Nat):Int)))∧I (k+1) b')∨∃t,B (S b (k:Int))=some (.done t)∧T t)
  (he:∀b,I n b→∃t,B (S b (n:Int))=some (.done t)∧T t):∃o,qaj B s0=some o∧T o:=by
 have key:∀(j k:Nat) (b:β),k+j=n→m≤k→I k b→∃o,qaj B (S b (k:Int))=some o∧T o:=by
  intro j
  induction j with
  | zero =>
   intro k b hk _ hi;have:k=n:=by omega
   subst this;obtain ⟨t,ht,h⟩:=he b hi;exact ⟨t,qao ht,h⟩
  | succ j ih =>
   intro k b hk hmk hi;rcases hs k b hmk (by omega) hi with ⟨b',h1,h2⟩ | ⟨t,h1,h2⟩
   ·obtain ⟨o,h3,h4⟩:=ih (k+1) b' (by omega) (by omega) h2;exact ⟨o,by rw [qaq h1];exact h3,h4⟩
   ·exact ⟨t,qao h1,h2⟩
 subst h00;exact key (n - m) m b0 (by omega) (v4o _) h0
theorem qti (a b:List Int) (ha:a.length≤1000) (hb:b.length≤1000):qa2 [a,b]=some (a++b):=by
 have h1:qaj (qbj [a,b]) (0,0)=some (((a.length+b.length:Nat):Int)):=by
  have w1:v67.wrap (0+(a.length:Int))=(a.length:Int):=by rw [Int.zero_add];exact qbx (by omega) (by omega)
  have w2:v67.wrap ((a.length:Int)+(b.length:Int))=((a.length+b.length:Nat):Int):=by rw [qbx (by omega) (by omega)];omega
  have s1:qbj [a,b] (0,0)=some (.next ((a.length:Int),1)):=by
   have e:idx [a,b] 0=some a:=rfl;simp only [qbj,e,v5y,v3o,if_pos (show (0:Int) < ((0+1+1:Nat):Int) by decide),v40,w1,if_neg (show ¬(a.length:Int) < 0 by omega)];rfl
  have s2:qbj [a,b] ((a.length:Int),1)=some (.next (((a.length+b.length:Nat):Int),2)):=by
   have e:idx [a,b] 1=some b:=rfl;simp only [qbj,e,v5y,v3o,if_pos (show (1:Int) < ((0+1+1:Nat):Int) by decide),v40,w2,if_neg (show ¬((a.length+b.length:Nat):Int) < 0 by omega)];rfl
  rw [qaq s1,qaq s2];exact qao (by simp [qbj])
 have h2:qaj (qbk [a,b]) (([]:List Int),0)=some (a++b):=by
  have s1:qbk [a,b] ([],0)=some (.next (a,1)):=by
   have e:idx [a,b] 0=some a:=rfl;simp only [qbk,e,v5y,v3o,if_pos (show (0:Int) < ((0+1+1:Nat):Int) by decide),v40,qw2 (show 0+a.length≤17592186044416 by omega),if_true,v33];rfl
  have s2:qbk [a,b] (a,1)=some (.next (a++b,2)):=by
   have e:idx [a,b] 1=some b:=rfl;simp only [qbk,e,v5y,v3o,if_pos (show (1:Int) < ((0+1+1:Nat):Int) by decide),v40,qw2 (show a.length+b.length≤17592186044416 by omega),if_true];rfl
  rw [qaq s1,qaq s2];exact qao (by simp [qbk])
 simp only [qa2,h1,v40,if_pos (show (0:Int)≤((a.length+b.length:Nat):Int) by omega),if_pos (show ((a.length+b.length:Nat):Int)≤1000000000000 by omega),h2]
def E3 (l:List Int):Prop:=l≠[]∧l.length≤3∧l.Pairwise (· < ·)∧∀x∈l,0 < x
theorem E3.shape {l:List Int} (h:E3 l):(∃a,l=[a]∧0 < a)∨(∃a b,l=[a,b]∧0 < a∧a < b)∨∃a b c,l=[a,b,c]∧0 < a∧a < b∧b < c:=by
 obtain ⟨h1,h2,h3,h4⟩:=h
 match l,h1,h2,h3,h4 with
 | [],h1,_,_,_=>exact absurd rfl h1
 | [a],_,_,_,h4=>exact .inl ⟨a,rfl,h4 a (by simp)⟩
 | [a,b],_,_,h3,h4=>exact .inr (.inl ⟨a,b,rfl,h4 a (by simp),(v9g.1 h3).1 b (by simp)⟩)
 | [a,b,c],_,_,h3,h4 =>
  obtain ⟨g1,g2⟩:=v9g.1 h3;exact .inr (.inr ⟨a,b,c,rfl,h4 a (by simp),g1 b (by simp),(v9g.1 g2).1 c (by simp)⟩)
 | _ :: _ :: _ :: _ :: _,_,h2,_,_=>simp at h2
theorem vjr {l m:List Int} (hl:E3 l) (hm:E3 m) (h:q9t l=q9t m):l=m:=by
 unfold q9t at h;obtain ⟨h0,h1,h2⟩:=Arr3_int64.mk.inj h;rcases hl.shape with ⟨a,rfl,a1⟩ | ⟨a,b,rfl,a1,a2⟩ | ⟨a,b,c,rfl,a1,a2,a3⟩ <;> rcases hm.shape with ⟨x,rfl,x1⟩ | ⟨x,y,rfl,x1,x2⟩ | ⟨x,y,z,rfl,x1,x2,x3⟩ <;> simp at h0 h1 h2 <;> first | (subst h0;subst h1;subst h2;rfl) | (subst h0;subst h1;rfl) | (subst h0;rfl) | omega
def vt4 (all:List (List Int)) (c:List (Arr3_int64×Bool)):Prop:=∀m,E3 m→((qnq c (q9t m)).getD false=true↔m∈all)
theorem vjs (all:List (List Int)) (hl:all.length≤1000000) (hE:∀e∈all,E3 e):∃seen,qaj (qec all) ([],0)=some seen∧vt4 all seen:=by
 obtain ⟨seen,e1,i⟩:=qdc (β:=List (Arr3_int64×Bool)) all.length (fun b i=>(b,i)) (qec all) id (fun k b=>vt4 (all.take k) b) (b0:=[]) (s0:=([],0)) rfl (fun m _=>by simp [qnq])
  (fun k b hk hI=>by
   have hx:all[k]?=some all[k]:=v3d hk;have hm:all[k]∈all:=v3x hx;refine ⟨qrz b (q9t all[k]) true,?_,fun m hm3=>?_⟩
   ·simp only [qec,if_pos (qai hx),qaf hx,qey,v40,wqn k];rfl
   ·rw [qus,v9p hk,v3v,v6k];by_cases h:q9t m=q9t all[k]
    ·rw [if_pos h];simp [vjr hm3 (hE _ hm) h]
    ·rw [if_neg h,hI m hm3];constructor
     ·exact .inl
     ·rintro (h' | rfl)
      ·exact h'
      ·exact absurd rfl h)
  (fun b _=>by simp [qec])
 rw [v9n] at i;exact ⟨seen,e1,i⟩
def vt5 (all:List (List Int)) (l:List Int):Prop:=∃m∈all,(∀x∈m,x∈l)∧m≠l
theorem sub1 {m:List Int} {a:Int} (hm:E3 m) (h:∀x∈m,x∈[a]):m=[a]:=by
 rcases hm.shape with ⟨x,rfl,x1⟩ | ⟨x,y,rfl,x1,x2⟩ | ⟨x,y,z,rfl,x1,x2,x3⟩ <;> simp at h <;> first | (subst h;rfl) | omega
theorem sub2 {m:List Int} {a b:Int} (hm:E3 m) (hab:a < b) (h:∀x∈m,x∈[a,b]):m=[a]∨m=[b]∨m=[a,b]:=by
 rcases hm.shape with ⟨x,rfl,x1⟩ | ⟨x,y,rfl,x1,x2⟩ | ⟨x,y,z,rfl,x1,x2,x3⟩ <;> simp at h
 ·rcases h with rfl | rfl <;> simp
 ·obtain ⟨h1,h2⟩:=h;have e1:x=a:=by omega
  have e2:y=b:=by omega
  subst e1;subst e2;simp
 ·omega
theorem sub3 {m:List Int} {a b c:Int} (hm:E3 m) (hab:a < b) (hbc:b < c) (h:∀x∈m,x∈[a,b,c]):m=[a]∨m=[b,c]∨m=[b]∨m=[a,c]∨m=[c]∨m=[a,b]∨m=[a,b,c]:=by
 rcases hm.shape with ⟨x,rfl,x1⟩ | ⟨x,y,rfl,x1,x2⟩ | ⟨x,y,z,rfl,x1,x2,x3⟩ <;> simp at h
 ·rcases h with rfl | rfl | rfl <;> simp
 ·obtain ⟨h1,h2⟩:=h;rcases h1 with rfl | rfl | rfl <;> rcases h2 with rfl | rfl | rfl <;> first | omega | simp
 ·obtain ⟨h1,h2,h3⟩:=h;have e1:x=a:=by omega
  have e2:y=b:=by omega
  have e3:z=c:=by omega
  subst e1;subst e2;subst e3;simp
theorem v1s {a:Int} (h:0 < a):E3 [a]:=⟨by simp,by simp,by simp,by simpa using h⟩
theorem e3_2 {a b:Int} (h:0 < a) (h2:a < b):E3 [a,b]:=⟨by simp,by simp,by simpa using h2,by simp;omega⟩
def qlm (c:List (Arr3_int64×Bool)) (m:List Int):Bool:=(qnq c (q9t m)).getD false
theorem ve6 (c:List (Arr3_int64×Bool)) (a:Int):qbr [a] c=some false:=by
 have s0:qap [a] c 0=some (.next 1):=rfl;unfold qbr;rw [qaq s0,qao (show qap [a] c 1=some (.done (.inl ())) from rfl)];rfl
theorem ve7 (c:List (Arr3_int64×Bool)) (a b:Int):qbr [a,b] c=some (qlm c [a] || qlm c [b]):=by
 have s0:qap [a,b] c 0=if qlm c [a]=true then some (.done (.inr true)) else some (.next 1):=rfl
 have s1:qap [a,b] c 1=if qlm c [b]=true then some (.done (.inr true)) else some (.next 2):=rfl
 have s2:qap [a,b] c 2=some (.done (.inl ())):=rfl;unfold qbr;cases h0:qlm c [a] with
 | true=>rw [qao (s0.trans (if_pos h0))];rfl
 | false =>
  rw [qaq (s0.trans (if_neg (by rw [h0];simp)))];cases h1:qlm c [b] with
  | true=>rw [qao (s1.trans (if_pos h1))];rfl
  | false=>rw [qaq (s1.trans (if_neg (by rw [h1];simp))),qao s2];rfl
theorem ve8 (c:List (Arr3_int64×Bool)) (x y z:Int):qbr [x,y,z] c=some ((qlm c [x] || qlm c [y,z]) || ((qlm c [y] || qlm c [x,z]) || (qlm c [z] || qlm c [x,y]))):=by
 have c0:qa2 [[],[y,z]]=some [y,z]:=qti [] [y,z] (by simp) (by simp);have c1:qa2 [[x],[z]]=some [x,z]:=qti [x] [z] (by simp) (by simp);have c2:qa2 [[x,y],[]]=some [x,y]:=qti [x,y] [] (by simp) (by simp);have s0:qap [x,y,z] c 0=if qlm c [x]=true then some (.done (.inr true)) else (qa2 [[],[y,z]]).bind fun r=>if qlm c r=true then some (.done (.inr true)) else some (.next 1):=rfl
 have s1:qap [x,y,z] c 1=if qlm c [y]=true then some (.done (.inr true)) else (qa2 [[x],[z]]).bind fun r=>if qlm c r=true then some (.done (.inr true)) else some (.next 2):=rfl
 have s2:qap [x,y,z] c 2=if qlm c [z]=true then some (.done (.inr true)) else (qa2 [[x,y],[]]).bind fun r=>if qlm c r=true then some (.done (.inr true)) else some (.next 3):=rfl
 have s3:qap [x,y,z] c 3=some (.done (.inl ())):=rfl;rw [c0,v40] at s0;rw [c1,v40] at s1;rw [c2,v40] at s2;have key:∀(k n:Int) (p q:Bool),(qap [x,y,z] c k=if p=true then some (.done (.inr true)) else if q=true then some (.done (.inr true)) else some (.next n)) →
   ((p || q)=true→qaj (qap [x,y,z] c) k=some (.inr true))∧((p || q)=false→qaj (qap [x,y,z] c) k=qaj (qap [x,y,z] c) n):=fun k n p q h=>by
  cases p <;> cases q <;> simp at h <;> simp
  ·exact qaq h
  ·exact qao h
  ·exact qao h
  ·exact qao h
 obtain ⟨k0,k0'⟩:=key _ _ _ _ s0;obtain ⟨k1,k1'⟩:=key _ _ _ _ s1;obtain ⟨k2,k2'⟩:=key _ _ _ _ s2;unfold qbr;cases h0:(qlm c [x] || qlm c [y,z]) with
 | true=>rw [k0 h0];rfl
 | false =>
  rw [k0' h0];cases h1:(qlm c [y] || qlm c [x,z]) with
  | true=>rw [k1 h1];rfl
  | false =>
   rw [k1' h1];cases h2:(qlm c [z] || qlm c [x,y]) with
   | true=>rw [k2 h2];rfl
   | false=>rw [k2' h2,qao s3];rfl
theorem q9z {all:List (List Int)} {c:List (Arr3_int64×Bool)} (hc:vt4 all c) (hE:∀e∈all,E3 e) {l:List Int} (hl:E3 l):∃b,qbr l c=some b∧(b=true↔vt5 all l):=by
 have hs:∀m,E3 m→(qlm c m=true↔m∈all):=hc;rcases hl.shape with ⟨a,rfl,a1⟩ | ⟨a,b,rfl,a1,a2⟩ | ⟨x,y,z,rfl,a1,a2,a3⟩
 ·refine ⟨_,ve6 c a,by simp,?_⟩;rintro ⟨m,m1,m2,m3⟩;exact absurd (sub1 (hE m m1) m2) m3
 ·refine ⟨_,ve7 c a b,?_⟩;rw [v2r,hs _ (v1s a1),hs _ (v1s (by omega))];constructor
  ·rintro (h | h)
   ·exact ⟨_,h,by simp,by simp⟩
   ·exact ⟨_,h,by simp,by simp⟩
  ·rintro ⟨m,m1,m2,m3⟩;rcases sub2 (hE m m1) a2 m2 with rfl | rfl | rfl
   ·exact .inl m1
   ·exact .inr m1
   ·exact absurd rfl m3
 ·refine ⟨_,ve8 c x y z,?_⟩;simp only [v2r];rw [hs _ (v1s a1),hs _ (v1s (show 0 < y by omega)),hs _ (v1s (show 0 < z by omega)),hs _ (e3_2 a1 a2),hs _ (e3_2 a1 (show x < z by omega)),hs _ (e3_2 (show 0 < y by omega) a3)];constructor
  ·rintro ((h | h) | (h | h) | h | h) <;> exact ⟨_,h,by simp,by simp⟩
  ·rintro ⟨m,m1,m2,m3⟩;rcases sub3 (hE m m1) a2 a3 m2 with rfl | rfl | rfl | rfl | rfl | rfl | rfl
   ·exact .inl (.inl m1)
   ·exact .inl (.inr m1)
   ·exact .inr (.inl (.inl m1))
   ·exact .inr (.inl (.inr m1))
   ·exact .inr (.inr (.inl m1))
   ·exact .inr (.inr (.inr m1))
   ·exact absurd rfl m3
theorem vb9 (l:List (List Int)) (hl:l.length≤1000000) (hs:∀a∈l,a.length≤1000000):∃s,q3e (fun (a:List Int) (b:List Int)=>qab a b) l=some s∧s.Perm l∧s.Pairwise fun a b=>ltL b a=false:=by
 have hc:∀x∈l,∀y∈l,(qab x y).getD 0=q68 x y:=fun x hx y hy=>by rw [qld x y (hs x hx) (hs y hy)];rfl
 have hok:q5q (fun x y=>(qab x y).getD 0) l:=by
  refine ⟨fun x hx=>?_,fun x hx y hy z hz h1 h2=>?_,fun x hx y hy z hz h1 h2=>?_⟩
  ·show ¬(qab x x).getD 0 < 0;rw [hc x hx x hx,qgg,qv7];simp
  ·replace h1:(qab x y).getD 0 < 0:=h1;replace h2:(qab y z).getD 0 < 0:=h2;show (qab x z).getD 0 < 0;rw [hc _ hx _ hy,qgg] at h1;rw [hc _ hy _ hz,qgg] at h2;rw [hc _ hx _ hz,qgg];exact quz x y z h1 h2
  ·replace h1:¬(qab x y).getD 0 < 0:=h1;replace h2:¬(qab y z).getD 0 < 0:=h2;show ¬(qab x z).getD 0 < 0;rw [hc _ hx _ hy,qgg] at h1;rw [hc _ hy _ hz,qgg] at h2;rw [hc _ hx _ hz,qgg];have h1':ltL x y=false:=by simpa using h1
   have h2':ltL y z=false:=by simpa using h2
   rw [q39 x y z h1' h2'];simp
 have hp:=q3g hok;refine ⟨srt (fun x y=>(qab x y).getD 0) l,?_,hp,?_⟩
 ·unfold q3e;rw [if_pos ⟨fun x hx y hy=>by show (qab x y).isSome=true;rw [qld x y (hs x hx) (hs y hy)];rfl,hok,by omega⟩]
 ·refine v8p.imp_of_mem ?_ (q1r hok);intro a b ha hb g1;replace g1:¬(qab b a).getD 0 < 0:=g1;rw [hc _ (hp.mem_iff.1 hb) _ (hp.mem_iff.1 ha),qgg] at g1;simpa using g1
theorem vjt {l:List (List Int)} (h:l.Pairwise fun a b=>ltL b a=false) {j:Nat} {x y:List Int} (hx:l[j+1]?=some x) (hy:l[j]?=some y) (hne:x≠y) {z:List Int} (hz:z∈l.take (j+1)):ltL z x=true:=by
 obtain ⟨i,hi,e⟩:=v9b.1 hz;rw [v3r] at hi;rw [v89] at e;obtain ⟨hx1,hx2⟩:=v3f.1 hx;obtain ⟨hy1,hy2⟩:=v3f.1 hy;have g:ltL y z=false:=by
  by_cases hij:i=j
  ·subst hij;rw [←e,hy2];exact qv7 y
  ·have:=v9h.1 h i j (by omega) hy1 (by omega);rw [e,hy2] at this;exact this
 have g2:ltL x y=false:=by
  have:=v9h.1 h j (j+1) hy1 hx1 (by omega);rw [hx2,hy2] at this;exact this
 have g3:ltL y x=true:=by
  cases q:ltL y x with
  | true=>rfl
  | false=>exact absurd (qrh x y g2 q) hne
 cases q:ltL z x with
 | true=>rfl
 | false =>
  have:=q39 y z x g q;rw [this] at g3;cases g3
theorem vt6 {l:List (List Int)} (hl:l.length≤1000000) (hs:∀a∈l,a.length≤1000) (hp:l.Pairwise fun a b=>ltL b a=false) {m:Nat} (hm:1≤m) (hml:m < l.length) (hasc:q2g (l.take m)) (heq:l[m]=l[m - 1]) :
  ∃s k,qaj (qdd l (m:Int)) (l,(m:Int),1)=some (s,((k:Nat):Int))∧s.length=l.length∧k≤l.length∧q2g (s.take k)∧∀e,e∈s.take k↔e∈l:=by
 obtain ⟨o,ho,h1⟩:=qo2 (β:=List (List Int)×Nat) (l.length - m) (fun b i=>(b.1,(b.2:Int),i)) (qdd l (m:Int))
  (fun k b=>b.1.length=l.length∧b.2 < m+k∧(∀j,m+k≤j+1→b.1[j]?=l[j]?)∧q2g (b.1.take b.2)∧∀e,e∈b.1.take b.2↔e∈l.take (m+k))
  (fun o=>∃s k,o=(s,((k:Nat):Int))∧s.length=l.length∧k≤l.length∧q2g (s.take k)∧∀e,e∈s.take k↔e∈l) (b0:=(l,m)) (s0:=(l,(m:Int),1)) 1 (by omega) rfl
  ⟨rfl,by simp,fun _ _=>rfl,hasc,fun e=>by
   simp only;rw [v9p hml,v3v,v6k];constructor
   ·exact .inl
   ·rintro (h | h)
    ·exact h
    ·rw [h,heq];have:m - 1 < (l.take m).length:=by rw [v3r];omega
     have e2:(l.take m)[m - 1]=l[m - 1]:=v89;rw [←e2];exact v88 this⟩
  (fun k b hk1 hk hI=>by
   obtain ⟨i1,i2,i3,i4,i5⟩:=hI;have hw:v67.wrap ((k:Int)+1)=((k+1:Nat):Int):=qcd (by omega);have hw1:v67.wrap ((k:Int) - 1)=((k - 1:Nat):Int):=by rw [qbx (by omega) (by omega)];omega
   have hwb:v67.wrap ((b.2:Int)+1)=((b.2+1:Nat):Int):=qcd (by omega);have g:∀j,k≤j+1→j < l.length - m→((b.1.drop m).take (l.length - m))[j]?=l[m+j]?:=fun j hj0 hj=>by
    rw [v3j,if_pos hj,v3c];exact i3 _ (by omega)
   have x0:l[m+k]?=some l[m+k]:=v3d (by omega);have y0:l[m+k - 1]?=some l[m+k - 1]:=v3d (by omega);have x1:=(g k (by omega) hk).trans x0;have y1:((b.1.drop m).take (l.length - m))[k - 1]?=some l[m+k - 1]:=by rw [g (k - 1) (by omega) (by omega),show m+(k - 1)=m+k - 1 by omega];exact y0
   have hz:b.1[b.2]?=some b.1[b.2]:=v3d (by omega);have hE:=qsu l[m+k] l[m+k - 1] (by have:=hs _ (v3x x0);omega);have htk:l.take (m+(k+1))=l.take (m+k)++[l[m+k]]:=by rw [←v4h];exact v9p (by omega)
   left;by_cases he:l[m+k]=l[m+k - 1]
   ·refine ⟨b,?_,i1,by omega,fun j hj=>i3 j (by omega),i4,fun e=>?_⟩
    ·simp only [qdd,v8h,if_pos (show (k:Int) < (((l.length - m):Nat):Int) by omega),qaf x1,v40,hw1,qaf y1,hE,decide_eq_true he,if_true,hw]
    ·rw [i5 e,htk,v3v,v6k];constructor
     ·exact .inl
     ·rintro (h | h)
      ·exact h
      ·rw [h,he];have:m+k - 1 < (l.take (m+k)).length:=by rw [v3r];omega
       have e2:(l.take (m+k))[m+k - 1]=l[m+k - 1]:=v89;rw [←e2];exact v88 this
   ·have hlen:b.2 < (b.1.set b.2 l[m+k]).length:=by rw [v3q];omega
    have qph:(b.1.set b.2 l[m+k]).take (b.2+1)=b.1.take b.2++[l[m+k]]:=by
     rw [v9p hlen,v9o (v4o _),List.getElem_set_self]
    refine ⟨(b.1.set b.2 l[m+k],b.2+1),?_,by simp [i1],by simp only;omega,fun j hj=>?_,?_,fun e=>?_⟩
    ·simp only [qdd,v8h,if_pos (show (k:Int) < (((l.length - m):Nat):Int) by omega),qaf x1,v40,hw1,qaf y1,hE,decide_eq_false he,v2o,if_false,qaf hz,hw,hwb]
    ·simp only;rw [v5w (by omega)];exact i3 j (by omega)
    ·simp only [qph];refine v9f.2 ⟨i4,v9j _ _,fun z hz' x hx'=>?_⟩;rw [v6k.1 hx'];refine vjt hp (j:=m+k - 1) (by rw [show m+k - 1+1=m+k by omega];exact x0) y0 he ?_;rw [show m+k - 1+1=m+k by omega];exact (i5 z).1 hz'
    ·simp only [qph];rw [htk,v3v,v3v,i5 e])
  (fun b hI=>by
   obtain ⟨i1,i2,i3,i4,i5⟩:=hI;refine ⟨_,?_,b.1,b.2,rfl,i1,by omega,i4,fun e=>?_⟩
   ·simp only [qdd,v8h];rw [if_neg (by omega)]
   ·rw [i5 e,show m+(l.length - m)=l.length by omega,v9n])
 obtain ⟨s,k,rfl,h2⟩:=h1;exact ⟨s,k,ho,h2⟩
theorem vt7 {l:List (List Int)} (h2:2≤l.length) (hl:l.length≤1000000) (hs:∀a∈l,a.length≤1000) (hp:l.Pairwise fun a b=>ltL b a=false) :
  ∃o,qaj (qed l) 1=some o∧((o=.inl ()∧q2g l)∨∃z,o=.inr z∧q2g z∧z.length≤l.length∧∀e,e∈z↔e∈l):=by
 refine qo2 (β:=Unit) l.length (fun _ i=>i) (qed l) (fun k _=>q2g (l.take k)) (fun o=>(o=.inl ()∧q2g l)∨∃z,o=.inr z∧q2g z∧z.length≤l.length∧∀e,e∈z↔e∈l) (b0:=()) 1 (by omega) rfl ?_ (fun k _ hk1 hk hI=>?_) (fun _ hI=>⟨.inl (),by simp only [qed];rw [if_neg (by omega)],.inl ⟨rfl,by rw [v9n] at hI;exact hI⟩⟩)
 ·match l,h2 with
  | x :: r,_=>simp [q2g]
 have hw:v67.wrap ((k:Int)+1)=((k+1:Nat):Int):=qcd (by omega);have hw1:v67.wrap ((k:Int) - 1)=((k - 1:Nat):Int):=by rw [qbx (by omega) (by omega)];omega
 have x1:l[k]?=some l[k]:=v3d hk;have y1:l[k - 1]?=some l[k - 1]:=v3d (by omega);have hE:=qsu l[k] l[k - 1] (by have:=hs _ (v3x x1);omega);simp only [qed,if_pos (show (k:Int) < ((l.length:Nat):Int) by omega),qaf x1,v40,hw1,qaf y1,hE,hw,if_pos (show (0:Int)≤(k:Int) by omega),if_pos (show (k:Int)≤((l.length:Nat):Int) by omega)];by_cases he:l[k]=l[k - 1]
 ·right;obtain ⟨s,j,e1,e2,e3,e4,e5⟩:=vt6 hl hs hp hk1 hk hI he;rw [if_pos (decide_eq_true he),e1];simp only [v40,if_pos (show (0:Int)≤(j:Int) by omega),if_pos (show (j:Int)≤((s.length:Nat):Int) by omega),v8h];have hlen:(s.take j).length=j:=by rw [v3r];omega
  rw [if_pos (by simp only [v3r,v3p,v3m];omega),if_pos (by simp only [v3l,v3r];omega)];refine ⟨_,rfl,.inr ⟨_,rfl,?_⟩⟩;rw [v2w,v9m (by omega),v4e (by omega)];exact ⟨e4,by omega,e5⟩
 ·left;rw [if_neg (by simpa using he)];refine ⟨(),rfl,?_⟩;rw [v9p hk];refine v9f.2 ⟨hI,v9j _ _,fun z hz' x hx'=>?_⟩;rw [v6k.1 hx'];exact vjt hp (j:=k - 1) (by rw [show k - 1+1=k by omega];exact x1) y1 he (by rw [show k - 1+1=k by omega];exact hz')
theorem ve9 (all:List (List Int)) (hl:all.length≤1000000) (hE:∀e∈all,E3 e) :
  ∃out,qfr all=some out∧q2g out∧out.length≤all.length∧∀e,e∈out↔e∈all∧¬vt5 all e:=by
 obtain ⟨seen,e1,hc⟩:=vjs all hl hE;obtain ⟨out,e2,i1,i2⟩:=qdc (β:=List (List Int)) all.length (fun b i=>(b,i)) (qfg all seen) id (fun k b=>(∀e,e∈b↔e∈all.take k∧¬vt5 all e)∧b.length≤k) (b0:=[]) (s0:=([],0)) rfl ⟨by simp,by simp⟩
  (fun k b hk hI=>by
   obtain ⟨i1,i2⟩:=hI;have hx:all[k]?=some all[k]:=v3d hk;have hm:all[k]∈all:=v3x hx;have hlen:=(hE _ hm).2.1;obtain ⟨m1,hm1,hm2⟩:=q9z hc hE (hE _ hm);have hw:v67.wrap ((k:Int)+1)=((k+1:Nat):Int):=qcd (by omega);have hsn:(qnq seen (Arr3_int64.mk (all[k].getD 0 0) (all[k].getD 1 0) (all[k].getD 2 0))).getD false=true:=(hc _ (hE _ hm)).2 hm;simp only [qfg,if_pos (qai hx),qaf hx,qey,v40,hm1,hw,q0w all[k] (by omega),qbq (show b.length+1≤1073741824 by omega) (show 24≤65536 by omega),if_true];rw [if_pos hsn,v40,v9p hk];cases m1 with
   | true =>
    refine ⟨b,rfl,fun e=>?_,by omega⟩;rw [i1 e,v3v,v6k];constructor
    ·exact fun h=>⟨.inl h.1,h.2⟩
    ·rintro ⟨h | h,h'⟩
     ·exact ⟨h,h'⟩
     ·rw [h] at h';exact absurd (hm2.1 rfl) h'
   | false =>
    refine ⟨_,rfl,fun e=>?_,by simp;omega⟩;rw [v3v,v3v,v6k,i1 e];have hns:¬vt5 all all[k]:=fun h=>by have:=hm2.2 h;cases this
    constructor
    ·rintro (h | h)
     ·exact ⟨.inl h.1,h.2⟩
     ·rw [h];exact ⟨.inr rfl,hns⟩
    ·rintro ⟨h | h,h'⟩
     ·exact .inl ⟨h,h'⟩
     ·exact .inr h)
  (fun b _=>by simp [qfg])
 rw [v9n] at i1;obtain ⟨s,e3,hp,hs⟩:=vb9 out (by omega) (fun a ha=>by have:=(hE a ((i1 a).1 ha).1).2.1;omega);have hlen:s.length=out.length:=hp.length_eq;have hmem:∀e,e∈s↔e∈all∧¬vt5 all e:=fun e=>by rw [hp.mem_iff,i1 e]
 have hfin:∃z,qfr all=some z∧q2g z∧z.length≤s.length∧∀e,e∈z↔e∈s:=by
  unfold qfr;rw [e1,v40,e2,v40,id,e3,v40];by_cases h2:((s.length:Nat):Int) < 2
  ·rw [if_pos h2];refine ⟨s,rfl,?_,v4o _,fun e=>Iff.rfl⟩
   match s,h2 with
   | [],_=>exact v8p.nil
   | [a],_=>exact v9j _ _
   | a :: b :: r,h2=>simp only [v5y] at h2;omega
  ·rw [if_neg h2];obtain ⟨o,e4,e5⟩:=vt7 (l:=s) (by omega) (by omega) (fun a ha=>by have:=(hE a ((hmem a).1 ha).1).2.1;omega) hs;rw [e4,v40];rcases e5 with ⟨rfl,h⟩ | ⟨z,rfl,h1,h0,h3⟩
   ·exact ⟨s,rfl,h,v4o _,fun e=>Iff.rfl⟩
   ·exact ⟨z,rfl,h1,h0,h3⟩
 obtain ⟨z,z1,z2,z0,z3⟩:=hfin;exact ⟨z,z1,z2,by omega,fun e=>by rw [z3 e,hmem e]⟩
def q90 (t:Table) (L:List (List Int)):Prop:=∀e∈L,(∀x∈e,∃r∈t.Rows,r.ID=x)∧e.length≤3
theorem q90.append {t:Table} {L M:List (List Int)} (h1:q90 t L) (h2:q90 t M):q90 t (L++M):=fun e he=>(v3v.1 he).elim (h1 e) (h2 e)
theorem vca (d:OD) (t:Table):∀rows:List Row,(∀r∈rows,r∈t.Rows)→q90 t (qtg d rows)
 | [],_=>fun e he=>by cases he
 | a :: r,h=>by
  refine q90.append (fun e he=>?_) (vca d t r fun x hx=>h x (v6e _ hx));unfold qzq at he;obtain ⟨b,hb,rfl⟩:=v6h.1 he;have hb':=h b (v6e _ (v6g.1 hb).1);have ha':=h a List.mem_cons_self;refine ⟨fun x hx=>?_,by simp⟩;simp only [v6d,List.not_mem_nil,or_false] at hx;rcases hx with rfl | rfl
  ·exact ⟨a,ha',rfl⟩
  ·exact ⟨b,hb',rfl⟩
theorem vnw {t:Table} (G:qos t) {d:OD} (h:qmv t.Attrs.length d=true):∃L,qch t d=some (L,0)∧q90 t L∧L.length≤64:=by
 have he:=ver G h;have e:=quw t d G.ok (q2c h);rw [if_pos he] at e;refine ⟨_,e,vca d t _ fun r hr=>hr,?_⟩;have h1:=q6v d t.Rows;have h2:=G.rows;have:t.Rows.length * t.Rows.length≤8 * 8:=v9u h2 h2;omega
theorem q91 {n rhs:Int}:∀{l:List Int} {b:Int},-1≤b→ve4 n rhs b l=true→∀x∈l,0≤x∧x < n
 | [],_,_,_,x,hx=>by cases hx
 | y :: l,b,hb,h,x,hx=>by
  simp only [ve4,v2m,decide_eq_true_eq] at h;rcases v6d.1 hx with rfl | hx
  ·exact ⟨by omega,h.1.2.1⟩
  ·exact q91 (b:=y) (by omega) h.2 x hx
theorem q7g (p:Cell) (v:Value):∃b,qep p v=some b:=by
 unfold qep;split
 ·exact ⟨_,rfl⟩
 ·exact ⟨_,rfl⟩
theorem vju {n:Nat} {c:CFD} (hc:ve5 n c=true) (hn:n≤16) {l:List Value} (hl:l.length=n) (hcl:c.Lhs.length≤n):∃b,qfp c l=some b:=by
 unfold ve5 at hc;simp only [v2m,decide_eq_true_eq] at hc;obtain ⟨⟨_,_,_,_,hp⟩,ha,_⟩:=hc;obtain ⟨o,ho,_⟩:=qo2 (β:=Unit) c.Lhs.length (fun _ i=>i) (qff c l) (fun _ _=>True) (fun _=>True) (b0:=()) (s0:=0) 0 (v6w _) rfl trivial
  (fun k _ _ hk _=>by
   have x1:c.Lhs[k]?=some c.Lhs[k]:=v3d hk;have x2:c.Pattern[k]?=some c.Pattern[k]:=v3d (by omega);obtain ⟨g1,g2⟩:=q91 (by omega) ha _ (v3x x1);obtain ⟨m,hm⟩:=v8d g1;have x3:l[m]?=some l[m]:=v3d (by omega);obtain ⟨b,hb⟩:=q7g c.Pattern[k] l[m];simp only [qff,if_pos (qai x1),qaf x1,v40,qaf x2,hm,qaf x3,hb,wqn k];cases b with
   | true=>exact .inl ⟨(),rfl,trivial⟩
   | false=>exact .inr ⟨_,rfl,trivial⟩)
  (fun _ _=>⟨.inl (),by simp [qff],trivial⟩)
 unfold qfp;rw [ho,v40];cases o with
 | inl u=>exact ⟨_,rfl⟩
 | inr b=>exact ⟨_,rfl⟩
theorem vjv {n:Nat} {c:CFD} (hc:ve5 n c=true) (hn:n≤16) (hcl:c.Lhs.length≤n) {a b:List Value} (ha:a.length=n) (hb:b.length=n):∃r,qeq c a b=some r:=by
 unfold ve5 at hc;simp only [v2m,decide_eq_true_eq] at hc;obtain ⟨⟨_,_,r1,r2,hp⟩,has,_⟩:=hc;obtain ⟨m,hm⟩:=v8d r1;have x1:a[m]?=some a[m]:=v3d (by omega);have x2:b[m]?=some b[m]:=v3d (by omega);have hf:∀y∈c.Lhs,qb6 y a b=some (((qb6 y a b).getD false)):=fun y hy=>by
  obtain ⟨g1,g2⟩:=q91 (by omega) has y hy;obtain ⟨j,rfl⟩:=v8d g1;have y1:a[j]?=some a[j]:=v3d (by omega);have y2:b[j]?=some b[j]:=v3d (by omega);simp only [qb6,qaf y1,qaf y2,v40,v43]
 have hC:=qmu c.Lhs (fun y=>qb6 y a b) (fun y=>(qb6 y a b).getD false) hf (by omega);unfold qeq;rw [hm,qaf x1,v40,qaf x2,v40];split
 ·exact ⟨_,rfl⟩
 ·rw [hC,v40];exact ⟨_,rfl⟩
theorem v1t {n a:Nat} (hn:n≤32) (ha:a < 2 ^ n):v7t (a:Int) (2 ^ (min ((n:Int)).toNat 32))=0:=by
 rw [v8h,v6s hn];have e:((2:Int) ^ n)=((2 ^ n:Nat):Int):=by simp
 rw [e,Int.fdiv_eq_ediv_of_nonneg _ (v8e _),←Int.natCast_ediv,v9q ha];rfl
def cFD (f:FD):Constraint:=Constraint.mk [99] [114] 1 f (FD.mk 0 0) (IND.mk [] [] [] []) (CFD.mk [] 0 []) (OD.mk [] []) (Denial.mk 0 [])
def Tog (rows a:List Row):Prop:=(∀r∈a,r∈rows)∧a≠[]∧a.length≤3∧a.Pairwise fun x y=>x.ID≠y.ID
def vjw (rows:List Row) (L:List (List Int)) (p:List Row→Prop):Prop:=∀e,e∈L↔∃a,Tog rows a∧p a∧e=qnd a
theorem vjw.nil {rows:List Row} {L:List (List Int)} {p:List Row→Prop} (h:vjw rows L p):L=[]↔∀a,Tog rows a→¬p a:=by
 constructor
 ·intro e a ha hp;have:=(h (qnd a)).2 ⟨a,ha,hp,rfl⟩;rw [e] at this;cases this
 ·intro hn;cases L with
  | nil=>rfl
  | cons e r =>
   obtain ⟨a,ha,hp,_⟩:=(h e).1 (by simp);exact absurd hp (hn a ha)
theorem vcb (x:Row):qnd [x]=[x.ID]:=List.perm_singleton.1 (qop _)
theorem tog1 {rows:List Row} {x:Row} (h:x∈rows):Tog rows [x]:=⟨by simpa using h,by simp,by simp,by simp⟩
theorem tog2 {rows:List Row} {x y:Row} (h:x∈rows) (h2:y∈rows) (hne:x.ID≠y.ID):Tog rows [x,y]:=⟨by simp;exact ⟨h,h2⟩,by simp,by simp,by simpa using hne⟩
theorem q4e {x y:Row} (h:x.ID < y.ID):qnd [x,y]=[x.ID,y.ID]:=by rw [vnp (by omega),if_pos h]
def vt8 (ds:List Denial) (a:List Row):Prop:=∃d∈ds,a.length=d.Vars.toNat∧d.Atoms.all (q2e a)=true
theorem vcc {t:Table} {d:Denial} (hb:q7z t.Attrs.length d=true) (e:List Int):e∈qoz t d↔∃a,Tog t.Rows a∧vt8 [d] a∧e=qnd a:=by
 obtain ⟨⟨v1,v2,_⟩,_⟩:=qkz hb;unfold qoz;rw [v6h];constructor
 ·rintro ⟨a,ha,rfl⟩;obtain ⟨h1,h2⟩:=v6g.1 ha;obtain ⟨g1,g2,g3⟩:=q4b h1;refine ⟨a,⟨g2,?_,by omega,g3⟩,⟨d,by simp,g1,h2⟩,rfl⟩;intro e;rw [e] at g1;simp at g1;omega
 ·rintro ⟨a,⟨g2,_,_,g3⟩,⟨d',hd,g1,h2⟩,rfl⟩;obtain rfl:=v6k.1 hd;exact ⟨a,v6g.2 ⟨vji g1 g2 g3,h2⟩,rfl⟩
theorem q7h {t:Table} (H:DT t) {d:Denial} (he:qoy t d=0) (hl:d.Atoms.length≤1048576):qdi t d=some (q9u (qoz t d),0):=by
 rw [q00 t d H.ok H.str H.few hl];unfold vt1;rw [if_pos he]
theorem q7i {t:Table} (H:DT t) (ds:List Denial) (h:∀d∈ds,qoy t d=0∧d.Atoms.length≤1048576) (hl:ds.length≤5) :
  ∃L,qaj (qcy t (ds,0)) ([],0)=some (.inl L)∧L.length≤2000∧vjw t.Rows L (vt8 ds):=by
 obtain ⟨L,e1,e2,e3⟩:=qdc (β:=List (List Int)) ds.length (fun b i=>(b,i)) (qcy t (ds,0)) (fun b=>(Sum.inl b:(List (List Int)) ⊕ (List (List Int)×Int))) (fun k b=>vjw t.Rows b (vt8 (ds.take k))∧b.length≤k * 343) (b0:=[]) (s0:=([],0)) rfl
  ⟨fun e=>by simp [vt8],by simp⟩
  (fun k b hk hI=>by
   obtain ⟨i1,i2⟩:=hI;have hx:ds[k]?=some ds[k]:=v3d hk;obtain ⟨h1,h2⟩:=h _ (v88 hk);obtain ⟨_,hB⟩:=qzx h1;have v1:=q7h H h1 h2;have v3:(q9u (qoz t ds[k])).length≤343:=v4q (vb5 _) (q7c H.few (qkz hB).1.2.1);refine ⟨b++q9u (qoz t ds[k]),?_,fun e=>?_,by rw [v3l,v9y];omega⟩
   ·simp only [qcy,if_pos (qai hx),qaf hx,v40,v1,bne_self_eq_false,v2o,if_false,qbq (show b.length+(q9u (qoz t ds[k])).length≤1073741824 by omega) (show 24≤65536 by omega),if_true,wqn k]
   ·rw [v3v,q4a,vcc hB,i1 e,v9p hk];constructor
    ·rintro (⟨a,a1,⟨d,d1,d2⟩,a3⟩ | ⟨a,a1,⟨d,d1,d2⟩,a3⟩)
     ·exact ⟨a,a1,⟨d,v3v.2 (.inl d1),d2⟩,a3⟩
     ·exact ⟨a,a1,⟨d,v3v.2 (.inr d1),d2⟩,a3⟩
    ·rintro ⟨a,a1,⟨d,d1,d2⟩,a3⟩;rcases v3v.1 d1 with d1 | d1
     ·exact .inl ⟨a,a1,⟨d,d1,d2⟩,a3⟩
     ·exact .inr ⟨a,a1,⟨d,d1,d2⟩,a3⟩)
  (fun b _=>by simp [qcy])
 rw [v9n] at e2;exact ⟨L,e1,by omega,e2⟩
def odQ (d:OD) (a:List Row):Prop:=∃x y,a=[x,y]∧x.ID < y.ID∧q0v x y d≠0
theorem q7j (d:OD):∀(l:List Row),(l.Pairwise fun a b=>a.ID < b.ID)→∀e,e∈qtg d l↔∃x∈l,∃y∈l,x.ID < y.ID∧q0v x y d≠0∧e=[x.ID,y.ID]
 | [],_,e=>by simp [qtg]
 | x :: l,h,e=>by
  obtain ⟨h1,h2⟩:=v9g.1 h;rw [qtg,v3v,q7j d l h2 e,qzq,v6h];constructor
  ·rintro (⟨y,hy,rfl⟩ | ⟨a,ha,b,hb,h3,h4⟩)
   ·obtain ⟨y1,y2⟩:=v6g.1 hy;exact ⟨x,by simp,y,by simp [y1],h1 y y1,by simpa using y2,rfl⟩
   ·exact ⟨a,by simp [ha],b,by simp [hb],h3,h4⟩
  ·rintro ⟨a,ha,b,hb,h3,h4,rfl⟩;rcases v6d.1 ha with rfl | ha'
   ·rcases v6d.1 hb with rfl | hb
    ·omega
    ·exact .inl ⟨b,v6g.2 ⟨hb,by simpa using h4⟩,rfl⟩
   ·rcases v6d.1 hb with rfl | hb
    ·have:=h1 a ha';omega
    ·exact .inr ⟨a,ha',b,hb,h3,h4,rfl⟩
theorem v1u {rows:List Row} (h:rows.Pairwise fun a b=>a.ID < b.ID) (d:OD):vjw rows (qtg d rows) (odQ d):=fun e=>by
 rw [q7j d rows h e];constructor
 ·rintro ⟨x,hx,y,hy,h1,h2,rfl⟩;exact ⟨[x,y],tog2 hx hy (by omega),⟨x,y,rfl,h1,h2⟩,(q4e h1).symm⟩
 ·rintro ⟨a,⟨h1,_⟩,⟨x,y,rfl,h2,h3⟩,rfl⟩;exact ⟨x,h1 x (by simp),y,h1 y (by simp),h2,h3,q4e h2⟩
def q02 (c:CFD) (x:Row):Bool:=(qfp c x.Values).getD false
def fitB (c:CFD) (x:Row):Bool:=(qep (c.Pattern.getD c.Lhs.length ⟨false,⟨0,0,[]⟩⟩) (x.Values.getD c.Rhs.toNat vtu)).getD false
def q92 (c:CFD) (x y:Row):Bool:=(qeq c x.Values y.Values).getD false
def cfdP (c:CFD) (a:List Row):Prop:=(∃x,a=[x]∧q02 c x=true∧fitB c x=false)∨∃x y,a=[x,y]∧x.ID < y.ID∧q02 c x=true∧q02 c y=true∧q92 c x y=true
theorem vt9 {t:Table} (H:DT t) (hn:t.Attrs.length≤16) {c:CFD} (hc:ve5 t.Attrs.length c=true) (hcl:c.Lhs.length≤t.Attrs.length) {M:List Row} (hM:∀r∈M,r∈t.Rows) (hml:M.length≤7) {x:Row} (hx:x∈t.Rows) (k:Nat) (hk:k < M.length)
  {b0:List (List Int)} (hb:b0.length≤1000):∃b,qaj (qb3 c M (k:Int) x) (b0,0)=some b∧b.length≤b0.length+7∧∀e,e∈b↔e∈b0∨∃y∈M.drop (k+1),q92 c x y=true∧e=[x.ID,y.ID]:=by
 have hw0:v67.wrap ((k:Int)+1)=((k+1:Nat):Int):=qcd (by omega);obtain ⟨b,e1,e2,e3⟩:=qdc (β:=List (List Int)) (M.length - (k+1)) (fun b i=>(b,i)) (qb3 c M (k:Int) x) id (fun j b=>(∀e,e∈b↔e∈b0∨∃y∈(M.drop (k+1)).take j,q92 c x y=true∧e=[x.ID,y.ID])∧b.length≤b0.length+j) (b0:=b0) (s0:=(b0,0)) rfl ⟨by simp,by omega⟩
  (fun j b hj hI=>by
   obtain ⟨i1,i2⟩:=hI;have hjl:j < (M.drop (k+1)).length:=by rw [v3m];exact hj
   have hd:(M.drop (k+1))[j]=M[k+1+j]:=v87;have hg:((M.drop (k+1)).take (M.length - (k+1)))[j]?=some M[k+1+j]:=by
    rw [v3j,if_pos hj,v3c];exact v3d (by omega)
   have hy:M[k+1+j]∈t.Rows:=hM _ (v88 _);obtain ⟨r,hr⟩:=vjv hc hn hcl ((H.code).1 x hx).1 ((H.code).1 _ hy).1;have hp:q92 c x M[k+1+j]=r:=by unfold q92;rw [hr];rfl
   have hw:v67.wrap ((j:Int)+1)=((j+1:Nat):Int):=qcd (by omega);simp only [qb3,hw0,v8h,if_pos (show (j:Int) < (((M.length - (k+1)):Nat):Int) by omega),qaf hg,v40,hr,hw,qbq (show b.length+1≤1073741824 by omega) (show 24≤65536 by omega),if_true];have htk:(M.drop (k+1)).take (j+1)=(M.drop (k+1)).take j++[M[k+1+j]]:=by rw [v9p hjl,hd]
   cases r with
   | true =>
    refine ⟨_,rfl,fun e=>?_,by simp;omega⟩;rw [htk,v3v,v6k,i1 e];constructor
    ·rintro ((h | ⟨y,y1,y2⟩) | rfl)
     ·exact .inl h
     ·exact .inr ⟨y,by simp [y1],y2⟩
     ·exact .inr ⟨_,v3v.2 (.inr (v6k.2 rfl)),hp,rfl⟩
    ·rintro (h | ⟨y,y1,y2,y3⟩)
     ·exact .inl (.inl h)
     ·rcases v3v.1 y1 with y1 | y1
      ·exact .inl (.inr ⟨y,y1,y2,y3⟩)
      ·rw [v6k.1 y1] at y3;exact .inr y3
   | false =>
    refine ⟨b,rfl,fun e=>?_,by omega⟩;rw [htk,i1 e];constructor
    ·rintro (h | ⟨y,y1,y2⟩)
     ·exact .inl h
     ·exact .inr ⟨y,by simp [y1],y2⟩
    ·rintro (h | ⟨y,y1,y2,y3⟩)
     ·exact .inl h
     ·rcases v3v.1 y1 with y1 | y1
      ·exact .inr ⟨y,y1,y2,y3⟩
      ·rw [v6k.1 y1,hp] at y2;cases y2)
  (fun b _=>by simp only [qb3,hw0,v8h];rw [if_neg (by omega)];rfl)
 rw [v4e (by rw [v3m];exact v4o _)] at e2;exact ⟨b,e1,by omega,e2⟩
theorem vjx {t:Table} (H:DT t) (hn:t.Attrs.length≤16) {c:CFD} (hc:ve5 t.Attrs.length c=true) (hcl:c.Lhs.length≤t.Attrs.length):∃L,qb5 t c=some (L,0)∧L.length≤100∧vjw t.Rows L (cfdP c):=by
 have hc':=hc;unfold ve5 at hc';simp only [v2m,decide_eq_true_eq] at hc';obtain ⟨⟨_,_,r1,r2,hp⟩,has,_⟩:=hc';have hv:=q7f t.Attrs.length c (by omega) (by omega);have few:=H.few;have e1:qaj (qb2 t c) ([],0)=some (t.Rows.filter (q02 c)):=by
  obtain ⟨M,e1,m1,m2⟩:=qdc (β:=List Row) t.Rows.length (fun b i=>(b,i)) (qb2 t c) id (fun k b=>b=(t.Rows.take k).filter (q02 c)∧b.length≤k) (b0:=[]) (s0:=([],0)) rfl ⟨by simp,by simp⟩
   (fun k b hk hI=>by
    obtain ⟨i1,i2⟩:=hI;have hx:t.Rows[k]?=some t.Rows[k]:=v3d hk;have hm:t.Rows[k]∈t.Rows:=v88 _;obtain ⟨r,hr⟩:=vju hc hn ((H.code).1 _ hm).1 hcl;have hlb:q02 c t.Rows[k]=r:=by unfold q02;rw [hr];rfl
    have hw:v67.wrap ((k:Int)+1)=((k+1:Nat):Int):=qcd (by omega);have htk:(t.Rows.take (k+1)).filter (q02 c)=b++(if r=true then [t.Rows[k]] else []):=by
     rw [v9p hk,v8t,←i1,v8v,hlb,v8y]
    simp only [qb2,if_pos (qai hx),qaf hx,v40,hr,hw,qbq (show b.length+1≤1073741824 by omega) (show 32≤65536 by omega),if_true];cases r with
    | true=>exact ⟨_,rfl,by rw [htk];simp,by simp;omega⟩
    | false=>exact ⟨b,rfl,by rw [htk];simp,by omega⟩)
   (fun b _=>by simp [qb2])
  rw [v9n] at m1;rw [e1,id,m1]
 generalize hMd:t.Rows.filter (q02 c)=M at e1;have hMm:∀x,x∈M↔x∈t.Rows∧q02 c x=true:=fun x=>by rw [←hMd,v6g]
 have m1:∀r∈M,r∈t.Rows:=fun r hr=>((hMm r).1 hr).1
 have m2:M.length≤t.Rows.length:=by rw [←hMd];exact v51 _ _
 have hMp:M.Pairwise fun a b=>a.ID < b.ID:=by rw [←hMd];exact v8p.sublist List.filter_sublist (H.code).2
 obtain ⟨q,e2,q1,q2,q3,q4⟩:=qdc (β:=List (List Int)×List (List Int)) M.length (fun b i=>(b.1,b.2,i)) (qc7 c M) id
  (fun k b=>(∀e,e∈b.1↔∃x∈M.take k,fitB c x=false∧e=[x.ID])∧(∀e,e∈b.2↔∃j x,j < k∧M[j]?=some x∧∃y∈M.drop (j+1),q92 c x y=true∧e=[x.ID,y.ID])∧b.1.length≤k∧b.2.length≤k * 7) (b0:=([],[])) (s0:=([],[],0)) rfl
  ⟨by simp,by simp,by simp,by simp⟩
  (fun k b hk hI=>by
   obtain ⟨i1,i2,i3,i4⟩:=hI;have hx:M[k]?=some M[k]:=v3d hk;have hm:M[k]∈t.Rows:=m1 _ (v88 _);have hcells:c.Pattern[c.Lhs.length]?=some c.Pattern[c.Lhs.length]:=v3d (by omega);obtain ⟨m,hmr⟩:=v8d r1;have hmv:m < M[k].Values.length:=by rw [((H.code).1 _ hm).1];omega
   have hval:M[k].Values[m]?=some (M[k].Values[m]'hmv):=v3d hmv;obtain ⟨f,hf⟩:=q7g (c.Pattern[c.Lhs.length]'(by omega)) (M[k].Values[m]'hmv);have hfb:fitB c M[k]=f:=by
    unfold fitB;rw [v5s,hcells,v43,hmr,v8h,v5s,hval,v43,hf];rfl
   obtain ⟨b6,g1,g3,g2⟩:=vt9 H hn hc hcl m1 (by omega) hm k hk (b0:=b.2) (by omega);have g4:qaj (qgd c M (k:Int) M[k]) (b.2,0)=some b6:=g1;have hw:v67.wrap ((k:Int)+1)=((k+1:Nat):Int):=qcd (by omega);have h2:∀e,e∈b6↔∃j x,j < k+1∧M[j]?=some x∧∃y∈M.drop (j+1),q92 c x y=true∧e=[x.ID,y.ID]:=fun e=>by
    rw [g2 e,i2 e];constructor
    ·rintro (⟨j,x,j1,j2⟩ | h)
     ·exact ⟨j,x,by omega,j2⟩
     ·exact ⟨k,_,by omega,hx,h⟩
    ·rintro ⟨j,x,j1,j2,j3⟩;by_cases hj:j=k
     ·subst hj;rw [hx] at j2;cases j2;exact .inr j3
     ·exact .inl ⟨j,x,by omega,j2,j3⟩
   simp only [qc7,if_pos (show (k:Int) < ((M.length:Nat):Int) by omega),qaf hx,v40,qin,qaf hcells,hmr,qaf hval,hf,hw,if_pos (show (0:Int)≤((k+1:Nat):Int) by omega),if_pos (show ((k+1:Nat):Int)≤((M.length:Nat):Int) by omega),g1,g4,qbq (show b.1.length+1≤1073741824 by omega) (show 24≤65536 by omega),if_true];cases f with
   | true =>
    refine ⟨(b.1,b6),rfl,fun e=>?_,h2,by simp only;omega,by simp only;omega⟩;rw [i1 e,v9p hk];constructor
    ·rintro ⟨x,x1,x2⟩;exact ⟨x,v3v.2 (.inl x1),x2⟩
    ·rintro ⟨x,x1,x2,x3⟩;rcases v3v.1 x1 with x1 | x1
     ·exact ⟨x,x1,x2,x3⟩
     ·rw [v6k.1 x1,hfb] at x2;cases x2
   | false =>
    refine ⟨(b.1++[[M[k].ID]],b6),rfl,fun e=>?_,h2,by simp;omega,by simp only;omega⟩;rw [v3v,v6k,i1 e,v9p hk];constructor
    ·rintro (⟨x,x1,x2⟩ | rfl)
     ·exact ⟨x,v3v.2 (.inl x1),x2⟩
     ·exact ⟨_,v3v.2 (.inr (v6k.2 rfl)),hfb,rfl⟩
    ·rintro ⟨x,x1,x2,x3⟩;rcases v3v.1 x1 with x1 | x1
     ·exact .inl ⟨x,x1,x2,x3⟩
     ·rw [v6k.1 x1] at x3;exact .inr x3)
  (fun b _=>by simp [qc7])
 rw [v9n] at q1;unfold qb5;rw [qe8 t H.ok,v40,H.err];simp only [bne_self_eq_false,v2o,if_false,hv,hc,v40,if_true,e1,e2,id,qbq (show q.1.length+q.2.length≤1073741824 by omega) (show 24≤65536 by omega)];refine ⟨_,rfl,by rw [v3l];omega,fun e=>?_⟩;rw [v3v,q1 e,q2 e];constructor
 ·rintro (⟨x,x1,x2,rfl⟩ | ⟨j,x,_,j2,y,y1,y2,rfl⟩)
  ·obtain ⟨g1,g2⟩:=(hMm x).1 x1;exact ⟨[x],tog1 g1,.inl ⟨x,rfl,g2,x2⟩,(vcb x).symm⟩
  ·obtain ⟨hj,hjx⟩:=v3f.1 j2;obtain ⟨g1,g2⟩:=(hMm x).1 (v3x j2);obtain ⟨g3,g4⟩:=(hMm y).1 (v3y y1);obtain ⟨i,hi,hiy⟩:=v9b.1 y1;rw [v3m] at hi;rw [v87] at hiy;have hlt:=v9h.1 hMp j (j+1+i) hj (by omega) (by omega);rw [hjx,hiy] at hlt;exact ⟨[x,y],tog2 g1 g3 (by omega),.inr ⟨x,y,rfl,hlt,g2,g4,y2⟩,(q4e hlt).symm⟩
 ·rintro ⟨a,⟨h1,_⟩,⟨x,rfl,h2,h3⟩ | ⟨x,y,rfl,h2,h3,h4,h5⟩,rfl⟩
  ·exact .inl ⟨x,(hMm x).2 ⟨h1 x (by simp),h2⟩,h3,vcb x⟩
  ·right;have hx:=(hMm x).2 ⟨h1 x (by simp),h3⟩;have hy:=(hMm y).2 ⟨h1 y (by simp),h4⟩;obtain ⟨j,hj,hjx⟩:=v9b.1 hx;obtain ⟨i,hi,hiy⟩:=v9b.1 hy;have hji:j < i:=by
    rcases Nat.lt_trichotomy j i with h | h | h
    ·exact h
    ·subst h;rw [←hjx,←hiy] at h2;omega
    ·have:=v9h.1 hMp i j hi hj h;rw [hjx,hiy] at this;omega
   refine ⟨j,x,hj,by rw [←hjx];exact v3d hj,y,?_,h5,q4e h2⟩;refine v9b.2 ⟨i - (j+1),by rw [v3m];omega,?_⟩;rw [v87,←hiy];congr 1;omega
theorem v1v (t:Table) (rows:List Row) (ha:t.Attrs.length≤1048576) (hl:rows.length≤1048576) (hv:∀r∈rows,r.Values.length≤1048576):qie t rows=some ⟨t.Name,t.Attrs,rows⟩:=by
 have r0:qbi t.Attrs.length 16=true:=qbq (by omega) (by omega);have h:=qdu rows (fun (b:List Row) i=>(b,i)) (qf4 rows) (fun b x=>b++[x]) id (fun k b=>b.length=k) (b0:=[]) (s0:=([],0)) rfl rfl
  (fun k b x hx hk hI=>by
   have hvx:=hv x (v3x hx);refine ⟨?_,by simp [hI]⟩;have hcp:qkc x=some x:=by
    simp only [qkc,qbq (show x.Values.length≤1073741824 by omega) (show 32≤65536 by omega),if_true]
   simp only [qf4,if_pos (qai hx),qaf hx,v40,hcp,qbq (show b.length+1≤1073741824 by omega) (show 32≤65536 by omega),if_true,qbh hk (show rows.length≤4611686018427387904 by omega)])
  (fun b _=>by simp [qf4])
 have key:∀(l:List Row) (b:List Row),l.foldl (fun b x=>b++[x]) b=b++l:=by
  intro l
  induction l with
  | nil=>simp
  | cons x l ih=>intro b;rw [v82,ih];simp
 simp only [qie,r0,if_true];rw [h,key,v40];rfl
theorem qxt (a:List Row) (y:Int):y∈qnd a↔∃r∈a,r.ID=y:=by
 unfold qnd;rw [(qop _).mem_iff,v6h]
theorem qu3:∀(n:Nat) (a:Int) (l:List Row),(∀r∈l,r.Values.length=n∧r.Values.all qkl=true∧a < r.ID)→l.Pairwise (fun x y=>x.ID < y.ID)→qdv n a l=0
 | n,a,[],_,_=>rfl
 | n,a,x :: l,h,hp=>by
  rw [v9g] at hp;obtain ⟨g1,g2,g3⟩:=h x (by simp);rw [qdv,if_neg (by omega),if_neg (by simp [g1]),if_pos g2];exact qu3 n x.ID l (fun r hr=>⟨(h r (by simp [hr])).1,(h r (by simp [hr])).2.1,hp.1 r hr⟩) hp.2
theorem vnx {t:Table} (h:qcp t=0) (rows':List Row) (hl:rows'.length≤t.Rows.length) (hc:qdv t.Attrs.length 0 rows'=0):qcp ⟨t.Name,t.Attrs,rows'⟩=0:=by
 unfold qcp at h ⊢;by_cases h1:qur t.Name=false
 ·simp [h1] at h
 by_cases h2:t.Attrs.length > 16
 ·rw [if_neg h1,if_pos h2] at h;cases h
 by_cases h3:t.Rows.length > 1000
 ·rw [if_neg h1,if_neg h2,if_pos h3] at h;cases h
 by_cases h4:qwq t.Attrs=false
 ·rw [if_neg h1,if_neg h2,if_neg h3,if_pos h4] at h;cases h
 simp only;rw [if_neg h1,if_neg h2,if_neg (by omega),if_neg h4];exact hc
end Go.Proofs.YtkebadaokhljmaaGreatDoor
