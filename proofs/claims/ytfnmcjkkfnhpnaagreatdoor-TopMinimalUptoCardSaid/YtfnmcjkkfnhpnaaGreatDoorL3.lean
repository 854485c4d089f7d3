/- The Lean functions that the program's functions are lifted to, and the plain laws about them. -/
import Derived.Lib.TrailingZeros
import Derived.Lib.Repeat
import Derived.Test.YtfnmcjkkfnhpnaaGreatDoorL1
import Derived.Test.YtfnmcjkkfnhpnaaGreatDoorA2
set_option linter.unusedVariables false
set_option linter.unusedSimpArgs false
open Bool renaming and_eq_true→vpq,and_true→vpr,eq_iff_iff→vuf,false_eq_true→vps,not_eq_false'→vug,not_eq_true→vuh,not_eq_true'→vpu,not_false→vui,or_eq_true→vpv,true_and→vuj,true_eq_false→vpw
open Int renaming eq_ofNat_of_zero_le→vuk,fdiv→vt9,natCast_nonneg→vul,natCast_zero→vum,tmod→vua,tmod_eq_emod_of_nonneg→vun,toNat_natCast→vtv
open Go.IntKind renaming i64→vsg,max→vuo,min→vup,u32→vsi
open Go.Lib renaming compareBytes→vuq,ctzFrom_spec→vur
open List renaming Pairwise→vus,Perm→vut,Sublist→vuu,all_append→vuv,all_eq_not_any_not→vuw,all_eq_true→vsn,any_eq_false→vux,append_assoc→vp0,append_nil→vp1,cons_append→vso,drop_drop→vuc,ext_getElem?→vp7,filter_append→vuy,filter_cons→vuz,filter_eq_nil_iff→vu0,filter_eq_self→vu1,filter_nil→vu2,findIdx?_eq_none_iff→vu3,findIdx?_eq_some_iff_getElem→vu4,flatMap_cons→vsq,foldl_cons→vu5,getD→vu6,getD_eq_getElem?_getD→vsr,getElem?_cons_zero→vst,getElem?_drop→vqc,getElem?_eq_getElem→vqd,getElem?_eq_none→vqe,getElem?_eq_some_iff→vqf,getElem?_map→vqg,getElem?_range→vu7,getElem?_take→vqj,getElem_mem→vu8,length→vue,length_append→vql,length_cons→vsv,length_drop→vqm,length_filter_le→vsx,length_map→vqn,length_nil→vqo,length_range→vsz,length_replicate→vqp,length_reverse→vu9,length_set→vqq,length_singleton→vs2,length_take→vqr,map_append→vqs,map_cons→vqt,mem_append→vqv,mem_cons→vty,mem_cons_of_mem→vs8,mem_filter→vta,mem_iff_getElem?→vva,mem_map→vtb,mem_of_getElem?→vqx,mem_of_mem_take→vqz,mem_range→vtc,mem_reverse→vvb,mem_singleton→vtd,nil_append→vq2,not_mem_nil→vvc,pairwise_append→vvd,pairwise_cons→vve,pairwise_iff_getElem→vvf,pairwise_map→vvg,pairwise_reverse→vvh,range→vq3,range'_succ→vvi,range_eq_range'→vq4,reverse_perm→vvj,take_append_drop→vti,take_append_of_le_length→vvk,take_length→vvl,take_of_length_le→vq9
open Nat renaming and_le_right→vvm,and_one_is_mod→vvn,div_eq_of_lt→vvo,div_le_self→vvp,eq_of_testBit_eq→vvq,le_refl→vrj,le_trans→vrl,lt_of_le_of_lt→vvr,lt_of_lt_of_le→vrm,lt_or_ge→vvs,lt_trichotomy→vtk,min_eq_left→vtm,mod_lt→vro,mul_le_mul→vvt,mul_le_mul_right→vrq,or_lt_two_pow→vvu,pow_le_pow_right→vvv,pow_pos→vvw,pow_succ→vvx,strongRecOn→vtn,succ_mul→vvy,testBit_and→vvz,testBit_lt_two_pow→vv0,testBit_succ→vv1,testBit_two_pow_mul_add→vv2,testBit_two_pow_sub_one→vv3,zero_add→vru,zero_le→vtq
open Option renaming bind_some→vrv
open Option.some renaming inj→vtu
open Prod.mk renaming inj→vv4
noncomputable section
namespace Go.Proofs.YtfnmcjkkfnhpnaaGreatDoor
open Go Go.Ab
def qob (v:Value):Bool:=decide ((v.Kind=0∧v.Num=0∧v.Str=[])∨(v.Kind=1∧v.Str=[])∨(v.Kind=2∧v.Num=0∧v.Str.length≤200)∨(v.Kind=3∧1≤v.Num∧v.Str=[]))
theorem qla (v:Value):qhm v=some (qob v):=by
 simp only [qhm,qob]
 repeat' split
 all_goals simp_all
 all_goals (try omega)
 all_goals (try (rw [vuf];simp <;> omega))
def sgn (a b:Int):Int:=if a < b then -1 else if b < a then 1 else 0
theorem q6a (a b:Int):qgr a b=some (sgn a b):=by
 simp only [qgr,qic,sgn];simp;split <;> (try split) <;> simp_all
theorem qnn (a b:Int):qd2 a b=some (sgn a b):=by
 simp only [qd2,qct,sgn];simp;split <;> (try split) <;> simp_all
def q63:List UInt8→List UInt8→Int
 | [],[]=>0
 | [],_ :: _=>-1
 | _ :: _,[]=>1
 | a :: x,b :: y=>if a=b then q63 x y else sgn a.toNat b.toNat
theorem qno:∀a b:List UInt8,vuq a b=q63 a b
 | [],[]=>rfl
 | [],_ :: _=>rfl
 | _ :: _,[]=>rfl
 | x :: a,y :: b=>by
  simp only [vuq,q63,sgn,qno a b,UInt8.lt_iff_toNat_lt,←UInt8.toNat_inj];split <;> split <;> (try split) <;> (try split) <;> omega
theorem qp9 (a b:List UInt8):qgs a b=some (q63 a b):=by
 simp [qgs,qew,qno]
theorem voo {a b:Int} (h:a≠b):sgn a b≠0:=by
 unfold sgn;split <;> (try split) <;> omega
theorem vcw (a:Int):sgn a a=0:=by unfold sgn;simp
def qx3 (a b:Value):Int:=if sgn a.Kind b.Kind≠0 then sgn a.Kind b.Kind else if sgn a.Num b.Num≠0 then sgn a.Num b.Num else q63 a.Str b.Str
theorem vop (a b c:Int):qlu [a,b,c]=some (if a≠0 then a else if b≠0 then b else c):=by
 simp only [qlu];have w0:vsg.wrap 1=1:=by decide
 have w1:vsg.wrap 2=2:=by decide
 have w2:vsg.wrap 3=3:=by decide
 by_cases h1:a=0
 ·by_cases h2:b=0
  ·by_cases h3:c=0
   ·rw [qbd (s':=1) (by simp [qci,idx,h1,w0]),qbd (s':=2) (by simp [qci,idx,h2,w1]),qbd (s':=3) (by simp [qci,idx,h3,w2]),qat (t:=.inl ()) (by simp [qci])];simp [h1,h2,h3]
   ·rw [qbd (s':=1) (by simp [qci,idx,h1,w0]),qbd (s':=2) (by simp [qci,idx,h2,w1]),qat (t:=.inr c) (by simp [qci,idx,h3])];simp [h1,h2]
  ·rw [qbd (s':=1) (by simp [qci,idx,h1,w0]),qat (t:=.inr b) (by simp [qci,idx,h2])];simp [h1,h2]
 ·rw [qat (t:=.inr a) (by simp [qci,idx,h1])];simp [h1]
theorem qi5 (a b:Value):qg1 a b=some (qx3 a b):=by
 simp only [qg1,q6a,qnn,qp9,vrv,vop,qx3]
def veq (a b:Value):Bool:=(a.Kind == b.Kind) && ((a.Num == b.Num) && (a.Str == b.Str))
def qt2:List Row→Int
 | []=>12
 | r :: l=>if (r :: l).all (fun x=>x.Values.length == r.Values.length) then 0 else 6
theorem qqa (l:List Value) (f:Value→Option Bool) (p:Value→Bool) (hf:∀x∈l,f x=some (p x)) (hl:l.length≤1073741824):qc5 l f=some (match l.findIdx? p with | some i=>(i:Int) | none=>-1):=by
 have h:=qg3 l (qbi l f) p
  (fun k x hx hk hp=>by simp [qbi,qak hx,qae hx,hf x (vqx hx),hp,qbo hk (by omega)])
  (fun k x hx hp=>by simp [qbi,qak hx,qae hx,hf x (vqx hx),hp])
  (by simp [qbi])
 simp only [qc5,h,vrv];cases l.findIdx? p <;> rfl
theorem qmr (l:List Row) (f:Row→Option Bool) (p:Row→Bool) (hf:∀x∈l,f x=some (p x)) (hl:l.length≤1073741824):qcx l f=some (match l.findIdx? p with | some i=>(i:Int) | none=>-1):=by
 have h:=qg3 l (qb1 l f) p
  (fun k x hx hk hp=>by simp [qb1,qak hx,qae hx,hf x (vqx hx),hp,qbo hk (by omega)])
  (fun k x hx hp=>by simp [qb1,qak hx,qae hx,hf x (vqx hx),hp])
  (by simp [qb1])
 simp only [qcx,h,vrv];cases l.findIdx? p <;> rfl
theorem qhn {α:Type} (p:α→Bool) (l:List α):decide ((match l.findIdx? p with | some i=>((i:Nat):Int) | none=>-1)≥0)=l.any p:=by
 cases h:l.findIdx? p with
 | none =>
  rw [vu3] at h;have:l.any p=false:=by rw [vux];intro x hx;simp [h x hx]
  rw [this];rfl
 | some i =>
  have:l.any p=true:=by
   rw [vu4] at h;obtain ⟨hi,hp,_⟩:=h;rw [List.any_eq_true];exact ⟨_,vu8 hi,hp⟩
  rw [this];simp
theorem qnp (l:List Value) (f:Value→Option Bool) (p:Value→Bool) (hf:∀x∈l,f x=some (p x)) (hl:l.length≤1073741824):qcc l f=some (l.any p):=by
 simp only [qcc,qqa l f p hf hl,vrv,qhn]
def q3y:Int→List Row→Bool
 | _,[]=>true
 | a,r :: l=>decide (a < r.ID) && r.Values.all qob && q3y r.ID l
def vim (cnt:Value→Int) (rule:Int) (v b:Value):Bool :=
 if rule=2 then decide (cnt v > cnt b) else if rule=3 then decide (v.Kind=2) && (decide (b.Kind≠2) || decide ((v.Str.length:Int) > b.Str.length))
 else if rule=4 then decide (qx3 v b < 0) else if rule=5 then decide (qx3 v b > 0) else false
def qik (r:Row) (a:Nat):Value:=r.Values.getD a ⟨0,0,[]⟩
def voq (rows:List Row):Prop:=∀r∈rows,∀v∈r.Values,v.Str.length≤1073741824
def pickF {β:Type} (B:Value→Value→Bool) (o:Value×β) (x:Value×β):Value×β:=if B x.1 o.1 then x else o
def nn (rows:List Row) (a:Nat):List Row:=rows.filter fun r=>(qik r a).Kind != 0
def q3z (rows:List Row) (a:Nat) (rule:Int):Value×Int :=
 match nn rows a with
 | []=>(⟨0,0,[]⟩,(rows[0]?.map (·.ID)).getD 0)
 | r :: l=>(l.map fun x=>(qik x a,x.ID)).foldl (pickF (vim (fun x=>(((rows.map (qik · a)).countP (veq · x):Nat):Int)) rule)) (qik r a,r.ID)
structure RowsOk (rows:List Row):Prop where
 len:rows.length≤1073741824
 vals:∀r∈rows,r.Values.length≤1073741824
 short:voq rows
def choice (rows:List Row) (attr rule:Int):Value×Int×Int :=
 if qt2 rows≠0 then (⟨0,0,[]⟩,0,qt2 rows)
 else if attr < 0∨((rows[0]?.map (·.Values.length)).getD 0:Nat)≤attr then (⟨0,0,[]⟩,0,6)
 else if q3y 0 rows=false∨rule < 1∨5 < rule then (⟨0,0,[]⟩,0,1)
 else ((q3z rows attr.toNat rule).1,(q3z rows attr.toNat rule).2,0)
def vor (r:Int):Bool:=decide (1≤r) && decide (r≤5)
theorem qr6 (l:List Int) (f:Int→Option Bool) (p:Int→Bool) (hf:∀x∈l,f x=some (p x)) (hl:l.length≤1073741824):qdy l f=some (match l.findIdx? p with | some i=>(i:Int) | none=>-1):=by
 have h:=qg3 l (qbz l f) p
  (fun k x hx hk hp=>by simp [qbz,qak hx,qae hx,hf x (vqx hx),hp,qbo hk (show l.length≤4611686018427387904 by omega)])
  (fun k x hx hp=>by simp [qbz,qak hx,qae hx,hf x (vqx hx),hp])
  (by simp [qbz])
 simp only [qdy,h,vrv];cases l.findIdx? p <;> rfl
theorem qj5 (l:List Int) (f:Int→Option Bool) (p:Int→Bool) (hf:∀x∈l,f x=some (p x)) (hl:l.length≤1073741824):qb0 l f=some (l.any p):=by
 simp only [qb0,qr6 l f p hf hl,vrv];exact congrArg some (qhn p l)
def stepM (rows:List Row) (b:List Value×List Int) (rule:Int):List Value×List Int:=(b.1++[(q3z rows b.1.length rule).1],b.2++[(q3z rows b.1.length rule).2])
def q9t (rows:List Row) (rules:List Int):List Value×List Int:=rules.foldl (stepM rows) ([],[])
def merging (rows:List Row) (rules:List Int):(Row×List Int)×Int :=
 if qt2 rows≠0 then ((⟨0,[]⟩,[]),qt2 rows)
 else if rules.length≠(rows[0]?.map (·.Values.length)).getD 0 then ((⟨0,[]⟩,[]),6)
 else if q3y 0 rows=false∨rules.all vor=false then ((⟨0,[]⟩,[]),1)
 else ((⟨(rows[0]?.map (·.ID)).getD 0,(q9t rows rules).1⟩,(q9t rows rules).2),0)
theorem q2g {α:Type} (p:α→Bool) (l:List α):(l.any fun x=>!p x)=!l.all p:=by simp [vuw]
def qop (c:Int):Bool:=(decide (97≤c) && decide (c≤122)) || ((decide (65≤c) && decide (c≤90)) || c == 95)
theorem qz8 (c : Int) : (show Option Bool from
            if c ≥ 97 then
              if c ≤ 122 then some true
              else if c ≥ 65 then if c ≤ 90 then some true else some (c == 95) else some (c == 95)
            else if c ≥ 65 then if c ≤ 90 then some true else some (c == 95) else some (c == 95)) = some (qop c) := by
  simp only [qop]
  by_cases h1 : 97 ≤ c <;> by_cases h2 : c ≤ 122 <;> by_cases h3 : 65 ≤ c <;> by_cases h4 : c ≤ 90 <;> simp [h1, h2, h3, h4]
def lod (c:UInt8):Bool:=qop c.toNat || (decide (48≤(c.toNat:Int)) && decide ((c.toNat:Int)≤57))
def qra:List UInt8→Bool
 | []=>false
 | c :: r=>decide (r.length < 24) && qop c.toNat && !((c :: r) == [110,117,108,108]) && r.all lod
theorem qt3 (s:List UInt8):qhr s=some (qra s):=by
 cases s with
 | nil=>rfl
 | cons c r =>
  have hn:¬(((c :: r) == [])=true):=by simp
  simp only [qhr,if_neg hn];by_cases h24:((c :: r).length:Int) > 24
  ·have:¬r.length < 24:=by simp at h24;omega
   rw [if_pos h24];simp [qra,this]
  ·have h24':r.length < 24:=by simp at h24;omega
   rw [if_neg h24];by_cases hnull:((c :: r) == [110,117,108,108])=true
   ·simp only [hnull,if_true,qra];simp
   ·simp only [vuh] at hnull;have hlet:∀x:UInt8,(show Option Bool from
      if ((x.toNat:Nat):Int)≥97 then
       if ((x.toNat:Nat):Int)≤122 then some true
       else if ((x.toNat:Nat):Int)≥65 then if ((x.toNat:Nat):Int)≤90 then some true else some (((x.toNat:Nat):Int) == 95) else some (((x.toNat:Nat):Int) == 95)
      else if ((x.toNat:Nat):Int)≥65 then if ((x.toNat:Nat):Int)≤90 then some true else some (((x.toNat:Nat):Int) == 95) else some (((x.toNat:Nat):Int) == 95))=some (qop x.toNat):=fun x=>qz8 x.toNat
    have h:=qq9 (c :: r) (qff (c :: r)) (fun k x=>qop x.toNat || (decide (k≠0) && (decide (48≤(x.toNat:Int)) && decide ((x.toNat:Int)≤57)))) false
     (fun k x hx hk hp=>by
      simp only [qff,if_pos (qak hx),qae hx,vrv,hlet,qbo hk (by simp;omega)];by_cases hx1:qop x.toNat=true
      ·simp [hx1]
      ·simp only [vuh] at hx1;simp only [hx1,Bool.false_or,vpq,decide_eq_true_eq] at hp;have e0:¬(((k:Int) == 0)=true):=by simp;omega
       have e1:¬(x.toNat:Int) < 48:=by omega
       have e2:¬(x.toNat:Int) > 57:=by omega
       simp [hx1,e0,e1,e2])
     (fun k x hx hp=>by
      simp only [qff,if_pos (qak hx),qae hx,vrv,hlet];simp only [Bool.or_eq_false_iff,Bool.and_eq_false_iff,decide_eq_false_iff_not] at hp;simp only [hp.1,vps,if_false];by_cases e0:k=0
      ·simp [e0]
      ·have e0':¬(((k:Int) == 0)=true):=by simp;omega
       by_cases e1:(x.toNat:Int) < 48
       ·simp [e1]
       ·have e2:(x.toNat:Int) > 57:=by
         rcases hp.2 with h | h | h
         ·exact absurd e0 h
         ·omega
         ·omega
        simp [e1,e2])
     (by simp [qff]) (c :: r) 0 rfl (vtq _)
    simp only [vum] at h;simp only [hnull,vps,if_false,h,vrv];have e:qgx (fun k x=>qop x.toNat || (decide (k≠0) && (decide (48≤(x.toNat:Int)) && decide ((x.toNat:Int)≤57)))) 0 (c :: r)=(qop c.toNat && r.all lod):=by
     simp only [qgx];rw [qp8 (q:=fun _ x=>lod x) r 1 (fun j x hj _=>by
      have hj0:j≠0:=by omega
      simp [lod,hj0]),qt0]
     simp
    rw [e];simp only [qra,h24',decide_true,vuj,hnull,vui,vpr];cases qop c.toNat <;> cases r.all lod <;> rfl
def ve9:Option Nat→Int
 | some i=>i
 | none=>-1
theorem qx4 {α:Type} (p:α→Bool) (l:List α):decide (ve9 (l.findIdx? p)≥0)=l.any p:=by
 rw [←qhn];cases l.findIdx? p <;> rfl
theorem qt4 (l:List (List UInt8)) (s:List UInt8) (hl:l.length≤1073741824):qea l s=some (ve9 (l.findIdx? (fun x=>s == x))):=by
 have h:=qg3 l (qb6 l s) (fun x=>s == x)
  (fun k x hx hk hp=>by simp only [qb6,if_pos (qak hx),qae hx,vrv,hp,vps,if_false,if_true,qbo hk (show l.length≤4611686018427387904 by omega)])
  (fun k x hx hp=>by simp only [qb6,if_pos (qak hx),qae hx,vrv,hp,if_true])
  (by simp [qb6])
 simp only [qea,h,vrv];cases l.findIdx? (fun x=>s == x) <;> rfl
theorem qk1 (l:List (List UInt8)) (s:List UInt8) (hl:l.length≤1073741824):qc4 l s=some (l.any fun x=>s == x):=by
 simp only [qc4,qt4 l s hl,vrv];exact congrArg some (qx4 _ l)
def qt5 (l:List (List UInt8)):Bool:=qgx (fun k x=>qra x && !(l.take k).any fun y=>x == y) 0 l
def qee (n:Nat):Int→List Row→Int
 | _,[]=>0
 | a,r :: l=>if r.ID≤a then 1 else if r.Values.length≠n then 6 else if r.Values.all qob then qee n r.ID l else 1
def qcv (t:Table):Int :=
 if qra t.Name=false then 1 else if t.Attrs.length > 16 then 3 else if t.Rows.length > 1000 then 3 else if qt5 t.Attrs=false then 1 else qee t.Attrs.length 0 t.Rows
theorem qvg (l:List Value) (hl:l.length≤1073741824):qfg l=some (l.all qob):=by
 simp only [qfg,qnp l (fun y=>qc9 y) (fun v=>!qob v) (fun y _=>by simp [qc9,qla]) hl,vrv,q2g,Bool.not_not]
theorem q9u {B:Int×Int→Option (LS (Int×Int) (Unit ⊕ Int))} (rows:List Row) (n:Nat)
  (hB:∀(k:Nat) (a:Int) x,rows[k]?=some x→k < rows.length→B (a,(k:Int))=if x.ID≤a then some (.done (.inr 1)) else if x.Values.length≠n then some (.done (.inr 6)) else if x.Values.all qob then some (.next (x.ID,((k+1:Nat):Int))) else some (.done (.inr 1)))
  (hE:∀a,B (a,(rows.length:Int))=some (.done (.inl ()))):∀(r:List Row) (k:Nat) (a:Int),rows.drop k=r→k≤rows.length→∃o,qal B (a,(k:Int))=some o∧(match o with | .inl ()=>qee n a r=0 | .inr z=>qee n a r=z∧z≠0):=by
 intro r
 induction r with
 | nil =>
  intro k a hd hk;have:k=rows.length:=by
   have:=congrArg vue hd;simp at this;omega
  subst this;exact ⟨.inl (),qat (hE a),rfl⟩
 | cons x r ih =>
  intro k a hd hk;have hx:rows[k]?=some x:=by
   have:=congrArg (·[0]?) hd;simpa [vqc] using this
  have hd':rows.drop (k+1)=r:=by rw [←vuc,hd];rfl
  have hlt:=qcr hx;have hb:=hB k a x hx hlt;by_cases h1:x.ID≤a
  ·rw [if_pos h1] at hb;exact ⟨_,qat hb,by simp [qee,h1]⟩
  ·rw [if_neg h1] at hb;by_cases h2:x.Values.length≠n
   ·rw [if_pos h2] at hb;exact ⟨_,qat hb,by simp [qee,h1,h2]⟩
   ·rw [if_neg h2] at hb;by_cases h3:x.Values.all qob=true
    ·rw [if_pos h3] at hb;obtain ⟨o,h4,h5⟩:=ih (k+1) x.ID hd' hlt;refine ⟨o,by rw [qbd hb];exact h4,?_⟩;have e:qee n a (x :: r)=qee n x.ID r:=by
      simp only [qee,if_neg h1,if_neg h2,if_pos h3]
     rw [e];exact h5
    ·rw [if_neg h3] at hb;exact ⟨_,qat hb,by simp only [qee,if_neg h1,if_neg h2,if_neg h3];exact ⟨trivial,by omega⟩⟩
structure TableOk (t:Table):Prop where
 attrs:t.Attrs.length≤1073741824
 rows:t.Rows.length≤1073741824
 vals:∀r∈t.Rows,r.Values.length≤1073741824
 short:voq t.Rows
theorem q30 {t:Table} (h:qo9 t):TableOk t:=by
 obtain ⟨_,h2,h3⟩:=h;refine ⟨by have:=h2.1;omega,by have:=h3.1;omega,fun r hr=>?_,fun r hr v hv=>?_⟩
 ·have:=(h3.2 r hr).2.1;omega
 ·have:okS v.Str:=((h3.2 r hr).2.2 v hv).2.2;unfold okS at this;omega
theorem qg5 (t : Table) (H : TableOk t) : qgq t = some (qcv t) := by
  simp only [qgq, qt3, vrv, qcv]
  by_cases h1 : qra t.Name = true
  · by_cases h2 : t.Attrs.length > 16
    · have : (t.Attrs.length : Int) > 16 := by omega
      simp [h1, h2, this]
    · have h2' : ¬ (t.Attrs.length : Int) > 16 := by omega
      by_cases h3 : t.Rows.length > 1000
      · have : (t.Rows.length : Int) > 1000 := by omega
        simp [h1, h2, h2', h3, this]
      · have h3' : ¬ (t.Rows.length : Int) > 1000 := by omega
        have hN := qq9 t.Attrs (qgc t) (fun k x => qra x && !(t.Attrs.take k).any fun y => x == y) 1
          (fun k x hx hk hp => by
            simp only [vpq, vpu] at hp
            have h0 : ((0 : Int) ≤ (k : Int)) := by omega
            have h1 : ((k : Int) ≤ (t.Attrs.length : Int)) := by omega
            have hA := H.attrs
            simp only [qgc, if_pos (qak hx), qae hx, vrv, qt3, hp.1, if_true, if_pos h0, if_pos h1, vtv, qk1 _ x (show (t.Attrs.take k).length ≤ 1073741824 by simp; omega), hp.2, vps, if_false,
              qbo hk (show t.Attrs.length ≤ 4611686018427387904 by omega)])
          (fun k x hx hp => by
            have hk := qcr hx
            have h0 : ((0 : Int) ≤ (k : Int)) := by omega
            have h1 : ((k : Int) ≤ (t.Attrs.length : Int)) := by omega
            have hA := H.attrs
            simp only [qgc, if_pos (qak hx), qae hx, vrv, qt3, if_pos h0, if_pos h1, vtv, qk1 _ x (show (t.Attrs.take k).length ≤ 1073741824 by simp; omega)]
            rcases Bool.eq_false_or_eq_true (qra x) with hn | hn
            · simp only [hn, vuj, vug] at hp
              simp only [hn, if_true, hp]
            · simp [hn])
          (by simp [qgc]) t.Attrs 0 rfl (vtq _)
        simp only [vum] at hN
        simp only [h1, if_true, if_neg h2', if_neg h3', hN, vrv, vpw, if_false, if_neg h2, if_neg h3]
        have hNe : qt5 t.Attrs = qgx (fun k x => qra x && !(t.Attrs.take k).any fun y => x == y) 0 t.Attrs := rfl
        rw [← hNe]
        by_cases h4 : qt5 t.Attrs = true
        · obtain ⟨o, h5, h6⟩ := q9u (B := qhc t) t.Rows t.Attrs.length (fun k a x hx hk => by
              simp only [qhc, if_pos (qak hx), qae hx, vrv, qvg _ (H.vals x (vqx hx)), qbo hk (show t.Rows.length ≤ 4611686018427387904 by have := H.rows; omega)]
              by_cases e1 : x.ID ≤ a
              · simp [e1]
              · by_cases e2 : x.Values.length = t.Attrs.length
                · simp [e1, e2]
                · have : ¬ ((x.Values.length : Int) = t.Attrs.length) := by omega
                  simp [e1, e2, this]) (fun a => by simp [qhc]) t.Rows 0 0 rfl (vtq _)
          simp only [vum] at h5
          simp only [h4, if_true, h5, vrv, vpw, if_false]
          cases o with
          | inl u => simp only at h6 ⊢; rw [h6]
          | inr z => simp only at h6 ⊢; rw [h6.1]
        · simp only [vuh] at h4
          simp [h4]
  · simp only [vuh] at h1
    simp [h1]
theorem vfa (l:List Int) (x:Int) (hl:l.length≤4611686018427387904):qhg l x=some (decide (x∈l)):=by
 have h:=qlv l (qd5 l x) (fun y=>!(y == x)) true
  (fun k y hx hk hp=>by
   simp only [vpu] at hp;simp only [qd5,if_pos (qak hx),qae hx,vrv,hp,vps,if_false,qbo hk hl])
  (fun k y hx hp=>by
   simp only [vug] at hp;simp only [qd5,if_pos (qak hx),qae hx,vrv,hp,if_true])
  (by simp [qd5])
 simp only [qhg,h,vrv];by_cases hm:x∈l
 ·have:l.all (fun y=>!(y == x))=false:=by rw [List.all_eq_false];exact ⟨x,hm,by simp⟩
  simp [this,hm]
 ·have:l.all (fun y=>!(y == x))=true:=by
   rw [vsn];intro y hy;simp only [vpu,beq_eq_false_iff_ne];intro e;rw [e] at hy;exact hm hy
  simp [this,hm]
theorem qvh (l:List Int) (x:Int) (hl:l.length≤1073741824):qe0 l x=some (ve9 (l.findIdx? (fun y=>x == y))):=by
 have h:=qg3 l (qco l x) (fun y=>x == y)
  (fun k y hx hk hp=>by simp only [qco,if_pos (qak hx),qae hx,vrv,hp,vps,if_false,if_true,qbo hk (show l.length≤4611686018427387904 by omega)])
  (fun k y hx hp=>by simp only [qco,if_pos (qak hx),qae hx,vrv,hp,if_true])
  (by simp [qco])
 simp only [qe0,h,vrv];cases l.findIdx? (fun y=>x == y) <;> rfl
theorem qrb (l:List Int) (x:Int) (hl:l.length≤1073741824):qdp l x=some (decide (x∈l)):=by
 simp only [qdp,qvh l x hl,vrv];rw [qx4];congr 1;rw [vuf];simp
theorem qk2 (l:List Int) (f:Int→Option Bool) (p:Int→Bool) (hf:∀x∈l,f x=some (p x)) (hl:l.length≤1073741824):qca l f=some (ve9 (l.findIdx? p)):=by
 have h:=qg3 l (qbk l f) p
  (fun k x hx hk hp=>by simp [qbk,qak hx,qae hx,hf x (vqx hx),hp,qbo hk (show l.length≤4611686018427387904 by omega)])
  (fun k x hx hp=>by simp [qbk,qak hx,qae hx,hf x (vqx hx),hp])
  (by simp [qbk])
 simp only [qca,h,vrv];cases l.findIdx? p <;> rfl
theorem qiy (l:List Int) (f:Int→Option Bool) (p:Int→Bool) (hf:∀x∈l,f x=some (p x)) (hl:l.length≤1073741824):qbl l f=some (l.any p):=by
 simp only [qbl,qk2 l f p hf hl,vrv];exact congrArg some (qx4 p l)
theorem q9v {K V:Type} [DecidableEq K] (m:List (K×V)) (k x:K) (v:V):qrv (qvc m k v) x=if x=k then some v else qrv m x:=by
 induction m with
 | nil=>simp [qvc,qrv]
 | cons p r ih =>
  obtain ⟨a,u⟩:=p;simp only [qvc];by_cases h:k=a
  ·subst h;simp only [if_pos,qrv];by_cases hx:x=k <;> simp [hx]
  ·simp only [if_neg h,qrv,ih];by_cases hx:x=a
   ·subst hx;have:¬x=k:=fun e=>h e.symm
    simp [this]
   ·simp [hx]
def Holds (m:List (Int×Bool)) (all:List Int):Prop:=∀x,qrv m x=if x∈all then some true else none
end Go.Proofs.YtfnmcjkkfnhpnaaGreatDoor
namespace Go.Ab
open Go
variable {α κ:Type} [DecidableEq κ]
def keysF (key:α→κ) (ks:List κ) (x:α):List κ:=if key x∈ks then ks else ks++[key x]
def vos (key:α→κ) (l:List α):List κ:=l.foldl (keysF key) []
def vin (key:α→κ) (l:List α):List (List α):=(vos key l).map fun k=>l.filter fun x=>decide (key x=k)
end Go.Ab
namespace Go.Ab
open Go
theorem qz9 (n:Nat):vsi.wrap (n:Int)=((n % 4294967296:Nat):Int):=by
 simp only [IntKind.wrap,IntKind.signed,IntKind.bits,Bool.false_and,vps,if_false];rw [show ((2:Int) ^ 32)=4294967296 from rfl];omega
theorem q9w {a b:Nat} (ha:a < 4294967296) (hb:b < 4294967296):vsi.wrap ((BitVec.ofInt 32 (a:Int) &&& BitVec.ofInt 32 (b:Int)).toNat:Int)=((a &&& b:Nat):Int):=by
 rw [q8f,BitVec.toNat_and,qpy ha,qpy hb]
theorem q31 {a b:Nat} (ha:a < 4294967296) (hb:b < 4294967296):vsi.wrap ((BitVec.ofInt 32 (a:Int) ||| BitVec.ofInt 32 (b:Int)).toNat:Int)=((a ||| b:Nat):Int):=by
 rw [q8f,BitVec.toNat_or,qpy ha,qpy hb]
def qr7 (a b:Nat):Nat:=a ^^^ (a &&& b)
theorem qqb (a b i:Nat):(qr7 a b).testBit i=(a.testBit i && !b.testBit i):=by
 unfold qr7;rw [Nat.testBit_xor,vvz];cases a.testBit i <;> cases b.testBit i <;> rfl
theorem vcx {a b:Nat} (ha:a < 4294967296) (hb:b < 4294967296):vsi.wrap ((BitVec.ofInt 32 (a:Int) &&& ~~~ BitVec.ofInt 32 (b:Int)).toNat:Int)=((qr7 a b:Nat):Int):=by
 rw [q8f];congr 1;apply vvq;intro i;rw [qqb];rw [BitVec.testBit_toNat,BitVec.getLsbD_and,BitVec.getLsbD_not,←BitVec.testBit_toNat,←BitVec.testBit_toNat,qpy ha,qpy hb];by_cases hi:i < 32
 ·simp [hi]
 ·have:a.testBit i=false:=vv0 (vrm ha (by
   have:2 ^ 32≤2 ^ i:=vvv (by omega) (by omega);exact this))
  simp [this]
theorem vcy {a:Nat} (ha:a < 4294967296):vsi.wrap ((BitVec.ofInt 32 (a:Int) &&& (1#32)).toNat:Int)=((a % 2:Nat):Int):=by
 rw [q8f,BitVec.toNat_and,qpy ha];congr 1;have:(1#32).toNat=1:=rfl;rw [this,vvn]
theorem q32 {i:Nat} (h:i < 32):2 ^ i < 4294967296:=Nat.pow_lt_pow_right (by omega) h
theorem vcz {i:Nat} (h:i < 32):vsi.wrap (1 * 2 ^ (min i 32))=((2 ^ i:Nat):Int):=by
 rw [vtm (by omega),Int.one_mul];have:((2:Int) ^ i)=((2 ^ i:Nat):Int):=by simp
 rw [this];have h2:=q32 h;generalize 2 ^ i=p at h2 ⊢;exact qse (by omega) (by omega)
theorem q9x (a i:Nat):(((a / 2 ^ i % 2:Nat):Int) == 1)=a.testBit i:=by
 rw [Nat.testBit_eq_decide_div_mod_eq,vuf];simp only [beq_iff_eq,decide_eq_true_eq];omega
theorem vio {a:Nat} (ha:a < 4294967296) {i:Nat} (hi:i≤32):((vsi.wrap ((BitVec.ofInt 32 (vt9 (a:Int) (2 ^ (min i 32))) &&& (1#32)).toNat:Int)) == 1)=a.testBit i:=by
 rw [vtm hi,qpz,vcy (vvr (vvp _ _) ha),q9x]
theorem vip {a n:Nat} (h:∀i,n≤i→a.testBit i=false):a < 2 ^ n:=Nat.lt_pow_two_of_testBit a h
theorem q0a {a n i:Nat} (h:a < 2 ^ n) (hi:n≤i):a.testBit i=false:=vv0 (vrm h (vvv (by omega) hi))
theorem vot {a b:Nat} (ha:a < 4294967296) (hb:b < 4294967296):a ||| b < 4294967296:=vvu (n:=32) ha hb
theorem vc0 {a b:Nat} (ha:a < 4294967296):qr7 a b < 4294967296:=by
 refine vip (n:=32) fun i hi=>?_
 rw [qqb,q0a (n:=32) ha hi];rfl
def setN (l:List Nat):Nat:=l.foldl (fun s x=>s ||| 2 ^ x) 0
theorem qqc (i:Nat):∀(l:List Nat) (s:Nat),(l.foldl (fun s x=>s ||| 2 ^ x) s).testBit i=(s.testBit i || decide (i∈l))
 | [],s=>by simp
 | x :: l,s=>by
  rw [vu5,qqc i l,Nat.testBit_or,Nat.testBit_two_pow];by_cases h:i=x
  ·subst h;simp
  ·have:decide (x=i)=false:=by simp;exact fun e=>h e.symm
   rw [this];simp [h]
theorem vc1 (l:List Nat) (i:Nat):(setN l).testBit i=decide (i∈l):=by unfold setN;rw [qqc];simp
theorem q2h (m i:Nat):(2 * m+1).testBit (i+1)=m.testBit i:=by
 rw [vv1];congr 1;omega
theorem q0b (m i:Nat):(2 * m).testBit (i+1)=m.testBit i:=by
 rw [vv1];congr 1;omega
theorem viq {n:Nat} (h0:n≠0) (h:n < 4294967296):∃k,k < 32∧n.testBit k=true∧n &&& (4294967296 - n)=2 ^ k∧(∀j,(n &&& (n - 1)).testBit j=(n.testBit j && decide (j≠k)))∧n &&& (n - 1) < n:=by
 obtain ⟨m,hm,hk⟩:=vur 32 n (by omega) h;generalize Lib.ctzFrom 32 n=k at hm hk;have hp:0 < 2 ^ k:=vvw (by omega);have b1:∀j,n.testBit j=if j < k then false else (2 * m+1).testBit (j - k):=by
  intro j;have:=vv2 (2 * m+1) (b:=0) hp j;rw [Nat.add_zero,←hm] at this;rw [this];simp
 have e1:n - 1=2 ^ k * (2 * m)+(2 ^ k - 1):=by
  rw [hm,Nat.mul_add,Nat.mul_one];omega
 have b2:∀j,(n - 1).testBit j=if j < k then (2 ^ k - 1).testBit j else (2 * m).testBit (j - k):=by
  intro j;rw [e1];exact vv2 (2 * m) (b:=2 ^ k - 1) (by omega) j
 have hbits:∀j,(n &&& (n - 1)).testBit j=(n.testBit j && decide (j≠k)):=by
  intro j;rw [vvz,b1,b2];by_cases hj:j < k
  ·simp [hj]
  ·simp only [if_neg hj];by_cases hjk:j=k
   ·subst hjk;simp
   ·obtain ⟨i,hi⟩:∃i,j - k=i+1:=⟨j - k - 1,by omega⟩;rw [hi,q2h,q0b];simp [hjk]
 refine ⟨k,hk,?_,?_,hbits,?_⟩
 ·rw [b1,if_neg (by omega),Nat.sub_self];simp
 ·have:=Lib.and_neg 32 k m (by rw [←hm];exact h);rw [←hm] at this;exact this
 ·exact vvr vvm (by omega)
def qi6 (n:Nat):List Nat:=(vq3 32).filter fun k=>n.testBit k
theorem vou:∀k:Nat,k < 32→qkg.getD (2 ^ k * 125613361 % 4294967296 / 134217728) 0=(k:Int):=by decide +kernel
theorem q9y {n k:Nat} (hk:n.testBit k=true) (h:n &&& (4294967296 - n)=2 ^ k) (hn:n < 4294967296):∀j,j < k→n.testBit j=false:=by
 have hk32:k < 32:=by
  apply Classical.byContradiction;intro hc;rw [q0a (n:=32) hn (by omega)] at hk;cases hk
 obtain ⟨m,hm,_⟩:=vur 32 n (by rcases Nat.eq_zero_or_pos n with e | e;(subst e;simp at hk);exact e) hn;generalize Lib.ctzFrom 32 n=i at hm;have hp:0 < 2 ^ i:=vvw (by omega);have b1:∀j,n.testBit j=if j < i then false else (2 * m+1).testBit (j - i):=by
  intro j;have:=vv2 (2 * m+1) (b:=0) hp j;rw [Nat.add_zero,←hm] at this;rw [this];simp
 have h2:=Lib.and_neg 32 i m (by rw [←hm];exact hn);rw [←hm] at h2;have h3:(2:Nat) ^ i=2 ^ k:=by rw [←h];exact h2.symm
 have hik:i=k:=(Nat.pow_right_inj (by omega)).1 h3;intro j hj;rw [b1,if_pos (by omega)]
theorem vc2 {n k:Nat} (hk:n.testBit k=true) (h:n &&& (4294967296 - n)=2 ^ k) (hk32:k < 32):vjq n=(k:Int):=by
 have h0:n≠0:=by intro e;subst e;simp at hk
 unfold vjq tzI;rw [if_neg h0,h];exact vou k hk32
theorem q9z {n k:Nat} (hk32:k < 32) (hk:n.testBit k=true) (hl:∀j,j < k→n.testBit j=false) (hb:∀j,(n &&& (n - 1)).testBit j=(n.testBit j && decide (j≠k))):qi6 n=k :: qi6 (n &&& (n - 1)):=by
 unfold qi6;have e:vq3 32=vq3 k++k :: (vq3 (31 - k)).map fun i=>k+1+i:=by
  apply vp7;intro i;by_cases h1:i < k
  ·rw [List.getElem?_append_left (by simpa using h1),vu7 h1,vu7 (by omega)]
  ·rw [List.getElem?_append_right (by simpa using h1),vsz];by_cases h2:i=k
   ·subst h2;simp [hk32]
   ·obtain ⟨d,hd⟩:∃d,i - k=d+1:=⟨i - k - 1,by omega⟩;rw [hd,List.getElem?_cons_succ,vqg];by_cases h3:i < 32
    ·rw [vu7 h3,vu7 (by omega)];simp;omega
    ·rw [vqe (by simp;omega),vqe (by simp;omega)];rfl
 rw [e,vuy,vuy,vuz,vuz,if_pos hk,hb k];simp only [ne_eq,not_true_eq_false,decide_false,Bool.and_false,vps,if_false];have e1:(vq3 k).filter (fun j=>n.testBit j)=[]:=by
  rw [vu0];intro j hj;rw [hl j (vtc.1 hj)];simp
 have e2:(vq3 k).filter (fun j=>(n &&& (n - 1)).testBit j)=[]:=by
  rw [vu0];intro j hj;rw [hb,hl j (vtc.1 hj)];simp
 rw [e1,e2,vq2,vq2];congr 1;apply List.filter_congr;intro j hj;obtain ⟨i,_,rfl⟩:=vtb.1 hj;rw [hb];have:k+1+i≠k:=by omega
 simp [this]
theorem q33 {n k:Nat} (h:k∈qi6 n):k < 32∧n.testBit k=true:=by
 unfold qi6 at h;rw [vta,vtc] at h;exact h
theorem qqd (n:Nat):(qi6 n).length≤32:=by
 unfold qi6;exact vrl (vsx _ _) (by simp)
end Go.Ab
namespace Go.Proofs.YtfnmcjkkfnhpnaaGreatDoor
open Go Go.Ab
theorem q0c:∀(n:Nat) (out:List Int),n < 4294967296→out.length+(qi6 n).length≤1000→qal qev ((n:Int),out)=some (out++(qi6 n).map fun (k:Nat)=>(k:Int)):=by
 intro n
 induction n using vtn with
 | ind n ih =>
  intro out hn ho;by_cases h0:n=0
  ·subst h0;rw [qat (t:=out) (by simp [qev])];have:qi6 0=[]:=by decide
   rw [this];simp
  ·obtain ⟨k,hk,hkb,hlow,hb,hlt⟩:=viq h0 hn;have hl:=q9y hkb hlow hn;have hcons:=q9z hk hkb hl hb;have htz:=vc2 hkb hlow hk;have h1:(((n:Int)) != 0)=true:=by simp;omega
   have h2:qe7 (n:Int)=some (k:Int):=by
    simp only [qe7];rw [if_pos (by omega),vtv,htz]
   have h3:qdi (out.length+1) 8=true:=qt1 (by omega);have h4:vsi.wrap ((n:Int) - 1)=((n - 1:Nat):Int):=by
    have:(n:Int) - 1=((n - 1:Nat):Int):=by omega
    rw [this,qz9,Nat.mod_eq_of_lt (by omega)]
   have h5:=q9w (a:=n) (b:=n - 1) hn (by omega);rw [hcons,vsv] at ho;rw [qbd (s':=(((n &&& (n - 1):Nat):Int),out++[(k:Int)])) (by simp only [qev,h1,if_true,h2,vrv,h3,h4,h5])];rw [ih _ hlt _ (by omega) (by rw [vql,vs2];omega),hcons];simp
theorem qt6 {n:Nat} (hn:n < 4294967296):qfh (n:Int)=some ((qi6 n).map fun (k:Nat)=>(k:Int)):=by
 have:=qqd n;simp only [qfh,q0c n [] hn (by simp;omega),vrv,vq2]
end Go.Proofs.YtfnmcjkkfnhpnaaGreatDoor
namespace Go.Ab
open Go
def numB (u:Nat):List UInt8:=[56,48,40,32,24,16,8,0].map fun s=>UInt8.ofNat (u / 2 ^ s)
def escB:List UInt8→List UInt8
 | []=>[]
 | c :: s=>if c=0 then 0 :: 255 :: escB s else c :: escB s
end Go.Ab
namespace Go.Proofs.YtfnmcjkkfnhpnaaGreatDoor
open Go Go.Ab
def vov (n:Int):Nat:=(n+9223372036854775808).toNat
def keyV (v:Value):List UInt8:=UInt8.ofNat v.Kind.toNat :: (if v.Kind=1∨v.Kind=3 then numB (vov v.Num) else if v.Kind=2 then escB v.Str++[0,1] else [])
def numOk (v:Value):Prop:=-9223372036854775808≤v.Num∧v.Num≤9223372036854775807
end Go.Proofs.YtfnmcjkkfnhpnaaGreatDoor
namespace Go.Ab
open Go
end Go.Ab
namespace Go.Proofs.YtfnmcjkkfnhpnaaGreatDoor
open Go Go.Ab
end Go.Proofs.YtfnmcjkkfnhpnaaGreatDoor
namespace Go.Ab
open Go
def comm {α:Type} (lt:α→α→Bool):List α→List α→Nat
 | [],_=>0
 | _ :: _,[]=>0
 | a :: u,b :: v=>if lt a b then comm lt u (b :: v) else if lt b a then comm lt (a :: u) v else comm lt u v+1
termination_by l r=>l.length+r.length
end Go.Ab
namespace Go.Proofs.YtfnmcjkkfnhpnaaGreatDoor
open Go Go.Ab
abbrev Str:=List UInt8
def lexN (x y:Nat):Prop:=q3n x < q3n y∨(q3n x=q3n y∧x < y)
instance (x y:Nat):Decidable (lexN x y):=by unfold lexN;exact inferInstance
def qt7 (n:Int) (l:List Int):Bool:=decide (l.length≤8) && l.all fun a=>decide (0≤a) && decide (a < n)
def qj6 (n:Int) (d:OD):Bool:=qt7 n d.Lhs && qt7 n d.Rhs
theorem q90 (n:Int) (l:List Int) (hl:l.length≤1073741824):qgz n l=some (qt7 n l):=by
 have h:=qj5 l (fun y=>qfi y n) (fun a=>decide (a < 0) || decide (n≤a)) (fun x _=>by
  simp only [qfi];by_cases h:x < 0 <;> simp [h]) hl
 simp only [qgz,h,vrv,qt7];by_cases hc:(l.length:Int)≤8
 ·rw [if_pos hc,decide_eq_true (show l.length≤8 by omega),vuj];congr 1;rw [vuf];simp only [vpu,vux,vsn,vpv,decide_eq_true_eq,vpq,not_or];exact ⟨fun h x hx=>by have:=h x hx;omega,fun h x hx=>by have:=h x hx;omega⟩
 ·rw [if_neg hc,decide_eq_false (show ¬l.length≤8 by omega)];rfl
theorem q34 (n:Int) (d:OD) (h1:d.Lhs.length≤1073741824) (h2:d.Rhs.length≤1073741824):qge n d=some (qj6 n d):=by
 simp only [qge,q90 n _ h1,q90 n _ h2,vrv,qj6];cases qt7 n d.Lhs <;> simp
def vk5 (a:Row) (l:List Int):Prop:=∀i∈l,0≤i∧i < (a.Values.length:Int)
theorem q35 {a:Row} {l:List Int} (h:vk5 a l) {i:Int} (hi:i∈l):idx a.Values i=some (qik a i.toNat):=by
 obtain ⟨h1,h2⟩:=h i hi;have hg:a.Values[i.toNat]?=some (qik a i.toNat):=by
  have hlt:i.toNat < a.Values.length:=by omega
  simp [qik,vu6,vqd hlt]
 have:=qae hg
 rwa [Int.toNat_of_nonneg h1] at this
def vow (a:Row):Prop:=∀v∈a.Values,v.Str.length≤1073741824
def qt8 (a b:Row):List Int→Int
 | []=>0
 | i :: l=>if qx3 (qik a i.toNat) (qik b i.toNat)≠0 then qx3 (qik a i.toNat) (qik b i.toNat) else qt8 a b l
theorem qwk (a b:Row):∀l:List Int,qvf (fun (_:Unit) i=>if qx3 (qik a i.toNat) (qik b i.toNat)≠0 then Sum.inr (Sum.inr (qx3 (qik a i.toNat) (qik b i.toNat)):Unit ⊕ Int) else Sum.inl ()) (fun _=>Sum.inl ()) l ()=if qt8 a b l≠0 then .inr (qt8 a b l) else .inl ()
 | []=>rfl
 | i :: l=>by
  simp only [qvf,qt8];by_cases h:qx3 (qik a i.toNat) (qik b i.toNat)≠0
  ·simp [h]
  ·simp only [if_neg h];exact qwk a b l
theorem qwl (a b:Row) (l:List Int) (ha:vk5 a l) (hb:vk5 b l) (hl:l.length≤1073741824):qen a b l=some (qt8 a b l):=by
 have h:=qq8 l (fun (_:Unit) i=>i) (qdb a b l) (fin:=fun _=>Sum.inl ()) (I:=fun _ _=>True) (b0:=()) (s0:=0) rfl trivial
  (f:=fun (_:Unit) i=>if qx3 (qik a i.toNat) (qik b i.toNat)≠0 then Sum.inr (Sum.inr (qx3 (qik a i.toNat) (qik b i.toNat)):Unit ⊕ Int) else Sum.inl ())
  (fun k u i hx hk _=>by
   have hm:=vqx hx;have e:qdb a b l (k:Int)=if (qx3 (qik a i.toNat) (qik b i.toNat) != 0)=true then some (.done (.inr (qx3 (qik a i.toNat) (qik b i.toNat)))) else some (.next ((k+1:Nat):Int)):=by
    simp only [qdb,if_pos (qak hx),qae hx,q35 ha hm,q35 hb hm,qi5,vrv,qbo hk (show l.length≤4611686018427387904 by omega)]
   rw [e];by_cases h0:qx3 (qik a i.toNat) (qik b i.toNat)=0
   ·simp [h0]
   ·simp [h0])
  (fun _ _=>by simp [qdb])
 rw [qwk] at h;simp only [qen,h,vrv];by_cases h0:qt8 a b l=0 <;> simp [h0]
theorem qt9 (a b:Int):sgn a b=-1∨sgn a b=0∨sgn a b=1:=by
 unfold sgn;by_cases h:a < b
 ·simp [h]
 ·by_cases k:b < a <;> simp [h,k]
theorem qwm:∀a b:List UInt8,q63 a b=-1∨q63 a b=0∨q63 a b=1
 | [],[]=>by simp [q63]
 | [],_ :: _=>by simp [q63]
 | _ :: _,[]=>by simp [q63]
 | x :: a,y :: b=>by
  simp only [q63];by_cases h:x=y
  ·rw [if_pos h];exact qwm a b
  ·rw [if_neg h];exact qt9 _ _
theorem q6b (a b:Value):qx3 a b=-1∨qx3 a b=0∨qx3 a b=1:=by
 unfold qx3;split
 · exact qt9 _ _
 split
 · exact qt9 _ _
 exact qwm _ _
theorem qrc (a b:Row):∀l:List Int,qt8 a b l=-1∨qt8 a b l=0∨qt8 a b l=1
 | []=>by simp [qt8]
 | i :: l=>by
  simp only [qt8];split
  ·exact q6b _ _
  ·exact qrc a b l
def q0d (a b:Row) (d:OD):Int:=if qt8 a b d.Lhs=0∧qt8 a b d.Rhs≠0 then 1 else if qt8 a b d.Lhs * qt8 a b d.Rhs < 0 then 2 else 0
structure FitsD (a:Row) (d:OD):Prop where
 lhs:vk5 a d.Lhs
 rhs:vk5 a d.Rhs
structure LenD (d:OD):Prop where
 lhs:d.Lhs.length≤1073741824
 rhs:d.Rhs.length≤1073741824
theorem vc3 (a b:Row) (d:OD):vsg.wrap (qt8 a b d.Lhs * qt8 a b d.Rhs)=qt8 a b d.Lhs * qt8 a b d.Rhs:=by
 rcases qrc a b d.Lhs with h | h | h <;> rcases qrc a b d.Rhs with k | k | k <;> rw [h,k] <;> rfl
theorem vir (a b:Row) (d:OD) (ha:FitsD a d) (hb:FitsD b d) (hl:LenD d):qid a b d=some (q0d a b d):=by
 simp only [qid,qwl a b _ ha.lhs hb.lhs hl.lhs,qwl a b _ ha.rhs hb.rhs hl.rhs,vrv,vc3,q0d];by_cases h:qt8 a b d.Lhs=0
 ·by_cases k:qt8 a b d.Rhs=0 <;> simp [h,k]
 ·by_cases k:qt8 a b d.Lhs * qt8 a b d.Rhs < 0 <;> simp [h,k]
def q6c (d:OD) (a:Row) (out:List (List Int)) (b:Row):List (List Int):=if (q0d a b d != 0)=true then out++[[a.ID,b.ID]] else out
def qvi (d:OD) (a:Row) (l:List Row):List (List Int):=(l.filter fun b=>q0d a b d != 0).map fun b=>[a.ID,b.ID]
def q0e (d:OD):List Row→List (List Int)
 | []=>[]
 | a :: r=>qvi d a r++q0e d r
theorem qwn (d:OD) (a:Row):∀(l:List Row) (out:List (List Int)),l.foldl (q6c d a) out=out++qvi d a l
 | [],out=>by simp [qvi]
 | b :: l,out=>by
  rw [vu5,qwn d a l];unfold q6c qvi;by_cases h:(q0d a b d != 0)=true
  ·rw [if_pos h,vuz,if_pos h];simp
  ·rw [if_neg h,vuz,if_neg h]
theorem q91 (d:OD) (a:Row) (out:List (List Int)) (b:Row):(q6c d a out b).length≤out.length+1:=by unfold q6c;split <;> simp
theorem q0f (d:OD) (a:Row) (l:List Row):(qvi d a l).length≤l.length:=by
 unfold qvi;rw [vqn];exact vsx _ _
theorem q0g (d:OD):∀l:List Row,(q0e d l).length≤l.length * l.length
 | []=>vrj _
 | a :: r=>by
  simp only [q0e,vql,vsv];have h1:=q0f d a r;have h2:=q0g d r;have:(r.length+1) * (r.length+1)=r.length * r.length+2 * r.length+1:=by
   rw [Nat.add_mul,Nat.mul_add];omega
  omega
theorem drop_take {α:Type} (l:List α) (n:Nat):(l.drop n).take (l.length - n)=l.drop n:=by
 apply vq9;rw [vqm];exact vrj _
theorem q0h (k:Nat):((k:Int)).toNat=k:=vtv k
structure RowsD (rows:List Row) (d:OD):Prop where
 len:rows.length≤1000
 fits:∀r∈rows,FitsD r d
 short:∀r∈rows,vow r
 lenD:LenD d
theorem q6d (t:Table) (d:OD) (H:RowsD t.Rows d) (k:Nat) (a:Row) (hk:t.Rows[k]?=some a) (out:List (List Int)) (ho:out.length≤1000000) :
  qal (qb7 t d k a) (out,0)=some (out++qvi d a (t.Rows.drop (k+1))):=by
 have hkl:=qcr hk;have hlen:=H.len;have h:=qe5 (t.Rows.drop (k+1)) (fun (o:List (List Int)) i=>(o,i)) (qb7 t d k a) (q6c d a) id (fun j o=>o.length≤out.length+j) (b0:=out) (s0:=(out,0)) rfl (vrj _)
  (fun j o b hx hj hI=>by
   refine ⟨?_,vrl (q91 d a o b) (by omega)⟩;have hb:b∈t.Rows:=List.mem_of_mem_drop (vqx hx);have ha:a∈t.Rows:=vqx hk;have hjl:j < 1000:=by rw [vqm] at hj;omega
   simp only [qb7,wqn k,q0h,drop_take,if_pos (qak hx),qae hx,vrv,vir a b d (H.fits a ha) (H.fits b hb) H.lenD,wqn j,q6c];by_cases hm:(q0d a b d != 0)=true
   ·simp [hm,qdv (show o.length+1≤1073741824 by omega) (show 24≤65536 by omega)]
   ·simp [hm])
  (fun o _=>by
   simp only [qb7,wqn k,q0h,drop_take];simp)
 rw [h,id,qwn]
theorem qwo (t:Table) (d:OD) (H:RowsD t.Rows d):∀(r:List Row) (k:Nat) (out:List (List Int)),t.Rows.drop k=r→k≤t.Rows.length→out.length≤k * 1000 →
  qal (qb8 t d) (out,(k:Int))=some (out++q0e d r)
 | [],k,out,hd,hk,ho=>by
  have:k=t.Rows.length:=by have:=congrArg vue hd;simp at this;omega
  subst this;exact qat (by simp [qb8,q0e])
 | a :: r,k,out,hd,hk,ho=>by
  have hx:t.Rows[k]?=some a:=by
   have:=congrArg (·[0]?) hd;simpa [vqc] using this
  have hkl:=qcr hx;have hlen:=H.len;have hd':t.Rows.drop (k+1)=r:=by rw [←vuc,hd];rfl
  have hin:=q6d t d H k a hx out (by omega);rw [hd'] at hin;have hrl:r.length≤1000:=by rw [←hd',vqm];omega
  have hstep:qb8 t d (out,(k:Int))=some (.next (out++qvi d a r,((k+1:Nat):Int))):=by
   simp only [qb8,if_pos (qak hx),qae hx,vrv,wqn k,if_pos (show (0:Int)≤((k+1:Nat):Int) by omega),if_pos (show ((k+1:Nat):Int)≤(t.Rows.length:Int) by omega),hin]
  rw [qbd hstep,qwo t d H r (k+1) (out++qvi d a r) hd' hkl (by have:=q0f d a r;rw [vql];omega)];simp [q0e]
def qua (t:Table) (d:OD):Int:=if qcv t≠0 then qcv t else if qj6 t.Attrs.length d=true then 0 else 1
theorem vc4 (t:Table) (d:OD) (H:TableOk t) (hl:LenD d) (f:Int→Option Bool) (hf:f (t.Attrs.length:Int)=some (qj6 t.Attrs.length d)):qhd t f=some (qua t d):=by
 simp only [qhd,qg5 t H,vrv,hf,qua];by_cases h:qcv t=0
 ·simp only [h,bne_self_eq_false,vps,if_false,ne_eq,not_true_eq_false];cases qj6 t.Attrs.length d <;> simp
 ·simp [h]
theorem qk3:∀(n:Nat) (a:Int) (l:List Row),qee n a l=0→(∀r∈l,r.Values.length=n∧r.Values.all qob=true∧a < r.ID)∧l.Pairwise (fun x y=>x.ID < y.ID)
 | n,a,[],_=>⟨fun r hr=>(by cases hr),vus.nil⟩
 | n,a,x :: l,h=>by
  simp only [qee] at h;by_cases h1:x.ID≤a
  ·simp [h1] at h
  by_cases h2:x.Values.length≠n
  ·simp [h1,h2] at h
  by_cases h3:x.Values.all qob=true
  ·rw [if_neg h1,if_neg h2,if_pos h3] at h;obtain ⟨k1,k2⟩:=qk3 n x.ID l h;refine ⟨fun r hr=>?_,vus.cons (fun y hy=>(k1 y hy).2.2) k2⟩;rcases vty.1 hr with rfl | hr
   ·exact ⟨by omega,h3,by omega⟩
   ·have:=k1 r hr;exact ⟨this.1,this.2.1,by omega⟩
  ·rw [if_neg h1,if_neg h2,if_neg h3] at h;cases h
theorem qrx {t:Table} (h:qcv t=0):t.Attrs.length≤16∧t.Rows.length≤1000∧qee t.Attrs.length 0 t.Rows=0:=by
 unfold qcv at h;by_cases h1:qra t.Name=false
 ·simp [h1] at h
 by_cases h2:t.Attrs.length > 16
 ·rw [if_neg h1,if_pos h2] at h;cases h
 by_cases h3:t.Rows.length > 1000
 ·rw [if_neg h1,if_neg h2,if_pos h3] at h;cases h
 by_cases h4:qt5 t.Attrs=false
 ·rw [if_neg h1,if_neg h2,if_neg h3,if_pos h4] at h;cases h
 rw [if_neg h1,if_neg h2,if_neg h3,if_neg h4] at h;exact ⟨by omega,by omega,h⟩
theorem q6e {t:Table} {d:OD} (h:qua t d=0):qcv t=0∧qj6 t.Attrs.length d=true:=by
 unfold qua at h;by_cases h1:qcv t≠0
 ·rw [if_pos h1] at h;exact absurd h h1
 ·rw [if_neg h1] at h;by_cases h2:qj6 t.Attrs.length d=true
  ·exact ⟨by omega,h2⟩
  ·rw [if_neg h2] at h;cases h
theorem q92 {n:Nat} {l:List Int} {a:Row} (h:qt7 n l=true) (ha:a.Values.length=n):vk5 a l:=by
 intro i hi;simp only [qt7,vpq,vsn,decide_eq_true_eq] at h;have:=h.2 i hi;omega
theorem vc5 {t:Table} {d:OD} (h:qua t d=0) (H:TableOk t) (hl:LenD d):RowsD t.Rows d:=by
 obtain ⟨h1,h2⟩:=q6e h;obtain ⟨_,h3,h4⟩:=qrx h1;simp only [qj6,vpq] at h2;exact ⟨h3,fun r hr=>⟨q92 h2.1 ((qk3 _ _ _ h4).1 r hr).1,q92 h2.2 ((qk3 _ _ _ h4).1 r hr).1⟩,fun r hr=>H.short r hr,hl⟩
theorem qx5 (t:Table) (d:OD) (H:TableOk t) (hl:LenD d):qdc t d=some (if qua t d=0 then (q0e d t.Rows,0) else ([],qua t d)):=by
 simp only [qdc,vc4 t d H hl (fun y=>qbv y d) (show qbv (t.Attrs.length:Int) d=_ by simp only [qbv,q34 _ d hl.lhs hl.rhs,vrv]),vrv];by_cases h:qua t d=0
 ·have:=qwo t d (vc5 h H hl) t.Rows 0 [] rfl (vtq _) (vtq _);simp only [h,bne_self_eq_false,vps,if_false,if_true];rw [show (0:Int)=((0:Nat):Int) from rfl,this];rfl
 ·simp [h]
def vfb (d:OD):List Row→Option (Row×Row)
 | []=>none
 | a :: r=>match r.find? (fun b=>q0d a b d != 0) with
  | some b=>some (a,b)
  | none=>vfb d r
def vox (t:Table) (d:OD):Int×Int×Int×Bool :=
 if qua t d=0 then match vfb d t.Rows with | some (a,b)=>(a.ID,b.ID,q0d a b d,true) | none=>(0,0,0,false) else (0,0,0,false)
def hasB (s i:Int):Bool:=(vsi.wrap ((BitVec.ofInt 32 (vt9 s (2 ^ (min i.toNat 32))) &&& (1#32)).toNat:Int)) == 1
def mx (a b:Int):Int:=if b > a then b else a
theorem q0i {n:Int} {l:List Int} (h:qt7 n l=true):l.length≤8∧∀z∈l,0≤z∧z < n:=by
 simp only [qt7,vpq,decide_eq_true_eq,vsn] at h;exact h
theorem qub {α:Type} (p:Nat→α→Bool):∀(l:List α) (k:Nat),qgx p k l=true↔∀(j:Nat) (x:α),l[j]?=some x→p (k+j) x=true
 | [],k=>by simp [qgx]
 | y :: r,k=>by
  simp only [qgx,vpq,qub p r (k+1)];constructor
  ·rintro ⟨h1,h2⟩ j x hx;cases j with
   | zero=>simp at hx;subst hx;exact h1
   | succ j =>
    have:=h2 j x (by simpa using hx)
    rwa [Nat.add_assoc,Nat.add_comm 1] at this
  ·intro h;refine ⟨h 0 y rfl,fun j x hx=>?_⟩;have:=h (j+1) x (by simpa using hx)
   rwa [Nat.add_assoc,Nat.add_comm 1]
theorem q0j {α:Type} [DecidableEq α] (a b:List α) (h:a.length=b.length):qgx (fun k x=>decide (b[k]?=some x)) 0 a=decide (a=b):=by
 rw [vuf,qub,decide_eq_true_eq];simp only [vru,decide_eq_true_eq];constructor
 ·intro hh;apply vp7 ;intro i;by_cases hi:i < a.length
  ·rw [vqd hi];exact (hh i _ (vqd hi)).symm
  ·rw [vqe (by omega),vqe (by omega)]
 ·rintro rfl j x hx;exact hx
theorem qoq (l:List Int) (h:l.length≤1073741824):qex l=some l:=by
 unfold qex;rw [if_pos (qdv (by omega) (by omega))]
structure KR (t:Table) (rows:List Row) (rules:List Int):Prop where
 ok:RowsOk rows
 ne:rows≠[]
 err:qt2 rows=0
 okr:q3y 0 rows=true
 lens:∀r∈rows,r.Values.length=t.Attrs.length
theorem q93 {α:Type} [DecidableEq α] (a b:List α) (h:a.length=b.length) {B:Int→Option (LS Int (Unit ⊕ Bool))}
  (hB:∀(k:Nat) x y,a[k]?=some x→b[k]?=some y→B (k:Int)=if decide (x=y)=true then some (.next ((k+1:Nat):Int)) else some (.done (.inr false)))
  (hE:B (a.length:Int)=some (.done (.inl ()))):qal B 0=some (if decide (a=b) then .inl () else .inr false):=by
 have hl:=qq9 a B (fun k x=>decide (b[k]?=some x)) false
  (fun k x hx hk hp=>by
   simp only [decide_eq_true_eq] at hp;rw [hB k x x hx hp];simp)
  (fun k x hx hp=>by
   have hk:=qcr hx;have hb:b[k]?=some (b[k]'(by omega)):=vqd (by omega);rw [hb] at hp;simp only [Option.some.injEq,decide_eq_false_iff_not] at hp;rw [hB k x _ hx hb,if_neg];simp only [decide_eq_true_eq];exact fun e=>hp e.symm) hE a 0 rfl (vtq _)
 simp only [vum,q0j a b h] at hl;exact hl
theorem qor (a b:List Int) (ha:a.length≤1073741824):qdr a b=some (decide (a=b)):=by
 simp only [qdr];by_cases h:a.length=b.length
 ·have e:¬(((a.length:Int) != (b.length:Int))=true):=by simp [h]
  rw [if_neg e,q93 a b h (fun k x y hx hy=>by
   have hk:=qcr hx;simp only [qez,if_pos (qak hx),qae hx,qae hy,vrv,qbo hk (show a.length≤4611686018427387904 by omega)];by_cases hxy:x=y <;> simp [hxy]) (by simp [qez])]
  by_cases hab:a=b <;> simp [hab]
 ·have e:(((a.length:Int) != (b.length:Int))=true):=by rw [bne_iff_ne];omega
  rw [if_pos e];have:a≠b:=fun hh=>h (by rw [hh])
  simp [this]
def hd (l:List (List Int)) (i:Nat):Int:=(l.getD i []).headD 0
theorem quc (n:Nat):∀(l:List Row) (a:Int),(∀r∈l,a < r.ID∧r.Values.length=n∧r.Values.all qob=true)→l.Pairwise (fun r q=>r.ID < q.ID)→qee n a l=0
 | [],_,_,_=>rfl
 | r :: l,a,h,hp=>by
  obtain ⟨h1,h2,h3⟩:=h r (by simp);rw [vve] at hp;simp only [qee];rw [if_neg (by omega),if_neg (by simp [h2]),if_pos h3];exact quc n l r.ID (fun q hq=>⟨hp.1 q hq,(h q (by simp [hq])).2⟩) hp.2
theorem q0k {α:Type} {B:List α×Int→Option (LS (List α×Int) (List α))} (N:Nat) (f:Nat→α)
  (hB:∀(k:Nat) (out:List α),k < N→out.length=k→B (out,(k:Int))=some (.next (out++[f k],((k+1:Nat):Int))))
  (hE:∀out:List α,B (out,(N:Int))=some (.done out)):qal B ([],0)=some ((vq3 N).map f):=by
 have key:∀(r k:Nat) (out:List α),k+r=N→out.length=k→qal B (out,(k:Int))=some (out++(List.range' k r).map f):=by
  intro r
  induction r with
  | zero =>
   intro k out hk ho;have:k=N:=by omega
   subst this;rw [qat (hE out)];simp
  | succ r ih =>
   intro k out hk ho;rw [qbd (hB k out (by omega) ho),ih (k+1) _ (by omega) (by simp [ho])];simp [vvi]
 have h:=key N 0 [] (by omega) rfl;simp only [vum,vq2] at h;rw [h,vq4]
theorem vis (c:Int):∃v,qch c=some v∧qob v=true∧v.Str.length≤2:=by
 unfold qch;by_cases h0:(vua c 12 == 0)=true
 ·rw [if_pos h0];exact ⟨_,rfl,by decide,by decide⟩
 rw [if_neg h0];by_cases h1:(vua c 12 == 1)=true
 ·rw [if_pos h1];exact ⟨_,rfl,by decide,by decide⟩
 rw [if_neg h1];by_cases h2:(vua c 12 == 2)=true
 ·rw [if_pos h2];exact ⟨_,rfl,by decide,by decide⟩
 rw [if_neg h2];by_cases h3:(vua c 12 == 3)=true
 ·rw [if_pos h3];exact ⟨_,rfl,by decide,by decide⟩
 rw [if_neg h3];by_cases h4:(vua c 12 == 4)=true
 ·rw [if_pos h4];exact ⟨_,rfl,by decide,by decide⟩
 rw [if_neg h4];by_cases h5:(vua c 12 == 5)=true
 ·rw [if_pos h5];exact ⟨_,rfl,by decide,by decide⟩
 rw [if_neg h5];by_cases h6:(vua c 12 == 6)=true
 ·rw [if_pos h6];exact ⟨_,rfl,by decide,by decide⟩
 rw [if_neg h6];by_cases h7:(vua c 12 == 7)=true
 ·rw [if_pos h7];exact ⟨_,rfl,by decide,by decide⟩
 rw [if_neg h7];by_cases h8:(vua c 12 == 8)=true
 ·rw [if_pos h8];exact ⟨_,rfl,by decide,by decide⟩
 rw [if_neg h8];by_cases h9:(vua c 12 == 9)=true
 ·rw [if_pos h9];exact ⟨_,rfl,by decide,by decide⟩
 rw [if_neg h9];by_cases h10:(vua c 12 == 10)=true
 ·rw [if_pos h10];exact ⟨_,rfl,by decide,by decide⟩
 rw [if_neg h10];exact ⟨_,rfl,by decide,by decide⟩
def ofV (c:Int):Value:=(qch c).getD ⟨0,0,[]⟩
theorem qqe (c:Int):qch c=some (ofV c)∧qob (ofV c)=true∧(ofV c).Str.length≤2:=by
 obtain ⟨v,h1,h2,h3⟩:=vis c;have:ofV c=v:=by unfold ofV;rw [h1];rfl
 rw [this];exact ⟨h1,h2,h3⟩
def voy (x:Drossref03_Recipe) (i k:Nat):Value:=ofV (((x.Rows.getD i []).getD k 0))
def qoc (x:Drossref03_Recipe):Nat:=1+x.Gap.toNat % 3
def q36 (x:Drossref03_Recipe) (n i:Nat):Row:=⟨((1+i * qoc x:Nat):Int),(vq3 n).map (voy x i)⟩
def qlw:List (List UInt8):=[[97],[98],[99],[100],[101],[102],[103],[104]]
def q37 (x:Drossref03_Recipe) (n:Nat):Table:=⟨[114],qlw.take n,(vq3 x.Rows.length).map (q36 x n)⟩
theorem q6f (x:Drossref03_Recipe) (n i:Nat) (hn:n≤8) (hi:i < x.Rows.length) (hl:∀r∈x.Rows,r.length≤1048576) :
  qal (qeq x (n:Int) (i:Int)) ([],0)=some ((vq3 n).map (voy x i)):=by
 have hx:x.Rows[i]?=some (x.Rows.getD i []):=by simp [vu6,vqd hi]
 have hxl:=hl _ (vqx hx);refine q0k n (voy x i) (fun k out hk ho=>?_) (fun out=>by simp [qeq]);have hk':((k:Int) < (n:Int)):=by omega
 have hroom:qdi (out.length+1) 32=true:=qdv (by omega) (by omega);have hw:=qdl (k:=k) (by omega);simp only [qeq,if_pos hk',qae hx,vrv];by_cases h:k < (x.Rows.getD i []).length
 ·have h':((k:Int) < ((x.Rows.getD i []).length:Int)):=by omega
  have hg:(x.Rows.getD i [])[k]?=some ((x.Rows.getD i []).getD k 0):=by
   generalize x.Rows.getD i []=l at h;simp [vu6,vqd h]
  simp only [if_pos h',qae hg,vrv,(qqe _).1,hroom,if_true,hw];rfl
 ·have h':¬((k:Int) < ((x.Rows.getD i []).length:Int)):=by omega
  have hg:(x.Rows.getD i []).getD k 0=0:=by
   generalize x.Rows.getD i []=l at h;simp [vu6,vqe (show l.length≤k by omega)]
  simp only [if_neg h',(qqe _).1,vrv,hroom,if_true,hw];unfold voy;rw [hg]
theorem vit (x:Drossref03_Recipe) (n:Nat) (hn:n≤8) (hr:x.Rows.length≤8) (hl:∀r∈x.Rows,r.length≤1048576) (hg:0≤x.Gap∧x.Gap≤255):qgp x (n:Int)=some (q37 x n):=by
 have h1:(0:Int)≤(n:Int):=by omega
 have h2:(n:Int)≤8:=by omega
 have hroom:qdi ((qlw.take n).length) 16=true:=qdv (by simp;omega) (by omega);have ho:qal (qer x (n:Int)) ([],0)=some ((vq3 x.Rows.length).map (q36 x n)):=by
  refine q0k x.Rows.length (q36 x n) (fun i out hi ho=>?_) (fun out=>by simp [qer]);have hi':((i:Int) < (x.Rows.length:Int)):=by omega
  have hroom:qdi (out.length+1) 32=true:=qdv (by omega) (by omega);have hm:vua x.Gap 3=((x.Gap.toNat % 3:Nat):Int):=by
   rw [vun hg.1];omega
  have e1:vsg.wrap (vua x.Gap 3)=((x.Gap.toNat % 3:Nat):Int):=by rw [hm,wrap_i64 (by omega) (by omega)]
  have e2:vsg.wrap (1+vsg.wrap (vua x.Gap 3))=((qoc x:Nat):Int):=by
   rw [e1,wrap_i64 (by omega) (by omega)];unfold qoc;omega
  have hs:qoc x≤3:=by unfold qoc;omega
  have hmul:i * qoc x≤8 * 3:=vvt (by omega) hs;have e3:vsg.wrap ((i:Int) * ((qoc x:Nat):Int))=((i * qoc x:Nat):Int):=by
   rw [←Int.natCast_mul,wrap_i64 (by omega) (by omega)]
  have e4:vsg.wrap (1+vsg.wrap ((i:Int) * vsg.wrap (1+vsg.wrap (vua x.Gap 3))))=((1+i * qoc x:Nat):Int):=by
   rw [e2,e3,wrap_i64 (by omega) (by omega)];omega
  simp only [qer,if_pos hi',q6f x n i hn hi hl,vrv,hroom,if_true,e4,qdl (k:=i) (by omega)];rfl
 simp only [qgp,if_pos h1,if_pos h2,vrv,vtv];have hroom':qdi ((List.take n [[97],[98],[99],[100],[101],[102],[103],[104]]:List (List UInt8)).length) 16=true:=hroom;rw [if_pos hroom',ho];rfl
theorem q94 {n:Nat} (h:n≤8):qt5 (qlw.take n)=true:=by
 have:n=0∨n=1∨n=2∨n=3∨n=4∨n=5∨n=6∨n=7∨n=8:=by omega
 rcases this with rfl | rfl | rfl | rfl | rfl | rfl | rfl | rfl | rfl <;> decide
theorem q6g (x:Drossref03_Recipe) (n:Nat) (hn:n≤8) (hr:x.Rows.length≤8):qcv (q37 x n)=0:=by
 have h1:¬(qra [114]=false):=by decide
 have hlen:(qlw.take n).length=n:=by simp [qlw];omega
 have h2:¬(qlw.take n).length > 16:=by omega
 have h3:¬((vq3 x.Rows.length).map (q36 x n)).length > 1000:=by simp;omega
 have h4:¬(qt5 (qlw.take n)=false):=by rw [q94 hn];simp
 have hc:qee (qlw.take n).length 0 ((vq3 x.Rows.length).map (q36 x n))=0:=by
  refine quc _ _ _ (fun r hr=>?_) ?_
  ·obtain ⟨i,hi,rfl⟩:=vtb.1 hr;refine ⟨by simp only [q36];omega,by simp only [q36,vqn,vsz];omega,?_⟩;rw [vsn];intro v hv;obtain ⟨k,hk,rfl⟩:=vtb.1 hv;exact (qqe _).2.1
  ·rw [vvg];refine vus.imp ?_ List.pairwise_lt_range;intro a b hab;simp only [q36];have hs:1≤qoc x:=by unfold qoc;omega
   have:(a+1) * qoc x≤b * qoc x:=vrq _ hab;rw [Nat.add_mul,Nat.one_mul] at this;omega
 show (if qra [114]=false then (1:Int) else if (qlw.take n).length > 16 then 3 else if ((vq3 x.Rows.length).map (q36 x n)).length > 1000 then 3 else if qt5 (qlw.take n)=false then 1 else qee (qlw.take n).length 0 ((vq3 x.Rows.length).map (q36 x n)))=0;rw [if_neg h1,if_neg h2,if_neg h3,if_neg h4];exact hc
theorem qnq {n:Int} (h:okI .u8 n):0≤n∧n≤255:=by
 have h':(decide (vup .u8≤n) && decide (n≤vuo .u8))=true:=h;simp only [vpq,decide_eq_true_eq] at h';have e1:vup .u8=0:=by decide
 have e2:vuo .u8=255:=by decide
 rw [e1,e2] at h';exact h'
def vc6 (n:Nat) (l:List Int):List Int:=if n=0 then [] else (l.take 5).map fun c=>c % (n:Int)
theorem q6h {c:Int} (h:0≤c∧c≤255):vsg.wrap c=c:=wrap_i64 (by omega) (by omega)
theorem qwp (n:Nat) (l:List Int) (hl:l.length≤1048576) (h:∀c∈l,0≤c∧c≤255):qcs (n:Int) l=some (vc6 n l):=by
 by_cases hn:n=0
 ·subst hn;have:qal (qbu ((0:Nat):Int) l) ([],0)=some []:=by
   refine qat ?_;simp only [qbu];by_cases h1:(0:Int) < (l.length:Int)
   ·simp [h1]
   ·simp [h1]
  simp only [qcs,this,vrv,vc6,if_true]
 ·have h1:=qe5 (l.take 5) (fun (o:List Int) i=>(o,i)) (qbu (n:Int) l) (fun o c=>o++[c % (n:Int)]) id (fun k o=>o.length=k) (b0:=[]) (s0:=([],0)) rfl rfl
   (fun k o c hx hk hI=>by
    have hk5:k < 5:=by rw [vqr] at hk;omega
    have hx':l[k]?=some c:=by rw [vqj,if_pos hk5] at hx;exact hx
    have hc:=h c (vqx hx');refine ⟨?_,by simp [hI]⟩;simp only [qbu,if_pos (qak hx'),if_pos (show (k:Int) < 5 by omega),if_pos (show (n:Int) > 0 by omega),if_neg (show ¬(n:Int)=0 by omega),qae hx',vrv,q6h hc,qdv (show o.length+1≤1073741824 by omega) (show 8≤65536 by omega),if_true,wqn k,vun hc.1])
   (fun o hI=>by
    rw [vqr] at hI ⊢;simp only [qbu,id];by_cases h5:l.length≤5
    ·rw [if_neg (by omega)]
    ·rw [if_pos (by omega),if_neg (by omega)])
  simp only [qcs,h1,vrv,vc6,if_neg hn,id];have:∀(l:List Int) (o:List Int),l.foldl (fun o c=>o++[c % (n:Int)]) o=o++l.map fun c=>c % (n:Int):=by
   intro l
   induction l with
   | nil=>intro o;simp
   | cons c l ih=>intro o;rw [vu5,ih];simp
  rw [this];rfl
def ofL (n:Nat) (x:Drossref17_Lists):OD:=⟨vc6 n x.X,vc6 n x.Y⟩
theorem q95 {l:List Int} (h:okL (okI .u8) l):∀c∈l,0≤c∧c≤255:=fun c hc=>qnq (h.2 c hc)
theorem viu (n:Nat) (x:Drossref17_Lists) (h:qgj x):qh6 (n:Int) x=some (ofL n x):=by
 simp only [qh6,qwp n x.X h.1.1 (q95 h.1),qwp n x.Y h.2.1 (q95 h.2),vrv,ofL]
theorem q38 (n:Nat) (l:List Int):(vc6 n l).length≤5:=by
 unfold vc6;split
 ·simp
 ·rw [vqn,vqr];omega
theorem q39 (n:Nat) (l:List Int):∀z∈vc6 n l,0≤z∧z < (n:Int):=by
 intro z hz;unfold vc6 at hz;split at hz
 ·cases hz
 ·rename_i hn;obtain ⟨c,_,rfl⟩:=vtb.1 hz;exact ⟨Int.emod_nonneg _ (by omega),Int.emod_lt_of_pos _ (by omega)⟩
theorem q4a {n:Int} {l:List Int} (h1:l.length≤8) (h2:∀z∈l,0≤z∧z < n):qt7 n l=true:=by
 simp only [qt7,vpq,decide_eq_true_eq,vsn];exact ⟨h1,h2⟩
theorem q96 (n:Nat) (x:Drossref17_Lists):qj6 n (ofL n x)=true:=by
 simp only [qj6,vpq];exact ⟨q4a (vrl (q38 _ _) (by omega)) (q39 _ _),q4a (vrl (q38 _ _) (by omega)) (q39 _ _)⟩
structure qkl (t:Table):Prop where
 ok:TableOk t
 err:qcv t=0
 attrs:t.Attrs.length≤5
 rows:t.Rows.length≤8
theorem q6i (x:Drossref03_Recipe) (n:Nat) (hn:n≤8) (hr:x.Rows.length≤8):TableOk (q37 x n):=by
 refine ⟨?_,?_,?_,?_⟩
 ·simp only [q37,vqr];omega
 ·simp only [q37,vqn,vsz];omega
 ·intro r h;obtain ⟨i,_,rfl⟩:=vtb.1 h;simp only [q36,vqn,vsz];omega
 ·intro r h v hv;obtain ⟨i,_,rfl⟩:=vtb.1 h;obtain ⟨k,_,rfl⟩:=vtb.1 hv;have:=(qqe ((x.Rows.getD i []).getD k 0)).2.2;unfold voy;omega
theorem q2i (x:Drossref03_Recipe) (hr:x.Rows.length≤8):qkl (q37 x (x.Attrs.toNat % 6)):=by
 refine ⟨q6i _ _ (by omega) hr,q6g _ _ (by omega) hr,?_,?_⟩
 ·simp only [q37,vqr];omega
 ·simp only [q37,vqn,vsz];omega
theorem q6j {t:Table} (G:qkl t) {d:OD} (h:qj6 t.Attrs.length d=true):qua t d=0:=by
 unfold qua;rw [if_neg (by rw [G.err];simp),if_pos h]
theorem qwq {n:Int} {d:OD} (h:qj6 n d=true):LenD d:=by
 simp only [qj6,vpq] at h;have h1:=(q0i h.1).1;have h2:=(q0i h.2).1;exact ⟨by omega,by omega⟩
theorem vc7 {a:Nat} (ha:a < 4294967296) {i:Nat} (hi:i≤32):hasB (a:Int) (i:Int)=a.testBit i:=by
 unfold hasB;rw [vtv];exact vio ha hi
theorem q97 (s a:Int):qgb s a=some (decide (0≤a) && (decide (a < 32) && hasB s a)):=by
 unfold qgb;by_cases h0:a≥0
 ·rw [if_pos h0,decide_eq_true (show 0≤a from h0)];by_cases h1:a < 32
  ·rw [if_pos h1,decide_eq_true h1,if_neg (by omega)];rfl
  ·rw [if_neg h1,decide_eq_false h1];rfl
 ·rw [if_neg h0,decide_eq_false (show ¬0≤a from h0)];rfl
theorem q98 {n:Nat} (h:n≤16):qfc (n:Int)=some ((2 ^ n - 1:Nat):Int):=by
 have hl:=qe5 (vq3 n) (fun (s:Nat) i=>((s:Int),i)) (qes (n:Int)) (fun s k=>s ||| 2 ^ k) (fun s=>(s:Int)) (fun _ s=>s < 4294967296) (b0:=0) (s0:=(0,0)) rfl (by omega)
  (fun k s z hz hk hs=>by
   have hzk:z=k:=by
    have:=(vqf.1 hz).2;simpa using this.symm
   subst hzk;rw [vsz] at hk;refine ⟨?_,vot hs (q32 (by omega))⟩;simp only [qes,if_pos (show (z:Int) < (n:Int) by omega),if_pos (show (z:Int) < 32 by omega),if_neg (show ¬(z:Int) < 0 by omega),wqn z,vtv,vcz (show z < 32 by omega),q31 hs (q32 (show z < 32 by omega))])
  (fun s _=>by rw [vsz];simp [qes])
 simp only [qfc,hl,vrv];congr 2;apply vvq;intro i;have:=vc1 (vq3 n) i;unfold setN at this;rw [this,vv3];congr 1;rw [vtc]
def qjc (p:Row→Row→Bool) (rows:List Row) (i:Nat) (a:Row):Bool:=(rows.take i).all fun b=>p a b
structure GT (t:Table):Prop where
 ok:TableOk t
 err:qcv t=0
 num:∀r∈t.Rows,∀v∈r.Values,numOk v
theorem GT.attrs {t:Table} (h:GT t):t.Attrs.length≤16:=by
 have:=h.err;unfold qcv at this;split at this
 ·cases this
 ·split at this
  ·cases this
  ·omega
theorem GT.rows {t:Table} (h:GT t):t.Rows.length≤1000:=by
 have:=h.err;unfold qcv at this;split at this
 ·cases this
 ·split at this
  ·cases this
  ·split at this
   ·cases this
   ·omega
theorem GT.code {t:Table} (h:GT t):qee t.Attrs.length 0 t.Rows=0:=by
 have:=h.err;unfold qcv at this;split at this
 ·cases this
 ·split at this
  ·cases this
  ·split at this
   ·cases this
   ·split at this
    ·cases this
    ·exact this
def rowN (t:Table) (i:Nat):Row:=t.Rows.getD i ⟨0,[]⟩
def rkey (s:Nat) (r:Row):List UInt8:=(qi6 s).flatMap fun k=>keyV (qik r k)
def qap (t:Table) (p:Nat) (c:List Nat):List (List Nat):=vin (fun i=>rkey p (rowN t i)) c
theorem qpz (a k:Nat):vt9 (a:Int) (2 ^ k)=((a / 2 ^ k:Nat):Int):=by
 have e:(2:Int) ^ k=((2 ^ k:Nat):Int):=by simp
 rw [e];exact (Int.ofNat_fdiv a (2 ^ k)).symm
theorem viv {n:Int} (h:okI .i64 n):-9223372036854775808≤n∧n≤9223372036854775807:=by
 have h':(decide (vup .i64≤n) && decide (n≤vuo .i64))=true:=h;simp only [vpq,decide_eq_true_eq] at h';have e1:vup .i64=-9223372036854775808:=by decide
 have e2:vuo .i64=9223372036854775807:=by decide
 rw [e1,e2] at h';exact h'
theorem gt_of {t:Table} (h:qo9 t) (he:qcv t=0):GT t:=by
 refine ⟨q30 h,he,fun r hr v hv=>?_⟩;exact viv ((h.2.2.2 r hr).2.2 v hv).2.1
def qvj (t:Table) (a:List Row):List (List Row):=(t.Rows.filter fun r=>!(a.any fun x=>x.ID == r.ID)).map fun r=>a++[r]
def q4b (t:Table):Nat→List (List Row)
 | 0=>[[]]
 | k+1=>(q4b t k).flatMap (qvj t)
def q2j (t:Table):Nat→List Row→List (List Row)
 | 0,a=>[a]
 | m+1,a=>(qvj t a).flatMap (q2j t m)
theorem q4c (t:Table):∀(m k:Nat),(q4b t k).flatMap (q2j t m)=q4b t (k+m)
 | 0,k=>by
  have:∀l:List (List Row),l.flatMap (q2j t 0)=l:=by
   intro l
   induction l with
   | nil=>rfl
   | cons a l ih=>rw [vsq,ih];rfl
  rw [this];rfl
 | m+1,k=>by
  have h:=q4c t m (k+1);rw [show k+1+m=k+(m+1) by omega] at h;rw [←h];show _=((q4b t k).flatMap (qvj t)).flatMap (q2j t m);rw [List.flatMap_assoc];rfl
theorem vc8 (t:Table) (m:Nat):q2j t m []=q4b t m:=by
 have:=q4c t m 0;simp only [q4b,vsq,List.flatMap_nil,vp1,vru] at this;exact this
def q6k (out:List (List Int)) (l:List Int):List (List Int):=if l∈out then out else out++[l]
theorem vc9 (out:List (List Int)) (l z:List Int):z∈q6k out l↔z∈out∨z=l:=by
 unfold q6k;by_cases h:l∈out
 ·rw [if_pos h];constructor
  ·intro hz;exact .inl hz
  ·rintro (hz | rfl)
   ·exact hz
   ·exact h
 ·rw [if_neg h];simp
theorem qmf (z:List Int):∀(l out:List (List Int)),z∈l.foldl q6k out↔z∈out∨z∈l
 | [],out=>by simp
 | x :: l,out=>by
  rw [vu5,qmf z l,vc9];simp only [vty,or_assoc]
theorem q6l (out:List (List Int)) (l:List Int) (h:out.Nodup):(q6k out l).Nodup:=by
 unfold q6k;by_cases hm:l∈out
 ·rw [if_pos hm];exact h
 ·rw [if_neg hm,List.nodup_append];refine ⟨h,by simp,?_⟩;intro a ha b hb e;have:b=l:=by simpa using hb
  rw [e,this] at ha;exact hm ha
theorem qnr:∀(l out:List (List Int)),out.Nodup→(l.foldl q6k out).Nodup
 | [],_,h=>h
 | x :: l,out,h=>qnr l _ (q6l out x h)
def viw (l:List Int):Arr3_int64:=⟨l.getD 0 0,l.getD 1 0,l.getD 2 0⟩
theorem vda {n:Nat} (hn:n≤3) {l m:List Int} (hl:l.length=n) (hm:m.length=n) (h:viw l=viw m):l=m:=by
 unfold viw at h;obtain ⟨h0,h1,h2⟩:=Arr3_int64.mk.inj h;apply vp7;intro j;by_cases hj:j < n
 ·have g:∀(q:List Int),q.length=n→q[j]?=some (q.getD j 0):=fun q hq=>by
   simp [vu6,vqd (show j < q.length by omega)]
  rw [g l hl,g m hm];have:j=0∨j=1∨j=2:=by omega
  rcases this with rfl | rfl | rfl
  ·rw [h0]
  ·rw [h1]
  ·rw [h2]
 ·rw [vqe (by omega),vqe (by omega)]
def zeroV:Value:=⟨0,0,[]⟩
def qrd (n vars:Int) (t:Term):Bool:=if t.Var=0 then decide (t.Attr=0) && qob t.Value else decide (0 < t.Var∧t.Var≤vars∧0≤t.Attr∧t.Attr < n) && ((t.Value.Kind == 0) && ((t.Value.Num == 0) && (t.Value.Str == [])))
def qvk (n vars:Int) (a:Atom):Bool:=decide (1≤a.Op∧a.Op≤4) && (qrd n vars a.Left && qrd n vars a.Right)
def q0l (n:Int) (d:Denial):Bool:=decide (1≤d.Vars∧d.Vars≤3∧d.Atoms.length≤20) && d.Atoms.all (qvk n d.Vars)
theorem q0m (n vars:Int) (t:Term):qek n vars t=some (qrd n vars t):=by
 unfold qek qrd;by_cases h:t.Var=0
 ·rw [if_pos (by simpa using h),if_pos h];by_cases h1:t.Attr=0
  ·simp [h1,qla]
  ·simp [h1]
 ·rw [if_neg (by simpa using h),if_neg h];by_cases h1:t.Var > 0
  ·rw [if_pos h1];by_cases h2:t.Var≤vars
   ·rw [if_pos h2];by_cases h3:t.Attr≥0
    ·rw [if_pos h3];by_cases h4:t.Attr < n
     ·rw [if_pos h4];simp [h1,h2,h3,h4]
     ·rw [if_neg h4];simp [h4]
    ·rw [if_neg h3];simp [h3]
   ·rw [if_neg h2];simp [h2]
  ·rw [if_neg h1];simp [h1]
theorem q6m (a:Atom) (n:Int) (d:Denial):qgd a n d=some (!qvk n d.Vars a):=by
 unfold qgd qvk;by_cases h1:a.Op < 1
 ·rw [if_pos h1];simp;omega
 ·rw [if_neg h1];by_cases h2:a.Op > 4
  ·rw [if_pos h2];simp;omega
  ·rw [if_neg h2];have h3:1≤a.Op∧a.Op≤4:=by omega
   simp only [q0m,vrv,h3,and_self,decide_true,vuj];cases qrd n d.Vars a.Left <;> simp
theorem qre (l:List Atom) (f:Atom→Option Bool) (p:Atom→Bool) (hf:∀x∈l,f x=some (p x)) (hl:l.length≤1073741824):qdm l f=some (match l.findIdx? p with | some i=>(i:Int) | none=>-1):=by
 have h:=qg3 l (qbs l f) p
  (fun k x hx hk hp=>by simp [qbs,qak hx,qae hx,hf x (vqx hx),hp,qbo hk (by omega)])
  (fun k x hx hp=>by simp [qbs,qak hx,qae hx,hf x (vqx hx),hp])
  (by simp [qbs])
 simp only [qdm,h,vrv];cases l.findIdx? p <;> rfl
theorem qod (l:List Atom) (f:Atom→Option Bool) (p:Atom→Bool) (hf:∀x∈l,f x=some (p x)) (hl:l.length≤1073741824):qcm l f=some (l.any p):=by
 simp only [qcm,qre l f p hf hl,vrv];exact congrArg some (qhn p l)
theorem qns (l:List Row) (f:Row→Option Bool) (p:Row→Bool) (hf:∀x∈l,f x=some (p x)) (hl:l.length≤1073741824):qay l f=some (l.any p):=by
 simp only [qay,qmr l f p hf hl,vrv];exact congrArg some (qhn p l)
theorem q99 {α:Type} (p:α→Bool) (l:List α):(!l.any fun x=>!p x)=l.all p:=by
 induction l with
 | nil=>rfl
 | cons x l ih=>simp [ih]
theorem q0n (n:Int) (d:Denial) (hl:d.Atoms.length≤1048576):qhs n d=some (q0l n d):=by
 unfold qhs q0l;by_cases h1:d.Vars < 1
 ·rw [if_pos h1];simp;omega
 ·rw [if_neg h1];by_cases h2:d.Vars > 3
  ·rw [if_pos h2];simp;omega
  ·rw [if_neg h2];by_cases h3:(d.Atoms.length:Int) > 20
   ·rw [if_pos h3];simp;omega
   ·rw [if_neg h3];have h4:1≤d.Vars∧d.Vars≤3∧d.Atoms.length≤20:=by omega
    rw [qod d.Atoms _ (fun a=>!qvk n d.Vars a) (fun x _=>q6m x n d) (by omega)];simp only [vrv,q99,h4,and_self,decide_true,vuj]
def vk6 (rows:List Row) (t:Term):Value:=if t.Var=0 then t.Value else (rows.getD (t.Var - 1).toNat ⟨0,[]⟩).Values.getD t.Attr.toNat zeroV
def opB (op n:Int):Bool:=if op=1 then decide (n=0) else if op=2 then decide (n≠0) else if op=3 then decide (n < 0) else decide (n≤0)
def q2k (rows:List Row) (a:Atom):Bool:=opB a.Op (qx3 (vk6 rows a.Left) (vk6 rows a.Right))
structure RowsN (n:Nat) (vars:Int) (rows:List Row):Prop where
 len:(rows.length:Int)=vars
 few:rows.length≤3
 vals:∀r∈rows,r.Values.length=n∧∀v∈r.Values,v.Str.length≤1048576
theorem vfc {α:Type} {l:List α} {i:Int} (h:0≤i):idx l i=l[i.toNat]?:=by
 obtain ⟨k,rfl⟩:=vuk h;rw [q79];simp
theorem vdb {n:Nat} {vars:Int} {rows:List Row} (R:RowsN n vars rows) {t:Term} (ht:qrd n vars t=true) (h0:t.Var≠0) :
  ∃r v,idx rows (vsg.wrap (t.Var - 1))=some r∧idx r.Values t.Attr=some v∧vk6 rows t=v∧r∈rows∧v∈r.Values:=by
 unfold qrd at ht;rw [if_neg h0,vpq,decide_eq_true_eq] at ht;obtain ⟨⟨h1,h2,h3,h4⟩,_⟩:=ht;have hlen:=R.len;have hw:vsg.wrap (t.Var - 1)=t.Var - 1:=wrap_i64 (by have:=R.few;omega) (by have:=R.few;omega);have hi:(t.Var - 1).toNat < rows.length:=by omega
 have hr:rows[(t.Var - 1).toNat]?=some (rows[(t.Var - 1).toNat]'hi):=vqd hi;have hm:rows[(t.Var - 1).toNat]'hi∈rows:=vu8 hi;have hv:t.Attr.toNat < (rows[(t.Var - 1).toNat]'hi).Values.length:=by rw [(R.vals _ hm).1];omega
 refine ⟨rows[(t.Var - 1).toNat]'hi,(rows[(t.Var - 1).toNat]'hi).Values[t.Attr.toNat]'hv,?_,?_,?_,hm,vu8 hv⟩
 ·rw [hw,vfc (by omega)];exact hr
 ·rw [vfc h3];exact vqd hv
 ·unfold vk6;rw [if_neg h0];have e1:rows.getD (t.Var - 1).toNat ⟨0,[]⟩=rows[(t.Var - 1).toNat]'hi:=by rw [vsr,hr];rfl
  rw [e1,vsr,vqd hv];rfl
theorem q4d {n:Nat} {vars:Int} {rows:List Row} (R:RowsN n vars rows) {t:Term} (ht:qrd n vars t=true):qju rows t=some (vk6 rows t):=by
 unfold qju;by_cases h0:t.Var=0
 ·rw [if_pos (by simpa using h0)];unfold vk6;rw [if_pos h0]
 ·rw [if_neg (by simpa using h0)];obtain ⟨r,v,h1,h2,h3,_⟩:=vdb R ht h0;rw [h1,vrv,h2,vrv,h3]
theorem qnt {n:Nat} {vars:Int} {rows:List Row} (R:RowsN n vars rows) (l:List Atom) (hl:l.length≤1000000) (h:∀a∈l,qvk n vars a=true):qc2 rows l=some (l.all (q2k rows)):=by
 have qap:∀a∈l,(1≤a.Op∧a.Op≤4)∧qrd n vars a.Left=true∧qrd n vars a.Right=true:=fun a ha=>by
  have:=h a ha;simpa only [qvk,vpq,decide_eq_true_eq] using this
 have hL:qal (qdd rows l) 0=some (if l.all (q2k rows) then .inl () else .inr false):=by
  refine qlv l _ (q2k rows) false (fun k x hx hk hp=>?_) (fun k x hx hp=>?_) (by simp [qdd])
  ·obtain ⟨h1,h2,h3⟩:=qap x (vqx hx);simp only [qdd,if_pos (qak hx),qae hx,vrv,q4d R h2,q4d R h3,qi5,qbo hk (show l.length≤4611686018427387904 by omega)];unfold q2k opB at hp;have:x.Op=1∨x.Op=2∨x.Op=3∨x.Op=4:=by omega
   rcases this with e | e | e | e <;> simp only [e] at hp ⊢ <;> simpa using hp
  ·obtain ⟨h1,h2,h3⟩:=qap x (vqx hx);simp only [qdd,if_pos (qak hx),qae hx,vrv,q4d R h2,q4d R h3,qi5];unfold q2k opB at hp;have:x.Op=1∨x.Op=2∨x.Op=3∨x.Op=4:=by omega
   rcases this with e | e | e | e <;> simp only [e] at hp ⊢ <;> simpa using hp
 unfold qc2;rw [hL,vrv];cases l.all (q2k rows) <;> rfl
theorem qr9 {α β:Type} (f:α→β):∀l:List α,(l.flatMap fun i=>[f i])=l.map f
 | []=>rfl
 | x :: l=>by rw [vsq,qr9 f l];rfl
def vfd:List Value:=[⟨1,0,[]⟩,⟨1,1,[]⟩,⟨1,2,[]⟩,⟨0,0,[]⟩,⟨2,0,[97]⟩,⟨2,0,[98]⟩,⟨2,0,[]⟩,⟨3,1,[]⟩,⟨1,-1,[]⟩,⟨2,0,[97,98]⟩,⟨3,2,[]⟩,⟨1,7,[]⟩]
theorem vix (c:Int):∃v,qch c=some v∧v∈vfd:=by
 unfold qch;by_cases h0:(vua c 12 == 0)=true
 ·rw [if_pos h0];exact ⟨_,rfl,by decide⟩
 rw [if_neg h0];by_cases h1:(vua c 12 == 1)=true
 ·rw [if_pos h1];exact ⟨_,rfl,by decide⟩
 rw [if_neg h1];by_cases h2:(vua c 12 == 2)=true
 ·rw [if_pos h2];exact ⟨_,rfl,by decide⟩
 rw [if_neg h2];by_cases h3:(vua c 12 == 3)=true
 ·rw [if_pos h3];exact ⟨_,rfl,by decide⟩
 rw [if_neg h3];by_cases h4:(vua c 12 == 4)=true
 ·rw [if_pos h4];exact ⟨_,rfl,by decide⟩
 rw [if_neg h4];by_cases h5:(vua c 12 == 5)=true
 ·rw [if_pos h5];exact ⟨_,rfl,by decide⟩
 rw [if_neg h5];by_cases h6:(vua c 12 == 6)=true
 ·rw [if_pos h6];exact ⟨_,rfl,by decide⟩
 rw [if_neg h6];by_cases h7:(vua c 12 == 7)=true
 ·rw [if_pos h7];exact ⟨_,rfl,by decide⟩
 rw [if_neg h7];by_cases h8:(vua c 12 == 8)=true
 ·rw [if_pos h8];exact ⟨_,rfl,by decide⟩
 rw [if_neg h8];by_cases h9:(vua c 12 == 9)=true
 ·rw [if_pos h9];exact ⟨_,rfl,by decide⟩
 rw [if_neg h9];by_cases h10:(vua c 12 == 10)=true
 ·rw [if_pos h10];exact ⟨_,rfl,by decide⟩
 rw [if_neg h10];exact ⟨_,rfl,by decide⟩
theorem voz (c:Int):q9s (ofV c):=by
 obtain ⟨v,h1,h2⟩:=vix c;have:ofV c=v:=by unfold ofV;rw [h1];rfl
 rw [this];have all:∀w∈vfd,((Lit.int .i64 w.Kind).wf && (Lit.int .i64 w.Num).wf && decide (w.Str.length≤1048576))=true:=by decide
 have:=all v h2;simp only [vpq,decide_eq_true_eq] at this;exact ⟨this.1.1,this.1.2,this.2⟩
theorem vo0 {n:Int} (h1:-9223372036854775808≤n) (h2:n≤9223372036854775807):okI .i64 n:=by
 show (decide (vup .i64≤n) && decide (n≤vuo .i64))=true;have e1:vup .i64=-9223372036854775808:=by decide
 have e2:vuo .i64=9223372036854775807:=by decide
 rw [e1,e2,vpq,decide_eq_true_eq,decide_eq_true_eq];exact ⟨h1,h2⟩
theorem viy (x:Drossref03_Recipe) (n:Nat) (hn:n≤8) (hr:x.Rows.length≤8):qo9 (q37 x n):=by
 refine ⟨by show okS [114];unfold okS;decide,⟨?_,fun s hs=>?_⟩,⟨?_,fun r h=>?_⟩⟩
 ·simp only [q37,vqr];omega
 ·have hm:s∈qlw:=vqz hs;have:∀w∈qlw,w.length≤1048576:=by decide
  exact this s hm
 ·simp only [q37,vqn,vsz];omega
 ·obtain ⟨i,hi,rfl⟩:=vtb.1 h;have hi':=vtc.1 hi;have hs:qoc x≤3:=by unfold qoc;omega
  have hm:i * qoc x≤8 * 3:=vvt (by omega) hs;refine ⟨vo0 (by simp only [q36];omega) (by simp only [q36];omega),?_,fun v hv=>?_⟩
  ·simp only [q36,vqn,vsz];omega
  ·obtain ⟨k,_,rfl⟩:=vtb.1 hv;exact voz _
theorem qkl.gt {t:Table} (G:qkl t) (h:qo9 t):GT t:=gt_of h G.err
theorem vaa {n:Nat} (hn:n≤16) {l:Int} (h:0≤l∧l≤255):vsi.wrap ((BitVec.ofInt 32 (vsi.wrap l) &&& (BitVec.ofInt 32 ((2 ^ n - 1:Nat):Int))).toNat:Int)=((l.toNat % 2 ^ n:Nat):Int):=by
 obtain ⟨k,rfl⟩:∃k:Nat,l=(k:Int):=⟨l.toNat,by omega⟩;have hp:2 ^ n < 4294967296:=q32 (by omega);rw [qse (n:=(k:Int)) (by omega) (by omega),q9w (show k < 4294967296 by omega) (show 2 ^ n - 1 < 4294967296 by omega),Nat.and_two_pow_sub_one_eq_mod,vtv]
theorem vab (n:Nat) (k:Nat):k % 2 ^ n < 2 ^ n:=vro _ (vvw (by omega))
end Go.Proofs.YtfnmcjkkfnhpnaaGreatDoor
namespace Go.Ab
open Go
def q64 {α:Type} (lt:α→α→Bool) (x:α):List α→List α
 | []=>[x]
 | y :: p=>if lt x y then y :: q64 lt x p else x :: y :: p
theorem qx6 {α:Type} (lt:α→α→Bool) (x:α):∀(p:List α) (z:α),z∈q64 lt x p↔z=x∨z∈p
 | [],z=>by simp [q64]
 | y :: p,z=>by
  simp only [q64];split
  ·rw [vty,qx6 lt x p z,vty];constructor
   ·rintro (h | h | h)
    ·exact .inr (.inl h)
    ·exact .inl h
    ·exact .inr (.inr h)
   ·rintro (h | h | h)
    ·exact .inr (.inl h)
    ·exact .inl h
    ·exact .inr (.inr h)
  ·rw [vty]
theorem q4e {α:Type} (lt:α→α→Bool) (x:α):∀p:List α,(q64 lt x p).length=p.length+1
 | []=>rfl
 | y :: p=>by
  simp only [q64];split
  ·simp [q4e lt x p]
  ·simp
theorem qud {α:Type} (lt:α→α→Bool) (asym:∀x y,lt x y=true→lt y x=false) (ntr:∀x y z,lt x y=false→lt y z=false→lt x z=false) (x:α):∀p:List α,p.Pairwise (fun a b=>lt a b=false)→(q64 lt x p).Pairwise (fun a b=>lt a b=false)
 | [],_=>by simp [q64]
 | y :: p,h=>by
  obtain ⟨h1,h2⟩:=vve.1 h;simp only [q64];by_cases hc:lt x y=true
  ·rw [if_pos hc];refine vve.2 ⟨fun z hz=>?_,qud lt asym ntr x p h2⟩;rcases (qx6 lt x p z).1 hz with rfl | hz
   ·exact asym _ _ hc
   ·exact h1 z hz
  ·rw [if_neg hc];have hc':lt x y=false:=by simpa using hc
   refine vve.2 ⟨fun z hz=>?_,h⟩;rcases vty.1 hz with rfl | hz
   ·exact hc'
   ·exact ntr _ _ _ hc' (h1 z hz)
end Go.Ab
namespace Go.Proofs.YtfnmcjkkfnhpnaaGreatDoor
open Go Go.Ab
end Go.Proofs.YtfnmcjkkfnhpnaaGreatDoor
namespace Go.Ab
open Go
end Go.Ab
namespace Go.Proofs.YtfnmcjkkfnhpnaaGreatDoor
open Go Go.Ab
theorem viz {s k:Nat} (hs:s < 4294967296) (hk:k < 32):qgb (s:Int) (k:Int)=some (s.testBit k):=by
 rw [q97,vc7 hs (by omega),decide_eq_true (show 0≤(k:Int) by omega),decide_eq_true (show (k:Int) < 32 by omega)];rfl
def befN (q z:Nat×Nat):Prop:=lexN q.1 z.1∨(q.1=z.1∧q.2 < z.2)
instance instDecBefN (q z:Nat×Nat):Decidable (befN q z):=by unfold befN;exact inferInstance
end Go.Proofs.YtfnmcjkkfnhpnaaGreatDoor
namespace Go.Ab
open Go
theorem q0o {α:Type} (lt:α→α→Bool) (x:α):∀p:List α,(q64 lt x p).Perm (x :: p)
 | []=>vut.refl _
 | y :: p=>by
  simp only [q64];split
  ·exact ((q0o lt x p).cons y).trans (vut.swap x y p)
  ·exact vut.refl _
end Go.Ab
namespace Go.Proofs.YtfnmcjkkfnhpnaaGreatDoor
open Go Go.Ab
def ltL:List Int→List Int→Bool
 | [],[]=>false
 | [],_ :: _=>true
 | _ :: _,[]=>false
 | x :: a,y :: b=>if x=y then ltL a b else decide (x < y)
theorem que:∀a:List Int,ltL a a=false
 | []=>rfl
 | x :: a=>by rw [ltL,if_pos rfl,que a]
theorem qsm:∀a b:List Int,ltL a b=true→ltL b a=false
 | [],[],h=>rfl
 | [],_ :: _,h=>rfl
 | _ :: _,[],h=>by cases h
 | x :: a,y :: b,h=>by
  rw [ltL] at h ⊢;by_cases e:x=y
  ·subst e;rw [if_pos rfl] at h ⊢;exact qsm a b h
  ·rw [if_neg e] at h;rw [if_neg (fun e'=>e e'.symm)];simp at h ⊢;omega
theorem qqf:∀a b:List Int,ltL a b=false→ltL b a=false→a=b
 | [],[],_,_=>rfl
 | [],_ :: _,h,_=>by cases h
 | _ :: _,[],_,h=>by cases h
 | x :: a,y :: b,h1,h2=>by
  rw [ltL] at h1 h2;by_cases e:x=y
  ·subst e;rw [if_pos rfl] at h1 h2;rw [qqf a b h1 h2]
  ·rw [if_neg e] at h1;rw [if_neg (fun e'=>e e'.symm)] at h2;simp at h1 h2;omega
theorem qqg:∀a b c:List Int,ltL a b=true→ltL b c=true→ltL a c=true
 | [],[],_,h,_=>by cases h
 | _ :: _,[],_,h,_=>by cases h
 | _,_ :: _,[],_,h=>by cases h
 | [],_ :: _,_ :: _,_,_=>rfl
 | x :: a,y :: b,z :: c,h1,h2=>by
  rw [ltL] at h1 h2 ⊢;by_cases e1:x=y
  ·subst e1;rw [if_pos rfl] at h1;by_cases e2:x=z
   ·subst e2;rw [if_pos rfl] at h2 ⊢;exact qqg a b c h1 h2
   ·rw [if_neg e2] at h2 ⊢;exact h2
  ·rw [if_neg e1] at h1;by_cases e2:y=z
   ·subst e2;rw [if_neg e1];exact h1
   ·rw [if_neg e2] at h2;have h1':x < y:=by simpa using h1
    have h2':y < z:=by simpa using h2
    rw [if_neg (by omega)];simp;omega
theorem q2l (a b c:List Int) (h1:ltL a b=false) (h2:ltL b c=false):ltL a c=false:=by
 cases h:ltL a c with
 | false=>rfl
 | true =>
  exfalso;cases h3:ltL b a with
  | true =>
   have:=qqg b a c h3 h;rw [h2] at this;cases this
  | false =>
   have:=qqf a b h1 h3;subst this;rw [h2] at h;cases h
theorem qwr:∀{l m:List (List Int)},l.Pairwise (fun a b=>ltL a b=true)→m.Pairwise (fun a b=>ltL a b=true)→(∀z,z∈l↔z∈m)→l=m
 | [],[],_,_,_=>rfl
 | [],y :: m,_,_,h=>by have:=(h y).2 (by simp);cases this
 | x :: l,[],_,_,h=>by have:=(h x).1 (by simp);cases this
 | x :: l,y :: m,hl,hm,h=>by
  rw [vve] at hl hm;have hxy:x=y:=by
   have hx:=(h x).1 (by simp);have hy:=(h y).2 (by simp);rcases vty.1 hx with e | hx
   ·exact e
   ·rcases vty.1 hy with e | hy
    ·exact e.symm
    ·have h1:=hl.1 y hy;have h2:=hm.1 x hx;rw [qsm x y h1] at h2;cases h2
  subst hxy;have irr:∀{l:List (List Int)},(∀a∈l,ltL x a=true)→x ∉ l:=fun H hx=>by
   have:=H x hx;rw [que] at this;cases this
  rw [qwr hl.2 hm.2 fun z=>?_];constructor
  ·intro hz;rcases vty.1 ((h z).1 (vs8 _ hz)) with e | hz'
   ·exact absurd (e ▸ hz) (irr hl.1)
   ·exact hz'
  ·intro hz;rcases vty.1 ((h z).2 (vs8 _ hz)) with e | hz'
   ·exact absurd (e ▸ hz) (irr hm.1)
   ·exact hz'
theorem qqh {α:Type} {l:List α} {k:Nat} {x:α} {r:List α} (h:l.drop k=x :: r):l[k]?=some x∧l.drop (k+1)=r∧k < l.length:=by
 have h1:l[k]?=some x:=by
  have:=congrArg (·[0]?) h;simpa [vqc] using this
 exact ⟨h1,by rw [←vuc,h];rfl,qcr h1⟩
theorem qqi {α:Type} {l:List α} {k:Nat} (h:l.drop k=[]) (hk:k≤l.length):k=l.length:=by
 have:=congrArg vue h;simp at this;omega
theorem qos (a b:List Int) (ha:a.length≤1000000) (hb:b.length≤1000000):∀(ra rb:List Int) (k:Nat),a.drop k=ra→b.drop k=rb→k≤a.length→k≤b.length →
  ∃o,qal (qax a b) (k:Int)=some o∧(match o with | .inl ()=>if (a.length:Int) < (b.length:Int) then -1 else 0 | .inr r=>r)=if ltL ra rb=true then (-1:Int) else if ltL rb ra=true then 1 else 0
 | [],[],k,h1,h2,h3,h4=>by
  have e1:=qqi h1 h3;have e2:=qqi h2 h4;refine ⟨.inl (),qat (by simp [qax,e1]),?_⟩;simp only;rw [if_neg (by omega)];rfl
 | [],y :: rb,k,h1,h2,h3,h4=>by
  have e1:=qqi h1 h3;have e2:=(qqh h2).2.2;refine ⟨.inl (),qat (by simp [qax,e1]),?_⟩;simp only;rw [if_pos (by omega)];rfl
 | x :: ra,[],k,h1,h2,h3,h4=>by
  have e2:=qqi h2 h4;obtain ⟨x1,x2,x3⟩:=qqh h1;refine ⟨.inr 1,qat (by simp only [qax,if_pos (qak x1),qae x1,vrv,if_pos (show (k:Int)≥(b.length:Int) by omega)]),?_⟩;simp [ltL]
 | x :: ra,y :: rb,k,h1,h2,h3,h4=>by
  obtain ⟨x1,x2,x3⟩:=qqh h1;obtain ⟨y1,y2,y3⟩:=qqh h2;by_cases e:x=y
  ·subst e;obtain ⟨o,ho1,ho2⟩:=qos a b ha hb ra rb (k+1) x2 y2 x3 y3;refine ⟨o,?_,?_⟩
   ·rw [qbd (s':=((k+1:Nat):Int)) (by simp only [qax,if_pos (qak x1),if_neg (show ¬(k:Int)≥(b.length:Int) by omega),qae x1,qae y1,vrv,qnn,vcw,bne_self_eq_false,vps,if_false,qbo x3 (show a.length≤4611686018427387904 by omega)])];exact ho1
   ·rw [ho2,ltL,ltL,if_pos rfl,if_pos rfl]
  ·refine ⟨.inr (sgn x y),qat ?_,?_⟩
   ·have:(sgn x y != 0)=true:=by simpa using voo e
    simp only [qax,if_pos (qak x1),if_neg (show ¬(k:Int)≥(b.length:Int) by omega),qae x1,qae y1,vrv,qnn,this,if_true]
   ·simp only [ltL,if_neg e,if_neg (fun e'=>e e'.symm:¬y=x)];unfold sgn;by_cases h:x < y
    ·simp [h]
    ·have:y < x:=by omega
     simp [h,this]
def q6n (a b:List Int):Int:=if ltL a b=true then -1 else if ltL b a=true then 1 else 0
theorem qk4 (a b:List Int) (ha:a.length≤1000000) (hb:b.length≤1000000):qad a b=some (q6n a b):=by
 obtain ⟨o,h1,h2⟩:=qos a b ha hb a b 0 rfl rfl (vtq _) (vtq _);have h1':qal (qax a b) 0=some o:=h1;unfold qad q6n;rw [h1',vrv,←h2];cases o with
 | inl u =>
  cases u;simp only;by_cases h:(a.length:Int) < (b.length:Int)
  ·rw [if_pos h,if_pos h]
  ·rw [if_neg h,if_neg h]
 | inr r=>rfl
theorem qfx (a b:List Int):q6n a b < 0↔ltL a b=true:=by
 unfold q6n;cases h:ltL a b with
 | true=>simp
 | false =>
  cases ltL b a <;> simp
theorem q6o (l:List (List Int)) (hl:l.length≤1000000) (hs:∀a∈l,a.length≤1000000) (hn:l.Nodup) :
  ∃s,q62 (fun (a:List Int) (b:List Int)=>qad a b) l=some s∧s.Perm l∧s.Pairwise (fun a b=>ltL a b=true):=by
 have hc:∀x∈l,∀y∈l,(qad x y).getD 0=q6n x y:=fun x hx y hy=>by rw [qk4 x y (hs x hx) (hs y hy)];rfl
 have hok:qzn (fun x y=>(qad x y).getD 0) l:=by
  refine ⟨fun x hx=>?_,fun x hx y hy z hz h1 h2=>?_,fun x hx y hy z hz h1 h2=>?_⟩
  ·show ¬(qad x x).getD 0 < 0;rw [hc x hx x hx,qfx,que];simp
  ·replace h1:(qad x y).getD 0 < 0:=h1;replace h2:(qad y z).getD 0 < 0:=h2;show (qad x z).getD 0 < 0;rw [hc _ hx _ hy,qfx] at h1;rw [hc _ hy _ hz,qfx] at h2;rw [hc _ hx _ hz,qfx];exact qqg x y z h1 h2
  ·replace h1:¬(qad x y).getD 0 < 0:=h1;replace h2:¬(qad y z).getD 0 < 0:=h2;show ¬(qad x z).getD 0 < 0;rw [hc _ hx _ hy,qfx] at h1;rw [hc _ hy _ hz,qfx] at h2;rw [hc _ hx _ hz,qfx];have h1':ltL x y=false:=by simpa using h1
   have h2':ltL y z=false:=by simpa using h2
   rw [q2l x y z h1' h2'];simp
 have hp:=qxr hok;refine ⟨srt (fun x y=>(qad x y).getD 0) l,?_,hp,?_⟩
 ·unfold q62;rw [if_pos ⟨fun x hx y hy=>by show (qad x y).isSome=true;rw [qk4 x y (hs x hx) (hs y hy)];rfl,hok,by omega⟩]
 ·have h1:=q5w hok;have hn':(srt (fun x y=>(qad x y).getD 0) l).Nodup:=hp.nodup_iff.2 hn;refine vus.imp_of_mem ?_ (h1.and hn');intro a b ha hb hab;have ha':=hp.mem_iff.1 ha;have hb':=hp.mem_iff.1 hb;obtain ⟨g1,g2⟩:=hab;replace g1:¬(qad b a).getD 0 < 0:=g1;rw [hc _ hb' _ ha',qfx] at g1;cases h:ltL a b with
  | true=>rfl
  | false=>exact absurd (qqf a b h (by simpa using g1)) g2
def vfe (l:List (List Int)):Prop:=l.Pairwise fun a b=>ltL a b=true
def vac (out:List (List Int)) (x:List Int):List (List Int):=if x∈out then out else (q64 ltL x out.reverse).reverse
theorem vdc (out:List (List Int)) (x z:List Int):z∈vac out x↔z∈out∨z=x:=by
 unfold vac;by_cases h:x∈out
 ·rw [if_pos h];constructor
  ·intro hz;exact .inl hz
  ·rintro (hz | rfl)
   ·exact hz
   ·exact h
 ·rw [if_neg h,vvb,qx6,vvb];exact Or.comm
theorem vi0 {l:List (List Int)} (h:l.Pairwise fun a b=>ltL b a=false) (hn:l.Nodup):vfe l:=by
 refine vus.imp ?_ (h.and hn);rintro a b ⟨h1,h2⟩;cases h3:ltL a b with
 | true=>rfl
 | false=>exact absurd (qqf a b h3 h1) h2
theorem q6p {l:List (List Int)} (h:vfe l):l.Nodup:=by
 refine vus.imp ?_ h;intro a b hab e;subst e;rw [que] at hab;cases hab
theorem vdd {out:List (List Int)} (x:List Int) (h:vfe out):vfe (vac out x):=by
 unfold vac;by_cases hm:x∈out
 ·rw [if_pos hm];exact h
 ·rw [if_neg hm];have h1:out.reverse.Pairwise fun a b=>ltL a b=false:=by
   rw [vvh];exact h.imp fun {a b} hab=>qsm a b hab
  have h2:=qud ltL qsm q2l x out.reverse h1;refine vi0 ?_ ?_
  ·rw [vvh];exact h2
  ·rw [(vvj _).nodup_iff,(q0o ltL x out.reverse).nodup_iff,List.nodup_cons];exact ⟨by rw [vvb];exact hm,(vvj out).nodup_iff.2 (q6p h)⟩
theorem vde (out:List (List Int)) (x:List Int):(vac out x).length≤out.length+1:=by
 unfold vac;split
 ·omega
 ·rw [vu9,q4e,vu9];exact vrj _
def vdf (l:List (List Int)):List (List Int):=l.foldl vac []
theorem q0p (z:List Int):∀(l out:List (List Int)),z∈l.foldl vac out↔z∈out∨z∈l
 | [],out=>by simp
 | x :: l,out=>by
  rw [vu5,q0p z l,vdc];simp only [vty,or_assoc]
theorem q0q:∀(l out:List (List Int)),vfe out→vfe (l.foldl vac out)
 | [],_,h=>h
 | x :: l,out,h=>q0q l _ (vdd x h)
theorem q0r:∀(l out:List (List Int)),(l.foldl vac out).length≤out.length+l.length
 | [],out=>by simp
 | x :: l,out=>by
  rw [vu5];have h1:=q0r l (vac out x);have h2:=vde out x;simp only [vsv];omega
theorem q4f (l:List (List Int)) (z:List Int):z∈vdf l↔z∈l:=by unfold vdf;rw [q0p];simp
theorem vdg (l:List (List Int)):vfe (vdf l):=q0q l [] vus.nil
theorem vdh (l:List (List Int)):(vdf l).length≤l.length:=by have:=q0r l [];simpa [vdf] using this
theorem vi1 {l m:List (List Int)} (hm:vfe m) (h:∀z,z∈l↔z∈m):vdf l=m:=qwr (vdg l) hm fun z=>by rw [q4f];exact h z
def qpa (rows:List Row):List Int:=vbx (rows.map Row.ID)
theorem qx7 (rows:List Row):(qpa rows).length=rows.length:=by
 unfold qpa;rw [(qth _).length_eq,vqn]
def qjd (t:Table) (d:Denial):Int:=if qcv t≠0 then qcv t else if q0l t.Attrs.length d=true then (if d.Vars=3∧200 < t.Rows.length then 3 else 0) else 1
theorem vdi (t:Table) (d:Denial) (b:Bool):(if b=true then (if (d.Vars == 3)=true then (if (t.Rows.length:Int) > 200 then some 3 else some 0) else some 0) else some 1)=some (if b=true then (if d.Vars=3∧200 < t.Rows.length then (3:Int) else 0) else 1):=by
 cases b with
 | false=>rfl
 | true =>
  simp only [if_true];by_cases h3:d.Vars=3
  ·rw [if_pos (by simpa using h3)];by_cases h4:200 < t.Rows.length
   ·rw [if_pos (by omega),if_pos ⟨h3,h4⟩]
   ·rw [if_neg (by omega),if_neg (by rintro ⟨_,h⟩;exact h4 h)]
  ·rw [if_neg (by simpa using h3),if_neg (by rintro ⟨h,_⟩;exact h3 h)]
theorem q6q (t:Table) (d:Denial) (T:TableOk t) (hl:d.Atoms.length≤1048576):qhe t d=some (qjd t d):=by
 unfold qhe qjd;rw [qg5 t T,vrv];by_cases h:qcv t=0
 ·simp only [h,bne_self_eq_false,vps,if_false,ne_eq,not_true_eq_false,q0n _ d hl,vrv];exact vdi t d _
 ·have h':(qcv t != 0)=true:=by simpa using h
  simp only [h',if_true,ne_eq,h,not_false_eq_true]
structure DT (t:Table):Prop where
 ok:TableOk t
 err:qcv t=0
 few:t.Rows.length≤7
 str:∀r∈t.Rows,∀v∈r.Values,v.Str.length≤1048576
theorem DT.code {t:Table} (H:DT t):(∀r∈t.Rows,r.Values.length=t.Attrs.length∧r.Values.all qob=true∧0 < r.ID)∧t.Rows.Pairwise (fun x y=>x.ID < y.ID):=qk3 _ _ _ (qrx H.err).2.2
theorem vad (t:Table) (a:List Row):(qvj t a).length≤t.Rows.length:=by
 unfold qvj;rw [vqn];exact vsx _ _
theorem vae {t:Table} {a b:List Row} (h:b∈qvj t a):∃r∈t.Rows,b=a++[r]∧∀x∈a,x.ID≠r.ID:=by
 unfold qvj at h;obtain ⟨r,hr,rfl⟩:=vtb.1 h;obtain ⟨h1,h2⟩:=vta.1 hr;refine ⟨r,h1,rfl,fun x hx e=>?_⟩;simp only [vpu,vux] at h2;exact h2 x hx (by simpa using e)
theorem q4g {t:Table} (hn:t.Rows.length≤7):∀k,(q4b t k).length≤7 ^ k
 | 0=>by simp [q4b]
 | k+1=>by
  have ih:=q4g hn k;have key:∀l:List (List Row),(l.flatMap (qvj t)).length≤7 * l.length:=by
   intro l
   induction l with
   | nil=>simp
   | cons a l ihl =>
    rw [vsq,vql,vsv];have:=vad t a;omega
  have:=key (q4b t k);rw [vvx];show ((q4b t k).flatMap (qvj t)).length≤_;omega
theorem qx8 {t:Table}:∀{k:Nat} {a:List Row},a∈q4b t k→a.length=k∧(∀r∈a,r∈t.Rows)∧a.Pairwise fun x y=>x.ID≠y.ID
 | 0,a,h=>by
  have:a=[]:=by simpa [q4b] using h
  subst this;exact ⟨rfl,by simp,vus.nil⟩
 | k+1,a,h=>by
  obtain ⟨b,hb,hab⟩:=List.mem_flatMap.1 (show a∈(q4b t k).flatMap (qvj t) from h);obtain ⟨r,hr,rfl,hne⟩:=vae hab;obtain ⟨h1,h2,h3⟩:=qx8 hb;refine ⟨by simp [h1],fun x hx=>?_,?_⟩
  ·rcases vqv.1 hx with hx | hx
   ·exact h2 x hx
   ·rw [vtd.1 hx];exact hr
  ·rw [vvd];exact ⟨h3,by simp,fun x hx y hy=>by rw [vtd.1 hy];exact hne x hx⟩
def qrf (t:Table) (d:Denial):List (List Int):=((q4b t d.Vars.toNat).filter fun a=>d.Atoms.all (q2k a)).map qpa
theorem vaf {t:Table} (hn:t.Rows.length≤7) {d:Denial} (h:d.Vars≤3):(qrf t d).length≤343:=by
 unfold qrf;rw [vqn];refine vrl (vsx _ _) ?_;have:=q4g hn d.Vars.toNat;have h7:7 ^ d.Vars.toNat≤7 ^ 3:=vvv (by omega) (by omega);have:7 ^ 3=343:=by decide
 omega
theorem quf {t:Table} {d:Denial} {z:List Int} (h:z∈qrf t d):z.length=d.Vars.toNat:=by
 unfold qrf at h;obtain ⟨a,ha,rfl⟩:=vtb.1 h;rw [qx7];exact (qx8 (vta.1 ha).1).1
theorem qlx {n:Int} {d:Denial} (h:q0l n d=true):(1≤d.Vars∧d.Vars≤3∧d.Atoms.length≤20)∧∀a∈d.Atoms,qvk n d.Vars a=true:=by
 simpa only [q0l,vpq,decide_eq_true_eq,vsn] using h
def vi2 (t:Table) (d:Denial):List (List Int)×Int:=if qjd t d=0 then (vdf (qrf t d),0) else ([],qjd t d)
theorem q2m {t:Table} {d:Denial} (h:qjd t d=0):qcv t=0∧q0l t.Attrs.length d=true:=by
 unfold qjd at h;by_cases h1:qcv t=0
 ·rw [if_neg (by simp [h1])] at h;refine ⟨h1,?_⟩;cases h2:q0l t.Attrs.length d with
  | true=>rfl
  | false=>rw [h2] at h;simp at h
 ·rw [if_pos h1] at h;exact absurd h h1
abbrev qly:=List (Arr3_int64×Bool)×List (List Int)
def qvl (d:Denial) (a:List Row) (b:qly):qly:=if d.Atoms.all (q2k a)=true then (if qpa a∈b.2 then b else (qvc b.1 (viw (qpa a)) true,b.2++[qpa a])) else b
def qws (t:Table) (d:Denial):Nat→List Row→qly→qly
 | 0,a,b=>qvl d a b
 | m+1,a,b=>t.Rows.foldl (fun b r=>if (a.any fun x=>x.ID == r.ID)=true then b else qws t d m (a++[r]) b) b
structure SeenOk (n:Nat) (b:qly):Prop where
 len:∀z∈b.2,z.length=n
 seen:∀z:List Int,z.length=n→((qrv b.1 (viw z)).getD false=true↔z∈b.2)
theorem vdj {n:Nat} (hn:n≤3) {d:Denial} {a:List Row} {b:qly} (ha:a.length=n) (h:SeenOk n b):SeenOk n (qvl d a b)∧(qvl d a b).2.length≤b.2.length+1:=by
 unfold qvl;split
 ·by_cases hm:qpa a∈b.2
  ·rw [if_pos hm];exact ⟨h,by omega⟩
  ·rw [if_neg hm];have hl:(qpa a).length=n:=by rw [qx7,ha]
   refine ⟨⟨fun z hz=>?_,fun z hz=>?_⟩,by simp⟩
   ·rcases vqv.1 hz with hz | hz
    ·exact h.len z hz
    ·rw [vtd.1 hz];exact hl
   ·simp only [q9v,vqv,vtd];by_cases hk:viw z=viw (qpa a)
    ·rw [if_pos hk];have:=vda hn hz hl hk;simp [this]
    ·rw [if_neg hk,h.seen z hz];constructor
     ·intro hz;exact .inl hz
     ·rintro (hz | rfl)
      ·exact hz
      ·exact absurd rfl hk
 ·exact ⟨h,by omega⟩
theorem q2n {n:Nat} (hn:n≤3) {t:Table} (ht:t.Rows.length≤7) {d:Denial}:∀(m:Nat) (a:List Row) (b:qly),a.length+m=n→SeenOk n b→SeenOk n (qws t d m a b)∧(qws t d m a b).2.length≤b.2.length+7 ^ m
 | 0,a,b,ha,h=>vdj hn (by omega) h
 | m+1,a,b,ha,h=>by
  have key:∀(l:List Row) (b:qly),SeenOk n b→SeenOk n (l.foldl (fun b r=>if (a.any fun x=>x.ID == r.ID)=true then b else qws t d m (a++[r]) b) b) ∧
    (l.foldl (fun b r=>if (a.any fun x=>x.ID == r.ID)=true then b else qws t d m (a++[r]) b) b).2.length≤b.2.length+l.length * 7 ^ m:=by
   intro l
   induction l with
   | nil=>intro b h;exact ⟨h,by simp⟩
   | cons r l ih =>
    intro b h;rw [vu5];by_cases hu:(a.any fun x=>x.ID == r.ID)=true
    ·rw [if_pos hu];obtain ⟨h1,h2⟩:=ih b h;refine ⟨h1,?_⟩;rw [vsv,vvy];generalize 7 ^ m=P at *;omega
    ·rw [if_neg hu];obtain ⟨g1,g2⟩:=q2n hn ht m (a++[r]) b (by simp;omega) h;obtain ⟨h1,h2⟩:=ih _ g1;refine ⟨h1,?_⟩;rw [vsv,vvy];generalize 7 ^ m=P at *;omega
  obtain ⟨h1,h2⟩:=key t.Rows b h;refine ⟨h1,?_⟩;have:t.Rows.length * 7 ^ m≤7 * 7 ^ m:=vrq _ ht;rw [vvx];show (t.Rows.foldl _ b).2.length≤_;omega
theorem vag (d:Denial) (a:List Row) (b:qly):(qvl d a b).2=if d.Atoms.all (q2k a)=true then q6k b.2 (qpa a) else b.2:=by
 unfold qvl q6k;split
 ·split <;> rfl
 ·rfl
theorem q4h (t:Table) (d:Denial):∀(m:Nat) (a:List Row) (b:qly),(qws t d m a b).2=(((q2j t m a).filter fun x=>d.Atoms.all (q2k x)).map qpa).foldl q6k b.2
 | 0,a,b=>by
  show (qvl d a b).2=_;rw [vag];show _=(([a].filter fun x=>d.Atoms.all (q2k x)).map qpa).foldl q6k b.2;by_cases h:d.Atoms.all (q2k a)=true
  ·rw [if_pos h,vuz,if_pos h];rfl
  ·rw [if_neg h,vuz,if_neg h];rfl
 | m+1,a,b=>by
  have key:∀(l:List Row) (b:qly),(l.foldl (fun b r=>if (a.any fun x=>x.ID == r.ID)=true then b else qws t d m (a++[r]) b) b).2 =
    (((((l.filter fun r=>!(a.any fun x=>x.ID == r.ID)).map fun r=>a++[r]).flatMap (q2j t m)).filter fun x=>d.Atoms.all (q2k x)).map qpa).foldl q6k b.2:=by
   intro l
   induction l with
   | nil=>intro b;rfl
   | cons r l ih =>
    intro b;rw [vu5,ih,vuz];by_cases hu:(a.any fun x=>x.ID == r.ID)=true
    ·rw [if_pos hu,if_neg (by simp [hu])]
    ·rw [if_neg hu,if_pos (by simpa using hu),q4h t d m (a++[r]) b,vqt,vsq,vuy,vqs,List.foldl_append]
  exact key t.Rows b
theorem qx9 (l:List Row) (hl:l.length≤1000):qal (qcy l) ([],0)=some (l.map Row.ID):=by
 have h:=qe5 l (fun (b:List Int) (i:Int)=>(b,i)) (qcy l) (fun b r=>b++[r.ID]) id (fun k b=>b.length=k) (b0:=[]) (s0:=([],0)) rfl rfl
  (fun k b x hx hk hI=>by
   refine ⟨?_,by simp [hI]⟩;simp only [qcy,if_pos (qak hx),qae hx,vrv,qt1 (show b.length+1≤17592186044416 by omega),if_true,qbo hk (show l.length≤4611686018427387904 by omega)])
  (fun b _=>by simp [qcy])
 rw [h];have key:∀(l:List Row) (b:List Int),l.foldl (fun b (r:Row)=>b++[r.ID]) b=b++l.map Row.ID:=by
  intro l
  induction l with
  | nil=>intro b;simp
  | cons x l ih=>intro b;rw [vu5,ih];simp
 rw [id,key,vq2]
theorem vdk (l:List Row) (hl:l.length≤1000):qal (qg9 l) ([],0)=some (l.map Row.ID):=qx9 l hl
theorem vdl (l:List Row) (hl:l.length≤1000):qal (qg8 l) ([],0)=some (l.map Row.ID):=qx9 l hl
theorem qug (l:List Row) (hl:l.length≤1000):qtf (l.map Row.ID)=some (qpa l):=by
 unfold qtf qpa;rw [if_pos (by rw [vqn];omega)]
theorem qlb (a:List Row) (r:Row) (ha:a.length≤1000):qay a (fun y=>qcf y r)=some (a.any fun x=>x.ID == r.ID) :=
 qns a _ (fun x=>x.ID == r.ID) (fun x _=>rfl) (by omega)
theorem qlz {n:Nat} (hn:n≤3) {t:Table} (ht:t.Rows.length≤7) {d:Denial} {m:Nat} {a:List Row} (ha:a.length+(m+1)=n) {τ:Type}
  (B:List (Arr3_int64×Bool)×List (List Int)×Int→Option (LS (List (Arr3_int64×Bool)×List (List Int)×Int) ((List (Arr3_int64×Bool)×List (List Int)) ⊕ τ)))
  (hB:∀(k:Nat) (b:qly) (r:Row),t.Rows[k]?=some r→k < t.Rows.length→SeenOk n b→b.2.length+7 ^ m≤400→(a.any fun x=>x.ID == r.ID)=false→B (b.1,b.2,(k:Int))=some (.next ((qws t d m (a++[r]) b).1,(qws t d m (a++[r]) b).2,vsg.wrap ((k:Int)+1))))
  (hU:∀(k:Nat) (b:qly) (r:Row),t.Rows[k]?=some r→k < t.Rows.length→(a.any fun x=>x.ID == r.ID)=true→B (b.1,b.2,(k:Int))=some (.next (b.1,b.2,vsg.wrap ((k:Int)+1))))
  (hE:∀b:qly,B (b.1,b.2,(t.Rows.length:Int))=some (.done (.inl (b.1,b.2)))) (b0:qly) (h0:SeenOk n b0) (hl:b0.2.length+7 ^ (m+1)≤400) :
  qal B (b0.1,b0.2,0)=some (.inl ((qws t d (m+1) a b0).1,(qws t d (m+1) a b0).2)):=by
 have h:=qe5 t.Rows (fun (b:qly) (i:Int)=>(b.1,b.2,i)) B (fun b r=>if (a.any fun x=>x.ID == r.ID)=true then b else qws t d m (a++[r]) b) (fun b=>(.inl (b.1,b.2):(List (Arr3_int64×Bool)×List (List Int)) ⊕ τ))
  (fun k b=>SeenOk n b∧b.2.length≤b0.2.length+k * 7 ^ m) (b0:=b0) (s0:=(b0.1,b0.2,0)) rfl ⟨h0,by omega⟩
  (fun k b x hx hk hI=>by
   obtain ⟨hI1,hI2⟩:=hI;have hb:b.2.length+7 ^ m≤400:=by
    have:(k+1) * 7 ^ m≤7 * 7 ^ m:=vrq _ (by omega);rw [vvy] at this;rw [vvx] at hl;generalize 7 ^ m=P at *;omega
   have hw:=qbo hk (show t.Rows.length≤4611686018427387904 by omega);by_cases hu:(a.any fun x_1=>x_1.ID == x.ID)=true
   ·rw [if_pos hu];refine ⟨by rw [hU k b x hx hk hu,hw],hI1,?_⟩;rw [vvy];generalize 7 ^ m=P at *;omega
   ·rw [if_neg hu];obtain ⟨g1,g2⟩:=q2n hn ht m (a++[x]) b (by simp;omega) hI1;refine ⟨by rw [hB k b x hx hk hI1 hb (by simpa using hu),hw],g1,?_⟩;rw [vvy];generalize 7 ^ m=P at *;omega)
  (fun b _=>hE b)
 rw [h];rfl
theorem quh {n:Nat} {d:Denial} {a:List Row} {b:qly} (ha:a.length=n) (h:SeenOk n b) (hb:b.2.length≤400) {σ τ:Type} (k:Int) (X:σ→Option (LS (List (Arr3_int64×Bool)×List (List Int)×Int) τ)) (y1:τ) (y2:τ) :
  (if d.Atoms.all (q2k a)=true then
   (if ((qrv b.1 (Arr3_int64.mk ((qpa a).getD 0 0) ((qpa a).getD 1 0) ((qpa a).getD 2 0))).getD false)=true then
    (if ((b.2.length:Nat):Int)≤20000 then some (LS.next (b.1,b.2,k)) else some (LS.done y1))
   else if qdi (b.2.length+1) 24=true then
    (if (((b.2.length+1):Nat):Int)≤20000 then some (LS.next ((qvc b.1 (Arr3_int64.mk ((qpa a).getD 0 0) ((qpa a).getD 1 0) ((qpa a).getD 2 0)) true),(b.2++[qpa a]),k)) else some (LS.done y2))
   else none)
  else some (LS.next (b.1,b.2,k)))=some (LS.next ((qvl d a b).1,(qvl d a b).2,k)):=by
 have hl:(qpa a).length=n:=by rw [qx7,ha]
 have hs:=h.seen (qpa a) hl;unfold qvl;by_cases hsat:d.Atoms.all (q2k a)=true
 ·rw [if_pos hsat,if_pos hsat];by_cases hm:qpa a∈b.2
  ·have h1:((qrv b.1 (Arr3_int64.mk ((qpa a).getD 0 0) ((qpa a).getD 1 0) ((qpa a).getD 2 0))).getD false)=true:=hs.2 hm;rw [if_pos h1,if_pos (by omega),if_pos hm]
  ·have h1:¬((qrv b.1 (Arr3_int64.mk ((qpa a).getD 0 0) ((qpa a).getD 1 0) ((qpa a).getD 2 0))).getD false)=true:=fun h=>hm (hs.1 h)
   rw [if_neg h1,if_neg hm,if_pos (qdv (by omega) (by omega)),if_pos (by omega)];rfl
 ·rw [if_neg hsat,if_neg hsat]
theorem qya {t:Table} (H:DT t) {a:List Row} {n:Nat} (hn:n≤3) (ha:a.length=n) (hm:∀r∈a,r∈t.Rows):RowsN t.Attrs.length (n:Int) a :=
 ⟨by omega,by omega,fun r hr=>⟨((H.code).1 r (hm r hr)).1,H.str r (hm r hr)⟩⟩
theorem qui {t:Table} {a:List Row} (hm:∀r∈a,r∈t.Rows) {k:Nat} {x:Row} (hx:t.Rows[k]?=some x):∀r∈a++[x],r∈t.Rows:=by
 intro r hr;rcases vqv.1 hr with hr | hr
 ·exact hm r hr
 ·rw [vtd.1 hr];exact vqx hx
theorem vdm {t:Table} (H:DT t) {d:Denial} (hd:q0l t.Attrs.length d=true) (hv:d.Vars=3) (a:List Row) (ha:a.length=2) (hm:∀r∈a,r∈t.Rows) (b:qly) (hb:SeenOk 3 b) (hl:b.2.length+7≤400) :
  qal (qcz t d a) (b.1,b.2,0)=some (.inl ((qws t d 1 a b).1,(qws t d 1 a b).2)):=by
 obtain ⟨⟨hv1,hv2,hv3⟩,hat⟩:=qlx hd;refine qlz (n:=3) (by omega) H.few (m:=0) (by omega) _ (fun k b x hx hk hI hlen hu=>?_) (fun k b x hx hk hu=>?_) (fun b=>by simp [qcz]) b hb hl
 ·have R:=qya H (a:=a++[x]) (n:=3) (by omega) (by simp [ha]) (qui hm hx);have hlen3:(a++[x]).length=3:=by simp [ha]
  have hc:(((a++[x]).length:Int) == d.Vars)=true:=by rw [hlen3,hv];rfl
  rw [show ((3:Nat):Int)=d.Vars by omega] at R;simp only [qcz,if_pos (qak hx),qae hx,vrv,qlb a x (by omega),hu,vps,if_false,if_pos (show a.length≤1000000000 by omega),qdv (show a.length+1≤1073741824 by omega) (show 32≤65536 by omega),if_true,hc,qnt R d.Atoms (by omega) hat,qx9 (a++[x]) (by omega),qug (a++[x]) (by omega)];exact quh (σ:=Unit) hlen3 hI (by omega) _ (fun _=>none) _ _
 ·simp only [qcz,if_pos (qak hx),qae hx,vrv,qlb a x (by omega),hu,if_true]
theorem vdn {t:Table} (H:DT t) {d:Denial} (hd:q0l t.Attrs.length d=true) {n:Nat} (hv:d.Vars=(n:Int)) (h2:2≤n) (h3:n≤3) (a:List Row) (ha:a.length=1) (hm:∀r∈a,r∈t.Rows) (b:qly) (hb:SeenOk n b) (hl:b.2.length+7 ^ (n - 1)≤400) :
  qal (qa6 t d a) (b.1,b.2,0)=some (.inl ((qws t d (n - 1) a b).1,(qws t d (n - 1) a b).2)):=by
 obtain ⟨⟨hv1,hv2,hv3⟩,hat⟩:=qlx hd;have hcase:n=2∨n=3:=by omega
 rcases hcase with rfl | rfl
 ·refine qlz (n:=2) (by omega) H.few (m:=0) (by omega) _ (fun k b x hx hk hI hlen hu=>?_) (fun k b x hx hk hu=>?_) (fun b=>by simp [qa6]) b hb hl
  ·have R:=qya H (a:=a++[x]) (n:=2) (by omega) (by simp [ha]) (qui hm hx);have hlen3:(a++[x]).length=2:=by simp [ha]
   have hc:(((a++[x]).length:Int) == d.Vars)=true:=by rw [hlen3,hv];rfl
   rw [show ((2:Nat):Int)=d.Vars by omega] at R;simp only [qa6,if_pos (qak hx),qae hx,vrv,qlb a x (by omega),hu,vps,if_false,if_pos (show a.length≤1000000000 by omega),qdv (show a.length+1≤1073741824 by omega) (show 32≤65536 by omega),if_true,hc,qnt R d.Atoms (by omega) hat,vdk (a++[x]) (by omega),qug (a++[x]) (by omega)];exact quh (σ:=Unit) hlen3 hI (by omega) _ (fun _=>none) _ _
  ·simp only [qa6,if_pos (qak hx),qae hx,vrv,qlb a x (by omega),hu,if_true]
 ·refine qlz (n:=3) (by omega) H.few (m:=1) (by omega) _ (fun k b x hx hk hI hlen hu=>?_) (fun k b x hx hk hu=>?_) (fun b=>by simp [qa6]) b hb hl
  ·have hlen3:(a++[x]).length=2:=by simp [ha]
   have hc:¬((((a++[x]).length:Int) == d.Vars)=true):=by rw [hlen3,hv];decide
   simp only [qa6,if_pos (qak hx),qae hx,vrv,qlb a x (by omega),hu,vps,if_false,if_pos (show a.length≤1000000000 by omega),qdv (show a.length+1≤1073741824 by omega) (show 32≤65536 by omega),if_true,if_neg hc];rw [vdm H hd hv (a++[x]) hlen3 (qui hm hx) b hI (by omega)];rfl
  ·simp only [qa6,if_pos (qak hx),qae hx,vrv,qlb a x (by omega),hu,if_true]
theorem vdo {t:Table} (H:DT t) {d:Denial} (hd:q0l t.Attrs.length d=true) {n:Nat} (hv:d.Vars=(n:Int)) (h1:1≤n) (h3:n≤3) (b:qly) (hb:SeenOk n b) (hl:b.2.length+343≤400) :
  qal (qa7 t d []) (b.1,b.2,0)=some (.inl ((qws t d n [] b).1,(qws t d n [] b).2)):=by
 obtain ⟨⟨hv1,hv2,hv3⟩,hat⟩:=qlx hd;have hm:∀r∈([]:List Row),r∈t.Rows:=by simp
 by_cases hc1:n=1
 ·subst hc1;refine qlz (n:=1) (by omega) H.few (m:=0) (a:=[]) (by simp) _ (fun k b x hx hk hI hlen hu=>?_) (fun k b x hx hk hu=>?_) (fun b=>by simp [qa7]) b hb (by simp at hl ⊢;omega)
  ·have R:=qya H (a:=[]++[x]) (n:=1) (by omega) (by simp) (qui hm hx);have hlen3:(([]:List Row)++[x]).length=1:=by simp
   have hc:(((([]:List Row)++[x]).length:Int) == d.Vars)=true:=by rw [hlen3,hv];rfl
   rw [show ((1:Nat):Int)=d.Vars by omega] at R;simp only [qa7,if_pos (qak hx),qae hx,vrv,qlb [] x (by simp),hu,vps,if_false,if_pos (show ([]:List Row).length≤1000000000 by simp),qdv (show ([]:List Row).length+1≤1073741824 by simp) (show 32≤65536 by omega),if_true,hc,qnt R d.Atoms (by omega) hat,vdl ([]++[x]) (by simp),qug ([]++[x]) (by simp)];exact quh (σ:=Unit) hlen3 hI (by omega) _ (fun _=>none) _ _
  ·simp only [qa7,if_pos (qak hx),qae hx,vrv,qlb [] x (by simp),hu,if_true]
 ·obtain ⟨m,rfl⟩:∃m,n=m+2:=⟨n - 2,by omega⟩;have h7:7 ^ (m+2)≤343:=by
   have:m=0∨m=1:=by omega
   rcases this with rfl | rfl <;> decide
  have h7':7 ^ (m+1)≤49:=by
   have:m=0∨m=1:=by omega
   rcases this with rfl | rfl <;> decide
  refine qlz (n:=m+2) (by omega) H.few (m:=m+1) (a:=[]) (by simp) _ (fun k b x hx hk hI hlen hu=>?_) (fun k b x hx hk hu=>?_) (fun b=>by simp [qa7]) b hb (by rw [show m+1+1=m+2 by omega];omega)
  ·have hlen3:(([]:List Row)++[x]).length=1:=by simp
   have hc:¬((((([]:List Row)++[x]).length:Int) == d.Vars)=true):=by rw [hlen3,hv];simp;omega
   simp only [qa7,if_pos (qak hx),qae hx,vrv,qlb [] x (by simp),hu,vps,if_false,if_pos (show ([]:List Row).length≤1000000000 by simp),qdv (show ([]:List Row).length+1≤1073741824 by simp) (show 32≤65536 by omega),if_true,if_neg hc];rw [vdn H hd hv (by omega) h3 ([]++[x]) hlen3 (qui hm hx) b hI hlen];rfl
  ·simp only [qa7,if_pos (qak hx),qae hx,vrv,qlb [] x (by simp),hu,if_true]
theorem q6r (t:Table) (d:Denial) {n:Nat} (hn:n≤3) (ht:t.Rows.length≤7) (hv:d.Vars=(n:Int)) :
  q62 (fun (a:List Int) (b:List Int)=>qad a b) (qws t d n [] (([]:List (Arr3_int64×Bool)),([]:List (List Int)))).2=some (vdf (qrf t d)):=by
 have h0:SeenOk n (([]:List (Arr3_int64×Bool)),([]:List (List Int))):=⟨by simp,fun z _=>by simp [qrv]⟩;obtain ⟨h1,h2⟩:=q2n hn ht (d:=d) n [] _ (by simp) h0;have hsnd:=q4h t d n [] (([]:List (Arr3_int64×Bool)),([]:List (List Int)));have e:n=d.Vars.toNat:=by omega
 rw [vc8] at hsnd;have hv':(qws t d n [] (([]:List (Arr3_int64×Bool)),([]:List (List Int)))).2=(qrf t d).foldl q6k []:=by
  rw [hsnd];unfold qrf;rw [←e]
 rw [hv'] at h2 ⊢;have h7:7 ^ n≤7 ^ 3:=vvv (by omega) hn;have h343:7 ^ 3=343:=by decide
 have hnd:=qnr (qrf t d) [] List.nodup_nil;obtain ⟨s,g1,g2,g3⟩:=q6o ((qrf t d).foldl q6k []) (by simp at h2;omega) (fun a ha=>by
  rcases (qmf a (qrf t d) []).1 ha with h | h
  ·cases h
  ·rw [quf h];omega) hnd
 rw [g1];congr 1;refine (vi1 g3 fun z=>?_).symm;rw [g2.mem_iff,qmf];simp
theorem qvm (t:Table) (d:Denial) (T:TableOk t) (hs:∀r∈t.Rows,∀v∈r.Values,v.Str.length≤1048576) (hn:t.Rows.length≤7) (hl:d.Atoms.length≤1048576):qde t d=some (vi2 t d):=by
 unfold qde vi2;rw [q6q t d T hl,vrv];by_cases h:qjd t d=0
 ·rw [if_neg (by simp [h]),if_pos h];obtain ⟨h1,h2⟩:=q2m h;have H:DT t:=⟨T,h1,hn,hs⟩;obtain ⟨⟨hv1,hv2,hv3⟩,hat⟩:=qlx h2;have hv:d.Vars=((d.Vars.toNat:Nat):Int):=by omega
  have h0:SeenOk d.Vars.toNat (([]:List (Arr3_int64×Bool)),([]:List (List Int))):=⟨by simp,fun z _=>by simp [qrv]⟩;have hL:=vdo H h2 hv (by omega) (by omega) (([]:List (Arr3_int64×Bool)),([]:List (List Int))) h0 (by simp);have hc:¬((((([]:List Row).length:Nat):Int) == d.Vars)=true):=by simp;omega
  simp only [vrv,if_neg hc];rw [hL];simp only [vrv,if_true];rw [q6r t d (by omega) hn hv,vrv]
 ·rw [if_pos (by simpa using h),if_neg h]
theorem vo1 {t:Table} (h:qo9 t):∀r∈t.Rows,∀v∈r.Values,v.Str.length≤1048576:=fun r hr v hv=>((h.2.2.2 r hr).2.2 v hv).2.2
theorem dt_of {t:Table} (h:qo9 t) (G:qkl t) (hn:t.Rows.length≤7):DT t:=⟨q30 h,G.err,hn,vo1 h⟩
def q6s (n:Nat) (vars:Nat) (s:Drossref18_Side):Term:=if s.Var.toNat % (vars+1)=0∨n=0 then ⟨0,0,ofV s.Code⟩ else ⟨((s.Var.toNat % (vars+1):Nat):Int),((s.Code.toNat % n:Nat):Int),⟨0,0,[]⟩⟩
def vah (n vars:Nat) (a:Drossref18_Sentence):Atom:=⟨q6s n vars a.Left,((1+a.Op.toNat % 4:Nat):Int),q6s n vars a.Right⟩
def q6t (n:Nat) (r:Drossref18_Recipe):Denial:=⟨((1+r.Vars.toNat % 3:Nat):Int),r.Atoms.map (vah n (1+r.Vars.toNat % 3))⟩
theorem qn9 {a:Int} {b:Nat} (h:0≤a):vua a (b:Int)=((a.toNat % b:Nat):Int):=by
 obtain ⟨k,rfl⟩:=vuk h;rw [vtv]
 first | exact (Int.ofNat_tmod k b).symm | (rw [vun (vul k)];exact (Int.natCast_emod k b).symm) | (rw [vun (vul k)];simp)
theorem vai {n vars:Nat} (hn:n≤16) (hv:vars≤3) {s:Drossref18_Side} (hs:qfn s):qfb (n:Int) (vars:Int) s=some (q6s n vars s):=by
 have h1:=qnq hs.1;have h2:=qnq hs.2;have w1:vsg.wrap ((vars:Int)+1)=((vars+1:Nat):Int):=by rw [wrap_i64 (by omega) (by omega)];omega
 have w2:vsg.wrap s.Var=s.Var:=wrap_i64 (by omega) (by omega);have w3:vsg.wrap s.Code=s.Code:=wrap_i64 (by omega) (by omega);unfold qfb q6s;rw [w1,w2,w3,if_neg (by omega),qn9 h1.1];by_cases h0:s.Var.toNat % (vars+1)=0
 ·rw [if_pos (show s.Var.toNat % (vars+1)=0∨n=0 from .inl h0)];have:((((s.Var.toNat % (vars+1):Nat):Int)) == 0)=true:=by rw [h0];rfl
  simp only [this,if_true,vrv,(qqe s.Code).1]
 ·have:¬(((((s.Var.toNat % (vars+1):Nat):Int)) == 0)=true):=by
   generalize s.Var.toNat % (vars+1)=q at *;simp;exact h0
  simp only [if_neg this,vrv];by_cases hn0:n=0
  ·rw [if_pos (show s.Var.toNat % (vars+1)=0∨n=0 from .inr hn0)];subst hn0;simp only [vum,beq_self_eq_true,if_true,(qqe s.Code).1,vrv]
  ·rw [if_neg (show ¬(s.Var.toNat % (vars+1)=0∨n=0) by rintro (h | h);exact h0 h;exact hn0 h)];have:¬(((n:Int) == 0)=true):=by simpa using hn0
   simp only [if_neg this,if_neg (show ¬(n:Int)=0 by omega),qn9 h2.1]
theorem q6u {n vars:Nat} (s:Drossref18_Side):qrd (n:Int) (vars:Int) (q6s n vars s)=true:=by
 unfold q6s qrd;by_cases h0:s.Var.toNat % (vars+1)=0∨n=0
 ·rw [if_pos h0,if_pos rfl];simp [(qqe s.Code).2.1]
 ·rw [if_neg h0];have h1:¬s.Var.toNat % (vars+1)=0:=fun h=>h0 (.inl h)
  have h2:¬n=0:=fun h=>h0 (.inr h)
  have h3:=vro s.Var.toNat (show 0 < vars+1 by omega);have h4:=vro s.Code.toNat (show 0 < n by omega);rw [if_neg (by simp only;omega)];simp only [vpq,decide_eq_true_eq];refine ⟨⟨by omega,by omega,by omega,by omega⟩,by decide⟩
theorem vi3 {n:Nat} (hn:n≤16) {r:Drossref18_Recipe} (h:qfw r):qh7 (n:Int) r=some (q6t n r,decide ((r.Atoms.length:Int)≤5)):=by
 have hv:=qnq h.1;have w0:vua r.Vars 3=((r.Vars.toNat % 3:Nat):Int):=qn9 (b:=3) hv.1;have wv:vsg.wrap (1+(vsg.wrap (vua r.Vars 3)))=((1+r.Vars.toNat % 3:Nat):Int):=by
  rw [w0,wrap_i64 (n:=((r.Vars.toNat % 3:Nat):Int)) (by omega) (by omega),wrap_i64 (by omega) (by omega)];omega
 have hL:=qe5 r.Atoms (fun (b:List Atom) (i:Int)=>(b,i)) (qf3 (n:Int) r) (fun b a=>b++[vah n (1+r.Vars.toNat % 3) a]) id (fun k b=>b.length=k) (b0:=[]) (s0:=([],0)) rfl rfl
  (fun k b x hx hk hI=>by
   refine ⟨?_,by simp [hI]⟩;have hlen:=h.2.1;obtain ⟨g1,g2,g3⟩:=h.2.2 x (vqx hx);have g2':=qnq g2;have w4:vua x.Op 4=((x.Op.toNat % 4:Nat):Int):=qn9 (b:=4) g2'.1;have wo:vsg.wrap (1+(vsg.wrap (vua x.Op 4)))=((1+x.Op.toNat % 4:Nat):Int):=by
    rw [w4,wrap_i64 (n:=((x.Op.toNat % 4:Nat):Int)) (by omega) (by omega),wrap_i64 (by omega) (by omega)];omega
   simp only [qf3,if_pos (qak hx),qae hx,vrv,wv,vai hn (show 1+r.Vars.toNat % 3≤3 by omega) g1,vai hn (show 1+r.Vars.toNat % 3≤3 by omega) g3,qdv (show b.length+1≤1073741824 by omega) (show 104≤65536 by omega),if_true,wo,qbo hk (show r.Atoms.length≤4611686018427387904 by omega)];rfl)
  (fun b _=>by simp [qf3])
 unfold qh7 q6t;rw [hL,vrv,wv];have key:∀(l:List Drossref18_Sentence) (b:List Atom),l.foldl (fun b a=>b++[vah n (1+r.Vars.toNat % 3) a]) b=b++l.map (vah n (1+r.Vars.toNat % 3)):=by
  intro l
  induction l with
  | nil=>intro b;simp
  | cons x l ih=>intro b;rw [vu5,ih];simp
 rw [id,key,vq2]
theorem quj {n:Nat} {r:Drossref18_Recipe} (hl:r.Atoms.length≤5):q0l (n:Int) (q6t n r)=true:=by
 unfold q0l q6t;simp only [vpq,decide_eq_true_eq,vsn,vqn];refine ⟨⟨by omega,by omega,by omega⟩,fun a ha=>?_⟩;obtain ⟨s,_,rfl⟩:=vtb.1 ha;unfold qvk vah;simp only [vpq,decide_eq_true_eq,q6u,and_self,and_true];omega
theorem vaj {t:Table} (H:DT t) {r:Drossref18_Recipe} (hl:r.Atoms.length≤5):qjd t (q6t t.Attrs.length r)=0:=by
 have hf:=H.few;unfold qjd;rw [if_neg (by simp [H.err]),if_pos (quj hl),if_neg (by omega)]
def atT (v a:Int):Term:=⟨v,a,⟨0,0,[]⟩⟩
def qyb (op a:Int):Atom:=⟨atT 1 a,op,atT 2 a⟩
def q2o (s a:Nat):Denial:=⟨2,((qi6 s).map fun x:Nat=>qyb 1 (x:Int))++[qyb 2 (a:Int)]⟩
def fdL (s r:Nat):List Denial:=(qi6 (qr7 r s)).map (q2o s)
theorem vak (op a:Int):qj4 op a=some (qyb op a):=rfl
theorem q6v {s n:Nat} (hn:n≤32) (h:s < 2 ^ n):qi6 s=(vq3 n).filter fun i=>s.testBit i:=by
 unfold qi6;obtain ⟨m,hm⟩:∃m,32=n+m:=⟨32 - n,by omega⟩;rw [hm,List.range_add,vuy];have:(List.map (fun x=>n+x) (vq3 m)).filter (fun i=>s.testBit i)=[]:=by
  rw [vu0];intro i hi;obtain ⟨j,_,rfl⟩:=vtb.1 hi;rw [q0a h (by omega)];simp
 rw [this,vp1]
def fdB (n s r:Nat):Bool:=decide ((s ||| r) < 2 ^ n)
theorem one_of {α:Type} {y x:α} {k:Nat} (h:[y][k]?=some x):x=y:=vtd.1 (vqx h)
theorem q6w {n s r:Nat} (hn:n≤16) (hs:s < 4294967296) (hr:r < 4294967296):qia (n:Int) [⟨(s:Int),(r:Int)⟩]=some (if fdB n s r=true then 0 else 1):=by
 have hor:=vot hs hr;have hsh:((vt9 (((s ||| r:Nat):Int)) (2 ^ (min ((n:Int)).toNat 32))) != 0)=!fdB n s r:=by
  rw [vtv,vtm (show n≤32 by omega),qpz];unfold fdB;by_cases h:(s ||| r) < 2 ^ n
  ·rw [vvo h];simp [h]
  ·have h2:=Nat.div_pos (show 2 ^ n≤(s ||| r) by omega) (vvw (n:=n) (show 0 < 2 by omega));simp only [h,decide_false,vui,bne_iff_ne,ne_eq];omega
 have h:=qlv [(⟨(s:Int),(r:Int)⟩:FD)] (qei (n:Int) [⟨(s:Int),(r:Int)⟩]) (fun _=>fdB n s r) (1:Int)
  (fun k x hx hk hp=>by
   have hxe:=one_of hx;subst hxe;simp only [qei,if_pos (qak hx),qae hx,vrv,q31 hs hr,if_neg (show ¬(n:Int) < 0 by omega),hsh,hp,Bool.not_true,vps,if_false,qbo hk (show [(⟨(s:Int),(r:Int)⟩:FD)].length≤4611686018427387904 by simp)])
  (fun k x hx hp=>by
   have hxe:=one_of hx;subst hxe;simp only [qei,if_pos (qak hx),qae hx,vrv,q31 hs hr,if_neg (show ¬(n:Int) < 0 by omega),hsh,hp,vui,if_true])
  (by simp [qei])
 unfold qia;rw [if_neg (by omega),if_neg (by omega),if_neg (by simp),h,vrv];cases hb:fdB n s r <;> simp
theorem vdp (l:List Nat) (hl:l.length≤32):qal (qej (l.map fun x:Nat=>(x:Int))) ([],0)=some (l.map fun x:Nat=>qyb 1 (x:Int)):=by
 have h:=qe5 (l.map fun x:Nat=>(x:Int)) (fun (b:List Atom) (i:Int)=>(b,i)) (qej (l.map fun x:Nat=>(x:Int))) (fun b x=>b++[qyb 1 x]) id (fun k b=>b.length=k) (b0:=[]) (s0:=([],0)) rfl rfl
  (fun k b x hx hk hI=>by
   refine ⟨?_,by simp [hI]⟩;rw [vqn] at hk;simp only [qej,if_pos (qak hx),qae hx,vrv,vak,qdv (show b.length+1≤1073741824 by omega) (show 104≤65536 by omega),if_true,qbo hk (show l.length≤4611686018427387904 by omega)])
  (fun b _=>by simp [qej])
 have key:∀(l:List Int) (b:List Atom),l.foldl (fun b x=>b++[qyb 1 x]) b=b++l.map (qyb 1):=by
  intro l
  induction l with
  | nil=>intro b;simp
  | cons x l ih=>intro b;rw [vu5,ih];simp
 rw [h,id,key,vq2,List.map_map];rfl
theorem vam {n s r:Nat} (hn:n≤16) (hs:s < 4294967296) (hr:r < 4294967296):qib (n:Int) ⟨(s:Int),(r:Int)⟩=some (if fdB n s r=true then (fdL s r,0) else ([],1)):=by
 unfold qib;rw [q6w hn hs hr,vrv];by_cases hb:fdB n s r=true
 ·have hd:=vc0 (b:=s) hr;simp only [hb,if_true,bne_self_eq_false,vps,if_false,vcx hr hs,qt6 hd,vrv];have h:=qe5 (qi6 (qr7 r s)) (fun (b:List Denial) (i:Int)=>(b,i)) (qf4 ⟨(s:Int),(r:Int)⟩ ((qi6 (qr7 r s)).map fun x:Nat=>(x:Int))) (fun b x=>b++[q2o s x]) id (fun k b=>b.length=k) (b0:=[]) (s0:=([],0)) rfl rfl
   (fun k b x hx hk hI=>by
    refine ⟨?_,by simp [hI]⟩;have hl:=qqd (qr7 r s);have hls:=qqd s;have hx':((qi6 (qr7 r s)).map fun x:Nat=>(x:Int))[k]?=some (x:Int):=by rw [vqg,hx];rfl
    simp only [qf4,vqn,if_pos (show (k:Int) < ((qi6 (qr7 r s)).length:Int) by omega),qae hx',vrv,qt6 hs,vdp (qi6 s) hls,vak,vqn,qdv (show (qi6 s).length+1≤1073741824 by omega) (show 104≤65536 by omega),qdv (show b.length+1≤1073741824 by omega) (show 32≤65536 by omega),if_true,qbo hk (show (qi6 (qr7 r s)).length≤4611686018427387904 by omega)];rfl)
   (fun b _=>by simp [qf4])
  rw [h,vrv];have key:∀(l:List Nat) (b:List Denial),l.foldl (fun b x=>b++[q2o s x]) b=b++l.map (q2o s):=by
   intro l
   induction l with
   | nil=>intro b;simp
   | cons x l ih=>intro b;rw [vu5,ih];simp
  rw [id,key,vq2];rfl
 ·rw [if_neg hb,if_neg hb];rfl
end Go.Proofs.YtfnmcjkkfnhpnaaGreatDoor
namespace Go.Ab
open Go
abbrev FnM:=Nat→Nat→Int
def updM (F:FnM) (i j:Nat) (v:Int):FnM:=fun a b=>if a=i∧b=j then v else F a b
end Go.Ab
namespace Go.Proofs.YtfnmcjkkfnhpnaaGreatDoor
open Go Go.Ab
def putM (F:FnM) (i j:Nat) (w:Int):FnM:=updM F i j (max (F i j) w)
theorem vi4 {t:Table} (H:DT t) {d:Denial} (he:qjd t d=0) (hl:d.Atoms.length≤1048576):qde t d=some (vdf (qrf t d),0):=by
 rw [qvm t d H.ok H.str H.few hl];unfold vi2;rw [if_pos he]
theorem quk {n s:Nat} (hn:n≤16) (hs:s < 2 ^ n):(qi6 s).length≤n:=by
 rw [q6v (by omega) hs];have:=vsx (fun i=>s.testBit i) (vq3 n);rw [vsz] at this;exact this
theorem q0s {n:Nat} {x:Nat} (hx:x < n) {op:Int} (ho:1≤op∧op≤4):qvk (n:Int) 2 (qyb op (x:Int))=true:=by
 unfold qvk qyb atT qrd;simp only [vpq,decide_eq_true_eq];refine ⟨ho,?_,?_⟩
 ·rw [if_neg (by decide)];simp only [vpq,decide_eq_true_eq];exact ⟨⟨by omega,by omega,by omega,by omega⟩,by decide⟩
 ·rw [if_neg (by decide)];simp only [vpq,decide_eq_true_eq];exact ⟨⟨by omega,by omega,by omega,by omega⟩,by decide⟩
theorem van {n s x:Nat} (hs:s < 2 ^ n) (hx:x∈qi6 s):x < n:=by
 obtain ⟨h1,h2⟩:=q33 hx;rcases vvs x n with h' | h'
 ·exact h'
 ·rw [q0a hs h'] at h2;cases h2
theorem vdq {t:Table} (H:DT t) (hn:t.Attrs.length≤16) {s r:Nat} (hs:s < 2 ^ t.Attrs.length) (hr:r < 2 ^ t.Attrs.length):∀d∈fdL s r,qjd t d=0:=by
 intro d hd;obtain ⟨x,hx,rfl⟩:=vtb.1 hd;have hxr:x < t.Attrs.length:=by
  obtain ⟨h1,h2⟩:=q33 hx;rw [qqb,vpq] at h2;rcases vvs x t.Attrs.length with h' | h'
  ·exact h'
  ·rw [q0a hr h'] at h2;cases h2.1
 have hb:q0l t.Attrs.length (q2o s x)=true:=by
  unfold q0l q2o;have:=quk hn hs;simp only [vpq,decide_eq_true_eq,vql,vqn,vs2,vuv,List.all_map,vsn,List.all_cons,List.all_nil,vpr,Function.comp];exact ⟨⟨by omega,by omega,by omega⟩,fun y hy=>q0s (van hs hy) (by omega),q0s hxr (by omega)⟩
 unfold qjd;rw [if_neg (by simp [H.err]),if_pos hb,if_neg (by rintro ⟨h,_⟩;cases h)]
def q6x (n rhs:Int):Int→List Int→Bool
 | _,[]=>true
 | b,x :: l=>(decide (b < x) && (decide (x < n) && decide (x≠rhs))) && q6x n rhs x l
def q0t (p:Cell):Bool:=if p.Any=true then ((p.Value.Kind == 0) && ((p.Value.Num == 0) && (p.Value.Str == []))) else qob p.Value
def q4i (n:Int) (c:CFD):Bool:=decide (0≤n∧n≤16∧0≤c.Rhs∧c.Rhs < n∧c.Pattern.length=c.Lhs.length+1) && (q6x n c.Rhs (-1) c.Lhs && c.Pattern.all q0t)
theorem vdr (p:Cell):qda p=some (!q0t p):=by
 unfold qda q0t;by_cases h:p.Any=true
 ·rw [if_pos h,if_pos h];cases ((p.Value.Kind == 0) && ((p.Value.Num == 0) && (p.Value.Str == []))) <;> rfl
 ·rw [if_neg h,if_neg h,qla,vrv]
theorem qoe (l:List Cell) (f:Cell→Option Bool) (p:Cell→Bool) (hf:∀x∈l,f x=some (p x)) (hl:l.length≤1000000):qcn l f=some (l.any p):=by
 have h:=qg3 l (qbt l f) p
  (fun k x hx hk hp=>by simp [qbt,qak hx,qae hx,hf x (vqx hx),hp,qbo hk (by omega)])
  (fun k x hx hp=>by simp [qbt,qak hx,qae hx,hf x (vqx hx),hp])
  (by simp [qbt])
 have hI:qdn l f=some (match l.findIdx? p with | some i=>(i:Int) | none=>-1):=by
  simp only [qdn,h,vrv];cases l.findIdx? p <;> rfl
 simp only [qcn,hI,vrv];exact congrArg some (qhn p l)
theorem vff (n:Int) (c:CFD) (hl:c.Lhs.length≤1000000):∀(r:List Int) (k:Nat) (b:Int),c.Lhs.drop k=r→k≤c.Lhs.length→qal (qa5 n c) (b,(k:Int))=some (if q6x n c.Rhs b r=true then .inl () else .inr false)
 | [],k,b,hd,hk=>by
  have:=qqi hd hk;subst this;exact qat (by simp [qa5,q6x])
 | x :: r,k,b,hd,hk=>by
  obtain ⟨x1,x2,x3⟩:=qqh hd;by_cases h1:x≤b
  ·rw [qat (t:=.inr false) (by simp only [qa5,if_pos (qak x1),qae x1,vrv,if_pos h1])];simp [q6x,show ¬b < x by omega]
  ·by_cases h2:x≥n
   ·rw [qat (t:=.inr false) (by simp only [qa5,if_pos (qak x1),qae x1,vrv,if_neg h1,if_pos h2])];simp [q6x,show ¬x < n by omega]
   ·by_cases h3:x=c.Rhs
    ·rw [qat (t:=.inr false) (by simp only [qa5,if_pos (qak x1),qae x1,vrv,if_neg h1,if_neg h2,if_pos (show (x == c.Rhs)=true by simpa using h3)])];simp [q6x,h3]
    ·rw [qbd (s':=(x,((k+1:Nat):Int))) (by simp only [qa5,if_pos (qak x1),qae x1,vrv,if_neg h1,if_neg h2,if_neg (show ¬(x == c.Rhs)=true by simpa using h3),qbo x3 (show c.Lhs.length≤4611686018427387904 by omega)])];rw [vff n c hl r (k+1) x x2 x3];simp [q6x,show b < x by omega,show x < n by omega,h3]
theorem q0u (n:Int) (c:CFD) (h1:c.Lhs.length≤1000000) (h2:c.Pattern.length≤1000000):qd1 n c=some (q4i n c):=by
 have hL:=vff n c h1 c.Lhs 0 (-1) rfl (vtq _);have hL':qal (qa5 n c) (-1,0)=_:=hL;unfold qd1 q4i;by_cases a1:n < 0
 ·rw [if_pos a1];simp [show ¬0≤n by omega]
 rw [if_neg a1];by_cases a2:n > 16
 ·rw [if_pos a2];simp [show ¬n≤16 by omega]
 rw [if_neg a2];by_cases a3:c.Rhs < 0
 ·rw [if_pos a3];simp [show ¬0≤c.Rhs by omega]
 rw [if_neg a3];by_cases a4:c.Rhs≥n
 ·rw [if_pos a4];simp [show ¬c.Rhs < n by omega]
 rw [if_neg a4];have hw:vsg.wrap ((c.Lhs.length:Int)+1)=((c.Lhs.length+1:Nat):Int):=qdl (by omega);rw [hw];by_cases a5:c.Pattern.length=c.Lhs.length+1
 ·rw [if_neg (by rw [a5];simp),hL',vrv];have e:(0≤n∧n≤16∧0≤c.Rhs∧c.Rhs < n∧c.Pattern.length=c.Lhs.length+1):=⟨by omega,by omega,by omega,by omega,a5⟩;simp only [e,and_self,decide_true,vuj];cases q6x n c.Rhs (-1) c.Lhs with
  | false=>simp
  | true =>
   simp only [if_true,vuj,qoe c.Pattern _ (fun p=>!q0t p) (fun p _=>vdr p) h2,vrv,q99]
 ·rw [if_pos (by simp only [bne_iff_ne,ne_eq];omega)];simp [a5]
theorem qhk {β σ τ:Type} (n:Nat) (S:β→Int→σ) (B:σ→Option (LS σ τ)) (fin:β→τ) (I:Nat→β→Prop) {b0:β} {s0:σ} (h00:s0=S b0 0) (h0:I 0 b0)
  (hs:∀(k:Nat) b,k < n→I k b→∃b',B (S b (k:Int))=some (.next (S b' ((k+1:Nat):Int)))∧I (k+1) b')
  (he:∀b,I n b→B (S b (n:Int))=some (.done (fin b))):∃b,qal B s0=some (fin b)∧I n b:=by
 have key:∀(m k:Nat) (b:β),k+m=n→I k b→∃b',qal B (S b (k:Int))=some (fin b')∧I n b':=by
  intro m
  induction m with
  | zero =>
   intro k b hk hi;have:k=n:=by omega
   subst this;exact ⟨b,qat (he b hi),hi⟩
  | succ m ih =>
   intro k b hk hi;obtain ⟨b',h1,h2⟩:=hs k b (by omega) hi;obtain ⟨b2,h3,h4⟩:=ih (k+1) b' (by omega) h2;exact ⟨b2,by rw [qbd h1];exact h3,h4⟩
 subst h00;exact key n 0 b0 (by omega) h0
theorem vds (x:Drossref03_Recipe) (h:qfv x):qdt x 6=some (⟨[],[],[]⟩,false)∨∃t,qdt x 6=some (t,true)∧qo9 t∧qkl t∧t.Rows.length≤6∧t.Attrs.length≤5∧t.Name=[114]:=by
 by_cases hr:x.Rows.length≤6
 ·right;obtain ⟨ha,hg,hl⟩:=h;have ha':=qnq ha;have hg':=qnq hg;have h1:¬((x.Rows.length:Int) > 6):=by omega
  have hm:vua x.Attrs 6=((x.Attrs.toNat % 6:Nat):Int):=by
   rw [vun ha'.1];omega
  have e1:vsg.wrap (vua x.Attrs 6)=((x.Attrs.toNat % 6:Nat):Int):=by rw [hm,wrap_i64 (by omega) (by omega)]
  refine ⟨q37 x (x.Attrs.toNat % 6),?_,viy _ _ (by omega) (by omega),q2i x (by omega),?_,?_,rfl⟩
  ·simp only [qdt,if_neg h1,e1,vit x (x.Attrs.toNat % 6) (by omega) (by omega) (fun r hr=>(hl.2 r hr).1) hg',vrv]
  ·simp only [q37,vqn,vsz];exact hr
  ·simp only [q37,vqr];omega
 ·left;simp only [qdt,if_pos (show (x.Rows.length:Int) > 6 by omega)]
theorem vdt {n:Nat} (hn:n≤16) (d:Drossref09_Dep) (h:qhj d):qfd (n:Int) [d]=some [⟨((d.L.toNat % 2 ^ n:Nat):Int),((d.R.toNat % 2 ^ n:Nat):Int)⟩]:=by
 unfold qfd;rw [q98 hn,vrv];rw [qbd (s':=([(⟨((d.L.toNat % 2 ^ n:Nat):Int),((d.R.toNat % 2 ^ n:Nat):Int)⟩:FD)],1)) (by
  have e:idx [d] 0=some d:=rfl;simp only [qgh,vs2,e,if_pos (show (0:Int) < ((1:Nat):Int) by decide),vrv,vaa hn (qnq h.1),vaa hn (qnq h.2),vqo,qt1 (show 0+1≤17592186044416 by omega),if_true,vq2];rfl)]
 rw [qat (t:=[⟨((d.L.toNat % 2 ^ n:Nat):Int),((d.R.toNat % 2 ^ n:Nat):Int)⟩]) (by simp [qgh])];rfl
theorem qrg (n rhs:Int) (p:Nat→Bool) (hp:∀a,p a=true→(a:Int)≠rhs):∀(m s:Nat) (b:Int),b < (s:Int)→((s+m:Nat):Int)≤n→q6x n rhs b (((List.range' s m).filter p).map fun a:Nat=>(a:Int))=true
 | 0,_,_,_,_=>rfl
 | m+1,s,b,hb,hn=>by
  rw [vvi,vuz];by_cases h:p s=true
  ·rw [if_pos h,vqt];simp only [q6x,vpq,decide_eq_true_eq];exact ⟨⟨hb,by omega,hp s h⟩,qrg n rhs p hp m (s+1) s (by omega) (by omega)⟩
  ·rw [if_neg h];exact qrg n rhs p hp m (s+1) b (by omega) (by omega)
theorem q2p {α β:Type} (p:α→Bool) (f:α→β) (l:List α):∀(b:List β),l.foldl (fun b a=>if p a=true then b++[f a] else b) b=b++(l.filter p).map f:=by
 induction l with
 | nil=>intro b;simp
 | cons a l ih =>
  intro b;rw [vu5,ih,vuz];by_cases h:p a=true
  ·rw [if_pos h,if_pos h];simp
  ·rw [if_neg h,if_neg h]
theorem vi5 {n:Nat} (h0:0 < n) (hn:n≤16) (d:Drossref16_Draft) (h:qgi d):∃c,qh5 (n:Int) d=some c∧q4i n c=true∧c.Lhs.length≤n:=by
 obtain ⟨h1,h2,h3⟩:=h;have a1:=qnq h1;have a2:=qnq h2;have hw:vsg.wrap d.Rhs=d.Rhs:=wrap_i64 (by omega) (by omega);have hr:vua d.Rhs (n:Int)=((d.Rhs.toNat % n:Nat):Int):=qn9 a2.1;have hl:vsi.wrap d.Lhs=((d.Lhs.toNat:Nat):Int):=by rw [qse (by omega) (by omega)];omega
 have hrn:d.Rhs.toNat % n < n:=vro _ h0;have L1:=qe5 (vq3 n) (fun (b:List Int) (i:Int)=>(b,i)) (qf1 (n:Int) d) (fun b (a:Nat)=>if (d.Lhs.toNat.testBit a && decide (a≠d.Rhs.toNat % n))=true then b++[(a:Int)] else b) id (fun k b=>b.length≤k) (b0:=[]) (s0:=([],0)) rfl (by simp)
  (fun k b x hx hk hI=>by
   have hxk:x=k:=by
    have:=(vqf.1 hx).2;simpa using this.symm
   subst hxk;rw [vsz] at hk;have hb:=viz (s:=d.Lhs.toNat) (k:=x) (by omega) (by omega);have hw1:vsg.wrap ((x:Int)+1)=((x+1:Nat):Int):=qdl (by omega);have hne:((x:Int) != ((d.Rhs.toNat % n:Nat):Int))=decide (x≠d.Rhs.toNat % n):=by
    rw [vuf];simp only [bne_iff_ne,ne_eq,decide_eq_true_eq];omega
   simp only [qf1,if_pos (show (x:Int) < (n:Int) by omega),hl,hb,vrv,hw,hr,hne,hw1];cases ht:d.Lhs.toNat.testBit x with
   | false=>simp;omega
   | true =>
    by_cases hx2:x=d.Rhs.toNat % n
    ·simp [hx2];omega
    ·simp only [if_true,vrv,hx2,ne_eq,not_false_eq_true,decide_true,Bool.and_self,qt1 (show b.length+1≤17592186044416 by omega)];refine ⟨trivial,by simp;omega⟩)
  (fun b hI=>by simp [qf1])
 rw [q2p,vq2] at L1;generalize hc:(((vq3 n).filter fun a:Nat=>d.Lhs.toNat.testBit a && decide (a≠d.Rhs.toNat % n)).map fun a:Nat=>(a:Int))=c at L1;have hcl:c.length≤n:=by
  rw [←hc,vqn];exact vrl (vsx _ _) (by simp)
 obtain ⟨cells,e1,e2,e3⟩:=qhk (c.length+1) (fun (b:List Cell) (i:Int)=>(b,i)) (qf2 d c) id (fun k b=>b.length=k∧b.all q0t=true) (b0:=[]) (s0:=([],0)) rfl ⟨rfl,rfl⟩
  (fun k b hk hI=>by
   obtain ⟨i1,i2⟩:=hI;have hw1:vsg.wrap ((k:Int)+1)=((k+1:Nat):Int):=qdl (by omega);have hroom:qdi (b.length+1) 40=true:=qdv (by omega) (by omega);have any:∃b',some (LS.next (τ:=List Cell) ((b++[(Cell.mk true (Value.mk 0 0 []))]),((k+1:Nat):Int)))=some (LS.next (b',((k+1:Nat):Int)))∧(b'.length=k+1∧b'.all q0t=true) :=
    ⟨_,rfl,by simp [i1],by rw [vuv,i2];simp [q0t]⟩
   simp only [qf2,if_pos (show (k:Int)≤((c.length:Nat):Int) by omega),hw1,hroom,if_true];by_cases hk2:(k:Int)≥(d.Codes.length:Int)
   ·simp only [if_pos hk2,vrv,if_true];exact any
   ·have hx:d.Codes[k]?=some d.Codes[k]:=vqd (by omega);simp only [if_neg hk2,qae hx,vrv];by_cases hb:(vua d.Codes[k] 2 == 0)=true
    ·rw [if_pos hb];exact any
    ·rw [if_neg hb];simp only [(qqe _).1,vrv];refine ⟨_,rfl,by simp [i1],?_⟩;rw [vuv,i2];simp [q0t,(qqe _).2.1])
  (fun b hI=>by simp only [qf2];rw [if_neg (by omega)];rfl)
 refine ⟨⟨c,((d.Rhs.toNat % n:Nat):Int),cells⟩,?_,?_,hcl⟩
 ·simp only [qh5,if_neg (show ¬((n:Int)=0) by omega),L1,id,vrv,e1,hw,hr]
 ·unfold q4i;simp only [vpq,decide_eq_true_eq];refine ⟨⟨by omega,by omega,by omega,by omega,e2⟩,?_,e3⟩;rw [←hc,vq4];exact qrg _ _ _ (fun a ha=>by simp only [vpq,decide_eq_true_eq] at ha;omega) n 0 (-1) (by omega) (by omega)
theorem qiz {β σ τ:Type} (n:Nat) (S:β→Int→σ) (B:σ→Option (LS σ τ)) (I:Nat→β→Prop) (T:τ→Prop) {b0:β} {s0:σ} (m:Nat) (hm:m≤n) (h00:s0=S b0 (m:Int)) (h0:I m b0)
  (hs:∀(k:Nat) b,m≤k→k < n→I k b→(∃b',B (S b (k:Int))=some (.next (S b' ((k+1:Nat):Int)))∧I (k+1) b')∨∃t,B (S b (k:Int))=some (.done t)∧T t)
  (he:∀b,I n b→∃t,B (S b (n:Int))=some (.done t)∧T t):∃o,qal B s0=some o∧T o:=by
 have key:∀(j k:Nat) (b:β),k+j=n→m≤k→I k b→∃o,qal B (S b (k:Int))=some o∧T o:=by
  intro j
  induction j with
  | zero =>
   intro k b hk _ hi;have:k=n:=by omega
   subst this;obtain ⟨t,ht,h⟩:=he b hi;exact ⟨t,qat ht,h⟩
  | succ j ih =>
   intro k b hk hmk hi;rcases hs k b hmk (by omega) hi with ⟨b',h1,h2⟩ | ⟨t,h1,h2⟩
   ·obtain ⟨o,h3,h4⟩:=ih (k+1) b' (by omega) (by omega) h2;exact ⟨o,by rw [qbd h1];exact h3,h4⟩
   ·exact ⟨t,qat h1,h2⟩
 subst h00;exact key (n - m) m b0 (by omega) (vrj _) h0
theorem q2q (a b:List Int) (ha:a.length≤1000) (hb:b.length≤1000):qcj [a,b]=some (a++b):=by
 have h1:qal (qa3 [a,b]) (0,0)=some (((a.length+b.length:Nat):Int)):=by
  have w1:vsg.wrap (0+(a.length:Int))=(a.length:Int):=by rw [Int.zero_add];exact wrap_i64 (by omega) (by omega)
  have w2:vsg.wrap ((a.length:Int)+(b.length:Int))=((a.length+b.length:Nat):Int):=by rw [wrap_i64 (by omega) (by omega)];omega
  have s1:qa3 [a,b] (0,0)=some (.next ((a.length:Int),1)):=by
   have e:idx [a,b] 0=some a:=rfl;simp only [qa3,e,vsv,vqo,if_pos (show (0:Int) < ((0+1+1:Nat):Int) by decide),vrv,w1,if_neg (show ¬(a.length:Int) < 0 by omega)];rfl
  have s2:qa3 [a,b] ((a.length:Int),1)=some (.next (((a.length+b.length:Nat):Int),2)):=by
   have e:idx [a,b] 1=some b:=rfl;simp only [qa3,e,vsv,vqo,if_pos (show (1:Int) < ((0+1+1:Nat):Int) by decide),vrv,w2,if_neg (show ¬((a.length+b.length:Nat):Int) < 0 by omega)];rfl
  rw [qbd s1,qbd s2];exact qat (by simp [qa3])
 have h2:qal (qa4 [a,b]) (([]:List Int),0)=some (a++b):=by
  have s1:qa4 [a,b] ([],0)=some (.next (a,1)):=by
   have e:idx [a,b] 0=some a:=rfl;simp only [qa4,e,vsv,vqo,if_pos (show (0:Int) < ((0+1+1:Nat):Int) by decide),vrv,qt1 (show 0+a.length≤17592186044416 by omega),if_true,vq2];rfl
  have s2:qa4 [a,b] (a,1)=some (.next (a++b,2)):=by
   have e:idx [a,b] 1=some b:=rfl;simp only [qa4,e,vsv,vqo,if_pos (show (1:Int) < ((0+1+1:Nat):Int) by decide),vrv,qt1 (show a.length+b.length≤17592186044416 by omega),if_true];rfl
  rw [qbd s1,qbd s2];exact qat (by simp [qa4])
 simp only [qcj,h1,vrv,if_pos (show (0:Int)≤((a.length+b.length:Nat):Int) by omega),if_pos (show ((a.length+b.length:Nat):Int)≤1000000000000 by omega),h2]
theorem qyc (l:List Int) (c:List (Arr3_int64×Bool)) (hl:l.length≤1000):∃b,qey l c=some b:=by
 obtain ⟨o,ho,_⟩:=qiz (β:=Unit) l.length (fun _ i=>i) (qdo l c) (fun _ _=>True) (fun _=>True) (b0:=()) (s0:=0) 0 (vtq _) rfl trivial
  (fun k _ _ hk _=>by
   have hw:vsg.wrap ((k:Int)+1)=((k+1:Nat):Int):=qdl (by omega);have hw2:vsg.wrap (((k+1:Nat):Int))=((k+1:Nat):Int):=wrap_i64 (by omega) (by omega);have hcat:∀x y:List Int,x.length≤1000→y.length≤1000→qcj [x,y]=some (x++y):=q2q;have hc:=hcat (l.take ((k:Int)).toNat) ((l.drop (((k+1:Nat):Int)).toNat).take (l.length - (((k+1:Nat):Int)).toNat)) (by rw [vqr];omega) (by rw [vqr];omega);simp only [qdo,if_pos (show (k:Int) < (l.length:Int) by omega),hw,if_pos (show (0:Int)≤(k:Int) by omega),if_pos (show (k:Int)≤((k+1:Nat):Int) by omega),if_pos (show ((k+1:Nat):Int)≤(l.length:Int) by omega),
    if_pos (show (k:Int)≤(l.length:Int) by omega),if_pos (show (0:Int)≤((k+1:Nat):Int) by omega),hc,qdj,vrv]
   by_cases h1:(l.length:Int) > 1
   ·simp only [if_pos h1];split
    ·exact .inr ⟨_,rfl,trivial⟩
    ·by_cases h2:(l.length:Int) > 2
     ·simp only [if_pos h2];split
      ·exact .inr ⟨_,rfl,trivial⟩
      ·exact .inl ⟨(),rfl,trivial⟩
     ·simp only [if_neg h2]
      first | exact .inl ⟨(),rfl,trivial⟩ | exact .inl ⟨(),trivial,trivial⟩
   ·simp only [if_neg h1];by_cases h2:(l.length:Int) > 2
    ·simp only [if_pos h2];split
     ·exact .inr ⟨_,rfl,trivial⟩
     ·exact .inl ⟨(),rfl,trivial⟩
    ·simp only [if_neg h2]
     first | exact .inl ⟨(),rfl,trivial⟩ | exact .inl ⟨(),trivial,trivial⟩)
  (fun _ _=>⟨_,by simp only [qdo];rw [if_neg (by omega)],trivial⟩)
 unfold qey;rw [ho,vrv];cases o with
 | inl u=>exact ⟨_,rfl⟩
 | inr b=>exact ⟨_,rfl⟩
theorem vdu (l:List (List Int)) (hl:l.length≤1000000) (hs:∀a∈l,a.length≤1000000):∃s,q62 (fun (a:List Int) (b:List Int)=>qad a b) l=some s∧s.Perm l:=by
 have hc:∀x∈l,∀y∈l,(qad x y).getD 0=q6n x y:=fun x hx y hy=>by rw [qk4 x y (hs x hx) (hs y hy)];rfl
 have hok:qzn (fun x y=>(qad x y).getD 0) l:=by
  refine ⟨fun x hx=>?_,fun x hx y hy z hz h1 h2=>?_,fun x hx y hy z hz h1 h2=>?_⟩
  ·show ¬(qad x x).getD 0 < 0;rw [hc x hx x hx,qfx,que];simp
  ·replace h1:(qad x y).getD 0 < 0:=h1;replace h2:(qad y z).getD 0 < 0:=h2;show (qad x z).getD 0 < 0;rw [hc _ hx _ hy,qfx] at h1;rw [hc _ hy _ hz,qfx] at h2;rw [hc _ hx _ hz,qfx];exact qqg x y z h1 h2
  ·replace h1:¬(qad x y).getD 0 < 0:=h1;replace h2:¬(qad y z).getD 0 < 0:=h2;show ¬(qad x z).getD 0 < 0;rw [hc _ hx _ hy,qfx] at h1;rw [hc _ hy _ hz,qfx] at h2;rw [hc _ hx _ hz,qfx];have h1':ltL x y=false:=by simpa using h1
   have h2':ltL y z=false:=by simpa using h2
   rw [q2l x y z h1' h2'];simp
 refine ⟨srt (fun x y=>(qad x y).getD 0) l,?_,qxr hok⟩;unfold q62;rw [if_pos ⟨fun x hx y hy=>by show (qad x y).isSome=true;rw [qk4 x y (hs x hx) (hs y hy)];rfl,hok,by omega⟩]
theorem qul (l:List (List Int)) (hl:l.length≤1000000) (hs:∀a∈l,a.length≤1000) (m:Nat) (hm:1≤m) (hml:m < l.length) :
  ∃s k,qal (qck l (m:Int)) (l,(m:Int),1)=some (s,((k:Nat):Int))∧s.length=l.length∧k≤l.length∧∀e∈s,e∈l:=by
 obtain ⟨o,ho,h1⟩:=qiz (β:=List (List Int)×Nat) (l.length - m) (fun b i=>(b.1,(b.2:Int),i)) (qck l (m:Int)) (fun k b=>b.1.length=l.length∧b.2 < m+k∧∀e∈b.1,e∈l)
  (fun o=>∃s k,o=(s,((k:Nat):Int))∧s.length=l.length∧k≤l.length∧∀e∈s,e∈l) (b0:=(l,m)) (s0:=(l,(m:Int),1)) 1 (by omega) rfl ⟨rfl,by simp,fun _ h=>h⟩
  (fun k b hk1 hk hI=>by
   obtain ⟨i1,i2,i3⟩:=hI;have hw:vsg.wrap ((k:Int)+1)=((k+1:Nat):Int):=qdl (by omega);have hw1:vsg.wrap ((k:Int) - 1)=((k - 1:Nat):Int):=by rw [wrap_i64 (by omega) (by omega)];omega
   have hwb:vsg.wrap ((b.2:Int)+1)=((b.2+1:Nat):Int):=qdl (by omega);have g:∀j,j < l.length - m→∃x,((b.1.drop m).take (l.length - m))[j]?=some x∧x∈l:=fun j hj=>by
    have hx:b.1[m+j]?=some b.1[m+j]:=vqd (by omega);refine ⟨b.1[m+j],?_,i3 _ (vqx hx)⟩;rw [vqj,if_pos hj,vqc];exact hx
   obtain ⟨x,x1,x2⟩:=g k hk;obtain ⟨y,y1,y2⟩:=g (k - 1) (by omega);have hz:b.1[b.2]?=some b.1[b.2]:=vqd (by omega);have hE:=qor x y (by have:=hs x x2;omega);left;by_cases he:x=y
   ·refine ⟨b,?_,i1,by omega,i3⟩;simp only [qck,vtv,if_pos (show (k:Int) < (((l.length - m):Nat):Int) by omega),qae x1,vrv,hw1,qae y1,hE,decide_eq_true he,if_true,hw]
   ·refine ⟨(b.1.set b.2 x,b.2+1),?_,by simp [i1],by simp only;omega,?_⟩
    ·simp only [qck,vtv,if_pos (show (k:Int) < (((l.length - m):Nat):Int) by omega),qae x1,vrv,hw1,qae y1,hE,decide_eq_false he,vps,if_false,qae hz,hw,hwb]
    ·intro e h;rcases List.mem_or_eq_of_mem_set h with h | h
     ·exact i3 e h
     ·rw [h];exact x2)
  (fun b hI=>by
   obtain ⟨i1,i2,i3⟩:=hI;refine ⟨_,?_,b.1,b.2,rfl,i1,by omega,i3⟩;simp only [qck,vtv];rw [if_neg (by omega)])
 obtain ⟨s,k,rfl,h2⟩:=h1;exact ⟨s,k,ho,h2⟩
theorem qum (l:List (List Int)) (h2:2≤l.length) (hl:l.length≤1000000) (hs:∀a∈l,a.length≤1000) :
  ∃o,qal (qdf l) 1=some o∧∀z,o=.inr z→(∀e∈z,e∈l)∧z.length≤l.length:=by
 refine qiz (β:=Unit) l.length (fun _ i=>i) (qdf l) (fun _ _=>True) (fun o=>∀z,o=.inr z→(∀e∈z,e∈l)∧z.length≤l.length) (b0:=()) 1 (by omega) rfl trivial (fun k _ hk1 hk _=>?_) (fun _ _=>⟨.inl (),by simp only [qdf];rw [if_neg (by omega)],fun z h=>by cases h⟩);have hw:vsg.wrap ((k:Int)+1)=((k+1:Nat):Int):=qdl (by omega);have hw1:vsg.wrap ((k:Int) - 1)=((k - 1:Nat):Int):=by rw [wrap_i64 (by omega) (by omega)];omega
 have x1:l[k]?=some l[k]:=vqd hk;have y1:l[k - 1]?=some l[k - 1]:=vqd (by omega);have hE:=qor l[k] l[k - 1] (by have:=hs _ (vqx x1);omega);simp only [qdf,if_pos (show (k:Int) < ((l.length:Nat):Int) by omega),qae x1,vrv,hw1,qae y1,hE,hw,if_pos (show (0:Int)≤(k:Int) by omega),if_pos (show (k:Int)≤((l.length:Nat):Int) by omega)];by_cases he:l[k]=l[k - 1]
 ·right;obtain ⟨s,j,e1,e2,e3,e4⟩:=qul l hl hs k hk1 hk;rw [if_pos (decide_eq_true he),e1];simp only [vrv,if_pos (show (0:Int)≤(j:Int) by omega),if_pos (show (j:Int)≤((s.length:Nat):Int) by omega),vtv];have hlen:(s.take j).length=j:=by rw [vqr];omega
  rw [if_pos (by simp only [vqr,vqp,vqm];omega),if_pos (by simp only [vql,vqr];omega)];refine ⟨_,rfl,fun z hz=>?_⟩;cases hz;rw [vp0,vvk (by omega),vq9 (by omega)];exact ⟨fun e hez=>e4 e (vqz hez),by omega⟩
 ·left;rw [if_neg (by simpa using he)];exact ⟨(),rfl,trivial⟩
theorem q0v (all:List (List Int)) (hl:all.length≤1000000) (hs:∀a∈all,a.length≤1000):∃out,qf6 all=some out∧(∀e∈out,e∈all)∧out.length≤all.length:=by
 obtain ⟨seen,e1,_⟩:=qhk (β:=List (Arr3_int64×Bool)) all.length (fun b i=>(b,i)) (qec all) id (fun _ _=>True) (b0:=[]) (s0:=([],0)) rfl trivial
  (fun k b hk _=>by
   have hx:all[k]?=some all[k]:=vqd hk;refine ⟨qvc b (Arr3_int64.mk (all[k].getD 0 0) (all[k].getD 1 0) (all[k].getD 2 0)) true,?_,trivial⟩;simp only [qec,if_pos (qak hx),qae hx,qdj,vrv,wqn k])
  (fun b _=>by simp [qec])
 obtain ⟨out,e2,i1,i2⟩:=qhk (β:=List (List Int)) all.length (fun b i=>(b,i)) (qed all seen) id (fun k b=>(∀e∈b,e∈all)∧b.length≤k) (b0:=[]) (s0:=([],0)) rfl ⟨by simp,by simp⟩
  (fun k b hk hI=>by
   obtain ⟨i1,i2⟩:=hI;have hx:all[k]?=some all[k]:=vqd hk;have hm:all[k]∈all:=vqx hx;have hlen:=hs _ hm;obtain ⟨m1,hm1⟩:=qyc all[k] seen hlen;have hw:vsg.wrap ((k:Int)+1)=((k+1:Nat):Int):=qdl (by omega);have skip:∃b',some (LS.next (τ:=List (List Int)) (b,((k+1:Nat):Int)))=some (LS.next (b',((k+1:Nat):Int)))∧((∀e∈b',e∈all)∧b'.length≤k+1):=⟨b,rfl,i1,by omega⟩;have add:∃b',some (LS.next (τ:=List (List Int)) (b++[all[k]],((k+1:Nat):Int)))=some (LS.next (b',((k+1:Nat):Int)))∧((∀e∈b',e∈all)∧b'.length≤k+1) :=
    ⟨_,rfl,fun e he=>by
     rcases vqv.1 he with he | he
     ·exact i1 e he
     ·rw [vtd.1 he];exact hm,by simp;omega⟩
   simp only [qed,if_pos (qak hx),qae hx,qdj,vrv,hm1,hw,qoq all[k] (by omega),qdv (show b.length+1≤1073741824 by omega) (show 24≤65536 by omega),if_true];by_cases h1:((qrv seen (Arr3_int64.mk (all[k].getD 0 0) (all[k].getD 1 0) (all[k].getD 2 0))).getD false)=true
   ·rw [if_pos h1,vrv];cases m1 with
    | true=>exact skip
    | false=>exact add
   ·rw [if_neg h1,vrv];exact skip)
  (fun b _=>by simp [qed])
 obtain ⟨s,e3,hp⟩:=vdu out (by omega) (fun a ha=>by have:=hs a (i1 a ha);omega);have hlen:s.length=out.length:=hp.length_eq;have hmem:∀e∈s,e∈all:=fun e he=>i1 e (hp.mem_iff.1 he)
 unfold qf6;rw [e1,vrv,id,e2,vrv,id,e3,vrv];by_cases h2:((s.length:Nat):Int) < 2
 ·rw [if_pos h2];exact ⟨s,rfl,hmem,by omega⟩
 ·rw [if_neg h2];obtain ⟨o,e4,e5⟩:=qum s (by omega) (by omega) (fun a ha=>hs a (hmem a ha));rw [e4,vrv];cases o with
  | inl u=>exact ⟨s,rfl,hmem,by omega⟩
  | inr z =>
   obtain ⟨q1,q2⟩:=e5 z rfl;exact ⟨z,rfl,fun e he=>hmem e (q1 e he),by omega⟩
def qj7 (t:Table) (L:List (List Int)):Prop:=∀e∈L,(∀x∈e,∃r∈t.Rows,r.ID=x)∧e.length≤3
theorem qj7.append {t:Table} {L M:List (List Int)} (h1:qj7 t L) (h2:qj7 t M):qj7 t (L++M):=fun e he=>(vqv.1 he).elim (h1 e) (h2 e)
theorem vdv {t:Table} (H:DT t) {d:Denial} (he:qjd t d=0) (hl:d.Atoms.length≤1048576):∃L,qde t d=some (L,0)∧qj7 t L∧L.length≤343:=by
 have hb:q0l t.Attrs.length d=true:=by
  unfold qjd at he;rw [if_neg (by simp [H.err])] at he;by_cases h:q0l t.Attrs.length d=true
  ·exact h
  ·rw [if_neg h] at he;cases he
 obtain ⟨⟨hv1,hv2,hv3⟩,hat⟩:=qlx hb;have hv:d.Vars≤3:=by omega
 refine ⟨_,vi4 H he hl,fun e hmem=>?_,vrl (vdh _) (vaf H.few hv)⟩;have hz:=(q4f _ _).1 hmem;refine ⟨fun x hx=>?_,by rw [quf hz];omega⟩;unfold qrf at hz;obtain ⟨a,ha,rfl⟩:=vtb.1 hz;obtain ⟨_,h2,_⟩:=qx8 (vta.1 ha).1;have hx':x∈a.map Row.ID:=(qth _).mem_iff.1 hx;obtain ⟨r,hr,rfl⟩:=vtb.1 hx';exact ⟨r,h2 r hr,rfl⟩
theorem q4j (d:OD) (t:Table):∀rows:List Row,(∀r∈rows,r∈t.Rows)→qj7 t (q0e d rows)
 | [],_=>fun e he=>by cases he
 | a :: r,h=>by
  refine qj7.append (fun e he=>?_) (q4j d t r fun x hx=>h x (vs8 _ hx));unfold qvi at he;obtain ⟨b,hb,rfl⟩:=vtb.1 he;have hb':=h b (vs8 _ (vta.1 hb).1);have ha':=h a List.mem_cons_self;refine ⟨fun x hx=>?_,by simp⟩;simp only [vty,vvc,or_false] at hx;rcases hx with rfl | rfl
  ·exact ⟨a,ha',rfl⟩
  ·exact ⟨b,hb',rfl⟩
theorem vdw {t:Table} (G:qkl t) {d:OD} (h:qj6 t.Attrs.length d=true):∃L,qdc t d=some (L,0)∧qj7 t L∧L.length≤64:=by
 have he:=q6j G h;have e:=qx5 t d G.ok (qwq h);rw [if_pos he] at e;refine ⟨_,e,q4j d t _ fun r hr=>hr,?_⟩;have h1:=q0g d t.Rows;have h2:=G.rows;have:t.Rows.length * t.Rows.length≤8 * 8:=vvt h2 h2;omega
theorem q2r {n rhs:Int}:∀{l:List Int} {b:Int},-1≤b→q6x n rhs b l=true→∀x∈l,0≤x∧x < n
 | [],_,_,_,x,hx=>by cases hx
 | y :: l,b,hb,h,x,hx=>by
  simp only [q6x,vpq,decide_eq_true_eq] at h;rcases vty.1 hx with rfl | hx
  ·exact ⟨by omega,h.1.2.1⟩
  ·exact q2r (b:=y) (by omega) h.2 x hx
theorem q0w (p:Cell) (v:Value):∃b,qel p v=some b:=by
 unfold qel;split
 ·exact ⟨_,rfl⟩
 ·exact ⟨_,rfl⟩
theorem vao {n:Nat} {c:CFD} (hc:q4i n c=true) (hn:n≤16) {l:List Value} (hl:l.length=n) (hcl:c.Lhs.length≤n):∃b,qf5 c l=some b:=by
 unfold q4i at hc;simp only [vpq,decide_eq_true_eq] at hc;obtain ⟨⟨_,_,_,_,hp⟩,ha,_⟩:=hc;obtain ⟨o,ho,_⟩:=qiz (β:=Unit) c.Lhs.length (fun _ i=>i) (qeb c l) (fun _ _=>True) (fun _=>True) (b0:=()) (s0:=0) 0 (vtq _) rfl trivial
  (fun k _ _ hk _=>by
   have x1:c.Lhs[k]?=some c.Lhs[k]:=vqd hk;have x2:c.Pattern[k]?=some c.Pattern[k]:=vqd (by omega);obtain ⟨g1,g2⟩:=q2r (by omega) ha _ (vqx x1);obtain ⟨m,hm⟩:=vuk g1;have x3:l[m]?=some l[m]:=vqd (by omega);obtain ⟨b,hb⟩:=q0w c.Pattern[k] l[m];simp only [qeb,if_pos (qak x1),qae x1,vrv,qae x2,hm,qae x3,hb,wqn k];cases b with
   | true=>exact .inl ⟨(),rfl,trivial⟩
   | false=>exact .inr ⟨_,rfl,trivial⟩)
  (fun _ _=>⟨.inl (),by simp [qeb],trivial⟩)
 unfold qf5;rw [ho,vrv];cases o with
 | inl u=>exact ⟨_,rfl⟩
 | inr b=>exact ⟨_,rfl⟩
theorem vap {n:Nat} {c:CFD} (hc:q4i n c=true) (hn:n≤16) (hcl:c.Lhs.length≤n) {a b:List Value} (ha:a.length=n) (hb:b.length=n):∃r,qem c a b=some r:=by
 unfold q4i at hc;simp only [vpq,decide_eq_true_eq] at hc;obtain ⟨⟨_,_,r1,r2,hp⟩,has,_⟩:=hc;obtain ⟨m,hm⟩:=vuk r1;have x1:a[m]?=some a[m]:=vqd (by omega);have x2:b[m]?=some b[m]:=vqd (by omega);have hf:∀y∈c.Lhs,qbn y a b=some (((qbn y a b).getD false)):=fun y hy=>by
  obtain ⟨g1,g2⟩:=q2r (by omega) has y hy;obtain ⟨j,rfl⟩:=vuk g1;have y1:a[j]?=some a[j]:=vqd (by omega);have y2:b[j]?=some b[j]:=vqd (by omega);simp only [qbn,qae y1,qae y2,vrv,Option.getD_some]
 have hC:=qj5 c.Lhs (fun y=>qbn y a b) (fun y=>(qbn y a b).getD false) hf (by omega);unfold qem;rw [hm,qae x1,vrv,qae x2,vrv];split
 ·exact ⟨_,rfl⟩
 ·rw [hC,vrv];exact ⟨_,rfl⟩
theorem vo2 {t:Table} {x:Row} (hx:x∈t.Rows):qj7 t [[x.ID]]:=fun e he=>by
 rw [vtd.1 he];exact ⟨fun y hy=>⟨x,hx,(vtd.1 hy).symm⟩,by simp⟩
theorem vo3 {t:Table} {x y:Row} (hx:x∈t.Rows) (hy:y∈t.Rows):qj7 t [[x.ID,y.ID]]:=fun e he=>by
 rw [vtd.1 he];refine ⟨fun z hz=>?_,by simp⟩;simp only [vty,vvc,or_false] at hz;rcases hz with rfl | rfl
 ·exact ⟨x,hx,rfl⟩
 ·exact ⟨y,hy,rfl⟩
theorem vfg {t:Table} (H:DT t) (hn:t.Attrs.length≤16) {c:CFD} (hc:q4i t.Attrs.length c=true) (hcl:c.Lhs.length≤t.Attrs.length) {M:List Row} (hM:∀r∈M,r∈t.Rows) (hml:M.length≤7) {x:Row} (hx:x∈t.Rows) (k:Nat) (hk:k < M.length)
  {b0:List (List Int)} (h0:qj7 t b0) (hb:b0.length≤1000):∃b,qal (qbj c M (k:Int) x) (b0,0)=some b∧qj7 t b∧b.length≤b0.length+7:=by
 have hw0:vsg.wrap ((k:Int)+1)=((k+1:Nat):Int):=qdl (by omega);obtain ⟨b,e1,e2,e3⟩:=qhk (β:=List (List Int)) (M.length - (k+1)) (fun b i=>(b,i)) (qbj c M (k:Int) x) id (fun j b=>qj7 t b∧b.length≤b0.length+j) (b0:=b0) (s0:=(b0,0)) rfl ⟨h0,by omega⟩
  (fun j b hj hI=>by
   obtain ⟨i1,i2⟩:=hI;have hg:((M.drop (k+1)).take (M.length - (k+1)))[j]?=some M[k+1+j]:=by
    rw [vqj,if_pos hj,vqc];exact vqd (by omega)
   have hy:M[k+1+j]∈t.Rows:=hM _ (vu8 _);obtain ⟨r,hr⟩:=vap hc hn hcl ((H.code).1 x hx).1 ((H.code).1 _ hy).1;have hw:vsg.wrap ((j:Int)+1)=((j+1:Nat):Int):=qdl (by omega);simp only [qbj,hw0,vtv,if_pos (show (j:Int) < (((M.length - (k+1)):Nat):Int) by omega),qae hg,vrv,hr,hw,qdv (show b.length+1≤1073741824 by omega) (show 24≤65536 by omega),if_true];cases r with
   | true=>exact ⟨_,rfl,i1.append (vo3 hx hy),by simp;omega⟩
   | false=>exact ⟨b,rfl,i1,by omega⟩)
  (fun b _=>by simp only [qbj,hw0,vtv];rw [if_neg (by omega)];rfl)
 exact ⟨b,e1,e2,by omega⟩
theorem vo4 {t:Table} (H:DT t) (hn:t.Attrs.length≤16) {c:CFD} (hc:q4i t.Attrs.length c=true) (hcl:c.Lhs.length≤t.Attrs.length) {M:List Row} (hM:∀r∈M,r∈t.Rows) (hml:M.length≤7) {x:Row} (hx:x∈t.Rows) (k:Nat) (hk:k < M.length)
  {b0:List (List Int)} (h0:qj7 t b0) (hb:b0.length≤1000):∃b,qal (qe4 c M (k:Int) x) (b0,0)=some b∧qj7 t b∧b.length≤b0.length+7:=vfg H hn hc hcl hM hml hx k hk h0 hb
theorem vdx {t:Table} (H:DT t) (hn:t.Attrs.length≤16) {c:CFD} (hc:q4i t.Attrs.length c=true) (hcl:c.Lhs.length≤t.Attrs.length):∃L,qc6 t c=some (L,0)∧qj7 t L∧L.length≤100:=by
 have hc':=hc;unfold q4i at hc';simp only [vpq,decide_eq_true_eq] at hc';obtain ⟨⟨_,_,r1,r2,hp⟩,has,_⟩:=hc';have hv:=q0u t.Attrs.length c (by omega) (by omega);have few:=H.few;obtain ⟨M,e1,m1,m2⟩:=qhk (β:=List Row) t.Rows.length (fun b i=>(b,i)) (qcd t c) id (fun k b=>(∀r∈b,r∈t.Rows)∧b.length≤k) (b0:=[]) (s0:=([],0)) rfl ⟨by simp,by simp⟩
  (fun k b hk hI=>by
   obtain ⟨i1,i2⟩:=hI;have hx:t.Rows[k]?=some t.Rows[k]:=vqd hk;have hm:t.Rows[k]∈t.Rows:=vu8 _;obtain ⟨r,hr⟩:=vao hc hn ((H.code).1 _ hm).1 hcl;have hw:vsg.wrap ((k:Int)+1)=((k+1:Nat):Int):=qdl (by omega);simp only [qcd,if_pos (qak hx),qae hx,vrv,hr,hw,qdv (show b.length+1≤1073741824 by omega) (show 32≤65536 by omega),if_true];cases r with
   | true=>exact ⟨_,rfl,fun r hr=>by
     rcases vqv.1 hr with hr | hr
     ·exact i1 r hr
     ·rw [vtd.1 hr];exact hm,by simp;omega⟩
   | false=>exact ⟨b,rfl,i1,by omega⟩)
  (fun b _=>by simp [qcd])
 obtain ⟨q,e2,q1,q2,q3,q4⟩:=qhk (β:=List (List Int)×List (List Int)) M.length (fun b i=>(b.1,b.2,i)) (qce c M) id (fun k b=>qj7 t b.1∧qj7 t b.2∧b.1.length≤k∧b.2.length≤k * 7) (b0:=([],[])) (s0:=([],[],0)) rfl
  ⟨fun e he=>(by cases he),fun e he=>(by cases he),by simp,by simp⟩
  (fun k b hk hI=>by
   obtain ⟨i1,i2,i3,i4⟩:=hI;have hx:M[k]?=some M[k]:=vqd hk;have hm:M[k]∈t.Rows:=m1 _ (vu8 _);have hcells:c.Pattern[c.Lhs.length]?=some c.Pattern[c.Lhs.length]:=vqd (by omega);obtain ⟨m,hmr⟩:=vuk r1;have hmv:m < M[k].Values.length:=by rw [((H.code).1 _ hm).1];omega
   have hval:M[k].Values[m]?=some (M[k].Values[m]'hmv):=vqd hmv;obtain ⟨f,hf⟩:=q0w (c.Pattern[c.Lhs.length]'(by omega)) (M[k].Values[m]'hmv);obtain ⟨b6,g1,g2,g3⟩:=vfg H hn hc hcl m1 (by omega) hm k hk i2 (by omega);obtain ⟨b7,g4,g5,g6⟩:=vo4 H hn hc hcl m1 (by omega) hm k hk i2 (by omega);have hw:vsg.wrap ((k:Int)+1)=((k+1:Nat):Int):=qdl (by omega);simp only [qce,if_pos (show (k:Int) < ((M.length:Nat):Int) by omega),qae hx,vrv,qg0,qae hcells,hmr,qae hval,hf,hw,if_pos (show (0:Int)≤((k+1:Nat):Int) by omega),if_pos (show ((k+1:Nat):Int)≤((M.length:Nat):Int) by omega),g1,g4,qdv (show b.1.length+1≤1073741824 by omega) (show 24≤65536 by omega),if_true];cases f with
   | true=>exact ⟨(b.1,b6),rfl,i1,g2,by simp only;omega,by simp only;omega⟩
   | false=>exact ⟨(b.1++[[M[k].ID]],b7),rfl,i1.append (vo2 hm),g5,by simp;omega,by simp only;omega⟩)
  (fun b _=>by simp [qce])
 unfold qc6;rw [qg5 t H.ok,vrv,H.err];simp only [bne_self_eq_false,vps,if_false,hv,hc,vrv,if_true,e1,e2,id,qdv (show q.1.length+q.2.length≤1073741824 by omega) (show 24≤65536 by omega)];exact ⟨_,rfl,q1.append q2,by rw [vql];omega⟩
def qun (t:Table) (c:Constraint):Prop:=∃ds L,qas t c=some (ds,0)∧qbw t c=some (L,0)∧qj7 t L∧L.length≤2000
theorem q4k {t:Table} (H:DT t) (ds:List Denial) (h:∀d∈ds,qjd t d=0∧d.Atoms.length≤1048576) (hl:ds.length≤5) :
  ∃L,qal (qb9 t (ds,0)) ([],0)=some (.inl L)∧qj7 t L∧L.length≤2000:=by
 obtain ⟨L,e1,e2,e3⟩:=qhk (β:=List (List Int)) ds.length (fun b i=>(b,i)) (qb9 t (ds,0)) (fun b=>(Sum.inl b:(List (List Int)) ⊕ (List (List Int)×Int))) (fun k b=>qj7 t b∧b.length≤k * 343) (b0:=[]) (s0:=([],0)) rfl ⟨fun e he=>(by cases he),by simp⟩
  (fun k b hk hI=>by
   obtain ⟨i1,i2⟩:=hI;have hx:ds[k]?=some ds[k]:=vqd hk;obtain ⟨h1,h2⟩:=h _ (vu8 hk);obtain ⟨V,v1,v2,v3⟩:=vdv H h1 h2;refine ⟨b++V,?_,i1.append v2,by rw [vql,vvy];omega⟩;simp only [qb9,if_pos (qak hx),qae hx,vrv,v1,bne_self_eq_false,vps,if_false,qdv (show b.length+V.length≤1073741824 by omega) (show 24≤65536 by omega),if_true,wqn k])
  (fun b _=>by simp [qb9])
 exact ⟨L,e1,e2,by omega⟩
theorem vo5 {n a:Nat} (hn:n≤32) (ha:a < 2 ^ n):vt9 (a:Int) (2 ^ (min ((n:Int)).toNat 32))=0:=by
 rw [vtv,vtm hn];have e:((2:Int) ^ n)=((2 ^ n:Nat):Int):=by simp
 rw [e,Int.fdiv_eq_ediv_of_nonneg _ (vul _),←Int.natCast_ediv,vvo ha];rfl
def cFD (f:FD):Constraint:=Constraint.mk [99] [114] 1 f (FD.mk 0 0) (IND.mk [] [] [] []) (CFD.mk [] 0 []) (OD.mk [] []) (Denial.mk 0 [])
theorem vi6 {t:Table} (H:DT t) (hn:t.Attrs.length≤5) (hname:t.Name=[114]) {s r:Nat} (hs:s < 2 ^ t.Attrs.length) (hr:r < 2 ^ t.Attrs.length):qun t (cFD ⟨(s:Int),(r:Int)⟩):=by
 have hp:2 ^ t.Attrs.length≤2 ^ 5:=vvv (by omega) hn;have hor:s ||| r < 2 ^ t.Attrs.length:=vvu hs hr;have h32:(2:Nat) ^ 5=32:=by decide
 have hF:=vam (n:=t.Attrs.length) (s:=s) (r:=r) (by omega) (by omega) (by omega);rw [if_pos (by unfold fdB;simpa using hor)] at hF;have hT:qas t (cFD ⟨(s:Int),(r:Int)⟩)=some (fdL s r,0):=by
  have hne:¬(t.Attrs.length:Int) < 0:=by omega
  simp only [qas,cFD,hname,beq_self_eq_true,if_true,if_neg (show ¬(1:Int) < 1 by decide),if_neg (show ¬(1:Int) > 6 by decide),if_neg (show ¬((1:Int) == 2)=true by decide),if_neg (show ¬((1:Int) == 3)=true by decide),if_neg hne,
   q31 (show s < 4294967296 by omega) (show r < 4294967296 by omega),vo5 (show t.Attrs.length≤32 by omega) hor,bne_self_eq_false,vps,if_false,hF,vrv]
 have hlen:(fdL s r).length≤5:=by
  unfold fdL;rw [vqn];have hd:qr7 r s < 2 ^ t.Attrs.length:=by
   refine vvr ?_ hr;refine Nat.le_of_testBit fun i hi=>?_
   rw [qqb,vpq] at hi;exact hi.1
  have:=quk (n:=t.Attrs.length) (by omega) hd;omega
 obtain ⟨L,l1,l2,l3⟩:=q4k H (fdL s r) (fun d hd=>⟨vdq H (by omega) hs hr d hd,by
  obtain ⟨x,hx,rfl⟩:=vtb.1 hd;have:=qqd s;simp only [q2o,vql,vqn,vs2];omega⟩) hlen
 refine ⟨_,L,hT,?_,l2,l3⟩;unfold qbw;rw [hT,vrv];have k4:¬((cFD ⟨(s:Int),(r:Int)⟩).Kind == 4)=true:=by simp [cFD]
 have k5:¬((cFD ⟨(s:Int),(r:Int)⟩).Kind == 5)=true:=by simp [cFD]
 simp only [bne_self_eq_false,vps,if_false,if_neg k4,if_neg k5,l1,vrv]
theorem vi7 {t:Table} (G:qkl t) (hname:t.Name=[114]) {d:OD} (h:qj6 t.Attrs.length d=true):qun t (Constraint.mk [99] [114] 5 (FD.mk 0 0) (FD.mk 0 0) (IND.mk [] [] [] []) (CFD.mk [] 0 []) d (Denial.mk 0 [])):=by
 obtain ⟨L,l1,l2,l3⟩:=vdw G h;have hl:=qwq h;have hv:=q34 t.Attrs.length d hl.1 hl.2;have hT:qas t (Constraint.mk [99] [114] 5 (FD.mk 0 0) (FD.mk 0 0) (IND.mk [] [] [] []) (CFD.mk [] 0 []) d (Denial.mk 0 []))=some ([],0):=by
  simp [qas,hname,hv,h]
 refine ⟨_,L,hT,?_,l2,by omega⟩;unfold qbw;rw [hT,vrv];simp [l1]
theorem vdy {t:Table} (H:DT t) (hname:t.Name=[114]) {d:Denial} (he:qjd t d=0) (hb:q0l t.Attrs.length d=true) (hl:d.Atoms.length≤1048576):qun t (Constraint.mk [99] [114] 6 (FD.mk 0 0) (FD.mk 0 0) (IND.mk [] [] [] []) (CFD.mk [] 0 []) (OD.mk [] []) d):=by
 obtain ⟨L,l1,l2,l3⟩:=q4k H [d] (fun x hx=>by rw [vtd.1 hx];exact ⟨he,hl⟩) (by simp);have hv:=q0n t.Attrs.length d hl;have hT:qas t (Constraint.mk [99] [114] 6 (FD.mk 0 0) (FD.mk 0 0) (IND.mk [] [] [] []) (CFD.mk [] 0 []) (OD.mk [] []) d)=some ([d],0):=by
  simp [qas,hname,hv,hb]
 refine ⟨_,L,hT,?_,l2,l3⟩;unfold qbw;rw [hT,vrv];simp [l1]
theorem vdz {t:Table} (H:DT t) (hn:t.Attrs.length≤5) (hname:t.Name=[114]) {c:CFD} (hc:q4i t.Attrs.length c=true) (hcl:c.Lhs.length≤t.Attrs.length):qun t (Constraint.mk [99] [114] 4 (FD.mk 0 0) (FD.mk 0 0) (IND.mk [] [] [] []) c (OD.mk [] []) (Denial.mk 0 [])):=by
 obtain ⟨L,l1,l2,l3⟩:=vdx H (by omega) hc hcl;have hc':=hc;unfold q4i at hc';simp only [vpq,decide_eq_true_eq] at hc';have hv:=q0u t.Attrs.length c (by omega) (by omega);have hT:qas t (Constraint.mk [99] [114] 4 (FD.mk 0 0) (FD.mk 0 0) (IND.mk [] [] [] []) c (OD.mk [] []) (Denial.mk 0 []))=some ([],0):=by
  simp [qas,hname,hv,hc]
 refine ⟨_,L,hT,?_,l2,by omega⟩;unfold qbw;rw [hT,vrv];simp [l1]
theorem of37 {n:Nat} (hn:n≤5) (x:Drossref37_Rule) (h:qd6 x):∃c b,qh8 (n:Int) x=some (c,b)∧∀t,DT t→qkl t→t.Name=[114]→t.Attrs.length=n→b=true→qun t c:=by
 obtain ⟨_,hF,hC,hO,hN⟩:=h;have hL:=vdt (n:=n) (by omega) x.F hF;have fd:∀t,DT t→qkl t→t.Name=[114]→t.Attrs.length=n→qun t (cFD ⟨((x.F.L.toNat % 2 ^ n:Nat):Int),((x.F.R.toNat % 2 ^ n:Nat):Int)⟩):=fun t H G hname ha=>by
  subst ha;exact vi6 H hn hname (vab _ _) (vab _ _)
 unfold qh8;by_cases k1:(vua x.Kind 5 == 1)=true
 ·rw [if_pos k1];by_cases h0:(n:Int) > 0
  ·obtain ⟨c,c1,c2,c3⟩:=vi5 (n:=n) (by omega) (by omega) x.C hC;rw [if_pos h0,c1,vrv];exact ⟨_,_,rfl,fun t H G hname ha _=>by subst ha;exact vdz H hn hname c2 c3⟩
  ·rw [if_neg h0,hL,vrv];simp only [vst,vrv];exact ⟨_,_,rfl,fun t H G hname ha _=>fd t H G hname ha⟩
 ·rw [if_neg k1];by_cases k2:(vua x.Kind 5 == 2)=true
  ·rw [if_pos k2,viu n x.O hO,vrv];exact ⟨_,_,rfl,fun t H G hname ha _=>vi7 G hname (by rw [ha];exact q96 n x.O)⟩
  ·rw [if_neg k2];by_cases k3:(vua x.Kind 5 == 3)=true
   ·rw [if_pos k3,vi3 (by omega) hN,vrv];refine ⟨_,_,rfl,fun t H G hname ha hb=>?_⟩;have hb':x.N.Atoms.length≤5:=by
     simp only [decide_eq_true_eq] at hb;omega
    subst ha;exact vdy H hname (vaj H hb') (quj hb') (by simp only [q6t,vqn];omega)
   ·rw [if_neg k3,hL,vrv];simp only [vst,vrv];exact ⟨_,_,rfl,fun t H G hname ha _=>fd t H G hname ha⟩
theorem vd0 {t:Table} (H:DT t) (hl:List Constraint) (h4:hl.length≤4) (hf:∀c∈hl,qun t c):∃E,qdk t hl=some (⟨t.Rows.map Row.ID,E⟩,0)∧qj7 t E∧E.length≤20000:=by
 have few:=H.few;have e1:qal (qd3 t hl) 0=some (.inl ()):=by
  obtain ⟨_,e,_⟩:=qhk (β:=Unit) hl.length (fun _ i=>i) (qd3 t hl) (fun _=>(Sum.inl ():Unit ⊕ (Hypergraph×Int))) (fun _ _=>True) (b0:=()) (s0:=0) rfl trivial
   (fun k _ hk _=>by
    have hx:hl[k]?=some hl[k]:=vqd hk;obtain ⟨ds,L,f1,_⟩:=hf _ (vu8 hk);refine ⟨(),?_,trivial⟩;simp only [qd3,if_pos (qak hx),qae hx,vrv,f1,bne_self_eq_false,vps,if_false,wqn k])
   (fun _ _=>by simp [qd3])
  exact e
 obtain ⟨all,e2,a1,a2⟩:=qhk (β:=List (List Int)) hl.length (fun b i=>(b,i)) (qfj t hl) (fun b=>(Sum.inl b:(List (List Int)) ⊕ (Hypergraph×Int))) (fun k b=>qj7 t b∧b.length≤k * 2000) (b0:=[]) (s0:=([],0)) rfl ⟨fun e he=>(by cases he),by simp⟩
  (fun k b hk hI=>by
   obtain ⟨i1,i2⟩:=hI;have hx:hl[k]?=some hl[k]:=vqd hk;obtain ⟨ds,L,f1,f2,f3,f4⟩:=hf _ (vu8 hk);refine ⟨b++L,?_,i1.append f3,by rw [vql,vvy];omega⟩;simp only [qfj,if_pos (qak hx),qae hx,vrv,f2,bne_self_eq_false,vps,if_false,qdv (show b.length+L.length≤1073741824 by omega) (show 24≤65536 by omega),if_true,wqn k])
  (fun b _=>by simp [qfj])
 obtain ⟨E,e3,b1,b2⟩:=q0v all (by omega) (fun a ha=>by have:=(a1 a ha).2;omega);obtain ⟨V,e4,v1⟩:=qhk (β:=List Int) t.Rows.length (fun b i=>(b,i)) (qfk t) id (fun k b=>b=(t.Rows.take k).map Row.ID) (b0:=[]) (s0:=([],0)) rfl (by simp)
  (fun k b hk hI=>by
   subst hI;have hx:t.Rows[k]?=some t.Rows[k]:=vqd hk;refine ⟨(t.Rows.take k).map Row.ID++[t.Rows[k].ID],?_,?_⟩
   ·simp only [qfk,if_pos (qak hx),qae hx,vrv,qt1 (show ((t.Rows.take k).map Row.ID).length+1≤17592186044416 by rw [vqn,vqr];omega),if_true,wqn k]
   ·have e:t.Rows.take (k+1)=t.Rows.take k++[t.Rows[k]]:=by rw [List.take_add_one,hx];rfl
    rw [e,vqs];rfl)
  (fun b _=>by simp [qfk])
 rw [vvl] at v1;subst v1;refine ⟨E,?_,fun e he=>a1 e (b1 e he),by omega⟩;unfold qdk;rw [qg5 t H.ok,vrv,H.err];simp only [bne_self_eq_false,vps,if_false,if_neg (show ¬(t.Rows.length:Int) > 200 by omega),e1,e2,e3,e4,vrv,id,if_neg (show ¬(E.length:Int) > 20000 by omega)]
theorem vfh {n:Nat} (hn:n≤5) (l:List Drossref37_Rule) (h:okL qd6 l):∃out b,qfe (n:Int) l=some (out,b) ∧
  ∀t,DT t→qkl t→t.Name=[114]→t.Attrs.length=n→b=true→out.length≤4∧∀c∈out,qun t c:=by
 obtain ⟨o,e,T1,T2⟩:=qiz (β:=List Constraint) l.length (fun b i=>(b,i)) (qet (n:Int) l) (fun k b=>b.length=k∧∀t,DT t→qkl t→t.Name=[114]→t.Attrs.length=n→∀c∈b,qun t c)
  (fun o=>(∀out,o=.inl out→out.length=l.length∧∀t,DT t→qkl t→t.Name=[114]→t.Attrs.length=n→∀c∈out,qun t c)∧∀r,o=.inr r→r.2=false) (b0:=[]) (s0:=([],0)) 0 (vtq _) rfl ⟨rfl,fun t _ _ _ _ c hc=>(by cases hc)⟩
  (fun k b _ hk hI=>by
   obtain ⟨i1,i2⟩:=hI;have hx:l[k]?=some l[k]:=vqd hk;obtain ⟨c,f,g1,g2⟩:=of37 hn l[k] (h.2 _ (vu8 hk));have hlen:=h.1;simp only [qet,if_pos (qak hx),qae hx,vrv,g1,qdv (show b.length+1≤1073741824 by omega) (show 272≤65536 by omega),wqn k];cases f with
   | true =>
    refine .inl ⟨b++[c],by simp,by simp [i1],fun t H G hna ha x hx'=>?_⟩;rcases vqv.1 hx' with hx' | hx'
    ·exact i2 t H G hna ha x hx'
    ·rw [vtd.1 hx'];exact g2 t H G hna ha rfl
   | false=>exact .inr ⟨_,rfl,fun _ h=>(by cases h),fun r h=>by cases h;rfl⟩)
  (fun b hI=>⟨.inl b,by simp [qet],fun out ho=>by cases ho;exact ⟨hI.1,hI.2⟩,fun r h=>by cases h⟩)
 unfold qfe;rw [e,vrv];cases o with
 | inl out =>
  refine ⟨_,_,rfl,fun t H G hna ha hb=>?_⟩;obtain ⟨q1,q2⟩:=T1 out rfl;refine ⟨?_,q2 t H G hna ha⟩;simp only [decide_eq_true_eq] at hb;omega
 | inr r =>
  refine ⟨r.1,r.2,rfl,fun t H G hna ha hb=>?_⟩;rw [T2 r rfl] at hb;cases hb
theorem of41 (c:Drossref41_Case) (h:qg4 c):∃t l w b,qh9 c=some (t,l,w,b) ∧
  (b=true→DT t∧qkl t∧t.Rows.length≤6∧l.length≤4∧∀x∈l,qun t x):=by
 obtain ⟨hT,hR,hW⟩:=h;have wloop:∀r:Table×Bool,r.1.Rows.length≤6→∃w,qal (qeh c r) ([],0)=some w:=fun r hr=>by
  obtain ⟨o,e,_⟩:=qiz (β:=List Int) r.1.Rows.length (fun b i=>(b,i)) (qeh c r) (fun k b=>b.length=k) (fun _=>True) (b0:=[]) (s0:=([],0)) 0 (vtq _) rfl rfl
   (fun k b _ hk hI=>by
    simp only [qeh,if_pos (show (k:Int) < (r.1.Rows.length:Int) by omega)];by_cases hw:(c.Weights.length:Int) > 0
    ·have hm:vua (k:Int) (c.Weights.length:Int)=((k % c.Weights.length:Nat):Int):=by
      have:=qn9 (a:=(k:Int)) (b:=c.Weights.length) (by omega);rw [this,vtv]
     have hlt:k % c.Weights.length < c.Weights.length:=vro _ (by omega);have hx:c.Weights[k % c.Weights.length]?=some c.Weights[k % c.Weights.length]:=vqd hlt;simp only [if_pos hw,if_neg (show ¬((c.Weights.length:Int)=0) by omega),hm,qae hx,vrv,qt1 (show b.length+1≤17592186044416 by omega),if_true,wqn k];exact .inl ⟨_,rfl,by simp [hI]⟩
    ·rw [if_neg hw];exact .inr ⟨_,rfl,trivial⟩)
   (fun b _=>⟨_,by simp only [qeh];rw [if_neg (by omega)],trivial⟩)
  exact ⟨o,e⟩
 unfold qh9;rcases vds c.T hT with e | ⟨t,e,ok,G,hr,ha,hna⟩
 ·obtain ⟨l,b,e2,_⟩:=vfh (n:=0) (by omega) c.Rules hR;obtain ⟨w,e3⟩:=wloop (⟨[],[],[]⟩,false) (by simp);rw [e,vrv];have e2':qfe (([]:List (List UInt8)).length:Int) c.Rules=some (l,b):=e2;simp only [e2',e3,vrv,vps,if_false];exact ⟨_,_,_,_,rfl,fun h=>by cases h⟩
 ·obtain ⟨l,b,e2,hfit⟩:=vfh (n:=t.Attrs.length) ha c.Rules hR;obtain ⟨w,e3⟩:=wloop (t,true) hr;rw [e,vrv];simp only [e2,e3,vrv,if_true];have H:DT t:=dt_of ok G (by omega);refine ⟨_,_,_,_,rfl,fun hb=>?_⟩;obtain ⟨q1,q2⟩:=hfit t H G hna rfl hb;exact ⟨H,G,hr,q1,q2⟩
end Go.Proofs.YtfnmcjkkfnhpnaaGreatDoor
namespace Go.Ab
end Go.Ab
namespace Go.Proofs.YtfnmcjkkfnhpnaaGreatDoor
open Go Go.Ab
def qki (x:Str):Value:=if x=[63] then ⟨0,0,[]⟩ else match x with
 | [c]=>if 48≤c.toNat∧c.toNat≤57 then ⟨1,(c.toNat:Int) - 48,[]⟩ else ⟨2,0,x⟩
 | _=>⟨2,0,x⟩
def rowOf (k:Nat) (x:Str):Row:=⟨1+2 * (k:Int),[qki x]⟩
def q4l:Nat→List Str→List Row
 | _,[]=>[]
 | k,x :: l=>rowOf k x :: q4l (k+1) l
def tb (l:List Str):Table:=⟨[114],[[97]],q4l 0 l⟩
end Go.Proofs.YtfnmcjkkfnhpnaaGreatDoor
namespace Go.Ab
open Go
end Go.Ab
namespace Go.Proofs.YtfnmcjkkfnhpnaaGreatDoor
open Go Go.Ab
end Go.Proofs.YtfnmcjkkfnhpnaaGreatDoor
namespace Go.Ab
open Go
theorem qry {α:Type} (l:List α) (q:α→Bool) (B:Int×Int→Option (LS (Int×Int) Int)) (hl:l.length≤1048576)
  (mono:∀(m n:Nat) x y,m≤n→l[m]?=some x→l[n]?=some y→q y=true→q x=true)
  (hB:∀(i j:Nat) x,i < j→j≤l.length→l[(i+j) / 2]?=some x→B ((i:Int),(j:Int))=some (.next (if q x=true then ((((i+j) / 2+1:Nat):Int),(j:Int)) else ((i:Int),(((i+j) / 2:Nat):Int)))))
  (hE:∀i:Nat,B ((i:Int),(i:Int))=some (.done (i:Int))) :
  ∀(d i j:Nat),j - i=d→i≤j→j≤l.length→(∀(m:Nat) x,m < i→l[m]?=some x→q x=true)→(∀(m:Nat) x,j≤m→l[m]?=some x→q x=false) →
   ∃k:Nat,qal B ((i:Int),(j:Int))=some (k:Int)∧k≤l.length∧(∀(m:Nat) x,m < k→l[m]?=some x→q x=true)∧(∀(m:Nat) x,k≤m→l[m]?=some x→q x=false):=by
 intro d
 induction d using vtn with
 | ind d ih =>
  intro i j hd hij hj h1 h2;by_cases he:i=j
  ·subst he;exact ⟨i,qat (hE i),hj,h1,h2⟩
  ·have hlt:(i+j) / 2 < l.length:=by omega
   have hx:l[(i+j) / 2]?=some l[(i+j) / 2]:=vqd hlt;have hs:=hB i j _ (by omega) hj hx;generalize l[(i+j) / 2]=x at *;cases hq:q x with
   | true =>
    rw [if_pos hq] at hs;obtain ⟨k,e1,e2⟩:=ih (j - ((i+j) / 2+1)) (by omega) ((i+j) / 2+1) j rfl (by omega) hj (fun m y hm hy=>mono m ((i+j) / 2) y x (by omega) hy hx hq) h2;exact ⟨k,by rw [qbd hs];exact e1,e2⟩
   | false =>
    rw [if_neg (by rw [hq];simp)] at hs;obtain ⟨k,e1,e2⟩:=ih ((i+j) / 2 - i) (by omega) i ((i+j) / 2) rfl (by omega) (by omega) h1 (fun m y hm hy=>by
     cases hc:q y with
     | false=>rfl
     | true=>have:=mono ((i+j) / 2) m x y hm hx hy hc;rw [hq] at this;cases this)
    exact ⟨k,by rw [qbd hs];exact e1,e2⟩
theorem vaq (i j:Nat) (h:i+j≤4611686018427387904):vsg.wrap (vt9 (IntKind.u64.wrap (vsg.wrap ((i:Int)+(j:Int)))) (2 ^ (min 1 64)))=(((i+j) / 2:Nat):Int):=by
 have e:vsg.wrap ((i:Int)+(j:Int))=((i+j:Nat):Int):=by rw [wrap_i64 (by omega) (by omega)];omega
 have e2:IntKind.u64.wrap ((i+j:Nat):Int)=((i+j:Nat):Int):=by
  show ((i+j:Nat):Int) % 18446744073709551616=_;omega
 rw [e,e2];have e3:vt9 ((i+j:Nat):Int) (2 ^ (min 1 64))=(((i+j) / 2:Nat):Int):=(Int.ofNat_fdiv (i+j) 2).symm;rw [e3,wrap_i64 (by omega) (by omega)]
end Go.Ab
namespace Go.Proofs.YtfnmcjkkfnhpnaaGreatDoor
open Go Go.Ab
theorem q0x (x y:Int):qhf x y=some (decide (x < y)):=by
 have h:∀z:Int,qct z=some false:=fun z=>by simp [qct]
 simp only [qhf,h,vrv,vui,vps,if_false,if_true]
theorem qup (l:List Int) (p:Int) (ha:l.Pairwise (· < ·)) (hl:l.length≤1048576):∃i:Nat,qav l p=some ((i:Int),decide (p∈l)):=by
 have asc:∀(m n:Nat) x y,m < n→l[m]?=some x→l[n]?=some y→x < y:=fun m n x y hmn hx hy=>by
  obtain ⟨h1,rfl⟩:=vqf.1 hx;obtain ⟨h2,rfl⟩:=vqf.1 hy;exact vvf.1 ha m n h1 h2 hmn
 obtain ⟨k,e1,e2,e3,e4⟩:=qry l (fun x=>decide (x < p)) (qar l p) hl
  (fun m n x y hmn hx hy hq=>by
   rw [decide_eq_true_eq] at hq ⊢;rcases vvs m n with h | h
   ·have:=asc m n x y h hx hy;omega
   ·have:m=n:=by omega
    subst this;rw [hx] at hy;cases hy;exact hq)
  (fun i j x hij hj hx=>by
   have c:(i:Int) < (j:Int):=by omega
   simp only [qar,if_pos c,vaq i j (by omega),qae hx,vrv,q0x,qdl (show (i+j) / 2 < 4611686018427387904 by omega)];by_cases h:x < p <;> simp [h])
  (fun i=>by simp [qar]) _ 0 l.length rfl (vtq _) (vrj _) (fun m x hm=>by omega) (fun m x hm hx=>by have:=qcr hx;omega)
 refine ⟨k,?_⟩;simp only [vum] at e1;simp only [qav,e1,vrv];have hmem:∀x,l[k]?=some x→(p∈l↔x=p):=fun x hx=>by
  constructor
  ·intro hp;obtain ⟨m,hm⟩:=vva.1 hp;rcases vtk m k with h | h | h
   ·have:=e3 m p h hm;simp at this
   ·subst h;rw [hx] at hm;cases hm;rfl
   ·have h1:=asc k m x p h hx hm;have h2:=e4 k x (vrj _) hx;simp at h2;omega
  ·rintro rfl;exact vqx hx
 by_cases hk:k < l.length
 ·have hx:l[k]?=some l[k]:=vqd hk;have hm:=hmem _ hx;generalize l[k]=x at *;simp only [if_pos (show ((k:Int) < (l.length:Int)) by omega),qae hx,vrv,qds];by_cases hc:x=p
  ·have:(x == p)=true:=by simp [hc]
   rw [if_pos this];simp [hm.2 hc]
  ·have:¬(x == p)=true:=by simp [hc]
   rw [if_neg this];simp [hc,hm]
 ·have:¬p∈l:=by
   intro hp;obtain ⟨m,hm⟩:=vva.1 hp;have:=e3 m p (by have:=qcr hm;omega) hm;simp at this
  simp only [if_neg (show ¬((k:Int) < (l.length:Int)) by omega)];simp [this]
theorem qms (l:List (List Int)) (f:List Int→Option Bool) (p:List Int→Bool) (hf:∀x∈l,f x=some (p x)) (hl:l.length≤1000000):qbg l f=some (l.any p):=by
 have h:=qg3 l (qbf l f) p
  (fun k x hx hk hp=>by simp [qbf,qak hx,qae hx,hf x (vqx hx),hp,qbo hk (by omega)])
  (fun k x hx hp=>by simp [qbf,qak hx,qae hx,hf x (vqx hx),hp])
  (by simp [qbf])
 have hI:qcu l f=some (match l.findIdx? p with | some i=>(i:Int) | none=>-1):=by
  simp only [qcu,h,vrv];cases l.findIdx? p <;> rfl
 simp only [qbg,hI,vrv];exact congrArg some (qhn p l)
def qnu (p:Nat→Bool):Nat→List Int→List Int
 | _,[]=>[]
 | s,x :: l=>if p s=true then x :: qnu p (s+1) l else qnu p (s+1) l
theorem qrz (p:Nat→Bool):∀(l:List Int) (s:Nat) (x:Int),qnu p s (l++[x])=qnu p s l++(if p (s+l.length)=true then [x] else [])
 | [],s,x=>by simp [qnu]
 | y :: l,s,x=>by
  simp only [vso,qnu,qrz p l (s+1) x,vsv,show s+1+l.length=s+(l.length+1) by omega];split <;> simp
theorem qqj (p:Nat→Bool):∀(l:List Int) (s:Nat),(qnu p s l).Sublist l
 | [],_=>vuu.refl _
 | x :: l,s=>by
  unfold qnu;split
  ·exact (qqj p l (s+1)).cons_cons x
  ·exact (qqj p l (s+1)).cons x
theorem quq (p:Nat→Bool):∀(l:List Int) (s:Nat) (x:Int),x∈qnu p s l↔∃k,l[k]?=some x∧p (s+k)=true
 | [],s,x=>by simp [qnu]
 | y :: l,s,x=>by
  have ih:=quq p l (s+1) x;have e:(∃k,(y :: l)[k]?=some x∧p (s+k)=true)↔(y=x∧p s=true)∨∃k,l[k]?=some x∧p (s+1+k)=true:=by
   constructor
   ·rintro ⟨k,h1,h2⟩;cases k with
    | zero=>exact .inl ⟨by simpa using h1,h2⟩
    | succ k=>exact .inr ⟨k,by simpa using h1,by rw [show s+1+k=s+(k+1) by omega];exact h2⟩
   ·rintro (⟨rfl,h⟩ | ⟨k,h1,h2⟩)
    ·exact ⟨0,by simp,h⟩
    ·exact ⟨k+1,by simpa using h1,by rw [show s+(k+1)=s+1+k by omega];exact h2⟩
  rw [e];unfold qnu;split
  ·rename_i h;rw [vty,ih];constructor
   ·rintro (rfl | h') <;> simp_all
   ·rintro (⟨rfl,_⟩ | h') <;> simp_all
  ·rename_i h;rw [ih];constructor
   ·exact .inr
   ·rintro (⟨_,h'⟩ | h')
    ·exact absurd h' h
    ·exact h'
theorem qur {a:Nat} (h:a < 18446744073709551616):(BitVec.ofInt 64 (a:Int)).toNat=a:=by
 rw [BitVec.toNat_ofInt];have:((a:Int) % ((2 ^ 64:Nat):Int)).toNat=a:=by omega
 exact this
theorem vd1 {a:Nat} (ha:a < 64) {k:Nat} (hk:k≤64):((vsg.wrap ((BitVec.ofInt 64 (vt9 (a:Int) (2 ^ (min k 64))) &&& (1#64)).toNat:Int)) == 1)=a.testBit k:=by
 have hd:a / 2 ^ k≤a:=vvp _ _;rw [vtm hk,qpz,BitVec.toNat_and,qur (by omega),show (1#64).toNat=1 from rfl,vvn,wrap_i64 (by omega) (by omega),q9x]
theorem q0y (t:Table) (hr:t.Rows.length≤6) (m:Nat) (hm:m < 64):qd9 t (m:Int)=some (qnu (fun k=>m.testBit k) 0 (t.Rows.map Row.ID)):=by
 obtain ⟨b,e,i⟩:=qhk (β:=List Int) t.Rows.length (fun b i=>(b,i)) (qeu t (m:Int)) id (fun k b=>b=qnu (fun k=>m.testBit k) 0 ((t.Rows.take k).map Row.ID)∧b.length≤k) (b0:=[]) (s0:=([],0)) rfl ⟨by simp [qnu],by simp⟩
  (fun k b hk hI=>by
   obtain ⟨i1,i2⟩:=hI;have hx:t.Rows[k]?=some t.Rows[k]:=vqd hk;have hw:vsg.wrap ((k:Int)+1)=((k+1:Nat):Int):=qdl (by omega);have e:t.Rows.take (k+1)=t.Rows.take k++[t.Rows[k]]:=by rw [List.take_add_one,hx];rfl
   have hp:qnu (fun k=>m.testBit k) 0 ((t.Rows.take (k+1)).map Row.ID)=b++(if m.testBit k=true then [t.Rows[k].ID] else []):=by
    rw [e,vqs,vqt,List.map_nil,qrz,←i1,vqn,vqr,vru,vtm (by omega)]
   have hb:=vd1 hm (k:=k) (by omega);simp only [qeu,if_pos (qak hx),qae hx,vrv,if_neg (show ¬(k:Int) < 0 by omega),vtv,hb,qt1 (show b.length+1≤17592186044416 by omega),if_true,hw];by_cases h:m.testBit k=true
   ·rw [if_pos h];exact ⟨_,rfl,by rw [hp,if_pos h],by simp;omega⟩
   ·rw [if_neg h];exact ⟨b,rfl,by rw [hp,if_neg h];simp,by omega⟩)
  (fun b _=>by simp [qeu])
 rw [vvl] at i;unfold qd9;rw [e,vrv,id,i.1]
theorem vi8 (bits:Int) {n:Nat} (hn:n≤6):∃m:Nat,(vsg.wrap ((BitVec.ofInt 64 (vsg.wrap bits) &&& (BitVec.ofInt 64 (vsg.wrap ((2 ^ n - 1:Nat):Int)))).toNat:Int))=(m:Int)∧m < 64 ∧
  ∀k,k < n→m.testBit k=(BitVec.ofInt 64 (vsg.wrap bits)).toNat.testBit k:=by
 have hp:2 ^ n≤64:=by
  have:=vvv (n:=2) (by omega) hn;simpa using this
 have hF:(BitVec.ofInt 64 (vsg.wrap ((2 ^ n - 1:Nat):Int))).toNat=2 ^ n - 1:=by rw [wrap_i64 (by omega) (by omega),qur (by omega)]
 refine ⟨(BitVec.ofInt 64 (vsg.wrap bits)).toNat &&& (2 ^ n - 1),?_,?_,fun k hk=>?_⟩
 ·rw [BitVec.toNat_and,hF];have:(BitVec.ofInt 64 (vsg.wrap bits)).toNat &&& (2 ^ n - 1)≤2 ^ n - 1:=vvm;exact wrap_i64 (by omega) (by omega)
 ·have:(BitVec.ofInt 64 (vsg.wrap bits)).toNat &&& (2 ^ n - 1)≤2 ^ n - 1:=vvm;omega
 ·rw [vvz,vv3,decide_eq_true hk,vpr]
theorem vas (bits:Int) {n:Nat} (hn:n≤6):∃m:Nat,(vsg.wrap ((BitVec.ofInt 64 (vsg.wrap ((2 ^ n - 1:Nat):Int)) &&& ~~~ (BitVec.ofInt 64 (vsg.wrap bits))).toNat:Int))=(m:Int)∧m < 64 ∧
  ∀k,k < n→m.testBit k=!(BitVec.ofInt 64 (vsg.wrap bits)).toNat.testBit k:=by
 have hp:2 ^ n≤64:=by
  have:=vvv (n:=2) (by omega) hn;simpa using this
 have hF:(BitVec.ofInt 64 (vsg.wrap ((2 ^ n - 1:Nat):Int))).toNat=2 ^ n - 1:=by rw [wrap_i64 (by omega) (by omega),qur (by omega)]
 have hle:(2 ^ n - 1) &&& (~~~ (BitVec.ofInt 64 (vsg.wrap bits))).toNat≤2 ^ n - 1:=Nat.and_le_left;refine ⟨(2 ^ n - 1) &&& (~~~ (BitVec.ofInt 64 (vsg.wrap bits))).toNat,?_,by omega,fun k hk=>?_⟩
 ·rw [BitVec.toNat_and,hF];exact wrap_i64 (by omega) (by omega)
 ·rw [vvz,vv3,decide_eq_true hk,vuj];generalize BitVec.ofInt 64 (vsg.wrap bits)=B;rw [←BitVec.getLsbD,←BitVec.getLsbD,BitVec.getLsbD_not,decide_eq_true (show k < 64 by omega),vuj]
theorem qpb {α:Type} (l:List α) (j:Nat) (h:j < l.length):l.take (j+1)=l.take j++[l[j]]:=by
 induction l generalizing j with
 | nil=>simp at h
 | cons x r ih =>
  cases j with
  | zero=>simp
  | succ j =>
   simp only [vsv] at h;simp only [List.take_succ_cons,vso,List.getElem_cons_succ];rw [ih j (by omega)]
theorem qrh {α:Type} (l:List α) (p:α→Bool) (B:List α×Int×Int→Option (LS (List α×Int×Int) (List α×Int)))
  (hB:∀(s:List α) (i j:Nat) x,s.length=l.length→s[j]?=some x→l[j]?=some x→i≤j→j < l.length→B (s,(i:Int),(j:Int))=some (.next (if p x=true then (s.set i x,((i+1:Nat):Int),((j+1:Nat):Int)) else (s,(i:Int),((j+1:Nat):Int)))))
  (hE:∀(s:List α) (i:Nat),s.length=l.length→B (s,(i:Int),(l.length:Int))=some (.done (s,(i:Int)))) :
  ∀(r j:Nat) (s:List α) (i:Nat),j+r=l.length→s.length=l.length→i≤j→s.take i=(l.take j).filter p→(∀m,j≤m→s[m]?=l[m]?) →
   ∃(s':List α) (i':Nat),qal B (s,(i:Int),(j:Int))=some (s',(i':Int))∧s'.length=l.length∧i'≤l.length∧s'.take i'=l.filter p
 | 0,j,s,i,hj,hs,hij,ht,hm=>by
  have e:j=l.length:=by omega
  subst e;refine ⟨s,i,qat (hE s i hs),hs,hij,?_⟩;rw [ht,vvl]
 | r+1,j,s,i,hj,hs,hij,ht,hm=>by
  have hjl:j < l.length:=by omega
  have hx:l[j]?=some l[j]:=vqd hjl;have hsx:s[j]?=some l[j]:=by rw [hm j (vrj _),hx]
  have htake:l.take (j+1)=l.take j++[l[j]]:=qpb l j hjl;have hstep:=hB s i j l[j] hs hsx hx hij hjl;cases hp:p l[j] with
  | true =>
   rw [if_pos hp] at hstep;have hil:i < s.length:=by omega
   obtain ⟨s',i',h1,h2,h3,h4⟩:=qrh l p B hB hE r (j+1) (s.set i l[j]) (i+1) (by omega) (by rw [vqq];exact hs) (by omega) (by
    rw [htake,vuy,←ht,vuz,if_pos hp,vu2];have hg:(s.set i l[j])[i]?=some l[j]:=by rw [List.getElem?_set_self hil]
    have hl2:i < (s.set i l[j]).length:=by rw [vqq];exact hil
    rw [qpb _ i hl2,List.take_set_of_le (vrj i)];congr 2;have:=vqd hl2;rw [hg] at this;exact (vtu this).symm) (fun m hmj=>by rw [List.getElem?_set_ne (by omega)];exact hm m (by omega))
   exact ⟨s',i',by rw [qbd hstep];exact h1,h2,h3,h4⟩
  | false =>
   rw [if_neg (by rw [hp];simp)] at hstep;obtain ⟨s',i',h1,h2,h3,h4⟩:=qrh l p B hB hE r (j+1) s i (by omega) hs (by omega) (by
    rw [htake,vuy,←ht,vuz,if_neg (by rw [hp];simp),vu2,vp1]) (fun m hmj=>hm m (by omega))
   exact ⟨s',i',by rw [qbd hstep];exact h1,h2,h3,h4⟩
theorem qvn {α:Type} (p:α→Bool) (l:List α) (i:Nat) (h:l.findIdx? (fun x=>!p x)=some i):i < l.length∧(l.take (i+1)).filter p=l.take i:=by
 rw [vu4] at h;obtain ⟨hi,h1,h2⟩:=h;refine ⟨hi,?_⟩;rw [qpb l i hi,vuy,vuz,if_neg (by simpa using h1),vu2,vp1];rw [vu1];intro x hx;obtain ⟨j,hj,rfl⟩:=List.mem_iff_getElem.1 hx;rw [vqr] at hj;rw [List.getElem_take];have:=h2 j (by omega);simpa using this
theorem q6y {α:Type} (s':List α) (k' n:Nat) (z:α) (h:s'.length=n) (hk:k'≤n):(((s'.take k'++List.replicate (s'.length - k') z)++s'.drop (k'+(s'.length - k'))).take k')=s'.take k'∧((s'.take k'++List.replicate (s'.length - k') z)++s'.drop (k'+(s'.length - k'))).length=n:=by
 constructor
 ·rw [vp0,vvk (by rw [vqr];omega),List.take_take,Nat.min_self]
 ·simp only [vql,vqr,vqp,vqm];omega
theorem qus {l:List Int} (ha:l.Pairwise (· < ·)) {m n:Nat} {x y:Int} (hmn:m < n) (hx:l[m]?=some x) (hy:l[n]?=some y):x < y:=by
 obtain ⟨h1,rfl⟩:=vqf.1 hx;obtain ⟨h2,rfl⟩:=vqf.1 hy;exact vvf.1 ha m n h1 h2 hmn
theorem q2s (l:List Int) (ha:l.Pairwise (· < ·)) (hl:l.length≤1000):qe1 l=some true:=by
 have h:qal (qbx l) 1=some (.inl ()):=by
  by_cases h0:l.length=0
  ·exact qat (by simp only [qbx];rw [if_neg (by omega)])
  ·obtain ⟨o,e,ho⟩:=qiz (β:=Unit) l.length (fun _ i=>i) (qbx l) (fun _ _=>True) (fun o=>o=.inl ()) (b0:=()) (s0:=1) 1 (by omega) rfl trivial
    (fun k _ hk1 hk _=>by
     have x1:l[k]?=some l[k]:=vqd hk;have y1:l[k - 1]?=some l[k - 1]:=vqd (by omega);have hw1:vsg.wrap ((k:Int) - 1)=((k - 1:Nat):Int):=by rw [wrap_i64 (by omega) (by omega)];omega
     have:=qus ha (show k - 1 < k by omega) y1 x1;refine .inl ⟨(),?_,trivial⟩;simp only [qbx,if_pos (qak x1),qae x1,vrv,hw1,qae y1,if_neg (show ¬l[k]≤l[k - 1] by omega),wqn k])
    (fun _ _=>⟨_,by simp only [qbx];rw [if_neg (by omega)],rfl⟩)
   rw [e,ho]
 unfold qe1;rw [h];rfl
theorem q6z (l:List Int) (p:Int) (ha:l.Pairwise (· < ·)) (hl:l.length≤1000):∃k:Nat,qav l p=some ((k:Int),decide (p∈l))∧k≤l.length∧(∀m x,m < k→l[m]?=some x→x < p)∧∀m x,k≤m→l[m]?=some x→p≤x:=by
 have asc:∀(m n:Nat) x y,m < n→l[m]?=some x→l[n]?=some y→x < y:=fun m n x y h1 h2 h3=>qus ha h1 h2 h3
 obtain ⟨k,e1,e2,e3,e4⟩:=qry l (fun x=>decide (x < p)) (qar l p) (by omega)
  (fun m n x y hmn hx hy hq=>by
   rw [decide_eq_true_eq] at hq ⊢;rcases vvs m n with h | h
   ·have:=asc m n x y h hx hy;omega
   ·have:m=n:=by omega
    subst this;rw [hx] at hy;cases hy;exact hq)
  (fun i j x hij hj hx=>by
   have c:(i:Int) < (j:Int):=by omega
   simp only [qar,if_pos c,vaq i j (by omega),qae hx,vrv,q0x,qdl (show (i+j) / 2 < 4611686018427387904 by omega)];by_cases h:x < p <;> simp [h])
  (fun i=>by simp [qar]) _ 0 l.length rfl (vtq _) (vrj _) (fun m x hm=>by omega) (fun m x hm hx=>by have:=qcr hx;omega)
 have e3':∀m x,m < k→l[m]?=some x→x < p:=fun m x hm hx=>by simpa using e3 m x hm hx
 have e4':∀m x,k≤m→l[m]?=some x→p≤x:=fun m x hm hx=>by have:=e4 m x hm hx;simp at this;omega
 obtain ⟨i,hi⟩:=qup l p ha (by omega);refine ⟨k,?_,e2,e3',e4'⟩;rw [hi];simp only [vum] at e1;have:qav l p=some ((i:Int),decide (p∈l)):=hi;simp only [qav,e1,vrv] at this;have hfst:(i:Int)=(k:Int):=by
  by_cases hk:k < l.length
  ·have hx:l[k]?=some l[k]:=vqd hk;simp only [if_pos (show ((k:Int) < (l.length:Int)) by omega),qae hx,vrv,qds] at this;split at this
   ·exact (vv4 (vtu this)).1.symm
   ·rw [bne_self_eq_false,if_neg (by simp)] at this;exact (vv4 (vtu this)).1.symm
  ·simp only [if_neg (show ¬((k:Int) < (l.length:Int)) by omega)] at this;exact (vv4 (vtu this)).1.symm
 rw [hfst]
theorem qwt (l part:List Int) (ha:l.Pairwise (· < ·)) (hl:l.length≤1000) (hp:part.length≤1000):qd4 l part=some (part.all fun x=>decide (x∈l)):=by
 have h:=qlv part (qc0 l part) (fun x=>decide (x∈l)) false
  (fun k x hx hk hq=>by
   obtain ⟨i,hi⟩:=qup l x ha (by omega);simp only [qc0,if_pos (qak hx),qae hx,vrv,hi,hq,if_true,wqn k])
  (fun k x hx hq=>by
   obtain ⟨i,hi⟩:=qup l x ha (by omega);simp only [qc0,if_pos (qak hx),qae hx,vrv,hi,hq,vps,if_false])
  (by simp [qc0])
 unfold qd4;rw [h,vrv];cases part.all fun x=>decide (x∈l) <;> rfl
def indB (V:List Int) (E:List (List Int)) (l:List Int):Bool:=(l.all fun x=>decide (x∈V)) && !(E.any fun e=>e.all fun x=>decide (x∈l))
theorem qmg (V:List Int) (E:List (List Int)) (l:List Int) (hV:V.Pairwise (· < ·)) (ha:l.Pairwise (· < ·)) (hVl:V.length≤1000) (hl:l.length≤1000) (hE:E.length≤1000000) (hEl:∀e∈E,e.length≤3) :
  qb5 ⟨V,E⟩ l=some (indB V E l):=by
 have hC:=qms E (fun y=>qcb y l) (fun e=>e.all fun x=>decide (x∈l)) (fun e he=>by
  simp only [qcb,qwt l e ha hl (by have:=hEl e he;omega),vrv]) hE
 unfold qb5 indB;rw [q2s l ha hl,vrv,if_pos rfl,qwt V l hV hVl hl,vrv];cases h:l.all fun x=>decide (x∈V) with
 | false=>simp
 | true=>simp only [if_true,hC,vrv,vuj]
def qri (E:List (List Int)) (D:List Int):Bool:=E.all fun e=>e.any fun x=>decide (x∈D)
theorem q4m (V:List Int) (E:List (List Int)) (D:List Int) (hD:D.length≤1000) (hE:E.length≤1000000) (hEl:∀e∈E,e.length≤3):qgu ⟨V,E⟩ D=some (qri E D):=by
 have hC:=qms E (fun y=>qg2 y D) (fun e=>!(e.any fun x=>decide (x∈D))) (fun e he=>by
  have h:=qiy e (fun y=>qfl y D) (fun x=>decide (x∈D)) (fun x _=>by simp only [qfl,qrb D x (by omega),vrv]) (by have:=hEl e he;omega);simp only [qg2,h,vrv]) hE
 simp only [qgu,hC,vrv,qri];rw [vuw]
theorem vo6 (l:List Int) (id:Int) (hl:l.length≤1000):qjv l id=some (l.filter fun x=>!(x == id)):=by
 have hI:=qk2 l (fun y=>qgv y id) (fun x=>x == id) (fun x _=>rfl) (by omega);unfold qjv;rw [qt1 (by omega),if_pos rfl,hI,vrv];cases hf:l.findIdx? (fun x=>x == id) with
 | none =>
  have hno:∀x∈l,(x == id)=false:=by
   have:=vu3.1 hf;exact fun x hx=>by simpa using this x hx
  have hfil:(l.filter fun x=>!(x == id))=l:=vu1.2 fun x hx=>by simp [hno x hx]
  have:(ve9 (none:Option Nat) == (-1:Int))=true:=rfl;rw [if_pos this,hfil]
 | some i =>
  have hf':l.findIdx? (fun x=>!(!(x == id)))=some i:=by simpa using hf
  obtain ⟨hi,ht⟩:=qvn (fun x=>!(x == id)) l i hf';have hne:¬(ve9 (some i) == (-1:Int))=true:=by
   simp only [ve9,beq_iff_eq];omega
  rw [if_neg hne];have hpos:ve9 (some i)=(i:Int):=rfl;rw [hpos,wqn i];obtain ⟨s,k,e1,e2,e3,e4⟩:=qrh l (fun x=>!(x == id)) (qif id)
   (fun s i j x hs hsx hlx hij hj=>by
    have hw:vsg.wrap ((j:Int)+1)=((j+1:Nat):Int):=qdl (by omega);have hwi:vsg.wrap ((i:Int)+1)=((i+1:Nat):Int):=qdl (by omega);have hsi:s[i]?=some s[i]:=vqd (by omega);simp only [qif,if_pos (show (j:Int) < ((s.length:Nat):Int) by omega),qae hsx,vrv,qgv,qae hsi,hw,hwi,vtv];by_cases h:(x == id)=true
    ·rw [if_pos h,h];rfl
    ·have h':(x == id)=false:=by simpa using h
     rw [if_neg h,h'];rfl)
   (fun s i hs=>by simp only [qif];rw [if_neg (by omega)])
   (l.length - (i+1)) (i+1) l i (by omega) rfl (by omega) ht.symm (fun m _=>rfl)
  rw [e1,vrv];obtain ⟨c1,c2⟩:=q6y s k l.length (0:Int) e2 e3;simp only [vtv];rw [if_pos (by omega),if_pos (by omega),if_pos (by omega),if_pos (by simp only [vqr,vqp,vqm];omega)];simp only [vrv];rw [if_pos (by rw [c2];exact e3),c1,e4]
theorem vd2 (a b:List Int) (ha:a.length≤1000) (hb:b.length≤1000):qfm a b=some (a.all fun x=>decide (x∈b)):=by
 have h:=qlv a (qc1 a b) (fun x=>decide (x∈b)) false
  (fun k x hx hk hq=>by
   simp only [qc1,if_pos (qak hx),qae hx,vrv,qhh,vfa b x (by omega),hq,if_true,wqn k])
  (fun k x hx hq=>by
   simp only [qc1,if_pos (qak hx),qae hx,vrv,qhh,vfa b x (by omega),hq,vps,if_false])
  (by simp [qc1])
 unfold qfm;rw [h,vrv];cases a.all fun x=>decide (x∈b) <;> rfl
theorem vd3 {t:Table} (H:DT t) (l:List Int) (ha:l.Pairwise (· < ·)) (hl:l.length≤1000) (hm:∀x∈l,∃r∈t.Rows,r.ID=x):∃p,qie t l=some (p,0):=by
 have h1:qal (qdu l) 1=some (.inl ()):=by
  by_cases h0:l.length=0
  ·exact qat (by simp only [qdu];rw [if_neg (by omega)])
  ·obtain ⟨o,e,ho⟩:=qiz (β:=Unit) l.length (fun _ i=>i) (qdu l) (fun _ _=>True) (fun o=>o=.inl ()) (b0:=()) (s0:=1) 1 (by omega) rfl trivial
    (fun k _ hk1 hk _=>by
     have x1:l[k]?=some l[k]:=vqd hk;have y1:l[k - 1]?=some l[k - 1]:=vqd (by omega);have hw1:vsg.wrap ((k:Int) - 1)=((k - 1:Nat):Int):=by rw [wrap_i64 (by omega) (by omega)];omega
     have:=qus ha (show k - 1 < k by omega) y1 x1;refine .inl ⟨(),?_,trivial⟩;simp only [qdu,if_pos (qak x1),qae x1,vrv,hw1,qae y1,if_neg (show ¬l[k]≤l[k - 1] by omega),wqn k])
    (fun _ _=>⟨_,by simp only [qdu];rw [if_neg (by omega)],rfl⟩)
   rw [e,ho]
 have few:=H.few;obtain ⟨p,h2,_⟩:=qhk (β:=List Int) l.length (fun b i=>(b,i)) (qf7 t l) (fun b=>(Sum.inl b:(List Int) ⊕ (List Int×Int))) (fun k b=>b.length≤k) (b0:=[]) (s0:=([],0)) rfl (by simp)
  (fun k b hk hI=>by
   have x1:l[k]?=some l[k]:=vqd hk;have hI2:=qmr t.Rows (fun y=>qgt y l[k]) (fun r=>r.ID == l[k]) (fun r _=>rfl) (by omega);obtain ⟨r,hr,hid⟩:=hm _ (vu8 hk);cases hf:t.Rows.findIdx? (fun r=>r.ID == l[k]) with
   | none =>
    have:=vu3.1 hf r hr;simp [hid] at this
   | some i =>
    rw [hf] at hI2;refine ⟨b++[(i:Int)],?_,by simp;omega⟩;simp only [qf7,if_pos (qak x1),qae x1,vrv,hI2,if_neg (show ¬(i:Int) < 0 by omega),qt1 (show b.length+1≤17592186044416 by omega),if_true,wqn k])
  (fun b _=>by simp [qf7])
 refine ⟨p,?_⟩;unfold qie;rw [h1,vrv,h2,vrv]
def qmx (l:List Int) (id:Int):List Int:=l.filter fun x=>!(x == id)
theorem qqk {l:List Int} {id x:Int}:x∈qmx l id↔x∈l∧x≠id:=by
 unfold qmx;rw [vta];simp
theorem qyd {E:List (List Int)} {D:List Int}:qri E D=true↔∀e∈E,∃x∈e,x∈D:=by
 unfold qri;simp
theorem vat {E:List (List Int)} {A B:List Int} (h:∀x∈A,x∈B) (hA:qri E A=true):qri E B=true :=
 qyd.2 fun e he=>by
  obtain ⟨x,h1,h2⟩:=qyd.1 hA e he;exact ⟨x,h1,h x h2⟩
theorem qye {V:List Int} {E:List (List Int)} {l D:List Int} (hE:∀e∈E,∀x∈e,x∈V) (hl:∀x∈l,x∈V) (h:∀x∈V,(x∈l↔¬x∈D)):indB V E l=qri E D:=by
 have h1:(l.all fun x=>decide (x∈V))=true:=by simpa using hl
 unfold indB;rw [h1,vuj,vuf,qyd];simp only [vpu,vux,vsn,decide_eq_true_eq];constructor
 ·intro hh e he;have:=hh e he;refine Classical.byContradiction fun hno=>this fun x hx=>?_
  rw [h x (hE e he x hx)];exact fun hd=>hno ⟨x,hx,hd⟩
 ·intro hh e he hall;obtain ⟨x,hx,hd⟩:=hh e he;exact (h x (hE e he x hx)).1 (hall x hx) hd
def qql (E:List (List Int)) (out:List Int) (x:Int):List Int:=if qri E (qmx out x)=true then qmx out x else out
theorem q0z (E:List (List Int)) (out:List Int) (x:Int):(qql E out x).Sublist out:=by
 unfold qql qmx;split
 ·exact List.filter_sublist
 ·exact vuu.refl _
theorem q4n (E:List (List Int)):∀(r out:List Int),(r.foldl (qql E) out).Sublist out∧(qri E out=true→qri E (r.foldl (qql E) out)=true) ∧
  ∀id∈r,id∈r.foldl (qql E) out→qri E (qmx (r.foldl (qql E) out) id)=false
 | [],out=>⟨vuu.refl _,fun h=>h,fun _ h=>(by cases h)⟩
 | x :: r,out=>by
  rw [vu5];obtain ⟨h1,h2,h3⟩:=q4n E r (qql E out x);have hs:=q0z E out x;refine ⟨h1.trans hs,fun h=>h2 ?_,fun id hid hm=>?_⟩
  ·unfold qql;split
   ·assumption
   ·exact h
  ·rcases vty.1 hid with rfl | hid
   ·by_cases hh:qri E (qmx out id)=true
    ·have hm2:=h1.subset hm;unfold qql at hm2;rw [if_pos hh] at hm2;exact absurd rfl (qqk.1 hm2).2
    ·rw [Bool.eq_false_iff];refine fun hc=>hh (vat (fun x hx=>?_) hc)
     obtain ⟨q1,q2⟩:=qqk.1 hx;exact qqk.2 ⟨hs.subset (h1.subset q1),q2⟩
   ·exact h3 id hid hm
def vk7 (E:List (List Int)) (D:List Int):Bool:=qri E D && !(D.any fun id=>qri E (qmx D id))
theorem vau {t:Table} (H:DT t) {l:List Constraint} {V:List Int} {E:List (List Int)} (hB:qdk t l=some (⟨V,E⟩,0)) {D:List Int} (hD:D.Pairwise (· < ·)) (hl:D.length≤1000) (hm:∀x∈D,∃r∈t.Rows,r.ID=x) :
  qht t l D=some (⟨V,E⟩,0):=by
 obtain ⟨p,hp⟩:=vd3 H D hD hl hm;simp only [qht,hB,vrv,bne_self_eq_false,vps,if_false,hp]
theorem q00 {t:Table} (H:DT t) {l:List Constraint} {V:List Int} {E:List (List Int)} (hB:qdk t l=some (⟨V,E⟩,0)) (hE:E.length≤1000000) (hEl:∀e∈E,e.length≤3) {D:List Int} (hD:D.Pairwise (· < ·)) (hl:D.length≤1000) (hm:∀x∈D,∃r∈t.Rows,r.ID=x) :
  qgf t l D=some (vk7 E D,0):=by
 have hC:=qiy D (fun y=>qeo y ⟨V,E⟩ D) (fun id=>qri E (qmx D id)) (fun x _=>by
  have hf:(D.filter fun y=>!(y == x)).length≤1000:=vrl (vsx _ _) hl;simp only [qeo,vo6 D x hl,vrv,q4m V E _ hf hE hEl,qmx]) (by omega)
 unfold qgf vk7;rw [vau H hB hD hl hm,vrv];simp only [bne_self_eq_false,vps,if_false,q4m V E D hl hE hEl,vrv,hC];cases qri E D <;> simp
theorem q60 {t:Table} (H:DT t) {l:List Constraint} {V:List Int} {E:List (List Int)} (hB:qdk t l=some (⟨V,E⟩,0)) (hE:E.length≤1000000) (hEl:∀e∈E,e.length≤3) {D:List Int} (hD:D.Pairwise (· < ·)) (hl:D.length≤1000) (hm:∀x∈D,∃r∈t.Rows,r.ID=x) :
  qgw t l D=some (if qri E D=true then (D.foldl (qql E) D,0) else ([],15)):=by
 unfold qgw;rw [vau H hB hD hl hm,vrv];simp only [bne_self_eq_false,vps,if_false,q4m V E D hl hE hEl,vrv];by_cases h:qri E D=true
 ·rw [if_pos h,if_pos h,qoq D (by omega),vrv];have hL:=qe5 D (fun (b:List Int) (i:Int)=>(b,i)) (qe2 D (⟨V,E⟩,0)) (qql E) id (fun _ b=>b.length≤1000) (b0:=D) (s0:=(D,0)) rfl hl
   (fun k b x hx hk hI=>by
    have hf:(b.filter fun y=>!(y == x)).length≤1000:=vrl (vsx _ _) hI;refine ⟨?_,vrl (q0z E b x).length_le hI⟩;simp only [qe2,if_pos (qak hx),qae hx,vrv,vo6 b x hI,q4m V E _ hf hE hEl,wqn k];unfold qql qmx;split <;> rfl)
   (fun b _=>by simp [qe2])
  rw [hL,vrv];rfl
 ·rw [if_neg h,if_neg h]
theorem q4o {l:List Int} {k:Nat} {v x:Int}:x∈qm3 l k v↔x∈l∨x=v:=by
 have h:x∈l↔x∈l.take k∨x∈l.drop k:=by
  rw [←vqv,vti]
 rw [qm3,vqv,vty,h];constructor
 ·rintro (h | h | h) <;> simp [h]
 ·rintro ((h | h) | h) <;> simp [h]
theorem vi9 {l:List Int} (ha:l.Pairwise (· < ·)) {k:Nat} {v:Int} (h1:∀m x,m < k→l[m]?=some x→x < v) (h2:∀m x,k≤m→l[m]?=some x→v≤x) (hv:v ∉ l):(qm3 l k v).Pairwise (· < ·):=by
 have ht:∀x∈l.take k,x < v:=fun x hx=>by
  obtain ⟨m,hm⟩:=vva.1 hx;rw [vqj] at hm;split at hm
  ·rename_i hk;exact h1 m x hk hm
  ·cases hm
 have hd:∀x∈l.drop k,v < x:=fun x hx=>by
  obtain ⟨m,hm⟩:=vva.1 hx;rw [vqc] at hm;have:=h2 (k+m) x (by omega) hm;have hne:x≠v:=fun e=>hv (e ▸ vqx hm)
  omega
 have hall:(l.take k++l.drop k).Pairwise (· < ·):=by rw [vti];exact ha
 obtain ⟨p1,p2,p3⟩:=vvd.1 hall;unfold qm3;refine vvd.2 ⟨p1,vve.2 ⟨hd,p2⟩,fun x hx y hy=>?_⟩;rcases vty.1 hy with rfl | hy
 ·exact ht x hx
 ·exact p3 x hx y hy
theorem vav {V:List Int} {E:List (List Int)} {K D:List Int} (hV:V.Pairwise (· < ·)) (hVl:V.length≤900) (hK:K.Pairwise (· < ·)) (hKl:K.length≤900) (hE:E.length≤1000000) (hEl:∀e∈E,e.length≤3) (hEV:∀e∈E,∀x∈e,x∈V)
  (hKV:∀x∈K,x∈V) (hDV:∀x∈D,x∈V) (h:∀x∈V,(x∈K↔¬x∈D)):qf8 ⟨V,E⟩ K=some (vk7 E D):=by
 have hi:=qmg V E K hV hK (by omega) (by omega) hE hEl;rw [qye hEV hKV h] at hi;unfold qf8 vk7;rw [hi,vrv];cases hh:qri E D with
 | false=>simp
 | true =>
  rw [if_pos rfl,vuj];have step:∀(k:Nat) v,V[k]?=some v→k < V.length→qdg ⟨V,E⟩ K (k:Int)=if (decide (v∈K) || !qri E (qmx D v))=true then some (.next ((k+1:Nat):Int)) else some (.done (.inr false)):=by
   intro k v hx hk;have hvV:=vqx hx;obtain ⟨i,s1,s2,s3,s4⟩:=q6z K v hK (by omega);have hw:vsg.wrap ((k:Int)+1)=((k+1:Nat):Int):=qdl (by omega);simp only [qdg,if_pos (qak hx),qae hx,vrv,s1,hw];by_cases hm:v∈K
   ·simp [hm]
   ·have hI:=qmg V E (qm3 K i v) hV (vi9 hK s3 s4 hm) (by omega) (by rw [qo5 s2];omega) hE hEl;rw [qye (D:=qmx D v) hEV (fun x hx=>by
      rcases q4o.1 hx with hx | rfl
      ·exact hKV x hx
      ·exact hvV) (fun x hxV=>by
      rw [q4o,qqk,h x hxV];constructor
      ·rintro (h1 | rfl) ⟨h2,h3⟩
       ·exact h1 h2
       ·exact h3 rfl
      ·intro hno;by_cases hxd:x∈D
       ·exact .inr (Classical.byContradiction fun hne=>hno ⟨hxd,hne⟩)
       ·exact .inl hxd)] at hI
    simp only [hm,decide_false,vps,if_false,if_pos (show K.length≤1000000000 by omega),if_pos (show (0:Int)≤(i:Int) by omega),if_pos (show (i:Int)≤((K.length:Nat):Int) by omega),vtv,hI,vrv,Bool.false_or];cases qri E (qmx D v) <;> rfl
  have hL:=qlv V (qdg ⟨V,E⟩ K) (fun v=>decide (v∈K) || !qri E (qmx D v)) false
   (fun k v hx hk hp=>by rw [step k v hx hk,if_pos hp])
   (fun k v hx hp=>by rw [step k v hx (qcr hx),if_neg (by rw [hp];simp)])
   (by simp [qdg])
  rw [hL,vrv];have hall:(V.all fun v=>decide (v∈K) || !qri E (qmx D v))=!(D.any fun id=>qri E (qmx D id)):=by
   rw [vuf];simp only [vsn,vpv,decide_eq_true_eq,vpu,vux];constructor
   ·intro q id hid;rcases q id (hDV id hid) with q | q
    ·exact absurd hid ((h id (hDV id hid)).1 q)
    ·rw [q];simp
   ·intro q v hv;by_cases hk:v∈K
    ·exact .inl hk
    ·right;have hd:v∈D:=Classical.byContradiction fun hn=>hk ((h v hv).2 hn)
     simpa using q v hd
  rw [hall];cases D.any fun id=>qri E (qmx D id) <;> rfl
theorem qr8 (c:Drossref41_Case) (bits:Int) (hc:qg4 c) (hb:okI .u8 bits):qfu c bits=some true:=by
 obtain ⟨t,l,w,b,e,hok⟩:=of41 c hc;unfold qfu;rw [e,vrv];have aw:qhi=some true:=rfl;simp only [aw,vrv,if_true];cases b with
 | false=>rfl
 | true =>
  simp only [Bool.not_true,vps,if_false];obtain ⟨H,G,hr,hl4,hfit⟩:=hok rfl;obtain ⟨E,hB,hE1,hE2⟩:=vd0 H l hl4 hfit;obtain ⟨m1,q1,q2,q3⟩:=vi8 bits hr;obtain ⟨m2,r1,r2,r3⟩:=vas bits hr;have hF:=q98 (n:=t.Rows.length) (by omega);have hV:(t.Rows.map Row.ID).Pairwise (· < ·):=vvg.2 (H.code).2;have hVl:(t.Rows.map Row.ID).length≤6:=by simpa using hr
  obtain ⟨V,hVe⟩:∃V,V=t.Rows.map Row.ID:=⟨_,rfl⟩;have w1:=q0y t hr m1 q2;have w2:=q0y t hr m2 r2;rw [←hVe] at w1 w2 hV hVl hB;obtain ⟨D,hD⟩:∃D,D=qnu (fun k=>m1.testBit k) 0 V:=⟨_,rfl⟩;obtain ⟨K,hK⟩:∃K,K=qnu (fun k=>m2.testBit k) 0 V:=⟨_,rfl⟩;rw [←hD] at w1;rw [←hK] at w2;have sD:D.Sublist V:=hD ▸ qqj _ _ _;have sK:K.Sublist V:=hK ▸ qqj _ _ _;have hn:V.length=t.Rows.length:=by rw [hVe,vqn]
  have split:∀x∈V,(x∈K↔¬x∈D):=fun x hx=>by
   rw [hK,hD,quq,quq];constructor
   ·rintro ⟨k,k1,k2⟩ ⟨j,j1,j2⟩;have hkn:=(vqf.1 k1).1;have hjn:=(vqf.1 j1).1;have:k=j:=by
     rcases vtk k j with h | h | h
     ·have:=qus hV h k1 j1;omega
     ·exact h
     ·have:=qus hV h j1 k1;omega
    subst this;rw [vru] at k2 j2;rw [r3 k (by omega)] at k2;rw [q3 k (by omega)] at j2;rw [j2] at k2;cases k2
   ·intro hno;obtain ⟨k,hk⟩:=vva.1 hx;have hkn:=(vqf.1 hk).1;refine ⟨k,hk,?_⟩;rw [vru,r3 k (by omega)];cases hbit:(BitVec.ofInt 64 (vsg.wrap bits)).toNat.testBit k with
    | false=>rfl
    | true=>exact absurd ⟨k,hk,by rw [vru,q3 k (by omega),hbit]⟩ hno
  have hEV:∀e∈E,∀x∈e,x∈V:=fun e he x hx=>by
   obtain ⟨r,h1,h2⟩:=(hE1 e he).1 x hx;rw [hVe,←h2];exact List.mem_map_of_mem h1
  have hEl:∀e∈E,e.length≤3:=fun e he=>(hE1 e he).2
  have hin:∀x∈V,∃r∈t.Rows,r.ID=x:=fun x hx=>by
   rw [hVe] at hx;obtain ⟨r,h1,h2⟩:=vtb.1 hx;exact ⟨r,h1,h2⟩
  have aD:=vus.sublist sD hV;have aK:=vus.sublist sK hV;have lD:=sD.length_le;have lK:=sK.length_le;have hMin:=q00 H hB (by omega) hEl aD (by omega) (fun x hx=>hin x (sD.subset hx));have hMax:=vav hV (by omega) aK (by omega) (by omega) hEl hEV (fun x hx=>sK.subset hx) (fun x hx=>sD.subset hx) split;have hCom:=q60 H hB (by omega) hEl aD (by omega) (fun x hx=>hin x (sD.subset hx));have hInd:=qmg V E K hV aK (by omega) (by omega) (by omega) hEl;rw [qye hEV (fun x hx=>sK.subset hx) split] at hInd;simp only [hF,vrv,q1,r1,w1,w2,hB,hMin,hMax,hCom,hInd,bne_self_eq_false,vps,if_false,beq_self_eq_true,if_true];by_cases hh:qri E D=true
  ·obtain ⟨c1,c2,c3⟩:=q4n E D D;have hC2:=q00 H hB (by omega) hEl (vus.sublist c1 aD) (vrl c1.length_le (by omega)) (fun x hx=>hin x (sD.subset (c1.subset hx)));have hmin:vk7 E (D.foldl (qql E) D)=true:=by
    unfold vk7;rw [c2 hh,vuj];simp only [vpu,vux];exact fun id hid=>by rw [c3 id (c1.subset hid) hid];simp
   have hW:=vd2 (D.foldl (qql E) D) D (vrl c1.length_le (by omega)) (by omega);simp only [if_pos hh,hC2,hmin,hh,vrv,beq_self_eq_true,if_true,hW];congr 1;simpa using fun x hx=>c1.subset hx
  ·have hf:qri E D=false:=by simpa using hh
   simp [hf]
end Go.Proofs.YtfnmcjkkfnhpnaaGreatDoor
