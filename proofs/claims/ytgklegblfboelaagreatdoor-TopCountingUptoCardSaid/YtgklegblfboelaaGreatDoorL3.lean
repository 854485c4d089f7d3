/- The Lean functions that the program's functions are lifted to, and the plain laws about them. -/
import Derived.Lib.TrailingZeros
import Derived.Lib.Repeat
import Derived.Test.YtgklegblfboelaaGreatDoorL1
import Derived.Test.YtgklegblfboelaaGreatDoorA3
import Derived.Test.YtgklegblfboelaaGreatDoorA2
set_option linter.unusedVariables false
set_option linter.unusedSimpArgs false
open Bool renaming and_eq_false_iff→vi6,and_eq_true→veg,eq_iff_iff→vi7,false_eq_true→vei,false_or→vi8,not_eq_false'→vi9,not_eq_true'→vek,not_false→vja,not_true→vjb,or_eq_false_iff→vjc,or_false→vjd,true_and→vje
open Int renaming eq_ofNat_of_zero_le→vjf,fdiv→vi2,natCast_mul→vjg,natCast_zero→vjh,toNat_natCast→vio
open Go.IntKind renaming i64→vip,u32→vg2,u64→vi4
open List renaming Pairwise→vji,Perm→vjj,all_eq_false→vjk,all_eq_true→vg4,any_eq_false→vjl,any_eq_true→vg6,append_nil→ver,cons_append→vg7,drop_eq_getElem_cons→vet,eq_nil_iff_forall_not_mem→vjm,ext_getElem?→vex,filter_append→vjn,findIdx?_eq_none_iff→vjo,findIdx?_eq_some_iff_getElem→vjp,foldl_cons→vjq,getD_eq_getElem?_getD→vha,getElem?_append_left→ve0,getElem?_append_right→ve1,getElem?_cons_succ→vhb,getElem?_cons_zero→vhc,getElem?_drop→ve2,getElem?_eq_getElem→ve3,getElem?_eq_none_iff→vjr,getElem?_eq_some_iff→ve5,getElem?_map→ve6,getElem?_range→vjs,getElem?_set→vjt,getElem?_take→ve9,getElem_mem→vju,idxOf_append→vjv,idxOf_lt_length_iff→vjw,length_append→vfb,length_cons→vhe,length_drop→vfc,length_filter_le→vhg,length_map→vfd,length_pos_iff→vjx,length_pos_of_mem→vhh,length_range→vhi,length_reverse→vjy,length_set→vfg,length_singleton→viv,length_take→vfh,map_append→vfi,mem_append→vfl,mem_cons→vhp,mem_cons_of_mem→vhq,mem_cons_self→vhr,mem_filter→vhs,mem_iff_getElem?→vjz,mem_map→vht,mem_map_of_mem→vj0,mem_of_getElem?→vfn,mem_of_mem_drop→vfo,mem_range→vhv,mem_reverse→vj1,mem_singleton→vhw,ne_nil_of_mem→vj2,nil_append→vfs,nodup_cons→vj3,pairwise_append→vj4,pairwise_cons→vj5,pairwise_iff_getElem→vj6,pairwise_reverse→vj7,pairwise_singleton→vj8,range→vft,range_succ→vj9,replicate→vfv,reverse_perm→vka,set_append_right→vkb,set_cons_succ→vkc,set_cons_zero→vhy,take_append_drop→vh0,take_length→vkd,take_of_length_le→vfz,take_succ_eq_append_getElem→vke
open Nat renaming add_mul_mod_self_left→vkf,and_one_is_mod→vkg,div_le_self→vkh,eq_of_testBit_eq→vki,le_mul_of_pos_right→vkj,le_of_lt→vf8,le_refl→vf9,le_trans→vgb,lt_of_le_of_lt→vkk,lt_of_lt_of_le→vgc,lt_or_eq_of_le→vkl,lt_succ_iff→vkm,lt_trichotomy→vh6,min_eq_left→vh7,mod_eq_of_lt→vkn,not_lt_zero→vko,or_lt_two_pow→vkp,pos_of_ne_zero→vgi,pow_le_pow_right→vkq,pow_lt_pow_right→vkr,pow_pos→vks,pow_succ→vkt,strongRecOn→vh8,sub_self→vib,testBit_lt_two_pow→vku,testBit_or→vkv,testBit_two_pow→vkw,zero_add→vgk,zero_le→vie,zero_testBit→vkx
open Option renaming bind_some→vgl,getD_some→vgn,map_eq_some_iff→vgp,map_some→vgq
open Option.some renaming inj→vih,injEq→vgr
open Prod.mk renaming inj→vky
noncomputable section
namespace Go.Ab
open Go
def qwo (a b:Nat):Prop:=∀i,a.testBit i=true→b.testBit i=true
def qkt (es:List Nat) (S:Nat):Prop:=∀e∈es,¬qwo e S
def qx6 (es:List Nat) (u S:Nat):Prop:=∃e∈es,e.testBit u=true∧∀i,e.testBit i=true→i≠u→S.testBit i=true
def q0k (n:Nat) (es:List Nat) (S:Nat):Prop:=qkt es S∧∀u,u < n→S.testBit u=false→qx6 es u S
open Classical in
def LM (n:Nat) (es:List Nat):Nat→Nat→Nat→List Nat
 | 0,_,iN=>if q0k n es iN then [iN] else []
 | k+1,v,iN=>LM n es k (v+1) (iN+2 ^ v)++LM n es k (v+1) iN
theorem qb3 {a v i:Nat} (h:a < 2 ^ v) (hi:v≤i):a.testBit i=false :=
 vku (vgc h (vkq (by omega) hi))
theorem qd9 {a v:Nat} (h:a < 2 ^ v) (i:Nat):(a+2 ^ v).testBit i=(a.testBit i || decide (i=v)):=by
 rw [Nat.add_comm];rcases vh6 i v with hi | hi | hi
 ·rw [Nat.testBit_two_pow_add_gt hi,decide_eq_false (by omega),vjd]
 ·subst hi;rw [Nat.testBit_two_pow_add_eq,qb3 h (vf9 _)];simp
 ·rw [qb3 (v:=v+1) (by rw [vkt];omega) hi,qb3 h (by omega),decide_eq_false (by omega)];rfl
theorem qf7 {a v:Nat} (h:a < 2 ^ v):a+2 ^ v < 2 ^ (v+1):=by rw [vkt];omega
theorem qdb {a v:Nat} (h:a < 2 ^ v):a < 2 ^ (v+1):=by rw [vkt];omega
theorem qwp {a b n:Nat} (ha:a < 2 ^ n) (hb:b < 2 ^ n) (h:∀i,i < n→a.testBit i=b.testBit i):a=b:=by
 apply vki;intro i;by_cases hi:i < n
 ·exact h i hi
 ·rw [qb3 ha (by omega),qb3 hb (by omega)]
theorem qmy (n:Nat) (es:List Nat):∀(k v iN S:Nat),v+k=n→iN < 2 ^ v→(S∈LM n es k v iN↔S < 2 ^ n∧q0k n es S∧∀i,i < v→S.testBit i=iN.testBit i)
 | 0,v,iN,S,hv,hi=>by
  have:v=n:=by omega
  subst this;unfold LM;constructor
  ·intro h;split at h
   ·rename_i hm;simp only [vhw] at h;subst h;exact ⟨hi,hm,fun _ _=>rfl⟩
   ·cases h
  ·rintro ⟨h1,h2,h3⟩;have:S=iN:=qwp h1 hi h3;subst this;rw [if_pos h2];simp
 | k+1,v,iN,S,hv,hi=>by
  unfold LM;rw [vfl,qmy n es k (v+1) (iN+2 ^ v) S (by omega) (qf7 hi),qmy n es k (v+1) iN S (by omega) (qdb hi)];constructor
  ·rintro (⟨h1,h2,h3⟩ | ⟨h1,h2,h3⟩)
   ·refine ⟨h1,h2,fun i hiv=>?_⟩;rw [h3 i (by omega),qd9 hi,decide_eq_false (by omega),vjd]
   ·exact ⟨h1,h2,fun i hiv=>h3 i (by omega)⟩
  ·rintro ⟨h1,h2,h3⟩;cases hb:S.testBit v with
   | true =>
    refine .inl ⟨h1,h2,fun i hiv=>?_⟩;rw [qd9 hi];by_cases e:i=v
    ·subst e;rw [hb];simp
    ·rw [h3 i (by omega),decide_eq_false e,vjd]
   | false =>
    refine .inr ⟨h1,h2,fun i hiv=>?_⟩;by_cases e:i=v
    ·subst e;rw [hb,qb3 hi (vf9 _)]
    ·exact h3 i (by omega)
def befM (S T:Nat):Prop:=∃i,S.testBit i=true∧T.testBit i=false∧∀j,j < i→S.testBit j=T.testBit j
theorem qnp (n:Nat) (es:List Nat):∀(k v iN:Nat),v+k=n→iN < 2 ^ v→(LM n es k v iN).Pairwise befM
 | 0,v,iN,hv,hi=>by
  unfold LM;split
  ·exact vj8 _ _
  ·exact vji.nil
 | k+1,v,iN,hv,hi=>by
  unfold LM;refine vj4.2 ⟨qnp n es k (v+1) _ (by omega) (qf7 hi),qnp n es k (v+1) _ (by omega) (qdb hi),fun S hS T hT=>?_⟩;obtain ⟨_,_,s3⟩:=(qmy n es k (v+1) _ S (by omega) (qf7 hi)).1 hS;obtain ⟨_,_,t3⟩:=(qmy n es k (v+1) _ T (by omega) (qdb hi)).1 hT;refine ⟨v,?_,?_,fun j hj=>?_⟩
  ·rw [s3 v (by omega),qd9 hi];simp
  ·rw [t3 v (by omega),qb3 hi (vf9 _)]
  ·rw [s3 j (by omega),t3 j (by omega),qd9 hi,decide_eq_false (by omega),vjd]
theorem qwq (S:Nat):¬befM S S:=by
 rintro ⟨i,h1,h2,_⟩;rw [h1] at h2;cases h2
theorem qqz (n:Nat) (es:List Nat):∀(k v iN:Nat),(LM n es k v iN).length≤2 ^ k
 | 0,v,iN=>by unfold LM;split <;> simp
 | k+1,v,iN=>by
  unfold LM;have h1:=qqz n es k (v+1) (iN+2 ^ v);have h2:=qqz n es k (v+1) iN;rw [vfb,vkt];omega
def qgj {σ:Type} (f:σ→Nat→Bool×σ):List Nat→σ→Bool×σ
 | [],s=>(true,s)
 | x :: r,s=>if (f s x).1=true then qgj f r (f s x).2 else (false,(f s x).2)
theorem qmz {σ:Type} (f:σ→Nat→Bool×σ):∀(a b:List Nat) (s:σ),qgj f (a++b) s=if (qgj f a s).1=true then qgj f b (qgj f a s).2 else (false,(qgj f a s).2)
 | [],b,s=>by simp [qgj]
 | x :: a,b,s=>by
  simp only [vg7,qgj];by_cases h:(f s x).1=true
  ·simp only [if_pos h];exact qmz f a b _
  ·simp only [if_neg h];simp
def qgz (n:Nat) (es:List Nat) (v iN:Nat):Prop:=∃u,u < v∧iN.testBit u=false∧¬∃e∈es,e.testBit u=true∧∀i,e.testBit i=true→i≠u→(iN.testBit i=true∨(v≤i∧i < n))
theorem qq0 {n:Nat} {es:List Nat} {k v iN:Nat} (hv:v+k=n) (hi:iN < 2 ^ v) (h:qgz n es v iN):LM n es k v iN=[]:=by
 obtain ⟨u,h1,h2,h3⟩:=h;rw [vjm];intro S hS;obtain ⟨s1,⟨s2,s3⟩,s4⟩:=(qmy n es k v iN S hv hi).1 hS;obtain ⟨e,he,e1,e2⟩:=s3 u (by omega) (by rw [s4 u h1,h2]);refine h3 ⟨e,he,e1,fun i hib hiu=>?_⟩;have:=e2 i hib hiu;by_cases hiv:i < v
 ·left;rw [←s4 i hiv];exact this
 ·refine .inr ⟨by omega,?_⟩;by_cases hin:i < n
  ·exact hin
  ·rw [qb3 s1 (by omega)] at this;cases this
theorem q57 {n:Nat} {es:List Nat} {k v iN:Nat} (hv:v+k=n) (hi:iN < 2 ^ v) (h:¬qkt es iN):LM n es k v iN=[]:=by
 rw [vjm];intro S hS;obtain ⟨s1,⟨s2,s3⟩,s4⟩:=(qmy n es k v iN S hv hi).1 hS;refine h fun e he hsub=>s2 e he fun i hib=>?_
 have:=hsub i hib;by_cases hiv:i < v
 ·rw [s4 i hiv];exact this
 ·rw [qb3 hi (by omega)] at this;cases this
theorem vaj {n:Nat} {es:List Nat} {iN:Nat} (h1:qkt es iN) (h2:¬qgz n es n iN):q0k n es iN:=by
 refine ⟨h1,fun u hu hb=>?_⟩;refine Classical.byContradiction fun hno=>h2 ⟨u,hu,hb,?_⟩
 rintro ⟨e,he,e1,e2⟩;exact hno ⟨e,he,e1,fun i a b=>(e2 i a b).resolve_right (by omega)⟩
theorem qx7 {σ ST OT:Type} (n:Nat) (es:List Nat) (f:σ→Nat→Bool×σ) (B:(ST→Option OT)→ST→Option OT) (Sx:σ→Nat→Nat→Nat→ST) (R:Bool→σ→OT) (c:σ→Nat) (bnd:Nat)
  (hc:∀s x,c (f s x).2≤c s+1)
  (h1:∀rec s v iN out,v≤n→iN < 2 ^ v→out < 2 ^ v→(∀i,i < v→out.testBit i=!iN.testBit i)→qgz n es v iN→B rec (Sx s v iN out)=some (R true s))
  (h2:∀rec s iN out,iN < 2 ^ n→out < 2 ^ n→(∀i,i < n→out.testBit i=!iN.testBit i)→¬qgz n es n iN→c s+1≤bnd→B rec (Sx s n iN out)=some (R (f s iN).1 (f s iN).2))
  (h3:∀rec s v iN out,v < n→iN < 2 ^ v→out < 2 ^ v→(∀i,i < v→out.testBit i=!iN.testBit i)→¬qgz n es v iN→¬qkt es (iN+2 ^ v)→B rec (Sx s v iN out)=rec (Sx s (v+1) iN (out+2 ^ v)))
  (h4:∀rec s v iN out,v < n→iN < 2 ^ v→out < 2 ^ v→(∀i,i < v→out.testBit i=!iN.testBit i)→¬qgz n es v iN→qkt es (iN+2 ^ v)→∀b s',rec (Sx s (v+1) (iN+2 ^ v) out)=some (R b s')→B rec (Sx s v iN out)=if b=true then rec (Sx s' (v+1) iN (out+2 ^ v)) else some (R false s')) :
  ∀(k v iN out fuel:Nat) (s:σ),v+k=n→k < fuel→iN < 2 ^ v→out < 2 ^ v→(∀i,i < v→out.testBit i=!iN.testBit i)→qkt es iN→c s+(LM n es k v iN).length≤bnd →
   q7k B fuel (Sx s v iN out)=some (R (qgj f (LM n es k v iN) s).1 (qgj f (LM n es k v iN) s).2)∧c (qgj f (LM n es k v iN) s).2≤c s+(LM n es k v iN).length:=by
 have clE:∀(l:List Nat) (s:σ),c (qgj f l s).2≤c s+l.length:=by
  intro l
  induction l with
  | nil=>intro s;simp [qgj]
  | cons x l ih =>
   intro s;have:=hc s x;simp only [qgj,vhe];split
   ·have:=ih (f s x).2;omega
   ·simp only;omega
 intro k
 induction k with
 | zero =>
  intro v iN out fuel s hv hf hi ho hio hfr hb;refine ⟨?_,clE _ _⟩;cases fuel with
  | zero=>omega
  | succ fuel =>
   have:v=n:=by omega
   subst this;rw [q7k];by_cases hp:qgz v es v iN
   ·rw [qq0 (k:=0) hv hi hp,h1 _ s v iN out (vf9 _) hi ho hio hp];rfl
   ·have hm:=vaj hfr hp;have hL:LM v es 0 v iN=[iN]:=by unfold LM;rw [if_pos hm]
    rw [hL] at hb ⊢;rw [h2 _ s iN out hi ho hio hp (by simpa using hb)];simp only [qgj];cases h:(f s iN).1 <;> simp
 | succ k ih =>
  intro v iN out fuel s hv hf hi ho hio hfr hb;refine ⟨?_,clE _ _⟩;cases fuel with
  | zero=>omega
  | succ fuel =>
   rw [q7k];have hio2:∀i,i < v+1→(out+2 ^ v).testBit i=!iN.testBit i:=fun i hiv=>by
    rw [qd9 ho];by_cases e:i=v
    ·subst e;rw [qb3 hi (vf9 _)];simp
    ·rw [hio i (by omega),decide_eq_false e,vjd]
   have hio1:∀i,i < v+1→out.testBit i=!(iN+2 ^ v).testBit i:=fun i hiv=>by
    rw [qd9 hi];by_cases e:i=v
    ·subst e;rw [qb3 ho (vf9 _)];simp
    ·rw [hio i (by omega),decide_eq_false e,vjd]
   by_cases hp:qgz n es v iN
   ·rw [qq0 hv hi hp,h1 _ s v iN out (by omega) hi ho hio hp];rfl
   ·by_cases hfr2:qkt es (iN+2 ^ v)
    ·have hL:LM n es (k+1) v iN=LM n es k (v+1) (iN+2 ^ v)++LM n es k (v+1) iN:=rfl;rw [hL] at hb ⊢;rw [vfb] at hb;obtain ⟨e1,e2⟩:=ih (v+1) (iN+2 ^ v) out fuel s (by omega) (by omega) (qf7 hi) (qdb ho) hio1 hfr2 (by omega);rw [h4 _ s v iN out (by omega) hi ho hio hp hfr2 _ _ e1,qmz];cases hb1:(qgj f (LM n es k (v+1) (iN+2 ^ v)) s).1 with
     | false=>simp
     | true =>
      simp only [if_true];exact (ih (v+1) iN (out+2 ^ v) fuel _ (by omega) (by omega) (qdb hi) (qf7 ho) hio2 hfr (by omega)).1
    ·have hL:LM n es (k+1) v iN=LM n es k (v+1) iN:=by
      show LM n es k (v+1) (iN+2 ^ v)++LM n es k (v+1) iN=_;rw [q57 (by omega) (qf7 hi) hfr2];rfl
     rw [hL] at hb ⊢;rw [h3 _ s v iN out (by omega) hi ho hio hp hfr2];exact (ih (v+1) iN (out+2 ^ v) fuel s (by omega) (by omega) (qdb hi) (qf7 ho) hio2 hfr hb).1
theorem qz9 {es:List Nat} {u S T:Nat} (h:qwo S T) (hb:qx6 es u S):qx6 es u T:=by
 obtain ⟨e,he,e1,e2⟩:=hb;exact ⟨e,he,e1,fun i a b=>h i (e2 i a b)⟩
theorem q3k (n:Nat) (es:List Nat) (S:Nat) (hS:S < 2 ^ n) (hf:qkt es S):∀m,m≤n→∃T,T < 2 ^ n∧qkt es T∧qwo S T∧∀u,u < m→T.testBit u=false→qx6 es u T
 | 0,_=>⟨S,hS,hf,fun _ h=>h,fun u hu=>absurd hu (vko u)⟩
 | m+1,hm=>by
  obtain ⟨T,t1,t2,t3,t4⟩:=q3k n es S hS hf m (by omega);cases hb:T.testBit m with
  | true =>
   refine ⟨T,t1,t2,t3,fun u hu hub=>?_⟩;rcases vkl (vkm.1 hu) with h | h
   ·exact t4 u h hub
   ·subst h;rw [hb] at hub;cases hub
  | false =>
   have hor:∀i,(T ||| 2 ^ m).testBit i=(T.testBit i || decide (m=i)):=fun i=>by rw [vkv,vkw]
   have hsub:qwo T (T ||| 2 ^ m):=fun i hi=>by rw [hor,hi];rfl
   by_cases hfr:qkt es (T ||| 2 ^ m)
   ·refine ⟨T ||| 2 ^ m,vkp t1 (vkr (by omega) (by omega)),hfr,fun i hi=>hsub i (t3 i hi),fun u hu hub=>?_⟩;rw [hor,vjc] at hub;have hne:m≠u:=by simpa using hub.2
    exact qz9 hsub (t4 u (by omega) hub.1)
   ·refine ⟨T,t1,t2,t3,fun u hu hub=>?_⟩;rcases vkl (vkm.1 hu) with h | h
    ·exact t4 u h hub
    ·subst h;refine Classical.byContradiction fun hno=>hfr fun e he hs=>?_
     by_cases heu:e.testBit u=true
     ·refine hno ⟨e,he,heu,fun i hi hiu=>?_⟩;have:=hs i hi;rw [hor,decide_eq_false (Ne.symm hiu),vjd] at this;exact this
     ·refine t2 e he fun i hi=>?_
      have:=hs i hi;rw [hor] at this;by_cases hiu:u=i
      ·subst hiu;exact absurd hi heu
      ·rw [decide_eq_false hiu,vjd] at this;exact this
theorem qsg {n:Nat} {es:List Nat} {S:Nat} (hS:S < 2 ^ n) (hf:qkt es S):∃T∈LM n es n 0 0,qwo S T:=by
 obtain ⟨T,t1,t2,t3,t4⟩:=q3k n es S hS hf n (vf9 _);exact ⟨T,(qmy n es n 0 0 T (by omega) (by simp)).2 ⟨t1,⟨t2,t4⟩,fun i hi=>absurd hi (vko i)⟩,t3⟩
theorem qin {n:Nat} {es:List Nat} {S:Nat}:S∈LM n es n 0 0↔S < 2 ^ n∧q0k n es S:=by
 rw [qmy n es n 0 0 S (by omega) (by simp)];exact ⟨fun h=>⟨h.1,h.2.1⟩,fun h=>⟨h.1,h.2,fun i hi=>absurd hi (vko i)⟩⟩
theorem qlt {es:List Nat} (h:∀e∈es,∃i,e.testBit i=true):qkt es 0:=fun e he hs=>by
 obtain ⟨i,hi⟩:=h e he;have:=hs i hi;rw [vkx] at this;cases this
theorem q58 {n:Nat} {es:List Nat} {u S:Nat} (hu:u < n) (h:∀e∈es,e.testBit u=false) (hS:q0k n es S):S.testBit u=true:=by
 cases hb:S.testBit u with
 | true=>rfl
 | false =>
  obtain ⟨e,he,e1,_⟩:=hS.2 u hu hb;rw [h e he] at e1;cases e1
theorem q59 {n:Nat} {es:List Nat} {u e:Nat} (hlt:∀e∈es,e < 2 ^ n) (hanti:∀e∈es,∀f∈es,qwo f e→f=e) (he:e∈es) (heu:e.testBit u=true):∃T∈LM n es n 0 0,T.testBit u=false:=by
 have hx:∀i,(e ^^^ 2 ^ u).testBit i=(e.testBit i && !decide (i=u)):=fun i=>by
  rw [Nat.testBit_xor,vkw];by_cases h:u=i
  ·subst h;rw [heu];simp
  ·rw [decide_eq_false h,decide_eq_false (Ne.symm h)];simp
 have hun:u < n:=by
  refine Classical.byContradiction fun hn=>?_
  rw [qb3 (hlt e he) (by omega)] at heu;cases heu
 have hS:e ^^^ 2 ^ u < 2 ^ n:=Nat.xor_lt_two_pow (hlt e he) (vkr (by omega) hun);have hf:qkt es (e ^^^ 2 ^ u):=fun f hf hs=>by
  have h1:qwo f e:=fun i hi=>by
   have:=hs i hi;rw [hx,veg] at this;exact this.1
  have:=hanti e he f hf h1;subst this;have:=hs u heu;rw [hx] at this;simp at this
 obtain ⟨T,t1,t2⟩:=qsg hS hf;refine ⟨T,t1,?_⟩;cases hb:T.testBit u with
 | false=>rfl
 | true =>
  obtain ⟨_,q1,_⟩:=qin.1 t1;refine absurd (fun i hi=>?_) (q1 e he);by_cases h:i=u
  ·subst h;exact hb
  ·exact t2 i (by rw [hx,hi,decide_eq_false h];rfl)
theorem vak {n:Nat} {es:List Nat} {u:Nat} (hu:u < n) (hne:∀e∈es,∃i,e.testBit i=true) (h:∀e∈es,∃i,e.testBit i=true∧i≠u):∃T∈LM n es n 0 0,T.testBit u=true:=by
 obtain ⟨T,t1,t2⟩:=qsg (n:=n) (es:=es) (S:=2 ^ u) (vkr (by omega) hu) (fun e he hs=>by
  obtain ⟨i,h1,h2⟩:=h e he;have:=hs i h1;rw [vkw] at this;exact h2 (of_decide_eq_true this).symm)
 exact ⟨T,t1,t2 u (by rw [vkw];simp)⟩
structure Parts (n:Nat) (sz:List Nat) (cmp pos:Nat→Nat) (vert:Nat→Nat→Nat):Prop where
 cpLt:∀v,v < n→cmp v < sz.length
 pos_lt:∀v,v < n→pos v < sz.getD (cmp v) 0
 vert_eq:∀v,v < n→vert (cmp v) (pos v)=v
 vert_lt:∀k j,k < sz.length→j < sz.getD k 0→vert k j < n∧cmp (vert k j)=k∧pos (vert k j)=j
open Classical in
def qna (cmp pos:Nat→Nat):Nat→Nat→Nat→List (List Nat)→List Nat
 | 0,_,iN,F=>if ∀l∈F,l≠[] then [iN] else []
 | m+1,v,iN,F=>qna cmp pos m (v+1) (iN+2 ^ v) (F.set (cmp v) ((F.getD (cmp v) []).filter fun T=>T.testBit (pos v))) ++
   qna cmp pos m (v+1) iN (F.set (cmp v) ((F.getD (cmp v) []).filter fun T=>!T.testBit (pos v)))
def qa2:List (List Nat)→Nat
 | []=>1
 | l :: r=>l.length * qa2 r
theorem qlu:∀(F:List (List Nat)) (k:Nat) (l a b:List Nat),F[k]?=some l→l.length=a.length+b.length→qa2 F=qa2 (F.set k a)+qa2 (F.set k b)
 | [],k,l,a,b,h,_=>by simp at h
 | x :: F,0,l,a,b,h,hl=>by
  simp only [vhc,vgr] at h;subst h;simp only [vhy,qa2,hl,Nat.add_mul]
 | x :: F,k+1,l,a,b,h,hl=>by
  simp only [vhb] at h;simp only [vkc,qa2,qlu F k l a b h hl,Nat.mul_add]
theorem qo9:∀(F:List (List Nat)) (k:Nat) (l a:List Nat),F[k]?=some l→0 < l.length→qa2 F / l.length * a.length=qa2 (F.set k a)
 | [],k,l,a,h,_=>by simp at h
 | x :: F,0,l,a,h,hl=>by
  simp only [vhc,vgr] at h;subst h;simp only [vhy,qa2];rw [Nat.mul_div_cancel_left _ hl,Nat.mul_comm]
 | x :: F,k+1,l,a,h,hl=>by
  simp only [vhb] at h;have hd:l.length ∣ qa2 F:=by
   have:∀(F:List (List Nat)) (k:Nat),F[k]?=some l→l.length ∣ qa2 F:=by
    intro F
    induction F with
    | nil=>intro k h;simp at h
    | cons y F ih =>
     intro k h;cases k with
     | zero=>simp only [vhc,vgr] at h;subst h;exact Nat.dvd_mul_right _ _
     | succ k=>simp only [vhb] at h;exact Nat.dvd_trans (ih k h) (Nat.dvd_mul_left _ _)
   exact this F k h
  simp only [vkc,qa2];rw [Nat.mul_div_assoc _ hd,Nat.mul_assoc,qo9 F k l a h hl]
theorem qpa {F:List (List Nat)}:0 < qa2 F↔∀l∈F,l≠[]:=by
 induction F with
 | nil=>simp [qa2]
 | cons x F ih =>
  simp only [qa2,Nat.mul_pos_iff_of_pos_left,vhp,forall_eq_or_imp,←ih];constructor
  ·intro h;have h1:0 < x.length:=vgi fun h0=>by rw [h0] at h;simp at h
   exact ⟨List.ne_nil_of_length_pos h1,vgi fun h0=>by rw [h0] at h;simp at h⟩
  ·rintro ⟨h1,h2⟩;exact Nat.mul_pos (vjx.2 h1) h2
theorem qhn {α:Type} (p:α→Bool) (l:List α):l.length=(l.filter p).length+(l.filter fun x=>!p x).length:=by
 induction l with
 | nil=>rfl
 | cons x l ih=>cases h:p x <;> simp [h,ih] <;> omega
structure Fam (n:Nat) (sz:List Nat) (cmp pos:Nat→Nat) (v iN:Nat) (F:List (List Nat)):Prop where
 len:F.length=sz.length
 nodup:∀l∈F,l.Nodup
 lt:∀(k:Nat) (l:List Nat),F[k]?=some l→∀T∈l,T < 2 ^ sz.getD k 0
 agree:∀(k:Nat) (l:List Nat),F[k]?=some l→∀T∈l,∀u,u < v→cmp u=k→T.testBit (pos u)=iN.testBit u
theorem vam {α:Type} {F:List α} {k:Nat} {a x:α} (h:x∈F.set k a):x∈F∨x=a:=List.mem_or_eq_of_mem_set h
theorem Fam.filter {n:Nat} {sz:List Nat} {cmp pos:Nat→Nat} {vert:Nat→Nat→Nat} {v iN iN2:Nat} {F:List (List Nat)} (hP:Parts n sz cmp pos vert) (h:Fam n sz cmp pos v iN F) (hv:v < n) (b:Bool)
  (hi:∀i,i < v→iN2.testBit i=iN.testBit i) (hb:iN2.testBit v=b):Fam n sz cmp pos (v+1) iN2 (F.set (cmp v) ((F.getD (cmp v) []).filter fun T=>T.testBit (pos v) == b)):=by
 have hk:cmp v < F.length:=by rw [h.len];exact hP.cpLt v hv
 have hx:F[cmp v]?=some (F.getD (cmp v) []):=by rw [vha,ve3 hk];rfl
 have sub:∀(k:Nat) (l:List Nat),(F.set (cmp v) ((F.getD (cmp v) []).filter fun T=>T.testBit (pos v) == b))[k]?=some l→∃l0,F[k]?=some l0∧(∀T∈l,T∈l0)∧(k=cmp v→∀T∈l,T.testBit (pos v)=b):=by
  intro k l hl;rw [vjt] at hl;by_cases e:cmp v=k
  ·rw [if_pos e,if_pos hk] at hl;simp only [vgr] at hl;subst hl;refine ⟨_,e ▸ hx,fun T hT=>(vhs.1 hT).1,fun _ T hT=>?_⟩;have:=(vhs.1 hT).2;simpa using this
  ·rw [if_neg e] at hl;exact ⟨l,hl,fun _ h=>h,fun h=>absurd h.symm e⟩
 refine ⟨by rw [vfg,h.len],fun l hl=>?_,fun k l hl T hT=>?_,fun k l hl T hT u hu hc=>?_⟩
 ·rcases vam hl with hl | rfl
  ·exact h.nodup l hl
  ·exact (h.nodup _ (vfn hx)).filter _
 ·obtain ⟨l0,a1,a2,_⟩:=sub k l hl;exact h.lt k l0 a1 T (a2 T hT)
 ·obtain ⟨l0,a1,a2,a3⟩:=sub k l hl;rcases vkl (vkm.1 hu) with hu | rfl
  ·rw [hi u hu];exact h.agree k l0 a1 T (a2 T hT) u hu hc
  ·rw [a3 hc.symm T hT,hb]
theorem qlv {n:Nat} {sz:List Nat} {cmp pos:Nat→Nat} {vert:Nat→Nat→Nat} (hP:Parts n sz cmp pos vert):∀(m v iN:Nat) (F:List (List Nat)),v+m=n→iN < 2 ^ v→Fam n sz cmp pos v iN F→(qna cmp pos m v iN F).length=qa2 F
 | 0,v,iN,F,hv,hi,hF=>by
  have hle:∀(l:List Nat),l∈F→l.length≤1:=by
   intro l hl;obtain ⟨k,hk⟩:=vjz.1 hl;have hks:k < sz.length:=by rw [←hF.len];exact qap hk
   have huniq:∀S∈l,∀T∈l,S=T:=fun S hS T hT=>qwp (hF.lt k l hk S hS) (hF.lt k l hk T hT) fun j hj=>by
    obtain ⟨b1,b2,b3⟩:=hP.vert_lt k j hks hj;have e1:=hF.agree k l hk S hS (vert k j) (by omega) b2;have e2:=hF.agree k l hk T hT (vert k j) (by omega) b2;rw [b3] at e1 e2;rw [e1,e2]
   match l,hF.nodup l hl,huniq with
   | [],_,_=>simp
   | [x],_,_=>simp
   | x :: y :: r,hn,hu =>
    have:=hu x (by simp) y (by simp);subst this;simp at hn
  unfold qna;split
  ·rename_i h;have:∀(F:List (List Nat)),(∀l∈F,l.length≤1)→(∀l∈F,l≠[])→qa2 F=1:=by
    intro F
    induction F with
    | nil=>intro _ _;rfl
    | cons x F ih =>
     intro a b;have h1:=a x (by simp);have h2:=vjx.2 (b x (by simp));simp only [qa2];rw [ih (fun l hl=>a l (by simp [hl])) (fun l hl=>b l (by simp [hl]))];omega
   rw [this F hle h];rfl
  ·rename_i h;have:¬0 < qa2 F:=fun h0=>h (qpa.1 h0)
   simp;omega
 | m+1,v,iN,F,hv,hi,hF=>by
  have hk:cmp v < F.length:=by rw [hF.len];exact hP.cpLt v (by omega)
  have hx:F[cmp v]?=some (F.getD (cmp v) []):=by rw [vha,ve3 hk];rfl
  have f1:=hF.filter hP (v:=v) (iN2:=iN+2 ^ v) (by omega) true (fun i hiv=>by rw [qd9 hi,decide_eq_false (by omega),vjd]) (by rw [qd9 hi];simp);have f2:=hF.filter hP (v:=v) (iN2:=iN) (by omega) false (fun i hiv=>rfl) (qb3 hi (vf9 _));have e1:(fun T:Nat=>T.testBit (pos v) == true)=fun T=>T.testBit (pos v):=by funext T;cases T.testBit (pos v) <;> rfl
  have e2:(fun T:Nat=>T.testBit (pos v) == false)=fun T=>!T.testBit (pos v):=by funext T;cases T.testBit (pos v) <;> rfl
  rw [e1] at f1;rw [e2] at f2;unfold qna;rw [vfb,qlv hP m (v+1) _ _ (by omega) (qf7 hi) f1,qlv hP m (v+1) _ _ (by omega) (qdb hi) f2];exact (qlu F (cmp v) _ _ _ hx (qhn _ _)).symm
def qlw (vert:Nat→Nat) (S:Nat):Nat→Nat
 | 0=>0
 | j+1=>qlw vert S j+(if S.testBit (vert j)=true then 2 ^ j else 0)
theorem qlx (vert:Nat→Nat) (S:Nat):∀j,qlw vert S j < 2 ^ j
 | 0=>by simp [qlw]
 | j+1=>by
  have:=qlx vert S j;unfold qlw;rw [vkt];split <;> omega
theorem qev (vert:Nat→Nat) (S:Nat):∀j i,i < j→(qlw vert S j).testBit i=S.testBit (vert i)
 | 0,i,h=>absurd h (vko i)
 | j+1,i,h=>by
  unfold qlw;by_cases hb:S.testBit (vert j)=true
  ·rw [if_pos hb,qd9 (qlx vert S j)];by_cases e:i=j
   ·subst e;rw [hb];simp
   ·rw [qev vert S j i (by omega),decide_eq_false e,vjd]
  ·rw [if_neg hb,Nat.add_zero];by_cases e:i=j
   ·subst e;rw [qb3 (qlx vert S i) (vf9 _)];simpa using hb
   ·exact qev vert S j i (by omega)
def relM (n:Nat) (cmp pos:Nat→Nat) (k e f:Nat):Prop:=∀i,e.testBit i=true↔i < n∧cmp i=k∧f.testBit (pos i)=true
structure PEdges (n:Nat) (sz:List Nat) (cmp pos:Nat→Nat) (es:List Nat) (ces:List (List Nat)):Prop where
 len:ces.length=sz.length
 down:∀e∈es,∃k fs,ces[k]?=some fs∧∃f∈fs,relM n cmp pos k e f
 up:∀k fs,ces[k]?=some fs→∀f∈fs,f < 2 ^ sz.getD k 0∧∃e∈es,relM n cmp pos k e f
section
variable {n:Nat} {sz:List Nat} {cmp pos:Nat→Nat} {vert:Nat→Nat→Nat} {es:List Nat} {ces:List (List Nat)}
theorem q3l (hP:Parts n sz cmp pos vert) (hE:PEdges n sz cmp pos es ces) (S:Nat):q0k n es S↔∀k fs,ces[k]?=some fs→q0k (sz.getD k 0) fs (qlw (vert k) S (sz.getD k 0)):=by
 have hk:∀k fs,ces[k]?=some fs→k < sz.length:=fun k fs h=>by rw [←hE.len];exact qap h
 constructor
 ·rintro ⟨h1,h2⟩ k fs hfs;have hks:=hk k fs hfs;refine ⟨fun f hf hsub=>?_,fun u hu hub=>?_⟩
  ·obtain ⟨_,e,he,hr⟩:=hE.up k fs hfs f hf;refine h1 e he fun i hi=>?_
   obtain ⟨a1,a2,a3⟩:=(hr i).1 hi;have:=hsub _ a3;have hp:=hP.pos_lt i a1;have hv:=hP.vert_eq i a1;rw [a2] at hp hv;rw [qev _ _ _ _ hp,hv] at this;exact this
  ·obtain ⟨b1,b2,b3⟩:=hP.vert_lt k u hks hu;rw [qev _ _ _ _ hu] at hub;obtain ⟨e,he,e1,e2⟩:=h2 _ b1 hub;obtain ⟨k',fs',hfs',f,hf,hr⟩:=hE.down e he;obtain ⟨c1,c2,c3⟩:=(hr _).1 e1;rw [b2] at c2;subst c2;rw [hfs] at hfs';cases hfs';rw [b3] at c3;refine ⟨f,hf,c3,fun j hj hju=>?_⟩;have hjs:j < sz.getD k 0:=by
    refine Classical.byContradiction fun hn=>?_
    rw [qb3 (hE.up k fs hfs f hf).1 (by omega)] at hj;cases hj
   obtain ⟨d1,d2,d3⟩:=hP.vert_lt k j hks hjs;rw [qev _ _ _ _ hjs];refine e2 _ ((hr _).2 ⟨d1,d2,by rw [d3];exact hj⟩) fun hh=>hju ?_
   rw [←d3,←b3,hh]
 ·intro h;refine ⟨fun e he hsub=>?_,fun u hu hub=>?_⟩
  ·obtain ⟨k,fs,hfs,f,hf,hr⟩:=hE.down e he;have hks:=hk k fs hfs;refine (h k fs hfs).1 f hf fun j hj=>?_
   have hjs:j < sz.getD k 0:=by
    refine Classical.byContradiction fun hn=>?_
    rw [qb3 (hE.up k fs hfs f hf).1 (by omega)] at hj;cases hj
   obtain ⟨d1,d2,d3⟩:=hP.vert_lt k j hks hjs;rw [qev _ _ _ _ hjs];exact hsub _ ((hr _).2 ⟨d1,d2,by rw [d3];exact hj⟩)
  ·have hcl:=hP.cpLt u hu;obtain ⟨fs,hfs⟩:∃fs,ces[cmp u]?=some fs:=⟨_,ve3 (by rw [hE.len];exact hcl)⟩;have hpl:=hP.pos_lt u hu;have hve:=hP.vert_eq u hu;obtain ⟨f,hf,f1,f2⟩:=(h _ fs hfs).2 (pos u) hpl (by rw [qev _ _ _ _ hpl,hve];exact hub);obtain ⟨_,e,he,hr⟩:=hE.up _ fs hfs f hf;refine ⟨e,he,(hr u).2 ⟨hu,rfl,f1⟩,fun i hi hiu=>?_⟩;obtain ⟨a1,a2,a3⟩:=(hr i).1 hi;have hp:=hP.pos_lt i a1;have hv:=hP.vert_eq i a1;rw [a2] at hp hv;have:=f2 _ a3 fun hh=>hiu (by rw [←hv,hh,hve])
   rw [qev _ _ _ _ hp,hv] at this;exact this
theorem qwr (hP:Parts n sz cmp pos vert) (hE:PEdges n sz cmp pos es ces):∀(m v iN:Nat) (F:List (List Nat)),v+m=n→iN < 2 ^ v→F.length=sz.length →
  (∀(k:Nat) (l fs:List Nat),F[k]?=some l→ces[k]?=some fs→∀T,T∈l↔(T < 2 ^ sz.getD k 0∧q0k (sz.getD k 0) fs T)∧∀u,u < v→cmp u=k→T.testBit (pos u)=iN.testBit u) →
  qna cmp pos m v iN F=LM n es m v iN
 | 0,v,iN,F,hv,hi,hl,hF=>by
  have:(∀l∈F,l≠[])↔q0k n es iN:=by
   rw [q3l hP hE];constructor
   ·intro h k fs hfs;have hks:k < sz.length:=by rw [←hE.len];exact qap hfs
    obtain ⟨l,hlk⟩:∃l,F[k]?=some l:=⟨_,ve3 (by omega)⟩;obtain ⟨T,hT⟩:=List.exists_mem_of_ne_nil _ (h l (vfn hlk));obtain ⟨⟨t1,t2⟩,t3⟩:=(hF k l fs hlk hfs T).1 hT;have:T=qlw (vert k) iN (sz.getD k 0):=qwp t1 (qlx _ _ _) fun j hj=>by
     obtain ⟨d1,d2,d3⟩:=hP.vert_lt k j hks hj;rw [qev _ _ _ _ hj,←t3 (vert k j) (by omega) d2,d3]
    rw [←this];exact t2
   ·intro h l hlF;obtain ⟨k,hlk⟩:=vjz.1 hlF;have hks:k < sz.length:=by rw [←hl];exact qap hlk
    obtain ⟨fs,hfs⟩:∃fs,ces[k]?=some fs:=⟨_,ve3 (by rw [hE.len];exact hks)⟩;refine vj2 ((hF k l fs hlk hfs (qlw (vert k) iN (sz.getD k 0))).2 ⟨⟨qlx _ _ _,h k fs hfs⟩,fun u hu hc=>?_⟩);have hp:=hP.pos_lt u (by omega);have hve:=hP.vert_eq u (by omega);rw [hc] at hp hve;rw [qev _ _ _ _ hp,hve]
  unfold qna LM;by_cases h:∀l∈F,l≠[]
  ·rw [if_pos h,if_pos (this.1 h)]
  ·rw [if_neg h,if_neg (fun hh=>h (this.2 hh))]
 | m+1,v,iN,F,hv,hi,hl,hF=>by
  have hcl:=hP.cpLt v (by omega);have hx:F[cmp v]?=some (F.getD (cmp v) []):=by rw [vha,ve3 (by omega)];rfl
  have step:∀(b:Bool) (iN2:Nat) (p:Nat→Bool),(∀T,p T=true↔T.testBit (pos v)=b)→(∀i,i < v→iN2.testBit i=iN.testBit i)→iN2.testBit v=b →
    ∀(k:Nat) (l fs:List Nat),(F.set (cmp v) ((F.getD (cmp v) []).filter p))[k]?=some l→ces[k]?=some fs→∀T,T∈l↔(T < 2 ^ sz.getD k 0∧q0k (sz.getD k 0) fs T)∧∀u,u < v+1→cmp u=k→T.testBit (pos u)=iN2.testBit u:=by
   intro b iN2 p hp h1 h2 k l fs hlk hfs T;rw [vjt] at hlk;by_cases e:cmp v=k
   ·subst e;rw [if_pos rfl,if_pos (by omega)] at hlk;simp only [vgr] at hlk;subst hlk;rw [vhs,hF _ _ fs hx hfs T,hp];constructor
    ·rintro ⟨⟨a,b⟩,c⟩;refine ⟨a,fun u hu hc=>?_⟩;rcases vkl (vkm.1 hu) with hu | rfl
     ·rw [h1 u hu];exact b u hu hc
     ·rw [h2];exact c
    ·rintro ⟨a,b⟩;refine ⟨⟨a,fun u hu hc=>?_⟩,?_⟩
     ·rw [←h1 u hu];exact b u (by omega) hc
     ·rw [←h2];exact b v (by omega) rfl
   ·rw [if_neg e] at hlk;rw [hF k l fs hlk hfs T];constructor
    ·rintro ⟨a,b⟩;refine ⟨a,fun u hu hc=>?_⟩;rcases vkl (vkm.1 hu) with hu | rfl
     ·rw [h1 u hu];exact b u hu hc
     ·exact absurd hc e
    ·rintro ⟨a,b⟩;exact ⟨a,fun u hu hc=>by rw [←h1 u hu];exact b u (by omega) hc⟩
  unfold qna LM;rw [qwr hP hE m (v+1) (iN+2 ^ v) _ (by omega) (qf7 hi) (by rw [vfg,hl]) (step true _ (fun T=>T.testBit (pos v)) (fun T=>Iff.rfl) (fun i hiv=>by rw [qd9 hi,decide_eq_false (by omega),vjd]) (by rw [qd9 hi];simp)),
   qwr hP hE m (v+1) iN _ (by omega) (qdb hi) (by rw [vfg,hl]) (step false _ (fun T=>!T.testBit (pos v)) (fun T=>by simp) (fun i hiv=>rfl) (qb3 hi (vf9 _)))]
def q7o (sz:List Nat) (ces:List (List Nat)):List (List Nat):=ces.mapIdx fun k fs=>LM (sz.getD k 0) fs (sz.getD k 0) 0 0
theorem qsh (k:Nat):(q7o sz ces)[k]?=(ces[k]?).map fun fs=>LM (sz.getD k 0) fs (sz.getD k 0) 0 0:=by unfold q7o;rw [List.getElem?_mapIdx]
theorem q6a (n:Nat) (es:List Nat):(LM n es n 0 0).Nodup:=by
 refine (qnp n es n 0 0 (by omega) (by simp)).imp ?_;intro a b h e;rw [e] at h;exact qwq b h
theorem qsi (hP:Parts n sz cmp pos vert) (hE:PEdges n sz cmp pos es ces):Fam n sz cmp pos 0 0 (q7o sz ces):=by
 have hg:∀(k:Nat) (l:List Nat),(q7o sz ces)[k]?=some l→∃fs,ces[k]?=some fs∧l=LM (sz.getD k 0) fs (sz.getD k 0) 0 0:=fun k l h=>by
  rw [qsh] at h;obtain ⟨fs,h1,h2⟩:=vgp.1 h;exact ⟨fs,h1,h2.symm⟩
 refine ⟨by unfold q7o;rw [List.length_mapIdx,hE.len],fun l hl=>?_,fun k l hl T hT=>?_,fun k l hl T hT u hu=>absurd hu (vko u)⟩
 ·obtain ⟨k,hk⟩:=vjz.1 hl;obtain ⟨fs,_,rfl⟩:=hg k l hk;exact q6a _ _
 ·obtain ⟨fs,_,rfl⟩:=hg k l hl;exact (qin.1 hT).1
theorem qx8 (hP:Parts n sz cmp pos vert) (hE:PEdges n sz cmp pos es ces):qna cmp pos n 0 0 (q7o sz ces)=LM n es n 0 0 :=
 qwr hP hE n 0 0 _ (by omega) (by simp) (qsi hP hE).len fun k l fs hl hfs T=>by
  rw [qsh,hfs] at hl;simp only [vgq,vgr] at hl;subst hl;rw [qin];exact ⟨fun h=>⟨h,fun u hu=>absurd hu (vko u)⟩,fun h=>h.1⟩
theorem q3m (hP:Parts n sz cmp pos vert) (hE:PEdges n sz cmp pos es ces):(LM n es n 0 0).length=qa2 (q7o sz ces):=by
 rw [←qx8 hP hE,qlv hP n 0 0 _ (by omega) (by simp) (qsi hP hE)]
end
def q7p (cmp pos:Nat→Nat):Nat→Nat→Nat→List (List Nat)→Nat→Nat
 | 0,_,iN,_,_=>iN
 | m+1,v,iN,F,i =>
  if i < qa2 (F.set (cmp v) ((F.getD (cmp v) []).filter fun T=>T.testBit (pos v))) then q7p cmp pos m (v+1) (iN+2 ^ v) (F.set (cmp v) ((F.getD (cmp v) []).filter fun T=>T.testBit (pos v))) i
  else q7p cmp pos m (v+1) iN (F.set (cmp v) ((F.getD (cmp v) []).filter fun T=>!T.testBit (pos v))) (i - qa2 (F.set (cmp v) ((F.getD (cmp v) []).filter fun T=>T.testBit (pos v))))
theorem qsj {n:Nat} {sz:List Nat} {cmp pos:Nat→Nat} {vert:Nat→Nat→Nat} (hP:Parts n sz cmp pos vert):∀(m v iN:Nat) (F:List (List Nat)) (i:Nat),v+m=n→iN < 2 ^ v→Fam n sz cmp pos v iN F→i < qa2 F →
  (qna cmp pos m v iN F)[i]?=some (q7p cmp pos m v iN F i)
 | 0,v,iN,F,i,hv,hi,hF,hlt=>by
  have hl:=qlv hP 0 v iN F hv hi hF;rw [←hl] at hlt;unfold qna at hlt ⊢;split at hlt
  ·rename_i h;simp only [viv,Nat.lt_one_iff] at hlt;subst hlt;rw [if_pos h];rfl
  ·simp at hlt
 | m+1,v,iN,F,i,hv,hi,hF,hlt=>by
  have hk:cmp v < F.length:=by rw [hF.len];exact hP.cpLt v (by omega)
  have hx:F[cmp v]?=some (F.getD (cmp v) []):=by rw [vha,ve3 hk];rfl
  have f1:=hF.filter hP (v:=v) (iN2:=iN+2 ^ v) (by omega) true (fun i hiv=>by rw [qd9 hi,decide_eq_false (by omega),vjd]) (by rw [qd9 hi];simp);have f2:=hF.filter hP (v:=v) (iN2:=iN) (by omega) false (fun i hiv=>rfl) (qb3 hi (vf9 _));have e1:(fun T:Nat=>T.testBit (pos v) == true)=fun T=>T.testBit (pos v):=by funext T;cases T.testBit (pos v) <;> rfl
  have e2:(fun T:Nat=>T.testBit (pos v) == false)=fun T=>!T.testBit (pos v):=by funext T;cases T.testBit (pos v) <;> rfl
  rw [e1] at f1;rw [e2] at f2;have l1:=qlv hP m (v+1) _ _ (by omega) (qf7 hi) f1;have hsum:=qlu F (cmp v) _ _ _ hx (qhn (fun T:Nat=>T.testBit (pos v)) _);unfold qna q7p;by_cases h:i < qa2 (F.set (cmp v) ((F.getD (cmp v) []).filter fun T=>T.testBit (pos v)))
  ·rw [if_pos h,ve0 (by rw [l1];exact h)];exact qsj hP m (v+1) _ _ i (by omega) (qf7 hi) f1 h
  ·rw [if_neg h,ve1 (by rw [l1];omega),l1];exact qsj hP m (v+1) _ _ _ (by omega) (qdb hi) f2 (by omega)
end Go.Ab
namespace Go.Proofs.YtgklegblfboelaaGreatDoor
open Go Go.Ab
def sgn (a b:Int):Int:=if a < b then -1 else if b < a then 1 else 0
theorem qm0 (a b:Int):qdk a b=some (sgn a b):=by
 simp only [qdk,qbv,sgn];simp;split <;> (try split) <;> simp_all
theorem vdv {a b:Int} (h:a≠b):sgn a b≠0:=by
 unfold sgn;split <;> (try split) <;> omega
theorem q6b (a:Int):sgn a a=0:=by unfold sgn;simp
theorem qpb {α:Type} (p:α→Bool) (l:List α):decide ((match l.findIdx? p with | some i=>((i:Nat):Int) | none=>-1)≥0)=l.any p:=by
 cases h:l.findIdx? p with
 | none =>
  rw [vjo] at h;have:l.any p=false:=by rw [vjl];intro x hx;simp [h x hx]
  rw [this];rfl
 | some i =>
  have:l.any p=true:=by
   rw [vjp] at h;obtain ⟨hi,hp,_⟩:=h;rw [vg6];exact ⟨_,vju hi,hp⟩
  rw [this];simp
def letter (c:Int):Bool:=(decide (97≤c) && decide (c≤122)) || ((decide (65≤c) && decide (c≤90)) || c == 95)
def vdw:Option Nat→Int
 | some i=>i
 | none=>-1
theorem qx9 {α:Type} (p:α→Bool) (l:List α):decide (vdw (l.findIdx? p)≥0)=l.any p:=by
 rw [←qpb];cases l.findIdx? p <;> rfl
theorem qya (l:List Int) (x:Int) (hl:l.length≤4611686018427387904):qc9 l x=some (decide (x∈l)):=by
 have h:=qd6 l (qct l x) (fun y=>!(y == x)) true
  (fun k y hx hk hp=>by
   simp only [vek] at hp;simp only [qct,if_pos (qao hx),qab hx,vgl,hp,vei,if_false,qfy hk hl])
  (fun k y hx hp=>by
   simp only [vi9] at hp;simp only [qct,if_pos (qao hx),qab hx,vgl,hp,if_true])
  (by simp [qct])
 simp only [qc9,h,vgl];by_cases hm:x∈l
 ·have:l.all (fun y=>!(y == x))=false:=by rw [vjk];exact ⟨x,hm,by simp⟩
  simp [this,hm]
 ·have:l.all (fun y=>!(y == x))=true:=by
   rw [vg4];intro y hy;simp only [vek,beq_eq_false_iff_ne];intro e;rw [e] at hy;exact hm hy
  simp [this,hm]
theorem qhu (l:List Int) (x:Int) (hl:l.length≤1073741824):qa5 l x=some (vdw (l.findIdx? (fun y=>x == y))):=by
 have h:=qju l (qbs l x) (fun y=>x == y)
  (fun k y hx hk hp=>by simp only [qbs,if_pos (qao hx),qab hx,vgl,hp,vei,if_false,if_true,qfy hk (show l.length≤4611686018427387904 by omega)])
  (fun k y hx hp=>by simp only [qbs,if_pos (qao hx),qab hx,vgl,hp,if_true])
  (by simp [qbs])
 simp only [qa5,h,vgl];cases l.findIdx? (fun y=>x == y) <;> rfl
theorem qfr (l:List Int) (x:Int) (hl:l.length≤1073741824):qax l x=some (decide (x∈l)):=by
 simp only [qax,qhu l x hl,vgl];rw [qx9];congr 1;rw [vi7];simp
theorem quf {K V:Type} [DecidableEq K] (m:List (K×V)) (k x:K) (v:V):qk2 (qp0 m k v) x=if x=k then some v else qk2 m x:=by
 induction m with
 | nil=>simp [qp0,qk2]
 | cons p r ih =>
  obtain ⟨a,u⟩:=p;simp only [qp0];by_cases h:k=a
  ·subst h;simp only [if_pos,qk2];by_cases hx:x=k <;> simp [hx]
  ·simp only [if_neg h,qk2,ih];by_cases hx:x=a
   ·subst hx;have:¬x=k:=fun e=>h e.symm
    simp [this]
   ·simp [hx]
end Go.Proofs.YtgklegblfboelaaGreatDoor
namespace Go.Ab
open Go
variable {α κ:Type} [DecidableEq κ]
def keysF (key:α→κ) (ks:List κ) (x:α):List κ:=if key x∈ks then ks else ks++[key x]
def vdx (key:α→κ) (l:List α):List κ:=l.foldl (keysF key) []
def classes (key:α→κ) (l:List α):List (List α):=(vdx key l).map fun k=>l.filter fun x=>decide (key x=k)
end Go.Ab
namespace Go.Ab
open Go
theorem qjv {n:Int} (h1:0≤n) (h2:n≤18446744073709551615):vi4.wrap n=n:=by
 simp only [IntKind.wrap,IntKind.signed,IntKind.bits];simp only [Bool.false_and,vei,if_false];rw [show ((2:Int) ^ 64)=18446744073709551616 from rfl];omega
theorem q6c {a:Nat} (ha:a < 4294967296):vg2.wrap ((BitVec.ofInt 32 (a:Int) &&& (1#32)).toNat:Int)=((a % 2:Nat):Int):=by
 rw [vcq,BitVec.toNat_and,q14 ha];congr 1;have:(1#32).toNat=1:=rfl;rw [this,vkg]
theorem q3n (a i:Nat):(((a / 2 ^ i % 2:Nat):Int) == 1)=a.testBit i:=by
 rw [Nat.testBit_eq_decide_div_mod_eq,vi7];simp only [beq_iff_eq,decide_eq_true_eq];omega
theorem van {a:Nat} (ha:a < 4294967296) {i:Nat} (hi:i≤32):((vg2.wrap ((BitVec.ofInt 32 (vi2 (a:Int) (2 ^ (min i 32))) &&& (1#32)).toNat:Int)) == 1)=a.testBit i:=by
 rw [vh7 hi,qnj,q6c (vkk (vkh _ _) ha),q3n]
end Go.Ab
namespace Go.Proofs.YtgklegblfboelaaGreatDoor
open Go Go.Ab
end Go.Proofs.YtgklegblfboelaaGreatDoor
namespace Go.Ab
open Go
end Go.Ab
namespace Go.Proofs.YtgklegblfboelaaGreatDoor
open Go Go.Ab
theorem qug (n:Nat):vi4.wrap (n:Int)=((n % 18446744073709551616:Nat):Int):=by
 simp only [IntKind.wrap,IntKind.signed,IntKind.bits,Bool.false_and,vei,if_false];rw [show ((2:Int) ^ 64)=18446744073709551616 from rfl];omega
end Go.Proofs.YtgklegblfboelaaGreatDoor
namespace Go.Ab
open Go
end Go.Ab
namespace Go.Proofs.YtgklegblfboelaaGreatDoor
open Go Go.Ab
end Go.Proofs.YtgklegblfboelaaGreatDoor
namespace Go.Ab
open Go
def comm {α:Type} (lt:α→α→Bool):List α→List α→Nat
 | [],_=>0
 | _ :: _,[]=>0
 | a :: u,b :: v=>if lt a b then comm lt u (b :: v) else if lt b a then comm lt (a :: u) v else comm lt u v+1
termination_by l r=>l.length+r.length
end Go.Ab
namespace Go.Proofs.YtgklegblfboelaaGreatDoor
open Go Go.Ab
def lexN (x y:Nat):Prop:=qxn x < qxn y∨(qxn x=qxn y∧x < y)
instance (x y:Nat):Decidable (lexN x y):=by unfold lexN;exact inferInstance
theorem drop_take {α:Type} (l:List α) (n:Nat):(l.drop n).take (l.length - n)=l.drop n:=by
 apply vfz;rw [vfc];exact vf9 _
def hasB (s i:Int):Bool:=(vg2.wrap ((BitVec.ofInt 32 (vi2 s (2 ^ (min i.toNat 32))) &&& (1#32)).toNat:Int)) == 1
def mx (a b:Int):Int:=if b > a then b else a
theorem qp5 (l:List Int) (h:l.length≤1073741824):qc7 l=some l:=by
 unfold qc7;rw [if_pos (qjf (by omega) (by omega))]
def hd (l:List (List Int)) (i:Nat):Int:=(l.getD i []).headD 0
theorem q7q {n:Int} (h:okI .u8 n):0≤n∧n≤255:=by
 have h':(decide (IntKind.min .u8≤n) && decide (n≤IntKind.max .u8))=true:=h;simp only [veg,decide_eq_true_eq] at h';have e1:IntKind.min .u8=0:=by decide
 have e2:IntKind.max .u8=255:=by decide
 rw [e1,e2] at h';exact h'
theorem q6d {a:Nat} (ha:a < 4294967296) {i:Nat} (hi:i≤32):hasB (a:Int) (i:Int)=a.testBit i:=by
 unfold hasB;rw [vio];exact van ha hi
theorem q3o (s a:Int):qd7 s a=some (decide (0≤a) && (decide (a < 32) && hasB s a)):=by
 unfold qd7;by_cases h0:a≥0
 ·rw [if_pos h0,decide_eq_true (show 0≤a from h0)];by_cases h1:a < 32
  ·rw [if_pos h1,decide_eq_true h1,if_neg (by omega)];rfl
  ·rw [if_neg h1,decide_eq_false h1];rfl
 ·rw [if_neg h0,decide_eq_false (show ¬0≤a from h0)];rfl
theorem qnj (a k:Nat):vi2 (a:Int) (2 ^ k)=((a / 2 ^ k:Nat):Int):=by
 have e:(2:Int) ^ k=((2 ^ k:Nat):Int):=by simp
 rw [e];exact (Int.ofNat_fdiv a (2 ^ k)).symm
theorem qnf {α β:Type} (f:α→β):∀l:List α,(l.flatMap fun i=>[f i])=l.map f
 | []=>rfl
 | x :: l=>by rw [List.flatMap_cons,qnf f l];rfl
end Go.Proofs.YtgklegblfboelaaGreatDoor
namespace Go.Ab
open Go
def qws {α:Type} (lt:α→α→Bool) (x:α):List α→List α
 | []=>[x]
 | y :: p=>if lt x y then y :: qws lt x p else x :: y :: p
theorem qsk {α:Type} (lt:α→α→Bool) (x:α):∀(p:List α) (z:α),z∈qws lt x p↔z=x∨z∈p
 | [],z=>by simp [qws]
 | y :: p,z=>by
  simp only [qws];split
  ·rw [vhp,qsk lt x p z,vhp];constructor
   ·rintro (h | h | h)
    ·exact .inr (.inl h)
    ·exact .inl h
    ·exact .inr (.inr h)
   ·rintro (h | h | h)
    ·exact .inr (.inl h)
    ·exact .inl h
    ·exact .inr (.inr h)
  ·rw [vhp]
theorem qyb {α:Type} (lt:α→α→Bool) (x:α):∀p:List α,(qws lt x p).length=p.length+1
 | []=>rfl
 | y :: p=>by
  simp only [qws];split
  ·simp [qyb lt x p]
  ·simp
theorem qpc {α:Type} (lt:α→α→Bool) (asym:∀x y,lt x y=true→lt y x=false) (ntr:∀x y z,lt x y=false→lt y z=false→lt x z=false) (x:α):∀p:List α,p.Pairwise (fun a b=>lt a b=false)→(qws lt x p).Pairwise (fun a b=>lt a b=false)
 | [],_=>by simp [qws]
 | y :: p,h=>by
  obtain ⟨h1,h2⟩:=vj5.1 h;simp only [qws];by_cases hc:lt x y=true
  ·rw [if_pos hc];refine vj5.2 ⟨fun z hz=>?_,qpc lt asym ntr x p h2⟩;rcases (qsk lt x p z).1 hz with rfl | hz
   ·exact asym _ _ hc
   ·exact h1 z hz
  ·rw [if_neg hc];have hc':lt x y=false:=by simpa using hc
   refine vj5.2 ⟨fun z hz=>?_,h⟩;rcases vhp.1 hz with rfl | hz
   ·exact hc'
   ·exact ntr _ _ _ hc' (h1 z hz)
theorem quh {α:Type} (lt:α→α→Bool) (ok:α→Prop) (N:Nat) (B:List α×Int→Option (LS (List α×Int) (List α)))
  (hB:∀(p:List α) (y x:α) (suf:List α),p.length+suf.length+2≤N→(∀z∈p,ok z)→ok y→ok x→B (p.reverse++y :: x :: suf,((p.length+1:Nat):Int))=if lt x y=true then some (.next (p.reverse++x :: y :: suf,(p.length:Int))) else some (.done (p.reverse++y :: x :: suf)))
  (hB0:∀data,B (data,0)=some (.done data)) :
  ∀(p:List α) (x:α) (suf:List α),p.length+suf.length+1≤N→(∀z∈p,ok z)→ok x→qas B (p.reverse++x :: suf,(p.length:Int))=some ((qws lt x p).reverse++suf)
 | [],x,suf,_,_,_=>by
  rw [show (([]:List α).length:Int)=0 from rfl,qbp (hB0 _)];rfl
 | y :: p,x,suf,hn,hp,hx=>by
  have e:(y :: p).reverse++x :: suf=p.reverse++y :: x :: suf:=by simp
  rw [e,show (((y :: p).length:Nat):Int)=((p.length+1:Nat):Int) from rfl];have hb:=hB p y x suf (by simp at hn;omega) (fun z hz=>hp z (by simp [hz])) (hp y (by simp)) hx;by_cases hc:lt x y=true
  ·rw [if_pos hc] at hb;rw [qd1 hb,quh lt ok N B hB hB0 p x (y :: suf) (by simp at hn ⊢;omega) (fun z hz=>hp z (by simp [hz])) hx];simp [qws,hc]
  ·rw [if_neg hc] at hb;rw [qbp hb];simp [qws,hc]
end Go.Ab
namespace Go.Proofs.YtgklegblfboelaaGreatDoor
open Go Go.Ab
end Go.Proofs.YtgklegblfboelaaGreatDoor
namespace Go.Ab
open Go
end Go.Ab
namespace Go.Proofs.YtgklegblfboelaaGreatDoor
open Go Go.Ab
theorem vao {s k:Nat} (hs:s < 4294967296) (hk:k < 32):qd7 (s:Int) (k:Int)=some (s.testBit k):=by
 rw [q3o,q6d hs (by omega),decide_eq_true (show 0≤(k:Int) by omega),decide_eq_true (show (k:Int) < 32 by omega)];rfl
def befN (q z:Nat×Nat):Prop:=lexN q.1 z.1∨(q.1=z.1∧q.2 < z.2)
instance instDecBefN (q z:Nat×Nat):Decidable (befN q z):=by unfold befN;exact inferInstance
end Go.Proofs.YtgklegblfboelaaGreatDoor
namespace Go.Ab
open Go
theorem qui {α:Type} (lt:α→α→Bool) (x:α):∀p:List α,(qws lt x p).Perm (x :: p)
 | []=>vjj.refl _
 | y :: p=>by
  simp only [qws];split
  ·exact ((qui lt x p).cons y).trans (vjj.swap x y p)
  ·exact vjj.refl _
end Go.Ab
namespace Go.Proofs.YtgklegblfboelaaGreatDoor
open Go Go.Ab
def ltL:List Int→List Int→Bool
 | [],[]=>false
 | [],_ :: _=>true
 | _ :: _,[]=>false
 | x :: a,y :: b=>if x=y then ltL a b else decide (x < y)
theorem qwt:∀a:List Int,ltL a a=false
 | []=>rfl
 | x :: a=>by rw [ltL,if_pos rfl,qwt a]
theorem qnq:∀a b:List Int,ltL a b=true→ltL b a=false
 | [],[],h=>rfl
 | [],_ :: _,h=>rfl
 | _ :: _,[],h=>by cases h
 | x :: a,y :: b,h=>by
  rw [ltL] at h ⊢;by_cases e:x=y
  ·subst e;rw [if_pos rfl] at h ⊢;exact qnq a b h
  ·rw [if_neg e] at h;rw [if_neg (fun e'=>e e'.symm)];simp at h ⊢;omega
theorem qpd:∀a b:List Int,ltL a b=false→ltL b a=false→a=b
 | [],[],_,_=>rfl
 | [],_ :: _,h,_=>by cases h
 | _ :: _,[],_,h=>by cases h
 | x :: a,y :: b,h1,h2=>by
  rw [ltL] at h1 h2;by_cases e:x=y
  ·subst e;rw [if_pos rfl] at h1 h2;rw [qpd a b h1 h2]
  ·rw [if_neg e] at h1;rw [if_neg (fun e'=>e e'.symm)] at h2;simp at h1 h2;omega
theorem quj:∀a b c:List Int,ltL a b=true→ltL b c=true→ltL a c=true
 | [],[],_,h,_=>by cases h
 | _ :: _,[],_,h,_=>by cases h
 | _,_ :: _,[],_,h=>by cases h
 | [],_ :: _,_ :: _,_,_=>rfl
 | x :: a,y :: b,z :: c,h1,h2=>by
  rw [ltL] at h1 h2 ⊢;by_cases e1:x=y
  ·subst e1;rw [if_pos rfl] at h1;by_cases e2:x=z
   ·subst e2;rw [if_pos rfl] at h2 ⊢;exact quj a b c h1 h2
   ·rw [if_neg e2] at h2 ⊢;exact h2
  ·rw [if_neg e1] at h1;by_cases e2:y=z
   ·subst e2;rw [if_neg e1];exact h1
   ·rw [if_neg e2] at h2;have h1':x < y:=by simpa using h1
    have h2':y < z:=by simpa using h2
    rw [if_neg (by omega)];simp;omega
theorem vap (a b c:List Int) (h1:ltL a b=false) (h2:ltL b c=false):ltL a c=false:=by
 cases h:ltL a c with
 | false=>rfl
 | true =>
  exfalso;cases h3:ltL b a with
  | true =>
   have:=quj b a c h3 h;rw [h2] at this;cases this
  | false =>
   have:=qpd a b h1 h3;subst this;rw [h2] at h;cases h
def qnb:List Int→List Int→Option Bool
 | x :: a,y :: b=>if x=y then qnb a b else some (decide (x < y))
 | _,_=>none
theorem qyc:∀a b:List Int,(match qnb a b with | some r=>r | none=>decide (a.length < b.length))=ltL a b
 | [],[]=>rfl
 | [],_ :: _=>by simp [qnb,ltL]
 | _ :: _,[]=>by simp [qnb,ltL]
 | x :: a,y :: b=>by
  rw [qnb,ltL];by_cases e:x=y
  ·rw [if_pos e,if_pos e,←qyc a b];cases qnb a b with
   | some r=>rfl
   | none=>simp
  ·rw [if_neg e,if_neg e]
theorem qio {α:Type} {l:List α} {k:Nat} {x:α} {r:List α} (h:l.drop k=x :: r):l[k]?=some x∧l.drop (k+1)=r∧k < l.length:=by
 have h1:l[k]?=some x:=by
  have:=congrArg (·[0]?) h;simpa [ve2] using this
 exact ⟨h1,by rw [←List.drop_drop,h];rfl,qap h1⟩
theorem qjw {α:Type} {l:List α} {k:Nat} (h:l.drop k=[]) (hk:k≤l.length):k=l.length:=by
 have:=congrArg List.length h;simp at this;omega
theorem qka (a b:List Int) (ha:a.length≤1000000) (hb:b.length≤1000000):∀(ra rb:List Int) (k:Nat),a.drop k=ra→b.drop k=rb→k≤a.length→k≤b.length →
  ∃o,qas (qam a b) (k:Int)=some o∧(match o with | .inl ()=>if (a.length:Int) < (b.length:Int) then -1 else 0 | .inr r=>r)=if ltL ra rb=true then (-1:Int) else if ltL rb ra=true then 1 else 0
 | [],[],k,h1,h2,h3,h4=>by
  have e1:=qjw h1 h3;have e2:=qjw h2 h4;refine ⟨.inl (),qbp (by simp [qam,e1]),?_⟩;simp only;rw [if_neg (by omega)];rfl
 | [],y :: rb,k,h1,h2,h3,h4=>by
  have e1:=qjw h1 h3;have e2:=(qio h2).2.2;refine ⟨.inl (),qbp (by simp [qam,e1]),?_⟩;simp only;rw [if_pos (by omega)];rfl
 | x :: ra,[],k,h1,h2,h3,h4=>by
  have e2:=qjw h2 h4;obtain ⟨x1,x2,x3⟩:=qio h1;refine ⟨.inr 1,qbp (by simp only [qam,if_pos (qao x1),qab x1,vgl,if_pos (show (k:Int)≥(b.length:Int) by omega)]),?_⟩;simp [ltL]
 | x :: ra,y :: rb,k,h1,h2,h3,h4=>by
  obtain ⟨x1,x2,x3⟩:=qio h1;obtain ⟨y1,y2,y3⟩:=qio h2;by_cases e:x=y
  ·subst e;obtain ⟨o,ho1,ho2⟩:=qka a b ha hb ra rb (k+1) x2 y2 x3 y3;refine ⟨o,?_,?_⟩
   ·rw [qd1 (s':=((k+1:Nat):Int)) (by simp only [qam,if_pos (qao x1),if_neg (show ¬(k:Int)≥(b.length:Int) by omega),qab x1,qab y1,vgl,qm0,q6b,bne_self_eq_false,vei,if_false,qfy x3 (show a.length≤4611686018427387904 by omega)])];exact ho1
   ·rw [ho2,ltL,ltL,if_pos rfl,if_pos rfl]
  ·refine ⟨.inr (sgn x y),qbp ?_,?_⟩
   ·have:(sgn x y != 0)=true:=by simpa using vdv e
    simp only [qam,if_pos (qao x1),if_neg (show ¬(k:Int)≥(b.length:Int) by omega),qab x1,qab y1,vgl,qm0,this,if_true]
   ·simp only [ltL,if_neg e,if_neg (fun e'=>e e'.symm:¬y=x)];unfold sgn;by_cases h:x < y
    ·simp [h]
    ·have:y < x:=by omega
     simp [h,this]
def qnc (a b:List Int):Int:=if ltL a b=true then -1 else if ltL b a=true then 1 else 0
theorem qm1 (a b:List Int) (ha:a.length≤1000000) (hb:b.length≤1000000):qb5 a b=some (qnc a b):=by
 obtain ⟨o,h1,h2⟩:=qka a b ha hb a b 0 rfl rfl (vie _) (vie _);have h1':qas (qam a b) 0=some o:=h1;unfold qb5 qnc;rw [h1',vgl,←h2];cases o with
 | inl u =>
  cases u;simp only;by_cases h:(a.length:Int) < (b.length:Int)
  ·rw [if_pos h,if_pos h]
  ·rw [if_neg h,if_neg h]
 | inr r=>rfl
def vaq (l:List (List Int)):Prop:=l.Pairwise fun a b=>ltL a b=true
def q6e (out:List (List Int)) (x:List Int):List (List Int):=if x∈out then out else (qws ltL x out.reverse).reverse
theorem q6f (out:List (List Int)) (x z:List Int):z∈q6e out x↔z∈out∨z=x:=by
 unfold q6e;by_cases h:x∈out
 ·rw [if_pos h];constructor
  ·intro hz;exact .inl hz
  ·rintro (hz | rfl)
   ·exact hz
   ·exact h
 ·rw [if_neg h,vj1,qsk,vj1];exact Or.comm
theorem vas {l:List (List Int)} (h:l.Pairwise fun a b=>ltL b a=false) (hn:l.Nodup):vaq l:=by
 refine vji.imp ?_ (h.and hn);rintro a b ⟨h1,h2⟩;cases h3:ltL a b with
 | true=>rfl
 | false=>exact absurd (qpd a b h3 h1) h2
theorem qq1 {l:List (List Int)} (h:vaq l):l.Nodup:=by
 refine vji.imp ?_ h;intro a b hab e;subst e;rw [qwt] at hab;cases hab
theorem q6g {out:List (List Int)} (x:List Int) (h:vaq out):vaq (q6e out x):=by
 unfold q6e;by_cases hm:x∈out
 ·rw [if_pos hm];exact h
 ·rw [if_neg hm];have h1:out.reverse.Pairwise fun a b=>ltL a b=false:=by
   rw [vj7];exact h.imp fun {a b} hab=>qnq a b hab
  have h2:=qpc ltL qnq vap x out.reverse h1;refine vas ?_ ?_
  ·rw [vj7];exact h2
  ·rw [(vka _).nodup_iff,(qui ltL x out.reverse).nodup_iff,vj3];exact ⟨by rw [vj1];exact hm,(vka out).nodup_iff.2 (qq1 h)⟩
theorem q6h (out:List (List Int)) (x:List Int):(q6e out x).length≤out.length+1:=by
 unfold q6e;split
 ·omega
 ·rw [vjy,qyb,vjy];exact vf9 _
theorem quk {n:Nat} (h:n≤1000000):vip.wrap ((((n+1):Nat):Int) - 1)=(n:Int):=by
 rw [wrap_i64 (by omega) (by omega)];omega
theorem vat {α:Type} (p:List α) (y x:α) (suf:List α):(p.reverse++y :: x :: suf)[p.length]?=some y∧(p.reverse++y :: x :: suf)[p.length+1]?=some x:=by
 constructor
 ·rw [ve1 (by simp)];simp
 ·rw [ve1 (by simp)];simp
theorem vau {α:Type} (p:List α) (y x:α) (suf:List α):((p.reverse++y :: x :: suf).set (p.length+1) y).set p.length x=p.reverse++x :: y :: suf:=by
 rw [vkb _ _ (by simp),vkb _ _ (by simp)];simp
theorem one_of {α:Type} {y x:α} {k:Nat} (h:[y][k]?=some x):x=y:=vhw.1 (vfn h)
end Go.Proofs.YtgklegblfboelaaGreatDoor
namespace Go.Ab
open Go
abbrev FnM:=Nat→Nat→Int
def updM (F:FnM) (i j:Nat) (v:Int):FnM:=fun a b=>if a=i∧b=j then v else F a b
end Go.Ab
namespace Go.Proofs.YtgklegblfboelaaGreatDoor
open Go Go.Ab
def putM (F:FnM) (i j:Nat) (w:Int):FnM:=updM F i j (max (F i j) w)
theorem qdf {β σ τ:Type} (n:Nat) (S:β→Int→σ) (B:σ→Option (LS σ τ)) (fin:β→τ) (I:Nat→β→Prop) {b0:β} {s0:σ} (h00:s0=S b0 0) (h0:I 0 b0)
  (hs:∀(k:Nat) b,k < n→I k b→∃b',B (S b (k:Int))=some (.next (S b' ((k+1:Nat):Int)))∧I (k+1) b')
  (he:∀b,I n b→B (S b (n:Int))=some (.done (fin b))):∃b,qas B s0=some (fin b)∧I n b:=by
 have key:∀(m k:Nat) (b:β),k+m=n→I k b→∃b',qas B (S b (k:Int))=some (fin b')∧I n b':=by
  intro m
  induction m with
  | zero =>
   intro k b hk hi;have:k=n:=by omega
   subst this;exact ⟨b,qbp (he b hi),hi⟩
  | succ m ih =>
   intro k b hk hi;obtain ⟨b',h1,h2⟩:=hs k b (by omega) hi;obtain ⟨b2,h3,h4⟩:=ih (k+1) b' (by omega) h2;exact ⟨b2,by rw [qd1 h1];exact h3,h4⟩
 subst h00;exact key n 0 b0 (by omega) h0
theorem q3p {β σ τ:Type} (n:Nat) (S:β→Int→σ) (B:σ→Option (LS σ τ)) (I:Nat→β→Prop) (T:τ→Prop) {b0:β} {s0:σ} (m:Nat) (hm:m≤n) (h00:s0=S b0 (m:Int)) (h0:I m b0)
  (hs:∀(k:Nat) b,m≤k→k < n→I k b→(∃b',B (S b (k:Int))=some (.next (S b' ((k+1:Nat):Int)))∧I (k+1) b')∨∃t,B (S b (k:Int))=some (.done t)∧T t)
  (he:∀b,I n b→∃t,B (S b (n:Int))=some (.done t)∧T t):∃o,qas B s0=some o∧T o:=by
 have key:∀(j k:Nat) (b:β),k+j=n→m≤k→I k b→∃o,qas B (S b (k:Int))=some o∧T o:=by
  intro j
  induction j with
  | zero =>
   intro k b hk _ hi;have:k=n:=by omega
   subst this;obtain ⟨t,ht,h⟩:=he b hi;exact ⟨t,qbp ht,h⟩
  | succ j ih =>
   intro k b hk hmk hi;rcases hs k b hmk (by omega) hi with ⟨b',h1,h2⟩ | ⟨t,h1,h2⟩
   ·obtain ⟨o,h3,h4⟩:=ih (k+1) b' (by omega) (by omega) h2;exact ⟨o,by rw [qd1 h1];exact h3,h4⟩
   ·exact ⟨t,qbp h1,h2⟩
 subst h00;exact key (n - m) m b0 (by omega) (vf9 _) h0
end Go.Proofs.YtgklegblfboelaaGreatDoor
namespace Go.Ab
end Go.Ab
namespace Go.Proofs.YtgklegblfboelaaGreatDoor
open Go Go.Ab
end Go.Proofs.YtgklegblfboelaaGreatDoor
namespace Go.Ab
open Go
end Go.Ab
namespace Go.Proofs.YtgklegblfboelaaGreatDoor
open Go Go.Ab
end Go.Proofs.YtgklegblfboelaaGreatDoor
namespace Go.Ab
open Go
theorem qm2 {α:Type} (l:List α) (q:α→Bool) (B:Int×Int→Option (LS (Int×Int) Int)) (hl:l.length≤1048576)
  (mono:∀(m n:Nat) x y,m≤n→l[m]?=some x→l[n]?=some y→q y=true→q x=true)
  (hB:∀(i j:Nat) x,i < j→j≤l.length→l[(i+j) / 2]?=some x→B ((i:Int),(j:Int))=some (.next (if q x=true then ((((i+j) / 2+1:Nat):Int),(j:Int)) else ((i:Int),(((i+j) / 2:Nat):Int)))))
  (hE:∀i:Nat,B ((i:Int),(i:Int))=some (.done (i:Int))) :
  ∀(d i j:Nat),j - i=d→i≤j→j≤l.length→(∀(m:Nat) x,m < i→l[m]?=some x→q x=true)→(∀(m:Nat) x,j≤m→l[m]?=some x→q x=false) →
   ∃k:Nat,qas B ((i:Int),(j:Int))=some (k:Int)∧k≤l.length∧(∀(m:Nat) x,m < k→l[m]?=some x→q x=true)∧(∀(m:Nat) x,k≤m→l[m]?=some x→q x=false):=by
 intro d
 induction d using vh8 with
 | ind d ih =>
  intro i j hd hij hj h1 h2;by_cases he:i=j
  ·subst he;exact ⟨i,qbp (hE i),hj,h1,h2⟩
  ·have hlt:(i+j) / 2 < l.length:=by omega
   have hx:l[(i+j) / 2]?=some l[(i+j) / 2]:=ve3 hlt;have hs:=hB i j _ (by omega) hj hx;generalize l[(i+j) / 2]=x at *;cases hq:q x with
   | true =>
    rw [if_pos hq] at hs;obtain ⟨k,e1,e2⟩:=ih (j - ((i+j) / 2+1)) (by omega) ((i+j) / 2+1) j rfl (by omega) hj (fun m y hm hy=>mono m ((i+j) / 2) y x (by omega) hy hx hq) h2;exact ⟨k,by rw [qd1 hs];exact e1,e2⟩
   | false =>
    rw [if_neg (by rw [hq];simp)] at hs;obtain ⟨k,e1,e2⟩:=ih ((i+j) / 2 - i) (by omega) i ((i+j) / 2) rfl (by omega) (by omega) h1 (fun m y hm hy=>by
     cases hc:q y with
     | false=>rfl
     | true=>have:=mono ((i+j) / 2) m x y hm hx hy hc;rw [hq] at this;cases this)
    exact ⟨k,by rw [qd1 hs];exact e1,e2⟩
theorem q3q (i j:Nat) (h:i+j≤4611686018427387904):vip.wrap (vi2 (vi4.wrap (vip.wrap ((i:Int)+(j:Int)))) (2 ^ (min 1 64)))=(((i+j) / 2:Nat):Int):=by
 have e:vip.wrap ((i:Int)+(j:Int))=((i+j:Nat):Int):=by rw [wrap_i64 (by omega) (by omega)];omega
 have e2:vi4.wrap ((i+j:Nat):Int)=((i+j:Nat):Int):=by
  show ((i+j:Nat):Int) % 18446744073709551616=_;omega
 rw [e,e2];have e3:vi2 ((i+j:Nat):Int) (2 ^ (min 1 64))=(((i+j) / 2:Nat):Int):=(Int.ofNat_fdiv (i+j) 2).symm;rw [e3,wrap_i64 (by omega) (by omega)]
end Go.Ab
namespace Go.Proofs.YtgklegblfboelaaGreatDoor
open Go Go.Ab
theorem qul (x y:Int):qes x y=some (decide (x < y)):=by
 have h:∀z:Int,qbv z=some false:=fun z=>by simp [qbv]
 simp only [qes,h,vgl,vja,vei,if_false,if_true]
theorem qpe (l:List Int) (p:Int) (ha:l.Pairwise (· < ·)) (hl:l.length≤1048576):∃i:Nat,qad l p=some ((i:Int),decide (p∈l)):=by
 have asc:∀(m n:Nat) x y,m < n→l[m]?=some x→l[n]?=some y→x < y:=fun m n x y hmn hx hy=>by
  obtain ⟨h1,rfl⟩:=ve5.1 hx;obtain ⟨h2,rfl⟩:=ve5.1 hy;exact vj6.1 ha m n h1 h2 hmn
 obtain ⟨k,e1,e2,e3,e4⟩:=qm2 l (fun x=>decide (x < p)) (qah l p) hl
  (fun m n x y hmn hx hy hq=>by
   rw [decide_eq_true_eq] at hq ⊢;rcases Nat.lt_or_ge m n with h | h
   ·have:=asc m n x y h hx hy;omega
   ·have:m=n:=by omega
    subst this;rw [hx] at hy;cases hy;exact hq)
  (fun i j x hij hj hx=>by
   have c:(i:Int) < (j:Int):=by omega
   simp only [qah,if_pos c,q3q i j (by omega),qab hx,vgl,qul,qno (show (i+j) / 2 < 4611686018427387904 by omega)];by_cases h:x < p <;> simp [h])
  (fun i=>by simp [qah]) _ 0 l.length rfl (vie _) (vf9 _) (fun m x hm=>by omega) (fun m x hm hx=>by have:=qap hx;omega)
 refine ⟨k,?_⟩;simp only [vjh] at e1;simp only [qad,e1,vgl];have hmem:∀x,l[k]?=some x→(p∈l↔x=p):=fun x hx=>by
  constructor
  ·intro hp;obtain ⟨m,hm⟩:=vjz.1 hp;rcases vh6 m k with h | h | h
   ·have:=e3 m p h hm;simp at this
   ·subst h;rw [hx] at hm;cases hm;rfl
   ·have h1:=asc k m x p h hx hm;have h2:=e4 k x (vf9 _) hx;simp at h2;omega
  ·rintro rfl;exact vfn hx
 by_cases hk:k < l.length
 ·have hx:l[k]?=some l[k]:=ve3 hk;have hm:=hmem _ hx;generalize l[k]=x at *;simp only [if_pos (show ((k:Int) < (l.length:Int)) by omega),qab hx,vgl,qcl];by_cases hc:x=p
  ·have:(x == p)=true:=by simp [hc]
   rw [if_pos this];simp [hm.2 hc]
  ·have:¬(x == p)=true:=by simp [hc]
   rw [if_neg this];simp [hc,hm]
 ·have:¬p∈l:=by
   intro hp;obtain ⟨m,hm⟩:=vjz.1 hp;have:=e3 m p (by have:=qap hm;omega) hm;simp at this
  simp only [if_neg (show ¬((k:Int) < (l.length:Int)) by omega)];simp [this]
theorem qf3 (l:List (List Int)) (f:List Int→Option Bool) (p:List Int→Bool) (hf:∀x∈l,f x=some (p x)) (hl:l.length≤1000000):qac l f=some (l.any p):=by
 have h:=qju l (qaz l f) p
  (fun k x hx hk hp=>by simp [qaz,qao hx,qab hx,hf x (vfn hx),hp,qfy hk (by omega)])
  (fun k x hx hp=>by simp [qaz,qao hx,qab hx,hf x (vfn hx),hp])
  (by simp [qaz])
 have hI:qb0 l f=some (match l.findIdx? p with | some i=>(i:Int) | none=>-1):=by
  simp only [qb0,h,vgl];cases l.findIdx? p <;> rfl
 simp only [qac,hI,vgl];exact congrArg some (qpb p l)
def qdx (p:Nat→Bool):Nat→List Int→List Int
 | _,[]=>[]
 | s,x :: l=>if p s=true then x :: qdx p (s+1) l else qdx p (s+1) l
theorem qho (p:Nat→Bool):∀(l:List Int) (s:Nat) (x:Int),qdx p s (l++[x])=qdx p s l++(if p (s+l.length)=true then [x] else [])
 | [],s,x=>by simp [qdx]
 | y :: l,s,x=>by
  simp only [vg7,qdx,qho p l (s+1) x,vhe,show s+1+l.length=s+(l.length+1) by omega];split <;> simp
theorem qjg (p:Nat→Bool):∀(l:List Int) (s:Nat),(qdx p s l).Sublist l
 | [],_=>List.Sublist.refl _
 | x :: l,s=>by
  unfold qdx;split
  ·exact (qjg p l (s+1)).cons_cons x
  ·exact (qjg p l (s+1)).cons x
theorem qpf (p:Nat→Bool):∀(l:List Int) (s:Nat) (x:Int),x∈qdx p s l↔∃k,l[k]?=some x∧p (s+k)=true
 | [],s,x=>by simp [qdx]
 | y :: l,s,x=>by
  have ih:=qpf p l (s+1) x;have e:(∃k,(y :: l)[k]?=some x∧p (s+k)=true)↔(y=x∧p s=true)∨∃k,l[k]?=some x∧p (s+1+k)=true:=by
   constructor
   ·rintro ⟨k,h1,h2⟩;cases k with
    | zero=>exact .inl ⟨by simpa using h1,h2⟩
    | succ k=>exact .inr ⟨k,by simpa using h1,by rw [show s+1+k=s+(k+1) by omega];exact h2⟩
   ·rintro (⟨rfl,h⟩ | ⟨k,h1,h2⟩)
    ·exact ⟨0,by simp,h⟩
    ·exact ⟨k+1,by simpa using h1,by rw [show s+(k+1)=s+1+k by omega];exact h2⟩
  rw [e];unfold qdx;split
  ·rename_i h;rw [vhp,ih];constructor
   ·rintro (rfl | h') <;> simp_all
   ·rintro (⟨rfl,_⟩ | h') <;> simp_all
  ·rename_i h;rw [ih];constructor
   ·exact .inr
   ·rintro (⟨_,h'⟩ | h')
    ·exact absurd h' h
    ·exact h'
theorem qg0 {a:Nat} (h:a < 18446744073709551616):(BitVec.ofInt 64 (a:Int)).toNat=a:=by
 rw [BitVec.toNat_ofInt];have:((a:Int) % ((2 ^ 64:Nat):Int)).toNat=a:=by omega
 exact this
theorem qg1 {l:List Int} (ha:l.Pairwise (· < ·)) {m n:Nat} {x y:Int} (hmn:m < n) (hx:l[m]?=some x) (hy:l[n]?=some y):x < y:=by
 obtain ⟨h1,rfl⟩:=ve5.1 hx;obtain ⟨h2,rfl⟩:=ve5.1 hy;exact vj6.1 ha m n h1 h2 hmn
theorem qku (l:List Int) (ha:l.Pairwise (· < ·)) (hl:l.length≤1000):qbw l=some true:=by
 have h:qas (qa8 l) 1=some (.inl ()):=by
  by_cases h0:l.length=0
  ·exact qbp (by simp only [qa8];rw [if_neg (by omega)])
  ·obtain ⟨o,e,ho⟩:=q3p (β:=Unit) l.length (fun _ i=>i) (qa8 l) (fun _ _=>True) (fun o=>o=.inl ()) (b0:=()) (s0:=1) 1 (by omega) rfl trivial
    (fun k _ hk1 hk _=>by
     have x1:l[k]?=some l[k]:=ve3 hk;have y1:l[k - 1]?=some l[k - 1]:=ve3 (by omega);have hw1:vip.wrap ((k:Int) - 1)=((k - 1:Nat):Int):=by rw [wrap_i64 (by omega) (by omega)];omega
     have:=qg1 ha (show k - 1 < k by omega) y1 x1;refine .inl ⟨(),?_,trivial⟩;simp only [qa8,if_pos (qao x1),qab x1,vgl,hw1,qab y1,if_neg (show ¬l[k]≤l[k - 1] by omega),wqn k])
    (fun _ _=>⟨_,by simp only [qa8];rw [if_neg (by omega)],rfl⟩)
   rw [e,ho]
 unfold qbw;rw [h];rfl
theorem qq2 (l:List Int) (p:Int) (ha:l.Pairwise (· < ·)) (hl:l.length≤1000):∃k:Nat,qad l p=some ((k:Int),decide (p∈l))∧k≤l.length∧(∀m x,m < k→l[m]?=some x→x < p)∧∀m x,k≤m→l[m]?=some x→p≤x:=by
 have asc:∀(m n:Nat) x y,m < n→l[m]?=some x→l[n]?=some y→x < y:=fun m n x y h1 h2 h3=>qg1 ha h1 h2 h3
 obtain ⟨k,e1,e2,e3,e4⟩:=qm2 l (fun x=>decide (x < p)) (qah l p) (by omega)
  (fun m n x y hmn hx hy hq=>by
   rw [decide_eq_true_eq] at hq ⊢;rcases Nat.lt_or_ge m n with h | h
   ·have:=asc m n x y h hx hy;omega
   ·have:m=n:=by omega
    subst this;rw [hx] at hy;cases hy;exact hq)
  (fun i j x hij hj hx=>by
   have c:(i:Int) < (j:Int):=by omega
   simp only [qah,if_pos c,q3q i j (by omega),qab hx,vgl,qul,qno (show (i+j) / 2 < 4611686018427387904 by omega)];by_cases h:x < p <;> simp [h])
  (fun i=>by simp [qah]) _ 0 l.length rfl (vie _) (vf9 _) (fun m x hm=>by omega) (fun m x hm hx=>by have:=qap hx;omega)
 have e3':∀m x,m < k→l[m]?=some x→x < p:=fun m x hm hx=>by simpa using e3 m x hm hx
 have e4':∀m x,k≤m→l[m]?=some x→p≤x:=fun m x hm hx=>by have:=e4 m x hm hx;simp at this;omega
 obtain ⟨i,hi⟩:=qpe l p ha (by omega);refine ⟨k,?_,e2,e3',e4'⟩;rw [hi];simp only [vjh] at e1;have:qad l p=some ((i:Int),decide (p∈l)):=hi;simp only [qad,e1,vgl] at this;have hfst:(i:Int)=(k:Int):=by
  by_cases hk:k < l.length
  ·have hx:l[k]?=some l[k]:=ve3 hk;simp only [if_pos (show ((k:Int) < (l.length:Int)) by omega),qab hx,vgl,qcl] at this;split at this
   ·exact (vky (vih this)).1.symm
   ·rw [bne_self_eq_false,if_neg (by simp)] at this;exact (vky (vih this)).1.symm
  ·simp only [if_neg (show ¬((k:Int) < (l.length:Int)) by omega)] at this;exact (vky (vih this)).1.symm
 rw [hfst]
theorem qjx (l part:List Int) (ha:l.Pairwise (· < ·)) (hl:l.length≤1000) (hp:part.length≤1000):qbr l part=some (part.all fun x=>decide (x∈l)):=by
 have h:=qd6 part (qb6 l part) (fun x=>decide (x∈l)) false
  (fun k x hx hk hq=>by
   obtain ⟨i,hi⟩:=qpe l x ha (by omega);simp only [qb6,if_pos (qao hx),qab hx,vgl,hi,hq,if_true,wqn k])
  (fun k x hx hq=>by
   obtain ⟨i,hi⟩:=qpe l x ha (by omega);simp only [qb6,if_pos (qao hx),qab hx,vgl,hi,hq,vei,if_false])
  (by simp [qb6])
 unfold qbr;rw [h,vgl];cases part.all fun x=>decide (x∈l) <;> rfl
def vbp (V:List Int) (E:List (List Int)) (l:List Int):Bool:=(l.all fun x=>decide (x∈V)) && !(E.any fun e=>e.all fun x=>decide (x∈l))
theorem qsl (a b:List Int) (ha:a.length≤1000) (hb:b.length≤1000):qbd a b=some (a.all fun x=>decide (x∈b)):=by
 have h:=qd6 a (qb4 a b) (fun x=>decide (x∈b)) false
  (fun k x hx hk hq=>by
   simp only [qb4,if_pos (qao hx),qab hx,vgl,qer,qya b x (by omega),hq,if_true,wqn k])
  (fun k x hx hq=>by
   simp only [qb4,if_pos (qao hx),qab hx,vgl,qer,qya b x (by omega),hq,vei,if_false])
  (by simp [qb4])
 unfold qbd;rw [h,vgl];cases a.all fun x=>decide (x∈b) <;> rfl
theorem qyd {a:Nat} (ha:a < 18446744073709551616) {k:Nat} (hk:k≤64):((vi4.wrap ((BitVec.ofInt 64 (vi2 (a:Int) (2 ^ (min k 64))) &&& (1#64)).toNat:Int)) == 1)=a.testBit k:=by
 have hd:a / 2 ^ k≤a:=vkh _ _;rw [vh7 hk,qnj,BitVec.toNat_and,qg0 (by omega),show (1#64).toNat=1 from rfl,vkg,qjv (by omega) (by omega),q3n]
theorem qwu {v:Nat} (hv:v < 64):vi4.wrap (1 * 2 ^ (min v 64))=((2 ^ v:Nat):Int):=by
 have:2 ^ v≤2 ^ 63:=vkq (by omega) (by omega);rw [vh7 (by omega),Int.one_mul,show ((2:Int) ^ v)=((2 ^ v:Nat):Int) by norm_cast];generalize 2 ^ v=q at *;exact qjv (by omega) (by omega)
theorem q4d {a b:Nat} (ha:a < 18446744073709551616) (hb:b < 18446744073709551616):vi4.wrap ((BitVec.ofInt 64 (a:Int) ||| BitVec.ofInt 64 (b:Int)).toNat:Int)=((a ||| b:Nat):Int):=by
 rw [BitVec.toNat_or,qg0 ha,qg0 hb];have:a ||| b < 2 ^ 64:=vkp ha hb;exact qjv (by omega) (by omega)
theorem qm3 {a v:Nat} (h:a < 2 ^ v):a ||| 2 ^ v=a+2 ^ v:=by
 apply vki;intro i;rw [qd9 h,vkv,vkw];congr 1;exact decide_eq_decide.2 ⟨Eq.symm,Eq.symm⟩
theorem q7r {a b:Nat} (ha:a < 18446744073709551616) (hb:b < 18446744073709551616):∃r:Nat,r < 18446744073709551616∧vi4.wrap ((BitVec.ofInt 64 (a:Int) &&& ~~~ BitVec.ofInt 64 (b:Int)).toNat:Int)=(r:Int)∧∀i,r.testBit i=(a.testBit i && !b.testBit i):=by
 refine ⟨(BitVec.ofInt 64 (a:Int) &&& ~~~ BitVec.ofInt 64 (b:Int)).toNat,BitVec.isLt _,qjv (by omega) (by have:=(BitVec.ofInt 64 (a:Int) &&& ~~~ BitVec.ofInt 64 (b:Int)).isLt;omega),fun i=>?_⟩;have hb2:=qg0 hb;have ha2:=qg0 ha;rw [BitVec.toNat_and,ha2,Nat.testBit_and];by_cases hi:i < 64
 ·have:(~~~BitVec.ofInt 64 (b:Int)).toNat.testBit i=!b.testBit i:=by
   rw [←BitVec.getLsbD,BitVec.getLsbD_not,decide_eq_true hi,vje,BitVec.getLsbD,hb2]
  rw [this]
 ·rw [vku (vgc ha (vkq (n:=2) (by omega) (show 64≤i by omega)))];rfl
theorem q6i {r:Nat}:r=0↔∀i,r.testBit i=false:=by
 constructor
 ·rintro rfl i;exact vkx i
 ·intro h;exact vki fun i=>by rw [h i,vkx]
open Classical in
theorem vdy {a b:Nat} (ha:a < 18446744073709551616) (hb:b < 18446744073709551616):((vi4.wrap ((BitVec.ofInt 64 (a:Int) &&& ~~~ BitVec.ofInt 64 (b:Int)).toNat:Int)) == 0)=decide (qwo a b):=by
 obtain ⟨r,r1,r2,r3⟩:=q7r ha hb
 rw [r2,vi7,beq_iff_eq,decide_eq_true_eq]
 have:((r:Int)=0)↔r=0:=by omega
 rw [this,q6i]
 constructor
 ·intro h i hi
  have:=h i
  rw [r3,hi,vje] at this
  simpa using this
 ·intro h i
  rw [r3]
  cases hb:a.testBit i with
  | false=>rfl
  | true=>rw [h i hb];rfl
theorem vav {v n:Nat} (hv:v≤n) (hn:n≤40):∃r:Nat,r < 18446744073709551616∧(vi4.wrap ((BitVec.ofInt 64 (vi4.wrap (18446744073709551615 * 2 ^ (min v 64))) &&& (BitVec.ofInt 64 (vi4.wrap ((vi4.wrap (1 * 2 ^ (min n 64))) - 1)))).toNat:Int))=(r:Int) ∧
  ∀i,r.testBit i=(decide (v≤i) && decide (i < n)):=by
 have p1:2 ^ v≤2 ^ n:=vkq (by omega) hv;have p2:2 ^ n≤2 ^ 40:=vkq (by omega) hn;have p0:0 < 2 ^ v:=vks (by omega);have e1:vi4.wrap (18446744073709551615 * 2 ^ (min v 64))=((18446744073709551616 - 2 ^ v:Nat):Int):=by
  rw [vh7 (by omega),show ((18446744073709551615:Int) * 2 ^ v)=((18446744073709551615 * 2 ^ v:Nat):Int) by rw [vjg,Int.natCast_pow];rfl,qug];have:18446744073709551615 * 2 ^ v=(18446744073709551616 - 2 ^ v)+18446744073709551616 * (2 ^ v - 1):=by omega
  rw [this,vkf,vkn (by omega)]
 have e2:vi4.wrap ((vi4.wrap (1 * 2 ^ (min n 64))) - 1)=((2 ^ n - 1:Nat):Int):=by
  rw [qwu (by omega),qjv (by omega) (by omega)];omega
 rw [e1,e2,BitVec.toNat_and,qg0 (by omega),qg0 (by omega),Nat.and_two_pow_sub_one_eq_mod];have hmod:(18446744073709551616 - 2 ^ v) % 2 ^ n=2 ^ n - 2 ^ v:=by
  have:18446744073709551616 - 2 ^ v=(2 ^ n - 2 ^ v)+2 ^ n * (2 ^ (64 - n) - 1):=by
   have:2 ^ n * 2 ^ (64 - n)=18446744073709551616:=by rw [←Nat.pow_add,show n+(64 - n)=64 by omega]
   rw [Nat.mul_sub,this,Nat.mul_one];omega
  rw [this,vkf,vkn (by omega)]
 rw [hmod];refine ⟨2 ^ n - 2 ^ v,by omega,qjv (by omega) (by omega),fun i=>?_⟩;have:2 ^ n - 2 ^ v=(2 ^ (n - v) - 1) * 2 ^ v:=by
  rw [Nat.sub_mul,←Nat.pow_add,show n - v+v=n by omega,Nat.one_mul]
 rw [this,Nat.testBit_mul_two_pow,Nat.testBit_two_pow_sub_one];by_cases h:v≤i
 ·rw [decide_eq_true h,vje,vje];exact decide_eq_decide.2 (by omega)
 ·rw [decide_eq_false h];rfl
open Classical in
theorem q0a {e u iN v n:Nat} (he:e < 18446744073709551616) (hi:iN < 18446744073709551616) (hu:u < 64) (hv:v≤n) (hn:n≤40) :
  qaf (e:Int) (u:Int) (iN:Int) (vi4.wrap ((BitVec.ofInt 64 (vi4.wrap (18446744073709551615 * 2 ^ (min v 64))) &&& (BitVec.ofInt 64 (vi4.wrap ((vi4.wrap (1 * 2 ^ (min n 64))) - 1)))).toNat:Int)) =
   some (decide (e.testBit u=true∧∀i,e.testBit i=true→i≠u→(iN.testBit i=true∨(v≤i∧i < n)))):=by
 obtain ⟨L,l1,l2,l3⟩:=vav hv hn
 have p:2 ^ u≤2 ^ 63:=vkq (by omega) (by omega)
 obtain ⟨r,r1,r2,r3⟩:=q7r (a:=e) (b:=2 ^ u) he (by omega)
 have hor:iN ||| L < 18446744073709551616:=vkp (n:=64) hi l1
 simp only [qaf,if_neg (show ¬(u:Int) < 0 by omega),vio,qyd he (show u≤64 by omega),l2,qwu hu,r2,q4d hi l1,vdy r1 hor]
 by_cases h:e.testBit u=true
 ·rw [if_pos h]
  congr 1
  refine decide_eq_decide.2 ⟨fun hs=>⟨h,fun i hib hiu=>?_⟩,fun hs i hib=>?_⟩
  ·have:=hs i (by rw [r3,hib,vkw,decide_eq_false (Ne.symm hiu)];rfl)
   rw [vkv,l3] at this
   simpa using this
  ·rw [r3,veg,vkw] at hib
   have hiu:i≠u:=fun e=>by subst e;simp at hib
   have:=hs.2 i hib.1 hiu
   rw [vkv,l3]
   simpa using this
 ·rw [if_neg h]
  congr 1
  exact (decide_eq_false fun hh=>h hh.1).symm
open Classical in
theorem vaw {e S:Nat} (he:e < 18446744073709551616) (hS:S < 18446744073709551616):qak (e:Int) (S:Int)=some (decide (qwo e S)):=by
 simp only [qak,vdy he hS]
theorem qnd (l:List Int) (f:Int→Option Bool) (p:Int→Bool) (hf:∀x∈l,f x=some (p x)) (hl:l.length≤1073741824):qby l f=some (vdw (l.findIdx? p)):=by
 have h:=qju l (qay l f) p
  (fun k y hx hk hp=>by simp only [qay,if_pos (qao hx),qab hx,vgl,hf y (vfn hx),hp,vei,if_false,qfy hk (show l.length≤4611686018427387904 by omega)])
  (fun k y hx hp=>by simp only [qay,if_pos (qao hx),qab hx,vgl,hf y (vfn hx),hp,if_true])
  (by simp [qay])
 simp only [qby,h,vgl];cases l.findIdx? p <;> rfl
theorem qg2 (l:List Int) (f:Int→Option Bool) (p:Int→Bool) (hf:∀x∈l,f x=some (p x)) (hl:l.length≤1073741824):qae l f=some (l.any p):=by
 simp only [qae,qnd l f p hf hl,vgl];exact congrArg some (qx9 p l)
structure HG (V:List Int) (E:List (List Int)):Prop where
 asc:V.Pairwise (· < ·)
 len:V.length≤40
 elen:E.length≤20000
 easc:∀e∈E,e.Pairwise (· < ·)
 ene:∀e∈E,e≠[]
 esub:∀e∈E,∀x∈e,x∈V
theorem qly:∀(a b:List Int),a.Nodup→(∀x∈a,x∈b)→a.length≤b.length
 | [],b,_,_=>vie _
 | x :: a,b,hn,hs=>by
  obtain ⟨h1,h2⟩:=vj3.1 hn;have hx:=hs x vhr;have:=qly a (b.erase x) h2 fun y hy=>(List.mem_erase_of_ne (fun (e:y=x)=>h1 (by rw [←e];exact hy))).2 (hs y (vhq _ hy))
  rw [List.length_erase_of_mem hx] at this;have:=vhh hx;rw [vhe];omega
theorem HG.eshort {V:List Int} {E:List (List Int)} (H:HG V E) {e:List Int} (he:e∈E):e.length≤V.length:=by
 refine qly e V ((H.easc e he).imp ?_) (H.esub e he);intro a b h;omega
def qfz (V:List Int) (x:Int):Nat:=(V.findIdx? fun y=>x == y).getD 0
theorem qdy {V:List Int} {x:Int} (h:x∈V):V.findIdx? (fun y=>x == y)=some (qfz V x)∧V[qfz V x]?=some x:=by
 cases hf:V.findIdx? (fun y=>x == y) with
 | none =>
  have:=vjo.1 hf x h;simp at this
 | some i =>
  obtain ⟨h1,h2,_⟩:=vjp.1 hf;have e:qfz V x=i:=by unfold qfz;rw [hf];rfl
  rw [e];refine ⟨rfl,?_⟩;rw [ve3 h1];have:x=V[i]:=by simpa using h2
  rw [←this]
theorem qip {V:List Int} {x:Int} (h:x∈V):qfz V x < V.length:=(ve5.1 (qdy h).2).1
theorem qnr {V:List Int} (hV:V.Pairwise (· < ·)) {x:Int} (h:x∈V) (i:Nat):qfz V x=i↔V[i]?=some x:=by
 constructor
 ·rintro rfl;exact (qdy h).2
 ·intro hi;have h2:=(qdy h).2;rcases vh6 (qfz V x) i with hh | hh | hh
  ·have:=qg1 hV hh h2 hi;omega
  ·exact hh
  ·have:=qg1 hV hh hi h2;omega
def mkE (V:List Int) (e:List Int):Nat:=e.foldl (fun b x=>b ||| 2 ^ qfz V x) 0
theorem qum (V:List Int):∀(e:List Int) (b i:Nat),(e.foldl (fun b x=>b ||| 2 ^ qfz V x) b).testBit i=(b.testBit i || e.any fun x=>qfz V x == i)
 | [],b,i=>by simp
 | x :: e,b,i=>by
  rw [vjq,qum V e,vkv,vkw,List.any_cons,Bool.or_assoc];congr 2
theorem qye (V:List Int):∀(e:List Int) (b:Nat),(∀x∈e,x∈V)→b < 2 ^ V.length→e.foldl (fun b x=>b ||| 2 ^ qfz V x) b < 2 ^ V.length
 | [],b,_,h=>h
 | x :: e,b,he,h=>by
  rw [vjq];exact qye V e _ (fun y hy=>he y (vhq _ hy)) (vkp h (vkr (by omega) (qip (he x vhr))))
theorem qyf {V e:List Int} (he:∀x∈e,x∈V):mkE V e < 2 ^ V.length:=qye V e 0 he (vks (by omega))
theorem qmr {V e:List Int} (hV:V.Pairwise (· < ·)) (he:∀x∈e,x∈V) (i:Nat):(mkE V e).testBit i=true↔∃x,x∈e∧V[i]?=some x:=by
 unfold mkE;rw [qum,vkx,vi8,vg6];exact exists_congr fun x=>and_congr_right fun hx=>by rw [beq_iff_eq,qnr hV (he x hx)]
theorem qf4 {n m:Nat} (hn:n≤40) (h:m < 2 ^ n):m < 18446744073709551616:=by
 have:2 ^ n≤2 ^ 40:=vkq (by omega) hn;generalize 2 ^ n=q at *;omega
theorem q3r {V:List Int} {E:List (List Int)} (H:HG V E) (e:List Int) (he:e∈E):qas (qcu ⟨V,E⟩ e) (0,0)=some ((mkE V e:Nat):Int):=by
 have hs:=H.esub e he;have hl:=H.len;have hel:=H.eshort he;have h:=qks e (fun (b:Nat) (i:Int)=>((b:Int),i)) (qcu ⟨V,E⟩ e) (fun b x=>b ||| 2 ^ qfz V x) (fun b=>(b:Int)) (fun _ b=>b < 2 ^ V.length) (b0:=0) (s0:=(0,0)) rfl (vks (by omega))
  (fun k b x hx hk hI=>by
   have hxV:=hs x (vfn hx);have hp:=qip hxV;refine ⟨?_,vkp hI (vkr (by omega) hp)⟩;have hpp:2 ^ qfz V x < 2 ^ V.length:=vkr (by omega) hp;have hI2:=qhu V x (by omega);rw [(qdy hxV).1] at hI2;simp only [qcu,if_pos (qao hx),qab hx,vgl,hI2,vdw,if_neg (show ¬((qfz V x:Nat):Int) < 0 by omega),vio,qwu (show qfz V x < 64 by omega),q4d (qf4 hl hI) (qf4 hl hpp),wqn k])
  (fun b _=>by simp [qcu])
 exact h
theorem qq3 {V:List Int} {E:List (List Int)} (H:HG V E):qas (qce ⟨V,E⟩) ([],0)=some (E.map fun e=>((mkE V e:Nat):Int)):=by
 have hl:=H.elen;have h:=qks E (fun (b:List Int) (i:Int)=>(b,i)) (qce ⟨V,E⟩) (fun b e=>b++[((mkE V e:Nat):Int)]) id (fun k b=>b.length=k) (b0:=[]) (s0:=([],0)) rfl rfl
  (fun k b x hx hk hI=>by
   refine ⟨?_,by simp [hI]⟩;simp only [qce,if_pos (qao hx),qab hx,vgl,q3r H x (vfn hx),qls (show b.length+1≤17592186044416 by omega),if_true,wqn k])
  (fun b _=>by simp [qce])
 rw [h,id];congr 1;have:∀(l:List (List Int)) (b:List Int),l.foldl (fun b e=>b++[((mkE V e:Nat):Int)]) b=b++l.map fun e=>((mkE V e:Nat):Int):=by
  intro l
  induction l with
  | nil=>intro b;simp
  | cons x l ih=>intro b;simp [ih]
 rw [this];rfl
def msE (V:List Int) (E:List (List Int)):List Nat:=E.map (mkE V)
theorem qfi {V:List Int} {E:List (List Int)} {m:Nat}:m∈msE V E↔∃e∈E,mkE V e=m:=by unfold msE;rw [vht]
theorem vdz {V:List Int} {E:List (List Int)} (H:HG V E) {m:Nat} (h:m∈msE V E):m < 2 ^ V.length:=by
 obtain ⟨e,he,rfl⟩:=qfi.1 h;exact qyf (H.esub e he)
theorem qun {V:List Int} {E:List (List Int)} (H:HG V E) {m:Nat} (h:m∈msE V E):∃i,m.testBit i=true:=by
 obtain ⟨e,he,rfl⟩:=qfi.1 h;cases hc:e with
 | nil=>exact absurd hc (H.ene e he)
 | cons x r =>
  have hx:x∈e:=by rw [hc];simp
  rw [←hc];exact ⟨qfz V x,(qmr H.asc (H.esub e he) _).2 ⟨x,hx,(qdy (H.esub e he x hx)).2⟩⟩
theorem q7s {V:List Int} {E:List (List Int)} (p:Nat→Bool) (q:Int→Bool) (h:∀e∈E,q ((mkE V e:Nat):Int)=p (mkE V e)):(E.map fun e=>((mkE V e:Nat):Int)).any q=(msE V E).any p:=by
 unfold msE;rw [List.any_map,List.any_map,vi7,vg6,vg6];exact exists_congr fun e=>and_congr_right fun he=>by simp only [Function.comp_apply,h e he]
open Classical in
theorem qe3 {V:List Int} {E:List (List Int)} (H:HG V E) {v iN out:Nat} (hv:v≤V.length) (hi:iN < 2 ^ v) (ho:out < 2 ^ v) (hio:∀i,i < v→out.testBit i=!iN.testBit i) :
  qas (qbt ⟨V,E⟩ (E.map fun e=>((mkE V e:Nat):Int)) (v:Int) (iN:Int) (out:Int)) 0=some (if qgz V.length (msE V E) v iN then .inr () else .inl ()):=by
 have hl:=H.len
 have hel:=H.elen
 have hi64:=qf4 (show v≤40 by omega) hi
 have ho64:=qf4 (show v≤40 by omega) ho
 let q:Nat→Bool:=fun u=>!out.testBit u || (msE V E).any fun m=>decide (m.testBit u=true∧∀i,m.testBit i=true→i≠u→(iN.testBit i=true∨(v≤i∧i < V.length)))
 have step:∀(u:Nat),u < v→qbt ⟨V,E⟩ (E.map fun e=>((mkE V e:Nat):Int)) (v:Int) (iN:Int) (out:Int) (u:Int)=if q u=true then some (.next ((u+1:Nat):Int)) else some (.done (.inr ())):=by
  intro u hu
  have hC:=qg2 (E.map fun e=>((mkE V e:Nat):Int)) (fun y=>qaf y (u:Int) (iN:Int) (vi4.wrap ((BitVec.ofInt 64 (vi4.wrap (18446744073709551615 * 2 ^ (min v 64))) &&& (BitVec.ofInt 64 (vi4.wrap ((vi4.wrap (1 * 2 ^ (min V.length 64))) - 1)))).toNat:Int)))
   (fun y=>decide (y.toNat.testBit u=true∧∀i,y.toNat.testBit i=true→i≠u→(iN.testBit i=true∨(v≤i∧i < V.length)))) (fun y hy=>by
    obtain ⟨e,he,rfl⟩:=vht.1 hy
    rw [q0a (qf4 hl (qyf (H.esub e he))) hi64 (by omega) hv hl]
    simp only [vio]) (by rw [vfd];omega)
  rw [q7s (fun m=>decide (m.testBit u=true∧∀i,m.testBit i=true→i≠u→(iN.testBit i=true∨(v≤i∧i < V.length)))) _ (fun e _=>by simp only [vio])] at hC
  simp only [qbt,if_pos (show (u:Int) < (v:Int) by omega),if_neg (show ¬(u:Int) < 0 by omega),vio,qyd ho64 (show u≤64 by omega),hC,vgl,wqn u,q]
  by_cases hbo:out.testBit u=true
  ·simp only [hbo,if_true,vjb,vi8]
  ·have hbo':out.testBit u=false:=by simpa using hbo
   simp only [hbo',vei,if_false,vja,Bool.true_or,if_true]
 have h:=qd6 (vft v) (qbt ⟨V,E⟩ (E.map fun e=>((mkE V e:Nat):Int)) (v:Int) (iN:Int) (out:Int)) q ()
  (fun k x hx hk hp=>by
   have:x=k:=by rw [vjs (by simpa using hk)] at hx;exact (vih hx).symm
   subst this
   rw [step x (by simpa using hk),if_pos hp])
  (fun k x hx hp=>by
   have hk:=qap hx
   have:x=k:=by rw [vjs (by simpa using hk)] at hx;exact (vih hx).symm
   subst this
   rw [step x (by simpa using hk),if_neg (by rw [hp];simp)])
  (by rw [vhi];simp [qbt])
 rw [h]
 congr 1
 have:((vft v).all q=true)↔¬qgz V.length (msE V E) v iN:=by
  rw [vg4]
  constructor
  ·rintro hh ⟨u,hu,hb,hno⟩
   have:=hh u (vhv.2 hu)
   simp only [q,hio u hu,hb,vja,vjb,vi8,vg6,decide_eq_true_eq] at this
   exact hno this
  ·intro hh u hu
   have hu:=vhv.1 hu
   simp only [q,hio u hu,Bool.not_not,Bool.or_eq_true,vg6,decide_eq_true_eq]
   by_cases hb:iN.testBit u=true
   ·exact .inl hb
   ·refine .inr (Classical.byContradiction fun hno=>hh ⟨u,hu,by simpa using hb,hno⟩)
 by_cases hp:qgz V.length (msE V E) v iN
 ·rw [if_pos hp,if_neg (fun hh=>(this.1 hh) hp)]
 ·rw [if_neg hp,if_pos (this.2 hp)]
open Classical in
theorem qns {V:List Int} {E:List (List Int)} (H:HG V E) {S:Nat} (hS:S < 18446744073709551616):qae (E.map fun e=>((mkE V e:Nat):Int)) (fun y=>qak y (S:Int))=some (decide (¬qkt (msE V E) S)):=by
 have hl:=H.len
 have hel:=H.elen
 have hC:=qg2 (E.map fun e=>((mkE V e:Nat):Int)) (fun y=>qak y (S:Int)) (fun y=>decide (qwo y.toNat S)) (fun y hy=>by
  obtain ⟨e,he,rfl⟩:=vht.1 hy
  rw [vaw (qf4 hl (qyf (H.esub e he))) hS]
  simp only [vio]) (by rw [vfd];omega)
 rw [hC,q7s (fun m=>decide (qwo m S)) _ (fun e _=>by simp only [vio])]
 congr 1
 rw [vi7,vg6,decide_eq_true_eq]
 simp only [decide_eq_true_eq,qkt]
 constructor
 ·rintro ⟨m,h1,h2⟩ h;exact h m h1 h2
 ·intro h
  exact Classical.byContradiction fun hno=>h fun m h1 h2=>hno ⟨m,h1,h2⟩
theorem qyg {α β:Type} (x:Option (α×β)):(x.bind fun (o:α×β)=>some (o.1,o.2))=x:=by cases x <;> rfl
def qwv (most:Int) (acc:List Int) (S:Nat):Bool×List Int:=(decide (((acc.length+1:Nat):Int)≤most),acc++[(S:Int)])
theorem qup (most:Int):∀(l:List Nat) (acc:List Int),((acc.length+l.length:Nat):Int)≤most→qgj (qwv most) l acc=(true,acc++l.map fun (S:Nat)=>(S:Int))
 | [],acc,_=>by simp [qgj]
 | x :: l,acc,h=>by
  rw [vhe] at h;have h1:(qwv most acc x).1=true:=by simp only [qwv,decide_eq_true_eq];omega
  have h2:(qwv most acc x).2=acc++[(x:Int)]:=rfl;rw [qgj,if_pos h1,h2,qup most l _ (by rw [vfb];simp only [viv];omega)];simp
open Classical in
theorem q3s {V:List Int} {E:List (List Int)} (H:HG V E) (most:Int) (hm:((LM V.length (msE V E) V.length 0 0).length:Int)≤most):qcr ⟨V,E⟩ most=some ((LM V.length (msE V E) V.length 0 0).map fun (S:Nat)=>(S:Int),true):=by
 have hl:=H.len
 have hLM:=qqz V.length (msE V E) V.length 0 0
 have hpow:2 ^ V.length≤2 ^ 40:=vkq (by omega) hl
 have hb:(LM V.length (msE V E) V.length 0 0).length≤1099511627776:=vgb hLM hpow
 obtain ⟨hw,_⟩:=qx7 (ST:=List Int×Int×Int×Int) (OT:=Bool×List Int) V.length (msE V E) (qwv most) (qbe ⟨V,E⟩ most (E.map fun e=>((mkE V e:Nat):Int))) (fun s v iN out=>(s,(v:Int),(iN:Int),(out:Int))) (fun b s=>(b,s)) List.length 1099511627776
  (fun s x=>by simp [qwv])
  (fun rec s v iN out hv hi ho hio hp=>by
   simp only [qbe,if_neg (show ¬(v:Int) < 0 by omega),if_neg (show ¬(V.length:Int) < 0 by omega),qe3 H hv hi ho hio,if_pos hp,vgl])
  (fun rec s iN out hi ho hio hp hc=>by
   simp only [qbe,if_neg (show ¬(V.length:Int) < 0 by omega),qe3 H (vf9 _) hi ho hio,if_neg hp,vgl,beq_self_eq_true,if_true,qls (show s.length+1≤17592186044416 by omega),qwv])
  (fun rec s v iN out hv hi ho hio hp hf=>by
   have e1:=qwu (v:=v) (by omega)
   have hv64:=qf4 (show v≤40 by omega) hi
   have ho64:=qf4 (show v≤40 by omega) ho
   have hp64:2 ^ v < 18446744073709551616:=qf4 (n:=40) (by omega) (vkr (by omega) (by omega))
   have ha64:=qf4 (show v+1≤40 by omega) (qf7 hi)
   have hne:((v:Int) == (V.length:Int))=false:=by rw [beq_eq_false_iff_ne];omega
   simp only [qbe,if_neg (show ¬(v:Int) < 0 by omega),if_neg (show ¬(V.length:Int) < 0 by omega),qe3 H (vf8 hv) hi ho hio,if_neg hp,vgl,hne,vei,if_false,vio,e1,q4d hv64 hp64,q4d ho64 hp64,qm3 hi,qm3 ho,qns H ha64,decide_eq_true hf,if_true,wqn v]
   exact qyg _)
  (fun rec s v iN out hv hi ho hio hp hf b s' hr=>by
   have e1:=qwu (v:=v) (by omega)
   have hv64:=qf4 (show v≤40 by omega) hi
   have ho64:=qf4 (show v≤40 by omega) ho
   have hp64:2 ^ v < 18446744073709551616:=qf4 (n:=40) (by omega) (vkr (by omega) (by omega))
   have ha64:=qf4 (show v+1≤40 by omega) (qf7 hi)
   have hne:((v:Int) == (V.length:Int))=false:=by rw [beq_eq_false_iff_ne];omega
   simp only [qbe,if_neg (show ¬(v:Int) < 0 by omega),if_neg (show ¬(V.length:Int) < 0 by omega),qe3 H (vf8 hv) hi ho hio,if_neg hp,vgl,hne,vei,if_false,vio,e1,q4d hv64 hp64,q4d ho64 hp64,qm3 hi,qm3 ho,qns H ha64,decide_eq_false (not_not_intro hf),wqn v,hr]
   cases b with
   | false=>rfl
   | true=>simp only [if_true];exact qyg _)
  V.length 0 0 0 64 [] (by omega) (by omega) (by simp) (by simp) (fun i h=>absurd h (vko i)) (qlt fun e he=>qun H he) (by simpa using hb)
 have hN:=qup most (LM V.length (msE V E) V.length 0 0) [] (by simpa using hm)
 rw [hN] at hw
 simp only [vjh] at hw
 simp only [qcr,qq3 H,vgl,hw,vfs]
def qdd (V:List Int) (S:Nat):List Int:=qdx (fun k=>S.testBit k) 0 V
theorem q7t (V:List Int) (E:List (List Int)) (hV:V.length≤40) {S:Nat} (hS:S < 18446744073709551616):qen ⟨V,E⟩ (S:Int)=some (qdd V S):=by
 obtain ⟨b,e,i⟩:=qdf (β:=List Int) V.length (fun b i=>(b,i)) (qd3 ⟨V,E⟩ (S:Int)) id (fun k b=>b=qdx (fun k=>S.testBit k) 0 (V.take k)∧b.length≤k) (b0:=[]) (s0:=([],0)) rfl ⟨by simp [qdx],by simp⟩
  (fun k b hk hI=>by
   obtain ⟨i1,i2⟩:=hI;have hx:V[k]?=some V[k]:=ve3 hk;have e:V.take (k+1)=V.take k++[V[k]]:=vke hk;have hp:qdx (fun k=>S.testBit k) 0 (V.take (k+1))=b++(if S.testBit k=true then [V[k]] else []):=by
    rw [e,qho,←i1,vfh,vgk,vh7 (by omega)]
   simp only [qd3,if_pos (qao hx),qab hx,vgl,if_neg (show ¬(k:Int) < 0 by omega),vio,qyd hS (show k≤64 by omega),qls (show b.length+1≤17592186044416 by omega),if_true,wqn k];by_cases h:S.testBit k=true
   ·rw [if_pos h];exact ⟨_,rfl,by rw [hp,if_pos h],by simp;omega⟩
   ·rw [if_neg h];exact ⟨b,rfl,by rw [hp,if_neg h];simp,by omega⟩)
  (fun b _=>by simp [qd3])
 rw [vkd] at i;unfold qen;rw [e,vgl,id,i.1];rfl
theorem vax {V:List Int} {S:Nat} {x:Int}:x∈qdd V S↔∃k,V[k]?=some x∧S.testBit k=true:=by
 unfold qdd;rw [qpf];exact exists_congr fun k=>by rw [vgk]
theorem qpg (V:List Int) (S:Nat):(qdd V S).Sublist V:=qjg _ _ _
theorem q3t (p q:Nat→Bool) (i:Nat) (hp:p i=true) (hq:q i=false) (hb:∀j,j < i→p j=q j):∀(V:List Int) (s:Nat),V.Pairwise (· < ·)→s≤i→i < s+V.length→(∃j,i < j∧j < s+V.length∧q j=true) →
  ltL (qdx p s V) (qdx q s V)=true
 | [],s,_,h1,h2,_=>by simp at h2;omega
 | x :: V,s,hV,h1,h2,⟨j,j1,j2,j3⟩=>by
  obtain ⟨v1,v2⟩:=vj5.1 hV;rw [vhe] at h2 j2;by_cases hs:s=i
  ·subst hs;have e1:qdx p s (x :: V)=x :: qdx p (s+1) V:=by rw [qdx,if_pos hp]
   have e2:qdx q s (x :: V)=qdx q (s+1) V:=by rw [qdx,if_neg (by rw [hq];simp)]
   rw [e1,e2];have hjV:∃y,V[j - (s+1)]?=some y:=⟨_,ve3 (by omega)⟩;obtain ⟨y,hy⟩:=hjV;have hmem:y∈qdx q (s+1) V:=(qpf q V (s+1) y).2 ⟨j - (s+1),hy,by rw [show s+1+(j - (s+1))=j by omega];exact j3⟩;cases hc:qdx q (s+1) V with
   | nil=>rw [hc] at hmem;cases hmem
   | cons z r =>
    have hz:z∈V:=(qjg q V (s+1)).subset (by rw [hc];simp);have:=v1 z hz;rw [ltL,if_neg (by omega)];simpa using this
  ·have ih:=q3t p q i hp hq hb V (s+1) v2 (by omega) (by omega) ⟨j,j1,by omega,j3⟩;have hps:=hb s (by omega);rw [qdx,qdx,hps];split
   ·rw [ltL,if_pos rfl];exact ih
   ·exact ih
theorem vd0 {V:List Int} (hV:V.Pairwise (· < ·)) {S T:Nat} (hS:S < 2 ^ V.length) (hT:T < 2 ^ V.length) (h:befM S T) (hn:¬qwo T S):ltL (qdd V S) (qdd V T)=true:=by
 obtain ⟨i,i1,i2,i3⟩:=h;have hiV:i < V.length:=by
  refine Classical.byContradiction fun hh=>?_
  rw [qb3 hS (by omega)] at i1;cases i1
 refine q3t _ _ i i1 i2 i3 V 0 hV (vie _) (by omega) ?_;refine Classical.byContradiction fun hno=>hn fun j hj=>?_
 have hjV:j < V.length:=by
  refine Classical.byContradiction fun hh=>?_
  rw [qb3 hT (by omega)] at hj;cases hj
 rcases vh6 j i with hh | hh | hh
 ·rw [i3 j hh];exact hj
 ·subst hh;exact i1
 ·exact absurd ⟨j,hh,by omega,hj⟩ hno
theorem vay {n:Nat} {es:List Nat} {S T:Nat} (hS:q0k n es S) (hT:q0k n es T) (hl:S < 2 ^ n) (h:qwo T S):qwo S T:=by
 intro i hi;refine Classical.byContradiction fun hno=>?_
 have hin:i < n:=by
  refine Classical.byContradiction fun hh=>?_
  rw [qb3 hl (by omega)] at hi;cases hi
 obtain ⟨e,he,e1,e2⟩:=hT.2 i hin (by simpa using hno);refine hS.1 e he fun j hj=>?_
 by_cases hji:j=i
 ·subst hji;exact hi
 ·exact h j (e2 j hj hji)
theorem LM_lt {V:List Int} {es:List Nat} (hV:V.Pairwise (· < ·)):(LM V.length es V.length 0 0).Pairwise fun S T=>ltL (qdd V S) (qdd V T)=true:=by
 refine vji.imp_of_mem ?_ (qnp V.length es V.length 0 0 (by omega) (by simp));intro S T hS hT hb;obtain ⟨s1,s2⟩:=qin.1 hS;obtain ⟨t1,t2⟩:=qin.1 hT;refine vd0 hV s1 t1 hb fun hsub=>?_
 have h2:=vay s2 t2 s1 hsub;obtain ⟨i,i1,i2,_⟩:=hb;rw [h2 i i1] at i2;cases i2
structure HV (V:List Int) (E:List (List Int)):Prop extends HG V E where
 srtdE:E.Pairwise fun a b=>ltL a b=true
 anti:∀(i k:Nat) (a b:List Int),E[i]?=some a→E[k]?=some b→i≠k→∃x,x∈b∧x ∉ a
theorem q6j {V:List Int} {E:List (List Int)} (H:HV V E):qet ⟨V,E⟩=some true:=by
 have hl:=H.len;have hel:=H.elen;have h1:=qd6 E (qdl ⟨V,E⟩) (fun _=>true) false
  (fun k x hx hk _=>by
   have hm:=vfn hx;have hxl:=H.toHG.eshort hm;have hne:((x.length:Int) == 0)=false:=by
    have:=vjx.2 (H.ene x hm);rw [beq_eq_false_iff_ne];omega
   have hall:(x.all fun y=>decide (y∈V))=true:=by simpa using H.esub x hm
   simp only [qdl,if_pos (qao hx),qab hx,vgl,hne,vei,if_false,qku x (H.easc x hm) (by omega),qjx V x H.asc (by omega) (by omega),hall,if_true,wqn k];by_cases h0:k=0
   ·subst h0;rfl
   ·have hy:E[k - 1]?=some E[k - 1]:=ve3 (by omega);have hxy:x=E[k]:=(ve5.1 hx).2.symm;have hlt:ltL E[k - 1] x=true:=by rw [hxy];exact vj6.1 H.srtdE (k - 1) k (by omega) hk (by omega)
    have hyl:=H.toHG.eshort (vfn hy);have hw1:vip.wrap ((k:Int) - 1)=((k - 1:Nat):Int):=by rw [wrap_i64 (by omega) (by omega)];omega
    have hc:qnc E[k - 1] x=-1:=by unfold qnc;rw [if_pos hlt]
    rw [if_pos (show (k:Int) > 0 by omega),hw1];simp only [qab hy,vgl,qm1 _ x (show E[k - 1].length≤1000000 by omega) (by omega),hc];rfl)
  (fun k x hx hp=>by cases hp) (by simp [qdl])
 have h2:=qd6 E (qdn ⟨V,E⟩) (fun _=>true) false
  (fun k x hx hk _=>by
   have hm:=vfn hx;have hxl:=H.toHG.eshort hm;have h3:=qd6 E (qdm ⟨V,E⟩ (k:Int) x) (fun _=>true) false
    (fun j y hy hj _=>by
     have hym:=vfn hy;have hyl:=H.toHG.eshort hym;simp only [qdm,if_pos (qao hy),qab hy,vgl,qjx x y (H.easc x hm) (by omega) (by omega),wqn j];by_cases hkj:k=j
     ·subst hkj;simp
     ·have hne:((k:Int) != (j:Int))=true:=by rw [bne_iff_ne];omega
      obtain ⟨z,z1,z2⟩:=H.anti k j x y hx hy hkj;have hf:(y.all fun w=>decide (w∈x))=false:=by
       rw [vjk];exact ⟨z,z1,by simpa using z2⟩
      rw [if_pos hne,hf];rfl)
    (fun j y hy hp=>by cases hp) (by simp [qdm])
   have hall:(E.all fun _=>true)=true:=by simp
   rw [hall,if_pos rfl] at h3;simp only [qdn,if_pos (qao hx),qab hx,vgl,h3,wqn k])
  (fun k x hx hp=>by cases hp) (by simp [qdn])
 have hall:(E.all fun _=>true)=true:=by simp
 rw [hall,if_pos rfl] at h1 h2;unfold qet;simp only [qku V H.asc (by omega),vgl,if_true,if_neg (show ¬((E.length:Int) > 20000) by omega),h1,h2]
theorem qlz {V:List Int} {E:List (List Int)} (H:HV V E):qbx ⟨V,E⟩=some 0:=by
 have hl:=H.len;simp only [qbx,q6j H,vgl,if_true,if_neg (show ¬((V.length:Int) > 40) by omega)]
def qea (V:List Int) (E:List (List Int)):List Nat:=LM V.length (msE V E) V.length 0 0
theorem vaz {V:List Int} {E:List (List Int)} {S:Nat} (hS:S∈qea V E):S < 2 ^ V.length:=(qin.1 hS).1
theorem vd1 {V:List Int} {E:List (List Int)} (H:HV V E) (hm:(qea V E).length≤1000):qfe ⟨V,E⟩ 1000=some ((qea V E).map (qdd V),0):=by
 have hl:=H.len;have hs:=q3s H.toHG 1000 (by unfold qea at hm;omega);have h:=qks ((qea V E).map fun (S:Nat)=>(S:Int)) (fun (b:List (List Int)) (i:Int)=>(b,i)) (qd4 ⟨V,E⟩ ((qea V E).map fun (S:Nat)=>(S:Int),true)) (fun b S=>b++[qdd V S.toNat]) id (fun k b=>b.length=k) (b0:=[]) (s0:=([],0)) rfl rfl
  (fun k b x hx hk hI=>by
   obtain ⟨S,hS,rfl⟩:=vht.1 (vfn hx);have hk':k < (qea V E).length:=by simpa using hk
   refine ⟨?_,by simp [hI]⟩;simp only [qd4,if_pos (qao hx),qab hx,vgl,q7t V E hl (qf4 hl (vaz hS)),vio,qjf (show b.length+1≤1073741824 by omega) (show 24≤65536 by decide),if_true,wqn k])
  (fun b _=>by simp [qd4])
 have hf:∀(l:List Nat) (b:List (List Int)),(l.map fun (S:Nat)=>(S:Int)).foldl (fun b S=>b++[qdd V S.toNat]) b=b++l.map (qdd V):=by
  intro l
  induction l with
  | nil=>intro b;simp
  | cons x l ih=>intro b;simp [ih]
 rw [hf,id,vfs] at h;unfold qea at h;unfold qfe;simp only [qlz H,vgl,bne_self_eq_false,vei,if_false,hs,if_true,h];rfl
def qsm (V:List Int) (l:List Int) (s:List Int×Bool) (S:Nat):Bool×(List Int×Bool):=if qnc (qdd V S) l > 0 then (false,(qdd V S,true)) else (!s.2,s)
theorem quq (V l:List Int):∀(L R:List Nat),(∀S∈L,¬qnc (qdd V S) l > 0)→qgj (qsm V l) (L++R) ([],false)=qgj (qsm V l) R ([],false)
 | [],R,_=>rfl
 | x :: L,R,h=>by
  have hx:=h x vhr;have e:qsm V l ([],false) x=(true,([],false)):=by unfold qsm;rw [if_neg hx];rfl
  rw [vg7,qgj,e,if_pos rfl];exact quq V l L R fun S hS=>h S (vhq _ hS)
theorem qnt:@qfh=@qbt:=rfl
theorem q6k:@qfg=@qce:=rfl
theorem qur {α β γ:Type} (x:Option (α×β×γ)):(x.bind fun (o:α×β×γ)=>some (o.1,o.2.1,o.2.2))=x:=by cases x <;> rfl
theorem q6l (a:List Int):qnc a a=0:=by unfold qnc;rw [qwt];rfl
open Classical in
theorem va0 {V:List Int} {E:List (List Int)} (H:HV V E) {i S:Nat} (hi:(qea V E)[i]?=some S) :
  qeu ⟨V,E⟩ (qdd V S)=some (match (qea V E)[i+1]? with | some T=>(qdd V T,true,0) | none=>([],false,0)):=by
 have hl:=H.len
 have hsub:=qpg V S
 have hlen:=hsub.length_le
 have hasc:=vji.sublist hsub H.asc
 have h1:=qd6 (qdd V S) (qdr ⟨V,E⟩ (qdd V S)) (fun _=>true) (([]:List Int),false,(1:Int))
  (fun k x hx hk _=>by
   have hxV:x∈V:=hsub.subset (vfn hx)
   have hC:=qfr V x (by omega)
   rw [decide_eq_true hxV] at hC
   simp only [qdr,if_pos (qao hx),qab hx,vgl,wqn k]
   by_cases h0:k=0
   ·subst h0;simp only [vjh,if_neg (show ¬(0:Int) > 0 by omega),hC,vgl,if_true]
   ·have hy:(qdd V S)[k - 1]?=some (qdd V S)[k - 1]:=ve3 (by omega)
    have hw1:vip.wrap ((k:Int) - 1)=((k - 1:Nat):Int):=by rw [wrap_i64 (by omega) (by omega)];omega
    have:=qg1 hasc (show k - 1 < k by omega) hy hx
    rw [if_pos (show (k:Int) > 0 by omega),hw1]
    simp only [qab hy,vgl,if_neg (show ¬x≤(qdd V S)[k - 1] by omega),hC,if_true])
  (fun k x hx hp=>by cases hp) (by simp [qdr])
 have hall:((qdd V S).all fun _=>true)=true:=by simp
 rw [hall,if_pos rfl] at h1
 have hLM:=qqz V.length (msE V E) V.length 0 0
 have hpow:2 ^ V.length≤2 ^ 40:=vkq (by omega) hl
 have hb:(LM V.length (msE V E) V.length 0 0).length≤1099511627776:=vgb hLM hpow
 obtain ⟨hw,_⟩:=qx7 (ST:=List Int×Bool×Int×Int×Int) (OT:=Bool×List Int×Bool) V.length (msE V E) (qsm V (qdd V S)) (qbf ⟨V,E⟩ (qdd V S) (E.map fun e=>((mkE V e:Nat):Int))) (fun s v iN out=>(s.1,s.2,(v:Int),(iN:Int),(out:Int))) (fun b s=>(b,s.1,s.2)) (fun _=>0) 1099511627776
  (fun s x=>vie _)
  (fun rec s v iN out hv hi ho hio hp=>by
   simp only [qbf,qnt,if_neg (show ¬(v:Int) < 0 by omega),if_neg (show ¬(V.length:Int) < 0 by omega),qe3 H.toHG hv hi ho hio,if_pos hp,vgl])
  (fun rec s iN out hi ho hio hp hc=>by
   have hic:(qdd V iN).length≤V.length:=(qpg V iN).length_le
   simp only [qbf,qnt,if_neg (show ¬(V.length:Int) < 0 by omega),qe3 H.toHG (vf9 _) hi ho hio,if_neg hp,vgl,beq_self_eq_true,if_true,q7t V E hl (qf4 hl hi),qm1 (qdd V iN) (qdd V S) (by omega) (by omega),qsm]
   split <;> rfl)
  (fun rec s v iN out hv hi ho hio hp hf=>by
   have e1:=qwu (v:=v) (by omega)
   have hv64:=qf4 (show v≤40 by omega) hi
   have ho64:=qf4 (show v≤40 by omega) ho
   have hp64:2 ^ v < 18446744073709551616:=qf4 (n:=40) (by omega) (vkr (by omega) (by omega))
   have ha64:=qf4 (show v+1≤40 by omega) (qf7 hi)
   have hne:((v:Int) == (V.length:Int))=false:=by rw [beq_eq_false_iff_ne];omega
   simp only [qbf,qnt,if_neg (show ¬(v:Int) < 0 by omega),if_neg (show ¬(V.length:Int) < 0 by omega),qe3 H.toHG (vf8 hv) hi ho hio,if_neg hp,vgl,hne,vei,if_false,vio,e1,q4d hv64 hp64,q4d ho64 hp64,qm3 hi,qm3 ho,qns H.toHG ha64,decide_eq_true hf,if_true,wqn v]
   exact qur _)
  (fun rec s v iN out hv hi ho hio hp hf b s' hr=>by
   have e1:=qwu (v:=v) (by omega)
   have hv64:=qf4 (show v≤40 by omega) hi
   have ho64:=qf4 (show v≤40 by omega) ho
   have hp64:2 ^ v < 18446744073709551616:=qf4 (n:=40) (by omega) (vkr (by omega) (by omega))
   have ha64:=qf4 (show v+1≤40 by omega) (qf7 hi)
   have hne:((v:Int) == (V.length:Int))=false:=by rw [beq_eq_false_iff_ne];omega
   simp only [qbf,qnt,if_neg (show ¬(v:Int) < 0 by omega),if_neg (show ¬(V.length:Int) < 0 by omega),qe3 H.toHG (vf8 hv) hi ho hio,if_neg hp,vgl,hne,vei,if_false,vio,e1,q4d hv64 hp64,q4d ho64 hp64,qm3 hi,qm3 ho,qns H.toHG ha64,decide_eq_false (not_not_intro hf),wqn v,hr]
   cases b with
   | false=>rfl
   | true=>simp only [if_true];exact qur _)
  V.length 0 0 0 64 ([],false) (by omega) (by omega) (by simp) (by simp) (fun i h=>absurd h (vko i)) (qlt fun e he=>qun H.toHG he) (by simpa using hb)
 -- the list
 have hlt:=LM_lt (es:=msE V E) H.asc
 have hil:i < (qea V E).length:=qap hi
 have hSe:S=(qea V E)[i]:=(ve5.1 hi).2.symm
 have hsplit:qea V E=((qea V E).take i++[S])++(qea V E).drop (i+1):=by
  rw [List.append_assoc,List.singleton_append,hSe,←vet hil,vh0]
 have hskip:∀T∈(qea V E).take i++[S],¬qnc (qdd V T) (qdd V S) > 0:=by
  intro T hT
  rcases vfl.1 hT with hT | hT
  ·obtain ⟨k,hk⟩:=vjz.1 hT
   rw [ve9] at hk
   split at hk
   ·rename_i hki
    have hkl:=qap hk
    have hTe:T=(qea V E)[k]:=(ve5.1 hk).2.symm
    have:=vj6.1 hlt k i hkl hil hki
    replace this:ltL (qdd V (qea V E)[k]) (qdd V (qea V E)[i])=true:=this
    rw [←hTe,←hSe] at this
    unfold qnc
    rw [if_pos this];omega
   ·cases hk
  ·simp only [vhw] at hT
   subst hT
   rw [q6l];omega
 have hfold:qgj (qsm V (qdd V S)) (qea V E) ([],false)=match (qea V E)[i+1]? with | some T=>(false,(qdd V T,true)) | none=>(true,([],false)):=by
  conv=>lhs;rw [hsplit,quq V _ _ _ hskip]
  cases hd:(qea V E)[i+1]? with
  | none =>
   have:(qea V E).drop (i+1)=[]:=List.drop_eq_nil_of_le (vjr.1 hd)
   rw [this];rfl
  | some T =>
   have hdl:=qap hd
   have hTe:T=(qea V E)[i+1]:=(ve5.1 hd).2.symm
   have hdr:(qea V E).drop (i+1)=T :: (qea V E).drop (i+2):=by rw [hTe];exact vet hdl
   have:=vj6.1 hlt i (i+1) hil hdl (by omega)
   replace this:ltL (qdd V (qea V E)[i]) (qdd V (qea V E)[i+1])=true:=this
   rw [←hTe,←hSe] at this
   have hc:qnc (qdd V T) (qdd V S)=1:=by
    unfold qnc
    rw [qnq _ _ this,if_neg (by simp),if_pos this]
   have e:qsm V (qdd V S) ([],false) T=(false,(qdd V T,true)):=by unfold qsm;rw [hc,if_pos (by omega)]
   rw [hdr,qgj,e,if_neg (by simp)]
 unfold qea at hfold ⊢
 rw [hfold] at hw
 simp only [vjh] at hw
 unfold qeu
 simp only [qlz H,vgl,bne_self_eq_false,vei,if_false,h1,q6k,qq3 H.toHG,hw]
 cases (LM V.length (msE V E) V.length 0 0)[i+1]? <;> rfl
theorem ql0 (a b:List Int) (ha:a.length≤1000000) (hb:b.length≤1000000):∀(ra rb:List Int) (k:Nat),a.drop k=ra→b.drop k=rb→k≤a.length→k≤b.length →
  qas (qa3 a b) (k:Int)=some (match qnb ra rb with | some r=>.inr r | none=>.inl ())
 | [],rb,k,h1,h2,h3,h4=>by
  have:=qjw h1 h3;subst this;have:qnb [] rb=none:=by unfold qnb;rfl
  rw [this];exact qbp (by simp [qa3])
 | x :: ra,[],k,h1,h2,h3,h4=>by
  have:=qjw h2 h4;have hx:=(qio h1).2.2;exact qbp (by simp only [qa3,if_pos (show (k:Int) < (a.length:Int) by omega),if_neg (show ¬(k:Int) < (b.length:Int) by omega),qnb])
 | x :: ra,y :: rb,k,h1,h2,h3,h4=>by
  obtain ⟨x1,x2,x3⟩:=qio h1;obtain ⟨y1,y2,y3⟩:=qio h2;rw [qnb];by_cases e:x=y
  ·subst e;rw [if_pos rfl,qd1 (s':=((k+1:Nat):Int)) (by simp only [qa3,if_pos (qao x1),if_pos (qao y1),qab x1,qab y1,vgl,bne_self_eq_false,vei,if_false,qfy x3 (show a.length≤4611686018427387904 by omega)])];exact ql0 a b ha hb ra rb (k+1) x2 y2 x3 y3
  ·rw [if_neg e];exact qbp (by
    have:(x != y)=true:=by simpa using e
    simp only [qa3,if_pos (qao x1),if_pos (qao y1),qab x1,qab y1,vgl,this,if_true])
theorem qww (a b:List Int) (ha:a.length≤1000000) (hb:b.length≤1000000):qdj a b=some (ltL a b):=by
 have h:=ql0 a b ha hb a b 0 rfl rfl (vie _) (vie _);have h':qas (qa3 a b) 0=_:=h;unfold qdj;rw [h',vgl,←qyc];cases qnb a b with
 | some r=>rfl
 | none=>simp
theorem va1 (out:List (List Int)) (x:List Int) (hl:out.length≤1000000) (ho:∀y∈out,y.length≤1000000) (hx:x.length≤1000000) (hm:x ∉ out) :
  qas qcd (out++[x],vip.wrap ((((out.length+1):Nat):Int) - 1))=some (q6e out x):=by
 have h:=quh ltL (fun y=>y.length≤1000000) 1000002 qcd (fun p y x suf hn hp hy hx=>by
   obtain ⟨g1,g2⟩:=vat p y x suf;have hw:vip.wrap (((p.length+1:Nat):Int) - 1)=(p.length:Int):=quk (by omega);simp only [qcd,if_pos (show ((p.length+1:Nat):Int) > 0 by omega),hw,qab g1,qab g2,vgl,qww x y hx hy];by_cases hc:ltL x y=true
   ·rw [if_pos hc,if_pos hc];have g3:((p.reverse++y :: x :: suf).set (p.length+1) y)[p.length]?=some y:=by
     rw [List.getElem?_set_ne (by omega)];exact g1
    simp only [vio,qab g3,vgl,vau]
   ·rw [if_neg hc,if_neg hc])
  (fun data=>by simp [qcd]) out.reverse x [] (by simp;omega) (fun z hz=>ho z (by simpa using hz)) hx
 rw [List.reverse_reverse,vjy] at h;rw [quk hl,h];unfold q6e;rw [if_neg hm,ver]
def qus (l:List (List Int)) (i k:Nat) (y x:List Int):Bool:=(y.all fun z=>decide (z∈x)) && (decide (y.length < x.length) || decide (k < i))
def q0b (l:List (List Int)) (i:Nat) (x:List Int):Prop:=∀k y,l[k]?=some y→qus l i k y x=false
theorem va2 (l:List (List Int)) (hl:l.length≤1000) (hs:∀x∈l,x.length≤1000) {i:Nat} {x:List Int} (hi:l[i]?=some x) :
  ∃b,qas (qcc l (i:Int)) (true,0)=some b∧(b=true↔q0b l i x):=by
 have hxl:=hs x (vfn hi);obtain ⟨b,e,hI⟩:=qdf (β:=Bool) l.length (fun b k=>(b,k)) (qcc l (i:Int)) id (fun k b=>b=true↔∀j y,j < k→l[j]?=some y→qus l i j y x=false) (b0:=true) (s0:=(true,0)) rfl (by simp)
  (fun k b hk hI=>by
   have hy:l[k]?=some l[k]:=ve3 hk;have hyl:=hs l[k] (vju hk);have hwr:=wqn k;have hW:=qsl l[k] x hyl hxl;refine ⟨if qus l i k l[k] x=true then false else b,?_,?_⟩
   ·simp only [qcc,if_pos (qao hy),qab hy,qab hi,vgl,hW,hwr,qus];by_cases h0:(l[k].all fun z=>decide (z∈x))=true
    rotate_left
    ·simp only [h0];simp
    ·simp only [h0];by_cases h1:l[k].length < x.length
     ·simp [h1]
     ·by_cases h2:k < i
      ·simp [h1,h2]
      ·simp [h1,h2]
   ·constructor
    ·intro h j y hj hjy;cases hd:qus l i k l[k] x with
     | true=>rw [hd] at h;simp at h
     | false =>
      rw [hd] at h;rcases vkl (vkm.1 hj) with hj | rfl
      ·exact hI.1 (by simpa using h) j y hj hjy
      ·rw [hy] at hjy;cases hjy;exact hd
    ·intro h;rw [h k l[k] (by omega) hy];simp only [vei,if_false];exact hI.2 fun j y hj hjy=>h j y (by omega) hjy)
  (fun b _=>by simp [qcc])
 refine ⟨b,e,hI.trans ?_⟩;exact ⟨fun h k y hk=>h k y (qap hk) hk,fun h j y _ hj=>h j y hj⟩
theorem q6m (l:List (List Int)) (hl:l.length≤1000) (hs:∀x∈l,x.length≤1000):∃E,qd2 l=some E∧vaq E∧E.length≤l.length∧∀z,z∈E↔∃j,l[j]?=some z∧q0b l j z:=by
 obtain ⟨E,e,h1,h2,h3⟩:=qdf (β:=List (List Int)) l.length (fun b k=>(b,k)) (qcw l) id (fun k b=>vaq b∧b.length≤k∧∀z,z∈b↔∃j,j < k∧l[j]?=some z∧q0b l j z) (b0:=[]) (s0:=([],0)) rfl ⟨vji.nil,vf9 _,by simp⟩
  (fun k b hk hI=>by
   obtain ⟨i1,i2,i3⟩:=hI;have hx:l[k]?=some l[k]:=ve3 hk;have hxl:=hs l[k] (vju hk);obtain ⟨kp,e1,e2⟩:=va2 l hl hs hx;have hwr:=wqn k;simp only [qcw,if_pos (qao hx),e1,vgl,qab hx,hwr];cases hkp:kp with
   | true =>
    have hkeep:=e2.1 hkp;have hno:l[k] ∉ b:=fun hm=>by
     obtain ⟨j,j1,j2,j3⟩:=(i3 _).1 hm;have:=hkeep j l[k] j2;simp only [qus,vi6,vjc,decide_eq_false_iff_not] at this;rcases this with h | h
     ·rw [vjk] at h;obtain ⟨z,z1,z2⟩:=h;exact z2 (by simpa using z1)
     ·exact h.2 j1
    have hbl:∀y∈b,y.length≤1000000:=fun y hy=>by
     obtain ⟨j,_,j2,_⟩:=(i3 y).1 hy;have:=hs y (vfn j2);omega
    have hins:=va1 b l[k] (by omega) hbl (by omega) hno;refine ⟨q6e b l[k],?_,q6g _ i1,?_,fun z=>?_⟩
    ·rw [if_pos rfl,if_pos (qls (by omega)),if_pos (qjf (show b.length+1≤1073741824 by omega) (by decide)),hins];rfl
    ·have:=q6h b l[k];omega
    ·rw [q6f,i3];constructor
     ·rintro (⟨j,j1,j2,j3⟩ | rfl)
      ·exact ⟨j,by omega,j2,j3⟩
      ·exact ⟨k,by omega,hx,hkeep⟩
     ·rintro ⟨j,j1,j2,j3⟩;rcases vkl (vkm.1 j1) with h | rfl
      ·exact .inl ⟨j,h,j2,j3⟩
      ·rw [hx] at j2;exact .inr (vih j2).symm
   | false =>
    refine ⟨b,by simp,i1,by omega,fun z=>?_⟩;rw [i3];constructor
    ·rintro ⟨j,j1,j2,j3⟩;exact ⟨j,by omega,j2,j3⟩
    ·rintro ⟨j,j1,j2,j3⟩;rcases vkl (vkm.1 j1) with h | rfl
     ·exact ⟨j,h,j2,j3⟩
     ·rw [hx] at j2;have hz:=vih j2;rw [←hz] at j3;rw [e2.2 j3] at hkp;cases hkp)
  (fun b _=>by simp [qcw])
 refine ⟨E,?_,h1,h2,fun z=>?_⟩
 ·unfold qd2;rw [e,vgl];rfl
 ·rw [h3];exact exists_congr fun j=>⟨fun h=>h.2,fun h=>⟨qap h.1,h⟩⟩
theorem q3u {l:List (List Int)} (ha:∀x∈l,x.Pairwise (· < ·)) {j k:Nat} {a b:List Int} (hj:l[j]?=some a) (hk:l[k]?=some b) (h1:q0b l j a) (h2:q0b l k b) (hne:a≠b):∃x,x∈b∧x ∉ a:=by
 refine Classical.byContradiction fun hno=>?_
 have hsub:∀x∈b,x∈a:=fun x hx=>Classical.byContradiction fun hn=>hno ⟨x,hx,hn⟩
 have nb:b.Nodup:=(ha b (vfn hk)).imp (by intro x y h;omega);have na:a.Nodup:=(ha a (vfn hj)).imp (by intro x y h;omega);have hle:=qly b a nb hsub;have q1:=h1 k b hk;have hall:(b.all fun z=>decide (z∈a))=true:=by simpa using hsub
 simp only [qus,hall,vje,vjc,decide_eq_false_iff_not] at q1;have hlen:b.length=a.length:=by omega
 have hsup:∀x∈a,x∈b:=fun x hx=>Classical.byContradiction fun hn=>by
  have:=qly (x :: b) a (vj3.2 ⟨hn,nb⟩) (fun y hy=>by
   rcases vhp.1 hy with rfl | hy
   ·exact hx
   ·exact hsub y hy)
  simp only [vhe] at this;omega
 have q2:=h2 j a hj;have hall2:(a.all fun z=>decide (z∈b))=true:=by simpa using hsup
 simp only [qus,hall2,vje,vjc,decide_eq_false_iff_not] at q2;have:j=k:=by omega
 subst this;rw [hj] at hk;exact hne (vih hk)
theorem qph {α:Type} {l:List α} (hn:l.Nodup) {i k:Nat} (hi:i < l.length) (hk:k < l.length) (h:l[i]=l[k]):i=k:=by
 rcases vh6 i k with hh | hh | hh
 ·exact absurd h (vj6.1 hn i k hi hk hh)
 ·exact hh
 ·exact absurd h.symm (vj6.1 hn k i hk hi hh)
theorem q6n {V:List Int} {l E:List (List Int)} (hV:V.Pairwise (· < ·)) (hn:V.length≤40) (hl:l.length≤20000) (ha:∀x∈l,x.Pairwise (· < ·)) (hne:∀x∈l,x≠[]) (hs:∀x∈l,∀y∈x,y∈V)
  (h1:vaq E) (h2:E.length≤l.length) (h3:∀z,z∈E↔∃j,l[j]?=some z∧q0b l j z):HV V E:=by
 have hm:∀e∈E,e∈l:=fun e he=>by
  obtain ⟨j,hj,_⟩:=(h3 e).1 he;exact vfn hj
 refine ⟨⟨hV,hn,by omega,fun e he=>ha e (hm e he),fun e he=>hne e (hm e he),fun e he=>hs e (hm e he)⟩,h1,fun i k a b hi hk hik=>?_⟩;obtain ⟨j,j1,j2⟩:=(h3 a).1 (vfn hi);obtain ⟨j',k1,k2⟩:=(h3 b).1 (vfn hk);refine q3u ha j1 k1 j2 k2 fun e=>hik ?_
 subst e;have hnd:=qq1 h1;obtain ⟨hil,hie⟩:=ve5.1 hi;obtain ⟨hkl,hke⟩:=ve5.1 hk;exact (qph hnd hil hkl (hie.trans hke.symm))
theorem va3 (V:List Int) (E:List (List Int)) (hV:V.length≤8) {s:Int} (hs:okI .u8 s):∃e,qei ⟨V,E⟩ s=some e∧e.Sublist V:=by
 obtain ⟨s0,s1⟩:=q7q hs;obtain ⟨n,rfl⟩:=vjf s0;have hw:vg2.wrap (n:Int)=(n:Int):=qxm (by omega) (by omega);obtain ⟨b,e,i1,i2⟩:=qdf (β:=List Int) V.length (fun b i=>(b,i)) (qc6 ⟨V,E⟩ (n:Int)) id (fun k b=>b.Sublist (V.take k)∧b.length≤k) (b0:=[]) (s0:=([],0)) rfl ⟨by simp,by simp⟩
  (fun k b hk hI=>by
   obtain ⟨i1,i2⟩:=hI;have hx:V[k]?=some V[k]:=ve3 hk;have e:V.take (k+1)=V.take k++[V[k]]:=vke hk;simp only [qc6,if_pos (qao hx),if_pos (show (k:Int) < 8 by omega),hw,vao (show n < 4294967296 by omega) (show k < 32 by omega),qab hx,vgl,qls (show b.length+1≤17592186044416 by omega),if_true,wqn k];by_cases h:n.testBit k=true
   ·rw [if_pos h];exact ⟨_,rfl,by rw [e];exact i1.append (List.Sublist.refl _),by simp;omega⟩
   ·rw [if_neg h];exact ⟨b,rfl,by rw [e];exact i1.trans (List.sublist_append_left _ _),by omega⟩)
  (fun b _=>by simp [qc6])
 rw [vkd] at i1;refine ⟨b,?_,i1⟩;unfold qei;rw [e,vgl];rfl
theorem qsn (g:Drossref37_Graph) (hg:qed g):∃V E b,qcj g=some (⟨V,E⟩,b)∧HV V E∧V.length≤8:=by
 obtain ⟨g1,g2⟩:=hg;obtain ⟨n0,n1⟩:=q7q g1;obtain ⟨N,hN⟩:=vjf n0;have hmod:vip.wrap (Int.tmod g.N 9)=((N % 9:Nat):Int):=by
  rw [hN,Int.tmod_eq_emod_of_nonneg (by omega),show ((N:Int) % 9)=((N % 9:Nat):Int) by omega];exact wrap_i64 (by omega) (by omega)
 obtain ⟨V,e1,v1,v2,v3⟩:=qdf (β:=List Int) (N % 9) (fun b i=>(b,i)) (qbq g) id (fun k b=>b.length=k∧b.Pairwise (· < ·)∧∀x∈b,x < 2+3 * (k:Int)) (b0:=[]) (s0:=([],0)) rfl ⟨rfl,vji.nil,by simp⟩
  (fun k b hk hI=>by
   obtain ⟨i1,i2,i3⟩:=hI;have hw3:vip.wrap (2+vip.wrap (3 * (k:Int)))=2+3 * (k:Int):=by
    rw [wrap_i64 (n:=3 * (k:Int)) (by omega) (by omega),wrap_i64 (by omega) (by omega)]
   refine ⟨b++[2+3 * (k:Int)],?_,by simp [i1],?_,fun x hx=>?_⟩
   ·simp only [qbq,hmod,if_pos (show (k:Int) < ((N % 9:Nat):Int) by omega),qls (show b.length+1≤17592186044416 by omega),if_true,hw3,wqn k]
   ·refine vj4.2 ⟨i2,vj8 _ _,fun x hx y hy=>?_⟩;simp only [vhw] at hy;have:=i3 x hx;omega
   ·rcases vfl.1 hx with hx | hx
    ·have:=i3 x hx;omega
    ·simp only [vhw] at hx;omega)
  (fun b _=>by simp only [qbq,hmod,if_neg (show ¬((N % 9:Nat):Int) < ((N % 9:Nat):Int) by omega),id])
 have hVl:V.length≤8:=by omega
 obtain ⟨m,hm⟩:∃m,m=min g.Edges.length 12:=⟨_,rfl⟩;obtain ⟨l,e2,l1,l2⟩:=qdf (β:=List (List Int)) m (fun b i=>(([]:List Int),([]:List (List Int)),([]:List (List Int)),b,i)) (qa7 g V) (fun b=>(⟨[],[]⟩,⟨V,[]⟩,b)) (fun k b=>b.length≤k∧∀x∈b,x.Sublist V∧x≠[]) (b0:=[]) (s0:=([],[],[],[],0)) rfl ⟨vf9 _,by simp⟩
  (fun k b hk hI=>by
   obtain ⟨i1,i2⟩:=hI;have hkl:k < g.Edges.length:=by omega
   have hx:g.Edges[k]?=some g.Edges[k]:=ve3 hkl;obtain ⟨e,p1,p2⟩:=va3 V [] hVl (g2.2 _ (vju hkl));simp only [qa7,if_pos (qao hx),if_pos (show (k:Int) < 12 by omega),qab hx,vgl,p1,qjf (show b.length+1≤1073741824 by omega) (show 24≤65536 by decide),if_true,wqn k];by_cases h:(e.length:Int) > 0
   ·rw [if_pos h];refine ⟨_,rfl,by simp;omega,fun x hx=>?_⟩;rcases vfl.1 hx with hx | hx
    ·exact i2 x hx
    ·simp only [vhw] at hx;subst hx;exact ⟨p2,fun h0=>by rw [h0] at h;simp at h⟩
   ·rw [if_neg h];exact ⟨b,rfl,by omega,i2⟩)
  (fun b _=>by
   by_cases h:m < g.Edges.length
   ·simp only [qa7,if_pos (show (m:Int) < (g.Edges.length:Int) by omega),if_neg (show ¬(m:Int) < 12 by omega)]
   ·simp only [qa7,if_neg (show ¬(m:Int) < (g.Edges.length:Int) by omega)])
 have hll:l.length≤12:=by omega
 obtain ⟨E,e3,E1,E2,E3⟩:=q6m l (by omega) (fun x hx=>by have:=(l2 x hx).1.length_le;omega);refine ⟨V,E,decide ((g.Edges.length:Int)≤12),?_,q6n v2 (by omega) (by omega) (fun x hx=>vji.sublist (l2 x hx).1 v2) (fun x hx=>(l2 x hx).2) (fun x hx y hy=>(l2 x hx).1.subset hy) E1 E2 E3,hVl⟩;unfold qcj;rw [e1,vgl];simp only [id];rw [e2,vgl];simp only [e3,vgl]
def rt (p:List Nat) (i:Nat):Nat:=if h:p.getD i 0 < i then rt p (p.getD i 0) else i
termination_by i
theorem q0c {p:List Nat} {i:Nat} (h:p.getD i 0 < i):rt p i=rt p (p.getD i 0):=by rw [rt,dif_pos h]
theorem qkv {p:List Nat} {i:Nat} (h:¬p.getD i 0 < i):rt p i=i:=by rw [rt,dif_neg h]
theorem q3v (p:List Nat) (i:Nat):rt p i≤i:=by
 induction i using vh8 with
 | _ i ih =>
  by_cases h:p.getD i 0 < i
  ·rw [q0c h];have:=ih _ h;omega
  ·rw [qkv h];exact vf9 _
theorem q3w (p:List Nat) (i:Nat):¬p.getD (rt p i) 0 < rt p i:=by
 induction i using vh8 with
 | _ i ih =>
  by_cases h:p.getD i 0 < i
  ·rw [q0c h];exact ih _ h
  ·rw [qkv h];exact h
theorem ql1 {p:List Nat} {i j v:Nat} (h:i < p.length):(p.set i v).getD j 0=if j=i then v else p.getD j 0:=by
 rw [vha,vjt,vha];by_cases e:i=j
 ·subst e;rw [if_pos rfl,if_pos h,if_pos rfl];rfl
 ·rw [if_neg e,if_neg (Ne.symm e)]
theorem q7u {p:List Nat} {hi lo:Nat} (hl:hi < p.length) (h1:¬p.getD hi 0 < hi) (h2:¬p.getD lo 0 < lo) (h3:lo < hi) (z:Nat):rt (p.set hi lo) z=if rt p z=hi then lo else rt p z:=by
 induction z using vh8 with
 | _ z ih =>
  by_cases hz:z=hi
  ·subst hz;have e1:(p.set z lo).getD z 0=lo:=by rw [ql1 hl,if_pos rfl]
   rw [q0c (by rw [e1];exact h3),e1,qkv (i:=lo) (by rw [ql1 hl,if_neg (by omega)];exact h2),qkv h1,if_pos rfl]
  ·have e1:(p.set hi lo).getD z 0=p.getD z 0:=by rw [ql1 hl,if_neg hz]
   by_cases h:p.getD z 0 < z
   ·rw [q0c (by rw [e1];exact h),e1,ih _ h,q0c h]
   ·rw [qkv (by rw [e1];exact h),qkv h,if_neg hz]
def va4 (p:List Nat) (x y:Nat):List Nat:=p.set (max (rt p x) (rt p y)) (min (rt p x) (rt p y))
structure UF (n:Nat) (p:List Nat):Prop where
 len:p.length=n
 le:∀i,i < n→p.getD i 0≤i
theorem UF.root {n:Nat} {p:List Nat} (h:UF n p) {i:Nat} (hi:i < n):p.getD (rt p i) 0=rt p i:=by
 have h1:=q3w p i;have h2:=h.le (rt p i) (vkk (q3v p i) hi);omega
theorem UF.uni {n:Nat} {p:List Nat} (h:UF n p) {x y:Nat} (hx:x < n) (hy:y < n):UF n (va4 p x y)∧rt (va4 p x y) x=rt (va4 p x y) y∧∀u v,rt p u=rt p v→rt (va4 p x y) u=rt (va4 p x y) v:=by
 have lx:=q3v p x;have ly:=q3v p y;have rx:=h.root hx;have ry:=h.root hy;have fx':=q3w p x;have fy':=q3w p y;unfold va4;rcases vh6 (rt p x) (rt p y) with hlt | heq | hgt
 ·have e1:max (rt p x) (rt p y)=rt p y:=by omega
  have e2:min (rt p x) (rt p y)=rt p x:=by omega
  rw [e1,e2];have hs:=q7u (p:=p) (hi:=rt p y) (lo:=rt p x) (by rw [h.len];omega) fy' fx' hlt;refine ⟨⟨by rw [vfg,h.len],fun i hi=>?_⟩,?_,fun u v huv=>by rw [hs,hs,huv]⟩
  ·rw [ql1 (by rw [h.len];omega)];split
   ·rename_i e;omega
   ·exact h.le i hi
  ·rw [hs,hs,if_neg (by omega),if_pos rfl]
 ·rw [heq];have e1:max (rt p y) (rt p y)=rt p y:=by omega
  have e2:min (rt p y) (rt p y)=rt p y:=by omega
  rw [e1,e2];have:p.set (rt p y) (rt p y)=p:=by
   apply vex;intro j;rw [vjt];by_cases e:rt p y=j
   ·subst e;rw [if_pos rfl,if_pos (by rw [h.len];omega),ve3 (by rw [h.len];omega)];rw [vha,ve3 (by rw [h.len];omega)] at ry;exact congrArg some ry.symm
   ·rw [if_neg e]
  rw [this];exact ⟨h,heq,fun u v e=>e⟩
 ·have e1:max (rt p x) (rt p y)=rt p x:=by omega
  have e2:min (rt p x) (rt p y)=rt p y:=by omega
  rw [e1,e2];have hs:=q7u (p:=p) (hi:=rt p x) (lo:=rt p y) (by rw [h.len];omega) fx' fy' hgt;refine ⟨⟨by rw [vfg,h.len],fun i hi=>?_⟩,?_,fun u v huv=>by rw [hs,hs,huv]⟩
  ·rw [ql1 (by rw [h.len];omega)];split
   ·rename_i e;omega
   ·exact h.le i hi
  ·rw [hs,hs,if_pos rfl,if_neg (by omega)]
def qep (p:List Nat):List Int:=p.map fun (i:Nat)=>(i:Int)
theorem qso {p:List Nat} {i v:Nat} (h:p[i]?=some v):(qep p)[i]?=some (v:Int):=by unfold qep;rw [ve6,h];rfl
theorem qyh {p:List Nat} {i:Nat} (h:i < p.length):p[i]?=some (p.getD i 0):=by rw [vha,ve3 h];rfl
theorem q3x {n:Nat} {p:List Nat} (h:UF n p) (i:Nat) (hi:i < n):qas (qbu (qep p)) (i:Int)=some ((rt p i:Nat):Int):=by
 induction i using vh8 with
 | _ i ih =>
  have hx:=qso (qyh (p:=p) (i:=i) (by rw [h.len];exact hi));by_cases hlt:p.getD i 0 < i
  ·have hne:(((p.getD i 0:Nat):Int) != (i:Int))=true:=by rw [bne_iff_ne];omega
   rw [qd1 (s':=((p.getD i 0:Nat):Int)) (by simp only [qbu,qab hx,vgl,hne,if_true]),ih _ hlt (by omega),q0c hlt]
  ·have he:p.getD i 0=i:=by have:=h.le i hi;omega
   rw [qkv hlt];exact qbp (by simp only [qbu,qab hx,vgl,he,bne_self_eq_false,vei,if_false])
theorem qpi {n:Nat} {p:List Nat} (h:UF n p) {i:Nat} (hi:i < n):qaw (i:Int) (qep p)=some ((rt p i:Nat):Int):=by
 unfold qaw;rw [q3x h i hi];rfl
theorem qsp {V:List Int} {E:List (List Int)} (hV:V.Pairwise (· < ·)) (hl:V.length≤1000) {x:Int} (hx:x∈V):qa9 x ⟨V,E⟩=some ((qfz V x:Nat):Int):=by
 obtain ⟨k,k1,k2,k3,k4⟩:=qq2 V x hV hl;have hp:=(qdy hx).2;have:k=qfz V x:=by
  rcases vh6 k (qfz V x) with h | h | h
  ·have hkl:k < V.length:=by have:=qip hx;omega
   have a:=k4 k V[k] (vf9 _) (ve3 hkl);have b:=qg1 hV h (ve3 hkl) hp;omega
  ·exact h
  ·have:=k3 _ _ h hp;omega
 subst this;simp only [qa9,k1,vgl]
theorem q3y (V:List Int) (E:List (List Int)) (hV:V.length≤40):qas (qbj ⟨V,E⟩) (vfv V.length 0,0)=some (qep (vft V.length)):=by
 obtain ⟨b,e,i⟩:=qdf (β:=List Int) V.length (fun b i=>(b,i)) (qbj ⟨V,E⟩) id (fun k b=>b=qep (vft k)++vfv (V.length - k) 0∧k≤V.length) (b0:=vfv V.length 0) (s0:=(vfv V.length 0,0)) rfl ⟨by simp [qep],vie _⟩
  (fun k b hk hI=>by
   obtain ⟨rfl,_⟩:=hI;have hlen:(qep (vft k)).length=k:=by simp [qep]
   have hr:vfv (V.length - k) (0:Int)=0 :: vfv (V.length - (k+1)) 0:=by
    rw [show V.length - k=(V.length - (k+1))+1 by omega,List.replicate_succ]
   have hx:(qep (vft k)++vfv (V.length - k) 0)[k]?=some (0:Int):=by
    rw [hr,ve1 (by omega),hlen,vib];rfl
   refine ⟨(qep (vft k)++vfv (V.length - k) 0).set k (k:Int),by simp only [qbj,if_pos (show (k:Int) < ((V.length:Nat):Int) by omega),qab hx,vgl,vio,wqn k],?_,by omega⟩;rw [hr,vkb _ _ (by omega),hlen,vib,vhy];unfold qep;rw [vj9,vfi];simp)
  (fun b _=>by simp [qbj])
 rw [e,id,i.1,vib];simp
theorem UF.init (n:Nat):UF n (vft n):=⟨vhi,fun i hi=>by rw [vha,vjs hi];exact vf9 _⟩
theorem q6o (p:List Nat) (i v:Nat):(qep p).set i (v:Int)=qep (p.set i v):=by unfold qep;rw [List.map_set]
theorem va5 (a b:Nat):(if ((b:Nat):Int) > (a:Int) then (b:Int) else (a:Int))=((max a b:Nat):Int):=by split <;> omega
theorem va6 (a b:Nat):(if ((b:Nat):Int) < (a:Int) then (b:Int) else (a:Int))=((min a b:Nat):Int):=by split <;> omega
def qu2 (V:List Int) (p:List Nat) (e:List Int):Prop:=∀x∈e,∀y∈e,rt p (qfz V x)=rt p (qfz V y)
theorem q3z {V:List Int} {E:List (List Int)} (H:HG V E) {e:List Int} (he:e∈E) {p:List Nat} (hp:UF V.length p) :
  ∃p',qas (qbk ⟨V,E⟩ e) (qep p,0)=some (qep p')∧UF V.length p'∧qu2 V p' e∧∀u v,rt p u=rt p v→rt p' u=rt p' v:=by
 have hl:=H.len;have hel:=H.eshort he;have hs:=H.esub e he;have hne:=vjx.2 (H.ene e he);have h0:e[0]?=some e[0]:=ve3 hne;have h0V:=hs _ (vju hne);obtain ⟨D,hD⟩:∃D,D=(e.drop 1).take (e.length - 1):=⟨_,rfl⟩;have hD':D=e.drop 1:=by rw [hD,vfz (by simp)]
 have hDl:D.length=e.length - 1:=by rw [hD',vfc]
 obtain ⟨p',e1,i1,i2,i3⟩:=qdf (β:=List Nat) D.length (fun b i=>(qep b,i)) (qbk ⟨V,E⟩ e) qep (fun k q=>UF V.length q∧(∀j x,j < k→D[j]?=some x→rt q (qfz V e[0])=rt q (qfz V x))∧∀u v,rt p u=rt p v→rt q u=rt q v) (b0:=p) (s0:=(qep p,0)) rfl ⟨hp,fun j x hj=>absurd hj (vko j),fun _ _ h=>h⟩
  (fun k q hk hI=>by
   obtain ⟨i1,i2,i3⟩:=hI;have hx:D[k]?=some D[k]:=ve3 hk;have hxV:D[k]∈V:=by
    have hm:D[k]∈D:=vju hk;generalize D[k]=x0 at hm;rw [hD'] at hm;exact hs _ (vfo hm)
   have px:=qip h0V;have py:=qip hxV;obtain ⟨u1,u2,u3⟩:=i1.uni px py;have lx:=q3v q (qfz V e[0]);have ly:=q3v q (qfz V D[k]);have qag:(qep q)[max (rt q (qfz V e[0])) (rt q (qfz V D[k]))]?=some ((q.getD (max (rt q (qfz V e[0])) (rt q (qfz V D[k]))) 0:Nat):Int):=qso (qyh (by rw [i1.len];omega));refine ⟨va4 q (qfz V e[0]) (qfz V D[k]),?_,u1,fun j x hj hjx=>?_,fun u v h=>u3 u v (i3 u v h)⟩
   ·have hkD:(k:Int) < (((e.drop 1).take (e.length - 1)).length:Int):=by rw [←hD];omega
    have hxD:((e.drop 1).take (e.length - 1))[k]?=some D[k]:=by rw [←hD];exact hx
    simp only [qbk,if_pos hkD,qab hxD,h0,vgl,qsp (E:=E) H.asc (by omega) h0V,qsp (E:=E) H.asc (by omega) hxV,qpi i1 px,qpi i1 py,va5,va6,qab qag,vio,q6o,wqn k];rfl
   ·rcases vkl (vkm.1 hj) with hj | rfl
    ·exact u3 _ _ (i2 j x hj hjx)
    ·rw [hx] at hjx;cases hjx;exact u2)
  (fun b _=>by
   have:¬(D.length:Int) < (((e.drop 1).take (e.length - 1)).length:Int):=by rw [←hD];omega
   simp only [qbk,if_neg this])
 refine ⟨p',e1,i1,?_,i3⟩;have key:∀x∈e,rt p' (qfz V e[0])=rt p' (qfz V x):=by
  intro x hx;obtain ⟨j,hj⟩:=vjz.1 hx;cases j with
  | zero =>
   rw [h0] at hj;cases hj;rfl
  | succ j =>
   have:D[j]?=some x:=by rw [hD',ve2,Nat.add_comm];exact hj
   exact i2 j x (qap this) this
 exact fun x hx y hy=>(key x hx).symm.trans (key y hy)
theorem q0d {V:List Int} {E:List (List Int)} (H:HG V E):∃p,qas (qbl ⟨V,E⟩) (qep (vft V.length),0)=some (qep p)∧UF V.length p∧∀e∈E,qu2 V p e:=by
 have hel:=H.elen;have hl:=H.len;obtain ⟨p,e1,i1,i2⟩:=qdf (β:=List Nat) E.length (fun b i=>(qep b,i)) (qbl ⟨V,E⟩) qep (fun k q=>UF V.length q∧∀j e,j < k→E[j]?=some e→qu2 V q e) (b0:=vft V.length) (s0:=(qep (vft V.length),0)) rfl ⟨UF.init _,fun j e hj=>absurd hj (vko j)⟩
  (fun k q hk hI=>by
   obtain ⟨i1,i2⟩:=hI;have hx:E[k]?=some E[k]:=ve3 hk;have hm:=vju hk;have hne:=vjx.2 (H.ene _ hm);obtain ⟨q',q1,q2,q3,q4⟩:=q3z H hm i1;refine ⟨q',?_,q2,fun j e hj hje=>?_⟩
   ·simp only [qbl,if_pos (qao hx),qab hx,vgl,if_pos (show (1:Int)≤(E[k].length:Int) by omega),q1,wqn k]
   ·rcases vkl (vkm.1 hj) with hj | rfl
    ·exact fun x hx y hy=>q4 _ _ (i2 j e hj hje x hx y hy)
    ·rw [hx] at hje;cases hje;exact q3)
  (fun b _=>by simp [qbl])
 refine ⟨p,e1,i1,fun e he=>?_⟩;obtain ⟨j,hj⟩:=vjz.1 he;exact i2 j e (qap hj) hj
def kSt (p:List Nat) (ks:List Nat) (i:Nat):List Nat:=if rt p i∈ks then ks else ks++[rt p i]
def ksU (p:List Nat) (k:Nat):List Nat:=(vft k).foldl (kSt p) []
theorem qnu (p:List Nat) (k:Nat):ksU p (k+1)=kSt p (ksU p k) k:=by unfold ksU;rw [vj9,List.foldl_append];rfl
theorem qiq (p:List Nat):∀k,(ksU p k).Nodup∧∀r,r∈ksU p k↔∃i,i < k∧rt p i=r
 | 0=>⟨List.nodup_nil,fun r=>by simp [ksU]⟩
 | k+1=>by
  obtain ⟨h1,h2⟩:=qiq p k;rw [qnu];unfold kSt;split
  ·rename_i h;refine ⟨h1,fun r=>?_⟩;rw [h2];constructor
   ·rintro ⟨i,a,b⟩;exact ⟨i,by omega,b⟩
   ·rintro ⟨i,a,b⟩;rcases vkl (vkm.1 a) with a | rfl
    ·exact ⟨i,a,b⟩
    ·rw [←b];exact (h2 _).1 h
  ·rename_i h;refine ⟨List.nodup_append.2 ⟨h1,by simp,fun x hx y hy=>?_⟩,fun r=>?_⟩
   ·simp only [vhw] at hy;subst hy;exact fun e=>h (e ▸ hx)
   ·rw [vfl,h2,vhw];constructor
    ·rintro (⟨i,a,b⟩ | rfl)
     ·exact ⟨i,by omega,b⟩
     ·exact ⟨k,by omega,rfl⟩
    ·rintro ⟨i,a,b⟩;rcases vkl (vkm.1 a) with a | rfl
     ·exact .inl ⟨i,a,b⟩
     ·exact .inr b.symm
theorem qpj (p:List Nat):∀k,(ksU p k).length≤k
 | 0=>by simp [ksU]
 | k+1=>by
  have:=qpj p k;rw [qnu];unfold kSt;split
  ·omega
  ·simp;omega
def vcU (V:List Int) (p:List Nat) (k r:Nat):List Int:=((vft k).filter fun i=>decide (rt p i=r)).map fun i=>V.getD i 0
theorem qnv (V:List Int) (p:List Nat) (k r:Nat):vcU V p (k+1) r=if rt p k=r then vcU V p k r++[V.getD k 0] else vcU V p k r:=by
 unfold vcU;rw [vj9,vjn,vfi];by_cases h:rt p k=r <;> simp [h]
theorem qms (V:List Int) (p:List Nat) (k r:Nat):(vcU V p k r).length≤k:=by
 unfold vcU;rw [vfd];exact vgb (vhg _ _) (by simp)
theorem va7 (V:List Int) (p:List Nat) {k r:Nat} (h:∀i,i < k→rt p i≠r):vcU V p k r=[]:=by
 unfold vcU;have:(vft k).filter (fun i=>decide (rt p i=r))=[]:=by
  rw [List.filter_eq_nil_iff];intro i hi;simpa using h i (vhv.1 hi)
 rw [this];rfl
def qsq (ks:List Nat) (r:Nat):Nat:=ks.idxOf r
theorem qjy {ks:List Nat} {r:Nat} (h:r∈ks):ks[qsq ks r]?=some r:=by
 unfold qsq;have:=vjw.2 h;rw [ve3 this,List.getElem_idxOf]
theorem qwx {ks:List Nat} {r:Nat} (h:r∈ks):qsq ks r < ks.length:=vjw.2 h
theorem qpk {ks:List Nat} (hn:ks.Nodup) {j r:Nat} (h:ks[j]?=some r):qsq ks r=j:=by
 obtain ⟨h1,h2⟩:=ve5.1 h;have hr:r∈ks:=h2 ▸ vju h1;obtain ⟨h3,h4⟩:=ve5.1 (qjy hr);exact qph hn h3 h1 (h4.trans h2.symm)
theorem q6p {ks:List Nat} {r s:Nat} (h:r∈ks):qsq (ks++[s]) r=qsq ks r:=by unfold qsq;rw [vjv,if_pos h]
theorem q6q {ks:List Nat} {r:Nat} (h:r ∉ ks):qsq (ks++[r]) r=ks.length:=by
 unfold qsq;rw [vjv,if_neg h];simp
theorem q0e {V:List Int} {E:List (List Int)} (hl:V.length≤40) {p:List Nat} (hp:UF V.length p) :
  ∃ix,qas (qa4 ⟨V,E⟩ (qep p)) ([],[],0)=some ((ksU p V.length).map (vcU V p V.length),ix)∧∀r,qk2 ix ((r:Nat):Int)=if r∈ksU p V.length then some ((qsq (ksU p V.length) r:Nat):Int) else none:=by
 obtain ⟨⟨b,ix⟩,e,i1,i2⟩:=qdf (β:=List (List Int)×List (Int×Int)) V.length (fun b i=>(b.1,b.2,i)) (qa4 ⟨V,E⟩ (qep p)) id (fun k b=>b.1=(ksU p k).map (vcU V p k)∧∀r,qk2 b.2 ((r:Nat):Int)=if r∈ksU p k then some ((qsq (ksU p k) r:Nat):Int) else none) (b0:=([],[])) (s0:=([],[],0)) rfl ⟨by simp [ksU],fun r=>by simp [ksU,qk2]⟩
  (fun k b hk hI=>by
   obtain ⟨b1,b2⟩:=b;obtain ⟨i1,i2⟩:=hI;simp only at i1 i2;have hx:V[k]?=some V[k]:=ve3 hk;have hxD:V.getD k 0=V[k]:=by rw [vha,hx];rfl
   have hb1:b1.length=(ksU p k).length:=by rw [i1,vfd]
   have hkl:=qpj p k;obtain ⟨n1,n2⟩:=qiq p k;have hwr:=wqn k;by_cases hm:rt p k∈ksU p k
   ·have hg:=i2 (rt p k);rw [if_pos hm] at hg;have hbx:b1[qsq (ksU p k) (rt p k)]?=some (vcU V p k (rt p k)):=by rw [i1,ve6,qjy hm];rfl
    have hvl:=qms V p k (rt p k);have ek:ksU p (k+1)=ksU p k:=by rw [qnu];unfold kSt;rw [if_pos hm]
    refine ⟨(b1.set (qsq (ksU p k) (rt p k)) (vcU V p k (rt p k)++[V[k]]),b2),?_,?_,by rw [ek];exact i2⟩
    ·simp only [qa4,if_pos (qao hx),qab hx,vgl,qpi hp hk,hg,Option.isSome_some,if_true,vgn,qab hbx,qls (show (vcU V p k (rt p k)).length+1≤17592186044416 by omega),vio,hwr]
    ·rw [ek];apply vex;intro j;rw [vjt,ve6];by_cases e:qsq (ksU p k) (rt p k)=j
     ·subst e;rw [if_pos rfl,if_pos (by rw [hb1];exact qwx hm),qjy hm,vgq,qnv,if_pos rfl,hxD]
     ·rw [if_neg e,i1,ve6];cases hj:(ksU p k)[j]? with
      | none=>rfl
      | some r =>
       have hne:rt p k≠r:=fun h=>e (by rw [h];exact qpk n1 hj)
       rw [vgq,vgq,qnv,if_neg hne]
   ·have hg:=i2 (rt p k);rw [if_neg hm] at hg;have ek:ksU p (k+1)=ksU p k++[rt p k]:=by rw [qnu];unfold kSt;rw [if_neg hm]
    have hnil:vcU V p k (rt p k)=[]:=va7 V p fun i hi h=>hm ((n2 _).2 ⟨i,hi,h⟩)
    have hmm:qk2 (qp0 b2 ((rt p k:Nat):Int) ((b1.length:Nat):Int)) ((rt p k:Nat):Int)=some ((b1.length:Nat):Int):=by rw [quf,if_pos rfl]
    have hbx:(b1++[([]:List Int)])[b1.length]?=some []:=by rw [ve1 (vf9 _),vib];rfl
    refine ⟨((b1++[([]:List Int)]).set b1.length ([]++[V[k]]),qp0 b2 ((rt p k:Nat):Int) ((b1.length:Nat):Int)),?_,?_,fun r=>?_⟩
    ·simp only [qa4,if_pos (qao hx),qab hx,vgl,qpi hp hk,hg,Option.isSome_none,vei,if_false,hmm,vgn,qab hbx,qjf (show b1.length+1≤1073741824 by omega) (show 48≤65536 by decide),qls (show ([]:List Int).length+1≤17592186044416 by simp),if_true,vio,hwr]
    ·show (b1++[([]:List Int)]).set b1.length ([]++[V[k]])=_;have e1:b1=(ksU p k).map (vcU V p (k+1)):=by
      rw [i1];refine List.map_congr_left fun r hr=>?_
      have hne:rt p k≠r:=fun h=>hm (by rw [h];exact hr)
      rw [qnv,if_neg hne]
     have e2:vcU V p (k+1) (rt p k)=[]++[V[k]]:=by rw [qnv,if_pos rfl,hnil,hxD]
     rw [ek,vfi,vkb _ _ (vf9 _),vib,vhy,←e1,List.map_cons,List.map_nil,e2]
    ·rw [quf,ek];by_cases hr:r=rt p k
     ·subst hr;rw [if_pos rfl,if_pos (by simp),q6q hm,hb1]
     ·rw [if_neg (by omega),i2];by_cases hr2:r∈ksU p k
      ·rw [if_pos hr2,if_pos (by simp [hr2]),q6p hr2]
      ·rw [if_neg hr2,if_neg (by simp [hr2,hr])])
  (fun b _=>by simp [qa4])
 exact ⟨ix,by rw [e,id,←i1],i2⟩
def ecU (V:List Int) (p:List Nat) (E:List (List Int)) (r:Nat):List (List Int):=E.filter fun e=>decide (rt p (qfz V (e.headD 0))=r)
theorem qpl {e:List Int} (h:e≠[]):e[0]?=some (e.headD 0):=by cases e with
 | nil=>exact absurd rfl h
 | cons x r=>rfl
theorem q30 (l:List Int) (h:l.length≤1000):qc7 l=some l:=qp5 l (by omega)
theorem qwy {V:List Int} {E:List (List Int)} (H:HG V E) {p:List Nat} (hp:UF V.length p) {ix:List (Int×Int)} (hix:∀r,qk2 ix ((r:Nat):Int)=if r∈ksU p V.length then some ((qsq (ksU p V.length) r:Nat):Int) else none) :
  qas (qbm ⟨V,E⟩ (qep p) ix) (vfv (ksU p V.length).length [],0)=some ((ksU p V.length).map (ecU V p E)):=by
 have hl:=H.len;have hel:=H.elen;obtain ⟨n1,n2⟩:=qiq p V.length;obtain ⟨b,e,i1⟩:=qdf (β:=List (List (List Int))) E.length (fun b i=>(b,i)) (qbm ⟨V,E⟩ (qep p) ix) id (fun k b=>b=(ksU p V.length).map (ecU V p (E.take k))) (b0:=vfv (ksU p V.length).length []) (s0:=(vfv (ksU p V.length).length [],0)) rfl (by
   apply vex;intro j;rw [ve6,List.getElem?_replicate];by_cases h:j < (ksU p V.length).length
   ·rw [if_pos h,ve3 h];simp [ecU]
   ·rw [if_neg h,List.getElem?_eq_none (by omega)];rfl)
  (fun k b hk hI=>by
   have hx:E[k]?=some E[k]:=ve3 hk;have hm:=vju hk;have hne:=H.ene _ hm;have hh:=qpl hne;have hhV:=H.esub _ hm _ (vfn hh);have hpl:=qip hhV;have hsh:=H.eshort hm;have hr:rt p (qfz V (E[k].headD 0))∈ksU p V.length:=(n2 _).2 ⟨_,hpl,rfl⟩;have hg:=hix (rt p (qfz V (E[k].headD 0)));rw [if_pos hr] at hg;have hbx:b[qsq (ksU p V.length) (rt p (qfz V (E[k].headD 0)))]?=some (ecU V p (E.take k) (rt p (qfz V (E[k].headD 0)))):=by rw [hI,ve6,qjy hr];rfl
   have hel2:(ecU V p (E.take k) (rt p (qfz V (E[k].headD 0)))).length≤20000:=vgb (vhg _ _) (by rw [vfh];omega);have et:E.take (k+1)=E.take k++[E[k]]:=vke hk;refine ⟨b.set (qsq (ksU p V.length) (rt p (qfz V (E[k].headD 0)))) (ecU V p (E.take k) (rt p (qfz V (E[k].headD 0)))++[E[k]]),?_,?_⟩
   ·simp only [qbm,if_pos (qao hx),qab hx,vgl,hh,qsp (E:=E) H.asc (by omega) hhV,qpi hp hpl,hg,vgn,qab hbx,q30 E[k] (by omega),qjf (show (ecU V p (E.take k) (rt p (qfz V (E[k].headD 0)))).length+1≤1073741824 by omega) (show 24≤65536 by decide),if_true,vio,wqn k]
   ·apply vex;intro j;rw [vjt,ve6];by_cases e:qsq (ksU p V.length) (rt p (qfz V (E[k].headD 0)))=j
    ·subst e;rw [if_pos rfl,if_pos (by rw [hI,vfd];exact qwx hr),qjy hr,vgq];unfold ecU;rw [et,vjn];simp
    ·rw [if_neg e,hI,ve6];cases hj:(ksU p V.length)[j]? with
     | none=>rfl
     | some r =>
      have hne2:rt p (qfz V (E[k].headD 0))≠r:=fun h=>e (by rw [h];exact qpk n1 hj)
      rw [vgq,vgq];unfold ecU;rw [et,vjn];have hd:decide (rt p (qfz V (E[k].headD 0))=r)=false:=decide_eq_false hne2;rw [List.filter_cons_of_neg (by rw [hd];simp),List.filter_nil,ver])
  (fun b _=>by simp [qbm])
 rw [e,id,i1,vkd]
theorem ql2 {V:List Int} {E:List (List Int)} (H:HG V E):∃p,UF V.length p∧(∀e∈E,qu2 V p e)∧qba ⟨V,E⟩=some ((ksU p V.length).map fun r=>⟨vcU V p V.length r,ecU V p E r⟩):=by
 have hl:=H.len;obtain ⟨p,p1,p2,p3⟩:=q0d H;obtain ⟨ix,x1,x2⟩:=q0e (E:=E) hl p2;refine ⟨p,p2,p3,?_⟩;have hin:=q3y V E hl;have hec:=qwy H p2 x2;unfold qba;simp only [if_pos (show (0:Int)≤(V.length:Int) by omega),qls (show V.length≤17592186044416 by omega),if_true,hin,p1,x1,vgl,vfd,hec];congr 1;rw [List.zipWith_map];generalize ksU p V.length=l
 induction l with
 | nil=>rfl
 | cons x l ih=>simp [ih]
theorem qq4 (q:Nat→Bool):∀(n v:Nat),v < n→q v=true→((vft n).filter q)[((vft v).filter q).length]?=some v
 | 0,v,h,_=>absurd h (vko v)
 | n+1,v,h,hq=>by
  rw [vj9,vjn];rcases vkl (vkm.1 h) with h | rfl
  ·have ih:=qq4 q n v h hq;rw [ve0 (qap ih)];exact ih
  ·rw [ve1 (vf9 _),vib];simp [hq]
def q31 (p:List Nat) (n r:Nat):List Nat:=(vft n).filter fun i=>decide (rt p i=r)
def qpp (p:List Nat) (v:Nat):Nat:=((vft v).filter fun i=>decide (rt p i=rt p v)).length
def qhy (p:List Nat) (n v:Nat):Nat:=qsq (ksU p n) (rt p v)
def verC (p:List Nat) (n k j:Nat):Nat:=(q31 p n ((ksU p n).getD k 0)).getD j 0
def szC (p:List Nat) (n:Nat):List Nat:=(ksU p n).map fun r=>(q31 p n r).length
theorem qnw (p:List Nat) {n v:Nat} (h:v < n):(q31 p n (rt p v))[qpp p v]?=some v:=qq4 (fun i=>decide (rt p i=rt p v)) n v h (by simp)
theorem ql3 {p:List Nat} {n r i:Nat}:i∈q31 p n r↔i < n∧rt p i=r:=by unfold q31;rw [vhs,vhv];simp
theorem q0f (p:List Nat) (n r:Nat):(q31 p n r).Nodup:=List.nodup_range.filter _
theorem q7v {p:List Nat} {n v:Nat} (h:v < n):rt p v∈ksU p n:=((qiq p n).2 _).2 ⟨v,h,rfl⟩
theorem qq5 {p:List Nat} {n v:Nat} (h:v < n):(ksU p n)[qhy p n v]?=some (rt p v):=qjy (q7v h)
theorem va8 {p:List Nat} {n v:Nat} (h:v < n):(ksU p n).getD (qhy p n v) 0=rt p v:=by rw [vha,qq5 h];rfl
theorem qut {p:List Nat} {n k r:Nat} (h:(ksU p n)[k]?=some r):(szC p n).getD k 0=(q31 p n r).length:=by
 unfold szC;rw [vha,ve6,h];rfl
theorem quu (p:List Nat) (n:Nat):Parts n (szC p n) (qhy p n) (qpp p) (verC p n):=by
 have hsl:(szC p n).length=(ksU p n).length:=by unfold szC;rw [vfd]
 refine ⟨fun v hv=>?_,fun v hv=>?_,fun v hv=>?_,fun k j hk hj=>?_⟩
 ·rw [hsl];exact qwx (q7v hv)
 ·rw [qut (qq5 hv)];exact qap (qnw p hv)
 ·unfold verC;rw [va8 hv,vha,qnw p hv];rfl
 ·rw [hsl] at hk;obtain ⟨r,hr⟩:∃r,(ksU p n)[k]?=some r:=⟨_,ve3 hk⟩;rw [qut hr] at hj;have hkd:(ksU p n).getD k 0=r:=by rw [vha,hr];rfl
  have hg:(q31 p n r)[j]?=some (verC p n k j):=by
   unfold verC;rw [hkd,vha,ve3 hj];rfl
  obtain ⟨h1,h2⟩:=ql3.1 (vfn hg);refine ⟨h1,?_,?_⟩
  ·unfold qhy;rw [h2];exact qpk (qiq p n).1 hr
  ·have hp:=qnw p h1;rw [h2] at hp;obtain ⟨a1,a2⟩:=ve5.1 hp;obtain ⟨b1,b2⟩:=ve5.1 hg;exact qph (q0f p n r) a1 b1 (a2.trans b2.symm)
theorem q6r (V:List Int) (p:List Nat) (r:Nat):vcU V p V.length r=(q31 p V.length r).map fun i=>V.getD i 0:=rfl
theorem ql4 {V:List Int} {i:Nat} (h:i < V.length):V[i]?=some (V.getD i 0):=by rw [vha,ve3 h];rfl
theorem q32 (V:List Int) (p:List Nat) (r:Nat):(vcU V p V.length r).length=(q31 p V.length r).length:=by rw [q6r,vfd]
theorem qyi {V:List Int} (hV:V.Pairwise (· < ·)) (p:List Nat) (r:Nat):(vcU V p V.length r).Pairwise (· < ·):=by
 rw [q6r,List.pairwise_map];have:(q31 p V.length r).Pairwise (· < ·):=vji.filter _ List.pairwise_lt_range;refine vji.imp_of_mem ?_ this;intro a b ha hb hab;exact qg1 hV hab (ql4 (ql3.1 ha).1) (ql4 (ql3.1 hb).1)
theorem q33 {V:List Int} {p:List Nat} {r:Nat} {x:Int}:x∈vcU V p V.length r↔∃i,V[i]?=some x∧rt p i=r:=by
 rw [q6r,vht];constructor
 ·rintro ⟨i,h1,rfl⟩;obtain ⟨h2,h3⟩:=ql3.1 h1;exact ⟨i,ql4 h2,h3⟩
 ·rintro ⟨i,h1,h2⟩;have hl:=qap h1;refine ⟨i,ql3.2 ⟨hl,h2⟩,?_⟩;have:=ql4 hl;rw [h1] at this;exact (vih this).symm
theorem qyj {V:List Int} {p:List Nat} {v:Nat} (h:v < V.length):(vcU V p V.length (rt p v))[qpp p v]?=some (V.getD v 0):=by
 rw [q6r,ve6,qnw p h];rfl
theorem qq6 {V:List Int} {p:List Nat} {E:List (List Int)} {r:Nat} {e:List Int}:e∈ecU V p E r↔e∈E∧rt p (qfz V (e.headD 0))=r:=by unfold ecU;rw [vhs];simp
theorem quv {V:List Int} {E:List (List Int)} (H:HG V E) {p:List Nat} (hone:∀e∈E,qu2 V p e) {r:Nat} {e:List Int} (he:e∈ecU V p E r):∀x∈e,x∈vcU V p V.length r:=by
 intro x hx;obtain ⟨h1,h2⟩:=qq6.1 he;have hh:e.headD 0∈e:=vfn (qpl (H.ene e h1));have:=hone e h1 x hx _ hh;exact q33.2 ⟨qfz V x,(qdy (H.esub e h1 x hx)).2,this.trans h2⟩
theorem q34 {V:List Int} {E:List (List Int)} (H:HG V E) {p:List Nat} (hone:∀e∈E,qu2 V p e) (r:Nat):HG (vcU V p V.length r) (ecU V p E r):=by
 have h1:=qms V p V.length r;have h2:(ecU V p E r).length≤E.length:=vhg _ _;have hl:=H.len;have hel:=H.elen;exact ⟨qyi H.asc p r,by omega,by omega,fun e he=>H.easc e (qq6.1 he).1,fun e he=>H.ene e (qq6.1 he).1,fun e he=>quv H hone he⟩
def vbq (V:List Int) (p:List Nat) (E:List (List Int)):List (List Nat):=(ksU p V.length).map fun r=>msE (vcU V p V.length r) (ecU V p E r)
theorem qyk {V:List Int} {E:List (List Int)} (H:HG V E) {p:List Nat} (hone:∀e∈E,qu2 V p e) {k r:Nat} (hr:(ksU p V.length)[k]?=some r) {e:List Int} (he:e∈ecU V p E r) :
  relM V.length (qhy p V.length) (qpp p) k (mkE V e) (mkE (vcU V p V.length r) e):=by
 have he1:=(qq6.1 he).1;intro i;rw [qmr H.asc (H.esub e he1)];constructor
 ·rintro ⟨x,hx,hi⟩;have hil:=qap hi;obtain ⟨i',a1,a2⟩:=q33.1 (quv H hone he x hx);have hii:i'=i:=by
   have c1:=(qnr H.asc (H.esub e he1 x hx) i').2 a1;have c2:=(qnr H.asc (H.esub e he1 x hx) i).2 hi;omega
  subst hii;refine ⟨hil,?_,?_⟩
  ·unfold qhy;rw [a2];exact qpk (qiq p V.length).1 hr
  ·rw [qmr (qyi H.asc p r) (quv H hone he)];refine ⟨x,hx,?_⟩;have:=qyj (p:=p) hil;rw [a2] at this;rw [this,←hi];exact (ql4 hil).symm
 ·rintro ⟨h1,h2,h3⟩;have hg:=qq5 (p:=p) h1;rw [h2,hr] at hg;have hrt:=vih hg;rw [qmr (qyi H.asc p r) (quv H hone he)] at h3;obtain ⟨x,hx,hj⟩:=h3;have:=qyj (p:=p) h1;rw [←hrt,hj] at this;exact ⟨x,hx,by rw [ql4 h1,←this]⟩
theorem qwz {V:List Int} {E:List (List Int)} (H:HG V E) {p:List Nat} (hone:∀e∈E,qu2 V p e):PEdges V.length (szC p V.length) (qhy p V.length) (qpp p) (msE V E) (vbq V p E):=by
 refine ⟨by unfold vbq szC;rw [vfd,vfd],fun m hm=>?_,fun k fs hfs f hf=>?_⟩
 ·obtain ⟨e,he,rfl⟩:=qfi.1 hm;have hh:e.headD 0∈e:=vfn (qpl (H.ene e he));have hpl:=qip (H.esub e he _ hh);have hec:e∈ecU V p E (rt p (qfz V (e.headD 0))):=qq6.2 ⟨he,rfl⟩;have hk:=qq5 (p:=p) hpl;refine ⟨qhy p V.length (qfz V (e.headD 0)),_,by unfold vbq;rw [ve6,hk];rfl,mkE (vcU V p V.length (rt p (qfz V (e.headD 0)))) e,qfi.2 ⟨e,hec,rfl⟩,qyk H hone hk hec⟩
 ·unfold vbq at hfs;rw [ve6] at hfs;obtain ⟨r,hr,rfl⟩:=vgp.1 hfs;obtain ⟨e,he,rfl⟩:=qfi.1 hf;refine ⟨?_,mkE V e,qfi.2 ⟨e,(qq6.1 he).1,rfl⟩,qyk H hone hr he⟩;rw [qut hr,←q32];exact qyf (quv H hone he)
def qj1 (V:List Int) (p:List Nat) (E:List (List Int)) (r:Nat):List Nat:=LM (vcU V p V.length r).length (msE (vcU V p V.length r) (ecU V p E r)) (vcU V p V.length r).length 0 0
def qha (V:List Int) (p:List Nat) (E:List (List Int)):List (List Nat):=(ksU p V.length).map (qj1 V p E)
theorem qw0 (V:List Int) (p:List Nat) (E:List (List Int)):qha V p E=q7o (szC p V.length) (vbq V p E):=by
 apply vex;intro k;rw [qsh];unfold qha vbq;rw [ve6,ve6];cases hr:(ksU p V.length)[k]? with
 | none=>rfl
 | some r =>
  simp only [vgq];rw [qut hr,←q32];rfl
theorem ql5 {V:List Int} {E:List (List Int)} (H:HG V E) {p:List Nat} (hone:∀e∈E,qu2 V p e):qa2 (qha V p E)=(qea V E).length:=by
 rw [qw0];exact (q3m (quu p V.length) (qwz H hone)).symm
theorem qyl {V:List Int} {E:List (List Int)} (H:HG V E) {p:List Nat} (hone:∀e∈E,qu2 V p e):Fam V.length (szC p V.length) (qhy p V.length) (qpp p) 0 0 (qha V p E):=by
 rw [qw0];exact qsi (quu p V.length) (qwz H hone)
theorem q6s {V:List Int} {E:List (List Int)} (H:HG V E) {p:List Nat} (hone:∀e∈E,qu2 V p e) {i:Nat} (hi:i < (qea V E).length) :
  (qea V E)[i]?=some (q7p (qhy p V.length) (qpp p) V.length 0 0 (qha V p E) i):=by
 have h1:=qsj (quu p V.length) V.length 0 0 (qha V p E) i (by omega) (by simp) (qyl H hone) (by rw [ql5 H hone];exact hi);rw [qw0] at h1 ⊢;rw [qx8 (quu p V.length) (qwz H hone)] at h1;exact h1
theorem q6t {V:List Int} {E:List (List Int)} (H:HG V E) {p:List Nat} (hone:∀e∈E,qu2 V p e) (r:Nat):qj1 V p E r≠[]:=by
 have HP:=q34 H hone r;obtain ⟨T,hT,_⟩:=qsg (n:=(vcU V p V.length r).length) (es:=msE (vcU V p V.length r) (ecU V p E r)) (S:=0) (vks (by omega)) (qlt fun e he=>qun HP he);exact vj2 hT
theorem quw (a b:List (List Nat)):qa2 (a++b)=qa2 a * qa2 b:=by
 induction a with
 | nil=>simp [qa2]
 | cons x a ih=>simp only [vg7,qa2,ih,Nat.mul_assoc]
theorem q35 {F:List (List Nat)} (hne:∀l∈F,l≠[]) (k:Nat):qa2 (F.take k)≤qa2 F:=by
 have h:qa2 F=qa2 (F.take k) * qa2 (F.drop k):=by rw [←quw,vh0]
 have hp:0 < qa2 (F.drop k):=qpa.2 fun l hl=>hne l (vfo hl)
 rw [h];exact vkj _ hp
theorem qw1 {V:List Int} {E:List (List Int)} (hV:V.length≤8):(qea V E).length≤256:=by
 have h:=qqz V.length (msE V E) V.length 0 0;have:2 ^ V.length≤2 ^ 8:=vkq (by omega) hV;exact vgb h this
theorem qux {V:List Int} {E:List (List Int)} (H:HG V E) (hV:V.length≤8) {p:List Nat} (hone:∀e∈E,qu2 V p e) (r:Nat):qcr ⟨vcU V p V.length r,ecU V p E r⟩ 100000=some (qep (qj1 V p E r),true)∧(qj1 V p E r).length≤256:=by
 have HP:=q34 H hone r;have h1:=qms V p V.length r;have h:=qqz (vcU V p V.length r).length (msE (vcU V p V.length r) (ecU V p E r)) (vcU V p V.length r).length 0 0;have h2:2 ^ (vcU V p V.length r).length≤2 ^ 8:=vkq (by omega) (by omega);have h3:(qj1 V p E r).length≤256:=vgb h h2;refine ⟨?_,h3⟩;rw [q3s HP 100000 (by unfold qj1 at h3;omega)];rfl
def qew (V:List Int) (p:List Nat) (E:List (List Int)):List Hypergraph:=(ksU p V.length).map fun r=>⟨vcU V p V.length r,ecU V p E r⟩
theorem qq7 {V:List Int} {E:List (List Int)} (H:HG V E) (hV:V.length≤8) {p:List Nat} (hone:∀e∈E,qu2 V p e) {k:Nat} (hk:k < (ksU p V.length).length) :
  ∃r,(qew V p E)[k]?=some ⟨vcU V p V.length r,ecU V p E r⟩∧(qha V p E)[k]?=some (qj1 V p E r)∧(qha V p E).take (k+1)=(qha V p E).take k++[qj1 V p E r] ∧
   vip.wrap (((qa2 ((qha V p E).take k):Nat):Int) * ((qj1 V p E r).length:Int))=((qa2 ((qha V p E).take (k+1)):Nat):Int)∧qa2 ((qha V p E).take (k+1))≤256:=by
 have hr:(ksU p V.length)[k]?=some (ksU p V.length)[k]:=ve3 hk;have hf:(qha V p E)[k]?=some (qj1 V p E (ksU p V.length)[k]):=by unfold qha;rw [ve6,hr];rfl
 have ht:(qha V p E).take (k+1)=(qha V p E).take k++[qj1 V p E (ksU p V.length)[k]]:=by
  rw [vke (qap hf)];rw [ve3 (qap hf)] at hf;rw [vih hf]
 have hne:∀l∈qha V p E,l≠[]:=fun l hl=>by
  unfold qha at hl;obtain ⟨r,_,rfl⟩:=vht.1 hl;exact q6t H hone r
 have hb:qa2 ((qha V p E).take (k+1))≤256:=vgb (q35 hne _) (by rw [ql5 H hone];exact qw1 hV);have hp:qa2 ((qha V p E).take (k+1))=qa2 ((qha V p E).take k) * (qj1 V p E (ksU p V.length)[k]).length:=by rw [ht,quw];simp [qa2]
 refine ⟨(ksU p V.length)[k],by unfold qew;rw [ve6,hr];rfl,hf,ht,?_,hb⟩;rw [←vjg,←hp];exact wrap_i64 (by omega) (by omega)
theorem q0g {V:List Int} {E:List (List Int)} (H:HG V E) (hV:V.length≤8) {p:List Nat} (hone:∀e∈E,qu2 V p e):qas (qcm (qew V p E)) ([],1,0)=some (.inl ((qha V p E).map qep,((qa2 (qha V p E):Nat):Int))):=by
 have hkl:=qpj p V.length;have hfl:(qha V p E).length=(ksU p V.length).length:=by unfold qha;rw [vfd]
 have hcl:(qew V p E).length=(ksU p V.length).length:=by unfold qew;rw [vfd]
 obtain ⟨b,e,i1⟩:=qdf (β:=Nat) (ksU p V.length).length (fun b i=>(((qha V p E).take b).map qep,((qa2 ((qha V p E).take b):Nat):Int),i)) (qcm (qew V p E)) (fun b=>(.inl (((qha V p E).take b).map qep,((qa2 ((qha V p E).take b):Nat):Int)):(List (List Int)×Int) ⊕ (List Hypergraph×List (List Int)×Int×Int))) (fun k b=>b=k) (b0:=0) (s0:=([],1,0)) (by simp [qa2]) rfl
  (fun k b hk hI=>by
   subst hI;obtain ⟨r,c1,c2,c3,c4,c5⟩:=qq7 H hV hone hk;obtain ⟨s1,s2⟩:=qux H hV hone r;have hll:(((qha V p E).take b).map qep).length≤b:=by rw [vfd,vfh];omega
   have hil:((qep (qj1 V p E r)).length:Int)=((qj1 V p E r).length:Int):=by unfold qep;rw [vfd]
   refine ⟨b+1,?_,rfl⟩;simp only [qcm,if_pos (qao c1),qab c1,vgl,s1,if_true,qjf (show (((qha V p E).take b).map qep).length+1≤1073741824 by omega) (show 24≤65536 by decide),hil,c4,if_neg (show ¬(((qa2 ((qha V p E).take (b+1)):Nat):Int) > 1000000000000000) by omega),wqn b];rw [c3,vfi];rfl)
  (fun b _=>by simp [qcm,hcl])
 subst i1;rw [e];rw [vfz (by omega)]
theorem q6u {V:List Int} {E:List (List Int)} (H:HV V E) (hV:V.length≤8):qej ⟨V,E⟩=some (((qea V E).length:Int),0):=by
 obtain ⟨p,p1,p2,p3⟩:=ql2 H.toHG;have hl:=q0g H.toHG hV p2;have h3:qba ⟨V,E⟩=some (qew V p E):=p3;unfold qej qff;simp only [qlz H,vgl,bne_self_eq_false,vei,if_false,h3,hl,ql5 H.toHG p2]
theorem qp6 (l:List Hypergraph) (f:Hypergraph→Option Bool) (p:Hypergraph→Bool) (hf:∀x∈l,f x=some (p x)) (hl:l.length≤1073741824):qau l f=some (vdw (l.findIdx? p)):=by
 have h:=qju l (qan l f) p
  (fun k y hx hk hp=>by simp only [qan,if_pos (qao hx),qab hx,vgl,hf y (vfn hx),hp,vei,if_false,qfy hk (show l.length≤4611686018427387904 by omega)])
  (fun k y hx hp=>by simp only [qan,if_pos (qao hx),qab hx,vgl,hf y (vfn hx),hp,if_true])
  (by simp [qan])
 simp only [qau,h,vgl];cases l.findIdx? p <;> rfl
theorem q6v {V:List Int} {E:List (List Int)} (H:HG V E) (hV:V.length≤8) {p:List Nat} (hone:∀e∈E,qu2 V p e):qas (qdo (qew V p E)) ([],1,0)=some (.inl ((qha V p E).map qep,((qa2 (qha V p E):Nat):Int))):=by
 have hkl:=qpj p V.length;have hfl:(qha V p E).length=(ksU p V.length).length:=by unfold qha;rw [vfd]
 have hcl:(qew V p E).length=(ksU p V.length).length:=by unfold qew;rw [vfd]
 obtain ⟨b,e,i1⟩:=qdf (β:=Nat) (ksU p V.length).length (fun b i=>(((qha V p E).take b).map qep,((qa2 ((qha V p E).take b):Nat):Int),i)) (qdo (qew V p E)) (fun b=>(.inl (((qha V p E).take b).map qep,((qa2 ((qha V p E).take b):Nat):Int)):(List (List Int)×Int) ⊕ Unit)) (fun k b=>b=k) (b0:=0) (s0:=([],1,0)) (by simp [qa2]) rfl
  (fun k b hk hI=>by
   subst hI;obtain ⟨r,c1,c2,c3,c4,c5⟩:=qq7 H hV hone hk;obtain ⟨s1,s2⟩:=qux H hV hone r;have hll:(((qha V p E).take b).map qep).length≤b:=by rw [vfd,vfh];omega
   have hil:((qep (qj1 V p E r)).length:Int)=((qj1 V p E r).length:Int):=by unfold qep;rw [vfd]
   refine ⟨b+1,?_,rfl⟩;simp only [qdo,if_pos (qao c1),qab c1,vgl,s1,if_true,qjf (show (((qha V p E).take b).map qep).length+1≤1073741824 by omega) (show 24≤65536 by decide),hil,c4,if_neg (show ¬(((qa2 ((qha V p E).take (b+1)):Nat):Int) > 1000000000000000) by omega),wqn b];rw [c3,vfi];rfl)
  (fun b _=>by simp [qdo,hcl])
 subst i1;rw [e];rw [vfz (by omega)]
theorem q0h (l:List Nat) (j:Nat) (hl:l.length≤1000) (hlt:∀T∈l,T < 18446744073709551616) (hj:j < 64) :
  qas (qdp (j:Int) (qep l)) ([],[],0)=some (qep (l.filter fun T=>T.testBit j),qep (l.filter fun T=>!T.testBit j)):=by
 have hil:(qep l).length=l.length:=by unfold qep;rw [vfd]
 obtain ⟨⟨a,b⟩,e,i1,i2⟩:=qdf (β:=List Int×List Int) l.length (fun b i=>(b.1,b.2,i)) (qdp (j:Int) (qep l)) id (fun k b=>b.1=qep ((l.take k).filter fun T=>T.testBit j)∧b.2=qep ((l.take k).filter fun T=>!T.testBit j)) (b0:=([],[])) (s0:=([],[],0)) rfl ⟨by simp [qep],by simp [qep]⟩
  (fun k b hk hI=>by
   obtain ⟨b1,b2⟩:=b;obtain ⟨i1,i2⟩:=hI;simp only at i1 i2;have hx:l[k]?=some l[k]:=ve3 hk;have hxi:=qso hx;have ht:l.take (k+1)=l.take k++[l[k]]:=vke hk;have h1:b1.length≤k:=by rw [i1];unfold qep;rw [vfd];exact vgb (vhg _ _) (by rw [vfh];omega)
   have h2:b2.length≤k:=by rw [i2];unfold qep;rw [vfd];exact vgb (vhg _ _) (by rw [vfh];omega)
   have hlt':=hlt _ (vju hk);simp only [qdp,if_pos (qao hxi),qab hxi,vgl,if_neg (show ¬(j:Int) < 0 by omega),vio,qyd hlt' (show j≤64 by omega),qls (show b1.length+1≤17592186044416 by omega),qls (show b2.length+1≤17592186044416 by omega),if_true,wqn k];by_cases hb:l[k].testBit j=true
   ·rw [if_pos hb];refine ⟨(b1++[((l[k]:Nat):Int)],b2),rfl,?_,?_⟩
    ·have hs1:[l[k]].filter (fun T=>T.testBit j)=[l[k]]:=by simp [hb]
     rw [ht,vjn,hs1];unfold qep at i1 ⊢;rw [vfi,←i1];rfl
    ·have hs1:[l[k]].filter (fun T=>!T.testBit j)=[]:=by simp [hb]
     rw [ht,vjn,hs1,ver];exact i2
   ·have hb':l[k].testBit j=false:=by simpa using hb
    rw [if_neg hb];refine ⟨(b1,b2++[((l[k]:Nat):Int)]),rfl,?_,?_⟩
    ·have hs1:[l[k]].filter (fun T=>T.testBit j)=[]:=by simp [hb']
     rw [ht,vjn,hs1,ver];exact i1
    ·have hs1:[l[k]].filter (fun T=>!T.testBit j)=[l[k]]:=by simp [hb']
     rw [ht,vjn,hs1];unfold qep at i2 ⊢;rw [vfi,←i2];rfl)
  (fun b _=>by
   obtain ⟨b1,b2⟩:=b;have:¬(l.length:Int) < ((qep l).length:Int):=by rw [hil];omega
   simp only [qdp,if_neg this];rfl)
 rw [vkd] at i1 i2;simp only at i1 i2;rw [e,id,i1,i2]
theorem q36 {V:List Int} {E:List (List Int)} (H:HG V E) (p:List Nat) {v:Nat} (hv:v < V.length):qau (qew V p E) (fun y=>qda y (V.getD v 0))=some ((qhy p V.length v:Nat):Int) ∧
  (qew V p E)[qhy p V.length v]?=some ⟨vcU V p V.length (rt p v),ecU V p E (rt p v)⟩:=by
 have hl:=H.len;have hkl:=qpj p V.length;have hcl:(qew V p E).length=(ksU p V.length).length:=by unfold qew;rw [vfd]
 have qag:∀(k r:Nat),(ksU p V.length)[k]?=some r→(qew V p E)[k]?=some ⟨vcU V p V.length r,ecU V p E r⟩:=fun k r h=>by unfold qew;rw [ve6,h];rfl
 have hI:=qp6 (qew V p E) (fun y=>qda y (V.getD v 0)) (fun y=>decide (V.getD v 0∈y.Vertices)) (fun y hy=>by
  obtain ⟨r,hr,rfl⟩:=vht.1 hy;have:=qms V p V.length r;simp only [qda,qfr (vcU V p V.length r) (V.getD v 0) (by omega),vgl]) (by omega)
 have hc:=qag _ _ (qq5 (p:=p) hv);have hin:∀r,V.getD v 0∈vcU V p V.length r↔rt p v=r:=fun r=>by
  rw [q33];constructor
  ·rintro ⟨i,h1,h2⟩;have h3:=ql4 hv;have:i=v:=by
    rcases vh6 i v with h | h | h
    ·have:=qg1 H.asc h h1 h3;omega
    ·exact h
    ·have:=qg1 H.asc h h3 h1;omega
   rw [←this];exact h2
  ·intro h;exact ⟨v,ql4 hv,h⟩
 have hf:(qew V p E).findIdx? (fun y=>decide (V.getD v 0∈y.Vertices))=some (qhy p V.length v):=by
  rw [vjp];obtain ⟨h1,h2⟩:=ve5.1 hc;refine ⟨h1,?_,fun j hj=>?_⟩
  ·rw [h2,decide_eq_true_eq];exact (hin _).2 rfl
  ·have hjl:j < (ksU p V.length).length:=by omega
   have hr:(ksU p V.length)[j]?=some (ksU p V.length)[j]:=ve3 hjl;obtain ⟨q1,q2⟩:=ve5.1 (qag j _ hr);rw [q2,decide_eq_true_eq,hin];intro hh;rw [←hh] at hr;have:=qpk (qiq p V.length).1 hr;unfold qhy at hj;omega
 rw [hf] at hI;exact ⟨hI,hc⟩
theorem qpm:∀(F:List (List Nat)) (l:List Nat),l∈F→0 < qa2 F→l.length≤qa2 F
 | x :: F,l,h,hp=>by
  simp only [qa2] at hp ⊢;have h1:0 < x.length:=Nat.pos_of_mul_pos_right hp;have h2:0 < qa2 F:=Nat.pos_of_mul_pos_left hp;rcases vhp.1 h with rfl | h
  ·exact vkj _ h2
  ·exact vgb (qpm F l h h2) (Nat.le_mul_of_pos_left _ h1)
theorem qq8 (p q:Nat→Bool):∀(l:List Int) (s:Nat),(∀k,k < l.length→p (s+k)=q (s+k))→qdx p s l=qdx q s l
 | [],s,_=>rfl
 | x :: l,s,h=>by
  have h0:p s=q s:=h 0 (by simp);have ih:=qq8 p q l (s+1) fun k hk=>by
   have:=h (k+1) (by simpa using hk);rw [show s+1+k=s+(k+1) by omega];exact this
  rw [qdx,qdx,h0,ih]
theorem qw2 {V:List Int} {E:List (List Int)} (H:HG V E) (hV:V.length≤8) (p:List Nat):∀(m v iN:Nat) (F:List (List Nat)) (i:Nat),v+m=V.length→iN < 2 ^ v→Fam V.length (szC p V.length) (qhy p V.length) (qpp p) v iN F→qa2 F≤256→i < qa2 F →
  qas (qdq ⟨V,E⟩ (qew V p E)) ((i:Int),F.map qep,((qa2 F:Nat):Int),qdx (fun k=>iN.testBit k) 0 (V.take v),(v:Int))=some (qdd V (q7p (qhy p V.length) (qpp p) m v iN F i))
 | 0,v,iN,F,i,hv,hi,hF,hb,hlt=>by
  have:v=V.length:=by omega
  subst this;rw [vkd];exact qbp (by simp only [qdq,if_neg (show ¬(V.length:Int) < (V.length:Int) by omega)];rfl)
 | m+1,v,iN,F,i,hv,hi,hF,hb,hlt=>by
  have hvl:v < V.length:=by omega
  have hP:=quu p V.length;obtain ⟨g1,g2⟩:=q36 (E:=E) H p hvl;have hk:qhy p V.length v < F.length:=by rw [hF.len];exact hP.cpLt v hvl
  have hfx:F[qhy p V.length v]?=some (F.getD (qhy p V.length v) []):=by rw [vha,ve3 hk];rfl
  have hfm:=vfn hfx;have hpos:0 < qa2 F:=by omega
  have hfl:=qpm F _ hfm hpos;have hne:0 < (F.getD (qhy p V.length v) []).length:=vjx.2 (qpa.1 hpos _ hfm);have hps:qpp p v < 8:=by
   have:=vhg (fun i=>decide (rt p i=rt p v)) (vft v);unfold qpp;rw [vhi] at this;omega
  have hTl:∀T∈F.getD (qhy p V.length v) [],T < 18446744073709551616:=fun T hT=>by
   have h1:=hF.lt _ _ hfx T hT;rw [qut (qq5 hvl),←q32] at h1;have:=qms V p V.length (rt p v);exact qf4 (by omega) h1
  have hsp:=q0h (F.getD (qhy p V.length v) []) (qpp p v) (by omega) hTl (by omega);have hxv:=ql4 hvl;have hmemv:V.getD v 0∈vcU V p V.length (rt p v):=vfn (qyj hvl);have hix:qa5 (vcU V p V.length (rt p v)) (V.getD v 0)=some ((qpp p v:Nat):Int):=by
   have hvcl:=qms V p V.length (rt p v);have h1:=qhu (vcU V p V.length (rt p v)) (V.getD v 0) (by omega);rw [(qdy hmemv).1] at h1;rw [h1,(qnr (qyi H.asc p _) hmemv (qpp p v)).2 (qyj hvl)];rfl
  have hlx:(F.map qep)[qhy p V.length v]?=some (qep (F.getD (qhy p V.length v) [])):=by rw [ve6,hfx];rfl
  obtain ⟨W,hW⟩:∃W,W=(F.getD (qhy p V.length v) []).filter fun T=>T.testBit (qpp p v):=⟨_,rfl⟩
  obtain ⟨W',hW'⟩:∃W',W'=(F.getD (qhy p V.length v) []).filter fun T=>!T.testBit (qpp p v):=⟨_,rfl⟩
  rw [←hW,←hW'] at hsp;have hsum:=qlu F (qhy p V.length v) _ W W' hfx (by rw [hW,hW'];exact qhn _ _);have d1:=qo9 F (qhy p V.length v) _ W hfx hne;have d2:=qo9 F (qhy p V.length v) _ W' hfx hne;obtain ⟨n,hn⟩:∃n,n=(F.getD (qhy p V.length v) []).length:=⟨_,rfl⟩;have hil:∀l:List Nat,((qep l).length:Nat)=l.length:=fun l=>by unfold qep;rw [vfd]
  have hdv:qa2 F / n≤qa2 F:=vkh _ _;have hq:vip.wrap (Int.tdiv ((qa2 F:Nat):Int) ((n:Nat):Int))=((qa2 F / n:Nat):Int):=by
   rw [Int.tdiv_eq_ediv_of_nonneg (by omega),←Int.natCast_ediv];have h:((qa2 F / n:Nat):Int)≤(256:Int):=Int.ofNat_le.2 (vgb hdv hb);exact wrap_i64 (Int.le_trans (by decide) (Int.natCast_nonneg (qa2 F / n))) (Int.le_trans h (by decide))
  have hm1:vip.wrap (((qa2 F / n:Nat):Int) * ((W.length:Nat):Int))=((qa2 (F.set (qhy p V.length v) W):Nat):Int):=by
   rw [←vjg,hn,d1];exact wrap_i64 (by omega) (by omega)
  have hm2:vip.wrap (((qa2 F / n:Nat):Int) * ((W'.length:Nat):Int))=((qa2 (F.set (qhy p V.length v) W'):Nat):Int):=by
   rw [←vjg,hn,d2];exact wrap_i64 (by omega) (by omega)
  have f1:=hF.filter hP (v:=v) (iN2:=iN+2 ^ v) hvl true (fun i hiv=>by rw [qd9 hi,decide_eq_false (by omega),vjd]) (by rw [qd9 hi];simp);have f2:=hF.filter hP (v:=v) (iN2:=iN) hvl false (fun i hiv=>rfl) (qb3 hi (vf9 _));have e1:(fun T:Nat=>T.testBit (qpp p v) == true)=fun T=>T.testBit (qpp p v):=by funext T;cases T.testBit (qpp p v) <;> rfl
  have e2:(fun T:Nat=>T.testBit (qpp p v) == false)=fun T=>!T.testBit (qpp p v):=by funext T;cases T.testBit (qpp p v) <;> rfl
  rw [e1,←hW] at f1;rw [e2,←hW'] at f2;have hpl:(qdx (fun k=>iN.testBit k) 0 (V.take v)).length≤8:=vgb (qjg _ _ _).length_le (by rw [vfh];omega);have htk:V.take (v+1)=V.take v++[V.getD v 0]:=by
   rw [vke hvl,vha,ve3 hvl];rfl
  have hvt:(V.take v).length=v:=by rw [vfh];omega
  have q0w:∀l:List Nat,(F.map qep).set (qhy p V.length v) (qep l)=(F.set (qhy p V.length v) l).map qep:=fun l=>by rw [List.map_set]
  by_cases hlt2:i < qa2 (F.set (qhy p V.length v) W)
  ·have ih:=qw2 H hV p m (v+1) (iN+2 ^ v) (F.set (qhy p V.length v) W) i (by omega) (qf7 hi) f1 (by omega) hlt2;have hpk:qdx (fun k=>(iN+2 ^ v).testBit k) 0 (V.take (v+1))=qdx (fun k=>iN.testBit k) 0 (V.take v)++[V.getD v 0]:=by
    rw [htk,qho,hvt,vgk,if_pos (by rw [qd9 hi];simp)];congr 1;refine qq8 _ _ _ _ fun k hk=>?_
    rw [hvt] at hk;rw [vgk,qd9 hi,decide_eq_false (by omega),vjd]
   rw [hpk] at ih;rw [q7p,←hW,if_pos hlt2,←ih];refine qd1 ?_;simp only [qdq,if_pos (show (v:Int) < (V.length:Int) by omega),qab hxv,vgl,g1,qab g2,hix,qab hlx,hsp,hil,←hn,if_neg (show ¬((n:Nat):Int)=0 by omega),hq,hm1,if_pos (show (i:Int) < ((qa2 (F.set (qhy p V.length v) W):Nat):Int) by omega),qls (show (qdx (fun k=>iN.testBit k) 0 (V.take v)).length+1≤17592186044416 by omega),if_true,vio,q0w,wqn v]
  ·have ih:=qw2 H hV p m (v+1) iN (F.set (qhy p V.length v) W') (i - qa2 (F.set (qhy p V.length v) W)) (by omega) (qdb hi) f2 (by omega) (by omega);have hpk:qdx (fun k=>iN.testBit k) 0 (V.take (v+1))=qdx (fun k=>iN.testBit k) 0 (V.take v):=by
    rw [htk,qho,hvt,vgk,if_neg (by rw [qb3 hi (vf9 _)];simp),ver]
   rw [hpk] at ih;have hwi:vip.wrap ((i:Int) - ((qa2 (F.set (qhy p V.length v) W):Nat):Int))=((i - qa2 (F.set (qhy p V.length v) W):Nat):Int):=by
    rw [wrap_i64 (by omega) (by omega)];omega
   rw [q7p,←hW,←hW',if_neg hlt2,←ih];refine qd1 ?_;simp only [qdq,if_pos (show (v:Int) < (V.length:Int) by omega),qab hxv,vgl,g1,qab g2,hix,qab hlx,hsp,hil,←hn,if_neg (show ¬((n:Nat):Int)=0 by omega),hq,hm1,hm2,if_neg (show ¬(i:Int) < ((qa2 (F.set (qhy p V.length v) W):Nat):Int) by omega),hwi,vio,q0w,wqn v]
theorem At_eq {V:List Int} {E:List (List Int)} (H:HV V E) (hV:V.length≤8) {i S:Nat} (hi:(qea V E)[i]?=some S):qfx ⟨V,E⟩ (i:Int)=some (qdd V S,0):=by
 obtain ⟨p,p1,p2,p3⟩:=ql2 H.toHG;have hl:=q6v H.toHG hV p2;have h3:qba ⟨V,E⟩=some (qew V p E):=p3;have hil:=qap hi;have hf:=ql5 H.toHG p2;have hfew:=qw1 (E:=E) hV;have hat:=qw2 H.toHG hV p V.length 0 0 (qha V p E) i (by omega) (by simp) (qyl H.toHG p2) (by omega) (by omega);have hsel:=q6s H.toHG p2 hil;rw [hi] at hsel;rw [←vih hsel] at hat;have hp0:qdx (fun k=>(0:Nat).testBit k) 0 (V.take 0)=[]:=by rw [List.take_zero];rfl
 rw [hp0] at hat;simp only [vjh] at hat;unfold qfx;simp only [qlz H,vgl,bne_self_eq_false,vei,if_false,h3,hl,if_neg (show ¬(i:Int) < 0 by omega),if_neg (show ¬((i:Int)≥((qa2 (qha V p E):Nat):Int)) by omega),hat]
theorem q6w {l:List Int} {k:Nat} {v x:Int}:x∈qit l k v↔x∈l∨x=v:=by
 have h:x∈l↔x∈l.take k∨x∈l.drop k:=by
  rw [←vfl,vh0]
 rw [qit,vfl,vhp,h];constructor
 ·rintro (h | h | h) <;> simp [h]
 ·rintro ((h | h) | h) <;> simp [h]
theorem va9 {l:List Int} (ha:l.Pairwise (· < ·)) {k:Nat} {v:Int} (h1:∀m x,m < k→l[m]?=some x→x < v) (h2:∀m x,k≤m→l[m]?=some x→v≤x) (hv:v ∉ l):(qit l k v).Pairwise (· < ·):=by
 have ht:∀x∈l.take k,x < v:=fun x hx=>by
  obtain ⟨m,hm⟩:=vjz.1 hx;rw [ve9] at hm;split at hm
  ·rename_i hk;exact h1 m x hk hm
  ·cases hm
 have hd:∀x∈l.drop k,v < x:=fun x hx=>by
  obtain ⟨m,hm⟩:=vjz.1 hx;rw [ve2] at hm;have:=h2 (k+m) x (by omega) hm;have hne:x≠v:=fun e=>hv (e ▸ vfn hm)
  omega
 have hall:(l.take k++l.drop k).Pairwise (· < ·):=by rw [vh0];exact ha
 obtain ⟨p1,p2,p3⟩:=vj4.1 hall;unfold qit;refine vj4.2 ⟨p1,vj5.2 ⟨hd,p2⟩,fun x hx y hy=>?_⟩;rcases vhp.1 hy with rfl | hy
 ·exact ht x hx
 ·exact p3 x hx y hy
def qhp (E:List (List Int)) (x:Int):Bool:=E.any fun e=>decide (x∈e)
def qkw (E:List (List Int)) (x:Int):Bool:=E.any fun e=>decide (e=[x])
theorem q37 {V:List Int} {E:List (List Int)} (H:HV V E):qd5 ⟨V,E⟩=some (V.filter (fun x=>!qhp E x),V.filter (fun x=>!qkw E x),0):=by
 have hl:=H.len;have hel:=H.elen;have hC1:∀x:Int,qac E (fun y=>qbz y x)=some (qhp E x):=fun x=>qf3 E (fun y=>qbz y x) (fun e=>decide (x∈e)) (fun e he=>by
  have:=H.toHG.eshort he;simp only [qbz,qfr e x (by omega),vgl]) (by omega)
 have hC2:∀x:Int,qac E (fun y=>qa6 y x)=some (qkw E x):=fun x=>qf3 E (fun y=>qa6 y x) (fun e=>decide (e=[x])) (fun e he=>by
  unfold qa6
  match e,H.ene e he with
  | [],h=>exact absurd rfl h
  | [y],_ =>
   have h1:(((([y]:List Int).length:Nat):Int) == 1)=true:=rfl;rw [if_pos h1];show some (y == x)=_;congr 1;rw [vi7,beq_iff_eq,decide_eq_true_eq];exact ⟨fun h=>by rw [h],fun h=>by simpa using h⟩
  | y :: z :: r,_ =>
   have h1:((((y :: z :: r:List Int).length:Nat):Int) == 1)=false:=by
    rw [beq_eq_false_iff_ne];simp only [vhe];omega
   rw [h1,if_neg (by simp)];congr 1;exact (decide_eq_false (by simp)).symm) (by omega)
 obtain ⟨⟨a,b⟩,e,i1,i2⟩:=qdf (β:=List Int×List Int) V.length (fun b i=>(b.1,b.2,i)) (qcx ⟨V,E⟩) id (fun k b=>b.1=(V.take k).filter (fun x=>!qhp E x)∧b.2=(V.take k).filter (fun x=>!qkw E x)) (b0:=([],[])) (s0:=([],[],0)) rfl ⟨by simp,by simp⟩
  (fun k b hk hI=>by
   obtain ⟨b1,b2⟩:=b;obtain ⟨i1,i2⟩:=hI;simp only at i1 i2;have hx:V[k]?=some V[k]:=ve3 hk;have ht:V.take (k+1)=V.take k++[V[k]]:=vke hk;have h1:b1.length≤k:=by rw [i1];exact vgb (vhg _ _) (by rw [vfh];omega)
   have h2:b2.length≤k:=by rw [i2];exact vgb (vhg _ _) (by rw [vfh];omega)
   have r1:=qls (show b1.length+1≤17592186044416 by omega);have r2:=qls (show b2.length+1≤17592186044416 by omega);simp only [qcx,if_pos (qao hx),qab hx,vgl,hC1,hC2,r1,r2,if_true,wqn k];refine ⟨(if qhp E V[k]=true then b1 else b1++[V[k]],if qkw E V[k]=true then b2 else b2++[V[k]]),?_,?_,?_⟩
   ·by_cases ht1:qhp E V[k]=true <;> by_cases hl1:qkw E V[k]=true <;> simp [ht1,hl1]
   ·rw [ht,vjn,←i1];by_cases ht1:qhp E V[k]=true
    ·have hs:[V[k]].filter (fun x=>!qhp E x)=[]:=by simp [ht1]
     rw [hs,ver];exact if_pos ht1
    ·have hs:[V[k]].filter (fun x=>!qhp E x)=[V[k]]:=by simp [ht1]
     rw [hs];exact if_neg ht1
   ·rw [ht,vjn,←i2];by_cases ht1:qkw E V[k]=true
    ·have hs:[V[k]].filter (fun x=>!qkw E x)=[]:=by simp [ht1]
     rw [hs,ver];exact if_pos ht1
    ·have hs:[V[k]].filter (fun x=>!qkw E x)=[V[k]]:=by simp [ht1]
     rw [hs];exact if_neg ht1)
  (fun b _=>by simp [qcx])
 rw [vkd] at i1 i2;simp only at i1 i2;unfold qd5;simp only [qlz H,vgl,bne_self_eq_false,vei,if_false,e,id,i1,i2]
theorem qkx {V:List Int} (hV:V.Pairwise (· < ·)) {u:Nat} {x:Int} (hx:V[u]?=some x) (S:Nat):x∈qdd V S↔S.testBit u=true:=by
 rw [vax];constructor
 ·rintro ⟨k,h1,h2⟩;have:k=u:=by
   rcases vh6 k u with h | h | h
   ·have:=qg1 hV h h1 hx;omega
   ·exact h
   ·have:=qg1 hV h hx h1;omega
  rw [←this];exact h2
 ·intro h;exact ⟨u,hx,h⟩
theorem qg3 {V:List Int} {E:List (List Int)} (H:HG V E) {u:Nat} {x:Int} (hx:V[u]?=some x) {e:List Int} (he:e∈E):(mkE V e).testBit u=true↔x∈e:=by
 rw [qmr H.asc (H.esub e he)];constructor
 ·rintro ⟨y,h1,h2⟩;rw [hx] at h2;cases h2;exact h1
 ·intro h;exact ⟨x,h,hx⟩
theorem qym {V:List Int} {E:List (List Int)} (H:HG V E) {e:List Int} (he:e∈E) (S:Nat):qwo (mkE V e) S↔∀x∈e,x∈qdd V S:=by
 constructor
 ·intro h x hx;have hg:=(qdy (H.esub e he x hx)).2;exact (qkx H.asc hg S).2 (h _ ((qg3 H hg he).2 hx))
 ·intro h i hi;obtain ⟨x,h1,h2⟩:=(qmr H.asc (H.esub e he) i).1 hi;exact (qkx H.asc h2 S).1 (h x h1)
theorem qyn {V:List Int} {E:List (List Int)} (H:HG V E) {x:Int} {S:Nat} (hS:S∈qea V E) (hx:x∈V) (ht:qhp E x=false):x∈qdd V S:=by
 obtain ⟨s1,s2⟩:=qin.1 hS;have hg:=(qdy hx).2;refine (qkx H.asc hg S).2 (q58 (qip hx) (fun m hm=>?_) s2);obtain ⟨e,he,rfl⟩:=qfi.1 hm;cases hb:(mkE V e).testBit (qfz V x) with
 | false=>rfl
 | true =>
  have:=(qg3 H hg he).1 hb;unfold qhp at ht;rw [vjl] at ht;exact absurd (decide_eq_true this) (ht e he)
theorem q6x {V:List Int} {E:List (List Int)} (H:HG V E) {x:Int} {S:Nat} (hS:S∈qea V E) (hx:x∈qdd V S):qkw E x=false:=by
 cases hl:qkw E x with
 | false=>rfl
 | true =>
  unfold qkw at hl;rw [vg6] at hl;obtain ⟨e,he,h1⟩:=hl;have h1:e=[x]:=of_decide_eq_true h1;obtain ⟨s1,s2,s3⟩:=qin.1 hS;refine absurd ((qym H he S).2 fun y hy=>?_) (s2 _ (qfi.2 ⟨e,he,rfl⟩));rw [h1,vhw] at hy;rw [hy];exact hx
theorem q6y {V:List Int} {E:List (List Int)} (H:HG V E) {x:Int} (hx:x∈V) (hl:qkw E x=false):∃S∈qea V E,x∈qdd V S:=by
 have hg:=(qdy hx).2;obtain ⟨T,t1,t2⟩:=vak (n:=V.length) (es:=msE V E) (qip hx) (fun m hm=>qun H hm) (fun m hm=>by
  obtain ⟨e,he,rfl⟩:=qfi.1 hm;unfold qkw at hl;rw [vjl] at hl;have hne:=hl e he;have:∃y,y∈e∧y≠x:=by
   refine Classical.byContradiction fun hno=>hne (decide_eq_true ?_)
   have hall:∀y∈e,y=x:=fun y hy=>Classical.byContradiction fun h=>hno ⟨y,hy,h⟩
   match e,H.ene e he,H.easc e he,hall with
   | [],h,_,_=>exact absurd rfl h
   | [y],_,_,h=>rw [h y (by simp)]
   | y :: z :: r,_,ha,h =>
    have h1:=h y (by simp);have h2:=h z (by simp);have h3:=(vj5.1 ha).1 z (by simp);omega
  obtain ⟨y,y1,y2⟩:=this;have hyg:=(qdy (H.esub e he y y1)).2;refine ⟨qfz V y,(qg3 H hyg he).2 y1,fun hh=>y2 ?_⟩;rw [hh,hg] at hyg;exact (vih hyg).symm)
 exact ⟨T,t1,(qkx H.asc hg T).2 t2⟩
theorem vba {V:List Int} {E:List (List Int)} (H:HV V E) {x:Int} (hx:x∈V) (ht:qhp E x=true):∃S∈qea V E,x ∉ qdd V S:=by
 have hg:=(qdy hx).2;unfold qhp at ht;rw [vg6] at ht;obtain ⟨e,he,h1⟩:=ht;have h1:x∈e:=of_decide_eq_true h1;obtain ⟨T,t1,t2⟩:=q59 (n:=V.length) (es:=msE V E) (u:=qfz V x) (e:=mkE V e) (fun m hm=>vdz H.toHG hm) (fun m hm f hf hs=>by
  obtain ⟨a,ha,rfl⟩:=qfi.1 hm;obtain ⟨b,hb,rfl⟩:=qfi.1 hf;obtain ⟨i,hi⟩:=vjz.1 ha;obtain ⟨k,hk⟩:=vjz.1 hb;by_cases hik:i=k
  ·subst hik;rw [hi] at hk;cases hk;rfl
  ·obtain ⟨y,y1,y2⟩:=H.anti i k a b hi hk hik;have hyg:=(qdy (H.esub b hb y y1)).2;exact absurd ((qg3 H.toHG hyg ha).1 (hs _ ((qg3 H.toHG hyg hb).2 y1))) y2) (qfi.2 ⟨e,he,rfl⟩) ((qg3 H.toHG hg he).2 h1)
 exact ⟨T,t1,fun hh=>by rw [(qkx H.asc hg T).1 hh] at t2;cases t2⟩
theorem ql6 (V:List Int) (E:List (List Int)) (l:List Int) (hV:V.Pairwise (· < ·)) (ha:l.Pairwise (· < ·)) (hVl:V.length≤1000) (hl:l.length≤1000) (hE:E.length≤1000000) (hEl:∀e∈E,e.length≤1000) :
  qb7 ⟨V,E⟩ l=some (vbp V E l):=by
 have hC:=qf3 E (fun y=>qbn y l) (fun e=>e.all fun x=>decide (x∈l)) (fun e he=>by
  simp only [qbn,qjx l e ha hl (hEl e he),vgl]) hE
 unfold qb7 vbp;rw [qku l ha hl,vgl,if_pos rfl,qjx V l hV hVl hl,vgl];cases h:l.all fun x=>decide (x∈V) with
 | false=>simp
 | true=>simp only [if_true,hC,vgl,vje]
theorem q38 {V:List Int} {E:List (List Int)} (H:HG V E) {S:Nat} (hS:S∈qea V E):qc3 ⟨V,E⟩ (qdd V S)=some true:=by
 have hl:=H.len;have hel:=H.elen;obtain ⟨s1,s2,s3⟩:=qin.1 hS;have hsub:=qpg V S;have hsl:=hsub.length_le;have hasc:=vji.sublist hsub H.asc;have hEl:∀e∈E,e.length≤1000:=fun e he=>by have:=H.eshort he;omega
 have hi:=ql6 V E (qdd V S) H.asc hasc (by omega) (by omega) (by omega) hEl;have hind:vbp V E (qdd V S)=true:=by
  unfold vbp;rw [veg];refine ⟨by rw [vg4];exact fun x hx=>decide_eq_true (hsub.subset hx),?_⟩;rw [vek,vjl];intro e he hall;rw [vg4] at hall;exact s2 _ (qfi.2 ⟨e,he,rfl⟩) ((qym H he S).2 fun x hx=>of_decide_eq_true (hall x hx))
 have hL:=qd6 V (qcy ⟨V,E⟩ (qdd V S)) (fun _=>true) false
  (fun k v hx hk _=>by
   obtain ⟨i,q1,q2,q3,q4⟩:=qq2 (qdd V S) v hasc (by omega);have hw:vip.wrap ((k:Int)+1)=((k+1:Nat):Int):=qno (by omega);simp only [qcy,if_pos (qao hx),qab hx,vgl,q1,hw];by_cases hm:v∈qdd V S
   ·simp [hm]
   ·have hI:=ql6 V E (qit (qdd V S) i v) H.asc (va9 hasc q3 q4 hm) (by omega) (by rw [qkm q2];omega) (by omega) hEl;have hb:S.testBit k=false:=by
     cases hb:S.testBit k with
     | false=>rfl
     | true=>exact absurd ((qkx H.asc hx S).2 hb) hm
    obtain ⟨m,hm1,m2,m3⟩:=s3 k hk hb;obtain ⟨e,he,rfl⟩:=qfi.1 hm1;have hno:vbp V E (qit (qdd V S) i v)=false:=by
     unfold vbp;rw [vi6];right;rw [vi9,vg6];refine ⟨e,he,?_⟩;rw [vg4];intro x hxe;rw [decide_eq_true_eq,q6w];by_cases hxv:x=v
     ·exact .inr hxv
     ·left;have hg:=(qdy (H.esub e he x hxe)).2;refine (qkx H.asc hg S).2 (m3 _ ((qg3 H hg he).2 hxe) fun hh=>hxv ?_);rw [hh,hx] at hg;exact (vih hg).symm
    rw [hno] at hI;simp only [hm,decide_false,vei,if_false,if_pos (show (qdd V S).length≤1000000000 by omega),if_pos (show (0:Int)≤(i:Int) by omega),if_pos (show (i:Int)≤(((qdd V S).length:Nat):Int) by omega),vio,hI,vgl])
  (fun k v hx hp=>by cases hp) (by simp [qcy])
 have hall:(V.all fun _=>true)=true:=by simp
 rw [hall,if_pos rfl] at hL;unfold qc3;simp only [hi,hind,vgl,if_true,hL]
theorem quy (l:List Int) (hl:l.length≤1073741824):qd8 l l=some true:=by
 have h:=qd6 l (qds l l) (fun _=>true) false
  (fun k x hx hk _=>by simp only [qds,if_pos (qao hx),qab hx,vgl,bne_self_eq_false,vei,if_false,qfy hk (show l.length≤4611686018427387904 by omega)])
  (fun k x hx hp=>by cases hp) (by simp [qds])
 have hall:(l.all fun _=>true)=true:=by simp
 rw [hall,if_pos rfl] at h;unfold qd8;simp only [bne_self_eq_false,vei,if_false,h,vgl]
theorem q0i (L:List (List Int)) (c:Int) (x:Int) (hL:L.length≤1000) (hl:∀r∈L,r.length≤1000):qas (qbg (L,c) x) (0,0)=some (((L.filter fun r=>decide (x∈r)).length:Nat):Int):=by
 obtain ⟨b,e,i1⟩:=qdf (β:=Nat) L.length (fun b i=>((b:Int),i)) (qbg (L,c) x) (fun b=>(b:Int)) (fun k b=>b=((L.take k).filter fun r=>decide (x∈r)).length) (b0:=0) (s0:=(0,0)) rfl (by simp)
  (fun k b hk hI=>by
   have hx:L[k]?=some L[k]:=ve3 hk;have ht:L.take (k+1)=L.take k++[L[k]]:=vke hk;have hrl:=hl _ (vju hk);have hb:b≤k:=by rw [hI];exact vgb (vhg _ _) (by rw [vfh];omega)
   simp only [qbg,if_pos (qao hx),qab hx,vgl,qya L[k] x (by omega),wqn k,wqn b];by_cases hm:x∈L[k]
   ·refine ⟨b+1,by rw [decide_eq_true hm];rfl,?_⟩;have hs:[L[k]].filter (fun r=>decide (x∈r))=[L[k]]:=by simp [hm]
    rw [ht,vjn,hs,vfb,←hI];rfl
   ·refine ⟨b,by rw [decide_eq_false hm];rfl,?_⟩;have hs:[L[k]].filter (fun r=>decide (x∈r))=[]:=by simp [hm]
    rw [ht,vjn,hs,ver,←hI])
  (fun b _=>by simp [qbg])
 rw [vkd] at i1;rw [e,i1]
theorem quz {α:Type} (p:α→Bool) (l:List α):(l.filter p).length=l.length↔∀x∈l,p x=true:=by
 constructor
 ·intro h x hx;cases hp:p x with
  | true=>rfl
  | false =>
   have:=qhn p l;have hm:x∈l.filter fun y=>!p y:=vhs.2 ⟨hx,by rw [hp];rfl⟩
   have:=vhh hm;omega
 ·intro h;rw [List.filter_eq_self.2 h]
theorem qmt (g:Drossref37_Graph) (hg:qed g):qde g=some true:=by
 obtain ⟨V,E,b,e1,H,hV⟩:=qsn g hg;have aw:qey=some true:=rfl;unfold qde;rw [e1,vgl];simp only [aw,vgl,if_true];cases b with
 | false=>rfl
 | true =>
  simp only [vjb,vei,if_false];have hfew:=qw1 (E:=E) hV;have hA:=vd1 H (by omega);have hC:=q6u H hV;have hM:=q37 H;have hne:0 < (qea V E).length:=by
   obtain ⟨T,hT,_⟩:=qsg (n:=V.length) (es:=msE V E) (S:=0) (vks (by omega)) (qlt fun e he=>qun H.toHG he);exact vhh hT
  obtain ⟨ev,hev⟩:∃ev,ev=V.filter (fun x=>!qhp E x):=⟨_,rfl⟩;obtain ⟨so,hso⟩:∃so,so=V.filter (fun x=>!qkw E x):=⟨_,rfl⟩;rw [←hev,←hso] at hM;have evl:ev.length≤8:=by rw [hev];exact vgb (vhg _ _) hV
  have sol:so.length≤8:=by rw [hso];exact vgb (vhg _ _) hV
  have idl:∀S,(qdd V S).length≤8:=fun S=>vgb (qpg V S).length_le hV
  have hLl:((qea V E).map (qdd V)).length=(qea V E).length:=vfd ..;have h1:=qd6 ((qea V E).map (qdd V)) (qb1 (⟨V,E⟩,true) ((qea V E).map (qdd V),0) (ev,so,0)) (fun _=>true) false
   (fun k x hx hk _=>by
    rw [hLl] at hk;have hS:(qea V E)[k]?=some (qea V E)[k]:=ve3 hk;have hxe:x=qdd V (qea V E)[k]:=by
     rw [ve6,hS] at hx;exact (vih hx).symm
    have hSm:=vju hk;have hat:=At_eq H hV hS;have hnx:=va0 H hS;have hmx:=q38 H.toHG hSm;have hw1:=qsl ev (qdd V (qea V E)[k]) (by omega) (by have:=idl (qea V E)[k];omega);have hw2:=qsl (qdd V (qea V E)[k]) so (by have:=idl (qea V E)[k];omega) (by omega);have a1:(ev.all fun x=>decide (x∈qdd V (qea V E)[k]))=true:=by
     rw [vg4];intro y hy;rw [hev,vhs] at hy;exact decide_eq_true (qyn H.toHG hSm hy.1 (by simpa using hy.2))
    have a2:((qdd V (qea V E)[k]).all fun x=>decide (x∈so))=true:=by
     rw [vg4];intro y hy;refine decide_eq_true ?_;rw [hso,vhs];exact ⟨(qpg V _).subset hy,by rw [q6x H.toHG hSm hy];rfl⟩
    rw [a1] at hw1;rw [a2] at hw2;have hid:=quy (qdd V (qea V E)[k]) (by have:=idl (qea V E)[k];omega);have hwr:=wqn k;subst hxe;simp only [qb1,if_pos (show (k:Int) < ((((qea V E).map (qdd V)).length:Nat):Int) by omega),qab hx,vgl,hat,hnx,bne_self_eq_false,vei,if_false,hid,if_true,hwr,hmx,hw1,hw2];cases hT:(qea V E)[k+1]? with
    | none =>
     have:(qea V E).length≤k+1:=vjr.1 hT;have hd:decide (((k+1:Nat):Int) < ((((qea V E).map (qdd V)).length:Nat):Int))=false:=decide_eq_false (by omega);simp only [hd,beq_self_eq_true,if_true,bne_self_eq_false,vei,if_false]
    | some T =>
     have hTl:=qap hT;have hd:decide (((k+1:Nat):Int) < ((((qea V E).map (qdd V)).length:Nat):Int))=true:=decide_eq_true (by omega);have hTx:((qea V E).map (qdd V))[k+1]?=some (qdd V T):=by rw [ve6,hT];rfl
     have hidT:=quy (qdd V T) (by have:=idl T;omega);simp only [hd,beq_self_eq_true,if_true,bne_self_eq_false,vei,if_false,qab hTx,vgl,hidT])
   (fun k x hx hp=>by cases hp) (by simp [qb1])
  have h2:=qd6 so (qb2 ((qea V E).map (qdd V),0) (ev,so,0)) (fun _=>true) false
   (fun k x hx hk _=>by
    have hxm:=vfn hx;have hxs:=hxm;rw [hso,vhs] at hxs;obtain ⟨hxV,hxl⟩:=hxs;have hxl:qkw E x=false:=by simpa using hxl
    have hcl:=q0i ((qea V E).map (qdd V)) 0 x (by omega) (fun r hr=>by
     obtain ⟨S,_,rfl⟩:=vht.1 hr;have:=idl S;omega)
    obtain ⟨S,s1,s2⟩:=q6y H.toHG hxV hxl;have hpos:0 < (((qea V E).map (qdd V)).filter fun r=>decide (x∈r)).length:=vhh (vhs.2 ⟨vj0 s1,decide_eq_true s2⟩);have hc0:(((((qea V E).map (qdd V)).filter fun r=>decide (x∈r)).length:Nat):Int) == 0↔False:=by
     rw [beq_iff_eq];constructor
     ·intro h;omega
     ·exact False.elim
    have hc0':((((((qea V E).map (qdd V)).filter fun r=>decide (x∈r)).length:Nat):Int) == 0)=false:=by
     rw [beq_eq_false_iff_ne];omega
    have hH:=qya ev x (by omega);have hiff:(((((((qea V E).map (qdd V)).filter fun r=>decide (x∈r)).length:Nat):Int) == ((((qea V E).map (qdd V)).length:Nat):Int)) == decide (x∈ev))=true:=by
     rw [beq_iff_eq,vi7,beq_iff_eq,decide_eq_true_eq];have hn:((((((qea V E).map (qdd V)).filter fun r=>decide (x∈r)).length:Nat):Int)=((((qea V E).map (qdd V)).length:Nat):Int))↔(((qea V E).map (qdd V)).filter fun r=>decide (x∈r)).length=((qea V E).map (qdd V)).length:=by omega
     rw [hn,quz,hev,vhs];constructor
     ·intro h;refine ⟨hxV,?_⟩;cases ht:qhp E x with
      | false=>rfl
      | true =>
       obtain ⟨T,t1,t2⟩:=vba H hxV ht;exact absurd (of_decide_eq_true (h _ (vj0 t1))) t2
     ·rintro ⟨_,ht⟩ r hr;obtain ⟨T,t1,rfl⟩:=vht.1 hr;exact decide_eq_true (qyn H.toHG t1 hxV (by simpa using ht))
    simp only [qb2,if_pos (qao hx),qab hx,vgl,hcl,hc0',vei,if_false,hH,hiff,if_true,wqn k])
   (fun k x hx hp=>by cases hp) (by simp [qb2])
  have ha1:(((qea V E).map (qdd V)).all fun _=>true)=true:=by simp
  have ha2:(so.all fun _=>true)=true:=by simp
  rw [ha1,if_pos rfl] at h1;rw [ha2,if_pos rfl] at h2;simp only [hA,hC,hM,vgl,bne_self_eq_false,vei,if_false,hLl,if_neg (show ¬(((qea V E).length:Nat):Int) < 1 by omega),h1,h2]
end Go.Proofs.YtgklegblfboelaaGreatDoor
