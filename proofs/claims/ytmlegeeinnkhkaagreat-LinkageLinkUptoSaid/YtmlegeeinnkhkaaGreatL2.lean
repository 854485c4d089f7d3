/- -/
import Derived.Lib.TrailingZeros
import Derived.Test.YtmlegeeinnkhkaaGreatL1
import Derived.Test.YtmlegeeinnkhkaaGreatA2
import Derived.Test.YtmlegeeinnkhkaaGreatA3
set_option linter.unusedVariables false
set_option linter.unusedSimpArgs false
open Bool renaming and_eq_true→vzm,and_false→v4v,eq_false_or_eq_true→v3u,eq_iff_iff→v3v,false_and→v4w,false_eq_true→vzo,not_eq_false'→v3w,not_eq_true→v3x,not_eq_true'→vzq,not_true→v4x,or_eq_true→vzr,true_and→v3z
open Int renaming eq_ofNat_of_zero_le→v19,fdiv→v30,le_refl→v4y,lt_irrefl→v4z,natCast_zero→v33,ofNat_tmod→v40,tmod→v34,toNat_natCast→v38
open Go.IntKind renaming i64→v4a,u32→v42,u64→v4b
open Go.Lib renaming compact→v3r,compactUpTo→v43,keeps→v47
open List renaming Pairwise→v48,all_append→v49,all_cons→vzv,all_eq_true→v2b,append_assoc→vzw,append_nil→vzx,cons_append→v2e,drop_drop→v4h,drop_of_length_le→vz0,ext_getElem?→vz3,filter_append→v5a,filter_cons→v4j,findIdx?_cons→v4l,flatMap_cons→v2g,flatten_cons→v5b,foldl_cons→v4m,getD→v5c,getD_eq_getElem?_getD→v2h,getElem?_append→v5d,getElem?_append_left→vz6,getElem?_drop→vz8,getElem?_eq_getElem→vz9,getElem?_eq_none→v0a,getElem?_eq_some_iff→v0b,getElem?_inj→v5e,getElem?_map→v0c,getElem?_range→v4n,getElem?_replicate→v0e,getElem?_set→v2l,getElem?_take→v0f,getElem_mem→v2o,length→v4o,length_append→v0h,length_cons→v2p,length_drop→v0i,length_eq_zero_iff→v2q,length_filter_le→v2r,length_map→v0j,length_nil→v0k,length_range→v2t,length_range'→v5f,length_replicate→v0l,length_set→v0m,length_singleton→v2u,length_take→v0n,map_append→v0o,map_congr_left→v2w,map_cons→v0p,map_eq_flatMap→v5g,map_flatMap→v5h,map_singleton→v5i,mem_append→v0r,mem_append_left→v5j,mem_cons→v2z,mem_filter→v28,mem_flatMap→v0s,mem_iff_getElem→v5k,mem_map→v3a,mem_of_getElem?→v0t,mem_range→v3c,mem_range'_1→v5l,mem_singleton→v3d,nil_append→v0y,nodup_append→v5m,nodup_cons→v5n,pairwise_flatMap→v5o,pairwise_iff_getElem→v5p,pairwise_lt_range'→v5q,pairwise_map→v5r,range→v0z,range'→v3f,range'_succ→v5s,range_eq_range'→v00,range_succ→v4t,replicate→v01,replicate_succ→v5t,replicate_succ'→v5u,replicate_zero→v5v,set_append_right→v5w,set_cons_zero→v5x,take_add_one→v5y,take_append_drop→v3g,take_append_of_le_length→v5z,take_length→v52,take_of_length_le→v05,take_set_of_le→v54,take_zero→v06
open Nat renaming add_assoc→v08,add_comm→v56,add_mul→v09,div_le_self→v58,gcd→v59,gcd_comm→v6a,gcd_pos_of_pos_right→v6b,gcd_zero_right→v6c,le_of_lt_succ→v6d,le_refl→v1f,le_total→v6e,le_trans→v1h,lt_of_lt_of_le→v1i,lt_or_eq_of_le→v6f,min_eq_left→v3j,min_eq_right→v6g,mod_lt→v1k,mul_le_mul→v6h,one_mul→v1n,pow_le_pow_left→v6i,pow_le_pow_right→v6j,pow_lt_pow_right→v6k,strongRecOn→v3k,sub_self→v3l,sub_zero→v1p,zero_add→v1q,zero_le→v3n
open Option renaming bind_some→v1r,map_some→v1w
open Option.some renaming inj→v3q,injEq→v1x
noncomputable section
namespace Go.Proofs.YtmlegeeinnkhkaaGreat
open Go Go.Ab
theorem vkd:∀n:Nat,Lib.repeatL [1] n=v01 n (1:UInt8)
 | 0=>rfl
 | n+1=>by simp only [Lib.repeatL,vkd n];rfl
def q66 (s:Str) (q:Nat):Str:=v01 (q - 1) 1++s++v01 (q - 1) 1
theorem vac (s:Str) (q:Nat):(q66 s q).length=s.length+2 * (q - 1):=by simp [q66];omega
def qtu (s:Str) (q i:Nat):Str:=((q66 s q).drop i).take q
def qom (s:Str) (q:Nat):List Str:=(v0z (s.length+q - 1)).map (qtu s q)
def qbl (s:Str) (q:Nat):List Str:=qxu ltS (qom s q)
theorem vcw (s:Str) (q:Nat):(qbl s q).Perm (qom s q):=by
 have:=(qo8 ltS q65 vkc (qom s q) [] v48.nil).1;simpa [qbl,qxu] using this
theorem vgn (s:Str) (q:Nat):(qbl s q).length=s.length+q - 1:=by rw [(vcw s q).length_eq];simp [qom]
theorem vn8 (l:List Str):vna l=qxu ltS l:=by
 obtain ⟨p,h⟩:=qo8 ltS q65 vkc l [] v48.nil;have p:(qxu ltS l).Perm l:=by simpa [qxu] using p
 refine List.Perm.eq_of_pairwise (le:=fun x y=>ltS y x=false) (fun a b _ _ h1 h2=>vp5 h2 h1) ?_ h ((q9e l).trans p.symm);have:=List.pairwise_mergeSort (le:=fun x y:Str=>decide (x≤y)) (fun a b c h1 h2=>by simp only [decide_eq_true_eq] at *;exact List.le_trans h1 h2) (fun a b=>by simp only [vzr,decide_eq_true_eq];exact List.le_total a b) l;exact this.imp fun h=>by simpa [ltS,List.not_lt] using h
theorem q2c {x:Int} (h1:-4611686018427387904≤x) (h2:x≤4611686018427387904):v4a.wrap x=x:=qaz (by omega) (by omega)
theorem veb (s:Str) (q:Nat) (hs:s.length≤200) (h1:1≤q) (h4:q≤4):qd3 s (q:Int)=some (qbl s q,0):=by
 have hlong:qdn [s]=some false:=by
  have:¬((s.length:Int) > 200):=by omega
  simp only [qdn,qco,qcf];have e1:qay [s] (fun y=>qde y) 0=some (.next 1):=by
   have:idx [s] 0=some s:=rfl;simp only [qay,this,v1r,qde,v2u];have h0:(0:Int) < ((1:Nat):Int):=by omega
   have h2:(0:Int)+1=1:=rfl;rw [if_pos h0];simp only [show ¬((s.length:Int) > 200) by omega,decide_false,vzo,if_false];rw [q2c (by omega) (by omega)];rfl
  have e2:qay [s] (fun y=>qde y) 1=some (.done (.inl ())):=by simp [qay]
  rw [qac e1,qad e2];rfl
 have hq1:¬((q:Int) < 1):=by omega
 have hq2:¬((q:Int) > 4):=by omega
 have hw1:v4a.wrap ((q:Int) - 1)=((q - 1:Nat):Int):=by rw [q2c (by omega) (by omega)];omega
 have hr:strings_Repeat [1] ((q - 1:Nat):Int)=some (v01 (q - 1) 1):=by
  simp only [strings_Repeat,repF];rw [if_pos ⟨by omega,by omega,by simp⟩,v38,vkd]
 have hl1:(v01 (q - 1) (1:UInt8)).length+s.length≤9223372036854775807:=by simp;omega
 have hl2:(v01 (q - 1) (1:UInt8)++s).length+(v01 (q - 1) (1:UInt8)).length≤9223372036854775807:=by simp;omega
 have hN:v4a.wrap (v4a.wrap ((s.length:Int)+(q:Int)) - 1)=((s.length+q - 1:Nat):Int):=by
  rw [q2c (x:=(s.length:Int)+(q:Int)) (by omega) (by omega),q2c (by omega) (by omega)];omega
 have hL:=qos (v0z (s.length+q - 1)) (fun (out:List Str) (k:Int)=>(out,k)) (qgo s q (q66 s q)) (fun out i=>(Sum.inl (out++[qtu s q i]):List Str ⊕ List Str)) id (fun k out=>out.length=k) (b0:=[]) (s0:=([],0)) rfl rfl
  (fun k b x hx hk hI=>by
   obtain ⟨rfl,hk⟩:=vab hx;refine ⟨fun b' hb=>?_,fun t ht=>by cases ht⟩;cases hb;have e1:((x:Nat):Int) < ((s.length+q - 1:Nat):Int):=by omega
   have e2:v4a.wrap ((x:Int)+(q:Int))=((x+q:Nat):Int):=by rw [q2c (by omega) (by omega)];omega
   have e3:(x:Int)≤((x+q:Nat):Int):=by omega
   have e4:((x+q:Nat):Int)≤((q66 s q).length:Int):=by rw [vac];omega
   refine ⟨?_,by simp [hI]⟩;simp only [qgo,hN,if_pos e1,e2,if_pos e3,if_pos e4,show (0:Int)≤(x:Int) by omega,if_true,vp4 (show b.length+1≤8000000000 by omega),v38,wqn x];rw [show x+q - x=q by omega];rfl)
  (fun b hI=>by simp only [v2t,qgo,hN];simp)
 have hf:qux (fun out i=>(Sum.inl (out++[qtu s q i]):List Str ⊕ List Str)) id (v0z (s.length+q - 1)) []=qom s q:=by
  rw [q6w (fun out i=>out++[qtu s q i])];unfold qom;have:∀(l:List Nat) (out:List Str),l.foldl (fun out i=>out++[qtu s q i]) out=out++l.map (qtu s q):=by
   intro l
   induction l with
   | nil=>simp
   | cons x l ih=>intro out;simp [ih]
  rw [this];rfl
 rw [hf] at hL;have hsz:(qom s q).length < 4611686018427387904:=by simp [qom];omega
 have hwide:v01 (q - 1) (1:UInt8)++s++v01 (q - 1) 1=q66 s q:=rfl;simp only [qd3,hlong,v1r,vzo,if_false,hq1,hq2,hw1,hr,if_pos hl1,if_pos hl2,hwide,hL,vcb,if_pos hsz,vn8];rfl
theorem vn9 (s : Str) (q : Nat) (hs : s.length ≤ 200) (h1 : 1 ≤ q) (h4 : q ≤ 4) : qae (qb9 (q : Int)) (s, 1) = some (q66 s q) := by
  have step : ∀ (w : Str) (i : Nat), i < q → w.length ≤ 1000 → qb9 (q : Int) (w, (i : Int)) = some (.next ([1] ++ w ++ [1], ((i + 1 : Nat) : Int))) := fun w i hi hw => by
    have e1 : (i : Int) < (q : Int) := by omega
    have e2 : 1 + w.length ≤ 9223372036854775807 := by omega
    have e3 : w.length + 1 + 1 ≤ 9223372036854775807 := by omega
    simp only [qb9, if_pos e1, if_pos e2, if_pos e3, wqn i]
  have fin : ∀ (w : Str), qb9 (q : Int) (w, (q : Int)) = some (.done w) := fun w => by simp [qb9]
  have key : ∀ (n i : Nat) (w : Str), i + n = q → w.length + 2 * n ≤ 1000 → qae (qb9 (q : Int)) (w, (i : Int)) = some (v01 n 1 ++ w ++ v01 n 1) := by
    intro n
    induction n with
    | zero => intro i w h _; obtain rfl : i = q := by omega
              rw [qad (fin w)]; simp
    | succ n ih =>
      intro i w h hw
      rw [qac (step w i (by omega) (by omega)), ih (i + 1) _ (by omega) (by simp; omega)]
      congr 1
      have : ∀ n : Nat, v01 n (1 : UInt8) ++ [1] = v01 (n + 1) 1 := fun n => v5u.symm
      rw [← vzw, ← vzw, this, vzw _ [1], List.singleton_append, ← v5t]
  have := key (q - 1) 1 s (by omega) (by omega)
  exact this
theorem qzv (s:Str) (q:Nat) (hs:s.length≤200) (h1:1≤q) (h4:q≤4):qd8 s (q:Int)=some (qbl s q,0):=by
 have hlong:qe2 s=some false:=by
  have:¬((s.length:Int) > 200):=by omega
  simp [qe2,this]
 have hq1:¬((q:Int) < 1):=by omega
 have hq2:¬((q:Int) > 4):=by omega
 have hN:v4a.wrap (v4a.wrap ((s.length:Int)+(q:Int)) - 1)=((s.length+q - 1:Nat):Int):=by
  rw [q2c (x:=(s.length:Int)+(q:Int)) (by omega) (by omega),q2c (by omega) (by omega)];omega
 have hsift:=fun (x:Str) (out:List Str) (h:out.length < 1000)=>vkb ltS qeo 1000 (fun l=>by simp [qeo])
  (fun l k x y hk hx hy hl=>by
   have e1:((k+1:Nat):Int) > 0:=by omega
   have e2:v4a.wrap (((k+1:Nat):Int) - 1)=(k:Int):=by rw [q2c (by omega) (by omega)];omega
   have e3:(l.set (k+1) y)[k]?=some y:=by rw [List.getElem?_set_ne (by omega)];exact hy
   simp only [qeo,if_pos e1,qaa hx,e2,qaa hy,v1r,vn7,hl,if_true,v38,qaa e3])
  (fun l k x y hk hx hy hl=>by
   have e1:((k+1:Nat):Int) > 0:=by omega
   have e2:v4a.wrap (((k+1:Nat):Int) - 1)=(k:Int):=by rw [q2c (by omega) (by omega)];omega
   simp only [qeo,if_pos e1,qaa hx,e2,qaa hy,v1r,vn7,hl,vzo,if_false]) x out.length out [] rfl h
 have hL:=qos (v0z (s.length+q - 1)) (fun (out:List Str) (k:Int)=>(out,k)) (qgy s q (q66 s q)) (fun out i=>(Sum.inl (q3m ltS (qtu s q i) out):List Str ⊕ List Str)) id (fun k out=>out.length=k) (b0:=[]) (s0:=([],0)) rfl rfl
  (fun k b x hx hk hI=>by
   obtain ⟨rfl,hk⟩:=vab hx;refine ⟨fun b' hb=>?_,fun t ht=>by cases ht⟩;cases hb;have e1:((x:Nat):Int) < ((s.length+q - 1:Nat):Int):=by omega
   have e2:v4a.wrap ((x:Int)+(q:Int))=((x+q:Nat):Int):=by rw [q2c (by omega) (by omega)];omega
   have e3:(x:Int)≤((x+q:Nat):Int):=by omega
   have e4:((x+q:Nat):Int)≤((q66 s q).length:Int):=by rw [vac];omega
   have e5:v4a.wrap (((b.length+1:Nat):Int) - 1)=(b.length:Int):=by rw [q2c (by omega) (by omega)];omega
   refine ⟨?_,by rw [vd9,hI]⟩;simp only [qgy,hN,if_pos e1,e2,if_pos e3,if_pos e4,show (0:Int)≤(x:Int) by omega,if_true,vp4 (show b.length+1≤8000000000 by omega),v38,wqn x,e5];rw [show x+q - x=q by omega];have:=hsift (qtu s q x) b (by omega);rw [vzx] at this;unfold qtu at this;rw [this];rfl)
  (fun b hI=>by
   simp only [v2t,qgy,hN];simp)
 have hf:qux (fun out i=>(Sum.inl (q3m ltS (qtu s q i) out):List Str ⊕ List Str)) id (v0z (s.length+q - 1)) []=qbl s q:=by
  rw [q6w (fun out i=>q3m ltS (qtu s q i) out)];unfold qbl qxu qom;rw [List.foldl_map]
 rw [hf] at hL;simp only [qd8,hlong,v1r,vzo,if_false,hq1,hq2,vn9 s q hs h1 h4,hL]
theorem qlu {α:Type} {l:List α} {k:Nat} {x:α} (h:l[k]?=some x):l.drop k=x :: l.drop (k+1):=by
 obtain ⟨h1,h2⟩:=v0b.1 h;rw [List.drop_eq_getElem_cons h1,h2]
def q3n (x:Str):List Str→Nat
 | []=>0
 | y :: l=>if ltS y x then q3n x l+1 else 0
theorem vad (x:Str) (u:List Str):∀v:List Str,qtt ltS (x :: u) v=qtt ltS (x :: u) (v.drop (q3n x v))
 | []=>rfl
 | y :: v=>by
  simp only [q3n];by_cases h:ltS y x=true
  ·have h':ltS x y=false:=q65 _ _ h;rw [if_pos h,List.drop_succ_cons,←vad x u v];simp [qtt,h,h']
  ·rw [if_neg h];rfl
theorem vec (x:Str):∀v:List Str,q3n x v≤v.length
 | []=>v1f _
 | y :: v=>by simp only [q3n];split <;> simp [vec x v]
theorem vke (a b:List Str) (ha:a.length≤1000000) (hb:b.length≤1000000):qi0 a b=some ((qtt ltS a b:Nat):Int):=by
 have qwb:∀(i:Nat) (x:Str),a[i]?=some x→∀(m k:Nat),b.length - k=m→k≤b.length→qae (qdz a b (i:Int)) (k:Int)=some ((k+q3n x (b.drop k):Nat):Int):=by
  intro i x hx m
  induction m with
  | zero =>
   intro k hm hk;have e2:¬(k:Int) < (b.length:Int):=by omega
   rw [qad (t:=(k:Int)) (by simp only [qdz,if_neg e2]),vz0 (l:=b) (by omega)];rfl
  | succ m ih =>
   intro k hm hk;have h2:k < b.length:=by omega
   have g2:b[k]?=some b[k]:=vz9 h2;have e2:(k:Int) < (b.length:Int):=by omega
   rw [qlu g2];simp only [q3n];by_cases l:ltS b[k] x=true
   ·rw [qac (s':=((k+1:Nat):Int)) (by simp only [qdz,if_pos e2,qaa g2,qaa hx,v1r,vn7,l,if_true,wqn k]),ih (k+1) (by omega) (by omega),if_pos l];congr 2;omega
   ·rw [qad (t:=(k:Int)) (by simp only [qdz,if_pos e2,qaa g2,qaa hx,v1r,vn7,l,if_false,vzo]),if_neg l];rfl
 have key:∀(m i k n:Nat),a.length - i=m→i≤a.length→k≤b.length→n≤i→qae (qct a b) ((n:Int),(k:Int),(i:Int))=some ((n+qtt ltS (a.drop i) (b.drop k):Nat):Int):=by
  intro m
  induction m with
  | zero =>
   intro i k n hm hi hk hn;have e1:¬(i:Int) < (a.length:Int):=by omega
   rw [qad (t:=(n:Int)) (by simp only [qct,if_neg e1]),vz0 (l:=a) (by omega)];simp [qtt]
  | succ m ih =>
   intro i k n hm hi hk hn;have h1:i < a.length:=by omega
   have g1:a[i]?=some a[i]:=vz9 h1;have e1:(i:Int) < (a.length:Int):=by omega
   have hin:=qwb i _ g1 _ k rfl hk;rw [qlu g1,vad,v4h];have hk2:=vec a[i] (b.drop k);rw [v0i] at hk2;generalize hk':k+q3n a[i] (b.drop k)=k' at hin;have hle:k'≤b.length:=by omega
   by_cases h2:k' < b.length
   ·have g2:b[k']?=some b[k']:=vz9 h2;have e2:(k':Int) < (b.length:Int):=by omega
    rw [qlu g2];by_cases he:b[k']=a[i]
    ·rw [qac (s':=(((n+1:Nat):Int),((k'+1:Nat):Int),((i+1:Nat):Int))) (by
      simp only [qct,if_pos e1,hin,v1r,if_pos e2,qaa g1,qaa g2,he,beq_self_eq_true,if_true,wqn i,qk6 (show k' < 4611686018427387904 by omega),wqn n]),
      ih (i+1) (k'+1) (n+1) (by omega) (by omega) (by omega) (by omega)]
     rw [he];simp only [qtt,vsz,if_false,vzo];congr 2;omega
    · -- the next one is greater
     have hng:ltS b[k'] a[i]=false:=by
      have aux:∀(v:List Str) (y:Str),v[q3n a[i] v]?=some y→ltS y a[i]=false:=by
       intro v
       induction v with
       | nil=>intro y h;simp at h
       | cons z v ihv =>
        intro y h;simp only [q3n] at h;by_cases hz:ltS z a[i]=true
        ·rw [if_pos hz] at h;exact ihv y (by simpa using h)
        ·rw [if_neg hz] at h;simp only [List.getElem?_cons_zero,v1x] at h;subst h;simpa using hz
      refine aux (b.drop k) _ ?_;rw [vz8,hk'];exact g2
     have hgt:ltS a[i] b[k']=true:=by
      rcases v3u (ltS a[i] b[k']) with h | h
      ·exact h
      ·exact absurd (vp5 hng h) he
     have hbe:(b[k'] == a[i])=false:=by simpa using he
     rw [qac (s':=((n:Int),(k':Int),((i+1:Nat):Int))) (by
      simp only [qct,if_pos e1,hin,v1r,if_pos e2,qaa g1,qaa g2,hbe,if_false,vzo,wqn i]),
      ih (i+1) k' n (by omega) (by omega) (by omega) (by omega)]
     simp only [qtt,hgt,if_true];rw [qlu g2]
   ·have e2:¬(k':Int) < (b.length:Int):=by omega
    rw [qac (s':=((n:Int),(k':Int),((i+1:Nat):Int))) (by
     simp only [qct,if_pos e1,hin,v1r,if_neg e2,if_false,vzo,wqn i]),
     ih (i+1) k' n (by omega) (by omega) (by omega) (by omega)]
    rw [vz0 (l:=b) (by omega),vea,vea]
 have:=key _ 0 0 0 rfl (v3n _) (v3n _) (v1f _);simp only [v33,List.drop_zero,v1q] at this;simp only [qi0,this,v1r]
end Go.Proofs.YtmlegeeinnkhkaaGreat
namespace Go.Ab
inductive EdN {α:Type}:Nat→List α→List α→Prop
 | nil:EdN 0 [] []
 | keep {n:Nat} {a b:List α} {x:α}:EdN n a b→EdN n (a++[x]) (b++[x])
 | sub {n:Nat} {a b:List α} {x y:α}:EdN n a b→EdN (n+1) (a++[x]) (b++[y])
 | del {n:Nat} {a b:List α} {x:α}:EdN n a b→EdN (n+1) (a++[x]) b
 | ins {n:Nat} {a b:List α} {y:α}:EdN n a b→EdN (n+1) a (b++[y])
theorem EdN.len {α:Type} {n:Nat} {a b:List α} (h:EdN n a b):a.length≤b.length+n∧b.length≤a.length+n:=by
 induction h <;> simp only [v0h,v2u,v0k] at * <;> omega
def vyi {α:Type} (q:Nat) (w:List α):List (List α):=(v0z (w.length+1 - q)).map fun i=>(w.drop i).take q
theorem qrj {α:Type} (q:Nat) (w:List α) (x:α) (h:q≤w.length+1):vyi q (w++[x])=vyi q w++[(w++[x]).drop (w.length+1 - q)]:=by
 unfold vyi;rw [v0h,v2u,show w.length+1+1 - q=(w.length+1 - q)+1 by omega,v4t,v0o,v5i];congr 1
 ·apply v2w;intro i hi;rw [v3c] at hi;rw [List.drop_append_of_le_length (by omega),v5z (by rw [v0i];omega)]
 ·congr 1;apply v05;rw [v0i,v0h,v2u];omega
def EdI {α:Type} (q n:Nat) (a b:List α):Prop :=
 q≤a.length+1∧q≤b.length+1∧∃(u v t:List α) (C X Y:List (List α)),a=u++t∧b=v++t∧t.length≤q - 1 ∧
  (vyi q a).Perm (C++X)∧(vyi q b).Perm (C++Y)∧X.length+(q - 1)≤n * q+t.length∧Y.length+(q - 1)≤n * q+t.length
theorem qrk {α:Type} {l C X:List α} (g:α) (h:l.Perm (C++X)):(l++[g]).Perm (C++(X++[g])):=by
 rw [←vzw];exact h.append_right _
theorem q45 {α:Type} {l C X:List α} (g:α) (h:l.Perm (C++X)):(l++[g]).Perm ((C++[g])++X):=by
 refine (h.append_right _).trans ?_;rw [vzw,vzw];exact (List.perm_append_comm).append_left C
theorem EdI.keep {α:Type} {q n:Nat} {a b:List α} (hq:1≤q) (x:α) (h:EdI q n a b):EdI q n (a++[x]) (b++[x]):=by
 obtain ⟨ha,hb,u,v,t,C,X,Y,ea,eb,ht,hX,hY,lX,lY⟩:=h;refine ⟨by rw [v0h];omega,by rw [v0h];omega,?_⟩;rw [qrj q a x ha,qrj q b x hb];by_cases hs:t.length=q - 1
 ·have e1:(a++[x]).drop (a.length+1 - q)=t++[x]:=by
   rw [ea,vzw];rw [show (u++t).length+1 - q=u.length by rw [v0h];omega,List.drop_left]
  have e2:(b++[x]).drop (b.length+1 - q)=t++[x]:=by
   rw [eb,vzw];rw [show (v++t).length+1 - q=v.length by rw [v0h];omega,List.drop_left]
  rw [e1,e2];refine ⟨u++(t++[x]).take 1,v++(t++[x]).take 1,(t++[x]).drop 1,C++[t++[x]],X,Y,?_,?_,?_,q45 _ hX,q45 _ hY,?_,?_⟩
  ·rw [vzw,v3g,ea,vzw]
  ·rw [vzw,v3g,eb,vzw]
  all_goals (rw [v0i,v0h,v2u];omega)
 ·refine ⟨u,v,t++[x],C,X++[_],Y++[_],by rw [ea,vzw],by rw [eb,vzw],?_,qrk _ hX,qrk _ hY,?_,?_⟩
  all_goals (simp only [v0h,v2u];omega)
theorem EdI.keeps {α:Type} {q n:Nat} (hq:1≤q):∀(p:List α) {a b:List α},EdI q n a b→EdI q n (a++p) (b++p)
 | [],a,b,h=>by simpa using h
 | x :: p,a,b,h=>by
  have:=EdI.keeps hq p (h.keep hq x);simpa [vzw] using this
theorem EdI.sub {α:Type} {q n:Nat} {a b:List α} (hq:1≤q) (x y:α) (h:EdI q n a b):EdI q (n+1) (a++[x]) (b++[y]):=by
 obtain ⟨ha,hb,u,v,t,C,X,Y,ea,eb,ht,hX,hY,lX,lY⟩:=h;refine ⟨by rw [v0h];omega,by rw [v0h];omega,?_⟩;rw [qrj q a x ha,qrj q b y hb];refine ⟨a++[x],b++[y],[],C,X++[_],Y++[_],by simp,by simp,by simp,qrk _ hX,qrk _ hY,?_,?_⟩
 all_goals (simp only [v0h,v2u,v0k,v09,v1n];omega)
theorem EdI.del {α:Type} {q n:Nat} {a b:List α} (hq:1≤q) (x:α) (h:EdI q n a b):EdI q (n+1) (a++[x]) b:=by
 obtain ⟨ha,hb,u,v,t,C,X,Y,ea,eb,ht,hX,hY,lX,lY⟩:=h;refine ⟨by rw [v0h];omega,hb,?_⟩;rw [qrj q a x ha];refine ⟨a++[x],b,[],C,X++[_],Y,by simp,by simp,by simp,qrk _ hX,hY,?_,?_⟩
 all_goals (simp only [v0h,v2u,v0k,v09,v1n];omega)
theorem EdI.ins {α:Type} {q n:Nat} {a b:List α} (hq:1≤q) (y:α) (h:EdI q n a b):EdI q (n+1) a (b++[y]):=by
 obtain ⟨ha,hb,u,v,t,C,X,Y,ea,eb,ht,hX,hY,lX,lY⟩:=h;refine ⟨ha,by rw [v0h];omega,?_⟩;rw [qrj q b y hb];refine ⟨a,b++[y],[],C,X,Y++[_],by simp,by simp,by simp,hX,qrk _ hY,?_,?_⟩
 all_goals (simp only [v0h,v2u,v0k,v09,v1n];omega)
end Go.Ab
namespace Go.Proofs.YtmlegeeinnkhkaaGreat
open Go Go.Ab
end Go.Proofs.YtmlegeeinnkhkaaGreat
namespace Go.Ab
open Go
def dpN {α:Type} [DecidableEq α] (a b:List α):Nat→Nat→Nat
 | 0,k=>k
 | i+1,0=>i+1
 | i+1,k+1=>min (min (dpN a b i k+if a[i]?=b[k]? then 0 else 1) (dpN a b i (k+1)+1)) (dpN a b (i+1) k+1)
theorem voa {α:Type} [DecidableEq α] (a b:List α) (k:Nat):dpN a b 0 k=k:=by simp [dpN]
theorem ved {α:Type} [DecidableEq α] (a b:List α):∀i k,dpN a b i k≤i+k
 | 0,k=>by simp [dpN]
 | i+1,0=>by simp [dpN]
 | i+1,k+1=>by
  have:=ved a b i (k+1);simp only [dpN];omega
theorem q46 {α:Type} [DecidableEq α] (a b:List α):∀i k,i≤a.length→k≤b.length→EdN (dpN a b i k) (a.take i) (b.take k)
 | 0,0,_,_=>by simp only [dpN,v06];exact .nil
 | 0,k+1,hi,hk=>by
  have h:=q46 a b 0 k hi (by omega);have hx:b[k]?=some b[k]:=vz9 (by omega);simp only [dpN,v06] at *;rw [v5y,hx];exact h.ins
 | i+1,0,hi,hk=>by
  have h:=q46 a b i 0 (by omega) hk;have hx:a[i]?=some a[i]:=vz9 (by omega);have e:dpN a b i 0=i:=by cases i <;> simp [dpN]
  rw [e] at h;simp only [dpN,v06] at *;rw [v5y,hx];exact h.del
 | i+1,k+1,hi,hk=>by
  have h1:=q46 a b i k (by omega) (by omega);have h2:=q46 a b i (k+1) (by omega) hk;have h3:=q46 a b (i+1) k hi (by omega);have hx:a[i]?=some a[i]:=vz9 (by omega);have hy:b[k]?=some b[k]:=vz9 (by omega);have e1:a.take (i+1)=a.take i++[a[i]]:=by rw [v5y,hx];rfl
  have e2:b.take (k+1)=b.take k++[b[k]]:=by rw [v5y,hy];rfl
  have k1:EdN (dpN a b i k+if a[i]?=b[k]? then 0 else 1) (a.take (i+1)) (b.take (k+1)):=by
   rw [e1,e2];split
   ·rename_i h;rw [hx,hy] at h;rw [v3q h];exact h1.keep
   ·exact h1.sub
  have k2:EdN (dpN a b i (k+1)+1) (a.take (i+1)) (b.take (k+1)):=by rw [e1];exact h2.del
  have k3:EdN (dpN a b (i+1) k+1) (a.take (i+1)) (b.take (k+1)):=by
   rw [e2];exact h3.ins
  simp only [dpN];rcases v6e (dpN a b i k+if a[i]?=b[k]? then 0 else 1) (dpN a b i (k+1)+1) with c | c
  ·rw [v3j c];rcases v6e (dpN a b i k+if a[i]?=b[k]? then 0 else 1) (dpN a b (i+1) k+1) with d | d
   ·rw [v3j d];exact k1
   ·rw [v6g d];exact k3
  ·rw [v6g c];rcases v6e (dpN a b i (k+1)+1) (dpN a b (i+1) k+1) with d | d
   ·rw [v3j d];exact k2
   ·rw [v6g d];exact k3
def qnb {α:Type} [DecidableEq α] (a b:List α) (i n:Nat):List Int:=(v0z n).map fun k=>((dpN a b i k:Nat):Int)
theorem vae {α:Type} [DecidableEq α] (a b:List α) (i n:Nat):(qnb a b i n).length=n:=by simp [qnb]
theorem qxv {α:Type} [DecidableEq α] {a b:List α} {i n k:Nat} (h:k < n):(qnb a b i n)[k]?=some ((dpN a b i k:Nat):Int):=by
 unfold qnb;rw [v0c,v4n h];rfl
theorem q47 {α:Type} [DecidableEq α] (a b:List α) (i n:Nat):qnb a b i (n+1)=qnb a b i n++[((dpN a b i n:Nat):Int)]:=by
 unfold qnb;rw [v4t,v0o];rfl
end Go.Ab
namespace Go.Proofs.YtmlegeeinnkhkaaGreat
open Go Go.Ab
theorem vkf {n:Nat} (h:n≤8000000000):qal n 8=true:=by
 unfold qal;simp only [decide_eq_true_eq];omega
theorem vgo (b:List UInt8) (a:List UInt8) (hb:b.length≤1048576):qae (qc2 b) ([],0)=some (qnb a b 0 (b.length+1)):=by
 have key:∀(d k:Nat),k+d=b.length+1→qae (qc2 b) (qnb a b 0 k,(k:Int))=some (qnb a b 0 (b.length+1)):=by
  intro d
  induction d with
  | zero =>
   intro k hk;have e:k=b.length+1:=by omega
   subst e;have c:¬(((b.length+1:Nat):Int)≤(b.length:Int)):=by omega
   exact qad (by simp only [qc2,if_neg c])
  | succ d ih =>
   intro k hk;have c:((k:Int)≤(b.length:Int)):=by omega
   have hr:qal ((qnb a b 0 k).length+1) 8=true:=vkf (by rw [vae];omega);rw [qac (s':=(qnb a b 0 (k+1),((k+1:Nat):Int))) (by
    simp only [qc2,if_pos c,hr,if_true,wqn k,q47,voa])]
   exact ih (k+1) (by omega)
 exact key (b.length+1) 0 (by omega)
theorem vyj (x y:UInt8):((((x.toNat:Nat):Int) != ((y.toNat:Nat):Int))=true)↔¬x=y:=by
 rw [bne_iff_ne];constructor
 ·intro h e;exact h (by rw [e])
 ·intro h e;exact h (UInt8.toNat_inj.1 (by omega))
theorem min3 (x y z:Nat):(if ((z:Nat):Int) < (if ((y:Nat):Int) < ((x:Nat):Int) then ((y:Nat):Int) else ((x:Nat):Int)) then ((z:Nat):Int) else (if ((y:Nat):Int) < ((x:Nat):Int) then ((y:Nat):Int) else ((x:Nat):Int)))=((min (min x y) z:Nat):Int):=by
 split <;> split <;> omega
theorem vob (a b:List UInt8) (i:Nat) (hi:i < a.length) (ha:a.length≤1048576) (hb:b.length≤1048576) :
  qae (qc3 a b (qnb a b i (b.length+1)) (i:Int)) ([((i+1:Nat):Int)],0)=some (qnb a b (i+1) (b.length+1)):=by
 have key:∀(d k:Nat),k+d=b.length→qae (qc3 a b (qnb a b i (b.length+1)) (i:Int)) (qnb a b (i+1) (k+1),(k:Int))=some (qnb a b (i+1) (b.length+1)):=by
  intro d
  induction d with
  | zero =>
   intro k hk;have e:k=b.length:=by omega
   subst e;exact qad (by simp [qc3])
  | succ d ih =>
   intro k hk;have hkb:k < b.length:=by omega
   have c:((k:Int) < (b.length:Int)):=by omega
   have hx:a[i]?=some a[i]:=vz9 hi;have hy:b[k]?=some b[k]:=vz9 hkb;have hr:qal ((qnb a b (i+1) (k+1)).length+1) 8=true:=vkf (by rw [vae];omega);have g1:idx (qnb a b i (b.length+1)) (k:Int)=some ((dpN a b i k:Nat):Int):=qaa (qxv (by omega));have g2:idx (qnb a b i (b.length+1)) ((k+1:Nat):Int)=some ((dpN a b i (k+1):Nat):Int):=qaa (qxv (by omega));have g3:idx (qnb a b (i+1) (k+1)) (k:Int)=some ((dpN a b (i+1) k:Nat):Int):=qaa (qxv (by omega));have b1:=ved a b i k;have b2:=ved a b i (k+1);have b3:=ved a b (i+1) k;have w:=wqn k;have w1:=qk6 (show dpN a b i k < 4611686018427387904 by omega);have w2:=qk6 (show dpN a b i (k+1) < 4611686018427387904 by omega);have w3:=qk6 (show dpN a b (i+1) k < 4611686018427387904 by omega);rw [qac (s':=(qnb a b (i+1) (k+2),((k+1:Nat):Int))) (by
    simp only [qc3,if_pos c,g1,qaa hx,qaa hy,v1r,w,g2,g3,hr,if_true,w1,w2,w3,min3];rw [q47 a b (i+1) (k+1)];by_cases h:a[i]=b[k]
    ·rw [if_neg (fun q=>(vyj _ _).1 q h)];have e:dpN a b (i+1) (k+1)=min (min (dpN a b i k) (dpN a b i (k+1)+1)) (dpN a b (i+1) k+1):=by
      simp only [dpN,hx,hy,h,if_true,Nat.add_zero]
     rw [e]
    ·rw [if_pos ((vyj _ _).2 h)];have e:dpN a b (i+1) (k+1)=min (min (dpN a b i k+1) (dpN a b i (k+1)+1)) (dpN a b (i+1) k+1):=by
      have:¬(some a[i]=some b[k]):=fun q=>h (v3q q)
      simp only [dpN,hx,hy,this,if_false]
     rw [e])]
   exact ih (k+1) (by omega)
 have:=key b.length 0 (by omega);have e:qnb a b (i+1) 1=[((i+1:Nat):Int)]:=by simp [qnb,dpN]
 rw [e] at this;exact this
theorem vcx (a b:List UInt8) (ha:a.length≤1048576) (hb:b.length≤1048576):qen a b=some ((dpN a b a.length b.length:Nat):Int):=by
 have key:∀(d i:Nat),i+d=a.length→qae (qed a b) (qnb a b i (b.length+1),(i:Int))=some (qnb a b a.length (b.length+1)):=by
  intro d
  induction d with
  | zero =>
   intro i hi;have e:i=a.length:=by omega
   subst e;exact qad (by simp [qed])
  | succ d ih =>
   intro i hi;have c:((i:Int) < (a.length:Int)):=by omega
   rw [qac (s':=(qnb a b (i+1) (b.length+1),((i+1:Nat):Int))) (by
    simp only [qed,if_pos c,wqn i,vob a b i (by omega) ha hb,v1r])]
   exact ih (i+1) (by omega)
 have h:=key a.length 0 (by omega);simp only [v33] at h;simp only [qen,vgo b a hb,v1r,h,qaa (qxv (a:=a) (b:=b) (i:=a.length) (show b.length < b.length+1 by omega))]
end Go.Proofs.YtmlegeeinnkhkaaGreat
namespace Go.Ab
def sed {α:Type} [DecidableEq α]:List α→List α→Nat
 | [],b=>b.length
 | _ :: a,[]=>a.length+1
 | x :: a,y :: b=>if x=y then sed a b else 1+min (min (sed a b) (sed a (y :: b))) (sed (x :: a) b)
termination_by a b=>a.length+b.length
theorem qkz {α:Type} [DecidableEq α] (b:List α):sed [] b=b.length:=by rw [sed]
theorem qii {α:Type} [DecidableEq α] (a:List α):sed a []=a.length:=by cases a <;> rw [sed] <;> rfl
theorem qmw {α:Type} [DecidableEq α] (x:α) (a b:List α):sed (x :: a) (x :: b)=sed a b:=by rw [sed,if_pos rfl]
theorem qm4 {α:Type} [DecidableEq α] {x y:α} (h:x≠y) (a b:List α):sed (x :: a) (y :: b)=1+min (min (sed a b) (sed a (y :: b))) (sed (x :: a) b):=by rw [sed,if_neg h]
theorem EdN.front {α:Type} {n:Nat} {a b:List α} (x:α) (h:EdN n a b):EdN n (x :: a) (x :: b):=by
 induction h with
 | nil=>exact (EdN.nil).keep (x:=x)
 | keep _ ih=>exact ih.keep
 | sub _ ih=>exact ih.sub
 | del _ ih=>exact ih.del
 | ins _ ih=>exact ih.ins
theorem EdN.subF {α:Type} {n:Nat} {a b:List α} (x y:α) (h:EdN n a b):EdN (n+1) (x :: a) (y :: b):=by
 induction h with
 | nil=>exact (EdN.nil).sub (x:=x) (y:=y)
 | keep _ ih=>exact ih.keep
 | sub _ ih=>exact ih.sub
 | del _ ih=>exact ih.del
 | ins _ ih=>exact ih.ins
theorem EdN.delF {α:Type} {n:Nat} {a b:List α} (x:α) (h:EdN n a b):EdN (n+1) (x :: a) b:=by
 induction h with
 | nil=>exact (EdN.nil).del (x:=x)
 | keep _ ih=>exact ih.keep
 | sub _ ih=>exact ih.sub
 | del _ ih=>exact ih.del
 | ins _ ih=>exact ih.ins
theorem EdN.insF {α:Type} {n:Nat} {a b:List α} (y:α) (h:EdN n a b):EdN (n+1) a (y :: b):=by
 induction h with
 | nil=>exact (EdN.nil).ins (y:=y)
 | keep _ ih=>exact ih.keep
 | sub _ ih=>exact ih.sub
 | del _ ih=>exact ih.del
 | ins _ ih=>exact ih.ins
theorem EdN.nil_any {α:Type}:∀b:List α,EdN b.length [] b
 | []=>.nil
 | y :: b=>(EdN.nil_any b).insF y
theorem EdN.any_nil {α:Type}:∀a:List α,EdN a.length a []
 | []=>.nil
 | y :: b=>(EdN.any_nil b).delF y
theorem vgp (a b c:Nat):min (min a b) c=a∨min (min a b) c=b∨min (min a b) c=c:=by omega
theorem vee {α:Type} [DecidableEq α]:∀a b:List α,EdN (sed a b) a b
 | [],b=>by rw [qkz];exact EdN.nil_any b
 | x :: a,[]=>by rw [qii];exact EdN.any_nil (x :: a)
 | x :: a,y :: b=>by
  have h1:=vee a b;have h2:=vee a (y :: b);have h3:=vee (x :: a) b;by_cases h:x=y
  ·subst h;rw [qmw];exact h1.front x
  ·rw [qm4 h,v56];rcases vgp (sed a b) (sed a (y :: b)) (sed (x :: a) b) with e | e | e
   ·rw [e];exact h1.subF x y
   ·rw [e];exact h2.delF x
   ·rw [e];exact h3.insF y
termination_by a b=>a.length+b.length
theorem q67 {α:Type} [DecidableEq α] (z:α):∀a b:List α,sed (a++[z]) b≤sed a b+1
 | [],b=>by
  induction b with
  | nil=>rw [v0y,qii,qkz];simp
  | cons y b ih =>
   rw [v0y] at *;by_cases h:z=y
   ·subst h;rw [qmw,qkz,qkz,v2p];omega
   ·rw [qm4 h];simp only [qkz,v2p] at *;omega
 | x :: a,[]=>by rw [qii,qii];simp
 | x :: a,y :: b=>by
  have h1:=q67 z a b;have h2:=q67 z a (y :: b);have h3:=q67 z (x :: a) b;rw [v2e] at *;by_cases h:x=y
  ·subst h;rw [qmw,qmw];exact h1
  ·rw [qm4 h,qm4 h];omega
termination_by a b=>a.length+b.length
theorem q68 {α:Type} [DecidableEq α] (z:α):∀a b:List α,sed a (b++[z])≤sed a b+1
 | [],b=>by rw [qkz,qkz];simp
 | x :: a,[]=>by
  rw [v0y];by_cases h:x=z
  ·subst h;rw [qmw,qii,qii,v2p];omega
  ·rw [qm4 h,qii,qii,v2p];omega
 | x :: a,y :: b=>by
  have h1:=q68 z a b;have h2:=q68 z a (y :: b);have h3:=q68 z (x :: a) b;rw [v2e] at *;by_cases h:x=y
  ·subst h;rw [qmw,qmw];exact h1
  ·rw [qm4 h,qm4 h];omega
termination_by a b=>a.length+b.length
theorem qxw {α:Type} [DecidableEq α] (z:α):∀a b:List α,sed (a++[z]) (b++[z])≤sed a b
 | [],b=>by
  induction b with
  | nil=>rw [v0y,qmw];exact v1f _
  | cons y b ih =>
   rw [v0y] at *;rw [v2e];by_cases h:z=y
   ·subst h;rw [qmw,qkz,qkz,v2p];simp
   ·rw [qm4 h];simp only [qkz,v2p] at *;omega
 | x :: a,[]=>by
  have h1:=qxw z a [];rw [v0y] at *;rw [v2e];by_cases h:x=z
  ·subst h;rw [qmw,qii,qii];simp
  ·rw [qm4 h];simp only [qii,v2p] at *;omega
 | x :: a,y :: b=>by
  have h1:=qxw z a b;have h2:=qxw z a (y :: b);have h3:=qxw z (x :: a) b;rw [v2e,v2e] at *;by_cases h:x=y
  ·subst h;rw [qmw,qmw];exact h1
  ·rw [qm4 h,qm4 h];omega
termination_by a b=>a.length+b.length
theorem q2d {α:Type} [DecidableEq α] (z u:α):∀a b:List α,sed (a++[z]) (b++[u])≤sed a b+1
 | [],b=>by
  induction b with
  | nil =>
   rw [v0y,v0y];by_cases h:z=u
   ·subst h;rw [qmw];omega
   ·rw [qm4 h];simp only [qkz];simp
  | cons y b ih =>
   rw [v0y] at *;rw [v2e];by_cases h:z=y
   ·subst h;rw [qmw,qkz,qkz,v2p];simp
   ·rw [qm4 h];simp only [qkz,v2p] at *;omega
 | x :: a,[]=>by
  have h1:=q2d z u a [];rw [v0y] at *;rw [v2e];by_cases h:x=u
  ·subst h;rw [qmw,qii,qii];simp
  ·rw [qm4 h];simp only [qii,v2p] at *;omega
 | x :: a,y :: b=>by
  have h1:=q2d z u a b;have h2:=q2d z u a (y :: b);have h3:=q2d z u (x :: a) b;rw [v2e,v2e] at *;by_cases h:x=y
  ·subst h;rw [qmw,qmw];exact h1
  ·rw [qm4 h,qm4 h];omega
termination_by a b=>a.length+b.length
theorem vkg {α:Type} [DecidableEq α] {n:Nat} {a b:List α} (h:EdN n a b):sed a b≤n:=by
 induction h with
 | nil=>rw [qkz];exact v1f _
 | keep _ ih=>exact v1h (qxw _ _ _) ih
 | sub _ ih=>exact v1h (q2d _ _ _ _) (by omega)
 | del _ ih=>exact v1h (q67 _ _ _) (by omega)
 | ins _ ih=>exact v1h (q68 _ _ _) (by omega)
theorem qnc {α:Type} {a u:List α} {x:α} {i:Nat} (hi:i≤a.length) (h:u++[x]=a.take i):∃j,i=j+1∧u=a.take j∧a[j]?=some x:=by
 have hl:=congrArg v4o h;rw [v0h,v0n,v2u] at hl;cases i with
 | zero=>omega
 | succ j =>
  have hx:a[j]?=some a[j]:=vz9 (by omega);rw [v5y,hx] at h;have:=List.append_inj h (by rw [v0n];omega);refine ⟨j,rfl,this.1,?_⟩;rw [hx];simpa using this.2.symm
theorem vkh {α:Type} [DecidableEq α] (a b:List α) {n:Nat} {u v:List α} (h:EdN n u v):∀i k,i≤a.length→k≤b.length→u=a.take i→v=b.take k→dpN a b i k≤n:=by
 induction h with
 | nil =>
  intro i k hi hk hu hv;have h1:=congrArg v4o hu;have h2:=congrArg v4o hv;rw [v0n] at h1 h2;simp only [v0k] at h1 h2;have:i=0:=by omega
  have:k=0:=by omega
  subst i;subst k;simp [dpN]
 | keep _ ih =>
  intro i k hi hk hu hv;obtain ⟨i,rfl,hu,hx⟩:=qnc hi hu;obtain ⟨k,rfl,hv,hy⟩:=qnc hk hv;have:=ih i k (by omega) (by omega) hu hv;simp only [dpN,hx,hy,if_true];omega
 | sub _ ih =>
  intro i k hi hk hu hv;obtain ⟨i,rfl,hu,hx⟩:=qnc hi hu;obtain ⟨k,rfl,hv,hy⟩:=qnc hk hv;have:=ih i k (by omega) (by omega) hu hv;have h2:(if a[i]?=b[k]? then 0 else 1)≤1:=by split <;> omega
  simp only [dpN];omega
 | del _ ih =>
  intro i k hi hk hu hv;obtain ⟨i,rfl,hu,hx⟩:=qnc hi hu;have:=ih i k (by omega) hk hu hv;cases k with
  | zero=>cases i <;> simp only [dpN] at * <;> omega
  | succ k=>simp only [dpN];omega
 | ins _ ih =>
  intro i k hi hk hu hv;obtain ⟨k,rfl,hv,hx⟩:=qnc hk hv;have:=ih i k hi (by omega) hu hv;cases i with
  | zero=>simp only [dpN] at *;omega
  | succ i=>simp only [dpN];omega
theorem vs2 {α:Type} [DecidableEq α] (a b:List α):sed a b=dpN a b a.length b.length:=by
 have h1:=q46 a b a.length b.length (v1f _) (v1f _);rw [v52,v52] at h1;have h2:=vkg h1;have h3:=vkh a b (vee a b) a.length b.length (v1f _) (v1f _) v52.symm v52.symm;omega
end Go.Ab
namespace Go.Ab
open Go
theorem qur {n:Int} (h1:0≤n) (h2:n≤18446744073709551615):v4b.wrap n=n:=by
 simp only [IntKind.wrap,IntKind.signed,IntKind.bits];simp only [v4w,vzo,if_false];rw [show ((2:Int) ^ 64)=18446744073709551616 from rfl];omega
theorem voc {a:Nat} (ha:a < 4294967296):v42.wrap ((BitVec.ofInt 32 (a:Int) &&& (1#32)).toNat:Int)=((a % 2:Nat):Int):=by
 rw [bv_lt,BitVec.toNat_and,vwk ha];congr 1;have:(1#32).toNat=1:=rfl;rw [this,Nat.and_one_is_mod]
theorem vyk {i:Nat} (h:i < 32):2 ^ i < 4294967296:=v6k (by omega) h
theorem vod {i:Nat} (h:i < 32):v42.wrap (1 * 2 ^ (min i 32))=((2 ^ i:Nat):Int):=by
 rw [v3j (by omega),Int.one_mul];have:((2:Int) ^ i)=((2 ^ i:Nat):Int):=by simp
 rw [this];have h2:=vyk h;generalize 2 ^ i=p at h2 ⊢;exact vdy (by omega) (by omega)
theorem vs3 (a i:Nat):(((a / 2 ^ i % 2:Nat):Int) == 1)=a.testBit i:=by
 rw [Nat.testBit_eq_decide_div_mod_eq,v3v];simp only [beq_iff_eq,decide_eq_true_eq];omega
theorem vs4 {a:Nat} (ha:a < 4294967296) {i:Nat} (hi:i≤32):((v42.wrap ((BitVec.ofInt 32 (v30 (a:Int) (2 ^ (min i 32))) &&& (1#32)).toNat:Int)) == 1)=a.testBit i:=by
 rw [v3j hi,q6i,voc (Nat.lt_of_le_of_lt (v58 _ _) ha),vs3]
theorem vs5 {a n:Nat} (h:∀i,n≤i→a.testBit i=false):a < 2 ^ n:=Nat.lt_pow_two_of_testBit a h
theorem vyl {a n i:Nat} (h:a < 2 ^ n) (hi:n≤i):a.testBit i=false:=Nat.testBit_lt_two_pow (v1i h (v6j (by omega) hi))
end Go.Ab
namespace Go.Proofs.YtmlegeeinnkhkaaGreat
open Go Go.Ab
def qrl (n d:Nat):Ratio:=⟨((n / v59 n d:Nat):Int),((d / v59 n d:Nat):Int)⟩
theorem dmod {b y d c:Nat} (h:c+b * d=y) (hc:c < b):y / b=d∧y % b=c:=(Nat.div_mod_unique (by omega)).2 ⟨h,hc⟩
theorem qxx (n:Nat) (h:n < 4611686018427387904):qra (n:Int)=some (n:Int):=by
 simp only [qra];rw [if_neg (by omega),qur (by omega) (by omega)]
theorem q3o:∀(b a:Nat),qae qnl ((a:Int),(b:Int))=some ((v59 a b:Nat):Int):=by
 intro b
 induction b using v3k with
 | ind b ih =>
  intro a;by_cases hb:b=0
  ·subst hb;rw [qad (t:=(a:Int)) (by simp [qnl]),v6c]
  ·have h1:((b:Int) > 0):=by omega
   have h2:¬((b:Int)=0):=by omega
   have e:v34 (a:Int) (b:Int)=((a % b:Nat):Int):=by rw [v40]
   rw [qac (s':=((b:Int),((a % b:Nat):Int))) (by simp only [qnl,if_pos h1,if_neg h2,e]),ih (a % b) (v1k _ (by omega)) b];rw [v6a a b,Nat.gcd_rec b a,v6a]
theorem q69 (a b:Nat):qtn (a:Int) (b:Int)=some ((v59 a b:Nat):Int):=by
 simp only [qtn,q3o,v1r]
theorem voe (a b:Nat):Int.tdiv (a:Int) (b:Int)=((a / b:Nat):Int):=Int.ofNat_tdiv a b
theorem qqo (n d:Nat) (hn:n < 4611686018427387904) (hd:0 < d) (hd':d < 4611686018427387904):qmc (n:Int) (d:Int)=some (qrl n d,0):=by
 have hg:0 < v59 n d:=v6b _ hd;have h0:((d:Int) == 0)=false:=by simp;omega
 have hdn:n / v59 n d≤n:=v58 _ _;have hdd:d / v59 n d≤d:=v58 _ _;have hg0:¬((v59 n d:Nat):Int)=0:=by omega
 have e1:(decide ((n:Int) < 0))=false:=by simp
 have e2:(decide ((d:Int) < 0))=false:=by simp
 simp only [qmc,h0,vzo,if_false,qxx n hn,qxx d hd',v1r,q69,if_neg hg0,voe,e1,e2,qrl];generalize n / v59 n d=p at *;generalize d / v59 n d=q at *;rw [qur (n:=(p:Int)) (by omega) (by omega),qur (n:=(q:Int)) (by omega) (by omega)];have c1:¬((p:Int) > 9223372036854775807):=by omega
 have c2:¬((q:Int) > 9223372036854775807):=by omega
 simp only [q0j,if_neg c1,if_neg c2,beq_self_eq_true,v4x,vzo,if_false,v1r];rw [qaz (n:=(p:Int)) (by omega) (by omega),qaz (n:=(q:Int)) (by omega) (by omega)]
theorem q2e (a:Nat) (h:a < 4611686018427387904):qdq ⟨0,(a:Int)⟩ ⟨0,(a:Int)⟩=some ⟨0,((2 * a:Nat):Int)⟩:=by
 have e1:vr4 (a:Int) (a:Int) 0=some (((2 * a:Nat):Int),0):=by
  unfold vr4;rw [if_pos (by omega)];congr 2 <;> omega
 have e2:vr4 0 0 0=some (0,0):=by decide
 simp only [qdq,e1,e2,v1r]
theorem vgq (a b:Nat) (h:a < 9223372036854775808) (hb:b≤a):qhh ⟨0,(a:Int)⟩ ⟨0,(b:Int)⟩=some ⟨0,((a - b:Nat):Int)⟩:=by
 have e1:subF (a:Int) (b:Int) 0=some (((a - b:Nat):Int),0):=by
  unfold subF;rw [if_pos (by omega),if_neg (by omega)];congr 2;omega
 have e2:subF 0 0 0=some (0,0):=by decide
 simp only [qhh,e1,e2,v1r]
theorem q2f (a b:Nat):qc6 ⟨0,(a:Int)⟩ ⟨0,(b:Int)⟩=some (decide (a < b)):=by
 simp only [qc6];rw [if_neg (by omega),if_pos (by rfl)];simp
theorem vcy (a b k:Nat) (hb:0 < b) (hk:64≤k) (hk':k < 128):qbt ⟨0,(a:Int)⟩ ⟨0,(b:Int)⟩ (⟨0,0⟩,⟨0,0⟩,(k:Int))=some (.next (⟨0,0⟩,⟨0,0⟩,(k:Int) - 1)):=by
 have h1:(k:Int)≥0:=by omega
 have h2:(k:Int)≥64:=by omega
 have h3:v34 (k:Int) 64=((k % 64:Nat):Int):=v40 k 64;have h4:¬((k % 64:Nat):Int) < 0:=by omega
 have h5:qdq ⟨0,0⟩ ⟨0,0⟩=some ⟨0,0⟩:=q2e 0 (by omega);have h6:v4b.wrap ((0:Int)+(v34 (v30 0 (2 ^ (min (((k % 64:Nat):Int)).toNat 64))) 2))=0:=by rw [Int.zero_fdiv];rfl
 have h7:qc6 ⟨0,0⟩ ⟨0,(b:Int)⟩=some true:=by
  have:=q2f 0 b;rw [show decide (0 < b)=true by simp [hb]] at this;exact this
 have h8:v4a.wrap ((k:Int) - 1)=(k:Int) - 1:=qaz (by omega) (by omega);simp only [qbt,if_pos h1,if_pos h2,h3,if_neg h4,h5,v1r,h6,h7,if_true,h8]
theorem q6i (a k:Nat):v30 (a:Int) (2 ^ k)=((a / 2 ^ k:Nat):Int):=by
 have e:(2:Int) ^ k=((2 ^ k:Nat):Int):=by simp
 rw [e];exact (Int.ofNat_fdiv a (2 ^ k)).symm
theorem vcz (a b k:Nat) (ha:a < 4611686018427387904) (hb:0 < b) (hb':b < 2305843009213693952) (hk:k < 64) :
  qbt ⟨0,(a:Int)⟩ ⟨0,(b:Int)⟩ (⟨0,((a / 2 ^ (k+1) / b:Nat):Int)⟩,⟨0,((a / 2 ^ (k+1) % b:Nat):Int)⟩,(k:Int)) =
   some (.next (⟨0,((a / 2 ^ k / b:Nat):Int)⟩,⟨0,((a / 2 ^ k % b:Nat):Int)⟩,(k:Int) - 1)):=by
 have h1:(k:Int)≥0:=by omega
 have h2:¬(k:Int)≥64:=by omega
 have h3:v34 (k:Int) 64=(k:Int):=by
  have:v34 (k:Int) 64=((k % 64:Nat):Int):=v40 k 64;rw [this];omega
 have h4:¬(k:Int) < 0:=by omega
 have hx:a / 2 ^ k=2 * (a / 2 ^ (k+1))+a / 2 ^ k % 2:=by
  rw [Nat.pow_succ,←Nat.div_div_eq_div_mul];omega
 have hy:a / 2 ^ k≤a:=v58 _ _;have hbit:v34 (v30 (a:Int) (2 ^ (min ((k:Int)).toNat 64))) 2=((a / 2 ^ k % 2:Nat):Int):=by
  rw [v38,v3j (by omega),q6i];exact v40 _ 2
 have hbit2:a / 2 ^ k % 2 < 2:=v1k _ (by omega);generalize a / 2 ^ k % 2=bit at *;generalize a / 2 ^ k=y at *;generalize a / 2 ^ (k+1)=x at *;have hr:x % b < b:=v1k _ hb;have hq:x / b≤x:=v58 _ _;have hm:=Nat.mod_add_div x b;have p1:=q2e (x % b) (by omega);have p2:=q2e (x / b) (by omega);have h6:v4b.wrap (((2 * (x % b):Nat):Int)+(bit:Int))=((2 * (x % b)+bit:Nat):Int):=by
  rw [←Int.natCast_add];exact qur (by omega) (by omega)
 have h7:v4b.wrap (((2 * (x / b):Nat):Int)+1)=((2 * (x / b)+1:Nat):Int):=by
  rw [qur (by omega) (by omega)];omega
 have h8:v4a.wrap ((k:Int) - 1)=(k:Int) - 1:=qaz (by omega) (by omega);simp only [qbt,if_pos h1,if_neg h2,h3,if_neg h4,p1,p2,v1r,hbit,h6,h7,h8,q2f];have hmul:b * (2 * (x / b))=2 * (b * (x / b)):=by rw [Nat.mul_left_comm]
 by_cases hl:2 * (x % b)+bit < b
 ·obtain ⟨e1,e2⟩:=dmod (b:=b) (y:=y) (d:=2 * (x / b)) (c:=2 * (x % b)+bit) (by rw [hmul];omega) hl;simp only [hl,decide_true,if_true,e1,e2]
 ·obtain ⟨e1,e2⟩:=dmod (b:=b) (y:=y) (d:=2 * (x / b)+1) (c:=2 * (x % b)+bit - b) (by rw [Nat.mul_add,hmul,Nat.mul_one];omega) (by omega);have m1:=vgq (2 * (x % b)+bit) b (by omega) (by omega);simp only [hl,decide_false,vzo,if_false,m1,v1r,e1,e2]
theorem q7a (a b:Nat) (ha:a < 4611686018427387904) (hb:0 < b) (hb':b < 2305843009213693952):qfo ⟨0,(a:Int)⟩ ⟨0,(b:Int)⟩=some (⟨0,((a / b:Nat):Int)⟩,⟨0,((a % b:Nat):Int)⟩):=by
 have low:∀k:Nat,k≤64→qae (qbt ⟨0,(a:Int)⟩ ⟨0,(b:Int)⟩) (⟨0,((a / 2 ^ k / b:Nat):Int)⟩,⟨0,((a / 2 ^ k % b:Nat):Int)⟩,(k:Int) - 1)=some (⟨0,((a / b:Nat):Int)⟩,⟨0,((a % b:Nat):Int)⟩):=by
  intro k
  induction k with
  | zero =>
   intro _;rw [Nat.pow_zero,Nat.div_one];exact qad (by simp [qbt])
  | succ k ih =>
   intro hk;have e:((k+1:Nat):Int) - 1=(k:Int):=by omega
   rw [e,qac (vcz a b k ha hb hb' (by omega))];exact ih (by omega)
 have hz:a / 2 ^ 64=0:=Nat.div_eq_of_lt (by omega);have high:∀k:Nat,k≤64→qae (qbt ⟨0,(a:Int)⟩ ⟨0,(b:Int)⟩) (⟨0,0⟩,⟨0,0⟩,((64+k:Nat):Int) - 1)=some (⟨0,((a / b:Nat):Int)⟩,⟨0,((a % b:Nat):Int)⟩):=by
  intro k
  induction k with
  | zero =>
   intro _;have:=low 64 (v1f _);rw [hz,Nat.zero_div,Nat.zero_mod] at this;exact this
  | succ k ih =>
   intro hk;have e:((64+(k+1):Nat):Int) - 1=((64+k:Nat):Int):=by omega
   rw [e,qac (vcy a b (64+k) hb (by omega) (by omega))];exact ih (by omega)
 have:=high 64 (v1f _);simp only [qfo];rw [show (127:Int)=((64+64:Nat):Int) - 1 by omega,this];rfl
theorem vgr:∀(b a:Nat),a < 2305843009213693952→b < 2305843009213693952→qae qgx (⟨0,(a:Int)⟩,⟨0,(b:Int)⟩)=some ⟨0,((v59 a b:Nat):Int)⟩:=by
 intro b
 induction b using v3k with
 | ind b ih =>
  intro a ha hb;by_cases hz:b=0
  ·subst hz;rw [qad (t:=⟨0,(a:Int)⟩) (by simp [qgx,qiy]),v6c]
  ·have h1:qiy ⟨0,(b:Int)⟩=some false:=by
    simp only [qiy];rw [if_pos (by rfl)];congr 1;simp;omega
   rw [qac (s':=(⟨0,(b:Int)⟩,⟨0,((a % b:Nat):Int)⟩)) (by simp only [qgx,h1,v1r,vzo,if_false,q7a a b (by omega) (by omega) hb]),ih (a % b) (v1k _ (by omega)) b hb (Nat.lt_trans (v1k _ (by omega)) hb)];rw [v6a a b,Nat.gcd_rec b a,v6a]
theorem vaf (n d:Nat) (hn:n < 2305843009213693952) (hd:0 < d) (hd':d < 2305843009213693952):qkn (n:Int) (d:Int)=some (qrl n d,0):=by
 have hg:0 < v59 n d:=v6b _ hd;have hgd:v59 n d≤d:=Nat.gcd_le_right _ hd;have h0:((d:Int) == 0)=false:=by simp;omega
 have hdn:n / v59 n d≤n:=v58 _ _;have hdd:d / v59 n d≤d:=v58 _ _;have e1:(decide ((n:Int) < 0))=false:=by simp
 have e2:(decide ((d:Int) < 0))=false:=by simp
 have s1:∀m:Nat,m < 2305843009213693952→qiz (m:Int)=some ⟨0,(m:Int)⟩:=by
  intro m hm;simp only [qiz];rw [if_neg (by omega),qur (by omega) (by omega)]
 have l1:∀m:Nat,m < 2305843009213693952→qc6 ⟨0,9223372036854775807⟩ ⟨0,(m:Int)⟩=some false:=by
  intro m hm;have:=q2f 9223372036854775807 m;rw [show decide (9223372036854775807 < m)=false by simp;omega] at this;exact this
 simp only [qkn,h0,vzo,if_false,s1 n hn,s1 d hd',v1r,qlx,vgr d n hn hd',q7a n _ (by omega) hg (by omega),q7a d _ (by omega) hg (by omega),l1 _ (show n / v59 n d < 2305843009213693952 by omega),l1 _ (show d / v59 n d < 2305843009213693952 by omega),e1,e2,beq_self_eq_true,v4x];simp only [qrl];generalize n / v59 n d=p at *;generalize d / v59 n d=q at *;rw [qaz (n:=(p:Int)) (by omega) (by omega),qaz (n:=(q:Int)) (by omega) (by omega)]
theorem qy4 (n d:Nat) (hn:n < 2305843009213693952) (hd:0 < d) (hd':d < 2305843009213693952):qez (n:Int) (d:Int)=some (qrl n d):=by
 simp only [qez,vaf n d hn hd hd',v1r];rfl
theorem q7b:∀a b:List UInt8,qrg a b < 0↔ltS a b=true
 | [],[]=>by simp [qrg,ltS,List.lt_irrefl]
 | [],y :: b=>by simp [qrg,ltS]
 | x :: a,[]=>by simp [qrg,ltS]
 | x :: a,y :: b=>by
  simp only [qrg,ltS,decide_eq_true_eq,List.cons_lt_cons_iff];by_cases h:x=y
  ·subst h;have:=q7b a b;simp only [ltS,decide_eq_true_eq] at this;simp [this,UInt8.lt_irrefl]
  ·rw [if_neg h,q12];simp only [h,false_and,or_false,UInt8.lt_iff_toNat_lt];omega
theorem vki (a b:List UInt8):0 < qrg a b↔ltS b a=true:=by
 rw [←q7b b a,q61 a b];omega
theorem drop1 {α:Type} (x:α) (l:List α):(((x :: l).drop 1).take ((x :: l).length - 1))=l:=by simp
theorem vkj:∀(m:Nat) (a b:List Str) (n:Nat),a.length+b.length=m→n+a.length≤1000000→qae qcq (a,b,(n:Int))=some ((n+qtt ltS a b:Nat):Int):=by
 intro m
 induction m using v3k with
 | ind m ih =>
  intro a b n hm hn;cases a with
  | nil=>rw [qad (t:=(n:Int)) (by simp [qcq])];simp [qtt]
  | cons x a =>
   cases b with
   | nil=>rw [qad (t:=(n:Int)) (by simp [qcq])];simp [qtt]
   | cons y b =>
    have c1:((x :: a).length:Int) > 0:=by simp only [v2p];omega
    have c2:((y :: b).length:Int) > 0:=by simp only [v2p];omega
    have c3:(1:Int)≤((x :: a).length:Int):=by simp only [v2p];omega
    have c4:(1:Int)≤((y :: b).length:Int):=by simp only [v2p];omega
    have g1:(x :: a)[0]?=some x:=rfl;have g2:(y :: b)[0]?=some y:=rfl;have w:=wqn n;have hB:qcq (x :: a,y :: b,(n:Int))=if qrg x y < 0 then some (.next (a,y :: b,(n:Int))) else if qrg x y > 0 then some (.next (x :: a,b,(n:Int))) else some (.next (a,b,((n+1:Nat):Int))):=by
     simp only [qcq,if_pos c1,if_pos c2,if_pos c3,if_pos c4,g1,g2,v1r,qp7,drop1,w]
    simp only [v2p] at hm hn;by_cases h1:qrg x y < 0
    ·rw [if_pos h1] at hB;have l1:=(q7b x y).1 h1;rw [qac hB,ih _ (by simp only [v2p];omega) a (y :: b) n rfl (by omega)];simp only [qtt,l1,if_true]
    ·rw [if_neg h1] at hB;have l1:ltS x y=false:=by
      rcases v3u (ltS x y) with h | h
      ·exact absurd ((q7b x y).2 h) h1
      ·exact h
     by_cases h2:qrg x y > 0
     ·rw [if_pos h2] at hB;have l2:=(vki x y).1 h2;rw [qac hB,ih _ (by simp only [v2p];omega) (x :: a) b n rfl (by simp only [v2p];omega)];simp only [qtt,l1,l2,if_true,if_false,vzo]
     ·rw [if_neg h2] at hB;have l2:ltS y x=false:=by
       rcases v3u (ltS y x) with h | h
       ·exact absurd ((vki x y).2 h) h2
       ·exact h
      rw [qac hB,ih _ (by omega) a b (n+1) rfl (by omega)];simp only [qtt,l1,l2,if_false,vzo];congr 2;omega
theorem q3p (l:List Str) (f:Str→Option Bool) (p:Str→Bool) (hf:∀x∈l,f x=some (p x)) (hl:l.length≤1073741824):qcf l f=some (q99 (l.findIdx? p)):=by
 have h:=qjb l (qay l f) p
  (fun k x hx hk hp=>by simp [qay,qai hx,qaa hx,hf x (v0t hx),hp,qat hk (show l.length≤4611686018427387904 by omega)])
  (fun k x hx hp=>by simp [qay,qai hx,qaa hx,hf x (v0t hx),hp])
  (by simp [qay])
 simp only [qcf,h,v1r];cases l.findIdx? p <;> rfl
theorem q3q (l:List Int) (f:Int→Option Bool) (p:Int→Bool) (hf:∀x∈l,f x=some (p x)) (hl:l.length≤1073741824):qcr l f=some (q99 (l.findIdx? p)):=by
 have h:=qjb l (qa6 l f) p
  (fun k x hx hk hp=>by simp [qa6,qai hx,qaa hx,hf x (v0t hx),hp,qat hk (show l.length≤4611686018427387904 by omega)])
  (fun k x hx hp=>by simp [qa6,qai hx,qaa hx,hf x (v0t hx),hp])
  (by simp [qa6])
 simp only [qcr,h,v1r];cases l.findIdx? p <;> rfl
theorem q3r (l:List (List Similar)) (f:List Similar→Option Bool) (p:List Similar→Bool) (hf:∀x∈l,f x=some (p x)) (hl:l.length≤1073741824):qdf l f=some (q99 (l.findIdx? p)):=by
 have h:=qjb l (qbn l f) p
  (fun k x hx hk hp=>by simp [qbn,qai hx,qaa hx,hf x (v0t hx),hp,qat hk (show l.length≤4611686018427387904 by omega)])
  (fun k x hx hp=>by simp [qbn,qai hx,qaa hx,hf x (v0t hx),hp])
  (by simp [qbn])
 simp only [qdf,h,v1r];cases l.findIdx? p <;> rfl
theorem q3s (l:List Similar) (f:Similar→Option Bool) (p:Similar→Bool) (hf:∀x∈l,f x=some (p x)) (hl:l.length≤1073741824):qcp l f=some (q99 (l.findIdx? p)):=by
 have h:=qjb l (qbg l f) p
  (fun k x hx hk hp=>by simp [qbg,qai hx,qaa hx,hf x (v0t hx),hp,qat hk (show l.length≤4611686018427387904 by omega)])
  (fun k x hx hp=>by simp [qbg,qai hx,qaa hx,hf x (v0t hx),hp])
  (by simp [qbg])
 simp only [qcp,h,v1r];cases l.findIdx? p <;> rfl
theorem qnd (l:List Int) (f:Int→Option Bool) (p:Int→Bool) (hf:∀x∈l,f x=some (p x)) (hl:l.length≤1073741824):qar l f=some (l.any p):=by
 simp only [qar,q3q l f p hf hl,v1r];exact congrArg some (qsg p l)
theorem qy5 (l:List Similar) (f:Similar→Option Bool) (p:Similar→Bool) (hf:∀x∈l,f x=some (p x)) (hl:l.length≤1073741824):qbo l f=some (l.any p):=by
 simp only [qbo,q3s l f p hf hl,v1r];exact congrArg some (qsg p l)
theorem vkk (a b:Str) (ha:a.length≤200) (hb:b.length≤200):qdn [a,b]=some false:=by
 simp only [qdn,qco,q3p [a,b] (fun y=>qde y) (fun x=>decide ((x.length:Int) > 200)) (fun _ _=>rfl) (by simp),v1r];have h1:¬((a.length:Int) > 200):=by omega
 have h2:¬((b.length:Int) > 200):=by omega
 simp [v4l,h1,h2,q99]
def qzw (a b:Str) (i j:Nat):List Int:=(v0z (b.length+1)).map fun k=>if j≤k then ((sed (a.drop i) (b.drop k):Nat):Int) else 0
def qzx (a b:Str) (i j:Nat):List (List Int):=(v0z (a.length+1)).map fun k=>if i < k then qzw a b k 0 else if i=k then qzw a b k j else v01 (b.length+1) 0
theorem vkl {α:Type} [DecidableEq α]:∀a b:List α,sed a b≤a.length+b.length
 | [],b=>by rw [qkz];simp
 | x :: a,[]=>by rw [qii];simp
 | x :: a,y :: b=>by
  have h1:=vkl a b;have h2:=vkl a (y :: b);by_cases h:x=y
  ·subst h;rw [qmw];simp only [v2p];omega
  ·rw [qm4 h];simp only [v2p] at *;omega
termination_by a b=>a.length+b.length
theorem q7c (a b:Str) (i j:Nat):(qzw a b i j).length=b.length+1:=by simp [qzw]
theorem qus (a b:Str) (i j:Nat):(qzx a b i j).length=a.length+1:=by simp [qzx]
theorem qqb {a b:Str} {i j k:Nat} (h:k≤b.length):(qzw a b i j)[k]?=some (if j≤k then ((sed (a.drop i) (b.drop k):Nat):Int) else 0):=by
 simp only [qzw,v0c,v4n (show k < b.length+1 by omega),v1w]
theorem qqc {a b:Str} {i j k:Nat} (h:k≤a.length):(qzx a b i j)[k]?=some (if i < k then qzw a b k 0 else if i=k then qzw a b k j else v01 (b.length+1) 0):=by
 simp only [qzx,v0c,v4n (show k < a.length+1 by omega),v1w]
theorem vof (a b:Str) (i:Nat):qzw a b i (b.length+1)=v01 (b.length+1) 0:=by
 refine vz3 fun k=>?_
 by_cases h:k≤b.length
 ·rw [qqb h,v0e,if_neg (by omega),if_pos (by omega)]
 ·simp only [qzw,v0c,v0a (show (v0z (b.length+1)).length≤k by simp;omega),v0e];rw [if_neg (by omega)];rfl
theorem vog {a b:Str} {i j:Nat} (h:j≤b.length):(qzw a b i (j+1)).set j ((sed (a.drop i) (b.drop j):Nat):Int)=qzw a b i j:=by
 refine vz3 fun k=>?_
 rw [v2l];by_cases hk:k≤b.length
 ·rw [qqb hk,qqb hk,q7c];by_cases e:j=k
  ·subst e;simp;omega
  ·rw [if_neg e];congr 1;by_cases hjk:j≤k
   ·rw [if_pos hjk,if_pos (by omega)]
   ·rw [if_neg hjk,if_neg (by omega)]
 ·have h1:(qzw a b i (j+1))[k]?=none:=v0a (by rw [q7c];omega);have h2:(qzw a b i j)[k]?=none:=v0a (by rw [q7c];omega);rw [if_neg (by omega),h1,h2]
theorem voh {a b:Str} {i j:Nat} (hi:i≤a.length) (h:j≤b.length):(qzx a b i (j+1)).set i (qzw a b i j)=qzx a b i j:=by
 refine vz3 fun k=>?_
 rw [v2l];by_cases hk:k≤a.length
 ·rw [qqc hk,qqc hk,qus];by_cases e:i=k
  ·subst e;simp;omega
  ·rw [if_neg e];simp [e]
 ·have h1:(qzx a b i (j+1))[k]?=none:=v0a (by rw [qus];omega);have h2:(qzx a b i j)[k]?=none:=v0a (by rw [qus];omega);rw [if_neg (by omega),h1,h2]
theorem vkm {a b:Str} {i:Nat}:qzx a b (i+1) 0=qzx a b i (b.length+1):=by
 refine vz3 fun k=>?_
 by_cases hk:k≤a.length
 ·rw [qqc hk,qqc hk];congr 1;by_cases h1:i+1 < k
  ·rw [if_pos h1,if_pos (by omega)]
  ·rw [if_neg h1];by_cases h2:i+1=k
   ·subst h2;rw [if_pos rfl,if_pos (by omega)]
   ·rw [if_neg h2,if_neg (by omega)];by_cases h3:i=k
    ·rw [if_pos h3,vof]
    ·rw [if_neg h3]
 ·have h1:(qzx a b (i+1) 0)[k]?=none:=v0a (by rw [qus];omega);have h2:(qzx a b i (b.length+1))[k]?=none:=v0a (by rw [qus];omega);rw [h1,h2]
theorem vef {α:Type} (l:List α):l.drop l.length=[]:=List.drop_length
theorem vgs (a b:Str) (ha:a.length≤200) (hb:b.length≤200) (i:Nat) (hi:i≤a.length):∀(j:Nat),j≤b.length+1→qae (qbh a b (i:Int)) (qzx a b i j,(j:Int) - 1)=some (qzx a b i 0):=by
 intro j
 induction j with
 | zero=>intro _;exact qad (by simp [qbh])
 | succ j ih =>
  intro hj;have hj':j≤b.length:=by omega
  have e0:(((j+1:Nat):Int) - 1)=(j:Int):=by omega
  have c0:(j:Int)≥0:=by omega
  have gi:idx (qzx a b i (j+1)) (i:Int)=some (qzw a b i (j+1)):=by
   rw [qaa (qqc hi)];simp
  have gj:∀v,(qzw a b i (j+1))[j]?=some v→idx (qzw a b i (j+1)) (j:Int)=some v:=fun v h=>qaa h
  have gj0:idx (qzw a b i (j+1)) (j:Int)=some 0:=by rw [qaa (qqb hj'),if_neg (by omega)]
  have wj:v4a.wrap ((j:Int) - 1)=(j:Int) - 1:=qaz (by omega) (by omega);have wi:=wqn i;have wj1:=wqn j;rw [e0];refine (qac (s':=(qzx a b i j,(j:Int) - 1)) ?_).trans (ih (by omega));have key:∀v:Int,v=((sed (a.drop i) (b.drop j):Nat):Int)→(qzx a b i (j+1)).set (i:Int).toNat ((qzw a b i (j+1)).set (j:Int).toNat v)=qzx a b i j:=by
   intro v hv;rw [hv,v38,v38,vog hj',voh hi hj']
  by_cases h1:i=a.length
  ·have c1:((i:Int) == (a.length:Int))=true:=by simp [h1]
   have hv:v4a.wrap ((b.length:Int) - (j:Int))=((sed (a.drop i) (b.drop j):Nat):Int):=by
    rw [qaz (by omega) (by omega),h1,vef,qkz,v0i];omega
   simp only [qbh,if_pos c0,c1,if_true,gi,v1r,gj0,key _ hv,wj]
  ·have c1:((i:Int) == (a.length:Int))=false:=by simp;omega
   by_cases h2:j=b.length
   ·have c2:((j:Int) == (b.length:Int))=true:=by simp [h2]
    have hv:v4a.wrap ((a.length:Int) - (i:Int))=((sed (a.drop i) (b.drop j):Nat):Int):=by
     rw [qaz (by omega) (by omega),h2,vef,qii,v0i];omega
    simp only [qbh,if_pos c0,c1,c2,if_true,vzo,if_false,gi,v1r,gj0,key _ hv,wj]
   ·have c2:((j:Int) == (b.length:Int))=false:=by simp;omega
    have hia:i < a.length:=by omega
    have hjb:j < b.length:=by omega
    have ga:a[i]?=some a[i]:=vz9 hia;have gb:b[j]?=some b[j]:=vz9 hjb;have da:=qlu ga;have db:=qlu gb;have gi1:idx (qzx a b i (j+1)) ((i+1:Nat):Int)=some (qzw a b (i+1) 0):=by
     rw [qaa (qqc (show i+1≤a.length by omega))];simp
    have r1:idx (qzw a b (i+1) 0) ((j+1:Nat):Int)=some ((sed (a.drop (i+1)) (b.drop (j+1)):Nat):Int):=by
     rw [qaa (qqb (show j+1≤b.length by omega))];simp
    have r2:idx (qzw a b (i+1) 0) (j:Int)=some ((sed (a.drop (i+1)) (b.drop j):Nat):Int):=by
     rw [qaa (qqb hj')];simp
    have r3:idx (qzw a b i (j+1)) ((j+1:Nat):Int)=some ((sed (a.drop i) (b.drop (j+1)):Nat):Int):=by
     rw [qaa (qqb (show j+1≤b.length by omega))];simp
    by_cases h:a[i]=b[j]
    ·have c3:(((a[i].toNat:Nat):Int) == ((b[j].toNat:Nat):Int))=true:=by simp [h]
     have hv:((sed (a.drop (i+1)) (b.drop (j+1)):Nat):Int)=((sed (a.drop i) (b.drop j):Nat):Int):=by
      rw [da,db,h,qmw]
     simp only [qbh,if_pos c0,c1,c2,c3,if_true,vzo,if_false,qaa ga,qaa gb,gi,v1r,gj0,wi,wj1,gi1,r1,key _ hv,wj]
    ·have c3:(((a[i].toNat:Nat):Int) == ((b[j].toNat:Nat):Int))=false:=by
      rw [beq_eq_false_iff_ne];exact fun e=>h (UInt8.toNat_inj.1 (by omega))
     have hle:=vkl (a.drop i) (b.drop j);simp only [v0i] at hle;have hs:sed (a.drop i) (b.drop j)=1+min (min (sed (a.drop (i+1)) (b.drop (j+1))) (sed (a.drop (i+1)) (b.drop j))) (sed (a.drop i) (b.drop (j+1))):=by
      rw [da,db,qm4 h,←da,←db]
     have hv:v4a.wrap (1+(if ((sed (a.drop i) (b.drop (j+1)):Nat):Int) < (if ((sed (a.drop (i+1)) (b.drop j):Nat):Int) < ((sed (a.drop (i+1)) (b.drop (j+1)):Nat):Int) then ((sed (a.drop (i+1)) (b.drop j):Nat):Int) else ((sed (a.drop (i+1)) (b.drop (j+1)):Nat):Int)) then ((sed (a.drop i) (b.drop (j+1)):Nat):Int) else (if ((sed (a.drop (i+1)) (b.drop j):Nat):Int) < ((sed (a.drop (i+1)) (b.drop (j+1)):Nat):Int) then ((sed (a.drop (i+1)) (b.drop j):Nat):Int) else ((sed (a.drop (i+1)) (b.drop (j+1)):Nat):Int))))=((sed (a.drop i) (b.drop j):Nat):Int):=by
      rw [min3,hs];rw [hs] at hle;generalize min (min (sed (a.drop (i+1)) (b.drop (j+1))) (sed (a.drop (i+1)) (b.drop j))) (sed (a.drop i) (b.drop (j+1)))=m at *;rw [qaz (by omega) (by omega)];omega
     simp only [qbh,if_pos c0,c1,c2,c3,if_true,vzo,if_false,qaa ga,qaa gb,gi,v1r,gj0,wi,wj1,gi1,r1,r2,r3,key _ hv,wj]
theorem vgt (a b:Str) (ha:a.length≤200) (hb:b.length≤200):∀(i:Nat),i≤a.length+1→qae (qdo a b) (qzx a b i 0,(i:Int) - 1)=some (qzx a b 0 0):=by
 intro i
 induction i with
 | zero=>intro _;exact qad (by simp [qdo])
 | succ i ih =>
  intro hi;have e0:(((i+1:Nat):Int) - 1)=(i:Int):=by omega
  have c0:(i:Int)≥0:=by omega
  have wi:v4a.wrap ((i:Int) - 1)=(i:Int) - 1:=qaz (by omega) (by omega);have hin:=vgs a b ha hb i (by omega) (b.length+1) (v1f _);rw [←vkm,show (((b.length+1:Nat):Int) - 1)=(b.length:Int) by omega] at hin;rw [e0];refine (qac (s':=(qzx a b i 0,(i:Int) - 1)) ?_).trans (ih (by omega));simp only [qdo,if_pos c0,hin,v1r,wi]
theorem vkn {α:Type} {x y:α} {n k:Nat} (h:k < n):(v01 k y++v01 (n - k) x).set k y=v01 (k+1) y++v01 (n - (k+1)) x:=by
 rw [show n - k=(n - (k+1))+1 by omega,v5t,v5w _ _ (by simp),v0l,v3l,v5x,v5u,vzw];rfl
theorem vko (a b:Str) (ha:a.length≤200) (hb:b.length≤200):qae (qcg a b) (v01 (a.length+1) [],0)=some (qzx a b (a.length+1) 0):=by
 have w1:v4a.wrap ((a.length:Int)+1)=((a.length+1:Nat):Int):=qk6 (by omega);have w2:v4a.wrap ((b.length:Int)+1)=((b.length+1:Nat):Int):=qk6 (by omega);have hroom:qal (b.length+1) 8=true:=vkf (by omega);have h0:(0:Int)≤((b.length+1:Nat):Int):=by omega
 have key:∀(d k:Nat),k+d=a.length+1→qae (qcg a b) (v01 k (v01 (b.length+1) (0:Int))++v01 (a.length+1 - k) [],(k:Int))=some (v01 (a.length+1) (v01 (b.length+1) (0:Int))):=by
  intro d
  induction d with
  | zero =>
   intro k hk;obtain rfl:k=a.length+1:=by omega
   have c:¬(((a.length+1:Nat):Int) < (((v01 (a.length+1) ([]:List Int)).length:Nat):Int)):=by simp
   exact qad (by simp only [qcg,w1,v38,if_neg c,v3l,v5v,vzx])
  | succ d ih =>
   intro k hk;have c:((k:Int) < (((v01 (a.length+1) ([]:List Int)).length:Nat):Int)):=by simp;omega
   have g:idx (v01 k (v01 (b.length+1) (0:Int))++v01 (a.length+1 - k) []) (k:Int)=some []:=by
    refine qaa ?_;rw [v5d,v0l,if_neg (by omega),v0e,if_pos (by omega)]
   refine (qac (s':=(v01 (k+1) (v01 (b.length+1) (0:Int))++v01 (a.length+1 - (k+1)) [],((k+1:Nat):Int))) ?_).trans (ih (k+1) (by omega));simp only [qcg,w1,w2,v38,if_pos c,if_pos h0,hroom,if_true,g,v1r,wqn k,vkn (show k < a.length+1 by omega)]
 have h:=key (a.length+1) 0 (by omega);simp only [v5v,v0y,v1p,v33] at h;rw [h];congr 1;refine vz3 fun k=>?_
 by_cases hk:k≤a.length
 ·rw [qqc hk,v0e,if_pos (by omega),if_neg (by omega),if_neg (by omega)]
 ·have h2:(qzx a b (a.length+1) 0)[k]?=none:=v0a (by rw [qus];omega);rw [h2,v0e,if_neg (by omega)]
theorem vag (a b:Str) (ha:a.length≤200) (hb:b.length≤200):qgn a b=some (((sed a b:Nat):Int),0):=by
 have w1:v4a.wrap ((a.length:Int)+1)=((a.length+1:Nat):Int):=qk6 (by omega);have h0:(0:Int)≤((a.length+1:Nat):Int):=by omega
 have hroom:qal (a.length+1) 24=true:=by
  unfold qal;simp only [decide_eq_true_eq];omega
 have ho:=vgt a b ha hb (a.length+1) (v1f _);rw [show (((a.length+1:Nat):Int) - 1)=(a.length:Int) by omega] at ho;have hd:qfv a b=some (qzx a b 0 0):=by
  simp only [qfv,w1,v38,if_pos h0,hroom,if_true,vko a b ha hb,v1r,ho]
 have g1:(qzx a b 0 0)[0]?=some (qzw a b 0 0):=by rw [qqc (v3n _)];simp
 have g2:(qzw a b 0 0)[0]?=some ((sed a b:Nat):Int):=by rw [qqb (v3n _)];simp
 simp only [qgn,vkk a b ha hb,v1r,vzo,if_false,hd,g1,g2]
theorem vah (a b:Str) (ha:a.length≤200) (hb:b.length≤200):qen a b=some ((sed a b:Nat):Int):=by
 rw [vcx a b (by omega) (by omega),vs2]
def q8a (c:Similar):Bool :=
 if c.Measure=1 then decide (c.Limit=0) else if c.Measure=2∨c.Measure=4 then decide (0≤c.Limit∧c.Limit≤200) else if c.Measure=3 then decide (0≤c.Limit∧c.Limit≤100) else false
theorem q2g (c:Similar):qjr c=some (q8a c):=by
 simp only [qjr,q8a,beq_iff_eq];by_cases h1:c.Measure=1
 ·simp [h1];rw [v3v];simp
 by_cases h2:c.Measure=2
 ·simp [h2];split <;> simp [*] <;> omega
 by_cases h4:c.Measure=4
 ·simp [h4];split <;> simp [*] <;> omega
 by_cases h3:c.Measure=3
 ·simp [h3];split <;> simp [*] <;> omega
 simp [h1,h2,h3,h4]
theorem vkp (c:Similar):qly c=some (q8a c):=q2g c
def vAt (x:Row) (c:Similar):Value:=x.Values.getD c.Attr.toNat ⟨0,0,[]⟩
def qji (x y:Row) (c:Similar):Int :=
 if c.Attr < 0 then 6 else if c.Attr≥(x.Values.length:Int) then 6 else if c.Attr≥(y.Values.length:Int) then 6 else if qe6 (vAt x c) && (qe6 (vAt y c) && q8a c) then 0 else 1
def voi (a b:Str):Ratio:=qrl (2 * qtt ltS (qbl a 2) (qbl b 2)) ((qbl a 2).length+(qbl b 2).length)
def vs6 (a b:Str) (lim:Int):Bool:=decide (v4a.wrap (100 * (voi a b).Num)≥v4a.wrap (lim * (voi a b).Den))
def quz (s:Str) (n:Int):Nat:=min s.length n.toNat
def qo9 (v w:Value) (c:Similar):Bool :=
 if v.Kind≠2∨w.Kind≠2∨c.Measure=1 then decide (v=w)
 else if c.Measure=2 then decide (((sed v.Str w.Str:Nat):Int)≤c.Limit)
 else if c.Measure=3 then vs6 v.Str w.Str c.Limit
 else decide (v.Str.take (quz v.Str c.Limit)=w.Str.take (quz w.Str c.Limit))
def q48 (x y:Row) (c:Similar):Bool×Int:=if qji x y c=0 then (qo9 (vAt x c) (vAt y c) c,0) else (false,qji x y c)
theorem qtv {x:Row} {c:Similar} (h0:¬c.Attr < 0) (h1:¬c.Attr≥(x.Values.length:Int)):idx x.Values c.Attr=some (vAt x c):=by
 have e:c.Attr=((c.Attr.toNat:Nat):Int):=by omega
 have hlt:c.Attr.toNat < x.Values.length:=by omega
 rw [e,vb8,vAt,v2h,vz9 hlt];rfl
theorem qxy (a:Str):(qbl a 2).length=a.length+1:=by rw [vgn];omega
theorem q49 (a b:Str):qtt ltS (qbl a 2) (qbl b 2)≤a.length+1:=by
 have:=vsy ltS _ (qbl a 2) (qbl b 2) (v1f _)
 rwa [qxy] at this
theorem voj (a b:Str) (ha:a.length≤200) (hb:b.length≤200):qio a b 2=some (voi a b,0):=by
 have g1:=veb a 2 ha (by omega) (by omega);have g2:=veb b 2 hb (by omega) (by omega);have l1:=qxy a;have l2:=qxy b;have hc:=q49 a b;have hs:=vkj _ (qbl a 2) (qbl b 2) 0 rfl (by omega);simp only [v1q,v33] at hs;have w1:v4a.wrap (((qbl a 2).length:Int)+((qbl b 2).length:Int))=(((qbl a 2).length+(qbl b 2).length:Nat):Int):=by rw [qaz (by omega) (by omega)];omega
 have w2:v4a.wrap (2 * ((qtt ltS (qbl a 2) (qbl b 2):Nat):Int))=((2 * qtt ltS (qbl a 2) (qbl b 2):Nat):Int):=by rw [qaz (by omega) (by omega)];omega
 have z:((((qbl a 2).length+(qbl b 2).length:Nat):Int) == 0)=false:=by
  rw [beq_eq_false_iff_ne];omega
 have g1':qd3 a 2=some (qbl a 2,0):=g1;have g2':qd3 b 2=some (qbl b 2,0):=g2;have hsh:qin (qbl a 2) (qbl b 2)=some ((qtt ltS (qbl a 2) (qbl b 2):Nat):Int):=by
  simp only [qin,hs,v1r]
 have hm:=qqo (2 * qtt ltS (qbl a 2) (qbl b 2)) ((qbl a 2).length+(qbl b 2).length) (by omega) (by omega) (by omega);simp only [qio,vkk a b ha hb,v1r,vzo,if_false,g1',g2',w1,z,bne_self_eq_false,hsh,w2,hm];rfl
theorem vok (a b:Str) (ha:a.length≤200) (hb:b.length≤200):qi1 a b 2=some (voi a b,0):=by
 have g1':qd8 a 2=some (qbl a 2,0):=qzv a 2 ha (by omega) (by omega);have g2':qd8 b 2=some (qbl b 2,0):=qzv b 2 hb (by omega) (by omega);have l1:=qxy a;have l2:=qxy b;have hc:=q49 a b;have w1:v4a.wrap (((qbl a 2).length:Int)+((qbl b 2).length:Int))=(((qbl a 2).length+(qbl b 2).length:Nat):Int):=by rw [qaz (by omega) (by omega)];omega
 have w2:v4a.wrap (2 * ((qtt ltS (qbl a 2) (qbl b 2):Nat):Int))=((2 * qtt ltS (qbl a 2) (qbl b 2):Nat):Int):=by rw [qaz (by omega) (by omega)];omega
 have z:((((qbl a 2).length+(qbl b 2).length:Nat):Int) == 0)=false:=by
  rw [beq_eq_false_iff_ne];omega
 have hsh:=vke (qbl a 2) (qbl b 2) (by omega) (by omega);have hm:=qy4 (2 * qtt ltS (qbl a 2) (qbl b 2)) ((qbl a 2).length+(qbl b 2).length) (by omega) (by omega) (by omega);have n1:¬((a.length:Int) > 200):=by omega
 have n2:¬((b.length:Int) > 200):=by omega
 simp only [qi1,qe2,n1,n2,decide_false,v1r,vzo,if_false,g1',g2',w1,z,bne_self_eq_false,hsh,w2,hm];rfl
theorem qxz {v:Value} (h:qe6 v=true):v.Str.length≤200:=by
 simp only [qe6,decide_eq_true_eq] at h;rcases h with ⟨_,_,h⟩ | ⟨_,h⟩ | ⟨_,_,h⟩ | ⟨_,_,h⟩
 ·rw [h];simp
 ·rw [h];simp
 ·exact h
 ·rw [h];simp
theorem q5a {v:Value} (h:qe6 v=true) (k:v.Kind=2):v.Num=0:=by
 simp only [qe6,decide_eq_true_eq] at h;omega
theorem vs7 {v w:Value} (hv:qe6 v=true) (hw:qe6 w=true) (kv:v.Kind=2) (kw:w.Kind=2):(v.Str == w.Str)=decide (v=w):=by
 have n1:=q5a hv kv;have n2:=q5a hw kw;rw [v3v,beq_iff_eq,decide_eq_true_eq];obtain ⟨a,b,c⟩:=v;obtain ⟨a',b',c'⟩:=w;simp only at *;subst kv kw n1 n2;simp
theorem vkq {s:Str} {n:Int} (h:0≤n):(if (s.length:Int) < n then (s.length:Int) else n)=((quz s n:Nat):Int):=by
 unfold quz;split <;> omega
theorem vkr (v w:Value):((v.Kind == w.Kind) && ((v.Num == w.Num) && (v.Str == w.Str)))=decide (v=w):=by
 obtain ⟨a,b,c⟩:=v;obtain ⟨a',b',c'⟩:=w;rw [v3v];simp
theorem q5b {x y:Row} {c:Similar} (h:qji x y c=0):¬c.Attr < 0∧¬c.Attr≥(x.Values.length:Int)∧¬c.Attr≥(y.Values.length:Int)∧qe6 (vAt x c)=true∧qe6 (vAt y c)=true∧q8a c=true:=by
 unfold qji at h;split at h
 ·simp at h
 ·split at h
  ·simp at h
  ·split at h
   ·simp at h
   ·split at h
    ·rename_i h1 h2 h3 h4;simp only [vzm] at h4;exact ⟨h1,h2,h3,h4.1,h4.2.1,h4.2.2⟩
    ·simp at h
theorem vai {c:Similar} (h:q8a c=true):c.Measure=1∨((c.Measure=2∨c.Measure=3∨c.Measure=4)∧0≤c.Limit∧c.Limit≤200):=by
 unfold q8a at h;split at h
 ·exact .inl ‹_›
 ·split at h
  ·have:=of_decide_eq_true h;right;omega
  ·split at h
   ·have:=of_decide_eq_true h;right;omega
   ·simp at h
theorem vks (x y:Row) (c:Similar):qcd x y c=some (q48 x y c):=by
 by_cases hc:qji x y c=0
 ·obtain ⟨h0,h1,h2,hv,hw,hl⟩:=q5b hc;have sv:=qxz hv;have sw:=qxz hw;rw [q48,if_pos hc];simp only [qcd,if_neg h0,if_neg h1,if_neg h2,qtv h0 h1,qtv h0 h2,v1r,qng,hv,hw,if_true,q2g,hl,vkr];by_cases k1:(vAt x c).Kind=2
  ·by_cases k2:(vAt y c).Kind=2
   ·have b1:((vAt x c).Kind != 2)=false:=by rw [k1];rfl
    have b2:((vAt y c).Kind != 2)=false:=by rw [k2];rfl
    simp only [b1,b2,vzo,if_false,v1r,beq_iff_eq];rcases vai hl with hm | ⟨hm,hl0,hl2⟩
    ·have m2:¬c.Measure=2:=by omega
     have m3:¬c.Measure=3:=by omega
     have m4:¬c.Measure=4:=by omega
     simp only [if_neg m2,if_neg m3,if_neg m4,vs7 hv hw k1 k2];unfold qo9;rw [if_pos (.inr (.inr hm))]
    ·have m1:¬c.Measure=1:=by omega
     have hneg:¬((vAt x c).Kind≠2∨(vAt y c).Kind≠2∨c.Measure=1):=by simp [k1,k2,m1]
     unfold qo9;rw [if_neg hneg];by_cases m2:c.Measure=2
     ·simp only [if_pos m2,qk3,vag _ _ sv sw,v1r,beq_self_eq_true,if_true]
     ·by_cases m3:c.Measure=3
      ·simp only [if_neg m2,if_pos m3,voj _ _ sv sw,v1r,beq_self_eq_true,if_true,vs6]
      ·have m4:c.Measure=4:=by omega
       simp only [if_neg m2,if_neg m3,if_pos m4,vkq hl0,v38];have q1:(0:Int)≤((quz (vAt x c).Str c.Limit:Nat):Int):=by omega
       have q2:((quz (vAt x c).Str c.Limit:Nat):Int)≤((vAt x c).Str.length:Int):=by unfold quz;omega
       have q3:(0:Int)≤((quz (vAt y c).Str c.Limit:Nat):Int):=by omega
       have q4:((quz (vAt y c).Str c.Limit:Nat):Int)≤((vAt y c).Str.length:Int):=by unfold quz;omega
       rw [if_pos q1,if_pos q2,if_pos q3,if_pos q4];congr 2;rw [v3v];simp
   ·have b1:((vAt x c).Kind != 2)=false:=by rw [k1];rfl
    have b2:((vAt y c).Kind != 2)=true:=by simp [k2]
    simp only [b1,b2,vzo,if_false,v1r,if_true];unfold qo9;rw [if_pos (.inr (.inl k2))]
  ·have b1:((vAt x c).Kind != 2)=true:=by simp [k1]
   simp only [b1,if_true,v1r];unfold qo9;rw [if_pos (.inl k1)]
 ·rw [q48,if_neg hc];unfold qji at hc ⊢;by_cases h0:c.Attr < 0
  ·simp only [qcd,if_pos h0]
  by_cases h1:c.Attr≥(x.Values.length:Int)
  ·simp only [qcd,if_neg h0,if_pos h1]
  by_cases h2:c.Attr≥(y.Values.length:Int)
  ·simp only [qcd,if_neg h0,if_neg h1,if_pos h2]
  simp only [if_neg h0,if_neg h1,if_neg h2] at hc ⊢;simp only [qcd,if_neg h0,if_neg h1,if_neg h2,qtv h0 h1,qtv h0 h2,v1r,qng,q2g];rcases v3u (qe6 (vAt x c)) with a | a <;> rcases v3u (qe6 (vAt y c)) with b | b <;> rcases v3u (q8a c) with d | d <;> simp [a,b,d] at hc ⊢
theorem vkt (x y:Row) (c:Similar):qd6 x y c=some (qji x y c):=by
 unfold qji;by_cases h0:c.Attr < 0
 ·simp only [qd6,if_pos h0]
 by_cases h1:c.Attr≥(x.Values.length:Int)
 ·simp only [qd6,if_neg h0,if_pos h1]
 by_cases h2:c.Attr≥(y.Values.length:Int)
 ·simp only [qd6,if_neg h0,if_neg h1,if_pos h2]
 simp only [qd6,if_neg h0,if_neg h1,if_neg h2,qtv h0 h1,qtv h0 h2,v1r,qtq,vkp];rcases v3u (qe6 (vAt x c)) with a | a <;> rcases v3u (qe6 (vAt y c)) with b | b <;> rcases v3u (q8a c) with d | d <;> simp [a,b,d]
theorem vs8 (x y:Row) (c:Similar):qhk x y c=some (q48 x y c):=by
 by_cases hc:qji x y c=0
 ·obtain ⟨h0,h1,h2,hv,hw,hl⟩:=q5b hc;have sv:=qxz hv;have sw:=qxz hw;rw [q48,if_pos hc];simp only [qhk,vkt,hc,v1r,bne_self_eq_false,vzo,if_false,qtv h0 h1,qtv h0 h2];have hcmp:qb5 (vAt x c) (vAt y c)=some (qts (vAt x c) (vAt y c)):=qlt _ _ (by omega);have hdec:(qts (vAt x c) (vAt y c) == 0)=decide (vAt x c=vAt y c):=by
   rw [v3v,beq_iff_eq,decide_eq_true_eq,qse]
  by_cases k1:(vAt x c).Kind=2
  ·have b1:((vAt x c).Kind != 2)=false:=by rw [k1];rfl
   by_cases k2:(vAt y c).Kind=2
   ·have b2:((vAt y c).Kind != 2)=false:=by rw [k2];rfl
    simp only [b1,b2,vzo,if_false,v1r,beq_iff_eq];rcases vai hl with hm | ⟨hm,hl0,hl2⟩
    ·simp only [if_pos hm,hcmp,v1r,hdec];unfold qo9;rw [if_pos (.inr (.inr hm))]
    ·have m1:¬c.Measure=1:=by omega
     have hneg:¬((vAt x c).Kind≠2∨(vAt y c).Kind≠2∨c.Measure=1):=by simp [k1,k2,m1]
     unfold qo9;rw [if_neg hneg];by_cases m2:c.Measure=2
     ·simp only [if_neg m1,if_pos m2,vah _ _ sv sw,v1r]
     ·by_cases m3:c.Measure=3
      ·simp only [if_neg m1,if_neg m2,if_pos m3,vok _ _ sv sw,v1r,vs6]
      ·have m4:c.Measure=4:=by omega
       have q1:(0:Int)≤((quz (vAt x c).Str c.Limit:Nat):Int):=by omega
       have q2:((quz (vAt x c).Str c.Limit:Nat):Int)≤((vAt x c).Str.length:Int):=by unfold quz;omega
       have q3:(0:Int)≤((quz (vAt y c).Str c.Limit:Nat):Int):=by omega
       have q4:((quz (vAt y c).Str c.Limit:Nat):Int)≤((vAt y c).Str.length:Int):=by unfold quz;omega
       simp only [if_neg m1,if_neg m2,if_neg m3,qkp,vkq hl0,v38,if_pos q1,if_pos q2,if_pos q3,if_pos q4,v1r];congr 2;rw [v3v];simp
   ·have b2:((vAt y c).Kind != 2)=true:=by simp [k2]
    simp only [b1,b2,vzo,if_false,v1r,if_true,hcmp,hdec];unfold qo9;rw [if_pos (.inr (.inl k2))]
  ·have b1:((vAt x c).Kind != 2)=true:=by simp [k1]
   simp only [b1,if_true,v1r,hcmp,hdec];unfold qo9;rw [if_pos (.inl k1)]
 ·rw [q48,if_neg hc];have:(qji x y c != 0)=true:=by simp [hc]
  simp only [qhk,vkt,v1r,this,if_true]
end Go.Proofs.YtmlegeeinnkhkaaGreat
namespace Go.Ab
open Go
def qmx {α:Type} (f:α→Int):List α→Int
 | []=>0
 | x :: r=>if f x≠0 then f x else qmx f r
theorem q2h {α:Type} (l:List α) (B:Int→Option (LS Int (Unit ⊕ Int))) (f:α→Int)
  (h1:∀(k:Nat) x,l[k]?=some x→k < l.length→B k=if f x≠0 then some (.done (.inr (f x))) else some (.next (k+1:Nat))) (h3:B l.length=some (.done (.inl ()))) :
  qae B 0=some (if qmx f l=0 then .inl () else .inr (qmx f l)):=by
 have key:∀(r:List α) (k:Nat),l.drop k=r→k≤l.length→qae B (k:Int)=some (if qmx f r=0 then .inl () else .inr (qmx f r)):=by
  intro r
  induction r with
  | nil =>
   intro k hd hk;have:k=l.length:=by
    have:=congrArg v4o hd;simp at this;omega
   subst this;exact qad h3
  | cons x r ih =>
   intro k hd hk;have hx:l[k]?=some x:=by
    have:=congrArg (·[0]?) hd;simpa [vz8] using this
   have hd':l.drop (k+1)=r:=by rw [←v4h,hd];rfl
   have hB:=h1 k x hx (qan hx);by_cases hf:f x≠0
   ·rw [if_pos hf] at hB;rw [qad hB];simp only [qmx,if_pos hf];rw [if_neg hf]
   ·rw [if_neg hf] at hB;rw [qac hB,ih (k+1) hd' (qan hx)];simp only [qmx,if_neg hf]
 exact key l 0 (by simp) (v3n _)
theorem vc0 (zs:List Int) (x:Int):x∈v3r zs↔x∈zs:=by
 unfold v3r v43;simp only [v3a,v28,v3c];constructor
 ·rintro ⟨j,⟨hj,_⟩,rfl⟩;simp [getElem!_pos,hj]
 ·intro hx;have hlt:=List.idxOf_lt_length_of_mem hx;refine ⟨zs.idxOf x,⟨hlt,?_⟩,by simp [getElem!_pos,hlt]⟩;simp only [v47,decide_eq_true_eq];by_cases h0:zs.idxOf x=0
  ·exact .inl h0
  ·right;have h1:zs.idxOf x - 1 < zs.length:=by omega
   have e1:zs.toArray[zs.idxOf x]! = x:=by simp [getElem!_pos,hlt]
   have e2:zs.toArray[zs.idxOf x - 1]! = zs[zs.idxOf x - 1]:=by simp [getElem!_pos,h1]
   rw [e1,e2];intro e;have hm:=List.not_of_lt_findIdx (p:=fun y=>y == x) (xs:=zs) (i:=zs.idxOf x - 1) (by show zs.idxOf x - 1 < zs.idxOf x;omega);simp only [beq_eq_false_iff_ne,ne_eq] at hm;exact hm e.symm
theorem vc1 (zs:List Int) (hs:zs.Pairwise (·≤·)):(v3r zs).length=zs.length↔zs.Nodup:=by
 unfold v3r v43;rw [v0j]
 conv=>lhs;rhs;rw [←v2t (n:=zs.length)]
 rw [List.length_filter_eq_length_iff];simp only [v3c,v47,decide_eq_true_eq];rw [v5p] at hs;constructor
 ·intro h;refine v5p.2 fun i j hi hj hij e=>?_
  have hj1:j - 1 < zs.length:=by omega
  rcases h j hj with h0 | hne
  ·omega
  ·have e1:zs.toArray[j]! = zs[j]:=by simp [getElem!_pos,hj]
   have e2:zs.toArray[j - 1]! = zs[j - 1]:=by simp [getElem!_pos,hj1]
   rw [e1,e2] at hne;have l1:zs[j - 1]≤zs[j]:=hs (j - 1) j hj1 hj (by omega);have l2:zs[i]≤zs[j - 1]:=by
    rcases v6f (show i≤j - 1 by omega) with hlt | heq
    ·exact hs i (j - 1) hi hj1 hlt
    ·subst heq;exact v4y _
   omega
 ·intro h j hj;by_cases h0:j=0
  ·exact .inl h0
  ·right;have hj1:j - 1 < zs.length:=by omega
   have e1:zs.toArray[j]! = zs[j]:=by simp [getElem!_pos,hj]
   have e2:zs.toArray[j - 1]! = zs[j - 1]:=by simp [getElem!_pos,hj1]
   rw [e1,e2];intro e;exact (v5p.1 h) (j - 1) j hj1 hj (by omega) e.symm
end Go.Ab
namespace Go.Proofs.YtmlegeeinnkhkaaGreat
open Go Go.Ab
def q7d (n:Int) (c:Similar):Int:=if c.Attr < 0∨c.Attr≥n then 6 else if q8a c then 0 else 1
def q7e (n:Int) (l:List Similar):Int:=if l.length < 1∨l.length > 6 then 1 else qmx (q7d n) l
def vaj (n:Int) (l:List Int):Int:=if l.any (fun x=>decide (x < 0∨x≥n)) then 6 else if l.Nodup then 0 else 1
def vak (n:Int) (l:Linkage):Int :=
 if n < 0∨n > 16 then 7 else if l.Rules.length > 8 then 3
 else if qmx (q7e n) l.Rules≠0 then qmx (q7e n) l.Rules
 else if vaj n l.Block≠0 then vaj n l.Block
 else if (l.Survive.length:Int)≠n then 6
 else if l.Survive.any (fun x=>decide (x < 1∨x > 5)) then 1 else 0
def qtw:Value:=⟨0,0,[]⟩
theorem vc2:qe6 qtw=true:=by simp [qe6,qtw]
theorem q7f (m i:Int) (c:Similar) (n:Nat):qji ⟨m,v01 n qtw⟩ ⟨i,v01 n qtw⟩ c=q7d (n:Int) c:=by
 have hv:vAt ⟨m,v01 n qtw⟩ c=qtw∧vAt ⟨i,v01 n qtw⟩ c=qtw:=by
  simp only [vAt,v2h,v0e];split <;> exact ⟨rfl,rfl⟩
 simp only [qji,q7d,v0l,hv.1,hv.2,vc2,v3z];by_cases h0:c.Attr < 0
 ·simp [h0]
 ·by_cases h1:c.Attr≥(n:Int)
  ·simp [h0,h1]
  ·simp [h0,h1]
theorem vku (x y:Row) (c:Similar):(q48 x y c).2=qji x y c:=by
 unfold q48;split <;> simp [*]
theorem vs9 {n:Nat} (h:n≤1000000):qal n 32=true:=by
 unfold qal;simp only [decide_eq_true_eq];omega
theorem vym (n:Int) (l:Linkage) (hr:∀r∈l.Rules,r.length≤1000000) (hR:l.Rules.length≤1000000) (hb:l.Block.length≤1000000) (hs:l.Survive.length≤1000000):qhv n l=some (vak n l):=by
 unfold vak;by_cases h1:n < 0
 ·simp only [qhv,if_pos h1,if_pos (show n < 0∨n > 16 by omega)]
 by_cases h2:n > 16
 ·simp only [qhv,if_neg h1,if_pos h2,if_pos (show n < 0∨n > 16 by omega)]
 rw [if_neg (show ¬(n < 0∨n > 16) by omega)];by_cases h3:(l.Rules.length:Int) > 8
 ·simp only [qhv,if_neg h1,if_neg h2,if_pos h3,if_pos (show l.Rules.length > 8 by omega)]
 rw [if_neg (show ¬l.Rules.length > 8 by omega)];obtain ⟨m,rfl⟩:=v19 (show 0≤n by omega);have h0:(0:Int)≤(m:Int):=by omega
 have hroom:=vs9 (show m≤1000000 by omega);have hroomB:qal l.Block.length 8=true:=qrf (by omega);have hin:∀x∈l.Rules,qae (qhd (v01 m qtw) x) 0=some (if qmx (q7d (m:Int)) x=0 then .inl () else .inr (qmx (q7d (m:Int)) x)):=fun x hx =>
  q2h x (qhd (v01 m qtw) x) (q7d (m:Int)) (fun k y hy hk=>by
   have c:((k:Int) < (x.length:Int)):=by omega
   have:=hr x hx;simp only [qhd,if_pos c,qaa hy,v1r,vks,vku,q7f,bne_iff_ne,wqn k]) (by simp [qhd])
 have hL:=q2h l.Rules (qd4 l (v01 m qtw)) (q7e (m:Int)) (fun k x hx hk=>by
  have c:((k:Int) < (l.Rules.length:Int)):=by omega
  have w:=wqn k;unfold q7e;by_cases a1:(x.length:Int) < 1
  ·simp only [qd4,if_pos c,qaa hx,v1r,if_pos a1,if_pos (show x.length < 1∨x.length > 6 by omega)];simp
  by_cases a2:(x.length:Int) > 6
  ·simp only [qd4,if_pos c,qaa hx,v1r,if_neg a1,if_pos a2,if_pos (show x.length < 1∨x.length > 6 by omega)];simp
  simp only [qd4,if_pos c,qaa hx,v1r,if_neg a1,if_neg a2,if_neg (show ¬(x.length < 1∨x.length > 6) by omega),hin x (v0t hx),w];by_cases e:qmx (q7d (m:Int)) x=0 <;> simp [e]) (by simp [qd4])
 have hb':qar l.Block (fun y=>qip y (m:Int))=some (l.Block.any fun x=>decide (x < 0∨x≥(m:Int))):=qnd _ _ _ (fun x _=>by
  simp only [qip];by_cases a:x < 0 <;> simp [a]) (by omega)
 have hs':qar l.Survive (fun y=>qiq y)=some (l.Survive.any fun x=>decide (x < 1∨x > 5)):=qnd _ _ _ (fun x _=>by
  simp only [qiq];by_cases a:x < 1 <;> simp [a]) (by omega)
 have hsrt:q1i l.Block=some (qr2 l.Block):=if_pos (by omega);have hlen:(qr2 l.Block).length=l.Block.length:=(qo1 l.Block).length_eq;have hcpt:vma (qr2 l.Block)=some (v3r (qr2 l.Block)):=if_pos (by omega);have hnd:(v3r (qr2 l.Block)).length=l.Block.length↔l.Block.Nodup:=by
  rw [←hlen,vc1 _ (q1k _)];exact (qo1 l.Block).nodup_iff
 have hL':qae (qd4 l (v01 m ⟨0,0,[]⟩)) 0=some (if qmx (q7e (m:Int)) l.Rules=0 then .inl () else .inr (qmx (q7e (m:Int)) l.Rules)):=hL;simp only [qhv,if_neg h1,if_neg h2,if_neg h3,if_pos h0,v38,hroom,if_true,v1r,hL'];by_cases e:qmx (q7e (m:Int)) l.Rules=0
 ·simp only [e,if_true,ne_eq,not_true_eq_false,if_false,hb',v1r,hroomB,hsrt,hcpt];unfold vaj;rcases v3u (l.Block.any fun x=>decide (x < 0∨x≥(m:Int))) with q | q
  ·simp only [q,if_true];simp
  ·simp only [q,vzo,if_false,bne_iff_ne];by_cases nd:l.Block.Nodup
   ·have:=hnd.2 nd;rw [if_neg (show ¬(((v3r (qr2 l.Block)).length:Int)≠(l.Block.length:Int)) by omega),if_pos nd];simp only [not_true_eq_false,if_false,hs',v1r,ne_eq];by_cases s:(l.Survive.length:Int)=(m:Int)
    ·simp only [s,not_true_eq_false,if_false];rcases v3u (l.Survive.any fun x=>decide (x < 1∨x > 5)) with u | u <;> simp only [u] <;> simp
    ·simp [s]
   ·have:¬(v3r (qr2 l.Block)).length=l.Block.length:=fun h=>nd (hnd.1 h)
    rw [if_pos (show (((v3r (qr2 l.Block)).length:Int)≠(l.Block.length:Int)) by omega),if_neg nd];simp
 ·simp [e]
def lexN (x y:Nat):Prop:=vdz x < vdz y∨(vdz x=vdz y∧x < y)
instance (x y:Nat):Decidable (lexN x y):=by unfold lexN;exact inferInstance
end Go.Proofs.YtmlegeeinnkhkaaGreat
namespace Go.Ab
open Go
end Go.Ab
namespace Go.Proofs.YtmlegeeinnkhkaaGreat
open Go Go.Ab
theorem vgu {α ρ:Type} (s:Nat) (l:List α) (B:Int→Option (LS Int (Unit ⊕ ρ))) (p:Nat→α→Bool) (bad:ρ)
  (h1:∀(k:Nat) x,s≤k→l[k]?=some x→k < l.length→p k x=true→B k=some (.next (k+1:Nat))) (h2:∀(k:Nat) x,s≤k→l[k]?=some x→p k x=false→B k=some (.done (.inr bad)))
  (h3:∀k:Nat,s≤k→l.length≤k→B k=some (.done (.inl ()))) :
  ∀(r:List α) (k:Nat),s≤k→l.drop k=r→qae B (k:Int)=some (if qft p k r then .inl () else .inr bad):=by
 intro r
 induction r with
 | nil =>
  intro k hs hd;have:l.length≤k:=by
   have:=congrArg v4o hd;simp at this;omega
  exact qad (h3 k hs this)
 | cons x r ih =>
  intro k hs hd;have hx:l[k]?=some x:=by
   have:=congrArg (·[0]?) hd;simpa [vz8] using this
  have hd':l.drop (k+1)=r:=by rw [←v4h,hd];rfl
  rcases v3u (p k x) with hp | hp
  ·rw [qac (h1 k x hs hx (qan hx) hp),ih (k+1) (by omega) hd'];simp [qft,hp]
  ·rw [qad (h2 k x hs hx hp)];simp [qft,hp]
theorem q2i {α:Type} {p:Nat→α→Bool}:∀{l:List α} {k:Nat},qft p k l=true→∀{j:Nat} {x:α},l[j]?=some x→p (k+j) x=true
 | [],_,_,j,x,hx=>by simp at hx
 | y :: r,k,h,j,x,hx=>by
  simp only [qft,vzm] at h;cases j with
  | zero=>simp at hx;subst hx;exact h.1
  | succ j =>
   have:=q2i h.2 (j:=j) (x:=x) (by simpa using hx);rw [show k+(j+1)=k+1+j by omega];exact this
def veg (l:List Int):Bool:=qft (fun k x=>decide (l.getD (k - 1) 0 < x)) 1 (l.drop 1) && decide (0 < l.length)
theorem qqd (l:List Int) (hl:l.length≤1073741824):qh3 l=some (veg l):=by
 have h:=vgu 1 l (qcb l) (fun k x=>decide (l.getD (k - 1) 0 < x)) false
  (fun k x hs hx hk hp=>by
   have e:v4a.wrap ((k:Int) - 1)=((k - 1:Nat):Int):=by rw [qaz (by omega) (by omega)];omega
   obtain ⟨y,hy⟩:∃y,l[k - 1]?=some y:=⟨_,vz9 (by omega)⟩;have hg:l.getD (k - 1) 0=y:=by simp [v5c,hy]
   rw [hg,decide_eq_true_eq] at hp;have:¬x≤y:=by omega
   simp only [qcb,if_pos (qai hx),qaa hx,v1r,e,qaa hy,if_neg this,qat hk (show l.length≤4611686018427387904 by omega)])
  (fun k x hs hx hp=>by
   have hk:=qan hx;have e:v4a.wrap ((k:Int) - 1)=((k - 1:Nat):Int):=by rw [qaz (by omega) (by omega)];omega
   obtain ⟨y,hy⟩:∃y,l[k - 1]?=some y:=⟨_,vz9 (by omega)⟩;have hg:l.getD (k - 1) 0=y:=by simp [v5c,hy]
   rw [hg,decide_eq_false_iff_not] at hp;have:x≤y:=by omega
   simp only [qcb,if_pos (qai hx),qaa hx,v1r,e,qaa hy,if_pos this])
  (fun k hs hk=>by
   have:¬((k:Int) < (l.length:Int)):=by omega
   simp only [qcb,if_neg this]) (l.drop 1) 1 (v1f _) rfl
 have h':qae (qcb l) 1=_:=h;simp only [qh3,h',v1r,veg];have e:decide ((l.length:Int) > 0)=decide (0 < l.length):=by rw [v3v];simp
 cases qft (fun k x=>decide (l.getD (k - 1) 0 < x)) 1 (l.drop 1) <;> simp [e]
theorem qy6 (l:List Int) (hl:l.length≤1073741824):qke l=some (veg l):=qqd l hl
theorem vp6 {l:List Int} (h:veg l=true):∀(j k:Nat) {x y:Int},j < k→l[j]?=some x→l[k]?=some y→x < y:=by
 simp only [veg,vzm] at h;have step:∀(k:Nat) {x y:Int},l[k]?=some x→l[k+1]?=some y→x < y:=by
  intro k x y hx hy;have:=q2i h.1 (j:=k) (x:=y) (by rw [vz8,v56];exact hy);simp only [Nat.add_sub_cancel_left,decide_eq_true_eq,v5c,hx,Option.getD_some] at this;exact this
 intro j k
 induction k with
 | zero=>intro x y hjk;omega
 | succ k ih =>
  intro x y hjk hx hy;by_cases e:j=k
  ·subst e;exact step j hx hy
  ·obtain ⟨z,hz⟩:∃z,l[k]?=some z:=⟨_,vz9 (by have:=qan hy;omega)⟩;have:=ih (by omega) hx hz;have:=step k hz hy;omega
theorem vol {l:List Int} (h:veg l=true) {k:Nat} {x:Int} (hx:l[k]?=some x):x ∉ l.take k:=by
 intro hm;obtain ⟨j,hj⟩:=List.mem_iff_getElem?.1 hm;rw [v0f] at hj;split at hj
 ·rename_i hlt;have:=vp6 h j k hlt hj hx;omega
 ·cases hj
theorem q2j (l:List Int) (x:Int) (hl:l.length≤4611686018427387904):qdl l x=some (decide (x∈l)):=by
 have h:=qls l (qgd l x) (fun y=>!(y == x)) true
  (fun k y hx hk hp=>by
   simp only [vzq] at hp;simp only [qgd,if_pos (qai hx),qaa hx,v1r,hp,vzo,if_false,qat hk hl])
  (fun k y hx hp=>by
   simp only [v3w] at hp;simp only [qgd,if_pos (qai hx),qaa hx,v1r,hp,if_true])
  (by simp [qgd])
 simp only [qdl,h,v1r];by_cases hm:x∈l
 ·have:l.all (fun y=>!(y == x))=false:=by rw [List.all_eq_false];exact ⟨x,hm,by simp⟩
  simp [this,hm]
 ·have:l.all (fun y=>!(y == x))=true:=by
   rw [v2b];intro y hy;simp only [vzq,beq_eq_false_iff_ne];intro e;rw [e] at hy;exact hm hy
  simp [this,hm]
theorem q3t (l:List Int) (x:Int) (hl:l.length≤1073741824):qh7 l x=some (q99 (l.findIdx? (fun y=>x == y))):=by
 have h:=qjb l (qdi l x) (fun y=>x == y)
  (fun k y hx hk hp=>by simp only [qdi,if_pos (qai hx),qaa hx,v1r,hp,vzo,if_false,if_true,qat hk (show l.length≤4611686018427387904 by omega)])
  (fun k y hx hp=>by simp only [qdi,if_pos (qai hx),qaa hx,v1r,hp,if_true])
  (by simp [qdi])
 simp only [qh7,h,v1r];cases l.findIdx? (fun y=>x == y) <;> rfl
theorem qy7 (l:List Int) (x:Int) (hl:l.length≤1073741824):qe5 l x=some (decide (x∈l)):=by
 simp only [qe5,q3t l x hl,v1r];rw [qsg];congr 1;rw [v3v];simp
def qm2:List Int→List (List Int)→Bool
 | _,[]=>true
 | all,c :: cs=>veg c && c.all (fun x=>!decide (x∈all)) && qm2 (all++c) cs
theorem qx0 {K V:Type} [DecidableEq K] (m:List (K×V)) (k x:K) (v:V):qq7 (qyo m k v) x=if x=k then some v else qq7 m x:=by
 induction m with
 | nil=>simp [qyo,qq7]
 | cons p r ih =>
  obtain ⟨a,u⟩:=p;simp only [qyo];by_cases h:k=a
  ·subst h;simp only [if_pos,qq7];by_cases hx:x=k <;> simp [hx]
  ·simp only [if_neg h,qq7,ih];by_cases hx:x=a
   ·subst hx;have:¬x=k:=fun e=>h e.symm
    simp [this]
   ·simp [hx]
theorem veh {K V:Type} [DecidableEq K] (m:List (K×V)) (k:K) (v:V) (h:qq7 m k=none):(qyo m k v).length=m.length+1:=by
 induction m with
 | nil=>rfl
 | cons p r ih =>
  obtain ⟨a,u⟩:=p;simp only [qq7] at h;split at h
  ·cases h
  ·rename_i hn;simp only [qyo,if_neg hn,v2p,ih h]
def Holds (m:List (Int×Bool)) (all:List Int):Prop:=∀x,qq7 m x=if x∈all then some true else none
theorem q3u (c:List Int) (all:List Int) (hl:c.length≤1073741824) (hc:veg c=true):∀(r:List Int) (k:Nat) (m:List (Int×Bool)),c.drop k=r→k≤c.length→Holds m (all++c.take k) →
  ∃o,qae (qd2 c) (m,(k:Int))=some o∧(match o with | .inl m'=>Holds m' (all++c)∧r.all (fun x=>!decide (x∈all))=true∧m'.length=m.length+r.length | .inr z=>z=([],false)∧r.all (fun x=>!decide (x∈all))=false):=by
 intro r
 induction r with
 | nil =>
  intro k m hd hk hm;have hk':k=c.length:=by
   have:=congrArg v4o hd;simp at this;omega
  subst hk';refine ⟨.inl m,qad (by simp [qd2]),?_⟩;simp only [v52] at hm;exact ⟨hm,rfl,rfl⟩
 | cons x r ih =>
  intro k m hd hk hm;have hx:c[k]?=some x:=by
   have:=congrArg (·[0]?) hd;simpa [vz8] using this
  have hd':c.drop (k+1)=r:=by rw [←v4h,hd];rfl
  have hlt:=qan hx;have hnt:=vol hc hx;by_cases ha:x∈all
  ·have hg:((qq7 m x).getD false)=true:=by rw [hm x,if_pos (by simp [ha])];rfl
   refine ⟨.inr ([],false),qad ?_,rfl,?_⟩
   ·simp only [qd2,if_pos (qai hx),qaa hx,v1r,hg,if_true]
   ·simp [ha]
  ·have hn:qq7 m x=none:=by rw [hm x,if_neg (by simp [ha,hnt])]
   have hg:((qq7 m x).getD false)=false:=by rw [hn];rfl
   have hm':Holds (qyo m x true) (all++c.take (k+1)):=by
    intro y;rw [qx0,hm y];have ht:c.take (k+1)=c.take k++[x]:=by rw [v5y,hx];rfl
    rw [ht];by_cases hy:y=x
    ·subst hy;simp
    ·simp [hy]
   obtain ⟨o,h1,h2⟩:=ih (k+1) (qyo m x true) hd' hlt hm';refine ⟨o,?_,?_⟩
   ·rw [qac (s':=(qyo m x true,((k+1:Nat):Int))) (by simp only [qd2,if_pos (qai hx),qaa hx,v1r,hg,vzo,if_false,qat hlt (show c.length≤4611686018427387904 by omega)])];exact h1
   ·cases o with
    | inl m' =>
     simp only at h2 ⊢;refine ⟨h2.1,by simp only [vzv,h2.2.1,ha,decide_false,Bool.not_false,Bool.and_self],?_⟩;rw [h2.2.2,veh m x true hn,v2p];omega
    | inr z =>
     simp only at h2 ⊢;refine ⟨h2.1,?_⟩;simp only [vzv,h2.2,v4v]
theorem q3v (cs:List (List Int)) (hl:cs.length≤1073741824) (hc:∀c∈cs,c.length≤1073741824):∀(r:List (List Int)) (k:Nat) (m:List (Int×Bool)) (all:List Int),cs.drop k=r→k≤cs.length→Holds m all→m.length=all.length →
  ∃o,qae (qcy cs) (m,(k:Int))=some o∧(match o with | .inl m'=>Holds m' (all++r.flatten)∧qm2 all r=true∧m'.length=(all++r.flatten).length | .inr z=>z=([],false)∧qm2 all r=false):=by
 intro r
 induction r with
 | nil =>
  intro k m all hd hk hm hlen;have hk':k=cs.length:=by
   have:=congrArg v4o hd;simp at this;omega
  subst hk';exact ⟨.inl m,qad (by simp [qcy]),by simpa using hm,rfl,by simpa using hlen⟩
 | cons c r ih =>
  intro k m all hd hk hm hlen;have hx:cs[k]?=some c:=by
   have:=congrArg (·[0]?) hd;simpa [vz8] using this
  have hd':cs.drop (k+1)=r:=by rw [←v4h,hd];rfl
  have hlt:=qan hx;have hcl:=hc c (v0t hx);by_cases ha:veg c=true
  ·obtain ⟨o,h1,h2⟩:=q3u c all hcl ha c 0 m rfl (v3n _) (by simpa using hm);simp only [v33] at h1;cases o with
   | inl m' =>
    simp only at h2;obtain ⟨o',h3,h4⟩:=ih (k+1) m' (all++c) hd' hlt h2.1 (by rw [h2.2.2,hlen];simp);refine ⟨o',?_,?_⟩
    ·rw [qac (s':=(m',((k+1:Nat):Int))) (by simp only [qcy,if_pos (qai hx),qaa hx,v1r,qqd c hcl,ha,if_true,h1,qat hlt (show cs.length≤4611686018427387904 by omega)])];exact h3
    ·have e:qm2 all (c :: r)=qm2 (all++c) r:=by simp only [qm2,ha,h2.2.1,v3z]
     rw [e];cases o' with
     | inl m''=>simpa [v5b,vzw] using h4
     | inr z=>exact h4
   | inr z =>
    simp only at h2;refine ⟨.inr z,qad ?_,h2.1,?_⟩
    ·simp only [qcy,if_pos (qai hx),qaa hx,v1r,qqd c hcl,ha,if_true,h1]
    ·simp only [qm2,h2.2,v4v,v4w]
  ·simp only [v3x] at ha;refine ⟨.inr ([],false),qad ?_,rfl,?_⟩
   ·simp only [qcy,if_pos (qai hx),qaa hx,v1r,qqd c hcl,ha,vzo,if_false]
   ·simp only [qm2,ha,v4w]
theorem vc3 (cs:List (List Int)) (hl:cs.length≤1073741824) (hc:∀c∈cs,c.length≤1073741824) :
  ∃m,qi8 cs=some (m,qm2 [] cs)∧(qm2 [] cs=true→Holds m cs.flatten∧m.length=cs.flatten.length):=by
 obtain ⟨o,h1,h2⟩:=q3v cs hl hc cs 0 [] [] rfl (v3n _) (fun x=>by simp [qq7]) rfl;simp only [v33] at h1;simp only [qi8,h1,v1r];cases o with
 | inl m' =>
  simp only [v0y] at h2;exact ⟨m',by simp [h2.2.1],fun _=>⟨h2.1,h2.2.2⟩⟩
 | inr z =>
  simp only at h2;refine ⟨[],by rw [h2.1,h2.2],fun h=>?_⟩;rw [h2.2] at h;cases h
theorem vta (cs:List (List Int)) (hl:cs.length≤1048576) (hc:∀c∈cs,c.length≤1048576):qkq cs=some (qm2 [] cs):=by
 have key:∀(r:List (List Int)) (k:Nat) (all:List Int),cs.drop k=r→k≤cs.length→all.length≤k * 1048576→qae (qds cs) (all,(k:Int))=some (if qm2 all r then .inl () else .inr false):=by
  intro r
  induction r with
  | nil =>
   intro k all hd hk hm;have hk':k=cs.length:=by
    have:=congrArg v4o hd;simp at this;omega
   subst hk';exact qad (by simp [qds,qm2])
  | cons c r ih =>
   intro k all hd hk hm;have hx:cs[k]?=some c:=by
    have:=congrArg (·[0]?) hd;simpa [vz8] using this
   have hd':cs.drop (k+1)=r:=by rw [←v4h,hd];rfl
   have hlt:=qan hx;have hcl:=hc c (v0t hx);have hin:=qls c (qfb cs all k) (fun x=>!decide (x∈all)) false
    (fun j x hj hjk hp=>by
     simp only [vzq,decide_eq_false_iff_not] at hp;simp only [qfb,qaa hx,v1r,if_pos (qai hj),qaa hj,q2j all x (by omega),hp,decide_false,vzo,if_false,qat hjk (show c.length≤4611686018427387904 by omega)])
    (fun j x hj hp=>by
     simp only [v3w,decide_eq_true_eq] at hp;simp only [qfb,qaa hx,v1r,if_pos (qai hj),qaa hj,q2j all x (by omega),hp,decide_true,if_true])
    (by simp [qfb,qaa hx])
   by_cases ha:veg c=true
   ·rcases v3u (c.all fun x=>!decide (x∈all)) with hall | hall
    ·have hroom:qal (all.length+c.length) 8=true:=qrf (by omega);rw [hall] at hin;rw [qac (s':=(all++c,((k+1:Nat):Int))) (by simp only [qds,if_pos (qai hx),qaa hx,v1r,qy6 c (by omega),ha,if_true,hin,hroom,qat hlt (show cs.length≤4611686018427387904 by omega)]),
      ih (k+1) (all++c) hd' hlt (by simp;omega)]
     simp only [qm2,ha,hall,v3z]
    ·rw [hall] at hin;rw [qad (t:=.inr false) (by simp only [qds,if_pos (qai hx),qaa hx,v1r,qy6 c (by omega),ha,if_true,hin,vzo,if_false])];simp only [qm2,hall,v4v,v4w,vzo,if_false]
   ·simp only [v3x] at ha;rw [qad (t:=.inr false) (by simp only [qds,if_pos (qai hx),qaa hx,v1r,qy6 c (by omega),ha,vzo,if_false])];simp only [qm2,ha,v4w,vzo,if_false]
 have h:=key cs 0 [] rfl (v3n _) (by simp);simp only [v33] at h;simp only [qkq,h,v1r];cases qm2 [] cs <;> rfl
def cl (m:Merged) (k:Nat):List Int:=m.Clusters.getD k []
theorem vei {l:List Int} (h:l≠[]):l[0]?=some (l.headD 0):=by
 cases l with
 | nil=>exact absurd rfl h
 | cons x r=>rfl
def Fits (a:Row) (l:List Int):Prop:=∀i∈l,0≤i∧i < (a.Values.length:Int)
theorem vom {a:Row} {l:List Int} (h:Fits a l) {i:Int} (hi:i∈l):idx a.Values i=some (qav a i.toNat):=by
 obtain ⟨h1,h2⟩:=h i hi;have hg:a.Values[i.toNat]?=some (qav a i.toNat):=by
  have hlt:i.toNat < a.Values.length:=by omega
  simp [qav,v5c,vz9 hlt]
 have:=qaa hg
 rwa [Int.toNat_of_nonneg h1] at this
def vp7 (a:Row):Prop:=∀v∈a.Values,v.Str.length≤1073741824
def vtb (a b:Row):List Int→Int
 | []=>0
 | i :: l=>if qts (qav a i.toNat) (qav b i.toNat)≠0 then qts (qav a i.toNat) (qav b i.toNat) else vtb a b l
theorem drop_take {α:Type} (l:List α) (n:Nat):(l.drop n).take (l.length - n)=l.drop n:=by
 apply v05;rw [v0i];exact v1f _
def vhp (s i:Int):Bool:=(v42.wrap ((BitVec.ofInt 32 (v30 s (2 ^ (min i.toNat 32))) &&& (1#32)).toNat:Int)) == 1
def mx (a b:Int):Int:=if b > a then b else a
theorem q5c {α:Type} (p:α→Bool):∀(l:List α) {i:Nat},l.findIdx? p=some i→i < l.length
 | [],i,h=>by simp at h
 | x :: r,i,h=>by
  rw [v4l] at h;split at h
  ·cases h;simp
  ·cases hr:r.findIdx? p with
   | none=>rw [hr] at h;cases h
   | some j =>
    rw [hr] at h;simp only [v1w,v1x] at h;subst h;have:=q5c p r hr;simp;omega
theorem qwg {α:Type} (p:Nat→α→Bool):∀(l:List α) (k:Nat),qft p k l=true↔∀(j:Nat) (x:α),l[j]?=some x→p (k+j) x=true
 | [],k=>by simp [qft]
 | y :: r,k=>by
  simp only [qft,vzm,qwg p r (k+1)];constructor
  ·rintro ⟨h1,h2⟩ j x hx;cases j with
   | zero=>simp at hx;subst hx;exact h1
   | succ j =>
    have:=h2 j x (by simpa using hx)
    rwa [v08,v56 1] at this
  ·intro h;refine ⟨h 0 y rfl,fun j x hx=>?_⟩;have:=h (j+1) x (by simpa using hx)
   rwa [v08,v56 1]
theorem qzy {α:Type} [DecidableEq α] (a b:List α) (h:a.length=b.length):qft (fun k x=>decide (b[k]?=some x)) 0 a=decide (a=b):=by
 rw [v3v,qwg,decide_eq_true_eq];simp only [v1q,decide_eq_true_eq];constructor
 ·intro hh;apply vz3 ;intro i;by_cases hi:i < a.length
  ·rw [vz9 hi];exact (hh i _ (vz9 hi)).symm
  ·rw [v0a (by omega),v0a (by omega)]
 ·rintro rfl j x hx;exact hx
theorem vgv (a b:List (List UInt8)) (ha:a.length≤1073741824):qh8 a b=some (decide (a=b)):=by
 simp only [qh8];by_cases hl:a.length=b.length
 ·have e:¬(((a.length:Int) != (b.length:Int))=true):=by simp [hl]
  have h:=qre a (qdj a b) (fun k x=>decide (b[k]?=some x)) false
   (fun k x hx hk hp=>by
    simp only [decide_eq_true_eq] at hp;simp only [qdj,if_pos (qai hx),qaa hx,qaa hp,v1r,beq_self_eq_true,if_true,qat hk (show a.length≤4611686018427387904 by omega)])
   (fun k x hx hp=>by
    have hk:=qan hx;have hb:b[k]?=some (b[k]'(by omega)):=vz9 (by omega);rw [hb] at hp;simp only [v1x,decide_eq_false_iff_not] at hp;have hp':¬((x == b[k]'(by omega))=true):=by rw [beq_iff_eq];exact fun e=>hp e.symm
    simp only [qdj,if_pos (qai hx),qaa hx,qaa hb,v1r,if_neg hp'])
   (by simp [qdj]) a 0 rfl (v3n _)
  simp only [v33,qzy a b hl] at h;rw [if_neg e,h];by_cases hab:a=b <;> simp [hab]
 ·have e:(((a.length:Int) != (b.length:Int))=true):=by rw [bne_iff_ne];omega
  rw [if_pos e];have:a≠b:=fun h=>hl (by rw [h])
  simp [this]
theorem qwh (l:List Row) (f:Row→Option Bool) (p:Row→Bool) (hf:∀x∈l,f x=some (p x)) (hl:l.length≤1073741824):qdu l f=some (l.any p):=by
 simp only [qdu,qsx l f p hf hl,v1r];exact congrArg some (qsg p l)
def ids (t:Table):List Int:=t.Rows.map (·.ID)
def vyn (t:Table) (cs:List (List Int)):Bool:=qm2 [] cs && (decide (cs.flatten.length=t.Rows.length) && (ids t).all fun x=>decide (x∈cs.flatten))
def vvd (t:Table) (cs:List (List Int)):Bool:=qm2 [] cs && (decide (cs.flatten.length=t.Rows.length) && cs.flatten.all fun x=>decide (x∈ids t))
theorem vgw (t:Table) (cs:List (List Int)) (hr:t.Rows.length≤1073741824) (hl:cs.length≤1073741824) (hc:∀c∈cs,c.length≤1073741824):qjz t cs=some (vyn t cs):=by
 obtain ⟨m,h1,h2⟩:=vc3 cs hl hc;simp only [qjz,h1,v1r,vyn];by_cases h:qm2 [] cs=true
 ·obtain ⟨h3,h4⟩:=h2 h;simp only [h,if_true,h4,v3z];by_cases h5:cs.flatten.length=t.Rows.length
  ·have e:¬(((cs.flatten.length:Int) != (t.Rows.length:Int))=true):=by simp [h5]
   rw [if_neg e,qwh t.Rows (fun y=>qfm y m) (fun y=>!decide (y.ID∈cs.flatten)) (fun y _=>by
    simp only [qfm,h3 y.ID];by_cases hy:y.ID∈cs.flatten <;> simp [hy]) hr]
   simp only [v1r,qsf,Bool.not_not,h5,decide_true,v3z,ids,List.all_map,Function.comp_def]
  ·have e:(((cs.flatten.length:Int) != (t.Rows.length:Int))=true):=by rw [bne_iff_ne];omega
   rw [if_pos e];simp only [h5,decide_false,v4w,v4v]
 ·simp only [v3x] at h;simp only [h,vzo,if_false,v4w]
theorem vam (t:Table) (id:Int):(vn6 t id).2=decide (id∈ids t):=by
 unfold vn6 ids;cases h:t.Rows.findIdx? (fun r=>r.ID == id) with
 | none =>
  rw [List.findIdx?_eq_none_iff] at h;simp only [v3a];symm;rw [decide_eq_false_iff_not];rintro ⟨r,hr,he⟩;have:=h r hr;simp [he] at this
 | some i =>
  have hi:=q5c _ _ h;symm;rw [decide_eq_true_eq,v3a];have hp:(fun r:Row=>r.ID == id) (t.Rows[i]'hi)=true:=by
   rw [List.findIdx?_eq_some_iff_getElem] at h;exact h.2.1
  exact ⟨_,v2o hi,by simpa using hp⟩
theorem vtc (t:Table) (cs:List (List Int)) (hr:t.Rows.length≤1073741824) (hl:cs.length≤1048576) (hc:∀c∈cs,c.length≤1048576):∀(r:List (List Int)) (k n:Nat),cs.drop k=r→k≤cs.length→n≤k * 1048576 →
  qae (qhm t cs) ((n:Int),(k:Int))=some (if r.flatten.all (fun x=>decide (x∈ids t)) then .inl ((n+r.flatten.length:Nat):Int) else .inr false):=by
 intro r
 induction r with
 | nil =>
  intro k n hd hk hn;have hk':k=cs.length:=by
   have:=congrArg v4o hd;simp at this;omega
  subst hk';exact qad (by simp [qhm])
 | cons c r ih =>
  intro k n hd hk hn;have hx:cs[k]?=some c:=by
   have:=congrArg (·[0]?) hd;simpa [vz8] using this
  have hd':cs.drop (k+1)=r:=by rw [←v4h,hd];rfl
  have hlt:=qan hx;have hcl:=hc c (v0t hx);have hin:=qls c (qhl t cs k) (fun x=>decide (x∈ids t)) false
   (fun j x hj hjk hp=>by
    simp only [decide_eq_true_eq] at hp;simp only [qhl,qaa hx,v1r,if_pos (qai hj),qaa hj,q19 t x hr,vam,hp,decide_true,if_true,qat hjk (show c.length≤4611686018427387904 by omega)])
   (fun j x hj hp=>by
    simp only [decide_eq_false_iff_not] at hp;simp only [qhl,qaa hx,v1r,if_pos (qai hj),qaa hj,q19 t x hr,vam,hp,decide_false,vzo,if_false])
   (by simp [qhl,qaa hx])
  by_cases ha:(c.all fun x=>decide (x∈ids t))=true
  ·rw [if_pos ha] at hin;have hw:v4a.wrap ((n:Int)+(c.length:Int))=((n+c.length:Nat):Int):=by
    rw [qaz (by omega) (by omega)];omega
   rw [qac (s':=(((n+c.length:Nat):Int),((k+1:Nat):Int))) (by simp only [qhm,if_pos (qai hx),qaa hx,v1r,hin,hw,qat hlt (show cs.length≤4611686018427387904 by omega)]),
    ih (k+1) (n+c.length) hd' hlt (by omega)]
   simp only [v5b,v49,ha,v3z,v0h,v08]
  ·rw [if_neg ha] at hin;rw [qad (t:=.inr false) (by simp only [qhm,if_pos (qai hx),qaa hx,v1r,hin])];simp only [v3x] at ha;simp only [v5b,v49,ha,v4w,vzo,if_false]
theorem qon:∀{l l':List Int},l.Nodup→(∀x∈l,x∈l')→l.length≤l'.length
 | [],l',_,_=>v3n _
 | x :: r,l',hn,hs=>by
  rw [v5n] at hn;have hx:x∈l':=hs x (by simp);have h:=qon (l':=l'.erase x) hn.2 (fun y hy=>by
   have hne:y≠x:=fun e=>hn.1 (e ▸ hy)
   rw [List.mem_erase_of_ne hne];exact hs y (by simp [hy]))
  rw [List.length_erase_of_mem hx] at h;have:0 < l'.length:=List.length_pos_of_mem hx;simp;omega
theorem q5d {l l':List Int} (h1:l.Nodup) (h3:l.length=l'.length) (hs:∀x∈l,x∈l') (x:Int) (hx:x∈l'):x∈l:=by
 apply Classical.byContradiction;intro hn;have h:=qon (l:=x :: l) (l':=l') (v5n.2 ⟨hn,h1⟩) (fun y hy=>by
  rcases v2z.1 hy with e | e
  ·subst e;exact hx
  ·exact hs y e)
 simp at h;omega
theorem qsi (n:Nat):∀(l:List Row) (a:Int),qd9 n a l=0→(∀r∈l,a < r.ID∧r.Values.length=n)∧(l.map (·.ID)).Nodup
 | [],a,_=>⟨fun r hr=>by simp at hr,by simp⟩
 | r :: l,a,h=>by
  simp only [qd9] at h;by_cases h1:r.ID≤a
  ·rw [if_pos h1] at h;cases h
  ·rw [if_neg h1] at h;by_cases h2:r.Values.length=n
   ·rw [if_neg (by simp [h2])] at h;by_cases h3:r.Values.all qe6=true
    ·rw [if_pos h3] at h;obtain ⟨h4,h5⟩:=qsi n l r.ID h;refine ⟨fun q hq=>?_,?_⟩
     ·rcases v2z.1 hq with e | e
      ·subst e;exact ⟨by omega,h2⟩
      ·have:=h4 q e;exact ⟨by omega,this.2⟩
     ·rw [v0p,v5n];refine ⟨fun hm=>?_,h5⟩;obtain ⟨q,hq,he⟩:=v3a.1 hm;have:=(h4 q hq).1;omega
    ·rw [if_neg h3] at h;cases h
   ·rw [if_pos h2] at h;cases h
theorem qjj {t:Table} (h:qbb t=0):(∀r∈t.Rows,r.Values.length=t.Attrs.length)∧(ids t).Nodup:=by
 unfold qbb at h;split at h
 ·cases h
 ·split at h
  ·cases h
  ·split at h
   ·cases h
   ·split at h
    ·cases h
    ·obtain ⟨h1,h2⟩:=qsi _ _ _ h;exact ⟨fun r hr=>(h1 r hr).2,h2⟩
theorem vkv {l:List Int} (h:veg l=true):l.Nodup:=by
 rw [List.nodup_iff_pairwise_ne,v5p];intro i j hi hj hij;have:=vp6 h i j hij (vz9 hi) (vz9 hj);omega
theorem qy8:∀{cs:List (List Int)} {all:List Int},qm2 all cs=true→cs.flatten.Nodup∧∀x∈cs.flatten,x ∉ all
 | [],all,_=>⟨by simp,fun x hx=>by simp at hx⟩
 | c :: cs,all,h=>by
  simp only [qm2,vzm,v2b,vzq,decide_eq_false_iff_not] at h;obtain ⟨⟨h1,h2⟩,h3⟩:=h;obtain ⟨h4,h5⟩:=qy8 h3;refine ⟨?_,fun x hx=>?_⟩
  ·rw [v5b,v5m];exact ⟨vkv h1,h4,fun a ha b hb e=>h5 b hb (by simp [←e,ha])⟩
  ·rw [v5b,v0r] at hx;rcases hx with e | e
   ·exact h2 x e
   ·exact fun hh=>h5 x e (by simp [hh])
theorem von {t:Table} (h:qbb t=0) (cs:List (List Int)):vyn t cs=vvd t cs:=by
 obtain ⟨_,h2⟩:=qjj h;unfold vyn vvd;by_cases h1:qm2 [] cs=true
 ·obtain ⟨h3,_⟩:=qy8 h1;by_cases h4:cs.flatten.length=t.Rows.length
  ·have h5:(ids t).length=cs.flatten.length:=by rw [h4];simp [ids]
   simp only [h1,h4,decide_true,v3z];rw [v3v,v2b,v2b];simp only [decide_eq_true_eq];exact ⟨fun hs x hx=>q5d h2 h5 hs x hx,fun hs x hx=>q5d h3 h5.symm hs x hx⟩
  ·simp only [h4,decide_false,v4w,v4v]
 ·simp only [v3x] at h1;simp only [h1,v4w]
theorem q2k (rows:List Row):∀(rules:List Int) (b:List Value×List Int),(rules.foldl (qy3 rows) b).1.length=b.1.length+rules.length∧(rules.foldl (qy3 rows) b).2.length=b.2.length+rules.length
 | [],b=>⟨rfl,rfl⟩
 | r :: l,b=>by
  obtain ⟨h1,h2⟩:=q2k rows l (qy3 rows b r);rw [v4m];simp only [qy3,v0h,v2p,v0k] at h1 h2 ⊢;omega
theorem vgx (rows:List Row) (a:Nat) (rule:Int):(qsy rows a rule).1=⟨0,0,[]⟩∨∃r∈rows,(qsy rows a rule).1=qav r a:=by
 unfold qsy;cases hn:nn rows a with
 | nil=>exact .inl rfl
 | cons r l =>
  refine .inr ?_;have hm:∀x∈r :: l,x∈rows:=by
   intro x hx;rw [←hn] at hx;exact (v28.1 hx).1
  have key:∀(l:List Row) (o:Value×Int),(∃r∈rows,o.1=qav r a)→(∀x∈l,x∈rows)→∃r∈rows,((l.map fun x=>(qav x a,x.ID)).foldl (quy (qif (fun x=>(((rows.map (qav · a)).countP (veq · x):Nat):Int)) rule)) o).1=qav r a:=by
   intro l
   induction l with
   | nil=>intro o h _;exact h
   | cons y l ih =>
    intro o h hl;rw [v0p,v4m];refine ih _ ?_ (fun x hx=>hl x (by simp [hx]));unfold quy;split
    ·exact ⟨y,hl y (by simp),rfl⟩
    ·exact h
  exact key l (qav r a,r.ID) ⟨r,hm r (by simp),rfl⟩ (fun x hx=>hm x (by simp [hx]))
theorem qx1 (rows:List Row) (hs:q93 rows):∀(rules:List Int) (b:List Value×List Int),(∀v∈b.1,v.Str.length≤1073741824)→∀v∈(rules.foldl (qy3 rows) b).1,v.Str.length≤1073741824
 | [],b,h=>h
 | r :: l,b,h=>by
  rw [v4m];refine qx1 rows hs l _ ?_;intro v hv;simp only [qy3,v0r,v3d] at hv;rcases hv with hv | rfl
  ·exact h v hv
  ·rcases vgx rows b.1.length r with e | ⟨x,hx,e⟩
   ·rw [e];simp
   ·rw [e];unfold qav;rw [v5c];cases hg:x.Values[b.1.length]? with
    | none=>simp
    | some y=>simpa using hs x hx y (v0t hg)
def qmf (t:Table) (l:List Int):List Row:=t.Rows.filter fun r=>decide (r.ID∈l)
theorem qtx (l:List (List UInt8)) (h:l.length≤1073741824):qg4 l=some l:=by
 unfold qg4;rw [if_pos (qf2 (by omega) (by omega))]
theorem q3w (l:List Int) (h:l.length≤1073741824):qkh l=some l:=by
 unfold qkh;rw [if_pos (qf2 (by omega) (by omega))]
theorem van {B:List Row×Int→Option (LS (List Row×Int) (List Row))} (rows:List Row)
  (hB:∀(k:Nat) (out:List Row) x,rows[k]?=some x→out.length≤1048576→B (out,(k:Int))=some (.next (out++[x],((k+1:Nat):Int))))
  (hE:∀out,B (out,(rows.length:Int))=some (.done out)) (hl:rows.length≤1048576):qae B ([],0)=some rows:=by
 have h:=qb3 rows (fun (b:List Row) i=>(b,i)) B (fun b x=>b++[x]) id (fun k b=>b.length=k) (b0:=[]) (s0:=([],0)) rfl rfl
  (fun k b x hx hk hI=>⟨hB k b x hx (by omega),by simp [hI]⟩) (fun b _=>hE b)
 rw [h];have key:∀(l:List Row) (b:List Row),l.foldl (fun b x=>b++[x]) b=b++l:=by
  intro l
  induction l with
  | nil=>simp
  | cons x l ih=>intro b;rw [v4m,ih];simp
 rw [key];rfl
theorem vtd (t:Table) (rows:List Row) (ha:t.Attrs.length≤1073741824) (hl:rows.length≤1048576) (hv:∀r∈rows,r.Values.length≤1048576):qrc t rows=some ⟨t.Name,t.Attrs,rows⟩:=by
 simp only [qrc,qtx _ ha,v1r];rw [van rows (fun k out x hx ho=>by
  have hk:=qan hx;have hvx:=hv x (v0t hx);have r1:qal x.Values.length 32=true:=qf2 (by omega) (by omega);have r2:qal (out.length+1) 32=true:=qf2 (by omega) (by omega);have hcp:qnn x=some x:=by
   simp only [qnn,qmv];rw [if_pos r1];rfl
  simp only [qok,if_pos (qai hx),qaa hx,v1r,hcp,r2,if_true,qat hk (show rows.length≤4611686018427387904 by omega)]) (fun out=>by simp [qok]) hl]
 rfl
theorem vte (t:Table) (rows:List Row) (ha:t.Attrs.length≤1073741824) (hl:rows.length≤1048576) (hv:∀r∈rows,r.Values.length≤1048576):qks t rows=some ⟨t.Name,t.Attrs,rows⟩:=by
 have r0:qal t.Attrs.length 16=true:=qf2 (by omega) (by omega);simp only [qks,r0,if_true];rw [van rows (fun k out x hx ho=>by
  have hk:=qan hx;have hvx:=hv x (v0t hx);have r1:qal x.Values.length 32=true:=qf2 (by omega) (by omega);have r2:qal (out.length+1) 32=true:=qf2 (by omega) (by omega);have hcp:qmr x=some x:=by
   simp only [qmr,r1,if_true]
  simp only [qkf,if_pos (qai hx),qaa hx,v1r,hcp,r2,if_true,qat hk (show rows.length≤4611686018427387904 by omega)]) (fun out=>by simp [qkf]) hl]
 rfl
theorem vao {B:List Row×Int→Option (LS (List Row×Int) (List Row))} (rows:List Row) (p:Row→Bool)
  (hB:∀(k:Nat) (out:List Row) x,rows[k]?=some x→out.length≤1048576→B (out,(k:Int))=some (.next (if p x then out++[x] else out,((k+1:Nat):Int))))
  (hE:∀out,B (out,(rows.length:Int))=some (.done out)) (hl:rows.length≤1048576):qae B ([],0)=some (rows.filter p):=by
 have h:=qb3 rows (fun (b:List Row) i=>(b,i)) B (fun b x=>if p x then b++[x] else b) id (fun k b=>b.length≤k) (b0:=[]) (s0:=([],0)) rfl (v1f _)
  (fun k b x hx hk hI=>⟨hB k b x hx (by omega),by split <;> (try simp only [v0h,v2u]) <;> omega⟩) (fun b _=>hE b)
 rw [h];have key:∀(l:List Row) (b:List Row),l.foldl (fun b x=>if p x then b++[x] else b) b=b++l.filter p:=by
  intro l
  induction l with
  | nil=>simp
  | cons x l ih =>
   intro b;rw [v4m,ih];by_cases hp:p x=true <;> simp [hp]
 rw [key];rfl
theorem vgy {t:Table} {l:List Int} (hn:t.Rows.length≤1048576) (hv:∀r∈t.Rows,r.Values.length≤1048576):(qmf t l).length≤1048576∧∀r∈qmf t l,r.Values.length≤1048576 :=
 ⟨v1h (v2r _ _) hn,fun r hr=>hv r (v28.1 hr).1⟩
theorem vkw (t:Table) (l:List Int) (ha:t.Attrs.length≤1073741824) (hn:t.Rows.length≤1048576) (hv:∀r∈t.Rows,r.Values.length≤1048576) (hl:l.length≤1073741824) :
  qrd t l=some ⟨t.Name,t.Attrs,qmf t l⟩∧qi3 t l=some ⟨t.Name,t.Attrs,qmf t l⟩:=by
 obtain ⟨k1,k2⟩:=vgy (l:=l) hn hv;refine ⟨?_,?_⟩
 ·simp only [qrd];rw [vao t.Rows (fun r=>decide (r.ID∈l)) (fun k out x hx ho=>by
   have hk:=qan hx;have r2:qal (out.length+1) 32=true:=qf2 (by omega) (by omega);simp only [qol,if_pos (qai hx),qaa hx,v1r,qy7 l x.ID hl,r2,if_true,qat hk (show t.Rows.length≤4611686018427387904 by omega)];by_cases hm:x.ID∈l <;> simp [hm]) (fun out=>by simp [qol]) hn]
  simp only [v1r];exact (congrArg (Option.bind · _) (vtd t (qmf t l) ha k1 k2)).trans rfl
 ·simp only [qi3];rw [vao t.Rows (fun r=>decide (r.ID∈l)) (fun k out x hx ho=>by
   have hk:=qan hx;have r2:qal (out.length+1) 32=true:=qf2 (by omega) (by omega);simp only [qkg,if_pos (qai hx),qaa hx,v1r,q2j l x.ID (by omega),r2,if_true,qat hk (show t.Rows.length≤4611686018427387904 by omega)];by_cases hm:x.ID∈l <;> simp [hm]) (fun out=>by simp [qkg]) hn]
  simp only [v1r];exact (congrArg (Option.bind · _) (vte t (qmf t l) ha k1 k2)).trans rfl
theorem qsj (n:Nat) (p:Row→Bool):∀(l:List Row) (a b:Int),b≤a→qd9 n a l=0→qrh b (l.filter p)=true
 | [],_,_,_,_=>rfl
 | r :: l,a,b,hab,h=>by
  simp only [qd9] at h;by_cases h1:r.ID≤a
  ·rw [if_pos h1] at h;cases h
  ·rw [if_neg h1] at h;by_cases h2:r.Values.length=n
   ·rw [if_neg (by simp [h2])] at h;by_cases h3:r.Values.all qe6=true
    ·rw [if_pos h3] at h;rw [v4j];split
     ·simp only [qrh,h3,Bool.and_true,vzm,decide_eq_true_eq];exact ⟨by omega,qsj n p l r.ID r.ID (v4y _) h⟩
     ·exact qsj n p l r.ID b (by omega) h
    ·rw [if_neg h3] at h;cases h
   ·rw [if_pos h2] at h;cases h
theorem qx2 {t:Table} (h:qbb t=0):qd9 t.Attrs.length 0 t.Rows=0:=by
 unfold qbb at h;split at h
 ·cases h
 ·split at h
  ·cases h
  ·split at h
   ·cases h
   ·split at h
    ·cases h
    ·exact h
structure KR (t:Table) (rows:List Row) (rules:List Int):Prop where
 ok:RowsOk rows
 ne:rows≠[]
 err:qn4 rows=0
 okr:qrh 0 rows=true
 lens:∀r∈rows,r.Values.length=t.Attrs.length
theorem vkx {t:Table} (hv:qbb t=0) (T:TableOk t) {l:List Int} (hl:l≠[]) (hs:∀x∈l,x∈ids t) (rules:List Int):KR t (qmf t l) rules:=by
 have hlen:∀r∈qmf t l,r.Values.length=t.Attrs.length:=fun r hr=>(qjj hv).1 r (v28.1 hr).1
 have hne:qmf t l≠[]:=by
  obtain ⟨x,r,rfl⟩:∃x r,l=x :: r:=by cases l with | nil=>exact absurd rfl hl | cons x r=>exact ⟨x,r,rfl⟩
  obtain ⟨q,hq,he⟩:=v3a.1 (hs x (by simp));have:q∈qmf t (x :: r):=v28.2 ⟨hq,by simp [he]⟩;intro e;rw [e] at this;cases this
 refine ⟨⟨v1h (v2r _ _) T.rows,fun r hr=>T.vals r (v28.1 hr).1,fun r hr=>T.short r (v28.1 hr).1⟩,hne,?_,qsj _ _ _ _ _ (v4y _) (qx2 hv),hlen⟩;cases hk:qmf t l with
 | nil=>exact absurd hk hne
 | cons q r =>
  simp only [qn4];rw [if_pos];rw [v2b];intro x hx;rw [←hk] at hx;have h1:=hlen x hx;have h2:=hlen q (by rw [hk];simp);simp [h1,h2]
def vve (t:Table) (rules:List Int) (l:List Int):Row:=⟨((qmf t l)[0]?.map (·.ID)).getD 0,(qo7 (qmf t l) rules).1⟩
def vvf (t:Table) (rules:List Int) (l:List Int):List Int:=(qo7 (qmf t l) rules).2
theorem vgz {t:Table} {rules l:List Int} (K:KR t (qmf t l) rules) (hr:rules.length≤1048576) (hrl:rules.length=t.Attrs.length) (hok:rules.all qp8=true) :
  qkb (qmf t l) rules=some (vve t rules l,vvf t rules l,0)∧qhs (qmf t l) rules=some ⟨vve t rules l,vvf t rules l⟩:=by
 obtain ⟨r0,rs,hrows⟩:∃r q,qmf t l=r :: q:=by cases h:qmf t l with | nil=>exact absurd h K.ne | cons r q=>exact ⟨r,q,rfl⟩
 have h0:(qmf t l)[0]?=some r0:=by rw [hrows];rfl
 have hr0:r0.Values.length=t.Attrs.length:=K.lens r0 (by rw [hrows];simp);have ha:∀a,a < rules.length→Has (qmf t l) a:=fun a h=>vp3 K.err h0 (by omega)
 refine ⟨?_,?_⟩
 ·rw [vn3 _ _ K.ok hr];unfold q14;rw [if_neg (by simp [K.err]),if_neg (by rw [h0];simp [hrl,hr0]),if_neg (by simp [K.okr,hok])];rfl
 ·rw [q97 _ rules r0 h0 K.ok.len hr ha K.ok.short (q44 _ 0 (by omega) K.okr)];unfold vve vvf;rw [h0];rfl
def vej (t:Table) (rules:List Int) (l:List (List Int)):Merged:=⟨⟨t.Name,t.Attrs,l.map (vve t rules)⟩,l,l.map (vvf t rules)⟩
def qu0 (t:Table) (rules:List Int) (b:List Row×List (List Int)×List (List Int)) (x:List Int):List Row×List (List Int)×List (List Int):=(b.1++[vve t rules x],b.2.1++[x],b.2.2++[vvf t rules x])
theorem qy9 (t:Table) (rules:List Int):∀(l:List (List Int)) (b:List Row×List (List Int)×List (List Int)),l.foldl (qu0 t rules) b=(b.1++l.map (vve t rules),b.2.1++l,b.2.2++l.map (vvf t rules))
 | [],b=>by simp
 | x :: l,b=>by
  rw [v4m,qy9 t rules l];simp [qu0]
structure TabArgs (t:Table) (rules:List Int) (l:List (List Int)):Prop where
 err:qbb t=0
 ok:TableOk t
 nr:t.Rows.length≤1048576
 nv:∀r∈t.Rows,r.Values.length≤1048576
 rl:rules.length=t.Attrs.length
 rs:rules.length≤1048576
 rok:rules.all qp8=true
 cl:l.length≤1048576
 ne:∀x∈l,x≠[]
 sub:∀x∈l,∀y∈x,y∈ids t
 len:∀x∈l,x.length≤1048576
def sorted (cs:List (List Int)):List (List Int):=(qae qdc (cs,0)).getD []
structure MB (m:Merged):Prop where
 na:m.Table.Attrs.length≤1073741824
 nr:m.Table.Rows.length≤1073741824
 nv:∀r∈m.Table.Rows,r.Values.length≤1073741824
 sh:∀r∈m.Table.Rows,∀v∈r.Values,v.Str.length≤1073741824
 nc:m.Clusters.length≤1073741824
 lc:∀c∈m.Clusters,c.length≤1073741824
 no:m.Origins.length≤1073741824
 lo:∀c∈m.Origins,c.length≤1073741824
theorem q2l {α:Type} [DecidableEq α] (a b:List α) (h:a.length=b.length) {B:Int→Option (LS Int (Unit ⊕ Bool))}
  (hB:∀(k:Nat) x y,a[k]?=some x→b[k]?=some y→B (k:Int)=if decide (x=y)=true then some (.next ((k+1:Nat):Int)) else some (.done (.inr false)))
  (hE:B (a.length:Int)=some (.done (.inl ()))):qae B 0=some (if decide (a=b) then .inl () else .inr false):=by
 have hl:=qre a B (fun k x=>decide (b[k]?=some x)) false
  (fun k x hx hk hp=>by
   simp only [decide_eq_true_eq] at hp;rw [hB k x x hx hp];simp)
  (fun k x hx hp=>by
   have hk:=qan hx;have hb:b[k]?=some (b[k]'(by omega)):=vz9 (by omega);rw [hb] at hp;simp only [v1x,decide_eq_false_iff_not] at hp;rw [hB k x _ hx hb,if_neg];simp only [decide_eq_true_eq];exact fun e=>hp e.symm) hE a 0 rfl (v3n _)
 simp only [v33,qzy a b h] at hl;exact hl
theorem qza (a b:List (List Int)) (ha:a.length≤1073741824) (hl:∀c∈a,c.length≤1073741824):qd5 a b=some (decide (a=b)):=by
 simp only [qd5];by_cases h:a.length=b.length
 ·have e:¬(((a.length:Int) != (b.length:Int))=true):=by simp [h]
  rw [if_neg e,q2l a b h (fun k x y hx hy=>by
   have hk:=qan hx;simp only [qjh,if_pos (qai hx),qaa hx,qaa hy,v1r,vyh x y (hl x (v0t hx)),qat hk (show a.length≤4611686018427387904 by omega)]) (by simp [qjh])]
  by_cases hab:a=b <;> simp [hab]
 ·have e:(((a.length:Int) != (b.length:Int))=true):=by rw [bne_iff_ne];omega
  rw [if_pos e];have:a≠b:=fun hh=>h (by rw [hh])
  simp [this]
theorem voo (a b:Table) (h1:a.Attrs.length≤1073741824) (h2:a.Rows.length≤1073741824) (h3:∀r∈a.Rows,r.Values.length≤1073741824) (h4:∀r∈a.Rows,∀v∈r.Values,v.Str.length≤1073741824):qj0 a b=some (decide (a=b)):=by
 simp only [qj0,vgv _ _ h1,v1r];obtain ⟨an,aa,ar⟩:=a;obtain ⟨bn,ba,br⟩:=b;simp only at h1 h2 h3 h4 ⊢;by_cases e1:an=bn
 ·by_cases e2:aa=ba
  ·by_cases h:ar.length=br.length
   ·have e:¬(((ar.length:Int) != (br.length:Int))=true):=by simp [h]
    have hl:=q2l ar br h (B:=qg5 ⟨an,aa,ar⟩ ⟨bn,ba,br⟩) (fun k x y hx hy=>by
     have hk:=qan hx;have hm:=v0t hx;simp only [qg5,if_pos (qai hx),qaa hx,qaa hy,v1r,q96 x y (h3 x hm) (h4 x hm),qat hk (show ar.length≤4611686018427387904 by omega)]) (by simp [qg5])
    simp only [e1,e2,beq_self_eq_true,if_true,decide_true,if_neg e] at hl ⊢;rw [hl];by_cases hab:ar=br <;> simp [hab]
   ·have e:(((ar.length:Int) != (br.length:Int))=true):=by rw [bne_iff_ne];omega
    have:ar≠br:=fun hh=>h (by rw [hh])
    simp [e1,e2,e,this]
  ·simp [e1,e2]
 ·simp [e1]
theorem vky (a b:Merged) (A:MB a):qkv a b=some (decide (a=b)):=by
 simp only [qkv,voo _ _ A.na A.nr A.nv A.sh,qza _ _ A.nc A.lc,qza _ _ A.no A.lo,v1r];obtain ⟨at',ac,ao⟩:=a;obtain ⟨bt,bc,bo⟩:=b;by_cases e1:at'=bt
 ·by_cases e2:ac=bc
  ·simp [e1,e2]
  ·simp [e1,e2]
 ·simp [e1]
theorem vtf {t:Table} {rules:List Int} {l:List (List Int)} (A:TabArgs t rules l):MB (vej t rules l):=by
 have hcl:=A.cl;have hrs:=A.rs;have hlen:∀x,(qo7 (qmf t x) rules).1.length=rules.length∧(qo7 (qmf t x) rules).2.length=rules.length:=fun x=>by
  have h:=q2k (qmf t x) rules ([],[]);simp only [v0k,v1q] at h;exact h
 refine ⟨A.ok.attrs,by simp only [vej,v0j];omega,?_,?_,by simp only [vej];omega,fun c hc=>by have:=A.len c hc;omega,by simp only [vej,v0j];omega,?_⟩
 ·intro r hr;obtain ⟨x,hx,rfl⟩:=v3a.1 hr;show (qo7 (qmf t x) rules).1.length≤_;rw [(hlen x).1];omega
 ·intro r hr;obtain ⟨x,hx,rfl⟩:=v3a.1 hr;exact qx1 (qmf t x) (fun r hr=>A.ok.short r (v28.1 hr).1) rules ([],[]) (by simp)
 ·intro c hc;obtain ⟨x,hx,rfl⟩:=v3a.1 hc;show (qo7 (qmf t x) rules).2.length≤_;rw [(hlen x).2];omega
def hd (l:List (List Int)) (i:Nat):Int:=(l.getD i []).headD 0
theorem q7g:∀(cs:List (List Int)) (all:List Int),qm2 all cs=true↔(∀c∈cs,veg c=true)∧cs.flatten.Nodup∧∀x∈cs.flatten,x ∉ all
 | [],all=>by simp [qm2]
 | c :: cs,all=>by
  constructor
  ·intro h;obtain ⟨h1,h2⟩:=qy8 h;simp only [qm2,vzm] at h;refine ⟨fun d hd=>?_,h1,h2⟩;rcases v2z.1 hd with e | e
   ·subst e;exact h.1.1
   ·exact ((q7g cs (all++c)).1 h.2).1 d e
  ·rintro ⟨h1,h2,h3⟩;rw [v5b,v5m] at h2;simp only [qm2,vzm,v2b,vzq,decide_eq_false_iff_not];refine ⟨⟨h1 c (by simp),fun x hx=>h3 x (by simp [hx])⟩,(q7g cs (all++c)).2 ⟨fun d hd=>h1 d (by simp [hd]),h2.2.1,fun x hx hm=>?_⟩⟩;rcases v0r.1 hm with e | e
   ·exact h3 x (by rw [v5b];exact v0r.2 (.inr hx)) e
   ·exact h2.2.2 x e x hx rfl
theorem q2m (n:Nat):∀(l:List Row) (a:Int),(∀r∈l,a < r.ID∧r.Values.length=n∧r.Values.all qe6=true)→l.Pairwise (fun r q=>r.ID < q.ID)→qd9 n a l=0
 | [],_,_,_=>rfl
 | r :: l,a,h,hp=>by
  obtain ⟨h1,h2,h3⟩:=h r (by simp);rw [List.pairwise_cons] at hp;simp only [qd9];rw [if_neg (by omega),if_neg (by simp [h2]),if_pos h3];exact q2m n l r.ID (fun q hq=>⟨hp.1 q hq,(h q (by simp [hq])).2⟩) hp.2
theorem vap {α:Type} {B:List α×Int→Option (LS (List α×Int) (List α))} (N:Nat) (f:Nat→α)
  (hB:∀(k:Nat) (out:List α),k < N→out.length=k→B (out,(k:Int))=some (.next (out++[f k],((k+1:Nat):Int))))
  (hE:∀out:List α,B (out,(N:Int))=some (.done out)):qae B ([],0)=some ((v0z N).map f):=by
 have key:∀(r k:Nat) (out:List α),k+r=N→out.length=k→qae B (out,(k:Int))=some (out++(v3f k r).map f):=by
  intro r
  induction r with
  | zero =>
   intro k out hk ho;have:k=N:=by omega
   subst this;rw [qad (hE out)];simp
  | succ r ih =>
   intro k out hk ho;rw [qac (hB k out (by omega) ho),ih (k+1) _ (by omega) (by simp [ho])];simp [v5s]
 have h:=key N 0 [] (by omega) rfl;simp only [v33,v0y] at h;rw [h,v00]
theorem vtg (c:Int):∃v,qe0 c=some v∧qe6 v=true∧v.Str.length≤2:=by
 unfold qe0;by_cases h0:(v34 c 12 == 0)=true
 ·rw [if_pos h0];exact ⟨_,rfl,by decide,by decide⟩
 rw [if_neg h0];by_cases h1:(v34 c 12 == 1)=true
 ·rw [if_pos h1];exact ⟨_,rfl,by decide,by decide⟩
 rw [if_neg h1];by_cases h2:(v34 c 12 == 2)=true
 ·rw [if_pos h2];exact ⟨_,rfl,by decide,by decide⟩
 rw [if_neg h2];by_cases h3:(v34 c 12 == 3)=true
 ·rw [if_pos h3];exact ⟨_,rfl,by decide,by decide⟩
 rw [if_neg h3];by_cases h4:(v34 c 12 == 4)=true
 ·rw [if_pos h4];exact ⟨_,rfl,by decide,by decide⟩
 rw [if_neg h4];by_cases h5:(v34 c 12 == 5)=true
 ·rw [if_pos h5];exact ⟨_,rfl,by decide,by decide⟩
 rw [if_neg h5];by_cases h6:(v34 c 12 == 6)=true
 ·rw [if_pos h6];exact ⟨_,rfl,by decide,by decide⟩
 rw [if_neg h6];by_cases h7:(v34 c 12 == 7)=true
 ·rw [if_pos h7];exact ⟨_,rfl,by decide,by decide⟩
 rw [if_neg h7];by_cases h8:(v34 c 12 == 8)=true
 ·rw [if_pos h8];exact ⟨_,rfl,by decide,by decide⟩
 rw [if_neg h8];by_cases h9:(v34 c 12 == 9)=true
 ·rw [if_pos h9];exact ⟨_,rfl,by decide,by decide⟩
 rw [if_neg h9];by_cases h10:(v34 c 12 == 10)=true
 ·rw [if_pos h10];exact ⟨_,rfl,by decide,by decide⟩
 rw [if_neg h10];exact ⟨_,rfl,by decide,by decide⟩
def ofV (c:Int):Value:=(qe0 c).getD ⟨0,0,[]⟩
theorem vek (c:Int):qe0 c=some (ofV c)∧qe6 (ofV c)=true∧(ofV c).Str.length≤2:=by
 obtain ⟨v,h1,h2,h3⟩:=vtg c;have:ofV c=v:=by unfold ofV;rw [h1];rfl
 rw [this];exact ⟨h1,h2,h3⟩
def vyo (x:Drossref03_Recipe) (i k:Nat):Value:=ofV (((x.Rows.getD i []).getD k 0))
def qu1 (x:Drossref03_Recipe):Nat:=1+x.Gap.toNat % 3
def vel (x:Drossref03_Recipe) (n i:Nat):Row:=⟨((1+i * qu1 x:Nat):Int),(v0z n).map (vyo x i)⟩
def qrm:List (List UInt8):=[[97],[98],[99],[100],[101],[102],[103],[104]]
def vem (x:Drossref03_Recipe) (n:Nat):Table:=⟨[114],qrm.take n,(v0z x.Rows.length).map (vel x n)⟩
theorem vg0 (x:Drossref03_Recipe) (n i:Nat) (hn:n≤8) (hi:i < x.Rows.length) (hl:∀r∈x.Rows,r.length≤1048576) :
  qae (qh0 x (n:Int) (i:Int)) ([],0)=some ((v0z n).map (vyo x i)):=by
 have hx:x.Rows[i]?=some (x.Rows.getD i []):=by simp [v5c,vz9 hi]
 have hxl:=hl _ (v0t hx);refine vap n (vyo x i) (fun k out hk ho=>?_) (fun out=>by simp [qh0]);have hk':((k:Int) < (n:Int)):=by omega
 have hroom:qal (out.length+1) 32=true:=qf2 (by omega) (by omega);have hw:=qk6 (k:=k) (by omega);simp only [qh0,if_pos hk',qaa hx,v1r];by_cases h:k < (x.Rows.getD i []).length
 ·have h':((k:Int) < ((x.Rows.getD i []).length:Int)):=by omega
  have hg:(x.Rows.getD i [])[k]?=some ((x.Rows.getD i []).getD k 0):=by
   generalize x.Rows.getD i []=l at h;simp [v5c,vz9 h]
  simp only [if_pos h',qaa hg,v1r,(vek _).1,hroom,if_true,hw];rfl
 ·have h':¬((k:Int) < ((x.Rows.getD i []).length:Int)):=by omega
  have hg:(x.Rows.getD i []).getD k 0=0:=by
   generalize x.Rows.getD i []=l at h;simp [v5c,v0a (show l.length≤k by omega)]
  simp only [if_neg h',(vek _).1,v1r,hroom,if_true,hw];unfold vyo;rw [hg]
theorem vth (x:Drossref03_Recipe) (n:Nat) (hn:n≤8) (hr:x.Rows.length≤8) (hl:∀r∈x.Rows,r.length≤1048576) (hg:0≤x.Gap∧x.Gap≤255):qko x (n:Int)=some (vem x n):=by
 have h1:(0:Int)≤(n:Int):=by omega
 have h2:(n:Int)≤8:=by omega
 have hroom:qal ((qrm.take n).length) 16=true:=qf2 (by simp;omega) (by omega);have ho:qae (qh1 x (n:Int)) ([],0)=some ((v0z x.Rows.length).map (vel x n)):=by
  refine vap x.Rows.length (vel x n) (fun i out hi ho=>?_) (fun out=>by simp [qh1]);have hi':((i:Int) < (x.Rows.length:Int)):=by omega
  have hroom:qal (out.length+1) 32=true:=qf2 (by omega) (by omega);have hm:v34 x.Gap 3=((x.Gap.toNat % 3:Nat):Int):=by
   rw [Int.tmod_eq_emod_of_nonneg hg.1];omega
  have e1:v4a.wrap (v34 x.Gap 3)=((x.Gap.toNat % 3:Nat):Int):=by rw [hm,qaz (by omega) (by omega)]
  have e2:v4a.wrap (1+v4a.wrap (v34 x.Gap 3))=((qu1 x:Nat):Int):=by
   rw [e1,qaz (by omega) (by omega)];unfold qu1;omega
  have hs:qu1 x≤3:=by unfold qu1;omega
  have hmul:i * qu1 x≤8 * 3:=v6h (by omega) hs;have e3:v4a.wrap ((i:Int) * ((qu1 x:Nat):Int))=((i * qu1 x:Nat):Int):=by
   rw [←Int.natCast_mul,qaz (by omega) (by omega)]
  have e4:v4a.wrap (1+v4a.wrap ((i:Int) * v4a.wrap (1+v4a.wrap (v34 x.Gap 3))))=((1+i * qu1 x:Nat):Int):=by
   rw [e2,e3,qaz (by omega) (by omega)];omega
  simp only [qh1,if_pos hi',vg0 x n i hn hi hl,v1r,hroom,if_true,e4,qk6 (k:=i) (by omega)];rfl
 simp only [qko,if_pos h1,if_pos h2,v1r,v38];have hroom':qal ((List.take n [[97],[98],[99],[100],[101],[102],[103],[104]]:List (List UInt8)).length) 16=true:=hroom;rw [if_pos hroom',ho];rfl
theorem vkz {n:Nat} (h:n≤8):qxs (qrm.take n)=true:=by
 have:n=0∨n=1∨n=2∨n=3∨n=4∨n=5∨n=6∨n=7∨n=8:=by omega
 rcases this with rfl | rfl | rfl | rfl | rfl | rfl | rfl | rfl | rfl <;> decide
theorem vg1 (x:Drossref03_Recipe) (n:Nat) (hn:n≤8) (hr:x.Rows.length≤8):qbb (vem x n)=0:=by
 have h1:¬(qqn [114]=false):=by decide
 have hlen:(qrm.take n).length=n:=by simp [qrm];omega
 have h2:¬(qrm.take n).length > 16:=by omega
 have h3:¬((v0z x.Rows.length).map (vel x n)).length > 1000:=by simp;omega
 have h4:¬(qxs (qrm.take n)=false):=by rw [vkz hn];simp
 have hc:qd9 (qrm.take n).length 0 ((v0z x.Rows.length).map (vel x n))=0:=by
  refine q2m _ _ _ (fun r hr=>?_) ?_
  ·obtain ⟨i,hi,rfl⟩:=v3a.1 hr;refine ⟨by simp only [vel];omega,by simp only [vel,v0j,v2t];omega,?_⟩;rw [v2b];intro v hv;obtain ⟨k,hk,rfl⟩:=v3a.1 hv;exact (vek _).2.1
  ·rw [v5r];refine v48.imp ?_ List.pairwise_lt_range;intro a b hab;simp only [vel];have hs:1≤qu1 x:=by unfold qu1;omega
   have:(a+1) * qu1 x≤b * qu1 x:=Nat.mul_le_mul_right _ hab;rw [v09,v1n] at this;omega
 show (if qqn [114]=false then (1:Int) else if (qrm.take n).length > 16 then 3 else if ((v0z x.Rows.length).map (vel x n)).length > 1000 then 3 else if qxs (qrm.take n)=false then 1 else qd9 (qrm.take n).length 0 ((v0z x.Rows.length).map (vel x n)))=0;rw [if_neg h1,if_neg h2,if_neg h3,if_neg h4];exact hc
theorem vyp {n:Int} (h:okI .u8 n):0≤n∧n≤255:=by
 have h':(decide (IntKind.min .u8≤n) && decide (n≤IntKind.max .u8))=true:=h;simp only [vzm,decide_eq_true_eq] at h';have e1:IntKind.min .u8=0:=by decide
 have e2:IntKind.max .u8=255:=by decide
 rw [e1,e2] at h';exact h'
theorem vaq (a b:Row):∀l:List Int,vtb a b l=0↔∀i∈l,qts (qav a i.toNat) (qav b i.toNat)=0
 | []=>by simp [vtb]
 | i :: l=>by
  simp only [vtb,List.forall_mem_cons];by_cases h:qts (qav a i.toNat) (qav b i.toNat)=0
  ·rw [if_neg (by omega),vaq a b l];exact ⟨fun k=>⟨h,k⟩,fun k=>k.2⟩
  ·rw [if_pos (by omega)];exact ⟨fun k=>absurd k h,fun k=>absurd k.1 h⟩
structure Good (t:Table):Prop where
 ok:TableOk t
 err:qbb t=0
 attrs:t.Attrs.length≤5
 rows:t.Rows.length≤8
theorem vg2 (x:Drossref03_Recipe) (n:Nat) (hn:n≤8) (hr:x.Rows.length≤8):TableOk (vem x n):=by
 refine ⟨?_,?_,?_,?_⟩
 ·simp only [vem,v0n];omega
 ·simp only [vem,v0j,v2t];omega
 ·intro r h;obtain ⟨i,_,rfl⟩:=v3a.1 h;simp only [vel,v0j,v2t];omega
 ·intro r h v hv;obtain ⟨i,_,rfl⟩:=v3a.1 h;obtain ⟨k,_,rfl⟩:=v3a.1 hv;have:=(vek ((x.Rows.getD i []).getD k 0)).2.2;unfold vyo;omega
theorem vc4 (x:Drossref03_Recipe) (hr:x.Rows.length≤8):Good (vem x (x.Attrs.toNat % 6)):=by
 refine ⟨vg2 _ _ (by omega) hr,vg1 _ _ (by omega) hr,?_,?_⟩
 ·simp only [vem,v0n];omega
 ·simp only [vem,v0j,v2t];omega
theorem ven {a:Nat} (ha:a < 4294967296) {i:Nat} (hi:i≤32):vhp (a:Int) (i:Int)=a.testBit i:=by
 unfold vhp;rw [v38];exact vs4 ha hi
def vvg (n:Nat) (s:Int):List Int:=((v0z n).map fun (k:Nat)=>(k:Int)).filter fun a=>vhp s a
theorem vop {n:Nat} {s i:Int} (h:i∈vvg n s):0≤i∧i < (n:Int):=by
 unfold vvg at h;obtain ⟨h1,_⟩:=v28.1 h;obtain ⟨k,hk,rfl⟩:=v3a.1 h1;have:=v3c.1 hk;omega
theorem voq {r:Row} {i:Int} (h0:0≤i) (h1:i < (r.Values.length:Int)):idx r.Values i=some (qav r i.toNat) :=
 vom (a:=r) (l:=[i]) (fun j hj=>by rcases v3d.1 hj with rfl;exact ⟨h0,h1⟩) (by simp)
theorem q5e {α β:Type} (p:α→Bool) (f:α→β):∀(l:List α) (o:List β),l.foldl (fun o x=>if p x then o++[f x] else o) o=o++(l.filter p).map f
 | [],o=>by simp
 | x :: l,o=>by
  rw [v4m,q5e p f l,v4j];by_cases h:p x=true
  ·rw [if_pos h,if_pos h];simp
  ·rw [if_neg h,if_neg h]
theorem vk0 (s a:Int):qlq s a=some (decide (0≤a) && (decide (a < 32) && vhp s a)):=by
 unfold qlq;by_cases h0:a≥0
 ·rw [if_pos h0,decide_eq_true (show 0≤a from h0)];by_cases h1:a < 32
  ·rw [if_pos h1,decide_eq_true h1,if_neg (by omega)];rfl
  ·rw [if_neg h1,decide_eq_false h1];rfl
 ·rw [if_neg h0,decide_eq_false (show ¬0≤a from h0)];rfl
theorem veo (a b:Row) (n:Nat) (s:Int):vtb a b (vvg n s)=0↔∀i:Int,0≤i→i < (n:Int)→vhp s i=true→qts (qav a i.toNat) (qav b i.toNat)=0:=by
 rw [vaq];constructor
 ·intro h i h0 h1 hb;refine h i ?_;unfold vvg;rw [v28,v3a];exact ⟨⟨i.toNat,by rw [v3c];omega,by omega⟩,hb⟩
 ·intro h i hi;obtain ⟨h0,h1⟩:=vop hi;exact h i h0 h1 (v28.1 hi).2
def vas (r:Row) (s:Int):List Value:=((v0z r.Values.length).filter fun (k:Nat)=>vhp s k).map (qav r)
theorem q2n (r:Row) (s:Int) (h:r.Values.length≤16):qgc r s=some (vas r s):=by
 have hl:=qb3 (v0z r.Values.length) (fun (o:List Value) i=>(o,i)) (qfy r s) (fun o (k:Nat)=>if vhp s k then o++[qav r k] else o) id (fun k o=>o.length≤k) (b0:=[]) (s0:=([],0)) rfl (v1f 0)
  (fun k o z hz hk hI=>by
   have hzk:z=k:=by
    have:=(v0b.1 hz).2;simpa using this.symm
   subst hzk;rw [v2t] at hk;refine ⟨?_,by cases vhp s z <;> simp <;> omega⟩;have hx:=voq (r:=r) (i:=(z:Int)) (by omega) (by omega);rw [v38] at hx;have hh:(decide (0≤(z:Int)) && (decide ((z:Int) < 32) && vhp s z))=vhp s z:=by
    rw [decide_eq_true (show 0≤(z:Int) by omega),decide_eq_true (show (z:Int) < 32 by omega)];rfl
   simp only [qfy,if_pos (show (z:Int) < (r.Values.length:Int) by omega),vk0,hh,hx,v1r,qf2 (show o.length+1≤1073741824 by omega) (show 32≤65536 by omega),if_true,wqn z];cases vhp s z <;> rfl)
  (fun o _=>by rw [v2t];simp [qfy])
 simp only [qgc,hl,id,v1r];rw [q5e];rfl
theorem q5f {α β:Type} (f g:α→β):∀l:List α,l.map f=l.map g↔∀x∈l,f x=g x
 | []=>by simp
 | x :: l=>by simp [q5f f g l]
theorem vg3 {n:Nat} (a b:Row) (s:Int) (ha:a.Values.length=n) (hb:b.Values.length=n) (hn:n≤16) (hs:vp7 a):qfr a b s=some (decide (vtb a b (vvg n s)=0)):=by
 have h1:∀v∈vas a s,v.Str.length≤1073741824:=by
  intro v hv;obtain ⟨k,hk,rfl⟩:=v3a.1 hv;have hk':=v3c.1 (v28.1 hk).1;have:qav a k=a.Values[k]:=by simp [qav,v5c,vz9 hk']
  rw [this];exact hs _ (v2o hk')
 have hlen:(vas a s).length≤1073741824:=by
  unfold vas;rw [v0j];have:=v2r (fun (k:Nat)=>vhp s k) (v0z a.Values.length);rw [v2t] at this;omega
 simp only [qfr,q2n a s (by omega),q2n b s (by omega),v1r,vka _ _ hlen h1];congr 1;rw [v3v,decide_eq_true_eq,decide_eq_true_eq];unfold vas;rw [ha,hb,q5f,veo];constructor
 ·intro h i h0 h2 hi;rw [qse];obtain ⟨k,rfl⟩:=v19 h0;rw [v38];exact h k (v28.2 ⟨by rw [v3c];omega,hi⟩)
 ·intro h k hk;obtain ⟨h2,h3⟩:=v28.1 hk;have:=h (k:Int) (by omega) (by have:=v3c.1 h2;omega) h3
  rwa [v38,qse] at this
def qn6 (p:Row→Row→Bool) (rows:List Row) (i:Nat) (a:Row):Bool:=(rows.take i).all fun b=>p a b
def vyq (n:Nat) (a b:Row) (s:Nat):Prop:=∀k,k < n→s.testBit k=true→qts (qav a k) (qav b k)=0
theorem vk1 {n:Nat} (hn:n≤16) (a b:Row) {s:Nat} (hs:s < 4294967296):vtb a b (vvg n (s:Int))=0↔vyq n a b s:=by
 rw [veo];constructor
 ·intro h k hk hb;have:=h (k:Int) (by omega) (by omega) (by rw [ven hs (by omega)];exact hb)
  rwa [v38] at this
 ·intro h i h0 h1 hb;obtain ⟨k,rfl⟩:=v19 h0;rw [ven hs (by omega)] at hb;rw [v38];exact h k (by omega) hb
structure StOk (t:Table) (s:Nat) (A B:Int):Prop where
 hs:s < 2 ^ t.Attrs.length
 a0:0≤A
 a1:A < (t.Attrs.length:Int)
 b0:-1≤B
 b1:B < (t.Attrs.length:Int)
theorem vyr {n s s':Nat} (hs:s < 2 ^ n) (h:∀k,s'.testBit k=true→s.testBit k=true):s' < 2 ^ n :=
 vs5 fun i hi=>by
  cases hb:s'.testBit i with
  | false=>rfl
  | true=>rw [←h i hb];exact vyl hs hi
theorem StOk.sub {t:Table} {s s':Nat} {A B:Int} (h:StOk t s A B) (hs:∀k,s'.testBit k=true→s.testBit k=true):StOk t s' A B:=⟨vyr h.hs hs,h.a0,h.a1,h.b0,h.b1⟩
end Go.Proofs.YtmlegeeinnkhkaaGreat
namespace Go.Ab
open Go
theorem qk7 {α:Type} (B:List α×Int→Option (LS (List α×Int) (List α))) (f:Nat→List α) (N M c:Nat)
  (h:∀(k:Nat) out,k < N→out.length+c≤M→B (out,(k:Int))=some (.next (out++f k,((k+1:Nat):Int)))) (hf:∀k,k < N→(f k).length≤c)
  (he:∀out,B (out,(N:Int))=some (.done out)):∀(d k:Nat) (out:List α),k+d=N→out.length+d * c≤M→qae B (out,(k:Int))=some (out++(v3f k d).flatMap f):=by
 intro d
 induction d with
 | zero =>
  intro k out hk _;obtain rfl:k=N:=by omega
  rw [qad (he out)];simp
 | succ d ih =>
  intro k out hk hl;have hm:(d+1) * c=d * c+c:=Nat.succ_mul d c;have hc:=hf k (by omega);rw [qac (h k out (by omega) (by omega)),ih (k+1) (out++f k) (by omega) (by rw [v0h];omega)];rw [v5s,v2g,vzw]
def qmy {α:Type} (n:Nat) (p:Nat→Nat→Bool) (mk:Nat→Nat→α):List α :=
 (v3f 0 n).flatMap fun i=>(v3f (i+1) (n - (i+1))).flatMap fun k=>if p i k then [mk i k] else []
theorem qzb {α β:Type} (n:Nat) (p:Nat→Nat→Bool) (mk:Nat→Nat→α) (g:α→β):(qmy n p mk).map g=qmy n p fun i k=>g (mk i k):=by
 unfold qmy;rw [v5h];congr 1;funext i;rw [v5h];congr 1;funext k;split <;> rfl
theorem ql3 {α β:Type} (f:α→List β) (c:Nat):∀l:List α,(∀x∈l,(f x).length≤c)→(l.flatMap f).length≤l.length * c
 | [],_=>by simp
 | x :: l,h=>by
  have h1:=h x (by simp);have h2:=ql3 f c l fun y hy=>h y (by simp [hy])
  rw [v2g,v0h,v2p,Nat.succ_mul];omega
theorem q7h {α:Type} (b:Bool) (x:α):(if b then [x] else []).length≤1:=by cases b <;> simp
theorem qty {α:Type} (n i:Nat) (p:Nat→Nat→Bool) (mk:Nat→Nat→α):((v3f (i+1) (n - (i+1))).flatMap fun k=>if p i k then [mk i k] else []).length≤n:=by
 have:=ql3 (fun k=>if p i k then [mk i k] else []) 1 (v3f (i+1) (n - (i+1))) fun k _=>q7h _ _
 rw [v5f] at this;omega
theorem qut {α:Type} (n:Nat) (p:Nat→Nat→Bool) (mk:Nat→Nat→α):(qmy n p mk).length≤n * n:=by
 have:=ql3 (fun i=>(v3f (i+1) (n - (i+1))).flatMap fun k=>if p i k then [mk i k] else []) n (v3f 0 n) fun i _=>qty n i p mk
 rwa [v5f] at this
theorem qjc {α:Type} {n:Nat} {p:Nat→Nat→Bool} {mk:Nat→Nat→α} {x:α}:x∈qmy n p mk↔∃i k,i < k∧k < n∧p i k=true∧x=mk i k:=by
 unfold qmy;simp only [v0s,v5l];constructor
 ·rintro ⟨i,hi,k,hk,hx⟩;split at hx
  ·rename_i hp;simp only [v3d] at hx;exact ⟨i,k,by omega,by omega,hp,hx⟩
  ·simp at hx
 ·rintro ⟨i,k,h1,h2,hp,rfl⟩;exact ⟨i,by omega,k,by omega,by simp [hp]⟩
theorem qnr {α β:Type} {f g:α→List β}:∀{l:List α},(∀x∈l,f x=g x)→l.flatMap f=l.flatMap g
 | [],_=>rfl
 | x :: l,h=>by rw [v2g,v2g,h x (by simp),qnr fun y hy=>h y (by simp [hy])]
theorem vat {α:Type} {n:Nat} {p q:Nat→Nat→Bool} {mk mk':Nat→Nat→α} (h:∀i k,i < k→k < n→p i k=q i k∧mk i k=mk' i k):qmy n p mk=qmy n q mk':=by
 unfold qmy;refine qnr fun i hi=>qnr fun k hk=>?_
 simp only [v5l] at hi hk;obtain ⟨h1,h2⟩:=h i k (by omega) (by omega);rw [h1,h2]
end Go.Ab
namespace Go.Proofs.YtmlegeeinnkhkaaGreat
open Go Go.Ab
structure LnkT (t:Table) (l:Linkage):Prop where
 err:qbb t=0
 ok:TableOk t
 rows:t.Rows.length≤300
 attrs:t.Attrs.length≤16
 rules:l.Rules.length≤1000000
 rule:∀r∈l.Rules,r.length≤1000000
 nblock:l.Block.length≤1000000
 nsurv:l.Survive.length≤1000000
 block:∀k∈l.Block,0≤k∧k < (t.Attrs.length:Int)
def qqe (l:Linkage) (a b:Row):Bool:=l.Block.isEmpty || l.Block.any fun k=>decide (qav a k.toNat=qav b k.toNat)
def qx3 (a b:Row) (r:List Similar):Bool:=r.all fun c=>(q48 a b c).1
def qrn (l:Linkage) (a b:Row):Int:=q99 (l.Rules.findIdx? (qx3 a b))
def qsk (l:Linkage) (a b:Row):Bool:=qqe l a b && decide (qrn l a b≥0)
theorem vti (l:Linkage) (h1:l.Rules.length≤1000000) (h2:∀r∈l.Rules,r.length≤1000000) (a b:Row):qml l a b=some (qrn l a b):=by
 have hin:∀x∈l.Rules,qgq x a b=some (qx3 a b x):=by
  intro x hx;have hc:qbo x (fun y=>qf7 y a b)=some (x.any fun c=>!(q48 a b c).1):=qy5 x _ (fun c=>!(q48 a b c).1) (fun c _=>by
   simp only [qf7,vks,v1r]) (by have:=h2 x hx;omega)
  simp only [qgq,hc,v1r,qx3];congr 1;rw [v3v];simp
 simp only [qml,q3r l.Rules (fun y=>qgq y a b) (qx3 a b) hin (by omega),v1r,qrn]
theorem qx4 (l:Linkage) (a b:Row) (i:Nat) {r:List Similar} (hr:l.Rules[i]?=some r) (hl:r.length≤1000000):qae (qep a b l (i:Int)) (true,0)=some (qx3 a b r):=by
 have h:=qb3 r (fun (q:Bool) (k:Int)=>(q,k)) (qep a b l (i:Int)) (fun q c=>q && (q48 a b c).1) id (fun _ _=>True) (b0:=true) (s0:=(true,0)) rfl trivial
  (fun k q x hx hk _=>by
   refine ⟨?_,trivial⟩;simp only [qep,qaa hr,v1r,if_pos (qai hx),qaa hx,vs8,wqn k];cases q <;> simp)
  (fun q _=>by simp [qep,qaa hr])
 rw [h];simp only [id,qx3];congr 1;have key:∀(l:List Similar) (q:Bool),l.foldl (fun q c=>q && (q48 a b c).1) q=(q && l.all fun c=>(q48 a b c).1):=by
  intro l
  induction l with
  | nil=>intro q;simp
  | cons x l ih=>intro q;simp only [v4m,vzv,ih,Bool.and_assoc]
 rw [key];simp
theorem vtj (l:Linkage) (h1:l.Rules.length≤1000000) (h2:∀r∈l.Rules,r.length≤1000000) (a b:Row):qju a b l=some (qrn l a b):=by
 have h:=qjb l.Rules (qeq a b l) (qx3 a b)
  (fun k x hx hk hp=>by
   simp only [qeq,if_pos (qai hx),qx4 l a b k hx (h2 x (v0t hx)),v1r,hp,vzo,if_false,wqn k])
  (fun k x hx hp=>by
   simp only [qeq,if_pos (qai hx),qx4 l a b k hx (h2 x (v0t hx)),v1r,hp,if_true])
  (by simp [qeq])
 simp only [qju,h,v1r,qrn];cases l.Rules.findIdx? (qx3 a b) <;> rfl
theorem q0l {t:Table} (h:qbb t=0) {r:Row} (hr:r∈t.Rows):r.Values.length=t.Attrs.length:=(qjj h).1 r hr
theorem vep {t:Table} (h:qbb t=0) {r:Row} (hr:r∈t.Rows) {k:Int} (hk:0≤k∧k < (t.Attrs.length:Int)):idx r.Values k=some (qav r k.toNat):=by
 have hl:=q0l h hr;have e:k=((k.toNat:Nat):Int):=by omega
 have hlt:k.toNat < r.Values.length:=by omega
 conv=>lhs;rw [e]
 rw [vb8,qav,v2h,vz9 hlt];rfl
theorem vp8 {t:Table} {l:Linkage} (T:LnkT t l) {a b:Row} (ha:a∈t.Rows) (hb:b∈t.Rows):qhe l a b=some (qqe l a b):=by
 unfold qqe;by_cases h0:l.Block=[]
 ·simp [qhe,h0]
 ·have c:((l.Block.length:Int) == 0)=false:=by
   rw [beq_eq_false_iff_ne];intro h;exact h0 (v2q.1 (by omega))
  have e:l.Block.isEmpty=false:=by simpa using h0
  simp only [qhe,c,vzo,if_false,e,Bool.false_or];have:=T.nblock;rw [qnd l.Block _ (fun k=>decide (qav a k.toNat=qav b k.toNat)) (fun k hk=>by
   simp only [qhw,vep T.err ha (T.block k hk),vep T.err hb (T.block k hk),v1r,vkr]) (by omega)]
  rfl
theorem vk2 {t:Table} {l:Linkage} (T:LnkT t l) {a b:Row} (ha:a∈t.Rows) (hb:b∈t.Rows) {k:Nat} (hk:k < t.Attrs.length):qfr a b ((2 ^ k:Nat):Int)=some (decide (qav a k=qav b k)):=by
 have hs:vp7 a:=fun v hv=>T.ok.short a ha v hv
 have hk16:k < 16:=v1i hk T.attrs;rw [vg3 a b _ (q0l T.err ha) (q0l T.err hb) T.attrs hs];congr 1;have h2:2 ^ k < 4294967296:=v1i (v6k (by omega) hk16) (by decide);rw [v3v,decide_eq_true_eq,decide_eq_true_eq,vk1 T.attrs a b h2];constructor
 ·intro h;exact (qse _ _).1 (h k hk (by simp))
 ·intro h j hj hb;rw [Nat.testBit_two_pow,decide_eq_true_eq] at hb;subst hb;exact (qse _ _).2 h
theorem vys {t:Table} {l:Linkage} (T:LnkT t l) {a b:Row} (ha:a∈t.Rows) (hb:b∈t.Rows):qer a b l=some (qqe l a b):=by
 unfold qqe;by_cases h0:l.Block=[]
 ·simp [qer,h0]
 ·have c:((l.Block.length:Int) == 0)=false:=by
   rw [beq_eq_false_iff_ne];intro h;exact h0 (v2q.1 (by omega))
  have e:l.Block.isEmpty=false:=by simpa using h0
  have hnb:=T.nblock;have hag:∀k∈l.Block,qfr a b (v42.wrap (1 * 2 ^ (min k.toNat 32)))=some (decide (qav a k.toNat=qav b k.toNat)):=by
   intro k hk;obtain ⟨h1,h2⟩:=T.block k hk;have hk':k.toNat < t.Attrs.length:=by omega
   have h16:k.toNat < 16:=v1i hk' T.attrs;have hlt:2 ^ k.toNat < 4294967296:=v1i (v6k (by omega) h16) (by decide);have hw:v42.wrap (1 * 2 ^ (min k.toNat 32))=((2 ^ k.toNat:Nat):Int):=vod (by omega);rw [hw];exact vk2 T ha hb hk'
  have h:=qls l.Block (qc4 a b l) (fun k=>!decide (qav a k.toNat=qav b k.toNat)) true
   (fun k x hx hk hp=>by
    have hm:=v0t hx;have hn:¬x < 0:=by have:=T.block x hm;omega
    have hp':decide (qav a x.toNat=qav b x.toNat)=false:=by simpa using hp
    simp only [qc4,if_pos (qai hx),qaa hx,v1r,if_neg hn,hag x hm,hp',vzo,if_false,wqn k])
   (fun k x hx hp=>by
    have hm:=v0t hx;have hn:¬x < 0:=by have:=T.block x hm;omega
    have hp':decide (qav a x.toNat=qav b x.toNat)=true:=by simpa using hp
    simp only [qc4,if_pos (qai hx),qaa hx,v1r,if_neg hn,hag x hm,hp',if_true])
   (by simp [qc4])
  simp only [qer,c,vzo,if_false,h,v1r,e,Bool.false_or];have hall:(l.Block.all fun k=>!decide (qav a k.toNat=qav b k.toNat))=!(l.Block.any fun k=>decide (qav a k.toNat=qav b k.toNat)):=by
   rw [v3v];simp
  rw [hall];rcases v3u (l.Block.any fun k=>decide (qav a k.toNat=qav b k.toNat)) with q | q <;> simp only [q] <;> rfl
theorem vk3 {t:Table} {l:Linkage} (T:LnkT t l) {a b:Row} (ha:a∈t.Rows) (hb:b∈t.Rows) (hne:a.ID≠b.ID):qfs a b l=some (qsk l a b):=by
 have c:(a.ID != b.ID)=true:=by simp [hne]
 simp only [qfs,c,if_true,vys T ha hb,vtj l T.rules T.rule,v1r,qsk];cases qqe l a b <;> simp
def qf4 (t:Table) (i:Nat):Row:=t.Rows.getD i ⟨0,[]⟩
theorem qib {t:Table} {i:Nat} (h:i < t.Rows.length):t.Rows[i]?=some (qf4 t i):=by simp [qf4,v5c,vz9 h]
theorem qoo {t:Table} {i:Nat} (h:i < t.Rows.length):qf4 t i∈t.Rows:=v0t (qib h)
theorem vtk {t:Table} (he:qbb t=0) {i k:Nat} (hi:i < t.Rows.length) (hk:k < t.Rows.length) (h:i≠k):(qf4 t i).ID≠(qf4 t k).ID:=by
 intro e;have hn:=(qjj he).2;have g1:(ids t)[i]?=some (qf4 t i).ID:=by simp [ids,qib hi]
 have g2:(ids t)[k]?=some (qf4 t k).ID:=by simp [ids,qib hk]
 have l1:=qan g1;rw [e,←g2] at g1;exact h ((v5e l1 hn).1 g1)
def mT (t:Table) (l:Linkage) (i k:Nat):Bool:=qsk l (qf4 t i) (qf4 t k)
theorem qzc {n:Nat} (h:n≤1000000):qal n 16=true:=by
 unfold qal;simp only [decide_eq_true_eq];omega
theorem vau {t:Table} {l:Linkage} (T:LnkT t l):qgr t l=some (qmy t.Rows.length (mT t l) fun i k=>Arr2_int.mk (i:Int) (k:Int)):=by
 have hn:=T.rows;have qwb:∀(i:Nat),i < t.Rows.length→∀out:List Arr2_int,out.length≤500000→qae (qdp t l (i:Int) (qf4 t i)) (out,((i+1:Nat):Int))=some (out++(v3f (i+1) (t.Rows.length - (i+1))).flatMap fun k=>if mT t l i k then [Arr2_int.mk (i:Int) (k:Int)] else []):=by
  intro i hi out hout;refine qk7 (qdp t l (i:Int) (qf4 t i)) (fun k=>if mT t l i k then [Arr2_int.mk (i:Int) (k:Int)] else []) t.Rows.length 600000 1 ?_ (fun k _=>q7h _ _) ?_ _ _ out (by omega) (by omega)
  ·intro k out hk hl;have c:((k:Int) < (t.Rows.length:Int)):=by omega
   have hb:=qib hk;have hr:qal (out.length+1) 16=true:=qzc (by omega);have w:=wqn k;have hm:mT t l i k=(qqe l (qf4 t i) (qf4 t k) && decide (qrn l (qf4 t i) (qf4 t k)≥0)):=rfl;rcases v3u (qqe l (qf4 t i) (qf4 t k)) with q | q
   ·simp only [qdp,if_pos c,qaa hb,v1r,vp8 T (qoo hi) (qoo hk),q,if_true,vti l T.rules T.rule,hm,v3z,w,hr];by_cases f:qrn l (qf4 t i) (qf4 t k)≥0 <;> simp [f]
   ·simp only [qdp,if_pos c,qaa hb,v1r,vp8 T (qoo hi) (qoo hk),q,vzo,if_false,hm,v4w,w];simp
  ·intro out;have c:¬((t.Rows.length:Int) < (t.Rows.length:Int)):=by omega
   simp only [qdp,if_neg c]
 have outer:=qk7 (qhx t l) (fun i=>(v3f (i+1) (t.Rows.length - (i+1))).flatMap fun k=>if mT t l i k then [Arr2_int.mk (i:Int) (k:Int)] else []) t.Rows.length 200000 300 (by
   intro i out hi hl;have c:((i:Int) < (t.Rows.length:Int)):=by omega
   have w:=wqn i;simp only [qhx,if_pos c,qaa (qib hi),v1r,w,qwb i hi out (by omega)]) (fun i _=>by
   have:=qty t.Rows.length i (mT t l) fun i k=>Arr2_int.mk (i:Int) (k:Int)
   omega) (by
   intro out;have c:¬((t.Rows.length:Int) < (t.Rows.length:Int)):=by omega
   simp only [qhx,if_neg c]) t.Rows.length 0 [] (by omega) (by simp;omega)
 simp only [qgr];simp only [v33,v0y] at outer;rw [outer];rfl
theorem vk4 {t:Table} {l:Linkage} (T:LnkT t l):qfa t l=some (qmy t.Rows.length (mT t l) fun i k=>Arr2_int64.mk (qf4 t i).ID (qf4 t k).ID):=by
 have hn:=T.rows;have qwb:∀(i:Nat),i < t.Rows.length→∀out:List Arr2_int64,out.length≤500000→qae (qbr t l (i:Int)) (out,((i+1:Nat):Int))=some (out++(v3f (i+1) (t.Rows.length - (i+1))).flatMap fun k=>if mT t l i k then [Arr2_int64.mk (qf4 t i).ID (qf4 t k).ID] else []):=by
  intro i hi out hout;have key:=qk7 (fun s:List Arr2_int64×Int=>if s.2≤(i:Int) then none else qbr t l (i:Int) s) (fun k=>if i < k then (if mT t l i k then [Arr2_int64.mk (qf4 t i).ID (qf4 t k).ID] else []) else []) t.Rows.length 600000 1;have key2:∀(d k:Nat) (out:List Arr2_int64),i < k→k+d=t.Rows.length→out.length+d≤600000→qae (qbr t l (i:Int)) (out,(k:Int))=some (out++(v3f k d).flatMap fun k=>if mT t l i k then [Arr2_int64.mk (qf4 t i).ID (qf4 t k).ID] else []):=by
   intro d
   induction d with
   | zero =>
    intro k out _ hk _;have c:¬((k:Int) < (t.Rows.length:Int)):=by omega
    rw [qad (t:=out) (by simp only [qbr,if_neg c])];simp
   | succ d ih =>
    intro k out hik hk hl;have hk':k < t.Rows.length:=by omega
    have c:((k:Int) < (t.Rows.length:Int)):=by omega
    have hr:qal (out.length+1) 16=true:=qzc (by omega);have w:=wqn k;have hb:qbr t l (i:Int) (out,(k:Int))=some (.next (out++(if mT t l i k then [Arr2_int64.mk (qf4 t i).ID (qf4 t k).ID] else []),((k+1:Nat):Int))):=by
     simp only [qbr,if_pos c,qaa (qib hi),qaa (qib hk'),v1r,vk3 T (qoo hi) (qoo hk') (vtk T.err hi hk' (by omega)),hr,w];show (if mT t l i k=true then _ else _)=_;cases mT t l i k <;> simp
    have h1:=q7h (mT t l i k) (Arr2_int64.mk (qf4 t i).ID (qf4 t k).ID);rw [qac hb,ih (k+1) _ (by omega) (by omega) (by rw [v0h];omega),v5s,v2g,vzw]
  exact key2 _ (i+1) out (by omega) (by omega) (by omega)
 have outer:=qk7 (qe3 t l) (fun i=>(v3f (i+1) (t.Rows.length - (i+1))).flatMap fun k=>if mT t l i k then [Arr2_int64.mk (qf4 t i).ID (qf4 t k).ID] else []) t.Rows.length 200000 300 (by
   intro i out hi hl;have c:((i:Int) < (t.Rows.length:Int)):=by omega
   have w:=wqn i;simp only [qe3,if_pos c,v1r,w,qwb i hi out (by omega)]) (fun i _=>by
   have:=qty t.Rows.length i (mT t l) fun i k=>Arr2_int64.mk (qf4 t i).ID (qf4 t k).ID
   omega) (by
   intro out;have c:¬((t.Rows.length:Int) < (t.Rows.length:Int)):=by omega
   simp only [qe3,if_neg c]) t.Rows.length 0 [] (by omega) (by simp;omega)
 simp only [qfa];simp only [v33,v0y] at outer;rw [outer];rfl
def vp9 (t:Table) (l:Linkage):Int :=
 if qbb t≠0 then qbb t else if vak (t.Attrs.length:Int) l≠0 then vak (t.Attrs.length:Int) l else if t.Rows.length > 200 then 3 else 0
theorem ver (t:Table) (l:Linkage) (H:TableOk t) (hr:∀r∈l.Rules,r.length≤1000000) (hR:l.Rules.length≤1000000) (hb:l.Block.length≤1000000) (hs:l.Survive.length≤1000000):qj6 t l=some (vp9 t l):=by
 unfold vp9;simp only [qj6,qri t H,v1r,vym _ l hr hR hb hs,bne_iff_ne];by_cases h1:qbb t=0
 ·by_cases h2:vak (t.Attrs.length:Int) l=0
  ·by_cases h3:(t.Rows.length:Int) > 200
   ·simp [h1,h2,h3,show t.Rows.length > 200 by omega]
   ·simp [h1,h2,h3,show ¬t.Rows.length > 200 by omega]
  ·simp [h1,h2]
 ·simp [h1]
def qea (t:Table) (l:Linkage):List Arr2_int64:=qmy t.Rows.length (mT t l) fun i k=>Arr2_int64.mk (qf4 t i).ID (qf4 t k).ID
theorem q0m {α β:Type} (B:List β×Int→Option (LS (List β×Int) (List β))) (l:List α) (g:α→β) (M:Nat) (hM:l.length≤M)
  (h:∀(k:Nat) out x,l[k]?=some x→out.length+1≤M→B (out,(k:Int))=some (.next (out++[g x],((k+1:Nat):Int)))) (he:∀out,B (out,(l.length:Int))=some (.done out)):qae B ([],0)=some (l.map g):=by
 have h':=qb3 l (fun (b:List β) (k:Int)=>(b,k)) B (fun b x=>b++[g x]) id (fun k b=>b.length=k) (b0:=[]) (s0:=([],0)) rfl rfl
  (fun k b x hx hk hb=>⟨h k b x hx (by omega),by rw [v0h,hb];rfl⟩) (fun b _=>he b)
 rw [h'];congr 1;have key:∀(l:List α) (b:List β),l.foldl (fun b x=>b++[g x]) b=b++l.map g:=by
  intro l
  induction l with
  | nil=>intro b;simp
  | cons x l ih=>intro b;simp [v4m,ih]
 rw [id,key];simp
theorem vk5 {t:Table} {l:Linkage} (T:LnkT t l) (h0:vp9 t l=0):qkk t l=some (qea t l,0):=by
 have hn:=T.rows;have hL:qae (qhy t (qmy t.Rows.length (mT t l) fun i k=>Arr2_int.mk (i:Int) (k:Int))) ([],0)=some (qea t l):=by
  have hlen:=qut t.Rows.length (mT t l) fun i k=>Arr2_int.mk (i:Int) (k:Int)
  have h2:t.Rows.length * t.Rows.length≤300 * 300:=v6h hn hn;rw [q0m _ (qmy t.Rows.length (mT t l) fun i k=>Arr2_int.mk (i:Int) (k:Int)) (fun p=>Arr2_int64.mk (qf4 t p.x0.toNat).ID (qf4 t p.x1.toNat).ID) 100000 (by omega) (by
   intro k out x hx hl;obtain ⟨i,j,h1,h2,_,rfl⟩:=qjc.1 (v0t hx);have hlt:=qan hx;have hr:qal (out.length+1) 16=true:=qzc (by omega);simp only [qhy,if_pos (qai hx),qaa hx,v1r,qaa (qib (show i < t.Rows.length by omega)),qaa (qib h2),hr,if_true,wqn k,v38]) (by
   intro out;simp only [qhy,if_neg (v4z _)])]
  rw [qzb];rfl
 simp only [qkk,ver t l T.ok T.rule T.rules T.nblock T.nsurv,h0,v1r,bne_self_eq_false,vzo,if_false,vau T,hL]
theorem vav (a b:List Arr2_int64) (ha:a.length≤1000000):qdw a b=some (decide (a=b)):=by
 simp only [qdw];by_cases h:a.length=b.length
 ·have e:¬(((a.length:Int) != (b.length:Int))=true):=by simp [h]
  rw [if_neg e,q2l a b h (fun k x y hx hy=>by
   have hk:=qan hx;have hd:((x.x0 == y.x0) && (x.x1 == y.x1))=decide (x=y):=by
    obtain ⟨a0,a1⟩:=x;obtain ⟨b0,b1⟩:=y;rw [v3v];simp
   simp only [qf1,if_pos (qai hx),qaa hx,qaa hy,v1r,hd,qat hk (show a.length≤4611686018427387904 by omega)]) (by simp [qf1])]
  by_cases hab:a=b <;> simp [hab]
 ·have e:(((a.length:Int) != (b.length:Int))=true):=by rw [bne_iff_ne];omega
  rw [if_pos e];have:a≠b:=fun hh=>h (by rw [hh])
  simp [this]
def qmg (W:Nat→Nat→Int) (n:Nat):List (List Int):=(v0z n).map fun i=>(v0z n).map fun k=>W i k
theorem qx5 (W:Nat→Nat→Int) (n:Nat):(qmg W n).length=n:=by simp [qmg]
theorem ql4 {α:Type} (f:Nat→α) {n v:Nat} (hv:v < n):((v0z n).map f)[v]?=some (f v):=by simp [v4n hv]
theorem vor (w:Int) (b:Bool) (hw:-1000≤w∧w≤1000):qey w b=some (qia w b):=by
 have h:v4a.wrap (0 - w)=- w:=by rw [qaz (by omega) (by omega)];omega
 unfold qey qia;cases b
 ·simp only [vzo,if_false];congr 1;split <;> omega
 ·simp only [if_true,h];congr 1;split <;> omega
theorem qx6 (w:Int) (b:Bool) (hw:-1000≤w∧w≤1000):0≤qia w b∧qia w b≤1000:=by
 unfold qia;split <;> omega
theorem q7i (W:Nat→Nat→Int) (hW:∀i k,-1000≤W i k∧W i k≤1000) (l:List Int) (c:Int):∀k:Nat,qun W l c k≤1000 * (k:Int):=by
 intro k;unfold qun
 induction k with
 | zero=>simp
 | succ k ih =>
  rw [v4t,v0o,v5i,qxq];have:((v0z k).map fun i=>qia (W i (k+1)) (l.getD i 0 == c)).sum≤1000 * (k:Int):=by
   have key:∀m:Nat,((v0z m).map fun i=>qia (W i (k+1)) (l.getD i 0 == c)).sum≤1000 * (m:Int):=by
    intro m
    induction m with
    | zero=>simp
    | succ m ihm =>
     rw [v4t,v0o,v5i,qxq];have:=(qx6 (W m (k+1)) (l.getD m 0 == c) (hW _ _)).2;omega
   exact key k
  have h2:=(qx6 (W k (k+1)) (l.getD k 0 == c) (hW _ _)).2;omega
theorem vos (W:Nat→Nat→Int) (hW:∀i k,-1000≤W i k∧W i k≤1000) (l:List Int):∀v:Nat,v≤10→0≤qgk W l v∧qgk W l v≤10000 * (v:Int):=by
 intro v
 induction v with
 | zero=>intro _;simp [qgk]
 | succ v ih =>
  intro hv;rw [qot];have h1:=q7i W hW l (l.getD v 0) v;have h2:=q1v W l (l.getD v 0) v;have h3:=ih (by omega);omega
theorem vot (W:Nat→Nat→Int) (hW:∀i k,-1000≤W i k∧W i k≤1000) (v:Nat) (hv:v≤10) (s:List Int) (c:Int) (B:Int×Int→Option (LS (Int×Int) Int))
  (hB:∀(k:Nat) (m:Int),k < v→0≤m→m≤100000→B (m,(k:Int))=some (.next (m+qia (W k v) (s.getD k 0 == c),((k+1:Nat):Int)))) (hE:∀m,B (m,(v:Int))=some (.done m)):qae B (0,0)=some (qun W s c v):=by
 have key:∀(d k:Nat),k+d=v→qae B (((v0z k).map fun i=>qia (W i v) (s.getD i 0 == c)).sum,(k:Int))=some (qun W s c v):=by
  intro d
  induction d with
  | zero =>
   intro k hk;obtain rfl:k=v:=by omega
   exact qad (hE _)
  | succ d ih =>
   intro k hk;have hb:∀m:Nat,0≤((v0z m).map fun i=>qia (W i v) (s.getD i 0 == c)).sum∧((v0z m).map fun i=>qia (W i v) (s.getD i 0 == c)).sum≤1000 * (m:Int):=by
    intro m
    induction m with
    | zero=>simp
    | succ m ihm =>
     rw [v4t,v0o,v5i,qxq];have:=qx6 (W m v) (s.getD m 0 == c) (hW _ _);omega
   have h1:=hb k;rw [qac (hB k _ (by omega) h1.1 (by omega))];have e:((v0z k).map fun i=>qia (W i v) (s.getD i 0 == c)).sum+qia (W k v) (s.getD k 0 == c)=((v0z (k+1)).map fun i=>qia (W i v) (s.getD i 0 == c)).sum:=by
    rw [v4t,v0o,v5i,qxq]
   rw [e];exact ih (k+1) (by omega)
 exact key v 0 (by omega)
def q3x (b:Bool) (h:Int) (t:List Int) (least:Int):Option (List Int×Int):=if b then some (h :: t,least) else none
abbrev qqp:=List Int×Bool×Int×List Int×Int×Int
abbrev q2o:=List Int×Bool×Int×List Int×Int
def qqq (W:Nat→Nat→Int) (n v:Nat) (L:Int→Int→qqp→Option (LS qqp q2o)):Prop :=
 ∀(p:List Int) (u:Nat) (s:List Int) (b:Bool) (h:Int) (t:List Int) (least:Int),p.length=v→s.length=n→s.take v=p→u≤v →
  ∃s' b' h' t' least',qae (L (u:Int) (qgk W p v)) (s,b,h,t,least,0)=some (s',b',h',t',least')∧s'.length=n∧s'.take v=p∧q3x b' h' t' least'=(qc0 (n - v) p u).foldl (qn5 fun x=>qgk W x n) (q3x b h t least)
theorem vou {s p:List Int} {v:Nat} {c:Int} (h:s.take v=p) (hl:v < s.length):(s.set v c).take (v+1)=p++[c]:=by
 rw [v5y,v54 (by omega),h,v2l,if_pos rfl,if_pos hl];rfl
theorem vk6 {s p:List Int} {v:Nat} (h:s.take v=p) (i:Nat) (hi:i < v):s.getD i 0=p.getD i 0:=by
 rw [←h];simp only [v2h,v0f,if_pos hi]
theorem vov (W:Nat→Nat→Int) (l:List Int) (v:Nat) (h:v≤1):qgk W l v=0:=by
 rcases Nat.le_one_iff_eq_zero_or_eq_one.1 h with rfl | rfl
 ·rfl
 ·simp [qgk,qun]
theorem qx7 (W:Nat→Nat→Int) (hW:∀i k,-1000≤W i k∧W i k≤1000) (n v:Nat) (hv:v < n) (hn:n≤6) (L L':Int→Int→qqp→Option (LS qqp q2o)) (hI:v+1 < n→qqq W n (v+1) L')
  (hB:∀(u c:Nat) (cost:Int) (s:List Int) (b:Bool) (h:Int) (t:List Int) (least:Int),s.length=n→c≤u→u≤10→0≤cost→cost≤100000→(v≤1→cost=0)→(v=0→u=0)→∀x r,(s.set v (c:Int))=x :: r →
   L (u:Int) cost (s,b,h,t,least,(c:Int)) =
    if b=true∧cost+qun W s (c:Int) v≥least then some (.next (s.set v (c:Int),b,h,t,least,((c+1:Nat):Int)))
    else if v+1=n then some (.next (s.set v (c:Int),true,x,r,cost+qun W s (c:Int) v,((c+1:Nat):Int)))
    else (qae (L' ((max u (c+1):Nat):Int) (cost+qun W s (c:Int) v)) (s.set v (c:Int),b,h,t,least,0)).bind fun q=>if q.1.length=n then some (.next (q.1,q.2.1,q.2.2.1,q.2.2.2.1,q.2.2.2.2,((c+1:Nat):Int))) else none)
  (hE:∀(u:Nat) (cost:Int) (s:List Int) (b:Bool) (h:Int) (t:List Int) (least:Int),u≤10→(v=0→u=0)→L (u:Int) cost (s,b,h,t,least,((u+1:Nat):Int))=some (.done (s,b,h,t,least))):qqq W n v L:=by
 intro p u s b h t least hp hs hst hu;have key:∀(d c:Nat) (s:List Int) (b:Bool) (h:Int) (t:List Int) (least:Int),c+d=u+1→s.length=n→s.take v=p →
   ∃s' b' h' t' least',qae (L (u:Int) (qgk W p v)) (s,b,h,t,least,(c:Int))=some (s',b',h',t',least')∧s'.length=n∧s'.take v=p∧q3x b' h' t' least'=((v3f c d).flatMap fun (c:Nat)=>qc0 (n - (v+1)) (p++[(c:Int)]) (max u (c+1))).foldl (qn5 fun x=>qgk W x n) (q3x b h t least):=by
  intro d
  induction d with
  | zero =>
   intro c s b h t least hc hs hst;obtain rfl:c=u+1:=by omega
   exact ⟨s,b,h,t,least,qad (hE u _ s b h t least (by omega) (by omega)),hs,hst,by simp⟩
  | succ d ih =>
   intro c s b h t least hc hs hst;have hcost:=vos W hW p v (by omega);obtain ⟨x,r,hxr⟩:∃x r,s.set v (c:Int)=x :: r:=by
    cases hq:s.set v (c:Int) with
    | nil =>
     have:=congrArg v4o hq;rw [v0m,hs,v0k] at this;omega
    | cons x r=>exact ⟨x,r,rfl⟩
   have hadd:qun W s (c:Int) v=qun W p (c:Int) v:=q1w W _ fun i hi=>vk6 hst i hi
   have hcs:qgk W p v+qun W s (c:Int) v=qgk W (p++[(c:Int)]) (v+1):=by
    have:=vgj W p (c:Int);rw [hp] at this;rw [this,hadd]
   have hb:=hB u c (qgk W p v) s b h t least hs (by omega) (by omega) hcost.1 (by omega) (fun e=>vov W p v e) (fun e=>by omega) x r hxr;rw [hcs] at hb;have hlen:(s.set v (c:Int)).length=n:=by rw [v0m];exact hs
   have htk:(s.set v (c:Int)).take v=p:=by rw [v54 (v1f _)];exact hst
   have htk1:(s.set v (c:Int)).take (v+1)=p++[(c:Int)]:=vou hst (by omega);have hpl:(p++[(c:Int)]).length=v+1:=by simp [hp]
   rw [v5s,v2g,List.foldl_append];by_cases h1:b=true∧qgk W (p++[(c:Int)]) (v+1)≥least
   ·rw [if_pos h1] at hb;obtain ⟨s',b',h',t',least',q1,q2,q3,q4⟩:=ih (c+1) (s.set v (c:Int)) b h t least (by omega) hlen htk;refine ⟨s',b',h',t',least',?_,q2,q3,?_⟩
    ·rw [qac hb];exact q1
    ·rw [q4];have:q3x b h t least=some (h :: t,least):=by simp [q3x,h1.1]
     have hpr:=q1u (fun x=>qgk W x n) (h :: t) least (qc0 (n - (v+1)) (p++[(c:Int)]) (max u (c+1))) (by
      intro y hy;obtain ⟨l1,l2⟩:=qtp _ _ _ y hy;have:=q9w W (x:=y) (p:=p++[(c:Int)]) l2 n (by rw [hpl];omega);rw [hpl] at this;have:=h1.2;show least≤qgk W y n;omega)
     rw [this,hpr]
   ·rw [if_neg h1] at hb;by_cases h2:v+1=n
    ·rw [if_pos h2] at hb;obtain ⟨s',b',h',t',least',q1,q2,q3,q4⟩:=ih (c+1) (s.set v (c:Int)) true x r (qgk W (p++[(c:Int)]) (v+1)) (by omega) hlen htk;refine ⟨s',b',h',t',least',?_,q2,q3,?_⟩
     ·rw [qac hb];exact q1
     ·rw [q4];have e0:n - (v+1)=0:=by omega
      have exr:x :: r=p++[(c:Int)]:=by
       rw [←hxr,←htk1,h2,←hlen,v52]
      rw [e0];simp only [qc0,v4m,List.foldl_nil];congr 1;simp only [q3x,if_true];rw [exr];unfold qn5;cases b with
      | false=>simp [h2]
      | true =>
       simp only [true_and,ge_iff_le,Int.not_le] at h1;simp only [if_true];rw [h2] at h1 ⊢;rw [if_pos h1]
    ·rw [if_neg h2] at hb;have hv1:v+1 < n:=by omega
     obtain ⟨s1,b1,h1',t1,l1,r1,r2,r3,r4⟩:=hI hv1 (p++[(c:Int)]) (max u (c+1)) (s.set v (c:Int)) b h t least hpl hlen htk1 (by omega);rw [r1] at hb;simp only [v1r,if_pos r2] at hb;have htk2:s1.take v=p:=by
      have:=congrArg (List.take v) r3;rw [List.take_take,v3j (by omega),List.take_left' hp] at this;exact this
     obtain ⟨s',b',h',t',least',q1,q2,q3,q4⟩:=ih (c+1) s1 b1 h1' t1 l1 (by omega) r2 htk2;refine ⟨s',b',h',t',least',?_,q2,q3,?_⟩
     ·rw [qac hb];exact q1
     ·rw [q4,r4]
 obtain ⟨s',b',h',t',least',q1,q2,q3,q4⟩:=key (u+1) 0 s b h t least (by omega) hs hst;refine ⟨s',b',h',t',least',by simpa using q1,q2,q3,?_⟩;rw [q4];congr 1;rw [show n - v=(n - (v+1))+1 by omega,qc0,v00]
def vrn (m:List (List Int)) (v:Nat) (s:List Int) (c:Int):(Int×Int)→Option (LS (Int×Int) Int):=fun (more,t) =>
 if t < (v:Int) then
 (idx m t).bind fun (x:List Int) =>
 (x[v]?).bind fun (y:Int) =>
 (idx s t).bind fun (z:Int) =>
 (qey y (z == c)).bind fun (r:Int) =>
 some (.next ((v4a.wrap (more+r)),(v4a.wrap (t+1))))
 else
 some (.done more)
theorem q7j (W:Nat→Nat→Int) (hW:∀i k,-1000≤W i k∧W i k≤1000) (v:Nat) (hv:v≤10) (n:Nat) (hn:v < n) (s:List Int) (hs:s.length=n) (c:Int):qae (vrn (qmg W n) v s c) (0,0)=some (qun W s c v):=by
 refine vot W hW v hv s c (vrn (qmg W n) v s c) ?_ ?_
 ·intro k m hk h0 h1;have c1:((k:Int) < (v:Int)):=by omega
  have hkl:k < s.length:=by omega
  have g1:idx (qmg W n) (k:Int)=some ((v0z n).map fun j=>W k j):=qaa (ql4 _ (by omega));have g2:((v0z n).map fun j=>W k j)[v]?=some (W k v):=ql4 _ hn;have g3:idx s (k:Int)=some (s.getD k 0):=by
   refine qaa ?_;simp [v2h,vz9 hkl]
  have hp:=qx6 (W k v) (s.getD k 0 == c) (hW _ _);have w:v4a.wrap (m+qia (W k v) (s.getD k 0 == c))=m+qia (W k v) (s.getD k 0 == c):=qaz (by omega) (by omega);simp only [vrn,if_pos c1,g1,g2,g3,v1r,vor _ _ (hW _ _),w,wqn k]
 ·intro m;simp [vrn]
theorem vyt (W:Nat→Nat→Int) (hW:∀i k,-1000≤W i k∧W i k≤1000) (n:Nat) (hn:1 < n) (s:List Int) (hs:s.length=n) (c:Int):qae (qmn (qmg W n) s c) (0,0)=some (qun W s c 1):=q7j W hW 1 (by omega) n hn s hs c
theorem vyu (W:Nat→Nat→Int) (hW:∀i k,-1000≤W i k∧W i k≤1000) (n:Nat) (hn:5 < n) (s:List Int) (hs:s.length=n) (c:Int):qae (qmo (qmg W n) s c) (0,0)=some (qun W s c 5):=q7j W hW 5 (by omega) n hn s hs c
theorem vtl (W:Nat→Nat→Int) (hW:∀i k,-1000≤W i k∧W i k≤1000) (n:Nat) (hv:5 < n) (hn:n≤6):qqq W n 5 (fun u cost=>qb4 (qmg W n) u cost):=by
 refine qx7 W hW n 5 hv hn _ (fun _ _ _=>none) (fun h=>by omega) ?_ ?_
 ·intro u c cost s b h t least hs hc hu h0 h1 hz hz0 x r hxr;have hlen:(qmg W n).length=n:=qx5 W n;have wc:=wqn c;have hmax:(if ((c+1:Nat):Int) > (u:Int) then ((c+1:Nat):Int) else (u:Int))=((max u (c+1):Nat):Int):=by split <;> omega
  have hx0:(s.set 5 (c:Int))[0]?=some x:=by rw [hxr];rfl
  have hdr:(s.set 5 (c:Int)).drop 1=r:=by rw [hxr];rfl
  have hl9:(s.set 5 (c:Int)).length≤1000000000:=by rw [v0m];omega
  have hsv:s[5]?=some (s.getD 5 0):=by simp [v2h,vz9 (show 5 < s.length by omega)]
  have wu:=wqn u;have c1:(c:Int) < ((u+1:Nat):Int):=by omega
  have hm:=vyu W hW n hv s hs (c:Int);have ha1:=q1v W s (c:Int) 5;have ha2:=q7i W hW s (c:Int) 5;have wcost:v4a.wrap (cost+qun W s (c:Int) 5)=cost+qun W s (c:Int) 5:=qaz (by omega) (by omega);by_cases hb:b=true
  ·by_cases hge:cost+qun W s (c:Int) 5≥least
   ·rw [if_pos ⟨hb,hge⟩];simp only [qb4,wu,if_pos c1,hm,hsv,v1r,wc,hmax,wcost,if_pos hb,if_pos hge]
   ·rw [if_neg (fun q=>hge q.2)];by_cases hlast:5+1=n
    ·have e:((6:Int) == ((qmg W n).length:Int))=true:=by rw [hlen,beq_iff_eq];omega
     rw [if_pos hlast];simp only [qb4,wu,if_pos c1,hm,hsv,v1r,wc,hmax,wcost,if_pos hb,if_neg hge,e,if_true,if_pos hl9,hx0,hdr]
    ·have e:((6:Int) == ((qmg W n).length:Int))=false:=by rw [hlen,beq_eq_false_iff_ne];omega
     rw [if_neg hlast];omega
  ·have hb':b=false:=by simpa using hb
   rw [if_neg (fun q=>hb q.1)];by_cases hlast:5+1=n
   ·have e:((6:Int) == ((qmg W n).length:Int))=true:=by rw [hlen,beq_iff_eq];omega
    rw [if_pos hlast];simp only [qb4,wu,if_pos c1,hm,hsv,v1r,wc,hmax,wcost,if_neg hb,e,if_true,if_pos hl9,hx0,hdr]
   ·have e:((6:Int) == ((qmg W n).length:Int))=false:=by rw [hlen,beq_eq_false_iff_ne];omega
    rw [if_neg hlast];omega
 ·intro u cost s b h t least hu hz;have wu:=wqn u;simp only [qb4,wu,if_neg (v4z _)]
def vtm (m:List (List Int)) (v:Nat) (L':Int→Int→qqp→Option (LS qqp q2o)) (used cost:Int):qqp→Option (LS qqp q2o):=fun (s,b,h,t,least,c) =>
 if c < (v4a.wrap (used+1)) then
 (qae (vrn m v s c) (0,0)).bind (fun more =>
 (s[v]?).bind fun (_:Int) =>
 (some (if (v4a.wrap (c+1)) > used then (v4a.wrap (c+1)) else used)).bind fun (used2:Int) =>
 (some (v4a.wrap (cost+more))).bind fun (cost2:Int) =>
 (show Option ((Unit) ⊕ (Unit)) from
 if b=true then
 if cost2≥least then
 some (.inr ())
 else
 some (.inl ())
 else
 some (.inl ())).bind (fun o=>match o with
 | .inl () =>
 if (((v+1:Nat):Int) == (m.length:Int))=true then
 if (s.set v c).length≤1000000000 then
 ((s.set v c)[0]?).bind fun (x:Int) =>
 (some ((s.set v c).drop 1)).bind fun (l:List Int) =>
 some (.next ((s.set v c),true,x,l,cost2,(v4a.wrap (c+1))))
 else none
 else
 (qae (L' used2 cost2) ((s.set v c),b,h,t,least,0)).bind (fun (b1,b2,b3,b4,b5) =>
 if b1.length=((s.set v c)).length then
 some (.next (b1,b2,b3,b4,b5,(v4a.wrap (c+1))))
 else none)
 | .inr () =>
 some (.next ((s.set v c),b,h,t,least,(v4a.wrap (c+1))))))
 else
 some (.done (s,b,h,t,least))
theorem q2p (W:Nat→Nat→Int) (hW:∀i k,-1000≤W i k∧W i k≤1000) (v n:Nat) (hv:v < n) (hn:n≤6) (L':Int→Int→qqp→Option (LS qqp q2o)) (hI:v+1 < n→qqq W n (v+1) L'):qqq W n v (fun u cost=>vtm (qmg W n) v L' u cost):=by
 refine qx7 W hW n v hv hn _ L' hI ?_ ?_
 ·intro u c cost s b h t least hs hc hu h0 h1 hz hz0 x r hxr;have hlen:(qmg W n).length=n:=qx5 W n;have wc:=wqn c;have hmax:(if ((c+1:Nat):Int) > (u:Int) then ((c+1:Nat):Int) else (u:Int))=((max u (c+1):Nat):Int):=by split <;> omega
  have hx0:(s.set v (c:Int))[0]?=some x:=by rw [hxr];rfl
  have hdr:(s.set v (c:Int)).drop 1=r:=by rw [hxr];rfl
  have hl9:(s.set v (c:Int)).length≤1000000000:=by rw [v0m];omega
  have hsv:s[v]?=some (s.getD v 0):=by simp [v2h,vz9 (show v < s.length by omega)]
  have wu:=wqn u;have c1:(c:Int) < ((u+1:Nat):Int):=by omega
  have hm:=q7j W hW v (by omega) n hv s hs (c:Int);have ha1:=q1v W s (c:Int) v;have ha2:=q7i W hW s (c:Int) v;have wcost:v4a.wrap (cost+qun W s (c:Int) v)=cost+qun W s (c:Int) v:=qaz (by omega) (by omega);by_cases hb:b=true
  ·by_cases hge:cost+qun W s (c:Int) v≥least
   ·rw [if_pos ⟨hb,hge⟩];simp only [vtm,wu,if_pos c1,hm,hsv,v1r,wc,hmax,wcost,if_pos hb,if_pos hge]
   ·rw [if_neg (fun q=>hge q.2)];by_cases hlast:v+1=n
    ·have e:(((v+1:Nat):Int) == ((qmg W n).length:Int))=true:=by rw [hlen,beq_iff_eq];omega
     rw [if_pos hlast];simp only [vtm,wu,if_pos c1,hm,hsv,v1r,wc,hmax,wcost,if_pos hb,if_neg hge,e,if_true,if_pos hl9,hx0,hdr]
    ·have e:(((v+1:Nat):Int) == ((qmg W n).length:Int))=false:=by rw [hlen,beq_eq_false_iff_ne];omega
     rw [if_neg hlast];simp only [vtm,wu,if_pos c1,hm,hsv,v1r,wc,hmax,wcost,if_pos hb,if_neg hge,e,vzo,if_false,v0m,hs]
     all_goals rfl
  ·have hb':b=false:=by simpa using hb
   rw [if_neg (fun q=>hb q.1)];by_cases hlast:v+1=n
   ·have e:(((v+1:Nat):Int) == ((qmg W n).length:Int))=true:=by rw [hlen,beq_iff_eq];omega
    rw [if_pos hlast];simp only [vtm,wu,if_pos c1,hm,hsv,v1r,wc,hmax,wcost,if_neg hb,e,if_true,if_pos hl9,hx0,hdr]
   ·have e:(((v+1:Nat):Int) == ((qmg W n).length:Int))=false:=by rw [hlen,beq_eq_false_iff_ne];omega
    rw [if_neg hlast];simp only [vtm,wu,if_pos c1,hm,hsv,v1r,wc,hmax,wcost,if_neg hb,e,vzo,if_false,v0m,hs]
    all_goals rfl
 ·intro u cost s b h t least hu hz;have wu:=wqn u;simp only [vtm,wu,if_neg (v4z _)]
theorem vtn (W:Nat→Nat→Int) (hW:∀i k,-1000≤W i k∧W i k≤1000) (n:Nat) (hv:4 < n) (hn:n≤6) (hI:5 < n→qqq W n 5 (fun u cost=>qb4 (qmg W n) u cost)):qqq W n 4 (fun u cost=>qgu (qmg W n) u cost):=q2p W hW 4 n hv hn (fun u cost=>qb4 (qmg W n) u cost) hI
theorem vto (W:Nat→Nat→Int) (hW:∀i k,-1000≤W i k∧W i k≤1000) (n:Nat) (hv:3 < n) (hn:n≤6) (hI:4 < n→qqq W n 4 (fun u cost=>qgu (qmg W n) u cost)):qqq W n 3 (fun u cost=>qgv (qmg W n) u cost):=q2p W hW 3 n hv hn (fun u cost=>qgu (qmg W n) u cost) hI
theorem vtp (W:Nat→Nat→Int) (hW:∀i k,-1000≤W i k∧W i k≤1000) (n:Nat) (hv:2 < n) (hn:n≤6) (hI:3 < n→qqq W n 3 (fun u cost=>qgv (qmg W n) u cost)):qqq W n 2 (fun u cost=>qgw (qmg W n) u cost):=q2p W hW 2 n hv hn (fun u cost=>qgv (qmg W n) u cost) hI
theorem vtq (W:Nat→Nat→Int) (hW:∀i k,-1000≤W i k∧W i k≤1000) (n:Nat) (hv:1 < n) (hn:n≤6) (hI:2 < n→qqq W n 2 (fun u cost=>qgw (qmg W n) u cost)):qqq W n 1 (fun u cost=>qbd (qmg W n) u):=by
 refine qx7 W hW n 1 hv hn _ (fun u cost=>qgw (qmg W n) u cost) hI ?_ ?_
 ·intro u c cost s b h t least hs hc hu h0 h1 hz hz0 x r hxr;have hlen:(qmg W n).length=n:=qx5 W n;have wc:=wqn c;have hmax:(if ((c+1:Nat):Int) > (u:Int) then ((c+1:Nat):Int) else (u:Int))=((max u (c+1):Nat):Int):=by split <;> omega
  have hx0:(s.set 1 (c:Int))[0]?=some x:=by rw [hxr];rfl
  have hdr:(s.set 1 (c:Int)).drop 1=r:=by rw [hxr];rfl
  have hl9:(s.set 1 (c:Int)).length≤1000000000:=by rw [v0m];omega
  have hsv:s[1]?=some (s.getD 1 0):=by simp [v2h,vz9 (show 1 < s.length by omega)]
  have wu:=wqn u;have c1:(c:Int) < ((u+1:Nat):Int):=by omega
  have hm:=vyt W hW n hv s hs (c:Int);have ha1:=q1v W s (c:Int) 1;have ha2:=q7i W hW s (c:Int) 1;have wcost:v4a.wrap (cost+qun W s (c:Int) 1)=cost+qun W s (c:Int) 1:=qaz (by omega) (by omega);have hz1:=hz (by omega);subst hz1;by_cases hb:b=true
  ·by_cases hge:0+qun W s (c:Int) 1≥least
   ·rw [if_pos ⟨hb,hge⟩];simp only [qbd,wu,if_pos c1,hm,hsv,v1r,wc,hmax,wcost,if_pos hb,if_pos hge]
   ·rw [if_neg (fun q=>hge q.2)];by_cases hlast:1+1=n
    ·have e:((2:Int) == ((qmg W n).length:Int))=true:=by rw [hlen,beq_iff_eq];omega
     rw [if_pos hlast];simp only [qbd,wu,if_pos c1,hm,hsv,v1r,wc,hmax,wcost,if_pos hb,if_neg hge,e,if_true,if_pos hl9,hx0,hdr]
    ·have e:((2:Int) == ((qmg W n).length:Int))=false:=by rw [hlen,beq_eq_false_iff_ne];omega
     rw [if_neg hlast];simp only [qbd,wu,if_pos c1,hm,hsv,v1r,wc,hmax,wcost,if_pos hb,if_neg hge,e,vzo,if_false,v0m,hs]
     all_goals rfl
  ·have hb':b=false:=by simpa using hb
   rw [if_neg (fun q=>hb q.1)];by_cases hlast:1+1=n
   ·have e:((2:Int) == ((qmg W n).length:Int))=true:=by rw [hlen,beq_iff_eq];omega
    rw [if_pos hlast];simp only [qbd,wu,if_pos c1,hm,hsv,v1r,wc,hmax,wcost,if_neg hb,e,if_true,if_pos hl9,hx0,hdr]
   ·have e:((2:Int) == ((qmg W n).length:Int))=false:=by rw [hlen,beq_eq_false_iff_ne];omega
    rw [if_neg hlast];simp only [qbd,wu,if_pos c1,hm,hsv,v1r,wc,hmax,wcost,if_neg hb,e,vzo,if_false,v0m,hs]
    all_goals rfl
 ·intro u cost s b h t least hu hz;have wu:=wqn u;simp only [qbd,wu,if_neg (v4z _)]
theorem vtr (W:Nat→Nat→Int) (hW:∀i k,-1000≤W i k∧W i k≤1000) (n:Nat) (hv:0 < n) (hn:n≤6) (hI:1 < n→qqq W n 1 (fun u cost=>qbd (qmg W n) u)):qqq W n 0 (fun u cost=>qbs (qmg W n)):=by
 refine qx7 W hW n 0 hv hn _ (fun u cost=>qbd (qmg W n) u) hI ?_ ?_
 ·intro u c cost s b h t least hs hc hu h0 h1 hz hz0 x r hxr;have hlen:(qmg W n).length=n:=qx5 W n;have wc:=wqn c;have hmax:(if ((c+1:Nat):Int) > (u:Int) then ((c+1:Nat):Int) else (u:Int))=((max u (c+1):Nat):Int):=by split <;> omega
  have hx0:(s.set 0 (c:Int))[0]?=some x:=by rw [hxr];rfl
  have hdr:(s.set 0 (c:Int)).drop 1=r:=by rw [hxr];rfl
  have hl9:(s.set 0 (c:Int)).length≤1000000000:=by rw [v0m];omega
  have hsv:s[0]?=some (s.getD 0 0):=by simp [v2h,vz9 (show 0 < s.length by omega)]
  have hz1:=hz (by omega);have hz2:=hz0 rfl;subst hz1;subst hz2;obtain rfl:c=0:=by omega
  have ha:qun W s ((0:Nat):Int) 0=0:=rfl;have c1:((0:Nat):Int) < 1:=by omega
  have hm1:(max 0 (0+1):Nat)=1:=rfl;have wc':(if (v4a.wrap (((0:Nat):Int)+1)) > 0 then (v4a.wrap (((0:Nat):Int)+1)) else 0)=((1:Nat):Int):=by rw [wc];rfl
  have hl1:qae qmm ()=some ():=qad rfl;rw [ha,hm1,Int.add_zero];by_cases hb:b=true
  ·by_cases hge:(0:Int)≥least
   ·rw [if_pos ⟨hb,hge⟩];simp only [qbs,if_pos c1,hl1,hsv,v1r,wc',wc,if_pos hb,if_pos hge]
   ·rw [if_neg (fun q=>hge q.2)];by_cases hlast:0+1=n
    ·have e:((1:Int) == ((qmg W n).length:Int))=true:=by rw [hlen,beq_iff_eq];omega
     rw [if_pos hlast];simp only [qbs,if_pos c1,hl1,hsv,v1r,wc',wc,if_pos hb,if_neg hge,e,if_true,if_pos hl9,hx0,hdr]
    ·have e:((1:Int) == ((qmg W n).length:Int))=false:=by rw [hlen,beq_eq_false_iff_ne];omega
     rw [if_neg hlast];simp only [qbs,if_pos c1,hl1,hsv,v1r,wc',wc,if_pos hb,if_neg hge,e,vzo,if_false,v0m,hs];rfl
  ·have hb':b=false:=by simpa using hb
   rw [if_neg (fun q=>hb q.1)];by_cases hlast:0+1=n
   ·have e:((1:Int) == ((qmg W n).length:Int))=true:=by rw [hlen,beq_iff_eq];omega
    rw [if_pos hlast];simp only [qbs,if_pos c1,hl1,hsv,v1r,wc',wc,if_neg hb,e,if_true,if_pos hl9,hx0,hdr]
   ·have e:((1:Int) == ((qmg W n).length:Int))=false:=by rw [hlen,beq_eq_false_iff_ne];omega
    rw [if_neg hlast];simp only [qbs,if_pos c1,hl1,hsv,v1r,wc',wc,if_neg hb,e,vzo,if_false,v0m,hs];rfl
 ·intro u cost s b h t least hu hz;have:=hz rfl;subst this;have c1:¬(((0+1:Nat):Int) < 1):=by omega
  simp only [qbs,if_neg c1]
def q7k (n:Nat) (E:List Arr2_int):Prop:=∀e∈E,0≤e.x0∧e.x0 < (n:Int)∧0≤e.x1∧e.x1 < (n:Int)
theorem vk7 (n:Nat) (E:List Arr2_int) (hn:n≤1000) (hE:E.length≤20000) (h:q7k n E):qo3 (n:Int) E=some 0:=by
 have c1:¬((n:Int) > 1000):=by omega
 have c2:((E.length:Int) > 20000)=False:=eq_false (by omega);have c3:¬((n:Int) < 0):=by omega
 have hl:=qls E (qlk (n:Int) E) (fun _=>true) 1
  (fun k x hx hk _=>by
   obtain ⟨h1,h2,h3,h4⟩:=h x (v0t hx);have q1:¬((if x.x1 < x.x0 then x.x1 else x.x0) < 0):=by split <;> omega
   have q2:¬((if x.x1 > x.x0 then x.x1 else x.x0)≥(n:Int)):=by split <;> omega
   simp only [qlk,if_pos (qai hx),qaa hx,v1r,if_neg q1,if_neg q2,wqn k])
  (fun k x hx hp=>by cases hp) (by simp [qlk])
 have hall:(E.all fun _=>true)=true:=by simp
 rw [hall] at hl;simp only [qo3,if_neg c1,c2,decide_false,v1r,vzo,if_false,if_neg c3,hl];rfl
def qu2 (e:Arr2_int):Arr2_int:=⟨e.x1,e.x0⟩
theorem vk8 {α β:Type} (f:α→β) (z:β) (E:List α) {k:Nat} {x:α} (hx:E[k]?=some x):(((E.take k).map f)++v01 (E.length - k) z).set k (f x)=((E.take (k+1)).map f)++v01 (E.length - (k+1)) z:=by
 have hk:=qan hx;have hl:((E.take k).map f).length=k:=by rw [v0j,v0n];omega
 rw [show E.length - k=(E.length - (k+1))+1 by omega,v5t,v5w _ _ (by omega),hl,v3l,v5x,v5y,hx];simp
theorem vc5 (E:List Arr2_int) (hE:E.length≤1000000):qll E=some (E.map qu2):=by
 have h0:(0:Int)≤(E.length:Int):=by omega
 have hr:qal E.length 16=true:=qzc hE;have key:∀(d k:Nat),k+d=E.length→qae (qit E) (((E.take k).map qu2)++v01 (E.length - k) ⟨0,0⟩,(k:Int))=some (E.map qu2):=by
  intro d
  induction d with
  | zero =>
   intro k hk;obtain rfl:k=E.length:=by omega
   exact qad (by simp [qit])
  | succ d ih =>
   intro k hk;have hlt:k < E.length:=by omega
   have hx:E[k]?=some E[k]:=vz9 hlt;have hg:idx (((E.take k).map qu2)++v01 (E.length - k) (⟨0,0⟩:Arr2_int)) (k:Int)=some ⟨0,0⟩:=by
    refine qaa ?_;have hl:((E.take k).map qu2).length=k:=by rw [v0j,v0n];omega
    rw [v5d,hl,if_neg (by omega),v0e,if_pos (by omega)]
   rw [qac (s':=(((E.take (k+1)).map qu2)++v01 (E.length - (k+1)) ⟨0,0⟩,((k+1:Nat):Int))) (by
    simp only [qit,if_pos (qai hx),qaa hx,hg,v1r,wqn k,v38];rw [←vk8 qu2 ⟨0,0⟩ E hx];rfl)]
   exact ih (k+1) (by omega)
 have h:=key E.length 0 (by omega);simp only [v06,List.map_nil,v0y,v1p,v33] at h;simp only [qll,if_pos h0,hr,if_true,h,v1r]
theorem vg4 (a b:List Arr2_int) (ha:a.length≤500000) (hb:b.length≤500000):qfw [a,b]=some (a++b):=by
 have w0:v4a.wrap (0+(a.length:Int))=(a.length:Int):=by rw [qaz (by omega) (by omega)];omega
 have w1:v4a.wrap ((a.length:Int)+(b.length:Int))=((a.length+b.length:Nat):Int):=by rw [qaz (by omega) (by omega)];omega
 have v0:v4a.wrap (0+1)=1:=by rw [qaz (by omega) (by omega)];rfl
 have v1:v4a.wrap (1+1)=2:=by rw [qaz (by omega) (by omega)];rfl
 have g0:idx [a,b] 0=some a:=rfl;have g1:idx [a,b] 1=some b:=rfl;have c0:(0:Int) < (([a,b]:List (List Arr2_int)).length:Int):=by simp
 have c1:(1:Int) < (([a,b]:List (List Arr2_int)).length:Int):=by simp
 have c2:¬(2:Int) < (([a,b]:List (List Arr2_int)).length:Int):=by simp
 have n0:¬(a.length:Int) < 0:=by omega
 have n1:¬((a.length+b.length:Nat):Int) < 0:=by omega
 have L1:qae (qch [a,b]) (0,0)=some ((a.length+b.length:Nat):Int):=by
  rw [qac (s':=((a.length:Int),1)) (by simp only [qch,if_pos c0,g0,v1r,w0,if_neg n0,v0])];rw [qac (s':=(((a.length+b.length:Nat):Int),2)) (by simp only [qch,if_pos c1,g1,v1r,w1,if_neg n1,v1])];exact qad (by simp only [qch,if_neg c2])
 have L2:qae (qci [a,b]) (([]:List Arr2_int),0)=some (a++b):=by
  have r0:qal (([]:List Arr2_int).length+a.length) 16=true:=qzc (by simp;omega);have r1:qal (a.length+b.length) 16=true:=qzc (by omega);rw [qac (s':=(a,1)) (by simp only [qci,if_pos c0,g0,v1r,r0,if_true,v0y,v0])];rw [qac (s':=(a++b,2)) (by simp only [qci,if_pos c1,g1,v1r,r1,if_true,v1])];exact qad (by simp only [qci,if_neg c2])
 have n3:(0:Int)≤((a.length+b.length:Nat):Int):=by omega
 have n4:((a.length+b.length:Nat):Int)≤1000000000000:=by omega
 simp only [qfw,L1,v1r,if_pos n3,if_pos n4,L2]
def qny (E:List Arr2_int) (v:Nat):List Int:=(E.filter fun e=>decide (e.x0=(v:Int))).map (·.x1)
theorem vaw (E:List Arr2_int) (e:Arr2_int) (v:Nat):qny (E++[e]) v=if e.x0=(v:Int) then qny E v++[e.x1] else qny E v:=by
 unfold qny;rw [v5a,v0o];by_cases h:e.x0=(v:Int) <;> simp [h]
theorem q7l (E:List Arr2_int) (v:Nat):(qny E v).length≤E.length:=by
 unfold qny;rw [v0j];exact v2r _ _
theorem qic {α:Type} (f g:Nat→α) {n v:Nat} (hv:v < n) (h:∀u,u < n→u≠v→f u=g u):((v0z n).map f).set v (g v)=(v0z n).map g:=by
 refine vz3 fun j=>?_
 rw [v2l];simp only [v0j,v2t,v0c];by_cases e:v=j
 ·subst e;simp [hv]
 ·rw [if_neg e];by_cases hj:j < n
  ·simp [v4n hj,h j hj (fun q=>e q.symm)]
  ·simp [hj]
theorem quu {α:Type} (f:Nat→α) {n v:Nat} (hv:v < n):((v0z n).map f)[v]?=some (f v):=by simp [v4n hv]
def qzz (E:List Arr2_int) (n:Nat):List (List Int):=(v0z n).map fun v=>v3r (qr2 (qny E v))
theorem q7m (n:Nat) (E:List Arr2_int) (hn:n≤1000) (hE:E.length≤100000) (h:q7k n E):qjs (n:Int) E=some (qzz E n):=by
 have h0:(0:Int)≤(n:Int):=by omega
 have hr:qal n 24=true:=by unfold qal;simp only [decide_eq_true_eq];omega
 have L1:∀(d k:Nat),k+d=E.length→qae (qgs E) ((v0z n).map (qny (E.take k)),(k:Int))=some ((v0z n).map (qny E)):=by
  intro d
  induction d with
  | zero =>
   intro k hk;obtain rfl:k=E.length:=by omega
   rw [v52];exact qad (by simp [qgs])
  | succ d ih =>
   intro k hk;have hlt:k < E.length:=by omega
   have hx:E[k]?=some E[k]:=vz9 hlt;obtain ⟨h1,h2,h3,h4⟩:=h _ (v0t hx);have hv:E[k].x0.toNat < n:=by omega
   have e0:E[k].x0=((E[k].x0.toNat:Nat):Int):=by omega
   have hg:idx ((v0z n).map (qny (E.take k))) E[k].x0=some (qny (E.take k) E[k].x0.toNat):=by
    conv=>lhs;rw [e0]
    exact qaa (quu _ hv)
   have hlen:=q7l (E.take k) E[k].x0.toNat;rw [v0n] at hlen;have hroom:qal ((qny (E.take k) E[k].x0.toNat).length+1) 8=true:=qrf (by omega);have ht:E.take (k+1)=E.take k++[E[k]]:=by rw [v5y,hx];rfl
   rw [qac (s':=((v0z n).map (qny (E.take (k+1))),((k+1:Nat):Int))) (by
    simp only [qgs,if_pos (qai hx),qaa hx,hg,v1r,hroom,if_true,wqn k];congr 3;have hs:=qic (qny (E.take k)) (qny (E.take (k+1))) hv (fun u hu hne=>by
     rw [ht,vaw,if_neg];intro e;exact hne (by omega))
    rw [←hs,ht,vaw,if_pos e0])]
   exact ih (k+1) (by omega)
 have hinit:(v0z n).map (qny ([]:List Arr2_int))=v01 n ([]:List Int):=by
  have:qny ([]:List Arr2_int)=fun _=>[]:=by funext v;rfl
  rw [this];refine vz3 fun j=>?_
  rw [v0c,v0e];by_cases hj:j < n
  ·rw [v4n hj,if_pos hj];rfl
  ·rw [v0a (by simp;omega),if_neg hj];rfl
 have L1':=L1 E.length 0 (by omega);rw [v06,hinit] at L1';simp only [v33] at L1';have L2:∀(d k:Nat),k+d=n→qae (qgt ((v0z n).map (qny E))) ((v0z n).map (fun v=>if v < k then v3r (qr2 (qny E v)) else qny E v),(k:Int))=some (qzz E n):=by
  intro d
  induction d with
  | zero =>
   intro k hk;obtain rfl:k=n:=by omega
   have e:(v0z k).map (fun v=>if v < k then v3r (qr2 (qny E v)) else qny E v)=qzz E k:=by
    refine v2w fun v hv=>?_
    rw [if_pos (v3c.1 hv)]
   rw [e];exact qad (by simp [qgt])
  | succ d ih =>
   intro k hk;have hlt:k < n:=by omega
   have c:((k:Int) < ((((v0z n).map (qny E)).length:Nat):Int)):=by simp;omega
   have hlen:=q7l E k;have hsl:(qr2 (qny E k)).length=(qny E k).length:=(qo1 _).length_eq;have g1:idx ((v0z n).map (fun v=>if v < k then v3r (qr2 (qny E v)) else qny E v)) (k:Int)=some (qny E k):=by
    rw [qaa (quu _ hlt),if_neg (Nat.lt_irrefl _)]
   have g2:q1i (qny E k)=some (qr2 (qny E k)):=if_pos (by omega);have g3:vma (qr2 (qny E k))=some (v3r (qr2 (qny E k))):=if_pos (by omega);have g4:idx (((v0z n).map (fun v=>if v < k then v3r (qr2 (qny E v)) else qny E v)).set k (qr2 (qny E k))) (k:Int)=some (qr2 (qny E k)):=by
    refine qaa ?_;rw [v2l,if_pos rfl,if_pos (by simp;omega)]
   rw [qac (s':=((v0z n).map (fun v=>if v < k+1 then v3r (qr2 (qny E v)) else qny E v),((k+1:Nat):Int))) (by
    simp only [qgt,if_pos c,g1,g2,v1r,v38,g4,g3,wqn k,List.set_set];congr 3;have hs:=qic (fun v=>if v < k then v3r (qr2 (qny E v)) else qny E v) (fun v=>if v < k+1 then v3r (qr2 (qny E v)) else qny E v) hlt (fun u hu hne=>by
     by_cases q:u < k
     ·simp only [if_pos q,if_pos (show u < k+1 by omega)]
     ·simp only [if_neg q,if_neg (show ¬u < k+1 by omega)])
    rw [←hs];simp only [if_pos (Nat.lt_succ_self k)])]
   exact ih (k+1) (by omega)
 have L2':=L2 n 0 (by omega);have e0:(v0z n).map (fun v=>if v < 0 then v3r (qr2 (qny E v)) else qny E v)=(v0z n).map (qny E):=by
  refine v2w fun v hv=>?_
  rw [if_neg (by omega)]
 rw [e0] at L2';simp only [v33] at L2';simp only [qjs,if_pos h0,v38,hr,if_true,L1',L2',v1r]
def qgl (E:List Arr2_int) (u v:Nat):Prop:=(⟨(u:Int),(v:Int)⟩:Arr2_int)∈E
theorem vk9 {E:List Arr2_int} {n u:Nat} {x:Int} (hu:u < n) (h:q7k n E) {l:List Int} (hl:(qzz E n)[u]?=some l):x∈l↔∃v:Nat,x=(v:Int)∧v < n∧qgl E u v:=by
 unfold qzz at hl;rw [quu _ hu] at hl;cases hl;rw [vc0,(qo1 _).mem_iff];unfold qny qgl;simp only [v3a,v28,decide_eq_true_eq];constructor
 ·rintro ⟨e,⟨he,h0⟩,rfl⟩;obtain ⟨h1,h2,h3,h4⟩:=h e he;refine ⟨e.x1.toNat,by omega,by omega,?_⟩;have:(⟨(u:Int),((e.x1.toNat:Nat):Int)⟩:Arr2_int)=e:=by
   obtain ⟨a,b⟩:=e;simp only at *;congr 1
   ·exact h0.symm
   ·omega
  rw [this];exact he
 ·rintro ⟨v,rfl,_,he⟩;exact ⟨_,⟨he,rfl⟩,rfl⟩
def qa7 (W:Nat→Nat→Int) (n:Nat):List Pair:=qmy n (fun _ _=>true) fun i k=>⟨(i:Int),(k:Int),W i k⟩
theorem qne {W:Nat→Nat→Int} {n:Nat} {p:Pair}:p∈qa7 W n↔∃i k:Nat,i < k∧k < n∧p=⟨(i:Int),(k:Int),W i k⟩:=by
 unfold qa7;rw [qjc];constructor
 ·rintro ⟨i,k,h1,h2,_,h3⟩;exact ⟨i,k,h1,h2,h3⟩
 ·rintro ⟨i,k,h1,h2,h3⟩;exact ⟨i,k,h1,h2,rfl,h3⟩
def ves (p:Pair):Arr2_int:=⟨p.I,p.K⟩
theorem q2q (W:Nat→Nat→Int) (n:Nat):((qa7 W n).map ves).Nodup:=by
 unfold qa7;rw [qzb];unfold qmy List.Nodup;rw [v5o];constructor
 ·intro i _;rw [v5o];constructor
  ·intro k _;simp
  ·refine (v5q (s:=i+1) (n:=n - (i+1)) (step:=1)).imp fun {a b} hab x hx y hy=>?_
   simp only [if_true,v3d] at hx hy;subst hx;subst hy;intro e;simp only [ves,Arr2_int.mk.injEq] at e;omega
 ·refine (v5q (s:=0) (n:=n) (step:=1)).imp fun {a b} hab x hx y hy=>?_
  simp only [v0s,if_true,v3d] at hx hy;obtain ⟨k,_,rfl⟩:=hx;obtain ⟨j,_,rfl⟩:=hy;intro e;simp only [ves,Arr2_int.mk.injEq] at e;omega
theorem qro (W:Nat→Nat→Int) (n:Nat) (hn:n≤6):(qa7 W n).length≤36:=by
 have:=qut n (fun _ _=>true) fun i k=>(⟨(i:Int),(k:Int),W i k⟩:Pair)
 have h2:n * n≤6 * 6:=v6h hn hn;unfold qa7;omega
def WOk (W:Nat→Nat→Int):Prop:=(∀i k,-1000≤W i k∧W i k≤1000)∧(∀i k,W i k=W k i)∧∀i,W i i=0
theorem vla {l:List Pair} (h:(l.map ves).Nodup) {k:Nat} {x:Pair} (hx:l[k]?=some x):ves x ∉ (l.take k).map ves:=by
 intro hm;have hk:=qan hx;obtain ⟨p,hp,e⟩:=v3a.1 hm;obtain ⟨j,hj,hjp⟩:=List.mem_take_iff_getElem.1 hp;have g1:(l.map ves)[j]?=some (ves x):=by
  rw [v0c,vz9 (by omega),hjp,v1w,e]
 have g2:(l.map ves)[k]?=some (ves x):=by rw [v0c,hx,v1w]
 have l1:=qan g1;rw [←g2] at g1;have:=(v5e l1 h).1 g1;omega
theorem vlb (W:Nat→Nat→Int) (hW:WOk W) (n:Nat) (hn:n≤6):qk4 (n:Int) (qa7 W n)=some 0:=by
 have hl:=qro W n hn;have c1:¬((n:Int) < 0):=by omega
 have c2:((n:Int) > 200)=False:=eq_false (by omega);have c3:¬(((qa7 W n).length:Int) > 20000):=by omega
 have key:∀(d k:Nat) (seen:List (Arr2_int×Bool)),k+d=(qa7 W n).length→(∀q,(qq7 seen q).getD false=decide (q∈((qa7 W n).take k).map ves))→qae (qjt (n:Int) (qa7 W n)) (seen,(k:Int))=some (.inl ()):=by
  intro d
  induction d with
  | zero =>
   intro k seen hk _;have c:¬((k:Int) < ((qa7 W n).length:Int)):=by omega
   exact qad (by simp only [qjt,if_neg c])
  | succ d ih =>
   intro k seen hk hs;have hlt:k < (qa7 W n).length:=by omega
   have hx:(qa7 W n)[k]?=some (qa7 W n)[k]:=vz9 hlt;obtain ⟨i,j,h1,h2,he⟩:=qne.1 (v0t hx);have hkn:=vla (q2q W n) hx;have hq:=hs (ves (qa7 W n)[k]);rw [decide_eq_false hkn] at hq;have ht:(qa7 W n).take (k+1)=(qa7 W n).take k++[(qa7 W n)[k]]:=by rw [v5y,hx];rfl
   rw [he] at hx hq ht;have hw:=hW.1 i j;have q1:¬((i:Int) < 0):=by omega
   have q2:¬((i:Int)≥(j:Int)):=by omega
   have q3:¬((j:Int)≥(n:Int)):=by omega
   have q4:¬(W i j < -1000):=by omega
   have q5:¬(W i j > 1000):=by omega
   have hq':(qq7 seen (Arr2_int.mk (i:Int) (j:Int))).getD false=false:=hq;rw [qac (s':=(qyo seen (Arr2_int.mk (i:Int) (j:Int)) true,((k+1:Nat):Int))) (by
    simp only [qjt,if_pos (qai hx),qaa hx,v1r,if_neg q1,if_neg q2,if_neg q3,if_neg q4,if_neg q5,hq',vzo,if_false,wqn k])]
   refine ih (k+1) _ (by omega) fun q=>?_
   rw [qx0,ht,v0o,v5i];by_cases e:q=Arr2_int.mk (i:Int) (j:Int)
   ·rw [if_pos e];symm;rw [e];simp [ves]
   ·rw [if_neg e,hs q];rw [v3v,decide_eq_true_eq,decide_eq_true_eq,v0r,v3d];constructor
    ·exact fun h=>.inl h
    ·rintro (h | h)
     ·exact h
     ·exact absurd h e
 have h:=key (qa7 W n).length 0 [] (by omega) (by intro q;simp [qq7]);simp only [v33] at h;simp only [qk4,if_neg c1,c2,decide_false,v1r,vzo,if_false,if_neg c3,h]
theorem vax (W:Nat→Nat→Int) (hW:WOk W) (n:Nat) (hn:n≤6):qhn (n:Int) (qa7 W n)=some 0:=by
 have hl:=qro W n hn;have c1:¬((n:Int) < 0):=by omega
 have c2:¬((n:Int) > 200):=by omega
 have c3:¬(((qa7 W n).length:Int) > 20000):=by omega
 have qwb:∀(i:Nat) (x:Pair),(qa7 W n)[i]?=some x→qae (qc9 (qa7 W n) (i:Int) x) 0=some (.inl ()):=by
  intro i x hx;have hi:=qan hx;have hkn:=vla (q2q W n) hx;have h:=qls ((qa7 W n).take i) (qc9 (qa7 W n) (i:Int) x) (fun _=>true) 1 (fun k y hy hk _=>by
   have hk':k < i:=by rw [v0n] at hk;omega
   have c:((k:Int) < (i:Int)):=by omega
   have hy':(qa7 W n)[k]?=some y:=by rw [v0f,if_pos hk'] at hy;exact hy
   have w:=wqn k;have hne:¬(y.I=x.I∧y.K=x.K):=by
    rintro ⟨e1,e2⟩;exact hkn (v3a.2 ⟨y,v0t hy,by simp [ves,e1,e2]⟩)
   by_cases e1:y.I=x.I
   ·have e2:¬y.K=x.K:=fun e=>hne ⟨e1,e⟩
    simp only [qc9,if_pos c,qaa hy',v1r,beq_iff_eq,if_pos e1,if_neg e2,w]
   ·simp only [qc9,if_pos c,qaa hy',v1r,beq_iff_eq,if_neg e1,w]) (fun k y _ hp=>by cases hp) (by
   rw [v0n,v3j (by omega)];simp only [qc9,if_neg (v4z _)])
  rw [h];simp
 have h:=qls (qa7 W n) (qgz (n:Int) (qa7 W n)) (fun _=>true) 1 (fun k x hx hk _=>by
  obtain ⟨i,j,h1,h2,he⟩:=qne.1 (v0t hx);have hin:=qwb k x hx;subst he;have hw:=hW.1 i j;have q1:¬((i:Int) < 0):=by omega
  have q2:¬((i:Int)≥(j:Int)):=by omega
  have q3:¬((j:Int)≥(n:Int)):=by omega
  have q4:¬(W i j < -1000):=by omega
  have q5:¬(W i j > 1000):=by omega
  simp only [qgz,if_pos (qai hx),qaa hx,v1r,if_neg q1,if_neg q2,if_neg q3,if_neg q4,if_neg q5,hin,wqn k]) (fun k y _ hp=>by cases hp) (by simp [qgz])
 have hall:((qa7 W n).all fun _=>true)=true:=by simp
 rw [hall] at h;simp only [qhn,if_neg c1,if_neg c2,if_neg c3,h,if_true,v1r]
def wOf (l:List Pair) (i k:Nat):Int:=l.foldl (fun m p=>if (p.I=(i:Int)∧p.K=(k:Int))∨(p.K=(i:Int)∧p.I=(k:Int)) then p.Weight else m) 0
theorem vow (l:List Pair) (p:Pair) (i k:Nat):wOf (l++[p]) i k=if (p.I=(i:Int)∧p.K=(k:Int))∨(p.K=(i:Int)∧p.I=(k:Int)) then p.Weight else wOf l i k:=by simp [wOf]
theorem vts {W:Nat→Nat→Int} (hW:WOk W) {n i k:Nat} (hi:i < n) (hk:k < n):wOf (qa7 W n) i k=W i k:=by
 have key:∀(l:List Pair) (m:Int),(∀p∈l,p∈qa7 W n)→(m=W i k∨∃p∈l,(p.I=(i:Int)∧p.K=(k:Int))∨(p.K=(i:Int)∧p.I=(k:Int))) →
   l.foldl (fun m p=>if (p.I=(i:Int)∧p.K=(k:Int))∨(p.K=(i:Int)∧p.I=(k:Int)) then p.Weight else m) m=W i k:=by
  intro l
  induction l with
  | nil=>intro m _ h;rcases h with h | ⟨p,hp,_⟩;exact h;cases hp
  | cons p l ih =>
   intro m hl h;rw [v4m];refine ih _ (fun q hq=>hl q (by simp [hq])) ?_;by_cases c:(p.I=(i:Int)∧p.K=(k:Int))∨(p.K=(i:Int)∧p.I=(k:Int))
   ·left;rw [if_pos c];obtain ⟨a,b,h1,h2,rfl⟩:=qne.1 (hl p (by simp));simp only at c ⊢;rcases c with ⟨e1,e2⟩ | ⟨e1,e2⟩
    ·have:a=i:=by omega
     have:b=k:=by omega
     subst a b;rfl
    ·have:a=k:=by omega
     have:b=i:=by omega
     subst a b;exact hW.2.1 _ _
   ·rw [if_neg c];rcases h with h | ⟨q,hq,hc⟩
    ·exact .inl h
    ·rcases v2z.1 hq with rfl | hq
     ·exact absurd hc c
     ·exact .inr ⟨q,hq,hc⟩
 refine key _ 0 (fun p hp=>hp) ?_;rcases Nat.lt_trichotomy i k with h | h | h
 ·exact .inr ⟨_,qne.2 ⟨i,k,h,hk,rfl⟩,.inl ⟨rfl,rfl⟩⟩
 ·subst h;exact .inl (hW.2.2 i).symm
 ·exact .inr ⟨_,qne.2 ⟨k,i,h,hi,rfl⟩,.inr ⟨rfl,rfl⟩⟩
theorem vlc (W:Nat→Nat→Int) (hW:WOk W) (n:Nat) (hn:n≤6):qlm (n:Int) (qa7 W n)=some (qmg W n):=by
 have hl:=qro W n hn;have h0:(0:Int)≤(n:Int):=by omega
 have hr1:qal n 24=true:=by unfold qal;simp only [decide_eq_true_eq];omega
 have hr2:qal n 8=true:=qrf (by omega);have L1:∀(d k:Nat),k+d=n→qae (qiu (n:Int)) (v01 k (v01 n (0:Int))++v01 (n - k) [],(k:Int))=some (v01 n (v01 n (0:Int))):=by
  intro d
  induction d with
  | zero =>
   intro k hk;obtain rfl:k=n:=by omega
   have c:¬((k:Int) < (((v01 k ([]:List Int)).length:Nat):Int)):=by simp
   exact qad (by simp only [qiu,v38,if_neg c,v3l,v5v,vzx])
  | succ d ih =>
   intro k hk;have c:((k:Int) < (((v01 n ([]:List Int)).length:Nat):Int)):=by simp;omega
   have g:idx (v01 k (v01 n (0:Int))++v01 (n - k) []) (k:Int)=some []:=by
    refine qaa ?_;rw [v5d,v0l,if_neg (by omega),v0e,if_pos (by omega)]
   refine (qac (s':=(v01 (k+1) (v01 n (0:Int))++v01 (n - (k+1)) [],((k+1:Nat):Int))) ?_).trans (ih (k+1) (by omega));simp only [qiu,v38,if_pos c,if_pos h0,hr2,if_true,g,v1r,wqn k,vkn (show k < n by omega)]
 have L1':=L1 n 0 (by omega);simp only [v5v,v0y,v1p,v33] at L1';have L2:∀(d k:Nat),k+d=(qa7 W n).length→qae (qiv (qa7 W n)) (qmg (wOf ((qa7 W n).take k)) n,(k:Int))=some (qmg (wOf (qa7 W n)) n):=by
  intro d
  induction d with
  | zero =>
   intro k hk;obtain rfl:k=(qa7 W n).length:=by omega
   rw [v52];exact qad (by simp only [qiv,if_neg (v4z _)])
  | succ d ih =>
   intro k hk;have hlt:k < (qa7 W n).length:=by omega
   have hx:(qa7 W n)[k]?=some (qa7 W n)[k]:=vz9 hlt;obtain ⟨i,j,h1,h2,he⟩:=qne.1 (v0t hx);have ht:(qa7 W n).take (k+1)=(qa7 W n).take k++[(qa7 W n)[k]]:=by rw [v5y,hx];rfl
   rw [he] at hx ht;generalize hA:wOf ((qa7 W n).take k)=A at *;generalize hA':wOf ((qa7 W n).take (k+1))=A';have hAA:∀a b:Nat,A' a b=if (a=i∧b=j)∨(a=j∧b=i) then W i j else A a b:=by
    intro a b;rw [←hA',ht,vow,←hA];by_cases q:(a=i∧b=j)∨(a=j∧b=i)
    ·rw [if_pos q,if_pos (by simp only;omega)]
    ·rw [if_neg q,if_neg (by simp only;omega)]
   have gi:idx (qmg A n) (i:Int)=some ((v0z n).map fun b=>A i b):=qaa (ql4 _ (by omega));have gj:idx (qmg A n) (j:Int)=some ((v0z n).map fun b=>A j b):=qaa (ql4 _ h2);have gij:idx ((v0z n).map fun b=>A i b) (j:Int)=some (A i j):=qaa (ql4 _ h2);have gji:idx ((v0z n).map fun b=>A j b) (i:Int)=some (A j i):=qaa (ql4 _ (by omega));have gj2:idx ((qmg A n).set i (((v0z n).map fun b=>A i b).set j (W i j))) (j:Int)=some ((v0z n).map fun b=>A j b):=by
    refine qaa ?_;rw [v2l,if_neg (by omega)];exact ql4 _ h2
   have clen:((i:Int) < ((((v0z n).map fun b=>A j b).length:Nat):Int)):=by simp;omega
   have qqv:((qmg A n).set i (((v0z n).map fun b=>A i b).set j (W i j))).set j (((v0z n).map fun b=>A j b).set i (W i j))=qmg A' n:=by
    have r1:((v0z n).map fun b=>A i b).set j (W i j)=(v0z n).map fun b=>A' i b:=by
     have:=qic (fun b=>A i b) (fun b=>A' i b) h2 (fun u hu hne=>by rw [hAA,if_neg (by omega)]);rw [←this,hAA i j,if_pos (.inl ⟨rfl,rfl⟩)]
    have r2:((v0z n).map fun b=>A j b).set i (W i j)=(v0z n).map fun b=>A' j b:=by
     have:=qic (fun b=>A j b) (fun b=>A' j b) (show i < n by omega) (fun u hu hne=>by rw [hAA,if_neg (by omega)]);rw [←this,hAA j i,if_pos (.inr ⟨rfl,rfl⟩)]
    rw [r1,r2];have s1:=qic (fun a=>(v0z n).map fun b=>A a b) (fun a=>if a=i then (v0z n).map (fun b=>A' i b) else (v0z n).map fun b=>A a b) (show i < n by omega) (fun u hu hne=>by simp only [if_neg hne]);simp only [if_true] at s1;have s2:=qic (fun a=>if a=i then (v0z n).map (fun b=>A' i b) else (v0z n).map fun b=>A a b) (fun a=>(v0z n).map fun b=>A' a b) h2 (fun u hu hne=>by
     by_cases e:u=i
     ·subst e;simp
     ·simp only [if_neg e];refine v2w fun b _=>?_
      rw [hAA,if_neg (by omega)])
    have e0:qmg A n=(v0z n).map fun a=>(v0z n).map fun b=>A a b:=rfl
    rw [e0,s1,s2];rfl
   rw [qac (s':=(qmg A' n,((k+1:Nat):Int))) (by
    simp only [qiv,if_pos (qai hx),qaa hx,v1r,gi,gj,gij,v38,gj2,gji,if_pos clen,qqv,wqn k])]
   rw [←hA'];exact ih (k+1) (by omega)
 have L2':=L2 (qa7 W n).length 0 (by omega);have e0:qmg (wOf ((qa7 W n).take 0)) n=v01 n (v01 n (0:Int)):=by
  refine vz3 fun a=>?_
  by_cases ha:a < n
  ·rw [qmg,ql4 _ ha,v0e,if_pos ha];congr 1;refine vz3 fun b=>?_
   by_cases hb:b < n
   ·rw [ql4 _ hb,v0e,if_pos hb];rfl
   ·rw [v0a (by simp;omega),v0e,if_neg hb]
  ·rw [v0a (by simp [qmg];omega),v0e,if_neg ha]
 rw [e0] at L2';have e1:qmg (wOf (qa7 W n)) n=qmg W n:=by
  refine v2w fun a ha=>v2w fun b hb=>?_
  exact vts hW (v3c.1 ha) (v3c.1 hb)
 rw [e1] at L2';simp only [v33] at L2';simp only [qlm,if_pos h0,v38,hr1,if_true,L1',v1r,L2']
theorem vld (W:Nat→Nat→Int) (hW:WOk W) (n:Nat) (h1:1≤n) (hn:n≤6):∃l c,vmb W n=some (l,c)∧qiw (n:Int) (qa7 W n)=some (l,c,0):=by
 have hb:=hW.1;have s5:5 < n→qqq W n 5 _:=fun h=>vtl W hb n h hn
 have s4:4 < n→qqq W n 4 _:=fun h=>vtn W hb n h hn s5
 have s3:3 < n→qqq W n 3 _:=fun h=>vto W hb n h hn s4
 have s2:2 < n→qqq W n 2 _:=fun h=>vtp W hb n h hn s3
 have s1:1 < n→qqq W n 1 _:=fun h=>vtq W hb n h hn s2
 have s0:qqq W n 0 _:=vtr W hb n (by omega) hn s1;obtain ⟨s',b',h',t',least',q1,q2,q3,q4⟩:=s0 [] 0 (v01 n 0) false 0 [] 0 rfl (by simp) (by simp) (v1f _);obtain ⟨l,c,ho,_⟩:=q11 W n;have q4':q3x b' h' t' least'=some (l,c):=by rw [q4];exact ho
 refine ⟨l,c,ho,?_⟩;have hb':b'=true:=by
  cases b' with
  | true=>rfl
  | false=>simp [q3x] at q4'
 subst hb';simp only [q3x,if_true,v1x,Prod.mk.injEq] at q4';have c1:¬((n:Int) > 10):=by omega
 have h0:(0:Int)≤(n:Int):=by omega
 have hr:qal n 8=true:=qrf (by omega);have e:((0:Int) == ((qmg W n).length:Int))=false:=by rw [qx5,beq_eq_false_iff_ne];omega
 simp only [qiw,vlb W hW n hn,v1r,bne_self_eq_false,vzo,if_false,if_neg c1,vlc W hW n hn,if_pos h0,v38,hr,if_true,e,q1,v0l,q2,q4'.1,q4'.2]
theorem qwi:∀(k:Nat) (p:List Int) (u:Nat),(qc0 k p u).length≤(u+k+1) ^ k
 | 0,p,u=>by simp [qc0]
 | k+1,p,u=>by
  simp only [qc0];have h:=ql3 (fun c:Nat=>qc0 k (p++[(c:Int)]) (max u (c+1))) ((u+(k+1)+1) ^ k) (v0z (u+1)) (fun c hc=>by
   have hc:=v3c.1 hc;refine v1h (qwi k _ _) (v6i ?_ k);omega)
  rw [v2t] at h;refine v1h h ?_;rw [Nat.pow_succ,Nat.mul_comm];exact Nat.mul_le_mul_left _ (by omega)
theorem qk8 (l:List Int) (k:Nat) {x:Int} (hx:l[k]?=some x):qb7 (l.take (k+1))=max (qb7 (l.take k)) (x.toNat+1):=by
 rw [v5y,hx];simp [qb7]
theorem vle (out:List (List Int)) (i:Nat) {l:List Int} (hl:out[i]?=some l) (hnn:∀x∈l,(0:Int)≤x) (hlen:l.length≤1000000):qae (qfe out (i:Int)) (-1,0)=some ((qb7 l:Int) - 1):=by
 have key:∀(d k:Nat),k+d=l.length→qae (qfe out (i:Int)) ((qb7 (l.take k):Int) - 1,(k:Int))=some ((qb7 l:Int) - 1):=by
  intro d
  induction d with
  | zero =>
   intro k hk;obtain rfl:k=l.length:=by omega
   rw [v52];exact qad (by simp only [qfe,qaa hl,v1r,if_neg (v4z _)])
  | succ d ih =>
   intro k hk;have hlt:k < l.length:=by omega
   have hx:l[k]?=some l[k]:=vz9 hlt;have h0:=hnn _ (v0t hx);have hm:(if l[k] > (qb7 (l.take k):Int) - 1 then l[k] else (qb7 (l.take k):Int) - 1)=(qb7 (l.take (k+1)):Int) - 1:=by
    rw [qk8 l k hx];split <;> omega
   rw [qac (s':=((qb7 (l.take (k+1)):Int) - 1,((k+1:Nat):Int))) (by simp only [qfe,qaa hl,v1r,if_pos (qai hx),qaa hx,hm,wqn k])];exact ih (k+1) (by omega)
 have h:=key l.length 0 (by omega);simpa [qb7] using h
def nfL (l:List Int):Prop:=(∀x∈l,(0:Int)≤x)∧∀(k:Nat) (x:Int),l[k]?=some x→x.toNat≤qb7 (l.take k)
theorem vox {l:List Int} (h:nfL l) {c:Nat} (hc:c≤qb7 l):nfL (l++[(c:Int)]):=by
 refine ⟨?_,?_⟩
 ·intro x hx;rcases v0r.1 hx with hx | hx
  ·exact h.1 x hx
  ·rw [v3d] at hx;subst hx;omega
 ·intro k x hx;by_cases hk:k < l.length
  ·rw [vz6 hk] at hx;have:=h.2 k x hx
   rwa [v5z (by omega)]
  ·have hlt:=qan hx;rw [v0h,v2u] at hlt;obtain rfl:k=l.length:=by omega
   rw [v5z (v1f _),v52];simp at hx;subst hx;simpa using hc
theorem q7n:∀(k:Nat) (p:List Int) (u:Nat) (x:List Int),nfL p→u=qb7 p→x∈qc0 k p u→nfL x
 | 0,p,u,x,hp,_,h=>by
  simp only [qc0,v3d] at h;subst h;exact hp
 | k+1,p,u,x,hp,hu,h=>by
  simp only [qc0,v0s,v3c] at h;obtain ⟨c,hc,hx⟩:=h;exact q7n k _ _ x (vox hp (by omega)) (by rw [q4w,hu]) hx
theorem vlf:nfL []:=⟨by simp,by simp⟩
theorem qsl {l:List Int} (h:nfL l):qb7 l≤l.length:=by
 have key:∀k,k≤l.length→qb7 (l.take k)≤k:=by
  intro k
  induction k with
  | zero=>intro _;simp [qb7]
  | succ k ih =>
   intro hk;have hx:l[k]?=some l[k]:=vz9 (by omega);have:=h.2 k _ hx;have:=ih (by omega);rw [qk8 l k hx];omega
 have:=key l.length (v1f _)
 rwa [v52] at this
theorem vg5 (out:List (List Int)) (i:Nat) {l:List Int} (hl:out[i]?=some l) (hlen:l.length≤1000) (u:Nat) (hu:u≤1000) (more:List (List Int)) (hm:more.length≤20000000) :
  qae (qff out (i:Int) ((u:Int) - 1)) (more,0)=some (more++(v0z (u+1)).map fun c=>l++[((c:Nat):Int)]):=by
 have w:v4a.wrap ((u:Int) - 1+1)=(u:Int):=by rw [qaz (by omega) (by omega)];omega
 have r1:qal l.length 8=true:=qrf (by omega);have r2:qal (l.length+1) 8=true:=qrf (by omega);have h:=qk7 (qff out (i:Int) ((u:Int) - 1)) (fun c=>[l++[((c:Nat):Int)]]) (u+1) 30000000 1 (by
  intro k mo hk hl';have c:((k:Int)≤(u:Int)):=by omega
  have r3:qal (mo.length+1) 24=true:=by unfold qal;simp only [decide_eq_true_eq];omega
  simp only [qff,w,if_pos c,qaa hl,v1r,r1,r2,r3,if_true,wqn k]) (fun _ _=>v1f _) (by
  intro mo;have c:¬(((u+1:Nat):Int)≤(u:Int)):=by omega
  simp only [qff,w,if_neg c]) (u+1) 0 more (by omega) (by omega)
 simp only [v33] at h;rw [h];congr 2;rw [←v00,v5g]
theorem voy (n:Nat) (hn:n≤6):qlr (n:Int)=some (qc0 n [] 0):=by
 have step:∀k,k < n→qae (qfg (qc0 k [] 0)) ([],0)=some (qc0 (k+1) [] 0):=by
  intro k hk;have hcount:(qc0 k [] 0).length≤117649:=by
   refine v1h (qwi k [] 0) ?_;have:(0+k+1) ^ k≤7 ^ 6:=v1h (v6i (by omega) k) (v6j (by omega) (by omega));exact v1h this (by decide)
  have hel:∀x∈qc0 k [] 0,nfL x∧x.length=k:=fun x hx=>⟨q7n k [] 0 x vlf rfl hx,by simpa using (qtp k [] 0 x hx).1⟩
  have h:=qk7 (qfg (qc0 k [] 0)) (fun i=>(v0z (qb7 ((qc0 k [] 0).getD i [])+1)).map fun c=>(qc0 k [] 0).getD i []++[((c:Nat):Int)]) (qc0 k [] 0).length 10000000 8 (by
   intro i mo hi hl;have hx:(qc0 k [] 0)[i]?=some ((qc0 k [] 0).getD i []):=by simp [v5c,vz9 hi]
   obtain ⟨hnf,hlen⟩:=hel _ (v0t hx);have hus:=qsl hnf;simp only [qfg,if_pos (qai hx),vle _ i hx hnf.1 (by omega),v1r,vg5 _ i hx (by omega) (qb7 ((qc0 k [] 0).getD i [])) (by omega) mo (by omega),wqn i]) (by
   intro i hi;have hx:(qc0 k [] 0)[i]?=some ((qc0 k [] 0).getD i []):=by simp [v5c,vz9 hi]
   obtain ⟨hnf,hlen⟩:=hel _ (v0t hx);have hus:=qsl hnf;rw [v0j,v2t];omega) (by
   intro mo;simp only [qfg,if_neg (v4z _)]) (qc0 k [] 0).length 0 [] (by omega) (by simp;omega)
  simp only [v33,v0y] at h;rw [h,q4x k [] 0 rfl];congr 1;have key:∀(l:List (List Int)) (f:List Int→List (List Int)),(v3f 0 l.length).flatMap (fun i=>f (l.getD i []))=l.flatMap f:=by
   intro l f;rw [←v00];have e:l=(v0z l.length).map fun i=>l.getD i []:=by
    refine vz3 fun i=>?_
    by_cases hi:i < l.length
    ·rw [ql4 _ hi,vz9 hi];simp [v5c,vz9 hi]
    ·rw [v0a (by omega),v0a (by simp;omega)]
   conv=>rhs;rw [e]
   rw [List.flatMap_map]
  exact key (qc0 k [] 0) fun l=>(v0z (qb7 l+1)).map fun c=>l++[((c:Nat):Int)]
 have key:∀(d k:Nat),k+d=n→qae (qfh (n:Int)) (qc0 k [] 0,(k:Int))=some (qc0 n [] 0):=by
  intro d
  induction d with
  | zero =>
   intro k hk;obtain rfl:k=n:=by omega
   exact qad (by simp only [qfh,if_neg (v4z _)])
  | succ d ih =>
   intro k hk;have c:((k:Int) < (n:Int)):=by omega
   rw [qac (s':=(qc0 (k+1) [] 0,((k+1:Nat):Int))) (by simp only [qfh,if_pos c,step k (by omega),v1r,wqn k])];exact ih (k+1) (by omega)
 have h:=key n 0 (by omega);simp only [v33] at h;have h':qae (qfh (n:Int)) ([[]],0)=some (qc0 n [] 0):=h;simp only [qlr,v1r,h']
theorem vay (W:Nat→Nat→Int) (g:Nat→Nat→Int):∀(d i:Nat),((v3f i d).flatMap fun a=>(v3f (a+1) (i+d - (a+1))).map fun b=>g a b).sum=qna g (v3f i d)
 | 0,i=>rfl
 | d+1,i=>by
  rw [v5s,v2g,qna,q1x];have e:i+(d+1) - (i+1)=d:=by omega
  rw [e];congr 1;rw [←vay W g d (i+1)];congr 1;refine qnr fun a _=>?_
  rw [show i+1+d=i+(d+1) by omega]
theorem vg6 (n:Nat) (g:Nat→Nat→Int):(qmy n (fun _ _=>true) g).sum=qna g (v0z n):=by
 have:=vay (fun _ _=>0) g n 0;rw [v1q,←v00] at this;rw [←this];unfold qmy;rw [v00];congr 1;refine qnr fun a _=>?_
 simp only [if_true];rw [v5g]
theorem q2r (W:Nat→Nat→Int) (hW:WOk W) (n:Nat) (hn:n≤6) (l:List Int) (hl:l.length=n):qg0 (qa7 W n) l=some (qgk W l n):=by
 have hlen:=qro W n hn;have hgen:∀p∈qa7 W n,0≤p.I∧p.I.toNat < n∧0≤p.K∧p.K.toNat < n∧-1000≤p.Weight∧p.Weight≤1000:=by
  intro p hp;obtain ⟨i,k,h1,h2,rfl⟩:=qne.1 hp;have:=hW.1 i k;simp only;omega
 have hstep:∀(k:Nat) (m:Int) (p:Pair),(qa7 W n)[k]?=some p→-1000000≤m→m≤1000000→qfd (qa7 W n) l (m,(k:Int))=some (.next (m+qia p.Weight (l.getD p.I.toNat 0 == l.getD p.K.toNat 0),((k+1:Nat):Int))):=by
  intro k m p hx hm1 hm2;have hk:=qan hx;obtain ⟨q1,q2,q3,q4,q5,q6⟩:=hgen p (v0t hx);have gI:idx l p.I=some (l.getD p.I.toNat 0):=by
   conv=>lhs;rw [show p.I=((p.I.toNat:Nat):Int) by omega]
   refine qaa ?_;simp [v2h,vz9 (show p.I.toNat < l.length by omega)]
  have gK:idx l p.K=some (l.getD p.K.toNat 0):=by
   conv=>lhs;rw [show p.K=((p.K.toNat:Nat):Int) by omega]
   refine qaa ?_;simp [v2h,vz9 (show p.K.toNat < l.length by omega)]
  have w:=wqn k;have w1:v4a.wrap (m+p.Weight)=m+p.Weight:=qaz (by omega) (by omega);have w2:v4a.wrap (m - p.Weight)=m - p.Weight:=qaz (by omega) (by omega);simp only [qfd,if_pos (qai hx),qaa hx,gI,gK,v1r,w,w1,w2];by_cases a1:p.Weight > 0
  ·have a2:¬p.Weight < 0:=by omega
   rcases v3u (l.getD p.I.toNat 0 == l.getD p.K.toNat 0) with e | e
   ·simp only [if_pos a1,if_neg a2,e,v4x,v1r,vzo,if_false,qia,if_true];congr 3;omega
   ·simp only [if_pos a1,if_neg a2,e,Bool.not_false,v1r,vzo,if_false,qia,if_true];congr 3;omega
  ·by_cases a2:p.Weight < 0
   ·rcases v3u (l.getD p.I.toNat 0 == l.getD p.K.toNat 0) with e | e
    ·simp only [if_neg a1,if_pos a2,e,v1r,vzo,if_false,qia,if_true];congr 3;omega
    ·simp only [if_neg a1,if_pos a2,e,v1r,vzo,if_false,qia];congr 3;omega
   ·have h0:p.Weight=0:=by omega
    simp only [if_neg a1,if_neg a2,v1r,vzo,if_false,qia,h0];congr 3;simp
 have hsum:∀(l':List Pair) (m:Int),(∀p∈l',p∈qa7 W n)→l'.foldl (fun m p=>m+qia p.Weight (l.getD p.I.toNat 0 == l.getD p.K.toNat 0)) m=m+(l'.map fun p=>qia p.Weight (l.getD p.I.toNat 0 == l.getD p.K.toNat 0)).sum:=by
  intro l'
  induction l' with
  | nil=>intro m _;simp
  | cons p l' ih =>
   intro m h;rw [v4m,ih _ (fun q hq=>h q (by simp [hq])),v0p,List.sum_cons];omega
 have h:=qb3 (qa7 W n) (fun (m:Int) (k:Int)=>(m,k)) (qfd (qa7 W n) l) (fun m p=>m+qia p.Weight (l.getD p.I.toNat 0 == l.getD p.K.toNat 0)) id (fun k m=>0≤m∧m≤1000 * (k:Int)) (b0:=0) (s0:=(0,0)) rfl (by simp) (by
  intro k m p hx hk hm;have:=qx6 p.Weight (l.getD p.I.toNat 0 == l.getD p.K.toNat 0) (hgen p (v0t hx)).2.2.2.2;exact ⟨hstep k m p hx (by omega) (by omega),by omega,by omega⟩) (by
  intro m _;simp only [qfd,if_neg (v4z _),id])
 simp only [qg0,h,id,v1r];rw [hsum _ 0 (fun p hp=>hp),Int.zero_add];congr 1;rw [q1y,←vg6];unfold qa7;rw [qzb];rfl
theorem vlg (W:Nat→Nat→Int) (hW:WOk W) (n:Nat) (hn:n≤6):∃l c,vmb W n=some (l,c)∧qfi (n:Int) (qa7 W n)=some (l,c,0):=by
 obtain ⟨l,c,ho,hmem,hcost,_⟩:=q11 W n;refine ⟨l,c,ho,?_⟩;have c1:¬((n:Int) > 10):=by omega
 have hlen:∀x∈qc0 n [] 0,x.length=n:=fun x hx=>by simpa using (qtp n [] 0 x hx).1
 have hcount:(qc0 n [] 0).length≤117649:=by
  refine v1h (qwi n [] 0) ?_;have:(0+n+1) ^ n≤7 ^ 6:=v1h (v6i (by omega) n) (v6j (by omega) (by omega));exact v1h this (by decide)
 cases hA:qc0 n [] 0 with
 | nil=>exact absurd hA (vd7 n [] 0)
 | cons x xs =>
  have hx0:(qc0 n [] 0)[0]?=some x:=by rw [hA];rfl
  have loop:∀(d k:Nat) (best:List Int),k+d=(qc0 n [] 0).length→best∈qc0 n [] 0→qae (qca (qa7 W n) (qc0 n [] 0)) (best,(k:Int))=some ((((qc0 n [] 0).drop k).foldl (qn5 fun y=>qgk W y n) (some (best,qgk W best n))).map (·.1)).get!:=by
   intro d
   induction d with
   | zero =>
    intro k best hk hb;have e:(qc0 n [] 0).drop k=[]:=vz0 (by omega);have c:¬((k:Int) < ((qc0 n [] 0).length:Int)):=by omega
    rw [e];exact qad (by simp only [qca,if_neg c];rfl)
   | succ d ih =>
    intro k best hk hb;have hlt:k < (qc0 n [] 0).length:=by omega
    have hy:(qc0 n [] 0)[k]?=some (qc0 n [] 0)[k]:=vz9 hlt;have hym:=v0t hy;have w:=wqn k;rw [qlu hy,v4m];by_cases hc:qgk W (qc0 n [] 0)[k] n < qgk W best n
    ·rw [qac (s':=((qc0 n [] 0)[k],((k+1:Nat):Int))) (by simp only [qca,if_pos (qai hy),qaa hy,v1r,q2r W hW n hn _ (hlen _ hym),q2r W hW n hn _ (hlen _ hb),if_pos hc,w])];rw [ih (k+1) _ (by omega) hym];simp only [qn5,if_pos hc]
    ·rw [qac (s':=(best,((k+1:Nat):Int))) (by simp only [qca,if_pos (qai hy),qaa hy,v1r,q2r W hW n hn _ (hlen _ hym),q2r W hW n hn _ (hlen _ hb),if_neg hc,w])];rw [ih (k+1) _ (by omega) hb];simp only [qn5,if_neg hc]
  have h:=loop ((qc0 n [] 0).length - 1) 1 x (by rw [hA];simp;omega) (by rw [hA];simp);have ho':((qc0 n [] 0).drop 1).foldl (qn5 fun y=>qgk W y n) (some (x,qgk W x n))=some (l,c):=by
   rw [←ho];unfold vmb;rw [hA];rfl
  rw [ho'] at h;have h':qae (qca (qa7 W n) (qc0 n [] 0)) (x,1)=some l:=h;simp only [qfi,vax W hW n hn,v1r,bne_self_eq_false,vzo,if_false,if_neg c1,voy n hn,hx0,h',q2r W hW n hn l (hlen l hmem),hcost]
structure Vis (R:Nat→Nat→Prop) (n v:Nat) (seen:List Bool) (out:List Int):Prop where
 len:seen.length=n
 nodup:out.Nodup
 mem:∀x∈out,0≤x∧x < (n:Int)∧Rch R v x.toNat
 seen:∀u,u < n→seen[u]?=some (decide ((u:Int)∈out))
def qbw (l:List Nat):List Int:=l.map fun (k:Nat)=>(k:Int)
theorem q2s {l:List Nat} {x:Int}:x∈qbw l↔∃k∈l,x=(k:Int):=by
 simp only [qbw,v3a];exact ⟨fun ⟨k,h,e⟩=>⟨k,h,e.symm⟩,fun ⟨k,h,e⟩=>⟨k,h,e.symm⟩⟩
theorem Vis.small {R:Nat→Nat→Prop} {n v:Nat} {seen:List Bool} {out:List Int} (V:Vis R n v seen out):out.length≤n:=by
 have:=qon (l':=qbw (v0z n)) V.nodup (by
  intro x hx;obtain ⟨h1,h2,_⟩:=V.mem x hx;exact q2s.2 ⟨x.toNat,v3c.2 (by omega),by omega⟩)
 simpa [qbw] using this
theorem vc6 {R:Nat→Nat→Prop} {n v:Nat} (hn:n≤1000) (L:List Int) (hL:∀x∈L,0≤x∧x < (n:Int)∧Rch R v x.toNat) (hlen:L.length≤1000000):∀(d k:Nat) (seen:List Bool) (out:List Int),k+d=L.length→Vis R n v seen out →
  ∃seen' out',qae (qj7 L) (seen,out,(k:Int))=some (seen',out')∧Vis R n v seen' out'∧(∃e,out'=out++e)∧(∀j x,k≤j→L[j]?=some x→x∈out'):=by
 intro d
 induction d with
 | zero =>
  intro k seen out hk V;refine ⟨seen,out,qad ?_,V,⟨[],by simp⟩,?_⟩
  ·have c:¬((k:Int) < (L.length:Int)):=by omega
   simp only [qj7,if_neg c]
  ·intro j x hj hx;have:=qan hx;omega
 | succ d ih =>
  intro k seen out hk V;have hlt:k < L.length:=by omega
  have hx:L[k]?=some L[k]:=vz9 hlt;obtain ⟨h1,h2,h3⟩:=hL _ (v0t hx);have e0:L[k]=((L[k].toNat:Nat):Int):=by omega
  have hu:L[k].toNat < n:=by omega
  have w:=wqn k;have hs:idx seen L[k]=some (decide (L[k]∈out)):=by
   have:=V.seen _ hu;rw [←e0] at this
   conv=>lhs;rw [e0]
   exact qaa this
  by_cases hm:L[k]∈out
  ·obtain ⟨seen',out',q1,q2,⟨e,q3⟩,q4⟩:=ih (k+1) seen out (by omega) V;refine ⟨seen',out',?_,q2,⟨e,q3⟩,?_⟩
   ·rw [qac (s':=(seen,out,((k+1:Nat):Int))) (by simp only [qj7,if_pos (qai hx),qaa hx,v1r,hs,hm,decide_true,if_true,w])];exact q1
   ·intro j x hj hxj;rcases v6f hj with hlt' | rfl
    ·exact q4 j x hlt' hxj
    ·rw [hx] at hxj;cases hxj;rw [q3];exact v5j _ hm
  ·have hroom:qal (out.length+1) 8=true:=qrf (by have:=V.small;omega);have V':Vis R n v (seen.set L[k].toNat true) (out++[L[k]]):=by
    refine ⟨by rw [v0m];exact V.len,?_,?_,?_⟩
    ·rw [v5m];refine ⟨V.nodup,by simp,?_⟩;intro a ha b hb hab;rw [v3d] at hb;subst hb;subst hab;exact hm ha
    ·intro x hxm;rcases v0r.1 hxm with h | h
     ·exact V.mem x h
     ·rw [v3d] at h;subst h;exact ⟨h1,h2,h3⟩
    ·intro u hu';rw [v2l];by_cases e:L[k].toNat=u
     ·subst e;rw [if_pos rfl,if_pos (by rw [V.len];exact hu')];congr 1;symm;rw [decide_eq_true_eq,←e0];simp
     ·rw [if_neg e,V.seen u hu'];congr 1;rw [v3v,decide_eq_true_eq,decide_eq_true_eq,v0r,v3d];constructor
      ·exact fun h=>.inl h
      ·rintro (h | h)
       ·exact h
       ·exact absurd (show L[k].toNat=u by omega) e
   obtain ⟨seen',out',q1,q2,⟨e,q3⟩,q4⟩:=ih (k+1) _ _ (by omega) V';refine ⟨seen',out',?_,q2,⟨[L[k]]++e,by rw [q3,vzw]⟩,?_⟩
   ·rw [qac (s':=(seen.set L[k].toNat true,out++[L[k]],((k+1:Nat):Int))) (by simp only [qj7,if_pos (qai hx),qaa hx,v1r,hs,hm,decide_false,vzo,if_false,hroom,if_true,w])];exact q1
   ·intro j x hj hxj;rcases v6f hj with hlt' | rfl
    ·exact q4 j x hlt' hxj
    ·rw [hx] at hxj;cases hxj;rw [q3];simp
theorem vtt {E:List Arr2_int} {n u:Nat} {l:List Int} (hl:(qzz E n)[u]?=some l):l.length≤E.length:=by
 have hu:u < n:=by have:=qan hl;simpa [qzz] using this
 unfold qzz at hl;rw [quu _ hu] at hl;cases hl;have h1:=q6u (l:=qr2 (qny E u)) (l':=v3r (qr2 (qny E u))) ;have h2:(qr2 (qny E u)).length=(qny E u).length:=(qo1 _).length_eq;have h3:=q7l E u;unfold v3r v43;rw [v0j];have:=v2r (v47 (qr2 (qny E u)).toArray) (v0z (qr2 (qny E u)).length);rw [v2t] at this;omega
theorem vc7 {n v:Nat} (hn:n≤1000) (E:List Arr2_int) (hE:E.length≤100000) (h:q7k n E):∀(d i:Nat) (seen:List Bool) (out:List Int),i+d=n→i≤out.length→Vis (qgl E) n v seen out →
  (∀j x,j < i→out[j]?=some x→∀w:Nat,w < n→qgl E x.toNat w→(w:Int)∈out) →
  ∃out' seen',qae (qj8 (qzz E n)) (seen,out,(i:Int))=some out'∧Vis (qgl E) n v seen' out'∧(∀x∈out,x∈out')∧(∀x∈out',∀w:Nat,w < n→qgl E x.toNat w→(w:Int)∈out'):=by
 intro d
 induction d with
 | zero =>
  intro i seen out hk hi V hc;have hs:=V.small;have c:¬((i:Int) < ((out.length:Nat):Int)):=by omega
  refine ⟨out,seen,qad (by simp only [qj8,if_neg c]),V,fun x hx=>hx,?_⟩;intro x hx w hw he;obtain ⟨j,hj,e⟩:=v5k.1 hx;exact hc j x (by omega) (by rw [vz9 hj,e]) w hw he
 | succ d ih =>
  intro i seen out hk hi V hc;by_cases hlt:i < out.length
  ·have c:((i:Int) < ((out.length:Nat):Int)):=by omega
   have hx:out[i]?=some out[i]:=vz9 hlt;obtain ⟨h1,h2,h3⟩:=V.mem _ (v0t hx);have e0:out[i]=((out[i].toNat:Nat):Int):=by omega
   have hu:out[i].toNat < n:=by omega
   have ha:(qzz E n)[out[i].toNat]?=some ((qzz E n).getD out[i].toNat []):=by
    have:out[i].toNat < (qzz E n).length:=by simp [qzz];omega
    simp [v5c,vz9 this]
   have hidx:idx (qzz E n) out[i]=some ((qzz E n).getD out[i].toNat []):=by
    conv=>lhs;rw [e0]
    exact qaa ha
   have hlen:=vtt ha;obtain ⟨seen',out',q1,q2,⟨e,q3⟩,q4⟩:=vc6 (R:=qgl E) (n:=n) (v:=v) hn ((qzz E n).getD out[i].toNat []) (by
    intro x hxm;obtain ⟨w,rfl,hw,he⟩:=(vk9 hu h ha).1 hxm;refine ⟨by omega,by omega,?_⟩;rw [v38];exact h3.step he) (by omega) ((qzz E n).getD out[i].toNat []).length 0 seen out (by omega) V
   simp only [v33] at q1;have hpre:∀j x,j < out.length→out'[j]?=some x→out[j]?=some x:=by
    intro j x hj hx';rw [q3,vz6 hj] at hx';exact hx'
   obtain ⟨out2,seen2,r1,r2,r3,r4⟩:=ih (i+1) seen' out' (by omega) (by rw [q3,v0h];omega) q2 (by
    intro j x hj hx' w hw he;have hx2:=hpre j x (by omega) hx';rcases v6f (v6d hj) with hlt' | rfl
    ·rw [q3];exact v5j _ (hc j x hlt' hx2 w hw he)
    ·rw [hx] at hx2;cases hx2;have hm:(w:Int)∈(qzz E n).getD out[j].toNat []:=(vk9 hu h ha).2 ⟨w,rfl,hw,he⟩;obtain ⟨m,hm1,hm2⟩:=v5k.1 hm;exact q4 m _ (v3n _) (by rw [vz9 hm1,hm2]))
   refine ⟨out2,seen2,?_,r2,fun x hxm=>r3 x (by rw [q3];exact v5j _ hxm),r4⟩;rw [qac (s':=(seen',out',((i+1:Nat):Int))) (by simp only [qj8,if_pos c,qaa hx,hidx,v1r,q1,wqn i])];exact r1
  ·have c:¬((i:Int) < ((out.length:Nat):Int)):=by omega
   refine ⟨out,seen,qad (by simp only [qj8,if_neg c]),V,fun x hx=>hx,?_⟩;intro x hx w hw he;obtain ⟨j,hj,e⟩:=v5k.1 hx;exact hc j x (by omega) (by rw [vz9 hj,e]) w hw he
theorem vlh {l:List Nat} (h:l.Pairwise (· < ·)):(qbw l).Pairwise (· < ·):=by
 unfold qbw;rw [v5r];exact h.imp fun h=>by omega
theorem voz {n v:Nat} (hn:n≤1000) (hv:v < n) (E:List Arr2_int) (hE:E.length≤100000) (h:q7k n E):qo4 (qzz E n) (v:Int)=some (qbw (ql2 (qgl E) n v)):=by
 have hl:(qzz E n).length=n:=by simp [qzz]
 have h0:(0:Int)≤((qzz E n).length:Int):=by omega
 have hr:qal (qzz E n).length 1=true:=by rw [hl];unfold qal;simp only [decide_eq_true_eq];omega
 have hg:idx (v01 (qzz E n).length false) (v:Int)=some false:=by
  refine qaa ?_;rw [hl,v0e,if_pos hv]
 have V0:Vis (qgl E) n v ((v01 (qzz E n).length false).set v true) [(v:Int)]:=by
  rw [hl];refine ⟨by simp,by simp,?_,?_⟩
  ·intro x hx;rw [v3d] at hx;subst hx;exact ⟨by omega,by omega,by rw [v38];exact .refl⟩
  ·intro u hu;rw [v2l,v0e];by_cases e:v=u
   ·subst e;simp [hu]
   ·rw [if_neg e,if_pos hu];congr 1;symm;rw [decide_eq_false_iff_not,v3d];omega
 obtain ⟨out,seen,q1,q2,q3,q4⟩:=vc7 hn E hE h n 0 _ _ (by omega) (by simp) V0 (by intro j x hj;omega);simp only [v33] at q1;have hsm:=q2.small;have hsrt:q1i out=some (qr2 out):=if_pos (by omega);have hmem:∀x,x∈out↔x∈qbw (ql2 (qgl E) n v):=by
  intro x;rw [q2s];constructor
  ·intro hx;obtain ⟨h1,h2,h3⟩:=q2.mem x hx;exact ⟨x.toNat,qky.2 ⟨by omega,h3⟩,by omega⟩
  ·rintro ⟨k,hk,rfl⟩;obtain ⟨hkn,hkr⟩:=qky.1 hk;have:=hkr.closed (S:=fun u=>u < n→(u:Int)∈out) (fun _=>q3 _ (by simp)) (by
    intro x y hx hxy hy;have hxn:x < n:=by
     obtain ⟨_,h2,_,_⟩:=h _ hxy;simp only at h2;omega
    have hin:=hx hxn;exact q4 _ hin y hy (by rw [v38];exact hxy))
   exact this hkn
 have hasc:=vlh (q1z (qgl E) n v);have hperm:(qr2 out).Perm (qbw (ql2 (qgl E) n v)):=(qo1 out).trans ((List.perm_ext_iff_of_nodup q2.nodup (hasc.imp fun h=>by omega)).2 hmem);have heq:qr2 out=qbw (ql2 (qgl E) n v):=hperm.eq_of_pairwise (fun a b _ _ h1 h2=>Int.le_antisymm h1 h2) (q1k out) (hasc.imp fun h=>by omega);simp only [qo4,if_pos h0,hr,if_true,v1r,hg,v38,q1,hsrt,heq]
theorem vli {n:Nat} (hn:n≤1000) (L:List Nat) (hL:∀x∈L,x < n) (hlen:L.length≤1000000) (p:Nat→Bool):qae (qei (qbw L)) ((v0z n).map p,0)=some ((v0z n).map fun u=>p u || decide (u∈L)):=by
 have key:∀(d k:Nat),k+d=L.length→qae (qei (qbw L)) ((v0z n).map (fun u=>p u || decide (u∈L.take k)),(k:Int))=some ((v0z n).map fun u=>p u || decide (u∈L)):=by
  intro d
  induction d with
  | zero =>
   intro k hk;obtain rfl:k=L.length:=by omega
   rw [v52];exact qad (by simp [qei,qbw])
  | succ d ih =>
   intro k hk;have hlt:k < L.length:=by omega
   have hx:L[k]?=some L[k]:=vz9 hlt;have hxn:=hL _ (v0t hx);have hx':(qbw L)[k]?=some ((L[k]:Nat):Int):=by simp [qbw,hx]
   have hg:=qaa (quu (fun u=>p u || decide (u∈L.take k)) hxn);have ht:L.take (k+1)=L.take k++[L[k]]:=by rw [v5y,hx];rfl
   rw [qac (s':=((v0z n).map (fun u=>p u || decide (u∈L.take (k+1))),((k+1:Nat):Int))) (by
    simp only [qei,if_pos (qai hx'),qaa hx',hg,v1r,v38,wqn k];congr 3;have hs:=qic (fun u=>p u || decide (u∈L.take k)) (fun u=>p u || decide (u∈L.take (k+1))) hxn (fun u hu hne=>by
     rw [ht];congr 1;rw [v3v,decide_eq_true_eq,decide_eq_true_eq,v0r,v3d];exact ⟨fun h=>.inl h,fun h=>h.resolve_right hne⟩)
    have hmk:L[k]∈L.take (k+1):=by rw [ht];exact List.mem_append_right _ (v3d.2 rfl)
    rw [←hs,decide_eq_true hmk,Bool.or_true])]
   exact ih (k+1) (by omega)
 have h:=key L.length 0 (by omega);simpa using h
open Classical in
def qjk (R:Nat→Nat→Prop) (k:Nat):List Nat:=(v0z k).filter fun v=>decide (∀u,u < v→¬Rch R u v)
theorem q2t (R:Nat→Nat→Prop) (n:Nat):qjk R n=qo5 R n:=rfl
open Classical in
theorem vg7 {n:Nat} (hn:n≤1000) (E:List Arr2_int) (hE:E.length≤100000) (h:q7k n E):∀(d k:Nat),k+d=n →
  qae (qej (n:Int) (qzz E n)) ((v0z n).map (fun x=>decide (∃u,u < k∧Rch (qgl E) u x)),(qjk (qgl E) k).map (fun v=>qbw (ql2 (qgl E) n v)),(k:Int))=some ((qo5 (qgl E) n).map fun v=>qbw (ql2 (qgl E) n v)):=by
 intro d
 induction d with
 | zero =>
  intro k hk
  obtain rfl:k=n:=by omega
  exact qad (by simp only [qej,if_neg (v4z _),q2t])
 | succ d ih =>
  intro k hk
  have hlt:k < n:=by omega
  have c:((k:Int) < (n:Int)):=by omega
  have hg:=qaa (quu (fun x=>decide (∃u,u < k∧Rch (qgl E) u x)) hlt)
  have w:=wqn k
  have hsucc:qjk (qgl E) (k+1)=qjk (qgl E) k++(if decide (∀u,u < k→¬Rch (qgl E) u k) then [k] else []):=by
   unfold qjk
   rw [v4t,v5a]
   congr 1
   simp only [v4j,List.filter_nil]
  by_cases hd:∃u,u < k∧Rch (qgl E) u k
  ·have hno:¬∀u,u < k→¬Rch (qgl E) u k:=fun q=>by
    obtain ⟨u,hu,hr⟩:=hd
    exact q u hu hr
   have hfun:(fun x=>decide (∃u,u < k+1∧Rch (qgl E) u x))=fun x=>decide (∃u,u < k∧Rch (qgl E) u x):=by
    funext x
    rw [v3v,decide_eq_true_eq,decide_eq_true_eq]
    constructor
    ·rintro ⟨u,hu,hr⟩
     rcases v6f (v6d hu) with h1 | rfl
     ·exact ⟨u,h1,hr⟩
     ·obtain ⟨w,hw,hwr⟩:=hd
      exact ⟨w,hw,hwr.trans hr⟩
    ·rintro ⟨u,hu,hr⟩
     exact ⟨u,by omega,hr⟩
   have hi:=ih (k+1) (by omega)
   rw [hfun,hsucc,decide_eq_false hno] at hi
   simp only [vzo,if_false,vzx] at hi
   rw [qac (s':=((v0z n).map (fun x=>decide (∃u,u < k∧Rch (qgl E) u x)),(qjk (qgl E) k).map (fun v=>qbw (ql2 (qgl E) n v)),((k+1:Nat):Int))) (by simp only [qej,if_pos c,hg,v1r,decide_eq_true hd,if_true,w])]
   exact hi
  ·have hyes:∀u,u < k→¬Rch (qgl E) u k:=fun u hu hr=>hd ⟨u,hu,hr⟩
   have hm:=vli hn (ql2 (qgl E) n k) (fun x hx=>(qky.1 hx).1) (by
    have:(ql2 (qgl E) n k).length≤(v0z n).length:=v2r _ _
    rw [v2t] at this;omega) (fun x=>decide (∃u,u < k∧Rch (qgl E) u x))
   have hfun:(v0z n).map (fun u=>decide (∃w,w < k∧Rch (qgl E) w u) || decide (u∈ql2 (qgl E) n k))=(v0z n).map fun x=>decide (∃u,u < k+1∧Rch (qgl E) u x):=by
    refine v2w fun x hx=>?_
    have hxn:=v3c.1 hx
    rw [v3v,vzr,decide_eq_true_eq,decide_eq_true_eq,decide_eq_true_eq]
    constructor
    ·rintro (⟨u,hu,hr⟩ | hm)
     ·exact ⟨u,by omega,hr⟩
     ·exact ⟨k,by omega,(qky.1 hm).2⟩
    ·rintro ⟨u,hu,hr⟩
     rcases v6f (v6d hu) with h1 | rfl
     ·exact .inl ⟨u,h1,hr⟩
     ·exact .inr (qky.2 ⟨hxn,hr⟩)
   rw [hfun] at hm
   have hroom:qal (((qjk (qgl E) k).map (fun v=>qbw (ql2 (qgl E) n v))).length+1) 24=true:=by
    have:(qjk (qgl E) k).length≤(v0z k).length:=v2r _ _
    rw [v2t] at this
    unfold qal
    simp only [v0j,decide_eq_true_eq];omega
   have hi:=ih (k+1) (by omega)
   rw [hsucc,decide_eq_true hyes,if_pos rfl,v0o] at hi
   rw [qac (s':=((v0z n).map (fun x=>decide (∃u,u < k+1∧Rch (qgl E) u x)),(qjk (qgl E) k).map (fun v=>qbw (ql2 (qgl E) n v))++[qbw (ql2 (qgl E) n k)],((k+1:Nat):Int))) (by simp only [qej,if_pos c,hg,v1r,decide_eq_false hd,vzo,if_false,voz hn hlt E hE h,hm,hroom,if_true,w])]
   exact hi
open Classical in
theorem q7o {n:Nat} (hn:n≤1000) (E:List Arr2_int) (hE:E.length≤20000) (h:q7k n E):qhf (n:Int) E=some ((qc7 (qgl (E++E.map qu2)) n).map qbw,0):=by
 have h':q7k n (E++E.map qu2):=by
  intro e he
  rcases v0r.1 he with he | he
  ·exact h e he
  ·obtain ⟨e',he',rfl⟩:=v3a.1 he
   obtain ⟨h1,h2,h3,h4⟩:=h e' he'
   exact ⟨h3,h4,h1,h2⟩
 have h0:(0:Int)≤(n:Int):=by omega
 have hr:qal n 1=true:=by unfold qal;simp only [decide_eq_true_eq];omega
 have hl:(E++E.map qu2).length≤100000:=by simp;omega
 have hloop:=vg7 hn (E++E.map qu2) hl h' n 0 (by omega)
 have e1:∀f:Nat→Bool,(∀x,f x=false)→(v0z n).map f=v01 n false:=by
  intro f hf
  refine vz3 fun j=>?_
  rw [v0c,v0e]
  by_cases hj:j < n
  ·rw [v4n hj,if_pos hj];simp [hf]
  ·rw [v0a (by simp;omega),if_neg hj];rfl
 rw [e1 _ (fun x=>decide_eq_false (by rintro ⟨u,hu,_⟩;omega))] at hloop
 have e2:(qjk (qgl (E++E.map qu2)) 0).map (fun v=>qbw (ql2 (qgl (E++E.map qu2)) n v))=[]:=rfl
 rw [e2] at hloop
 simp only [v33] at hloop
 simp only [qhf,vk7 n E hn hE h,v1r,bne_self_eq_false,vzo,if_false,vc5 E (by omega),vg4 E (E.map qu2) (by omega) (by simp;omega),q7m n _ hn hl h',if_pos h0,v38,hr,if_true,hloop,qc7,List.map_map]
 rfl
end Go.Proofs.YtmlegeeinnkhkaaGreat
