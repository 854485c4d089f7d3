/- The Lean functions that the program's functions are lifted to, and the plain laws about them. -/
import Derived.Test.YtmlegeeinnkhkaaGreatL1
set_option linter.unusedVariables false
set_option linter.unusedSimpArgs false
namespace Go.Proofs.YtmlegeeinnkhkaaGreat
open Go Go.Ab
def pairsW (W:Nat→Nat→Int) (n:Nat):List Pair:=pairsF n (fun _ _=>true) fun i k=>⟨(i:Int),(k:Int),W i k⟩
theorem mem_pairsW {W:Nat→Nat→Int} {n:Nat} {p:Pair}:p∈pairsW W n↔∃i k:Nat,i < k∧k < n∧p=⟨(i:Int),(k:Int),W i k⟩:=by
 unfold pairsW
 rw [mem_pairsF]
 constructor
 ·rintro ⟨i,k,h1,h2,_,h3⟩;exact ⟨i,k,h1,h2,h3⟩
 ·rintro ⟨i,k,h1,h2,h3⟩;exact ⟨i,k,h1,h2,rfl,h3⟩
def keyP (p:Pair):Arr2_int:=⟨p.I,p.K⟩
theorem pairsW_keys (W:Nat→Nat→Int) (n:Nat):((pairsW W n).map keyP).Nodup:=by
 unfold pairsW
 rw [pairsF_map]
 unfold pairsF List.Nodup
 rw [List.pairwise_flatMap]
 constructor
 ·intro i _
  rw [List.pairwise_flatMap]
  constructor
  ·intro k _;simp
  ·refine (List.pairwise_lt_range' (s:=i+1) (n:=n - (i+1)) (step:=1)).imp fun {a b} hab x hx y hy=>?_
   simp only [if_true,List.mem_singleton] at hx hy
   subst hx;subst hy
   intro e
   simp only [keyP,Arr2_int.mk.injEq] at e
   omega
 ·refine (List.pairwise_lt_range' (s:=0) (n:=n) (step:=1)).imp fun {a b} hab x hx y hy=>?_
  simp only [List.mem_flatMap,if_true,List.mem_singleton] at hx hy
  obtain ⟨k,_,rfl⟩:=hx
  obtain ⟨j,_,rfl⟩:=hy
  intro e
  simp only [keyP,Arr2_int.mk.injEq] at e
  omega
theorem pairsW_len (W:Nat→Nat→Int) (n:Nat) (hn:n≤6):(pairsW W n).length≤36:=by
 have:=pairsF_len n (fun _ _=>true) fun i k=>(⟨(i:Int),(k:Int),W i k⟩:Pair)
 have h2:n * n≤6 * 6:=Nat.mul_le_mul hn hn
 unfold pairsW;omega
def WOk (W:Nat→Nat→Int):Prop:=(∀i k,-1000≤W i k∧W i k≤1000)∧(∀i k,W i k=W k i)∧∀i,W i i=0
theorem key_not {l:List Pair} (h:(l.map keyP).Nodup) {k:Nat} {x:Pair} (hx:l[k]?=some x):keyP x ∉ (l.take k).map keyP:=by
 intro hm
 have hk:=lt_of_get hx
 obtain ⟨p,hp,e⟩:=List.mem_map.1 hm
 obtain ⟨j,hj,hjp⟩:=List.mem_take_iff_getElem.1 hp
 have g1:(l.map keyP)[j]?=some (keyP x):=by
  rw [List.getElem?_map,List.getElem?_eq_getElem (by omega),hjp,Option.map_some,e]
 have g2:(l.map keyP)[k]?=some (keyP x):=by rw [List.getElem?_map,hx,Option.map_some]
 have l1:=lt_of_get g1
 rw [←g2] at g1
 have:=(List.getElem?_inj l1 h).1 g1
 omega
theorem pValid_eq (W:Nat→Nat→Int) (hW:WOk W) (n:Nat) (hn:n≤6):cluster_Valid (n:Int) (pairsW W n)=some 0:=by
 have hl:=pairsW_len W n hn
 have c1:¬((n:Int) < 0):=by omega
 have c2:((n:Int) > 200)=False:=eq_false (by omega)
 have c3:¬(((pairsW W n).length:Int) > 20000):=by omega
 have key:∀(d k:Nat) (seen:List (Arr2_int×Bool)),k+d=(pairsW W n).length→(∀q,(mget seen q).getD false=decide (q∈((pairsW W n).take k).map keyP))→LoopF (cluster_Valid_l1 (n:Int) (pairsW W n)) (seen,(k:Int))=some (.inl ()):=by
  intro d
  induction d with
  | zero =>
   intro k seen hk _
   have c:¬((k:Int) < ((pairsW W n).length:Int)):=by omega
   exact Loop_done (by simp only [cluster_Valid_l1,if_neg c])
  | succ d ih =>
   intro k seen hk hs
   have hlt:k < (pairsW W n).length:=by omega
   have hx:(pairsW W n)[k]?=some (pairsW W n)[k]:=List.getElem?_eq_getElem hlt
   obtain ⟨i,j,h1,h2,he⟩:=mem_pairsW.1 (List.mem_of_getElem? hx)
   have hkn:=key_not (pairsW_keys W n) hx
   have hq:=hs (keyP (pairsW W n)[k])
   rw [decide_eq_false hkn] at hq
   have ht:(pairsW W n).take (k+1)=(pairsW W n).take k++[(pairsW W n)[k]]:=by rw [List.take_add_one,hx];rfl
   rw [he] at hx hq ht
   have hw:=hW.1 i j
   have q1:¬((i:Int) < 0):=by omega
   have q2:¬((i:Int)≥(j:Int)):=by omega
   have q3:¬((j:Int)≥(n:Int)):=by omega
   have q4:¬(W i j < -1000):=by omega
   have q5:¬(W i j > 1000):=by omega
   have hq':(mget seen (Arr2_int.mk (i:Int) (j:Int))).getD false=false:=hq
   rw [Loop_next (s':=(mset seen (Arr2_int.mk (i:Int) (j:Int)) true,((k+1:Nat):Int))) (by
    simp only [cluster_Valid_l1,if_pos (lt_true hx),idx_get hx,Option.bind_some,if_neg q1,if_neg q2,if_neg q3,if_neg q4,if_neg q5,hq',Bool.false_eq_true,if_false,wrap_nat (show k < 4611686018427387904 by omega)])]
   refine ih (k+1) _ (by omega) fun q=>?_
   rw [mget_mset,ht,List.map_append,List.map_singleton]
   by_cases e:q=Arr2_int.mk (i:Int) (j:Int)
   ·rw [if_pos e]
    symm
    rw [e]
    simp [keyP]
   ·rw [if_neg e,hs q]
    rw [Bool.eq_iff_iff,decide_eq_true_eq,decide_eq_true_eq,List.mem_append,List.mem_singleton]
    constructor
    ·exact fun h=>.inl h
    ·rintro (h | h)
     ·exact h
     ·exact absurd h e
 have h:=key (pairsW W n).length 0 [] (by omega) (by intro q;simp [mget])
 simp only [Int.natCast_zero] at h
 simp only [cluster_Valid,if_neg c1,c2,decide_false,Option.bind_some,Bool.false_eq_true,if_false,if_neg c3,h]
def wOf (l:List Pair) (i k:Nat):Int:=l.foldl (fun m p=>if (p.I=(i:Int)∧p.K=(k:Int))∨(p.K=(i:Int)∧p.I=(k:Int)) then p.Weight else m) 0
theorem wOf_snoc (l:List Pair) (p:Pair) (i k:Nat):wOf (l++[p]) i k=if (p.I=(i:Int)∧p.K=(k:Int))∨(p.K=(i:Int)∧p.I=(k:Int)) then p.Weight else wOf l i k:=by simp [wOf]
theorem wOf_all {W:Nat→Nat→Int} (hW:WOk W) {n i k:Nat} (hi:i < n) (hk:k < n):wOf (pairsW W n) i k=W i k:=by
 have key:∀(l:List Pair) (m:Int),(∀p∈l,p∈pairsW W n)→(m=W i k∨∃p∈l,(p.I=(i:Int)∧p.K=(k:Int))∨(p.K=(i:Int)∧p.I=(k:Int))) →
   l.foldl (fun m p=>if (p.I=(i:Int)∧p.K=(k:Int))∨(p.K=(i:Int)∧p.I=(k:Int)) then p.Weight else m) m=W i k:=by
  intro l
  induction l with
  | nil=>intro m _ h;rcases h with h | ⟨p,hp,_⟩;exact h;cases hp
  | cons p l ih =>
   intro m hl h
   rw [List.foldl_cons]
   refine ih _ (fun q hq=>hl q (by simp [hq])) ?_
   by_cases c:(p.I=(i:Int)∧p.K=(k:Int))∨(p.K=(i:Int)∧p.I=(k:Int))
   ·left
    rw [if_pos c]
    obtain ⟨a,b,h1,h2,rfl⟩:=mem_pairsW.1 (hl p (by simp))
    simp only at c ⊢
    rcases c with ⟨e1,e2⟩ | ⟨e1,e2⟩
    ·have:a=i:=by omega
     have:b=k:=by omega
     subst a b;rfl
    ·have:a=k:=by omega
     have:b=i:=by omega
     subst a b;exact hW.2.1 _ _
   ·rw [if_neg c]
    rcases h with h | ⟨q,hq,hc⟩
    ·exact .inl h
    ·rcases List.mem_cons.1 hq with rfl | hq
     ·exact absurd hc c
     ·exact .inr ⟨q,hq,hc⟩
 refine key _ 0 (fun p hp=>hp) ?_
 rcases Nat.lt_trichotomy i k with h | h | h
 ·exact .inr ⟨_,mem_pairsW.2 ⟨i,k,h,hk,rfl⟩,.inl ⟨rfl,rfl⟩⟩
 ·subst h;exact .inl (hW.2.2 i).symm
 ·exact .inr ⟨_,mem_pairsW.2 ⟨k,i,h,hi,rfl⟩,.inr ⟨rfl,rfl⟩⟩
theorem matrix_eq (W:Nat→Nat→Int) (hW:WOk W) (n:Nat) (hn:n≤6):cluster_matrix (n:Int) (pairsW W n)=some (matL W n):=by
 have hl:=pairsW_len W n hn
 have h0:(0:Int)≤(n:Int):=by omega
 have hr1:roomB n 24=true:=by unfold roomB;simp only [decide_eq_true_eq];omega
 have hr2:roomB n 8=true:=room8 (by omega)
 have L1:∀(d k:Nat),k+d=n→LoopF (cluster_matrix_l1 (n:Int)) (List.replicate k (List.replicate n (0:Int))++List.replicate (n - k) [],(k:Int))=some (List.replicate n (List.replicate n (0:Int))):=by
  intro d
  induction d with
  | zero =>
   intro k hk
   obtain rfl:k=n:=by omega
   have c:¬((k:Int) < (((List.replicate k ([]:List Int)).length:Nat):Int)):=by simp
   exact Loop_done (by simp only [cluster_matrix_l1,Int.toNat_natCast,if_neg c,Nat.sub_self,List.replicate_zero,List.append_nil])
  | succ d ih =>
   intro k hk
   have c:((k:Int) < (((List.replicate n ([]:List Int)).length:Nat):Int)):=by simp;omega
   have g:idx (List.replicate k (List.replicate n (0:Int))++List.replicate (n - k) []) (k:Int)=some []:=by
    refine idx_get ?_
    rw [List.getElem?_append,List.length_replicate,if_neg (by omega),List.getElem?_replicate,if_pos (by omega)]
   refine (Loop_next (s':=(List.replicate (k+1) (List.replicate n (0:Int))++List.replicate (n - (k+1)) [],((k+1:Nat):Int))) ?_).trans (ih (k+1) (by omega))
   simp only [cluster_matrix_l1,Int.toNat_natCast,if_pos c,if_pos h0,hr2,if_true,g,Option.bind_some,wrap_nat (show k < 4611686018427387904 by omega),set_rep (show k < n by omega)]
 have L1':=L1 n 0 (by omega)
 simp only [List.replicate_zero,List.nil_append,Nat.sub_zero,Int.natCast_zero] at L1'
 have L2:∀(d k:Nat),k+d=(pairsW W n).length→LoopF (cluster_matrix_l2 (pairsW W n)) (matL (wOf ((pairsW W n).take k)) n,(k:Int))=some (matL (wOf (pairsW W n)) n):=by
  intro d
  induction d with
  | zero =>
   intro k hk
   obtain rfl:k=(pairsW W n).length:=by omega
   rw [List.take_length]
   exact Loop_done (by simp only [cluster_matrix_l2,if_neg (Int.lt_irrefl _)])
  | succ d ih =>
   intro k hk
   have hlt:k < (pairsW W n).length:=by omega
   have hx:(pairsW W n)[k]?=some (pairsW W n)[k]:=List.getElem?_eq_getElem hlt
   obtain ⟨i,j,h1,h2,he⟩:=mem_pairsW.1 (List.mem_of_getElem? hx)
   have ht:(pairsW W n).take (k+1)=(pairsW W n).take k++[(pairsW W n)[k]]:=by rw [List.take_add_one,hx];rfl
   rw [he] at hx ht
   generalize hA:wOf ((pairsW W n).take k)=A at *
   generalize hA':wOf ((pairsW W n).take (k+1))=A'
   have hAA:∀a b:Nat,A' a b=if (a=i∧b=j)∨(a=j∧b=i) then W i j else A a b:=by
    intro a b
    rw [←hA',ht,wOf_snoc,←hA]
    by_cases q:(a=i∧b=j)∨(a=j∧b=i)
    ·rw [if_pos q,if_pos (by simp only;omega)]
    ·rw [if_neg q,if_neg (by simp only;omega)]
   have gi:idx (matL A n) (i:Int)=some ((List.range n).map fun b=>A i b):=idx_get (rangeLk _ (by omega))
   have gj:idx (matL A n) (j:Int)=some ((List.range n).map fun b=>A j b):=idx_get (rangeLk _ h2)
   have gij:idx ((List.range n).map fun b=>A i b) (j:Int)=some (A i j):=idx_get (rangeLk _ h2)
   have gji:idx ((List.range n).map fun b=>A j b) (i:Int)=some (A j i):=idx_get (rangeLk _ (by omega))
   have gj2:idx ((matL A n).set i (((List.range n).map fun b=>A i b).set j (W i j))) (j:Int)=some ((List.range n).map fun b=>A j b):=by
    refine idx_get ?_
    rw [List.getElem?_set,if_neg (by omega)]
    exact rangeLk _ h2
   have clen:((i:Int) < ((((List.range n).map fun b=>A j b).length:Nat):Int)):=by simp;omega
   have hset:((matL A n).set i (((List.range n).map fun b=>A i b).set j (W i j))).set j (((List.range n).map fun b=>A j b).set i (W i j))=matL A' n:=by
    have r1:((List.range n).map fun b=>A i b).set j (W i j)=(List.range n).map fun b=>A' i b:=by
     have:=map_range_set (fun b=>A i b) (fun b=>A' i b) h2 (fun u hu hne=>by rw [hAA,if_neg (by omega)])
     rw [←this,hAA i j,if_pos (.inl ⟨rfl,rfl⟩)]
    have r2:((List.range n).map fun b=>A j b).set i (W i j)=(List.range n).map fun b=>A' j b:=by
     have:=map_range_set (fun b=>A j b) (fun b=>A' j b) (show i < n by omega) (fun u hu hne=>by rw [hAA,if_neg (by omega)])
     rw [←this,hAA j i,if_pos (.inr ⟨rfl,rfl⟩)]
    rw [r1,r2]
    have s1:=map_range_set (fun a=>(List.range n).map fun b=>A a b) (fun a=>if a=i then (List.range n).map (fun b=>A' i b) else (List.range n).map fun b=>A a b) (show i < n by omega) (fun u hu hne=>by simp only [if_neg hne])
    simp only [if_true] at s1
    have s2:=map_range_set (fun a=>if a=i then (List.range n).map (fun b=>A' i b) else (List.range n).map fun b=>A a b) (fun a=>(List.range n).map fun b=>A' a b) h2 (fun u hu hne=>by
     by_cases e:u=i
     ·subst e;simp
     ·simp only [if_neg e]
      refine List.map_congr_left fun b _=>?_
      rw [hAA,if_neg (by omega)])
    have e0:matL A n=(List.range n).map fun a=>(List.range n).map fun b=>A a b:=rfl
    rw [e0,s1,s2];rfl
   rw [Loop_next (s':=(matL A' n,((k+1:Nat):Int))) (by
    simp only [cluster_matrix_l2,if_pos (lt_true hx),idx_get hx,Option.bind_some,gi,gj,gij,Int.toNat_natCast,gj2,gji,if_pos clen,hset,wrap_nat (show k < 4611686018427387904 by omega)])]
   rw [←hA']
   exact ih (k+1) (by omega)
 have L2':=L2 (pairsW W n).length 0 (by omega)
 have e0:matL (wOf ((pairsW W n).take 0)) n=List.replicate n (List.replicate n (0:Int)):=by
  refine List.ext_getElem? fun a=>?_
  by_cases ha:a < n
  ·rw [matL,rangeLk _ ha,List.getElem?_replicate,if_pos ha]
   congr 1
   refine List.ext_getElem? fun b=>?_
   by_cases hb:b < n
   ·rw [rangeLk _ hb,List.getElem?_replicate,if_pos hb];rfl
   ·rw [List.getElem?_eq_none (by simp;omega),List.getElem?_replicate,if_neg hb]
  ·rw [List.getElem?_eq_none (by simp [matL];omega),List.getElem?_replicate,if_neg ha]
 rw [e0] at L2'
 have e1:matL (wOf (pairsW W n)) n=matL W n:=by
  refine List.map_congr_left fun a ha=>List.map_congr_left fun b hb=>?_
  exact wOf_all hW (List.mem_range.1 ha) (List.mem_range.1 hb)
 rw [e1] at L2'
 simp only [Int.natCast_zero] at L2'
 simp only [cluster_matrix,if_pos h0,Int.toNat_natCast,hr1,if_true,L1',Option.bind_some,L2']
theorem Optimal_p (W:Nat→Nat→Int) (hW:WOk W) (n:Nat) (h1:1≤n) (hn:n≤6):∃l c,optB W n=some (l,c)∧cluster_Optimal (n:Int) (pairsW W n)=some (l,c,0):=by
 have hb:=hW.1
 have s5:5 < n→SpecL W n 5 _:=fun h=>level_5 W hb n h hn
 have s4:4 < n→SpecL W n 4 _:=fun h=>level_4 W hb n h hn s5
 have s3:3 < n→SpecL W n 3 _:=fun h=>level_3 W hb n h hn s4
 have s2:2 < n→SpecL W n 2 _:=fun h=>level_2 W hb n h hn s3
 have s1:1 < n→SpecL W n 1 _:=fun h=>level_1 W hb n h hn s2
 have s0:SpecL W n 0 _:=level_0 W hb n (by omega) hn s1
 obtain ⟨s',b',h',t',least',q1,q2,q3,q4⟩:=s0 [] 0 (List.replicate n 0) false 0 [] 0 rfl (by simp) (by simp) (Nat.le_refl _)
 obtain ⟨l,c,ho,_⟩:=optB_some W n
 have q4':bestO b' h' t' least'=some (l,c):=by rw [q4];exact ho
 refine ⟨l,c,ho,?_⟩
 have hb':b'=true:=by
  cases b' with
  | true=>rfl
  | false=>simp [bestO] at q4'
 subst hb'
 simp only [bestO,if_true,Option.some.injEq,Prod.mk.injEq] at q4'
 have c1:¬((n:Int) > 10):=by omega
 have h0:(0:Int)≤(n:Int):=by omega
 have hr:roomB n 8=true:=room8 (by omega)
 have e:((0:Int) == ((matL W n).length:Int))=false:=by rw [matL_len,beq_eq_false_iff_ne];omega
 simp only [cluster_Optimal,pValid_eq W hW n hn,Option.bind_some,bne_self_eq_false,Bool.false_eq_true,if_false,if_neg c1,matrix_eq W hW n hn,if_pos h0,Int.toNat_natCast,hr,if_true,e,q1,List.length_replicate,q2,q4'.1,q4'.2]
theorem usedN_take (l:List Int) (k:Nat) {x:Int} (hx:l[k]?=some x):usedN (l.take (k+1))=max (usedN (l.take k)) (x.toNat+1):=by
 rw [List.take_add_one,hx]
 simp [usedN]
def nfL (l:List Int):Prop:=(∀x∈l,(0:Int)≤x)∧∀(k:Nat) (x:Int),l[k]?=some x→x.toNat≤usedN (l.take k)
theorem nfL_snoc {l:List Int} (h:nfL l) {c:Nat} (hc:c≤usedN l):nfL (l++[(c:Int)]):=by
 refine ⟨?_,?_⟩
 ·intro x hx
  rcases List.mem_append.1 hx with hx | hx
  ·exact h.1 x hx
  ·rw [List.mem_singleton] at hx;subst hx;omega
 ·intro k x hx
  by_cases hk:k < l.length
  ·rw [List.getElem?_append_left hk] at hx
   have:=h.2 k x hx
   rwa [List.take_append_of_le_length (by omega)]
  ·have hlt:=lt_of_get hx
   rw [List.length_append,List.length_singleton] at hlt
   obtain rfl:k=l.length:=by omega
   rw [List.take_append_of_le_length (Nat.le_refl _),List.take_length]
   simp at hx
   subst hx
   simpa using hc
theorem compl_nf:∀(k:Nat) (p:List Int) (u:Nat) (x:List Int),nfL p→u=usedN p→x∈compl k p u→nfL x
 | 0,p,u,x,hp,_,h=>by
  simp only [compl,List.mem_singleton] at h
  subst h;exact hp
 | k+1,p,u,x,hp,hu,h=>by
  simp only [compl,List.mem_flatMap,List.mem_range] at h
  obtain ⟨c,hc,hx⟩:=h
  exact compl_nf k _ _ x (nfL_snoc hp (by omega)) (by rw [usedN_snoc,hu]) hx
theorem nfL_nil:nfL []:=⟨by simp,by simp⟩
theorem nf_used {l:List Int} (h:nfL l):usedN l≤l.length:=by
 have key:∀k,k≤l.length→usedN (l.take k)≤k:=by
  intro k
  induction k with
  | zero=>intro _;simp [usedN]
  | succ k ih =>
   intro hk
   have hx:l[k]?=some l[k]:=List.getElem?_eq_getElem (by omega)
   have:=h.2 k _ hx
   have:=ih (by omega)
   rw [usedN_take l k hx];omega
 have:=key l.length (Nat.le_refl _)
 rwa [List.take_length] at this
structure Vis (R:Nat→Nat→Prop) (n v:Nat) (seen:List Bool) (out:List Int):Prop where
 len:seen.length=n
 nodup:out.Nodup
 mem:∀x∈out,0≤x∧x < (n:Int)∧Rch R v x.toNat
 seen:∀u,u < n→seen[u]?=some (decide ((u:Int)∈out))
def natsI (l:List Nat):List Int:=l.map fun (k:Nat)=>(k:Int)
theorem mem_natsI {l:List Nat} {x:Int}:x∈natsI l↔∃k∈l,x=(k:Int):=by
 simp only [natsI,List.mem_map]
 exact ⟨fun ⟨k,h,e⟩=>⟨k,h,e.symm⟩,fun ⟨k,h,e⟩=>⟨k,h,e.symm⟩⟩
theorem Vis.small {R:Nat→Nat→Prop} {n v:Nat} {seen:List Bool} {out:List Int} (V:Vis R n v seen out):out.length≤n:=by
 have:=nodup_sub_len (l':=natsI (List.range n)) V.nodup (by
  intro x hx
  obtain ⟨h1,h2,_⟩:=V.mem x hx
  exact mem_natsI.2 ⟨x.toNat,List.mem_range.2 (by omega),by omega⟩)
 simpa [natsI] using this
theorem visit_inner {R:Nat→Nat→Prop} {n v:Nat} (hn:n≤1000) (L:List Int) (hL:∀x∈L,0≤x∧x < (n:Int)∧Rch R v x.toNat) (hlen:L.length≤1000000):∀(d k:Nat) (seen:List Bool) (out:List Int),k+d=L.length→Vis R n v seen out →
  ∃seen' out',LoopF (graph_visit_l3 L) (seen,out,(k:Int))=some (seen',out')∧Vis R n v seen' out'∧(∃e,out'=out++e)∧(∀j x,k≤j→L[j]?=some x→x∈out'):=by
 intro d
 induction d with
 | zero =>
  intro k seen out hk V
  refine ⟨seen,out,Loop_done ?_,V,⟨[],by simp⟩,?_⟩
  ·have c:¬((k:Int) < (L.length:Int)):=by omega
   simp only [graph_visit_l3,if_neg c]
  ·intro j x hj hx
   have:=lt_of_get hx
   omega
 | succ d ih =>
  intro k seen out hk V
  have hlt:k < L.length:=by omega
  have hx:L[k]?=some L[k]:=List.getElem?_eq_getElem hlt
  obtain ⟨h1,h2,h3⟩:=hL _ (List.mem_of_getElem? hx)
  have e0:L[k]=((L[k].toNat:Nat):Int):=by omega
  have hu:L[k].toNat < n:=by omega
  have w:=wrap_nat (show k < 4611686018427387904 by omega)
  have hs:idx seen L[k]=some (decide (L[k]∈out)):=by
   have:=V.seen _ hu
   rw [←e0] at this
   conv=>lhs;rw [e0]
   exact idx_get this
  by_cases hm:L[k]∈out
  ·obtain ⟨seen',out',q1,q2,⟨e,q3⟩,q4⟩:=ih (k+1) seen out (by omega) V
   refine ⟨seen',out',?_,q2,⟨e,q3⟩,?_⟩
   ·rw [Loop_next (s':=(seen,out,((k+1:Nat):Int))) (by simp only [graph_visit_l3,if_pos (lt_true hx),idx_get hx,Option.bind_some,hs,hm,decide_true,if_true,w])]
    exact q1
   ·intro j x hj hxj
    rcases Nat.lt_or_eq_of_le hj with hlt' | rfl
    ·exact q4 j x hlt' hxj
    ·rw [hx] at hxj
     cases hxj
     rw [q3];exact List.mem_append_left _ hm
  ·have hroom:roomB (out.length+1) 8=true:=room8 (by have:=V.small;omega)
   have V':Vis R n v (seen.set L[k].toNat true) (out++[L[k]]):=by
    refine ⟨by rw [List.length_set];exact V.len,?_,?_,?_⟩
    ·rw [List.nodup_append]
     refine ⟨V.nodup,by simp,?_⟩
     intro a ha b hb hab
     rw [List.mem_singleton] at hb
     subst hb;subst hab;exact hm ha
    ·intro x hxm
     rcases List.mem_append.1 hxm with h | h
     ·exact V.mem x h
     ·rw [List.mem_singleton] at h
      subst h;exact ⟨h1,h2,h3⟩
    ·intro u hu'
     rw [List.getElem?_set]
     by_cases e:L[k].toNat=u
     ·subst e
      rw [if_pos rfl,if_pos (by rw [V.len];exact hu')]
      congr 1
      symm
      rw [decide_eq_true_eq,←e0];simp
     ·rw [if_neg e,V.seen u hu']
      congr 1
      rw [Bool.eq_iff_iff,decide_eq_true_eq,decide_eq_true_eq,List.mem_append,List.mem_singleton]
      constructor
      ·exact fun h=>.inl h
      ·rintro (h | h)
       ·exact h
       ·exact absurd (show L[k].toNat=u by omega) e
   obtain ⟨seen',out',q1,q2,⟨e,q3⟩,q4⟩:=ih (k+1) _ _ (by omega) V'
   refine ⟨seen',out',?_,q2,⟨[L[k]]++e,by rw [q3,List.append_assoc]⟩,?_⟩
   ·rw [Loop_next (s':=(seen.set L[k].toNat true,out++[L[k]],((k+1:Nat):Int))) (by simp only [graph_visit_l3,if_pos (lt_true hx),idx_get hx,Option.bind_some,hs,hm,decide_false,Bool.false_eq_true,if_false,hroom,if_true,w])]
    exact q1
   ·intro j x hj hxj
    rcases Nat.lt_or_eq_of_le hj with hlt' | rfl
    ·exact q4 j x hlt' hxj
    ·rw [hx] at hxj
     cases hxj
     rw [q3];simp
theorem adj_len {E:List Arr2_int} {n u:Nat} {l:List Int} (hl:(adjL E n)[u]?=some l):l.length≤E.length:=by
 have hu:u < n:=by have:=lt_of_get hl;simpa [adjL] using this
 unfold adjL at hl
 rw [range_lk _ hu] at hl
 cases hl
 have h1:=cptF_len (l:=srtI (nbrs E u)) (l':=Lib.compact (srtI (nbrs E u))) 
 have h2:(srtI (nbrs E u)).length=(nbrs E u).length:=(srtI_perm _).length_eq
 have h3:=nbrs_len E u
 unfold Lib.compact Lib.compactUpTo
 rw [List.length_map]
 have:=List.length_filter_le (Lib.keeps (srtI (nbrs E u)).toArray) (List.range (srtI (nbrs E u)).length)
 rw [List.length_range] at this
 omega
theorem visit_outer {n v:Nat} (hn:n≤1000) (E:List Arr2_int) (hE:E.length≤100000) (h:goodE n E):∀(d i:Nat) (seen:List Bool) (out:List Int),i+d=n→i≤out.length→Vis (edgeR E) n v seen out →
  (∀j x,j < i→out[j]?=some x→∀w:Nat,w < n→edgeR E x.toNat w→(w:Int)∈out) →
  ∃out' seen',LoopF (graph_visit_l4 (adjL E n)) (seen,out,(i:Int))=some out'∧Vis (edgeR E) n v seen' out'∧(∀x∈out,x∈out')∧(∀x∈out',∀w:Nat,w < n→edgeR E x.toNat w→(w:Int)∈out'):=by
 intro d
 induction d with
 | zero =>
  intro i seen out hk hi V hc
  have hs:=V.small
  have c:¬((i:Int) < ((out.length:Nat):Int)):=by omega
  refine ⟨out,seen,Loop_done (by simp only [graph_visit_l4,if_neg c]),V,fun x hx=>hx,?_⟩
  intro x hx w hw he
  obtain ⟨j,hj,e⟩:=List.mem_iff_getElem.1 hx
  exact hc j x (by omega) (by rw [List.getElem?_eq_getElem hj,e]) w hw he
 | succ d ih =>
  intro i seen out hk hi V hc
  by_cases hlt:i < out.length
  ·have c:((i:Int) < ((out.length:Nat):Int)):=by omega
   have hx:out[i]?=some out[i]:=List.getElem?_eq_getElem hlt
   obtain ⟨h1,h2,h3⟩:=V.mem _ (List.mem_of_getElem? hx)
   have e0:out[i]=((out[i].toNat:Nat):Int):=by omega
   have hu:out[i].toNat < n:=by omega
   have ha:(adjL E n)[out[i].toNat]?=some ((adjL E n).getD out[i].toNat []):=by
    have:out[i].toNat < (adjL E n).length:=by simp [adjL];omega
    simp [List.getD,List.getElem?_eq_getElem this]
   have hidx:idx (adjL E n) out[i]=some ((adjL E n).getD out[i].toNat []):=by
    conv=>lhs;rw [e0]
    exact idx_get ha
   have hlen:=adj_len ha
   obtain ⟨seen',out',q1,q2,⟨e,q3⟩,q4⟩:=visit_inner (R:=edgeR E) (n:=n) (v:=v) hn ((adjL E n).getD out[i].toNat []) (by
    intro x hxm
    obtain ⟨w,rfl,hw,he⟩:=(adj_mem hu h ha).1 hxm
    refine ⟨by omega,by omega,?_⟩
    rw [Int.toNat_natCast]
    exact h3.step he) (by omega) ((adjL E n).getD out[i].toNat []).length 0 seen out (by omega) V
   simp only [Int.natCast_zero] at q1
   have hpre:∀j x,j < out.length→out'[j]?=some x→out[j]?=some x:=by
    intro j x hj hx'
    rw [q3,List.getElem?_append_left hj] at hx'
    exact hx'
   obtain ⟨out2,seen2,r1,r2,r3,r4⟩:=ih (i+1) seen' out' (by omega) (by rw [q3,List.length_append];omega) q2 (by
    intro j x hj hx' w hw he
    have hx2:=hpre j x (by omega) hx'
    rcases Nat.lt_or_eq_of_le (Nat.le_of_lt_succ hj) with hlt' | rfl
    ·rw [q3];exact List.mem_append_left _ (hc j x hlt' hx2 w hw he)
    ·rw [hx] at hx2
     cases hx2
     have hm:(w:Int)∈(adjL E n).getD out[j].toNat []:=(adj_mem hu h ha).2 ⟨w,rfl,hw,he⟩
     obtain ⟨m,hm1,hm2⟩:=List.mem_iff_getElem.1 hm
     exact q4 m _ (Nat.zero_le _) (by rw [List.getElem?_eq_getElem hm1,hm2]))
   refine ⟨out2,seen2,?_,r2,fun x hxm=>r3 x (by rw [q3];exact List.mem_append_left _ hxm),r4⟩
   rw [Loop_next (s':=(seen',out',((i+1:Nat):Int))) (by simp only [graph_visit_l4,if_pos c,idx_get hx,hidx,Option.bind_some,q1,wrap_nat (show i < 4611686018427387904 by omega)])]
   exact r1
  ·have c:¬((i:Int) < ((out.length:Nat):Int)):=by omega
   refine ⟨out,seen,Loop_done (by simp only [graph_visit_l4,if_neg c]),V,fun x hx=>hx,?_⟩
   intro x hx w hw he
   obtain ⟨j,hj,e⟩:=List.mem_iff_getElem.1 hx
   exact hc j x (by omega) (by rw [List.getElem?_eq_getElem hj,e]) w hw he
theorem natsI_asc {l:List Nat} (h:l.Pairwise (· < ·)):(natsI l).Pairwise (· < ·):=by
 unfold natsI
 rw [List.pairwise_map]
 exact h.imp fun h=>by omega
theorem visit_eq {n v:Nat} (hn:n≤1000) (hv:v < n) (E:List Arr2_int) (hE:E.length≤100000) (h:goodE n E):graph_visit (adjL E n) (v:Int)=some (natsI (compL (edgeR E) n v)):=by
 have hl:(adjL E n).length=n:=by simp [adjL]
 have h0:(0:Int)≤((adjL E n).length:Int):=by omega
 have hr:roomB (adjL E n).length 1=true:=by rw [hl];unfold roomB;simp only [decide_eq_true_eq];omega
 have hg:idx (List.replicate (adjL E n).length false) (v:Int)=some false:=by
  refine idx_get ?_
  rw [hl,List.getElem?_replicate,if_pos hv]
 have V0:Vis (edgeR E) n v ((List.replicate (adjL E n).length false).set v true) [(v:Int)]:=by
  rw [hl]
  refine ⟨by simp,by simp,?_,?_⟩
  ·intro x hx
   rw [List.mem_singleton] at hx
   subst hx
   exact ⟨by omega,by omega,by rw [Int.toNat_natCast];exact .refl⟩
  ·intro u hu
   rw [List.getElem?_set,List.getElem?_replicate]
   by_cases e:v=u
   ·subst e;simp [hu]
   ·rw [if_neg e,if_pos hu]
    congr 1
    symm
    rw [decide_eq_false_iff_not,List.mem_singleton]
    omega
 obtain ⟨out,seen,q1,q2,q3,q4⟩:=visit_outer hn E hE h n 0 _ _ (by omega) (by simp) V0 (by intro j x hj;omega)
 simp only [Int.natCast_zero] at q1
 have hsm:=q2.small
 have hsrt:srtIF out=some (srtI out):=if_pos (by omega)
 have hmem:∀x,x∈out↔x∈natsI (compL (edgeR E) n v):=by
  intro x
  rw [mem_natsI]
  constructor
  ·intro hx
   obtain ⟨h1,h2,h3⟩:=q2.mem x hx
   exact ⟨x.toNat,mem_compL.2 ⟨by omega,h3⟩,by omega⟩
  ·rintro ⟨k,hk,rfl⟩
   obtain ⟨hkn,hkr⟩:=mem_compL.1 hk
   have:=hkr.closed (S:=fun u=>u < n→(u:Int)∈out) (fun _=>q3 _ (by simp)) (by
    intro x y hx hxy hy
    have hxn:x < n:=by
     obtain ⟨_,h2,_,_⟩:=h _ hxy
     simp only at h2;omega
    have hin:=hx hxn
    exact q4 _ hin y hy (by rw [Int.toNat_natCast];exact hxy))
   exact this hkn
 have hasc:=natsI_asc (compL_asc (edgeR E) n v)
 have hperm:(srtI out).Perm (natsI (compL (edgeR E) n v)):=(srtI_perm out).trans ((List.perm_ext_iff_of_nodup q2.nodup (hasc.imp fun h=>by omega)).2 hmem)
 have heq:srtI out=natsI (compL (edgeR E) n v):=hperm.eq_of_pairwise (fun a b _ _ h1 h2=>Int.le_antisymm h1 h2) (srtI_sorted out) (hasc.imp fun h=>by omega)
 simp only [graph_visit,if_pos h0,hr,if_true,Option.bind_some,hg,Int.toNat_natCast,q1,hsrt,heq]
theorem mark_loop {n:Nat} (hn:n≤1000) (L:List Nat) (hL:∀x∈L,x < n) (hlen:L.length≤1000000) (p:Nat→Bool):LoopF (graph_Components_l3 (natsI L)) ((List.range n).map p,0)=some ((List.range n).map fun u=>p u || decide (u∈L)):=by
 have key:∀(d k:Nat),k+d=L.length→LoopF (graph_Components_l3 (natsI L)) ((List.range n).map (fun u=>p u || decide (u∈L.take k)),(k:Int))=some ((List.range n).map fun u=>p u || decide (u∈L)):=by
  intro d
  induction d with
  | zero =>
   intro k hk
   obtain rfl:k=L.length:=by omega
   rw [List.take_length]
   exact Loop_done (by simp [graph_Components_l3,natsI])
  | succ d ih =>
   intro k hk
   have hlt:k < L.length:=by omega
   have hx:L[k]?=some L[k]:=List.getElem?_eq_getElem hlt
   have hxn:=hL _ (List.mem_of_getElem? hx)
   have hx':(natsI L)[k]?=some ((L[k]:Nat):Int):=by simp [natsI,hx]
   have hg:=idx_get (range_lk (fun u=>p u || decide (u∈L.take k)) hxn)
   have ht:L.take (k+1)=L.take k++[L[k]]:=by rw [List.take_add_one,hx];rfl
   rw [Loop_next (s':=((List.range n).map (fun u=>p u || decide (u∈L.take (k+1))),((k+1:Nat):Int))) (by
    simp only [graph_Components_l3,if_pos (lt_true hx'),idx_get hx',hg,Option.bind_some,Int.toNat_natCast,wrap_nat (show k < 4611686018427387904 by omega)]
    congr 3
    have hs:=map_range_set (fun u=>p u || decide (u∈L.take k)) (fun u=>p u || decide (u∈L.take (k+1))) hxn (fun u hu hne=>by
     rw [ht]
     congr 1
     rw [Bool.eq_iff_iff,decide_eq_true_eq,decide_eq_true_eq,List.mem_append,List.mem_singleton]
     exact ⟨fun h=>.inl h,fun h=>h.resolve_right hne⟩)
    have hmk:L[k]∈L.take (k+1):=by rw [ht];exact List.mem_append_right _ (List.mem_singleton.2 rfl)
    rw [←hs,decide_eq_true hmk,Bool.or_true])]
   exact ih (k+1) (by omega)
 have h:=key L.length 0 (by omega)
 simpa using h
open Classical in
noncomputable def headsTo (R:Nat→Nat→Prop) (k:Nat):List Nat:=(List.range k).filter fun v=>decide (∀u,u < v→¬Rch R u v)
theorem headsTo_all (R:Nat→Nat→Prop) (n:Nat):headsTo R n=headsL R n:=rfl
open Classical in
theorem comps_loop {n:Nat} (hn:n≤1000) (E:List Arr2_int) (hE:E.length≤100000) (h:goodE n E):∀(d k:Nat),k+d=n →
  LoopF (graph_Components_l4 (n:Int) (adjL E n)) ((List.range n).map (fun x=>decide (∃u,u < k∧Rch (edgeR E) u x)),(headsTo (edgeR E) k).map (fun v=>natsI (compL (edgeR E) n v)),(k:Int))=some ((headsL (edgeR E) n).map fun v=>natsI (compL (edgeR E) n v)):=by
 intro d
 induction d with
 | zero =>
  intro k hk
  obtain rfl:k=n:=by omega
  exact Loop_done (by simp only [graph_Components_l4,if_neg (Int.lt_irrefl _),headsTo_all])
 | succ d ih =>
  intro k hk
  have hlt:k < n:=by omega
  have c:((k:Int) < (n:Int)):=by omega
  have hg:=idx_get (range_lk (fun x=>decide (∃u,u < k∧Rch (edgeR E) u x)) hlt)
  have w:=wrap_nat (show k < 4611686018427387904 by omega)
  have hsucc:headsTo (edgeR E) (k+1)=headsTo (edgeR E) k++(if decide (∀u,u < k→¬Rch (edgeR E) u k) then [k] else []):=by
   unfold headsTo
   rw [List.range_succ,List.filter_append]
   congr 1
   simp only [List.filter_cons,List.filter_nil]
  by_cases hd:∃u,u < k∧Rch (edgeR E) u k
  ·have hno:¬∀u,u < k→¬Rch (edgeR E) u k:=fun q=>by
    obtain ⟨u,hu,hr⟩:=hd
    exact q u hu hr
   have hfun:(fun x=>decide (∃u,u < k+1∧Rch (edgeR E) u x))=fun x=>decide (∃u,u < k∧Rch (edgeR E) u x):=by
    funext x
    rw [Bool.eq_iff_iff,decide_eq_true_eq,decide_eq_true_eq]
    constructor
    ·rintro ⟨u,hu,hr⟩
     rcases Nat.lt_or_eq_of_le (Nat.le_of_lt_succ hu) with h1 | rfl
     ·exact ⟨u,h1,hr⟩
     ·obtain ⟨w,hw,hwr⟩:=hd
      exact ⟨w,hw,hwr.trans hr⟩
    ·rintro ⟨u,hu,hr⟩
     exact ⟨u,by omega,hr⟩
   have hi:=ih (k+1) (by omega)
   rw [hfun,hsucc,decide_eq_false hno] at hi
   simp only [Bool.false_eq_true,if_false,List.append_nil] at hi
   rw [Loop_next (s':=((List.range n).map (fun x=>decide (∃u,u < k∧Rch (edgeR E) u x)),(headsTo (edgeR E) k).map (fun v=>natsI (compL (edgeR E) n v)),((k+1:Nat):Int))) (by simp only [graph_Components_l4,if_pos c,hg,Option.bind_some,decide_eq_true hd,if_true,w])]
   exact hi
  ·have hyes:∀u,u < k→¬Rch (edgeR E) u k:=fun u hu hr=>hd ⟨u,hu,hr⟩
   have hm:=mark_loop hn (compL (edgeR E) n k) (fun x hx=>(mem_compL.1 hx).1) (by
    have:(compL (edgeR E) n k).length≤(List.range n).length:=List.length_filter_le _ _
    rw [List.length_range] at this;omega) (fun x=>decide (∃u,u < k∧Rch (edgeR E) u x))
   have hfun:(List.range n).map (fun u=>decide (∃w,w < k∧Rch (edgeR E) w u) || decide (u∈compL (edgeR E) n k))=(List.range n).map fun x=>decide (∃u,u < k+1∧Rch (edgeR E) u x):=by
    refine List.map_congr_left fun x hx=>?_
    have hxn:=List.mem_range.1 hx
    rw [Bool.eq_iff_iff,Bool.or_eq_true,decide_eq_true_eq,decide_eq_true_eq,decide_eq_true_eq]
    constructor
    ·rintro (⟨u,hu,hr⟩ | hm)
     ·exact ⟨u,by omega,hr⟩
     ·exact ⟨k,by omega,(mem_compL.1 hm).2⟩
    ·rintro ⟨u,hu,hr⟩
     rcases Nat.lt_or_eq_of_le (Nat.le_of_lt_succ hu) with h1 | rfl
     ·exact .inl ⟨u,h1,hr⟩
     ·exact .inr (mem_compL.2 ⟨hxn,hr⟩)
   rw [hfun] at hm
   have hroom:roomB (((headsTo (edgeR E) k).map (fun v=>natsI (compL (edgeR E) n v))).length+1) 24=true:=by
    have:(headsTo (edgeR E) k).length≤(List.range k).length:=List.length_filter_le _ _
    rw [List.length_range] at this
    unfold roomB
    simp only [List.length_map,decide_eq_true_eq];omega
   have hi:=ih (k+1) (by omega)
   rw [hsucc,decide_eq_true hyes,if_pos rfl,List.map_append] at hi
   rw [Loop_next (s':=((List.range n).map (fun x=>decide (∃u,u < k+1∧Rch (edgeR E) u x)),(headsTo (edgeR E) k).map (fun v=>natsI (compL (edgeR E) n v))++[natsI (compL (edgeR E) n k)],((k+1:Nat):Int))) (by simp only [graph_Components_l4,if_pos c,hg,Option.bind_some,decide_eq_false hd,Bool.false_eq_true,if_false,visit_eq hn hlt E hE h,hm,hroom,if_true,w])]
   exact hi
open Classical in
theorem Components_eq {n:Nat} (hn:n≤1000) (E:List Arr2_int) (hE:E.length≤20000) (h:goodE n E):graph_Components (n:Int) E=some ((compsL (edgeR (E++E.map swapE)) n).map natsI,0):=by
 have h':goodE n (E++E.map swapE):=by
  intro e he
  rcases List.mem_append.1 he with he | he
  ·exact h e he
  ·obtain ⟨e',he',rfl⟩:=List.mem_map.1 he
   obtain ⟨h1,h2,h3,h4⟩:=h e' he'
   exact ⟨h3,h4,h1,h2⟩
 have h0:(0:Int)≤(n:Int):=by omega
 have hr:roomB n 1=true:=by unfold roomB;simp only [decide_eq_true_eq];omega
 have hl:(E++E.map swapE).length≤100000:=by simp;omega
 have hloop:=comps_loop hn (E++E.map swapE) hl h' n 0 (by omega)
 have e1:∀f:Nat→Bool,(∀x,f x=false)→(List.range n).map f=List.replicate n false:=by
  intro f hf
  refine List.ext_getElem? fun j=>?_
  rw [List.getElem?_map,List.getElem?_replicate]
  by_cases hj:j < n
  ·rw [List.getElem?_range hj,if_pos hj];simp [hf]
  ·rw [List.getElem?_eq_none (by simp;omega),if_neg hj];rfl
 rw [e1 _ (fun x=>decide_eq_false (by rintro ⟨u,hu,_⟩;omega))] at hloop
 have e2:(headsTo (edgeR (E++E.map swapE)) 0).map (fun v=>natsI (compL (edgeR (E++E.map swapE)) n v))=[]:=rfl
 rw [e2] at hloop
 simp only [Int.natCast_zero] at hloop
 simp only [graph_Components,gValid_eq n E hn hE h,Option.bind_some,bne_self_eq_false,Bool.false_eq_true,if_false,reversed_eq E (by omega),Concat2_lk E (E.map swapE) (by omega) (by simp;omega),neighbours_eq n _ hn hl h',if_pos h0,Int.toNat_natCast,hr,if_true,hloop,compsL,List.map_map]
 rfl
theorem nf_occur {l:List Int} (h:nfL l):∀(k c:Nat),k≤l.length→c < usedN (l.take k)→(c:Int)∈l.take k:=by
 intro k
 induction k with
 | zero=>intro c _ hc;simp [usedN] at hc
 | succ k ih =>
  intro c hk hc
  have hx:l[k]?=some l[k]:=List.getElem?_eq_getElem (by omega)
  have h0:=h.1 _ (List.mem_of_getElem? hx)
  have hle:=h.2 k _ hx
  rw [usedN_take l k hx] at hc
  rw [List.take_add_one,hx]
  by_cases hcu:c < usedN (l.take k)
  ·exact List.mem_append_left _ (ih c (by omega) hcu)
  ·refine List.mem_append_right _ ?_
   simp only [Option.toList_some,List.mem_singleton]
   omega
theorem nf_lt {l:List Int} (h:nfL l) {k:Nat} {x:Int} (hx:x∈l.take k):x.toNat < usedN (l.take k):=by
 obtain ⟨i,hi,e⟩:=List.mem_iff_getElem.1 hx
 have:(l.take k)[i]?=some x:=by rw [List.getElem?_eq_getElem hi,e]
 exact usedN_get this
theorem Normal_p {l:List Int} (h:nfL l) (hl:l.length≤1000):cluster_Normal l=some l:=by
 have h0:(0:Int)≤(l.length:Int):=by omega
 have hr:roomB l.length 8=true:=room8 (by omega)
 have key:∀(d k:Nat) (m:List (Int×Int)),k+d=l.length→(∀x,mget m x=if 0≤x∧x.toNat < usedN (l.take k) then some x else none)→m.length=usedN (l.take k)→LoopF (cluster_Normal_l1 l) (m,l.take k++List.replicate (l.length - k) 0,(k:Int))=some l:=by
  intro d
  induction d with
  | zero =>
   intro k m hk _ _
   obtain rfl:k=l.length:=by omega
   exact Loop_done (by simp [cluster_Normal_l1])
  | succ d ih =>
   intro k m hk hm hml
   have hlt:k < l.length:=by omega
   have hx:l[k]?=some l[k]:=List.getElem?_eq_getElem hlt
   have h1:=h.1 _ (List.mem_of_getElem? hx)
   have hle:=h.2 k _ hx
   have w:=wrap_nat (show k < 4611686018427387904 by omega)
   have hg:idx (l.take k++List.replicate (l.length - k) 0) (k:Int)=some 0:=by
    refine idx_get ?_
    have:(l.take k).length=k:=by rw [List.length_take];omega
    rw [List.getElem?_append,this,if_neg (by omega),List.getElem?_replicate,if_pos (by omega)]
   have hset:(l.take k++List.replicate (l.length - k) (0:Int)).set k l[k]=l.take (k+1)++List.replicate (l.length - (k+1)) 0:=by
    have:=set_map (fun x:Int=>x) 0 l hx
    simpa using this
   by_cases hc:l[k].toNat < usedN (l.take k)
   ·have hmk:mget m l[k]=some l[k]:=by rw [hm,if_pos ⟨h1,hc⟩]
    have hu:usedN (l.take (k+1))=usedN (l.take k):=by rw [usedN_take l k hx];omega
    rw [Loop_next (s':=(m,l.take (k+1)++List.replicate (l.length - (k+1)) 0,((k+1:Nat):Int))) (by
     simp only [cluster_Normal_l1,if_pos (lt_true hx),idx_get hx,Option.bind_some,hmk,Option.isSome_some,if_true,hg,Option.getD_some,Int.toNat_natCast,hset,w])]
    exact ih (k+1) m (by omega) (by rw [hu];exact hm) (by rw [hu];exact hml)
   ·have hmk:mget m l[k]=none:=by rw [hm,if_neg (by omega)]
    have he:(m.length:Int)=l[k]:=by omega
    have hu:usedN (l.take (k+1))=usedN (l.take k)+1:=by rw [usedN_take l k hx];omega
    rw [Loop_next (s':=(mset m l[k] (m.length:Int),l.take (k+1)++List.replicate (l.length - (k+1)) 0,((k+1:Nat):Int))) (by
     simp only [cluster_Normal_l1,if_pos (lt_true hx),idx_get hx,Option.bind_some,hmk,Option.isSome_none,Bool.false_eq_true,if_false,hg,Int.toNat_natCast,w]
     rw [he,hset])]
    refine ih (k+1) _ (by omega) (fun x=>?_) ?_
    ·rw [mget_mset,hm,hu]
     by_cases e:x=l[k]
     ·rw [if_pos e,if_pos (by omega),he,e]
     ·rw [if_neg e]
      by_cases q:0≤x∧x.toNat < usedN (l.take k)
      ·rw [if_pos q,if_pos (by omega)]
      ·rw [if_neg q,if_neg (by omega)]
    ·rw [mset_len m _ _ hmk,hu,hml]
 have hk:=key l.length 0 [] (by omega) (by
  intro x
  rw [if_neg (by simp [usedN])];rfl) (by simp [usedN])
 simp only [List.take_zero,List.nil_append,Nat.sub_zero,Int.natCast_zero] at hk
 simp only [cluster_Normal,if_pos h0,hr,if_true,hk,Option.bind_some]
def lblL (r:List Int) (k c:Nat):List Nat:=(List.range k).filter fun i=>decide (r.getD i 0=(c:Int))
def grpTo (r:List Int) (k:Nat):List (List Int):=(List.range (usedN (r.take k))).map fun c=>natsI (lblL r k c)
theorem lblL_succ (r:List Int) (k c:Nat):lblL r (k+1) c=lblL r k c++if r.getD k 0=(c:Int) then [k] else []:=by
 unfold lblL
 rw [List.range_succ,List.filter_append]
 congr 1
 by_cases h:r.getD k 0=(c:Int)
 ·rw [if_pos h,List.filter_cons,if_pos (decide_eq_true h)];rfl
 ·rw [if_neg h,List.filter_cons,if_neg (by rw [decide_eq_true_eq];exact h)];rfl
theorem groupsLk {r:List Int} (h:nfL r) (hl:r.length≤1000):LoopF (drossref54_Groups_l1 r) ([],0)=some (grpTo r r.length):=by
 have key:∀(d k:Nat),k+d=r.length→LoopF (drossref54_Groups_l1 r) (grpTo r k,(k:Int))=some (grpTo r r.length):=by
  intro d
  induction d with
  | zero =>
   intro k hk
   obtain rfl:k=r.length:=by omega
   exact Loop_done (by simp only [drossref54_Groups_l1,if_neg (Int.lt_irrefl _)])
  | succ d ih =>
   intro k hk
   have hlt:k < r.length:=by omega
   have hx:r[k]?=some r[k]:=List.getElem?_eq_getElem hlt
   have hxd:r.getD k 0=r[k]:=by simp [List.getD_eq_getElem?_getD,hx]
   have h1:=h.1 _ (List.mem_of_getElem? hx)
   have hle:=h.2 k _ hx
   have hgl:(grpTo r k).length=usedN (r.take k):=by simp [grpTo]
   have w:=wrap_nat (show k < 4611686018427387904 by omega)
   have hus:usedN (r.take k)≤1000:=by
    have:(r.take k).length≤1000:=by rw [List.length_take];omega
    have hh:∀(l:List Int) (m:Nat),(∀x∈l,x.toNat≤1000)→True:=fun _ _ _=>trivial
    have hnf:nfL (r.take k):=⟨fun x hx=>h.1 x (List.mem_of_mem_take hx),fun j x hj=>by
     have hjk:j < k:=by have:=lt_of_get hj;rw [List.length_take] at this;omega
     rw [List.getElem?_take,if_pos hjk] at hj
     have:=h.2 j x hj
     rwa [List.take_take,Nat.min_eq_left (by omega)]⟩
    have:=nf_used hnf
    omega
   have hml:∀c,(natsI (lblL r k c)).length≤k:=by
    intro c
    unfold natsI lblL
    rw [List.length_map]
    have:=List.length_filter_le (fun i=>decide (r.getD i 0=(c:Int))) (List.range k)
    rwa [List.length_range] at this
   by_cases hc:r[k].toNat < usedN (r.take k)
   ·have hne:(r[k] == (((grpTo r k).length:Nat):Int))=false:=by rw [hgl,beq_eq_false_iff_ne];omega
    have hu:usedN (r.take (k+1))=usedN (r.take k):=by rw [usedN_take r k hx];omega
    have hg:idx (grpTo r k) r[k]=some (natsI (lblL r k r[k].toNat)):=by
     conv=>lhs;rw [show r[k]=((r[k].toNat:Nat):Int) by omega]
     exact idx_get (rangeLk _ hc)
    have hroom:roomB ((natsI (lblL r k r[k].toNat)).length+1) 8=true:=room8 (by have:=hml r[k].toNat;omega)
    have hset:(grpTo r k).set r[k].toNat (natsI (lblL r k r[k].toNat)++[(k:Int)])=grpTo r (k+1):=by
     unfold grpTo
     rw [hu]
     have:=map_range_set (fun c=>natsI (lblL r k c)) (fun c=>natsI (lblL r (k+1) c)) hc (fun u hu hne=>by
      rw [lblL_succ,hxd,if_neg (by omega),List.append_nil])
     rw [←this,lblL_succ,hxd,if_pos (by omega)]
     simp [natsI]
    rw [Loop_next (s':=(grpTo r (k+1),((k+1:Nat):Int))) (by
     simp only [drossref54_Groups_l1,if_pos (lt_true hx),idx_get hx,Option.bind_some,hne,Bool.false_eq_true,if_false,hg,hroom,if_true,hset,w])]
    exact ih (k+1) (by omega)
   ·have he:r[k]=((usedN (r.take k):Nat):Int):=by omega
    have heq:(r[k] == (((grpTo r k).length:Nat):Int))=true:=by rw [hgl,beq_iff_eq,he]
    have hu:usedN (r.take (k+1))=usedN (r.take k)+1:=by rw [usedN_take r k hx];omega
    have hr1:roomB ((grpTo r k).length+1) 24=true:=by unfold roomB;rw [hgl];simp only [decide_eq_true_eq];omega
    have hg:idx (grpTo r k++[[]]) r[k]=some []:=by
     rw [he]
     refine idx_get ?_
     rw [List.getElem?_append,hgl,if_neg (by omega),Nat.sub_self];rfl
    have hr2:roomB (([]:List Int).length+1) 8=true:=room8 (by simp)
    have hset:(grpTo r k++[[]]).set r[k].toNat ([]++[(k:Int)])=grpTo r (k+1):=by
     have htn:r[k].toNat=usedN (r.take k):=by omega
     rw [htn,List.set_append_right _ _ (by omega),hgl,Nat.sub_self,List.set_cons_zero]
     unfold grpTo
     rw [hu,List.range_succ,List.map_append,List.map_singleton]
     congr 1
     ·refine List.map_congr_left fun c hc'=>?_
      have:=List.mem_range.1 hc'
      rw [lblL_succ,hxd,if_neg (by omega),List.append_nil]
     ·rw [lblL_succ,hxd,if_pos he]
      have:lblL r k (usedN (r.take k))=[]:=by
       unfold lblL
       rw [List.filter_eq_nil_iff]
       intro i hi hq
       have hik:=List.mem_range.1 hi
       rw [decide_eq_true_eq] at hq
       have hri:r[i]?=some (r.getD i 0):=by simp [List.getD_eq_getElem?_getD,List.getElem?_eq_getElem (show i < r.length by omega)]
       have hm:r.getD i 0∈r.take k:=by
        refine List.mem_of_getElem? (i:=i) ?_
        rw [List.getElem?_take,if_pos hik];exact hri
       have:=nf_lt h hm
       omega
      rw [this];rfl
    rw [Loop_next (s':=(grpTo r (k+1),((k+1:Nat):Int))) (by
     simp only [drossref54_Groups_l1,if_pos (lt_true hx),idx_get hx,Option.bind_some,heq,if_true,hr1,hg,hr2,hset,w])]
    exact ih (k+1) (by omega)
 have hk:=key r.length 0 (by omega)
 have e0:grpTo r 0=[]:=by simp [grpTo,usedN]
 rw [e0] at hk
 simpa using hk
def partsL (r:List Int) (C:List Nat):List (List Nat):=(List.range (usedN r)).map fun c=>(lblL r r.length c).map fun i=>C.getD i 0
def wT (t:Table) (l:Linkage) (a b:Nat):Int:=if a=b then 0 else if mT t l (min a b) (max a b) then 1 else -1
theorem wT_ok (t:Table) (l:Linkage):WOk (wT t l):=by
 refine ⟨fun i k=>?_,fun i k=>?_,fun i=>by simp [wT]⟩
 ·unfold wT;split
  ·omega
  ·split <;> omega
 ·unfold wT
  by_cases h:i=k
  ·rw [if_pos h,if_pos h.symm]
  ·rw [if_neg h,if_neg (show ¬k=i from fun e=>h e.symm),Nat.min_comm,Nat.max_comm]
theorem partW_ok {W:Nat→Nat→Int} (h:WOk W) (C:List Nat):WOk (partW W C):=⟨fun i k=>h.1 _ _,fun i k=>h.2.1 _ _,fun i=>h.2.2 _⟩
def MatchM (t:Table) (l:Linkage) (M:List (Arr2_int×Bool)):Prop:=∀a b:Nat,a < b→b < t.Rows.length→(mget M ⟨(a:Int),(b:Int)⟩).getD false=mT t l a b
theorem natsI_get {C:List Nat} {i:Nat} (h:i < C.length):(natsI C)[i]?=some ((C.getD i 0:Nat):Int):=by
 simp [natsI,List.getD_eq_getElem?_getD,List.getElem?_eq_getElem h]
theorem asc_getD {C:List Nat} (h:C.Pairwise (· < ·)) {i k:Nat} (hik:i < k) (hk:k < C.length):C.getD i 0 < C.getD k 0:=by
 have:=(List.pairwise_iff_getElem.1 h) i k (by omega) hk hik
 simpa [List.getD_eq_getElem?_getD,List.getElem?_eq_getElem hk,List.getElem?_eq_getElem (show i < C.length by omega)] using this
theorem room24 {n:Nat} (h:n≤1000000):roomB n 24=true:=by
 unfold roomB;simp only [decide_eq_true_eq];omega
theorem dividePairs {t:Table} {l:Linkage} {M:List (Arr2_int×Bool)} (hM:MatchM t l M) {C:List Nat} (hC:C.Pairwise (· < ·)) (hCn:∀x∈C,x < t.Rows.length) (hn:C.length≤6) :
  LoopF (linkage_divide_l4 (natsI C) M) ([],0)=some (pairsW (partW (wT t l) C) C.length):=by
 have hlen:(natsI C).length=C.length:=by simp [natsI]
 have inner:∀(i:Nat),i < C.length→∀(d k:Nat) (out:List Pair),i < k→k+d=C.length→out.length+d≤1000→LoopF (linkage_divide_l3 (natsI C) M (i:Int)) (out,(k:Int))=some (out++(List.range' k d).flatMap fun (j:Nat)=>[(⟨(i:Int),(j:Int),partW (wT t l) C i j⟩:Pair)]):=by
  intro i hi d
  induction d with
  | zero =>
   intro k out _ hk _
   have c:¬((k:Int) < ((natsI C).length:Int)):=by omega
   rw [Loop_done (t:=out) (by simp only [linkage_divide_l3,if_neg c])];simp
  | succ d ih =>
   intro k out hik hk hl
   have hk':k < C.length:=by omega
   have c:((k:Int) < ((natsI C).length:Int)):=by omega
   have hr:roomB (out.length+1) 24=true:=room24 (by omega)
   have hlt:=asc_getD hC hik hk'
   have hbn:C.getD k 0 < t.Rows.length:=hCn _ (List.mem_of_getElem? (i:=k) (by simp [List.getD_eq_getElem?_getD,List.getElem?_eq_getElem hk']))
   have hm:=hM _ _ hlt hbn
   have w:=wrap_nat (show k < 4611686018427387904 by omega)
   have hw:partW (wT t l) C i k=if mT t l (C.getD i 0) (C.getD k 0)=true then 1 else -1:=by
    unfold partW wT
    rw [if_neg (by omega),Nat.min_eq_left (by omega),Nat.max_eq_right (by omega)]
   have hb:linkage_divide_l3 (natsI C) M (i:Int) (out,(k:Int))=some (.next (out++[(⟨(i:Int),(k:Int),partW (wT t l) C i k⟩:Pair)],((k+1:Nat):Int))):=by
    simp only [linkage_divide_l3,if_pos c,idx_get (natsI_get hi),idx_get (natsI_get hk'),Option.bind_some,hm,hr,if_true,w,hw]
    cases mT t l (C.getD i 0) (C.getD k 0) <;> rfl
   rw [Loop_next hb,ih (k+1) _ (by omega) (by omega) (by rw [List.length_append,List.length_singleton];omega),List.range'_succ,List.flatMap_cons,List.append_assoc]
 have outer:=LoopF_push (linkage_divide_l4 (natsI C) M) (fun i=>(List.range' (i+1) (C.length - (i+1))).flatMap fun (k:Nat)=>if true=true then [(⟨(i:Int),(k:Int),partW (wT t l) C i k⟩:Pair)] else []) C.length 100 6 (by
  intro i out hi hl
  have c:((i:Int) < ((natsI C).length:Int)):=by omega
  have w:=wrap_nat (show i < 4611686018427387904 by omega)
  have hin:=inner i hi (C.length - (i+1)) (i+1) out (by omega) (by omega) (by omega)
  simp only [linkage_divide_l4,if_pos c,w,hin,Option.bind_some,if_true]) (by
  intro i _
  have:=flatMap_len (fun (k:Nat)=>if true=true then [(⟨(i:Int),(k:Int),partW (wT t l) C i k⟩:Pair)] else []) 1 (List.range' (i+1) (C.length - (i+1))) (fun k _=>by simp)
  rw [List.length_range'] at this;omega) (by
  intro out
  have c:¬((C.length:Int) < ((natsI C).length:Int)):=by omega
  simp only [linkage_divide_l4,if_neg c]) C.length 0 [] (by omega) (by simp;omega)
 simp only [Int.natCast_zero,List.nil_append] at outer
 exact outer
theorem rename_inner (comp x:List Int) (hx:∀y∈x,0≤y∧y < (comp.length:Int)) (hlen:x.length≤1000) (k:Nat):∀(d j:Nat) (G:List (List Int)),j+d=x.length→k < G.length→G[k]?=some ((x.take j).map (fun y=>comp.getD y.toNat 0)++x.drop j) →
  LoopF (linkage_divide_l9 comp (k:Int) x) (G,(j:Int))=some (G.set k (x.map fun y=>comp.getD y.toNat 0)):=by
 intro d
 induction d with
 | zero =>
  intro j G hj hk hG
  obtain rfl:j=x.length:=by omega
  have c:¬((x.length:Int) < ((x.length:Nat):Int)):=by omega
  rw [Loop_done (t:=G) (by simp only [linkage_divide_l9,if_neg c])]
  congr 1
  refine List.ext_getElem? fun i=>?_
  rw [List.getElem?_set]
  by_cases e:k=i
  ·subst e
   rw [if_pos rfl,if_pos hk,hG]
   simp
  ·rw [if_neg e]
 | succ d ih =>
  intro j G hj hk hG
  have hlt:j < x.length:=by omega
  have hxj:x[j]?=some x[j]:=List.getElem?_eq_getElem hlt
  obtain ⟨h1,h2⟩:=hx _ (List.mem_of_getElem? hxj)
  have c:((j:Int) < ((x.length:Nat):Int)):=by omega
  have w:=wrap_nat (show j < 4611686018427387904 by omega)
  have hl:((x.take j).map (fun y=>comp.getD y.toNat 0)).length=j:=by rw [List.length_map,List.length_take];omega
  have g2:idx ((x.take j).map (fun y=>comp.getD y.toNat 0)++x.drop j) (j:Int)=some x[j]:=by
   refine idx_get ?_
   rw [List.getElem?_append,hl,if_neg (by omega),Nat.sub_self,List.getElem?_drop,Nat.add_zero,hxj]
  have g3:idx comp x[j]=some (comp.getD x[j].toNat 0):=by
   conv=>lhs;rw [show x[j]=((x[j].toNat:Nat):Int) by omega]
   refine idx_get ?_
   simp [List.getD_eq_getElem?_getD,List.getElem?_eq_getElem (show x[j].toNat < comp.length by omega)]
  have hset:((x.take j).map (fun y=>comp.getD y.toNat 0)++x.drop j).set j (comp.getD x[j].toNat 0)=(x.take (j+1)).map (fun y=>comp.getD y.toNat 0)++x.drop (j+1):=by
   rw [List.set_append_right _ _ (by omega),hl,Nat.sub_self,drop_cons hxj,List.set_cons_zero,List.take_add_one,hxj,Option.toList_some,List.map_append,List.map_singleton,List.append_assoc,List.singleton_append]
  rw [Loop_next (s':=(G.set k ((x.take (j+1)).map (fun y=>comp.getD y.toNat 0)++x.drop (j+1)),((j+1:Nat):Int))) (by
   simp only [linkage_divide_l9,if_pos c,idx_get hG,g2,g3,Option.bind_some,Int.toNat_natCast,hset,w])]
  rw [ih (j+1) _ (by omega) (by rw [List.length_set];exact hk) (by rw [List.getElem?_set,if_pos rfl,if_pos hk]),List.set_set]
theorem rename_outer (comp:List Int) (out:List (List Int)) (ho:∀x∈out,(∀y∈x,0≤y∧y < (comp.length:Int))∧x.length≤1000) (hlen:out.length≤1000):LoopF (linkage_divide_l10 comp out) (out,0)=some (out.map fun x=>x.map fun y=>comp.getD y.toNat 0):=by
 have key:∀(d k:Nat),k+d=out.length→LoopF (linkage_divide_l10 comp out) ((out.take k).map (fun x=>x.map fun y=>comp.getD y.toNat 0)++out.drop k,(k:Int))=some (out.map fun x=>x.map fun y=>comp.getD y.toNat 0):=by
  intro d
  induction d with
  | zero =>
   intro k hk
   obtain rfl:k=out.length:=by omega
   exact Loop_done (by simp [linkage_divide_l10])
  | succ d ih =>
   intro k hk
   have hlt:k < out.length:=by omega
   have hx:out[k]?=some out[k]:=List.getElem?_eq_getElem hlt
   obtain ⟨h1,h2⟩:=ho _ (List.mem_of_getElem? hx)
   have c:((k:Int) < ((out.length:Nat):Int)):=by omega
   have hl:((out.take k).map (fun x=>x.map fun y=>comp.getD y.toNat 0)).length=k:=by rw [List.length_map,List.length_take];omega
   have g:((out.take k).map (fun x=>x.map fun y=>comp.getD y.toNat 0)++out.drop k)[k]?=some out[k]:=by
    rw [List.getElem?_append,hl,if_neg (by omega),Nat.sub_self,List.getElem?_drop,Nat.add_zero,hx]
   have hin:=rename_inner comp out[k] h1 h2 k out[k].length 0 _ (by omega) (lt_of_get g) (by simpa using g)
   simp only [Int.natCast_zero] at hin
   have hset:((out.take k).map (fun x=>x.map fun y=>comp.getD y.toNat 0)++out.drop k).set k (out[k].map fun y=>comp.getD y.toNat 0)=(out.take (k+1)).map (fun x=>x.map fun y=>comp.getD y.toNat 0)++out.drop (k+1):=by
    rw [List.set_append_right _ _ (by omega),hl,Nat.sub_self,drop_cons hx,List.set_cons_zero,List.take_add_one,hx,Option.toList_some,List.map_append,List.map_singleton,List.append_assoc,List.singleton_append]
   rw [Loop_next (s':=((out.take (k+1)).map (fun x=>x.map fun y=>comp.getD y.toNat 0)++out.drop (k+1),((k+1:Nat):Int))) (by
    simp only [linkage_divide_l10,if_pos c,idx_get g,hin,Option.bind_some,hset,wrap_nat (show k < 4611686018427387904 by omega)])]
   exact ih (k+1) (by omega)
 have h:=key out.length 0 (by omega)
 simpa using h
theorem lblL_lt {r:List Int} {k c i:Nat} (h:i∈lblL r k c):i < k:=List.mem_range.1 (List.mem_filter.1 h).1
noncomputable def bestL (W:Nat→Nat→Int) (C:List Nat):List Int:=((optB (partW W C) C.length).map (·.1)).getD []
theorem bestL_ok (W:Nat→Nat→Int) (C:List Nat):∃c,optB (partW W C) C.length=some (bestL W C,c)∧nfL (bestL W C)∧(bestL W C).length=C.length:=by
 obtain ⟨l,c,h,hm,_,_⟩:=optB_some (partW W C) C.length
 have e:bestL W C=l:=by unfold bestL;rw [h];rfl
 rw [e]
 exact ⟨c,h,compl_nf _ [] 0 l nfL_nil rfl hm,by simpa using (compl_len _ [] 0 l hm).1⟩
theorem divide_p {t:Table} {l:Linkage} {M:List (Arr2_int×Bool)} (hM:MatchM t l M) {C:List Nat} (hC:C.Pairwise (· < ·)) (hCn:∀x∈C,x < t.Rows.length) (h1:1≤C.length) (hn:C.length≤6) :
  linkage_divide (natsI C) M=some ((partsL (bestL (wT t l) C) C).map natsI,0):=by
 have hlen:(natsI C).length=C.length:=by simp [natsI]
 obtain ⟨c0,hb,hnf,hbl⟩:=bestL_ok (wT t l) C
 obtain ⟨b,c,ho,hp⟩:=Optimal_p (partW (wT t l) C) (partW_ok (wT_ok t l) C) C.length h1 hn
 rw [hb] at ho
 simp only [Option.some.injEq,Prod.mk.injEq] at ho
 obtain ⟨e1,e2⟩:=ho
 subst e1
 have c1:((natsI C).length:Int)≤10:=by omega
 have hN:=Normal_p hnf (by omega)
 have hG:LoopF (linkage_divide_l6 (bestL (wT t l) C)) ([],0)=some (grpTo (bestL (wT t l) C) (bestL (wT t l) C).length):=groupsLk hnf (by omega)
 have hR:=rename_outer (natsI C) (grpTo (bestL (wT t l) C) (bestL (wT t l) C).length) (by
  intro x hx
  obtain ⟨c,_,rfl⟩:=List.mem_map.1 hx
  refine ⟨?_,?_⟩
  ·intro y hy
   obtain ⟨i,hi,rfl⟩:=mem_natsI.1 hy
   have:=lblL_lt hi
   omega
  ·have:=List.length_filter_le (fun i=>decide ((bestL (wT t l) C).getD i 0=(c:Int))) (List.range (bestL (wT t l) C).length)
   simp only [natsI,List.length_map,lblL]
   rw [List.length_range] at this;omega) (by
  have:=nf_used hnf
  simp only [grpTo,List.length_map,List.length_range,List.take_length];omega)
 have hfin:((grpTo (bestL (wT t l) C) (bestL (wT t l) C).length).map fun x=>x.map fun y=>(natsI C).getD y.toNat 0)=(partsL (bestL (wT t l) C) C).map natsI:=by
  unfold grpTo partsL
  rw [List.map_map,List.map_map,List.take_length]
  refine List.map_congr_left fun c _=>?_
  simp only [Function.comp,natsI,List.map_map]
  refine List.map_congr_left fun i hi=>?_
  have hic:=lblL_lt hi
  simp only [Function.comp,Int.toNat_natCast]
  simp [List.getD_eq_getElem?_getD,List.getElem?_eq_getElem (show i < C.length by omega)]
 rw [hfin] at hR
 rw [←hlen] at hp
 have hp':cluster_Optimal (((natsI C).length:Nat):Int) (pairsW (partW (wT t l) C) C.length)=some (bestL (wT t l) C,c,0):=by rw [hlen] at hp ⊢;exact hp
 simp only [linkage_divide,dividePairs hM hC hCn hn,Option.bind_some,if_pos c1,hp',bne_self_eq_false,Bool.false_eq_true,if_false,hN,hG,hR]
end Go.Proofs.YtmlegeeinnkhkaaGreat
namespace Go.Ab
open Go
variable {α κ:Type} [DecidableEq κ]
def keysF (key:α→κ) (ks:List κ) (x:α):List κ:=if key x∈ks then ks else ks++[key x]
def keysOf (key:α→κ) (l:List α):List κ:=l.foldl (keysF key) []
def classes (key:α→κ) (l:List α):List (List α):=(keysOf key l).map fun k=>l.filter fun x=>decide (key x=k)
end Go.Ab
namespace Go.Ab
open Go
def bitsN (n:Nat):List Nat:=(List.range 32).filter fun k=>n.testBit k
end Go.Ab
namespace Go.Proofs.YtmlegeeinnkhkaaGreat
open Go Go.Ab
end Go.Proofs.YtmlegeeinnkhkaaGreat
namespace Go.Ab
open Go
def numB (u:Nat):List UInt8:=[56,48,40,32,24,16,8,0].map fun s=>UInt8.ofNat (u / 2 ^ s)
def escB:List UInt8→List UInt8
 | []=>[]
 | c :: s=>if c=0 then 0 :: 255 :: escB s else c :: escB s
end Go.Ab
namespace Go.Proofs.YtmlegeeinnkhkaaGreat
open Go Go.Ab
def shiftN (n:Int):Nat:=(n+9223372036854775808).toNat
def keyV (v:Value):List UInt8:=UInt8.ofNat v.Kind.toNat :: (if v.Kind=1∨v.Kind=3 then numB (shiftN v.Num) else if v.Kind=2 then escB v.Str++[0,1] else [])
def numOk (v:Value):Prop:=-9223372036854775808≤v.Num∧v.Num≤9223372036854775807
structure GT (t:Table):Prop where
 ok:TableOk t
 err:tableErr t=0
 num:∀r∈t.Rows,∀v∈r.Values,numOk v
theorem GT.attrs {t:Table} (h:GT t):t.Attrs.length≤16:=by
 have:=h.err
 unfold tableErr at this
 split at this
 ·cases this
 ·split at this
  ·cases this
  ·omega
theorem GT.rows {t:Table} (h:GT t):t.Rows.length≤1000:=by
 have:=h.err
 unfold tableErr at this
 split at this
 ·cases this
 ·split at this
  ·cases this
  ·split at this
   ·cases this
   ·omega
def rowN (t:Table) (i:Nat):Row:=t.Rows.getD i ⟨0,[]⟩
def rkey (s:Nat) (r:Row):List UInt8:=(bitsN s).flatMap fun k=>keyV (cellV r k)
def parts (t:Table) (p:Nat) (c:List Nat):List (List Nat):=classes (fun i=>rkey p (rowN t i)) c
theorem okI_i64 {n:Int} (h:okI .i64 n):-9223372036854775808≤n∧n≤9223372036854775807:=by
 have h':(decide (IntKind.min .i64≤n) && decide (n≤IntKind.max .i64))=true:=h
 simp only [Bool.and_eq_true,decide_eq_true_eq] at h'
 have e1:IntKind.min .i64=-9223372036854775808:=by decide
 have e2:IntKind.max .i64=9223372036854775807:=by decide
 rw [e1,e2] at h'
 exact h'
theorem gt_of {t:Table} (h:okTable t) (he:tableErr t=0):GT t:=by
 refine ⟨tabOk_of h,he,fun r hr v hv=>?_⟩
 exact okI_i64 ((h.2.2.2 r hr).2.2 v hv).2.1
theorem flat_one {α β:Type} (f:α→β):∀l:List α,(l.flatMap fun i=>[f i])=l.map f
 | []=>rfl
 | x :: l=>by rw [List.flatMap_cons,flat_one f l];rfl
def vals12:List Value:=[⟨1,0,[]⟩,⟨1,1,[]⟩,⟨1,2,[]⟩,⟨0,0,[]⟩,⟨2,0,[97]⟩,⟨2,0,[98]⟩,⟨2,0,[]⟩,⟨3,1,[]⟩,⟨1,-1,[]⟩,⟨2,0,[97,98]⟩,⟨3,2,[]⟩,⟨1,7,[]⟩]
theorem Of_list (c:Int):∃v,drossref01_Of c=some v∧v∈vals12:=by
 unfold drossref01_Of
 by_cases h0:(Int.tmod c 12 == 0)=true
 ·rw [if_pos h0];exact ⟨_,rfl,by decide⟩
 rw [if_neg h0]
 by_cases h1:(Int.tmod c 12 == 1)=true
 ·rw [if_pos h1];exact ⟨_,rfl,by decide⟩
 rw [if_neg h1]
 by_cases h2:(Int.tmod c 12 == 2)=true
 ·rw [if_pos h2];exact ⟨_,rfl,by decide⟩
 rw [if_neg h2]
 by_cases h3:(Int.tmod c 12 == 3)=true
 ·rw [if_pos h3];exact ⟨_,rfl,by decide⟩
 rw [if_neg h3]
 by_cases h4:(Int.tmod c 12 == 4)=true
 ·rw [if_pos h4];exact ⟨_,rfl,by decide⟩
 rw [if_neg h4]
 by_cases h5:(Int.tmod c 12 == 5)=true
 ·rw [if_pos h5];exact ⟨_,rfl,by decide⟩
 rw [if_neg h5]
 by_cases h6:(Int.tmod c 12 == 6)=true
 ·rw [if_pos h6];exact ⟨_,rfl,by decide⟩
 rw [if_neg h6]
 by_cases h7:(Int.tmod c 12 == 7)=true
 ·rw [if_pos h7];exact ⟨_,rfl,by decide⟩
 rw [if_neg h7]
 by_cases h8:(Int.tmod c 12 == 8)=true
 ·rw [if_pos h8];exact ⟨_,rfl,by decide⟩
 rw [if_neg h8]
 by_cases h9:(Int.tmod c 12 == 9)=true
 ·rw [if_pos h9];exact ⟨_,rfl,by decide⟩
 rw [if_neg h9]
 by_cases h10:(Int.tmod c 12 == 10)=true
 ·rw [if_pos h10];exact ⟨_,rfl,by decide⟩
 rw [if_neg h10]
 exact ⟨_,rfl,by decide⟩
theorem ofV_ok (c:Int):okValue (ofV c):=by
 obtain ⟨v,h1,h2⟩:=Of_list c
 have:ofV c=v:=by unfold ofV;rw [h1];rfl
 rw [this]
 have all:∀w∈vals12,((Lit.int .i64 w.Kind).wf && (Lit.int .i64 w.Num).wf && decide (w.Str.length≤1048576))=true:=by decide
 have:=all v h2
 simp only [Bool.and_eq_true,decide_eq_true_eq] at this
 exact ⟨this.1.1,this.1.2,this.2⟩
theorem wf_i64 {n:Int} (h1:-9223372036854775808≤n) (h2:n≤9223372036854775807):okI .i64 n:=by
 show (decide (IntKind.min .i64≤n) && decide (n≤IntKind.max .i64))=true
 have e1:IntKind.min .i64=-9223372036854775808:=by decide
 have e2:IntKind.max .i64=9223372036854775807:=by decide
 rw [e1,e2,Bool.and_eq_true,decide_eq_true_eq,decide_eq_true_eq]
 exact ⟨h1,h2⟩
theorem wide_ok (x:Drossref03_Recipe) (n:Nat) (hn:n≤8) (hr:x.Rows.length≤8):okTable (wide x n):=by
 refine ⟨by show okS [114];unfold okS;decide,⟨?_,fun s hs=>?_⟩,⟨?_,fun r h=>?_⟩⟩
 ·simp only [wide,List.length_take];omega
 ·have hm:s∈wnames:=List.mem_of_mem_take hs
  have:∀w∈wnames,w.length≤1048576:=by decide
  exact this s hm
 ·simp only [wide,List.length_map,List.length_range];omega
 ·obtain ⟨i,hi,rfl⟩:=List.mem_map.1 h
  have hi':=List.mem_range.1 hi
  have hs:wstep x≤3:=by unfold wstep;omega
  have hm:i * wstep x≤8 * 3:=Nat.mul_le_mul (by omega) hs
  refine ⟨wf_i64 (by simp only [wrow];omega) (by simp only [wrow];omega),?_,fun v hv=>?_⟩
  ·simp only [wrow,List.length_map,List.length_range];omega
  ·obtain ⟨k,_,rfl⟩:=List.mem_map.1 hv
   exact ofV_ok _
theorem Good.gt {t:Table} (G:Good t) (h:okTable t):GT t:=gt_of h G.err
end Go.Proofs.YtmlegeeinnkhkaaGreat
namespace Go.Ab
open Go
end Go.Ab
namespace Go.Proofs.YtmlegeeinnkhkaaGreat
open Go Go.Ab
end Go.Proofs.YtmlegeeinnkhkaaGreat
namespace Go.Ab
open Go
end Go.Ab
namespace Go.Proofs.YtmlegeeinnkhkaaGreat
open Go Go.Ab
def befN (q z:Nat×Nat):Prop:=lexN q.1 z.1∨(q.1=z.1∧q.2 < z.2)
instance instDecBefN (q z:Nat×Nat):Decidable (befN q z):=by unfold befN;exact inferInstance
end Go.Proofs.YtmlegeeinnkhkaaGreat
namespace Go.Ab
open Go
end Go.Ab
namespace Go.Proofs.YtmlegeeinnkhkaaGreat
open Go Go.Ab
def ltL:List Int→List Int→Bool
 | [],[]=>false
 | [],_ :: _=>true
 | _ :: _,[]=>false
 | x :: a,y :: b=>if x=y then ltL a b else decide (x < y)
theorem ltL_irr:∀a:List Int,ltL a a=false
 | []=>rfl
 | x :: a=>by rw [ltL,if_pos rfl,ltL_irr a]
theorem ltL_total:∀a b:List Int,ltL a b=false→ltL b a=false→a=b
 | [],[],_,_=>rfl
 | [],_ :: _,h,_=>by cases h
 | _ :: _,[],_,h=>by cases h
 | x :: a,y :: b,h1,h2=>by
  rw [ltL] at h1 h2
  by_cases e:x=y
  ·subst e
   rw [if_pos rfl] at h1 h2
   rw [ltL_total a b h1 h2]
  ·rw [if_neg e] at h1
   rw [if_neg (fun e'=>e e'.symm)] at h2
   simp at h1 h2;omega
theorem ltL_trans:∀a b c:List Int,ltL a b=true→ltL b c=true→ltL a c=true
 | [],[],_,h,_=>by cases h
 | _ :: _,[],_,h,_=>by cases h
 | _,_ :: _,[],_,h=>by cases h
 | [],_ :: _,_ :: _,_,_=>rfl
 | x :: a,y :: b,z :: c,h1,h2=>by
  rw [ltL] at h1 h2 ⊢
  by_cases e1:x=y
  ·subst e1
   rw [if_pos rfl] at h1
   by_cases e2:x=z
   ·subst e2
    rw [if_pos rfl] at h2 ⊢
    exact ltL_trans a b c h1 h2
   ·rw [if_neg e2] at h2 ⊢;exact h2
  ·rw [if_neg e1] at h1
   by_cases e2:y=z
   ·subst e2
    rw [if_neg e1];exact h1
   ·rw [if_neg e2] at h2
    have h1':x < y:=by simpa using h1
    have h2':y < z:=by simpa using h2
    rw [if_neg (by omega)]
    simp;omega
theorem ltL_ntr (a b c:List Int) (h1:ltL a b=false) (h2:ltL b c=false):ltL a c=false:=by
 cases h:ltL a c with
 | false=>rfl
 | true =>
  exfalso
  cases h3:ltL b a with
  | true =>
   have:=ltL_trans b a c h3 h
   rw [h2] at this;cases this
  | false =>
   have:=ltL_total a b h1 h3
   subst this
   rw [h2] at h;cases h
theorem drop_c18 {α:Type} {l:List α} {k:Nat} {x:α} {r:List α} (h:l.drop k=x :: r):l[k]?=some x∧l.drop (k+1)=r∧k < l.length:=by
 have h1:l[k]?=some x:=by
  have:=congrArg (·[0]?) h
  simpa [List.getElem?_drop] using this
 exact ⟨h1,by rw [←List.drop_drop,h];rfl,lt_of_get h1⟩
theorem drop_n18 {α:Type} {l:List α} {k:Nat} (h:l.drop k=[]) (hk:k≤l.length):k=l.length:=by
 have:=congrArg List.length h
 simp at this;omega
theorem compare_loop18 (a b:List Int) (ha:a.length≤1000000) (hb:b.length≤1000000):∀(ra rb:List Int) (k:Nat),a.drop k=ra→b.drop k=rb→k≤a.length→k≤b.length →
  ∃o,LoopF (slices_Compare_int64_l1 a b) (k:Int)=some o∧(match o with | .inl ()=>if (a.length:Int) < (b.length:Int) then -1 else 0 | .inr r=>r)=if ltL ra rb=true then (-1:Int) else if ltL rb ra=true then 1 else 0
 | [],[],k,h1,h2,h3,h4=>by
  have e1:=drop_n18 h1 h3
  have e2:=drop_n18 h2 h4
  refine ⟨.inl (),Loop_done (by simp [slices_Compare_int64_l1,e1]),?_⟩
  simp only
  rw [if_neg (by omega)];rfl
 | [],y :: rb,k,h1,h2,h3,h4=>by
  have e1:=drop_n18 h1 h3
  have e2:=(drop_c18 h2).2.2
  refine ⟨.inl (),Loop_done (by simp [slices_Compare_int64_l1,e1]),?_⟩
  simp only
  rw [if_pos (by omega)];rfl
 | x :: ra,[],k,h1,h2,h3,h4=>by
  have e2:=drop_n18 h2 h4
  obtain ⟨x1,x2,x3⟩:=drop_c18 h1
  refine ⟨.inr 1,Loop_done (by simp only [slices_Compare_int64_l1,if_pos (lt_true x1),idx_get x1,Option.bind_some,if_pos (show (k:Int)≥(b.length:Int) by omega)]),?_⟩
  simp [ltL]
 | x :: ra,y :: rb,k,h1,h2,h3,h4=>by
  obtain ⟨x1,x2,x3⟩:=drop_c18 h1
  obtain ⟨y1,y2,y3⟩:=drop_c18 h2
  by_cases e:x=y
  ·subst e
   obtain ⟨o,ho1,ho2⟩:=compare_loop18 a b ha hb ra rb (k+1) x2 y2 x3 y3
   refine ⟨o,?_,?_⟩
   ·rw [Loop_next (s':=((k+1:Nat):Int)) (by simp only [slices_Compare_int64_l1,if_pos (lt_true x1),if_neg (show ¬(k:Int)≥(b.length:Int) by omega),idx_get x1,idx_get y1,Option.bind_some,cmp_int64_eq,sgn_self,bne_self_eq_false,Bool.false_eq_true,if_false,wrap_succ x3 (show a.length≤4611686018427387904 by omega)])]
    exact ho1
   ·rw [ho2,ltL,ltL,if_pos rfl,if_pos rfl]
  ·refine ⟨.inr (sgn x y),Loop_done ?_,?_⟩
   ·have:(sgn x y != 0)=true:=by simpa using sgn_ne e
    simp only [slices_Compare_int64_l1,if_pos (lt_true x1),if_neg (show ¬(k:Int)≥(b.length:Int) by omega),idx_get x1,idx_get y1,Option.bind_some,cmp_int64_eq,this,if_true]
   ·simp only [ltL,if_neg e,if_neg (fun e'=>e e'.symm:¬y=x)]
    unfold sgn
    by_cases h:x < y
    ·simp [h]
    ·have:y < x:=by omega
     simp [h,this]
def cmpLL (a b:List Int):Int:=if ltL a b=true then -1 else if ltL b a=true then 1 else 0
theorem Compare_eq18 (a b:List Int) (ha:a.length≤1000000) (hb:b.length≤1000000):slices_Compare_int64 a b=some (cmpLL a b):=by
 obtain ⟨o,h1,h2⟩:=compare_loop18 a b ha hb a b 0 rfl rfl (Nat.zero_le _) (Nat.zero_le _)
 have h1':LoopF (slices_Compare_int64_l1 a b) 0=some o:=h1
 unfold slices_Compare_int64 cmpLL
 rw [h1',Option.bind_some,←h2]
 cases o with
 | inl u =>
  cases u
  simp only
  by_cases h:(a.length:Int) < (b.length:Int)
  ·rw [if_pos h,if_pos h]
  ·rw [if_neg h,if_neg h]
 | inr r=>rfl
theorem cmpLL_lt (a b:List Int):cmpLL a b < 0↔ltL a b=true:=by
 unfold cmpLL
 cases h:ltL a b with
 | true=>simp
 | false =>
  cases ltL b a <;> simp
theorem srtF_lists (l:List (List Int)) (hl:l.length≤1000000) (hs:∀a∈l,a.length≤1000000) (hn:l.Nodup) :
  ∃s,srtF (fun (a:List Int) (b:List Int)=>slices_Compare_int64 a b) l=some s∧s.Perm l∧s.Pairwise (fun a b=>ltL a b=true):=by
 have hc:∀x∈l,∀y∈l,(slices_Compare_int64 x y).getD 0=cmpLL x y:=fun x hx y hy=>by rw [Compare_eq18 x y (hs x hx) (hs y hy)];rfl
 have hok:SrtOk (fun x y=>(slices_Compare_int64 x y).getD 0) l:=by
  refine ⟨fun x hx=>?_,fun x hx y hy z hz h1 h2=>?_,fun x hx y hy z hz h1 h2=>?_⟩
  ·show ¬(slices_Compare_int64 x x).getD 0 < 0
   rw [hc x hx x hx,cmpLL_lt,ltL_irr];simp
  ·replace h1:(slices_Compare_int64 x y).getD 0 < 0:=h1
   replace h2:(slices_Compare_int64 y z).getD 0 < 0:=h2
   show (slices_Compare_int64 x z).getD 0 < 0
   rw [hc _ hx _ hy,cmpLL_lt] at h1
   rw [hc _ hy _ hz,cmpLL_lt] at h2
   rw [hc _ hx _ hz,cmpLL_lt]
   exact ltL_trans x y z h1 h2
  ·replace h1:¬(slices_Compare_int64 x y).getD 0 < 0:=h1
   replace h2:¬(slices_Compare_int64 y z).getD 0 < 0:=h2
   show ¬(slices_Compare_int64 x z).getD 0 < 0
   rw [hc _ hx _ hy,cmpLL_lt] at h1
   rw [hc _ hy _ hz,cmpLL_lt] at h2
   rw [hc _ hx _ hz,cmpLL_lt]
   have h1':ltL x y=false:=by simpa using h1
   have h2':ltL y z=false:=by simpa using h2
   rw [ltL_ntr x y z h1' h2'];simp
 have hp:=srt_perm hok
 refine ⟨srt (fun x y=>(slices_Compare_int64 x y).getD 0) l,?_,hp,?_⟩
 ·unfold srtF
  rw [if_pos ⟨fun x hx y hy=>by show (slices_Compare_int64 x y).isSome=true;rw [Compare_eq18 x y (hs x hx) (hs y hy)];rfl,hok,by omega⟩]
 ·have h1:=srt_sorted hok
  have hn':(srt (fun x y=>(slices_Compare_int64 x y).getD 0) l).Nodup:=hp.nodup_iff.2 hn
  refine List.Pairwise.imp_of_mem ?_ (h1.and hn')
  intro a b ha hb hab
  have ha':=hp.mem_iff.1 ha
  have hb':=hp.mem_iff.1 hb
  obtain ⟨g1,g2⟩:=hab
  replace g1:¬(slices_Compare_int64 b a).getD 0 < 0:=g1
  rw [hc _ hb' _ ha',cmpLL_lt] at g1
  cases h:ltL a b with
  | true=>rfl
  | false=>exact absurd (ltL_total a b h (by simpa using g1)) g2
def edgesT (t:Table) (l:Linkage):List Arr2_int:=pairsF t.Rows.length (mT t l) fun i k=>Arr2_int.mk (i:Int) (k:Int)
def RT (t:Table) (l:Linkage) (u v:Nat):Prop:=edgeR (edgesT t l++(edgesT t l).map swapE) u v
theorem RT_iff (t:Table) (l:Linkage) (u v:Nat):RT t l u v↔(u < v∧v < t.Rows.length∧mT t l u v=true)∨(v < u∧u < t.Rows.length∧mT t l v u=true):=by
 unfold RT edgeR
 rw [List.mem_append,List.mem_map]
 unfold edgesT
 constructor
 ·rintro (h | ⟨e,he,hs⟩)
  ·obtain ⟨i,k,h1,h2,h3,h4⟩:=mem_pairsF.1 h
   simp only [Arr2_int.mk.injEq] at h4
   have:i=u:=by omega
   have:k=v:=by omega
   subst i k
   exact .inl ⟨h1,h2,h3⟩
  ·obtain ⟨i,k,h1,h2,h3,rfl⟩:=mem_pairsF.1 he
   simp only [swapE,Arr2_int.mk.injEq] at hs
   have:i=v:=by omega
   have:k=u:=by omega
   subst i k
   exact .inr ⟨h1,h2,h3⟩
 ·rintro (⟨h1,h2,h3⟩ | ⟨h1,h2,h3⟩)
  ·exact .inl (mem_pairsF.2 ⟨u,v,h1,h2,h3,rfl⟩)
  ·exact .inr ⟨_,mem_pairsF.2 ⟨v,u,h1,h2,h3,rfl⟩,rfl⟩
theorem RT_symm (t:Table) (l:Linkage) (u v:Nat) (h:RT t l u v):RT t l v u:=by
 rw [RT_iff] at h ⊢
 exact h.symm
theorem edgesT_good (t:Table) (l:Linkage):goodE t.Rows.length (edgesT t l):=by
 intro e he
 obtain ⟨i,k,h1,h2,_,rfl⟩:=mem_pairsF.1 he
 simp only;omega
theorem edgesT_len (t:Table) (l:Linkage) (h:t.Rows.length≤100):(edgesT t l).length≤10000:=by
 have:=pairsF_len t.Rows.length (mT t l) fun i k=>Arr2_int.mk (i:Int) (k:Int)
 have h2:t.Rows.length * t.Rows.length≤100 * 100:=Nat.mul_le_mul h h
 unfold edgesT;omega
theorem matchMap (t:Table) (l:Linkage) (h:t.Rows.length≤100):∃M,LoopF (linkage_Clusters_l1 (edgesT t l)) ([],0)=some M∧MatchM t l M:=by
 have hlen:=edgesT_len t l h
 have hf:=LoopF_foldl (edgesT t l) (fun (m:List (Arr2_int×Bool)) (k:Int)=>(m,k)) (linkage_Clusters_l1 (edgesT t l)) (fun m e=>mset m e true) id (fun _ _=>True) (b0:=[]) (s0:=([],0)) rfl trivial (by
  intro k m e hx hk _
  refine ⟨?_,trivial⟩
  simp only [linkage_Clusters_l1,if_pos (lt_true hx),idx_get hx,Option.bind_some,wrap_nat (show k < 4611686018427387904 by omega)]) (by
  intro m _
  simp only [linkage_Clusters_l1,if_neg (Int.lt_irrefl _),id])
 refine ⟨_,hf,?_⟩
 have key:∀(E:List Arr2_int) (m:List (Arr2_int×Bool)) (q:Arr2_int),(mget (E.foldl (fun m e=>mset m e true) m) q).getD false=(decide (q∈E) || (mget m q).getD false):=by
  intro E
  induction E with
  | nil=>intro m q;simp
  | cons e E ih =>
   intro m q
   rw [List.foldl_cons,ih,mget_mset]
   by_cases c:q=e
   ·subst c;simp
   ·simp [c]
 intro a b hab hb
 rw [id,key]
 have:(mget ([]:List (Arr2_int×Bool)) ⟨(a:Int),(b:Int)⟩).getD false=false:=rfl
 rw [this,Bool.or_false,Bool.eq_iff_iff,decide_eq_true_eq]
 unfold edgesT
 rw [mem_pairsF]
 constructor
 ·rintro ⟨i,k,h1,h2,h3,h4⟩
  simp only [Arr2_int.mk.injEq] at h4
  have:i=a:=by omega
  have:k=b:=by omega
  subst i k;exact h3
 ·intro h3;exact ⟨a,b,hab,hb,h3,rfl⟩
theorem comp_ok {t:Table} {l:Linkage} {C:List Nat} (h:C∈compsL (RT t l) t.Rows.length):C.Pairwise (· < ·)∧(∀x∈C,x < t.Rows.length)∧1≤C.length∧C.length≤t.Rows.length:=by
 obtain ⟨v,hv,rfl⟩:=List.mem_map.1 h
 refine ⟨compL_asc _ _ _,fun x hx=>(mem_compL.1 hx).1,?_,?_⟩
 ·have:v∈compL (RT t l) t.Rows.length v:=mem_compL.2 ⟨(mem_headsL.1 hv).1,.refl⟩
  exact List.length_pos_of_mem this
 ·have:(compL (RT t l) t.Rows.length v).length≤(List.range t.Rows.length).length:=List.length_filter_le _ _
  rwa [List.length_range] at this
theorem labels_lt {r:List Int} (h:nfL r) {i:Nat} (hi:i < r.length):∃c,c < usedN r∧r.getD i 0=(c:Int):=by
 have hx:r[i]?=some (r.getD i 0):=by simp [List.getD_eq_getElem?_getD,List.getElem?_eq_getElem hi]
 have h0:=h.1 _ (List.mem_of_getElem? hx)
 exact ⟨(r.getD i 0).toNat,usedN_get hx,by omega⟩
theorem lblL_mem {r:List Int} {k c i:Nat}:i∈lblL r k c↔i < k∧r.getD i 0=(c:Int):=by simp [lblL]
theorem lbl_perm {r:List Int} (h:nfL r):(((List.range (usedN r)).map fun c=>lblL r r.length c).flatten).Perm (List.range r.length):=by
 refine nodup_perm ?_ List.nodup_range ?_
 ·unfold List.Nodup
  rw [List.pairwise_flatten]
  refine ⟨?_,?_⟩
  ·intro x hx
   obtain ⟨c,_,rfl⟩:=List.mem_map.1 hx
   exact (List.nodup_range.sublist List.filter_sublist)
  ·rw [List.pairwise_map]
   refine (List.pairwise_lt_range (n:=usedN r)).imp fun {a b} hab x hx y hy e=>?_
   subst e
   have h1:=(lblL_mem.1 hx).2
   have h2:=(lblL_mem.1 hy).2
   omega
 ·intro x
  rw [List.mem_range,List.mem_flatten]
  constructor
  ·rintro ⟨y,hy,hx⟩
   obtain ⟨c,_,rfl⟩:=List.mem_map.1 hy
   exact (lblL_mem.1 hx).1
  ·intro hx
   obtain ⟨c,hc,hr⟩:=labels_lt h hx
   exact ⟨_,List.mem_map.2 ⟨c,List.mem_range.2 hc,rfl⟩,lblL_mem.2 ⟨hx,hr⟩⟩
theorem parts_perm {r:List Int} (h:nfL r) {C:List Nat} (hl:r.length=C.length):(partsL r C).flatten.Perm C:=by
 have e:(partsL r C).flatten=(((List.range (usedN r)).map fun c=>lblL r r.length c).flatten).map fun i=>C.getD i 0:=by
  unfold partsL
  rw [List.map_flatten,List.map_map]
  rfl
 rw [e]
 refine ((lbl_perm h).map _).trans ?_
 rw [hl,←list_getD_map C]
theorem parts_ok {r:List Int} (h:nfL r) {C:List Nat} (hC:C.Pairwise (· < ·)) (hl:r.length=C.length) {P:List Nat} (hP:P∈partsL r C):P.Pairwise (· < ·)∧1≤P.length∧P.length≤C.length:=by
 obtain ⟨c,hc,rfl⟩:=List.mem_map.1 hP
 have hc:=List.mem_range.1 hc
 refine ⟨?_,?_,?_⟩
 ·rw [List.pairwise_map]
  have:(lblL r r.length c).Pairwise (· < ·):=List.pairwise_lt_range.filter _
  refine (List.Pairwise.and_mem.1 this).imp fun {a b} hab=>?_
  obtain ⟨ha,hb,hlt⟩:=hab
  exact asc_getD hC hlt (by have:=lblL_lt hb;omega)
 ·have hm:=nf_occur h r.length c (Nat.le_refl _) (by rw [List.take_length];exact hc)
  rw [List.take_length] at hm
  obtain ⟨i,hi,e⟩:=List.mem_iff_getElem.1 hm
  have:i∈lblL r r.length c:=lblL_mem.2 ⟨hi,by simp [List.getD_eq_getElem?_getD,List.getElem?_eq_getElem hi,e]⟩
  rw [List.length_map]
  exact List.length_pos_of_mem this
 ·rw [List.length_map]
  have:=List.length_filter_le (fun i=>decide (r.getD i 0=(c:Int))) (List.range r.length)
  unfold lblL
  rw [List.length_range] at this;omega
noncomputable def clsLk (t:Table) (l:Linkage):List (List Nat):=(compsL (RT t l) t.Rows.length).flatMap fun C=>partsL (bestL (wT t l) C) C
theorem flatten_flatMap {α β:Type} (f:α→List (List β)):∀l:List α,(l.flatMap f).flatten=l.flatMap fun x=>(f x).flatten
 | []=>rfl
 | x :: l=>by rw [List.flatMap_cons,List.flatten_append,List.flatMap_cons,flatten_flatMap f l]
theorem flatMap_perm {α β:Type} {f g:α→List β}:∀{l:List α},(∀x∈l,(f x).Perm (g x))→(l.flatMap f).Perm (l.flatMap g)
 | [],_=>.refl _
 | x :: l,h=>by
  rw [List.flatMap_cons,List.flatMap_cons]
  exact (h x (by simp)).append (flatMap_perm fun y hy=>h y (by simp [hy]))
theorem clsN_perm (t:Table) (l:Linkage):(clsLk t l).flatten.Perm (List.range t.Rows.length):=by
 unfold clsLk
 rw [flatten_flatMap]
 have h1:((compsL (RT t l) t.Rows.length).flatMap fun C=>(partsL (bestL (wT t l) C) C).flatten).Perm ((compsL (RT t l) t.Rows.length).flatMap fun C=>C):=by
  refine flatMap_perm fun C hC=>?_
  obtain ⟨c,_,hnf,hbl⟩:=bestL_ok (wT t l) C
  exact parts_perm hnf hbl
 refine h1.trans ?_
 have:((compsL (RT t l) t.Rows.length).flatMap fun C=>C)=(compsL (RT t l) t.Rows.length).flatten:=by simp [List.flatMap]
 rw [this]
 exact compsL_perm (RT_symm t l) _
theorem clsN_ok {t:Table} {l:Linkage} {P:List Nat} (h:P∈clsLk t l):P.Pairwise (· < ·)∧1≤P.length∧(∀x∈P,x < t.Rows.length)∧P.length≤t.Rows.length:=by
 have hm:∀x∈P,x < t.Rows.length:=by
  intro x hx
  have:x∈(clsLk t l).flatten:=List.mem_flatten.2 ⟨P,h,hx⟩
  exact List.mem_range.1 ((clsN_perm t l).mem_iff.1 this)
 unfold clsLk at h
 obtain ⟨C,hC,hP⟩:=List.mem_flatMap.1 h
 obtain ⟨h1,h2,h3,h4⟩:=comp_ok hC
 obtain ⟨c,_,hnf,hbl⟩:=bestL_ok (wT t l) C
 obtain ⟨q1,q2,q3⟩:=parts_ok hnf h1 hbl hP
 exact ⟨q1,q2,hm,by omega⟩
def idsOf (t:Table) (P:List Nat):List Int:=P.map fun i=>(rowT t i).ID
theorem idsOf_all {t:Table}:idsOf t (List.range t.Rows.length)=ids t:=by
 unfold idsOf ids
 refine List.ext_getElem? fun i=>?_
 by_cases hi:i < t.Rows.length
 ·rw [rangeLk _ hi,List.getElem?_map,rowT_get hi];rfl
 ·rw [List.getElem?_eq_none (by simp;omega),List.getElem?_eq_none (by simp;omega)]
theorem id_lt {t:Table} (he:tableErr t=0) {i k:Nat} (hk:k < t.Rows.length) (h:i < k):(rowT t i).ID < (rowT t k).ID:=by
 have hc:=tableErr_code he
 have key:∀(l:List Row) (a:Int),rowsCode t.Attrs.length a l=0→l.Pairwise (fun r q=>r.ID < q.ID)∧∀r∈l,a < r.ID:=by
  intro l
  induction l with
  | nil=>intro a _;simp
  | cons r l ih =>
   intro a h
   have h2:=(rowsCode_zero t.Attrs.length (r :: l) a h).1 r (by simp)
   have h3:rowsCode t.Attrs.length r.ID l=0:=by
    unfold rowsCode at h
    split at h
    ·omega
    ·split at h
     ·omega
     ·split at h
      ·exact h
      ·omega
   obtain ⟨q1,q2⟩:=ih r.ID h3
   refine ⟨List.pairwise_cons.2 ⟨q2,q1⟩,fun x hx=>?_⟩
   rcases List.mem_cons.1 hx with rfl | hx
   ·exact h2.1
   ·have:=q2 x hx;have:=h2.1;omega
 have hp:=(key t.Rows 0 hc).1
 have g1:=rowT_get (show i < t.Rows.length by omega)
 have g2:=rowT_get hk
 rw [List.getElem?_eq_getElem (by omega),Option.some.injEq] at g1
 rw [List.getElem?_eq_getElem hk,Option.some.injEq] at g2
 have:=(List.pairwise_iff_getElem.1 hp) i k (by omega) hk h
 rwa [g1,g2] at this
noncomputable def clsI (t:Table) (l:Linkage):List (List Int):=(clsLk t l).map (idsOf t)
def ltH (a b:List Int):Bool:=decide (a.headD 0 < b.headD 0)
theorem ltH_asym (x y:List Int) (h:ltH x y=true):ltH y x=false:=by
 unfold ltH at *;simp only [decide_eq_true_eq,decide_eq_false_iff_not] at *;omega
theorem ltH_ntr (x y z:List Int) (h1:ltH y x=false) (h2:ltH z y=false):ltH z x=false:=by
 unfold ltH at *;simp only [decide_eq_false_iff_not] at *;omega
def sortC (cs:List (List Int)):List (List Int):=insAll ltH cs
theorem sortC_perm (cs:List (List Int)):(sortC cs).Perm cs:=by
 have:=(insAll_from ltH ltH_asym ltH_ntr cs [] List.Pairwise.nil).1
 simpa [sortC,insAll] using this
theorem sortC_sorted (cs:List (List Int)):(sortC cs).Pairwise fun a b=>ltH b a=false:=(insAll_from ltH ltH_asym ltH_ntr cs [] List.Pairwise.nil).2
def HeadInj (cs:List (List Int)):Prop:=∀a∈cs,∀b∈cs,a.headD 0=b.headD 0→a=b
theorem sortC_unique {cs s:List (List Int)} (hi:HeadInj cs) (hp:s.Perm cs) (hs:s.Pairwise fun a b=>ltH b a=false):s=sortC cs:=by
 refine List.Perm.eq_of_pairwise (le:=fun a b=>ltH b a=false) (fun a b ha hb h1 h2=>?_) hs (sortC_sorted cs) (hp.trans (sortC_perm cs).symm)
 unfold ltH at h1 h2
 simp only [decide_eq_false_iff_not] at h1 h2
 exact hi a (hp.mem_iff.1 ha) b ((sortC_perm cs).mem_iff.1 hb) (by omega)
theorem ltL_head {a b:List Int} (ha:a≠[]) (hb:b≠[]) (h:ltL a b=true):ltH b a=false:=by
 cases a with
 | nil=>exact absurd rfl ha
 | cons x a =>
  cases b with
  | nil=>exact absurd rfl hb
  | cons y b =>
   unfold ltH
   rw [decide_eq_false_iff_not]
   show ¬y < x
   by_cases e:x=y
   ·subst e;exact Int.lt_irrefl _
   ·rw [ltL,if_neg e] at h
    have:=of_decide_eq_true h
    omega
theorem clsI_flat {t:Table} (l:Linkage):(clsI t l).flatten.Perm (ids t):=by
 have:(clsI t l).flatten=idsOf t (clsLk t l).flatten:=by
  unfold clsI idsOf
  rw [List.map_flatten]
 rw [this,←idsOf_all]
 exact (clsN_perm t l).map _
theorem idsOf_asc {t:Table} (he:tableErr t=0) {P:List Nat} (h:P.Pairwise (· < ·)) (hn:∀x∈P,x < t.Rows.length):(idsOf t P).Pairwise (· < ·):=by
 unfold idsOf
 rw [List.pairwise_map]
 refine (List.Pairwise.and_mem.1 h).imp fun {a b} hab=>?_
 exact id_lt he (hn b hab.2.1) hab.2.2
theorem clsI_ok {t:Table} {l:Linkage} (he:tableErr t=0) {c:List Int} (h:c∈clsI t l):c.Pairwise (· < ·)∧1≤c.length∧c.length≤t.Rows.length∧c≠[]:=by
 obtain ⟨P,hP,rfl⟩:=List.mem_map.1 h
 obtain ⟨h1,h2,h3,h4⟩:=clsN_ok hP
 refine ⟨idsOf_asc he h1 h3,by simpa [idsOf] using h2,by simpa [idsOf] using h4,?_⟩
 intro e
 have:=congrArg List.length e
 simp [idsOf] at this
 rw [this] at h2;simp at h2
theorem clsI_nodup {t:Table} (l:Linkage) (he:tableErr t=0):(clsI t l).flatten.Nodup:=(clsI_flat l).nodup_iff.2 (tableErr_zero he).2
theorem apart_of {cs:List (List Int)} (h:cs.flatten.Nodup) {i j:Nat} {a b:List Int} {x:Int} (ha:cs[i]?=some a) (hb:cs[j]?=some b) (hxa:x∈a) (hxb:x∈b):i=j:=by
 unfold List.Nodup at h
 rw [List.pairwise_flatten] at h
 have h2:=List.pairwise_iff_getElem.1 h.2
 obtain ⟨hi,ea⟩:=List.getElem?_eq_some_iff.1 ha
 obtain ⟨hj,eb⟩:=List.getElem?_eq_some_iff.1 hb
 subst ea eb
 rcases Nat.lt_trichotomy i j with q | q | q
 ·exact absurd rfl (h2 i j hi hj q x hxa x hxb)
 ·exact q
 ·exact absurd rfl (h2 j i hj hi q x hxb x hxa)
theorem headInj_of {cs:List (List Int)} (h:cs.flatten.Nodup) (hne:∀c∈cs,c≠[]):HeadInj cs:=by
 intro a ha b hb e
 obtain ⟨i,hi,ea⟩:=List.mem_iff_getElem.1 ha
 obtain ⟨j,hj,eb⟩:=List.mem_iff_getElem.1 hb
 have h1:a.headD 0∈a:=by
  cases a with
  | nil=>exact absurd rfl (hne _ ha)
  | cons x r=>simp
 have h2:b.headD 0∈b:=by
  cases b with
  | nil=>exact absurd rfl (hne _ hb)
  | cons x r=>simp
 have:=apart_of h (i:=i) (j:=j) (by rw [List.getElem?_eq_getElem hi,ea]) (by rw [List.getElem?_eq_getElem hj,eb]) h1 (e ▸ h2)
 subst this
 rw [←ea,←eb]
theorem clsI_inj {t:Table} (l:Linkage) (he:tableErr t=0):HeadInj (clsI t l):=headInj_of (clsI_nodup l he) fun c hc=>(clsI_ok he hc).2.2.2
theorem clsI_len {t:Table} (l:Linkage) (he:tableErr t=0):(clsI t l).length≤t.Rows.length:=by
 have h1:=(clsI_flat (t:=t) l).length_eq
 have key:∀cs:List (List Int),(∀c∈cs,1≤c.length)→cs.length≤cs.flatten.length:=by
  intro cs
  induction cs with
  | nil=>intro _;simp
  | cons c cs ih =>
   intro h
   have h1:=h c (by simp)
   have h2:=ih fun d hd=>h d (by simp [hd])
   rw [List.flatten_cons,List.length_append,List.length_cons];omega
 have:=key (clsI t l) fun c hc=>(clsI_ok he hc).2.1
 rw [h1] at this
 simpa [ids] using this
theorem clsI_nodup2 {t:Table} (l:Linkage) (he:tableErr t=0):(clsI t l).Nodup:=by
 refine List.pairwise_iff_getElem.2 fun i j hi hj hij e=>?_
 have hne:=(clsI_ok he (List.getElem_mem hi)).2.2.2
 have h1:((clsI t l)[i]).headD 0∈(clsI t l)[i]:=by
  cases hq:(clsI t l)[i] with
  | nil=>exact absurd hq hne
  | cons x r=>simp
 have:=apart_of (clsI_nodup l he) (i:=i) (j:=j) (List.getElem?_eq_getElem hi) (List.getElem?_eq_getElem hj) h1 (e ▸ h1)
 omega
theorem sort_p {t:Table} (l:Linkage) (he:tableErr t=0) (hn:t.Rows.length≤6):srtF (fun (a:List Int) (b:List Int)=>slices_Compare_int64 a b) (clsI t l)=some (sortC (clsI t l)):=by
 have hl:=clsI_len l he
 obtain ⟨s,h1,h2,h3⟩:=srtF_lists (clsI t l) (by omega) (fun a ha=>by have:=(clsI_ok he ha).2.2.1;omega) (clsI_nodup2 l he)
 rw [h1]
 congr 1
 refine sortC_unique (clsI_inj l he) h2 ?_
 refine (List.Pairwise.and_mem.1 h3).imp fun {a b} hab=>?_
 obtain ⟨ha,hb,hlt⟩:=hab
 exact ltL_head (clsI_ok he (h2.mem_iff.1 ha)).2.2.2 (clsI_ok he (h2.mem_iff.1 hb)).2.2.2 hlt
theorem LoopF_flat {α β τ:Type} (B:List β×Int→Option (LS (List β×Int) τ)) (L:List α) (f:α→List β) (fin:List β→τ) (M c:Nat) (hM:L.length * c≤M) (hf:∀x∈L,(f x).length≤c)
  (h:∀(k:Nat) out x,L[k]?=some x→out.length+c≤M→B (out,(k:Int))=some (.next (out++f x,((k+1:Nat):Int)))) (he:∀out,B (out,(L.length:Int))=some (.done (fin out))):∀out0:List β,out0.length+L.length * c≤M→LoopF B (out0,0)=some (fin (out0++L.flatMap f)):=by
 intro out0 h0
 have hh:=LoopF_foldl L (fun (b:List β) (k:Int)=>(b,k)) B (fun b x=>b++f x) fin (fun k b=>b.length≤out0.length+k * c) (b0:=out0) (s0:=(out0,0)) rfl (by simp) (by
  intro k b x hx hk hb
  have h1:k * c+c≤L.length * c:=by
   have:=Nat.mul_le_mul_right c (show k+1≤L.length by omega)
   rw [Nat.succ_mul] at this;exact this
  have h2:=hf x (List.mem_of_getElem? hx)
  refine ⟨h k b x hx (by omega),?_⟩
  rw [List.length_append,Nat.succ_mul];omega) (fun b _=>he b)
 rw [hh]
 congr 2
 have key:∀(L:List α) (b:List β),L.foldl (fun b x=>b++f x) b=b++L.flatMap f:=by
  intro L
  induction L with
  | nil=>intro b;simp
  | cons x L ih=>intro b;rw [List.foldl_cons,ih,List.flatMap_cons,List.append_assoc]
 exact key L out0
theorem ids_loop {t:Table} {P:List Nat} (hP:∀x∈P,x < t.Rows.length) (hl:P.length≤1000):LoopF (linkage_Clusters_l12 t (natsI P)) ([],0)=some (idsOf t P):=by
 have hlen:(natsI P).length=P.length:=by simp [natsI]
 have h:=map_loop (linkage_Clusters_l12 t (natsI P)) P (fun i=>(rowT t i).ID) 1000 hl (by
  intro k out x hx hl'
  have hk:=lt_of_get hx
  have hx':(natsI P)[k]?=some (x:Int):=by simp [natsI,hx]
  have hr:roomB (out.length+1) 8=true:=room8 (by omega)
  simp only [linkage_Clusters_l12,if_pos (lt_true hx'),idx_get hx',Option.bind_some,idx_get (rowT_get (hP x (List.mem_of_getElem? hx))),hr,if_true,wrap_nat (show k < 4611686018427387904 by omega)]) (by
  intro out
  rw [←hlen]
  simp only [linkage_Clusters_l12,if_neg (Int.lt_irrefl _)])
 exact h
theorem group_loop {t:Table} {Ps:List (List Nat)} (hP:∀P∈Ps,(∀x∈P,x < t.Rows.length)∧P.length≤1000) (hl:Ps.length≤100) (out:List (List Int)) (ho:out.length≤1000):LoopF (linkage_Clusters_l13 t (Ps.map natsI,0)) (out,0)=some (out++Ps.map (idsOf t)):=by
 have h:=LoopF_flat (linkage_Clusters_l13 t (Ps.map natsI,0)) Ps (fun P=>[idsOf t P]) id 2000 1 (by omega) (fun _ _=>Nat.le_refl _) (by
  intro k out x hx hl'
  have hk:=lt_of_get hx
  have hx':(Ps.map natsI)[k]?=some (natsI x):=by rw [List.getElem?_map,hx];rfl
  have hr:roomB (out.length+1) 24=true:=room24 (by omega)
  obtain ⟨q1,q2⟩:=hP x (List.mem_of_getElem? hx)
  simp only [linkage_Clusters_l13,if_pos (lt_true hx'),idx_get hx',Option.bind_some,ids_loop q1 q2,hr,if_true,wrap_nat (show k < 4611686018427387904 by omega)]) (by
  intro out
  have:(Ps.length:Int)=((Ps.map natsI).length:Int):=by simp
  rw [this]
  simp only [linkage_Clusters_l13,if_neg (Int.lt_irrefl _),id]) out (by omega)
 rw [h]
 congr 2
 simp [List.map_eq_flatMap]
theorem comps_len (t:Table) (l:Linkage):(compsL (RT t l) t.Rows.length).length≤t.Rows.length:=by
 unfold compsL
 rw [List.length_map]
 have:(headsL (RT t l) t.Rows.length).length≤(List.range t.Rows.length).length:=List.length_filter_le _ _
 rwa [List.length_range] at this
theorem parts_len (r:List Int) (C:List Nat):(partsL r C).length=usedN r:=by simp [partsL]
theorem Clusters_p {t:Table} {l:Linkage} (T:LnkT t l) (h0:limC t l=0) (hn:t.Rows.length≤6):linkage_Clusters t l=some (sortC (clsI t l),0):=by
 obtain ⟨M,hM,hMM⟩:=matchMap t l (by omega)
 have hE:=edgesT_len t l (by omega)
 have hcomp:=Components_eq (n:=t.Rows.length) (by omega) (edgesT t l) (by omega) (edgesT_good t l)
 have hcl:=comps_len t l
 have hloop:=LoopF_flat (linkage_Clusters_l14 t M ((compsL (RT t l) t.Rows.length).map natsI,0)) (compsL (RT t l) t.Rows.length) (fun C=>(partsL (bestL (wT t l) C) C).map (idsOf t)) (fun out=>(Sum.inl out:List (List Int) ⊕ (List (List Int)×Int))) 1000 6 (by omega) (by
  intro C hC
  obtain ⟨c,_,hnf,hbl⟩:=bestL_ok (wT t l) C
  have:=nf_used hnf
  have:=(comp_ok hC).2.2.2
  rw [List.length_map,parts_len];omega) (by
  intro k out C hC hl
  have hk:=lt_of_get hC
  have hmem:=List.mem_of_getElem? hC
  obtain ⟨q1,q2,q3,q4⟩:=comp_ok hmem
  have hC':((compsL (RT t l) t.Rows.length).map natsI)[k]?=some (natsI C):=by rw [List.getElem?_map,hC];rfl
  obtain ⟨c,_,hnf,hbl⟩:=bestL_ok (wT t l) C
  have hus:=nf_used hnf
  have hg:=group_loop (t:=t) (Ps:=partsL (bestL (wT t l) C) C) (fun P hP=>by
   refine ⟨fun x hx=>?_,by have:=(parts_ok hnf q1 hbl hP).2.2;omega⟩
   have:x∈(partsL (bestL (wT t l) C) C).flatten:=List.mem_flatten.2 ⟨P,hP,hx⟩
   exact q2 x ((parts_perm hnf hbl).mem_iff.1 this)) (by rw [parts_len];omega) out (by omega)
  simp only [linkage_Clusters_l14,if_pos (lt_true hC'),idx_get hC',Option.bind_some,divide_p hMM q1 q2 q3 (by omega),bne_self_eq_false,Bool.false_eq_true,if_false,hg,wrap_nat (show k < 4611686018427387904 by omega)]) (by
  intro out
  have:((compsL (RT t l) t.Rows.length).length:Int)=(((compsL (RT t l) t.Rows.length).map natsI).length:Int):=by simp
  rw [this]
  simp only [linkage_Clusters_l14,if_neg (Int.lt_irrefl _)]) [] (by simp;omega)
 have hflat:[]++(compsL (RT t l) t.Rows.length).flatMap (fun C=>(partsL (bestL (wT t l) C) C).map (idsOf t))=clsI t l:=by
  unfold clsI clsLk
  rw [List.nil_append,List.map_flatMap]
 rw [hflat] at hloop
 have hm:=matches_p T
 have hm':linkage_matches t l=some (edgesT t l):=hm
 have hcomp':graph_Components (t.Rows.length:Int) (edgesT t l)=some ((compsL (RT t l) t.Rows.length).map natsI,0):=hcomp
 simp only [linkage_Clusters,limits_p t l T.ok T.rule T.rules T.nblock T.nsurv,h0,Option.bind_some,bne_self_eq_false,Bool.false_eq_true,if_false,hm',hM,hcomp',hloop,sort_p l T.err hn]
structure Grp (t:Table) (l:Linkage) (v:Nat) (g:List Int):Prop where
 nodup:g.Nodup
 mem:∀x∈g,∃k,k < t.Rows.length∧x=(rowT t k).ID∧Rch (RT t l) v k
theorem Grp.small {t:Table} {l:Linkage} {v:Nat} {g:List Int} (G:Grp t l v g):g.length≤t.Rows.length:=by
 have:=nodup_sub_len (l':=ids t) G.nodup (by
  intro x hx
  obtain ⟨k,hk,rfl,_⟩:=G.mem x hx
  exact List.mem_map.2 ⟨_,rowT_mem hk,rfl⟩)
 simpa [ids] using this
end Go.Proofs.YtmlegeeinnkhkaaGreat
namespace Go.Ab
open Go
def runL {σ τ:Type} (B:σ→Option (LS σ τ)):Nat→σ→Option τ
 | 0,_=>none
 | n+1,s=>match B s with
  | some (.next s')=>runL B n s'
  | some (.done t)=>some t
  | none=>none
theorem run_some {σ τ:Type} {B:σ→Option (LS σ τ)}:∀(n:Nat) {s:σ} {t:τ},runL B n s=some t→LoopF B s=some t
 | 0,s,t,h=>by simp [runL] at h
 | n+1,s,t,h=>by
  simp only [runL] at h
  split at h
  ·rename_i s' e
   rw [Loop_next e];exact run_some n h
  ·rename_i t' e
   cases h;exact Loop_done e
  ·cases h
theorem addV_congr {W W':Nat→Nat→Int} (l:List Int) (c:Int) {k:Nat} (h:∀i,i < k→W i k=W' i k):addV W l c k=addV W' l c k:=by
 unfold addV
 congr 1
 refine List.map_congr_left fun i hi=>?_
 rw [h i (List.mem_range.1 hi)]
theorem costV_congr {W W':Nat→Nat→Int} (l:List Int) {n:Nat} (h:∀i k,i < k→k < n→W i k=W' i k):costV W l n=costV W' l n:=by
 unfold costV
 congr 1
 refine List.map_congr_left fun k hk=>?_
 exact addV_congr l _ fun i hi=>h i k hi (List.mem_range.1 hk)
theorem optB_congr {W W':Nat→Nat→Int} {n:Nat} (h:∀i k,i < k→k < n→W i k=W' i k):optB W n=optB W' n:=by
 unfold optB
 have:(fun x=>costV W x n)=fun x=>costV W' x n:=by
  funext x;exact costV_congr x h
 rw [this]
end Go.Ab
namespace Go.Proofs.YtmlegeeinnkhkaaGreat
open Go Go.Ab
def t56:Table:=⟨[112],[[110,97,109,101]],[⟨1,[⟨2,0,[97,110,110]⟩]⟩,⟨2,[⟨2,0,[97,110,110,101]⟩]⟩,⟨3,[⟨2,0,[97,110,110,101,115]⟩]⟩,⟨4,[⟨2,0,[98,111,98]⟩]⟩]⟩
def l56:Linkage:=⟨[[⟨0,2,1⟩]],[],[3]⟩
theorem example56:drosslaw56_example=some (t56,l56):=by
 have h:LoopF (drosslaw56_example_l1 [[97,110,110],[97,110,110,101],[97,110,110,101,115],[98,111,98]]) ([],0)=some t56.Rows:=run_some 6 (by decide +kernel)
 simp only [drosslaw56_example,Option.bind_some,h]
 rfl
theorem err56:tableErr t56=0:=by decide +kernel
theorem link56:linkC (t56.Attrs.length:Int) l56=0:=by decide +kernel
theorem lnk56:LnkT t56 l56 where
 err:=err56
 ok:=⟨by decide,by decide,by decide,by unfold Short;decide⟩
 rows:=by decide
 attrs:=by decide
 rules:=by decide
 rule:=by decide
 nblock:=by decide
 nsurv:=by decide
 block:=by intro k hk;cases hk
theorem lim56:limC t56 l56=0:=by
 unfold limC
 rw [if_neg (by rw [err56];simp),if_neg (by rw [link56];simp)]
 rfl
theorem sed01:sed ([97,110,110]:Str) [97,110,110,101]=1:=by simp [sed]
theorem sed02:sed ([97,110,110]:Str) [97,110,110,101,115]=2:=by simp [sed]
theorem sed03:sed ([97,110,110]:Str) [98,111,98]=3:=by simp [sed]
theorem sed12:sed ([97,110,110,101]:Str) [97,110,110,101,115]=1:=by simp [sed]
theorem sed13:sed ([97,110,110,101]:Str) [98,111,98]=4:=by simp [sed]
theorem sed23:sed ([97,110,110,101,115]:Str) [98,111,98]=5:=by simp [sed]
theorem m01:mT t56 l56 0 1=true:=by
 simp [mT,matchLk,compLk,firstI,ruleB,l56,t56,rowT,simR,simCode,vAt,valid,limB,simVal,sed01,posI,List.findIdx?_cons]
theorem m02:mT t56 l56 0 2=false:=by
 simp [mT,matchLk,compLk,firstI,ruleB,l56,t56,rowT,simR,simCode,vAt,valid,limB,simVal,sed02,posI,List.findIdx?_cons]
theorem m03:mT t56 l56 0 3=false:=by
 simp [mT,matchLk,compLk,firstI,ruleB,l56,t56,rowT,simR,simCode,vAt,valid,limB,simVal,sed03,posI,List.findIdx?_cons]
theorem m12:mT t56 l56 1 2=true:=by
 simp [mT,matchLk,compLk,firstI,ruleB,l56,t56,rowT,simR,simCode,vAt,valid,limB,simVal,sed12,posI,List.findIdx?_cons]
theorem m13:mT t56 l56 1 3=false:=by
 simp [mT,matchLk,compLk,firstI,ruleB,l56,t56,rowT,simR,simCode,vAt,valid,limB,simVal,sed13,posI,List.findIdx?_cons]
theorem m23:mT t56 l56 2 3=false:=by
 simp [mT,matchLk,compLk,firstI,ruleB,l56,t56,rowT,simR,simCode,vAt,valid,limB,simVal,sed23,posI,List.findIdx?_cons]
theorem n56:t56.Rows.length=4:=rfl
def b56 (i k:Nat):Bool:=(i == 0 && k == 1) || (i == 1 && k == 2)
theorem mT56:∀i k,i < k→k < 4→mT t56 l56 i k=b56 i k:=by
 intro i k h1 h2
 have hk:k=1∨k=2∨k=3:=by omega
 rcases hk with rfl | rfl | rfl
 ·obtain rfl:i=0:=by omega
  rw [m01];rfl
 ·have hi:i=0∨i=1:=by omega
  rcases hi with rfl | rfl
  ·rw [m02];rfl
  ·rw [m12];rfl
 ·have hi:i=0∨i=1∨i=2:=by omega
  rcases hi with rfl | rfl | rfl
  ·rw [m03];rfl
  ·rw [m13];rfl
  ·rw [m23];rfl
theorem matches56:matchesL t56 l56=[⟨1,2⟩,⟨2,3⟩]:=by
 unfold matchesL
 rw [n56,pairsF_congr (q:=b56) (mk':=fun i k=>Arr2_int64.mk (rowT t56 i).ID (rowT t56 k).ID) (fun i k h1 h2=>⟨mT56 i k h1 h2,rfl⟩)]
 decide +kernel
theorem R56 (u v:Nat):RT t56 l56 u v↔(u=0∧v=1)∨(u=1∧v=2)∨(u=1∧v=0)∨(u=2∧v=1):=by
 rw [RT_iff,n56]
 constructor
 ·rintro (⟨h1,h2,h3⟩ | ⟨h1,h2,h3⟩)
  ·rw [mT56 u v h1 h2] at h3
   simp only [b56,Bool.or_eq_true,Bool.and_eq_true,beq_iff_eq] at h3
   omega
  ·rw [mT56 v u h1 h2] at h3
   simp only [b56,Bool.or_eq_true,Bool.and_eq_true,beq_iff_eq] at h3
   omega
 ·rintro (⟨rfl,rfl⟩ | ⟨rfl,rfl⟩ | ⟨rfl,rfl⟩ | ⟨rfl,rfl⟩)
  ·exact .inl ⟨by omega,by omega,m01⟩
  ·exact .inl ⟨by omega,by omega,m12⟩
  ·exact .inr ⟨by omega,by omega,m01⟩
  ·exact .inr ⟨by omega,by omega,m12⟩
theorem rch56 (u v:Nat) (hu:u < 4):Rch (RT t56 l56) u v↔(u < 3∧v < 3)∨(u=3∧v=3):=by
 constructor
 ·intro h
  refine h.closed (S:=fun v=>(u < 3∧v < 3)∨(u=3∧v=3)) (by omega) fun x y hx hxy=>?_
  rw [R56] at hxy
  omega
 ·have e01:RT t56 l56 0 1:=(R56 0 1).2 (by omega)
  have e12:RT t56 l56 1 2:=(R56 1 2).2 (by omega)
  have e10:RT t56 l56 1 0:=(R56 1 0).2 (by omega)
  have e21:RT t56 l56 2 1:=(R56 2 1).2 (by omega)
  have r1:∀v,v < 3→Rch (RT t56 l56) 1 v:=by
   intro v hv
   have:v=0∨v=1∨v=2:=by omega
   rcases this with rfl | rfl | rfl
   ·exact .step .refl e10
   ·exact .refl
   ·exact .step .refl e12
  rintro (⟨h1,h2⟩ | ⟨rfl,rfl⟩)
  ·have:u=0∨u=1∨u=2:=by omega
   rcases this with rfl | rfl | rfl
   ·exact (Rch.step .refl e01).trans (r1 v h2)
   ·exact r1 v h2
   ·exact (Rch.step .refl e21).trans (r1 v h2)
  ·exact .refl
theorem comps56:compsL (RT t56 l56) 4=[[0,1,2],[3]]:=by
 classical
 have hh:headsL (RT t56 l56) 4=[0,3]:=by
  unfold headsL
  have:∀v,v∈List.range 4→(decide (∀u,u < v→¬Rch (RT t56 l56) u v))=(v == 0 || v == 3):=by
   intro v hv
   have hv:=List.mem_range.1 hv
   rw [Bool.eq_iff_iff,decide_eq_true_eq,Bool.or_eq_true,beq_iff_eq,beq_iff_eq]
   constructor
   ·intro h
    by_cases h0:v=0
    ·exact .inl h0
    ·right
     have:=h 0 (by omega)
     rw [rch56 0 v (by omega)] at this
     omega
   ·intro h u hu
    rw [rch56 u v (by omega)]
    omega
  rw [List.filter_congr this]
  rfl
 have hc:∀v,v < 4→compL (RT t56 l56) 4 v=(List.range 4).filter fun x=>(decide (v < 3) && decide (x < 3)) || (decide (v=3) && decide (x=3)):=by
  intro v hv
  unfold compL
  refine List.filter_congr fun x _=>?_
  rw [Bool.eq_iff_iff,decide_eq_true_eq,rch56 v x hv]
  simp
 unfold compsL
 rw [hh]
 simp only [List.map_cons,List.map_nil,hc 0 (by omega),hc 3 (by omega)]
 rfl
theorem best56a:bestL (wT t56 l56) [0,1,2]=[0,0,0]:=by
 unfold bestL
 rw [optB_congr (W':=fun i k=>if b56 i k then 1 else -1) (fun i k h1 h2=>by
  have h2':k < 3:=h2
  have e:∀j,j < 3→[0,1,2].getD j 0=j:=by
   intro j hj
   have:j=0∨j=1∨j=2:=by omega
   rcases this with rfl | rfl | rfl <;> rfl
  unfold partW wT
  rw [e i (by omega),e k h2',if_neg (by omega),Nat.min_eq_left (by omega),Nat.max_eq_right (by omega),mT56 i k h1 (by omega)])]
 decide +kernel
theorem best56b:bestL (wT t56 l56) [3]=[0]:=by
 unfold bestL
 rw [optB_congr (W':=fun _ _=>0) (fun i k h1 h2=>by
  have h2':k < 1:=h2
  omega)]
 decide +kernel
theorem cls56:sortC (clsI t56 l56)=[[1,2,3],[4]]:=by
 have:clsI t56 l56=[[1,2,3],[4]]:=by
  unfold clsI clsLk
  rw [n56,comps56]
  simp only [List.flatMap_cons,List.flatMap_nil,best56a,best56b]
  decide +kernel
 rw [this]
 decide +kernel
theorem pl3a:LoopF (linkage_places_l3 0 [1,2,3]) ([],0,0)=some (.inl [(1,0),(2,0),(3,0)]):=run_some 5 (by decide +kernel)
theorem pl3b:LoopF (linkage_places_l3 1 [4]) ([(1,0),(2,0),(3,0)],0,0)=some (.inl [(1,0),(2,0),(3,0),(4,1)]):=run_some 5 (by decide +kernel)
theorem places56a:linkage_places [[1,2,3],[4]]=some ([(1,0),(2,0),(3,0),(4,1)],3,true):=by
 have h:LoopF (linkage_places_l4 [[1,2,3],[4]]) ([],0,0)=some (.inl ([(1,0),(2,0),(3,0),(4,1)],3)):=by
  have i0:idx [[1,2,3],[4]] (0:Int)=some [1,2,(3:Int)]:=rfl
  have i1:idx [[1,2,3],[4]] (1:Int)=some [(4:Int)]:=rfl
  rw [Loop_next (s':=([(1,0),(2,0),(3,0)],3,1)) (by
   simp only [linkage_places_l4,i0,Option.bind_some,pl3a];rfl)]
  rw [Loop_next (s':=([(1,0),(2,0),(3,0),(4,1)],3,2)) (by
   simp only [linkage_places_l4,i1,Option.bind_some,pl3b];rfl)]
  exact Loop_done (by simp [linkage_places_l4])
 simp only [linkage_places,h,Option.bind_some]
 decide +kernel
theorem pl3c:LoopF (linkage_places_l3 0 [1,2]) ([],0,0)=some (.inl [(1,0),(2,0)]):=run_some 5 (by decide +kernel)
theorem pl3d:LoopF (linkage_places_l3 1 [3]) ([(1,0),(2,0)],0,0)=some (.inl [(1,0),(2,0),(3,1)]):=run_some 5 (by decide +kernel)
theorem pl3e:LoopF (linkage_places_l3 2 [4]) ([(1,0),(2,0),(3,1)],0,0)=some (.inl [(1,0),(2,0),(3,1),(4,2)]):=run_some 5 (by decide +kernel)
theorem places56b:linkage_places [[1,2],[3],[4]]=some ([(1,0),(2,0),(3,1),(4,2)],1,true):=by
 have h:LoopF (linkage_places_l4 [[1,2],[3],[4]]) ([],0,0)=some (.inl ([(1,0),(2,0),(3,1),(4,2)],1)):=by
  have i0:idx [[1,2],[3],[4]] (0:Int)=some [1,(2:Int)]:=rfl
  have i1:idx [[1,2],[3],[4]] (1:Int)=some [(3:Int)]:=rfl
  have i2:idx [[1,2],[3],[4]] (2:Int)=some [(4:Int)]:=rfl
  rw [Loop_next (s':=([(1,0),(2,0)],1,1)) (by
   simp only [linkage_places_l4,i0,Option.bind_some,pl3c];rfl)]
  rw [Loop_next (s':=([(1,0),(2,0),(3,1)],1,2)) (by
   simp only [linkage_places_l4,i1,Option.bind_some,pl3d];rfl)]
  rw [Loop_next (s':=([(1,0),(2,0),(3,1),(4,2)],1,3)) (by
   simp only [linkage_places_l4,i2,Option.bind_some,pl3e];rfl)]
  exact Loop_done (by simp [linkage_places_l4])
 simp only [linkage_places,h,Option.bind_some]
 decide +kernel
def pa56:List (Int×Int):=[(1,0),(2,0),(3,0),(4,1)]
def pb56:List (Int×Int):=[(1,0),(2,0),(3,1),(4,2)]
theorem prec56:linkage_Precision [[1,2,3],[4]] [[1,2],[3],[4]]=some (ratioN 1 3,0):=by
 have a1:LoopF (linkage_Precision_l3 (pb56,1,true) [1,2,3]) (0,[],0)=some 1:=run_some 5 (by decide +kernel)
 have a2:LoopF (linkage_Precision_l3 (pb56,1,true) [4]) (1,[],0)=some 1:=run_some 5 (by decide +kernel)
 have h:LoopF (linkage_Precision_l4 [[1,2,3],[4]] (pb56,1,true)) (0,0)=some 1:=by
  have i0:idx [[1,2,3],[4]] (0:Int)=some [1,2,(3:Int)]:=rfl
  have i1:idx [[1,2,3],[4]] (1:Int)=some [(4:Int)]:=rfl
  rw [Loop_next (s':=(1,1)) (by simp only [linkage_Precision_l4,i0,Option.bind_some,a1];rfl)]
  rw [Loop_next (s':=(1,2)) (by simp only [linkage_Precision_l4,i1,Option.bind_some,a2];rfl)]
  exact Loop_done (by simp [linkage_Precision_l4])
 have hm:ratio_Make 1 3=some (ratioN 1 3,0):=ratio_Make_nat 1 3 (by omega) (by omega) (by omega)
 have z:((3:Int) == 0)=false:=rfl
 have h':LoopF (linkage_Precision_l4 [[1,2,3],[4]] ([(1,0),(2,0),(3,1),(4,2)],1,true)) (0,0)=some 1:=h
 simp only [linkage_Precision,places56a,places56b,Option.bind_some,if_true,z,Bool.false_eq_true,if_false,h',hm]
theorem prec56b:linkage_Precision [[1,2],[3],[4]] [[1,2,3],[4]]=some (ratioN 1 1,0):=by
 have a1:LoopF (linkage_Precision_l3 (pa56,3,true) [1,2]) (0,[],0)=some 1:=run_some 5 (by decide +kernel)
 have a2:LoopF (linkage_Precision_l3 (pa56,3,true) [3]) (1,[],0)=some 1:=run_some 5 (by decide +kernel)
 have a3:LoopF (linkage_Precision_l3 (pa56,3,true) [4]) (1,[],0)=some 1:=run_some 5 (by decide +kernel)
 have h:LoopF (linkage_Precision_l4 [[1,2],[3],[4]] (pa56,3,true)) (0,0)=some 1:=by
  have i0:idx [[1,2],[3],[4]] (0:Int)=some [1,(2:Int)]:=rfl
  have i1:idx [[1,2],[3],[4]] (1:Int)=some [(3:Int)]:=rfl
  have i2:idx [[1,2],[3],[4]] (2:Int)=some [(4:Int)]:=rfl
  rw [Loop_next (s':=(1,1)) (by simp only [linkage_Precision_l4,i0,Option.bind_some,a1];rfl)]
  rw [Loop_next (s':=(1,2)) (by simp only [linkage_Precision_l4,i1,Option.bind_some,a2];rfl)]
  rw [Loop_next (s':=(1,3)) (by simp only [linkage_Precision_l4,i2,Option.bind_some,a3];rfl)]
  exact Loop_done (by simp [linkage_Precision_l4])
 have hm:ratio_Make 1 1=some (ratioN 1 1,0):=ratio_Make_nat 1 1 (by omega) (by omega) (by omega)
 have z:((1:Int) == 0)=false:=rfl
 have h':LoopF (linkage_Precision_l4 [[1,2],[3],[4]] ([(1,0),(2,0),(3,0),(4,1)],3,true)) (0,0)=some 1:=h
 simp only [linkage_Precision,places56a,places56b,Option.bind_some,if_true,z,Bool.false_eq_true,if_false,h',hm]
theorem awake56:drosslaw56_awake=some true:=by
 have hm:=Matches_p lnk56 lim56
 have hc:=Clusters_p lnk56 lim56 (by rw [n56];omega)
 rw [matches56] at hm
 rw [cls56] at hc
 have hs:drossref56_SamePairs [⟨1,2⟩,⟨2,3⟩] [⟨1,2⟩,⟨2,3⟩]=some true:=by
  rw [SamePairs_eq _ _ (by decide)];rfl
 have hl:drossref55_Lists [[1,2,3],[4]] [[1,2,3],[4]]=some true:=by
  rw [Lists55_eq _ _ (by decide) (by decide)];rfl
 have o1:drossref04_Of 1 3=some (ratioN 1 3):=ref_Of_nat 1 3 (by omega) (by omega) (by omega)
 have o2:drossref04_Of 1 1=some (ratioN 1 1):=ref_Of_nat 1 1 (by omega) (by omega) (by omega)
 have hr:linkage_Recall [[1,2,3],[4]] [[1,2],[3],[4]]=some (ratioN 1 1,0):=by
  simp only [linkage_Recall,prec56b,Option.bind_some]
 simp only [drosslaw56_awake,example56,Option.bind_some,hm,hc,prec56,hr,beq_self_eq_true,if_true,hs,hl,o1,o2,Bool.and_true]
def testC (n:Nat) (x:Drossref56_Test):Similar :=
 ⟨Int.tmod x.Attr (n:Int),1+Int.tmod x.Measure 4,if 1+Int.tmod x.Measure 4=3 then Int.tmod x.Limit 101 else if 1+Int.tmod x.Measure 4=1 then 0 else Int.tmod x.Limit 4⟩
theorem u8_of {n:Int} (h:okI .u8 n):0≤n∧n≤255:=okI_u8 h
theorem tmod_nn {a b:Int} (ha:0≤a) (hb:0 < b):0≤Int.tmod a b∧Int.tmod a b < b:=by
 refine ⟨Int.tmod_nonneg b ha,Int.tmod_lt_of_pos a hb⟩
theorem test_step (n:Nat) (hn:1≤n) (hn2:n≤16) (d:Drossref56_Draft) (i k:Nat) {r:List Drossref56_Test} {x:Drossref56_Test} (hr:d.Rules[i]?=some r) (hx:r[k]?=some x) (hok:okDrossref56_Test x) (out:List Similar) (ho:out.length≤100) (hk:k≤1000) :
  drossref56_Of_l3 (n:Int) d (i:Int) (out,(k:Int))=some (.next (out++[testC n x],((k+1:Nat):Int))):=by
 obtain ⟨h1,h2,h3⟩:=hok
 have a1:=u8_of h1
 have a2:=u8_of h2
 have a3:=u8_of h3
 have hz:¬((n:Int)=0):=by omega
 have hroom:roomB (out.length+1) 24=true:=room24 (by omega)
 have w:=wrap_nat (show k < 4611686018427387904 by omega)
 have m4:=tmod_nn a2.1 (show (0:Int) < 4 by omega)
 have l101:=tmod_nn a3.1 (show (0:Int) < 101 by omega)
 have l4:=tmod_nn a3.1 (show (0:Int) < 4 by omega)
 have w1:IntKind.i64.wrap (Int.tmod x.Measure 4)=Int.tmod x.Measure 4:=wrap_i64 (by omega) (by omega)
 have w2:IntKind.i64.wrap (1+Int.tmod x.Measure 4)=1+Int.tmod x.Measure 4:=wrap_i64 (by omega) (by omega)
 have w3:IntKind.i64.wrap x.Attr=x.Attr:=wrap_i64 (by omega) (by omega)
 have w4:IntKind.i64.wrap (Int.tmod x.Limit 101)=Int.tmod x.Limit 101:=wrap_i64 (by omega) (by omega)
 have w5:IntKind.i64.wrap (Int.tmod x.Limit 4)=Int.tmod x.Limit 4:=wrap_i64 (by omega) (by omega)
 simp only [drossref56_Of_l3,idx_get hr,Option.bind_some,if_pos (lt_true hx),idx_get hx,if_neg hz,w1,w2,w3,w4,w5,hroom,if_true,w,beq_iff_eq]
 unfold testC
 by_cases c1:1+Int.tmod x.Measure 4=1
 ·have c3:¬1+Int.tmod x.Measure 4=3:=by omega
  rw [if_pos c1,if_neg c3,if_neg c3,if_pos c1]
 ·by_cases c3:1+Int.tmod x.Measure 4=3
  ·rw [if_neg c1,if_pos c3,if_pos c3]
  ·rw [if_neg c1,if_neg c3,if_neg c3,if_neg c1]
theorem rule_loop (n:Nat) (hn:1≤n) (hn2:n≤16) (d:Drossref56_Draft) (i:Nat) {r:List Drossref56_Test} (hr:d.Rules[i]?=some r) (hok:∀x∈r,okDrossref56_Test x) (hl:r.length≤3):LoopF (drossref56_Of_l3 (n:Int) d (i:Int)) ([],0)=some (r.map (testC n)) :=
 map_loop _ r (testC n) 50 (by omega) (fun k out x hx ho=>test_step n hn hn2 d i k hr hx (hok x (List.mem_of_getElem? hx)) out (by omega) (by have:=lt_of_get hx;omega)) (fun out=>by
  simp only [drossref56_Of_l3,idx_get hr,Option.bind_some,if_neg (Int.lt_irrefl _)])
def goodD (d:Drossref56_Draft):Bool:=d.Rules.all fun r=>decide (1≤r.length∧r.length≤3)
theorem rules_loop (n:Nat) (hn:1≤n) (hn2:n≤16) (d:Drossref56_Draft) (hok:okDrossref56_Draft d):LoopF (drossref56_Of_l4 (n:Int) d) ([],0)=some (if goodD d then .inl (d.Rules.map fun r=>r.map (testC n)) else .inr (⟨[],[],[]⟩,false)):=by
 have hR:=hok.1
 have key:∀(m k:Nat),k+m=d.Rules.length→LoopF (drossref56_Of_l4 (n:Int) d) ((d.Rules.take k).map (fun r=>r.map (testC n)),(k:Int))=some (if (d.Rules.drop k).all (fun r=>decide (1≤r.length∧r.length≤3)) then .inl (d.Rules.map fun r=>r.map (testC n)) else .inr (⟨[],[],[]⟩,false)):=by
  intro m
  induction m with
  | zero =>
   intro k hk
   obtain rfl:k=d.Rules.length:=by omega
   exact Loop_done (by simp [drossref56_Of_l4])
  | succ m ih =>
   intro k hk
   have hlt:k < d.Rules.length:=by omega
   have hx:d.Rules[k]?=some d.Rules[k]:=List.getElem?_eq_getElem hlt
   have hb:=hR.1
   rw [drop_cons hx,List.all_cons]
   by_cases c1:(d.Rules[k].length:Int) < 1
   ·have:decide (1≤d.Rules[k].length∧d.Rules[k].length≤3)=false:=decide_eq_false (by omega)
    rw [this,Bool.false_and]
    exact Loop_done (by simp only [drossref56_Of_l4,if_pos (lt_true hx),idx_get hx,Option.bind_some,if_pos c1];rfl)
   ·by_cases c2:(d.Rules[k].length:Int) > 3
    ·have:decide (1≤d.Rules[k].length∧d.Rules[k].length≤3)=false:=decide_eq_false (by omega)
     rw [this,Bool.false_and]
     exact Loop_done (by simp only [drossref56_Of_l4,if_pos (lt_true hx),idx_get hx,Option.bind_some,if_neg c1,if_pos c2];rfl)
    ·have:decide (1≤d.Rules[k].length∧d.Rules[k].length≤3)=true:=decide_eq_true (by omega)
     rw [this,Bool.true_and]
     have hr:=rule_loop n hn hn2 d k hx (fun x hxm=>(hR.2 _ (List.mem_of_getElem? hx)).2 x hxm) (by omega)
     have hroom:roomB (((d.Rules.take k).map (fun r=>r.map (testC n))).length+1) 24=true:=by
      unfold roomB
      simp only [List.length_map,List.length_take,decide_eq_true_eq];omega
     rw [Loop_next (s':=((d.Rules.take (k+1)).map (fun r=>r.map (testC n)),((k+1:Nat):Int))) (by
      simp only [drossref56_Of_l4,if_pos (lt_true hx),idx_get hx,Option.bind_some,if_neg c1,if_neg c2,hr,hroom,if_true,wrap_nat (show k < 4611686018427387904 by omega)]
      rw [List.take_add_one,hx,Option.toList_some,List.map_append,List.map_singleton])]
     exact ih (k+1) (by omega)
 have h:=key d.Rules.length 0 (by omega)
 simpa [goodD] using h
theorem testC_ok (n:Nat) (hn:1≤n) {x:Drossref56_Test} (hok:okDrossref56_Test x):codeC (n:Int) (testC n x)=0:=by
 obtain ⟨h1,h2,h3⟩:=hok
 have a1:=u8_of h1
 have a2:=u8_of h2
 have a3:=u8_of h3
 have m4:=tmod_nn a2.1 (show (0:Int) < 4 by omega)
 have l101:=tmod_nn a3.1 (show (0:Int) < 101 by omega)
 have l4:=tmod_nn a3.1 (show (0:Int) < 4 by omega)
 have an:=tmod_nn a1.1 (show (0:Int) < (n:Int) by omega)
 have hlim:limB (testC n x)=true:=by
  unfold limB testC
  simp only
  by_cases c1:1+Int.tmod x.Measure 4=1
  ·have c3:¬1+Int.tmod x.Measure 4=3:=by omega
   rw [if_pos c1,if_neg c3,if_pos c1];rfl
  ·by_cases c3:1+Int.tmod x.Measure 4=3
   ·have c2:¬(1+Int.tmod x.Measure 4=2∨1+Int.tmod x.Measure 4=4):=by omega
    rw [if_neg c1,if_neg c2,if_pos c3,if_pos c3,decide_eq_true_eq];omega
   ·have c2:1+Int.tmod x.Measure 4=2∨1+Int.tmod x.Measure 4=4:=by omega
    rw [if_neg c1,if_pos c2,if_neg c3,if_neg c1,decide_eq_true_eq];omega
 unfold codeC
 rw [if_neg (show ¬((testC n x).Attr < 0∨(testC n x).Attr≥(n:Int)) by unfold testC;simp only;omega),hlim]
 rfl
theorem block_loop (n:Nat) (hn2:n≤16) (d:Drossref56_Draft) (hok:okDrossref56_Draft d):∃B S,LoopF (drossref56_Of_l5 (n:Int) d) ([],[],0)=some (B,S)∧B.Nodup∧(∀x∈B,0≤x∧x < (n:Int))∧B.length≤n∧S.length=n∧∀x∈S,1≤x∧x≤5:=by
 have hS:=hok.2.2
 have key:∀(m k:Nat) (B S:List Int),k+m=n→B.Nodup→(∀x∈B,0≤x∧x < (k:Int))→B.length≤k→S.length=k→(∀x∈S,1≤x∧x≤5) →
   ∃B' S',LoopF (drossref56_Of_l5 (n:Int) d) (B,S,(k:Int))=some (B',S')∧B'.Nodup∧(∀x∈B',0≤x∧x < (n:Int))∧B'.length≤n∧S'.length=n∧∀x∈S',1≤x∧x≤5:=by
  intro m
  induction m with
  | zero =>
   intro k B S hk h1 h2 h3 h4 h5
   obtain rfl:k=n:=by omega
   exact ⟨B,S,Loop_done (by simp only [drossref56_Of_l5,if_neg (Int.lt_irrefl _)]),h1,h2,h3,h4,h5⟩
  | succ m ih =>
   intro k B S hk h1 h2 h3 h4 h5
   have c:((k:Int) < (n:Int)):=by omega
   have w:=wrap_nat (show k < 4611686018427387904 by omega)
   have r1:roomB (B.length+1) 8=true:=room8 (by omega)
   have r2:roomB (S.length+1) 8=true:=room8 (by omega)
   have hneg:¬((k:Int) < 0):=by omega
   obtain ⟨q,hq⟩:∃q:Bool,(show Option Bool from if (k:Int) < 8 then if (k:Int) < 0 then none else some ((Int.tmod (Int.fdiv d.Block (2 ^ (min ((k:Int)).toNat 8))) 2) == 1) else some false)=some q:=by
    by_cases c8:(k:Int) < 8
    ·exact ⟨_,by rw [if_pos c8,if_neg hneg]⟩
    ·exact ⟨false,by rw [if_neg c8]⟩
   have B1:(B++[(k:Int)]).Nodup:=by
    rw [List.nodup_append]
    refine ⟨h1,by simp,?_⟩
    intro a ha b hb e
    rw [List.mem_singleton] at hb
    subst hb;subst e
    have:=h2 _ ha;omega
   have B2:∀x∈B++[(k:Int)],0≤x∧x < ((k+1:Nat):Int):=by
    intro x hx
    rcases List.mem_append.1 hx with h | h
    ·have:=h2 x h;omega
    ·rw [List.mem_singleton] at h;omega
   have B3:∀x∈B,0≤x∧x < ((k+1:Nat):Int):=fun x hx=>by have:=h2 x hx;omega
   have S1:∀y,1≤y∧y≤5→∀x∈S++[y],(1:Int)≤x∧x≤5:=by
    intro y hy x hx
    rcases List.mem_append.1 hx with h | h
    ·exact h5 x h
    ·rw [List.mem_singleton] at h;subst h;exact hy
   have hq':(if (k:Int) < 8 then if (k:Int) < 0 then none else some ((Int.tmod (Int.fdiv d.Block (2 ^ (min ((k:Int)).toNat 8))) 2) == 1) else some false)=some q:=hq
   by_cases cs:(k:Int) < (d.Survive.length:Int)
   ·have hx:d.Survive[k]?=some d.Survive[k]:=List.getElem?_eq_getElem (by omega)
    have hu:=u8_of (hS.2 _ (List.mem_of_getElem? hx))
    have m5:=tmod_nn hu.1 (show (0:Int) < 5 by omega)
    have w1:IntKind.i64.wrap (Int.tmod d.Survive[k] 5)=Int.tmod d.Survive[k] 5:=wrap_i64 (by omega) (by omega)
    have w2:IntKind.i64.wrap (1+Int.tmod d.Survive[k] 5)=1+Int.tmod d.Survive[k] 5:=wrap_i64 (by omega) (by omega)
    cases q with
    | true =>
     obtain ⟨B',S',g1,g2⟩:=ih (k+1) (B++[(k:Int)]) (S++[1+Int.tmod d.Survive[k] 5]) (by omega) B1 B2 (by simp;omega) (by simp;omega) (S1 _ (by omega))
     refine ⟨B',S',?_,g2⟩
     rw [Loop_next (s':=(B++[(k:Int)],S++[1+Int.tmod d.Survive[k] 5],((k+1:Nat):Int))) (by
      simp only [drossref56_Of_l5,if_pos c,hq',Option.bind_some,if_true,r1,r2,if_pos cs,idx_get hx,w1,w2,w])]
     exact g1
    | false =>
     obtain ⟨B',S',g1,g2⟩:=ih (k+1) B (S++[1+Int.tmod d.Survive[k] 5]) (by omega) h1 B3 (by omega) (by simp;omega) (S1 _ (by omega))
     refine ⟨B',S',?_,g2⟩
     rw [Loop_next (s':=(B,S++[1+Int.tmod d.Survive[k] 5],((k+1:Nat):Int))) (by
      simp only [drossref56_Of_l5,if_pos c,hq',Option.bind_some,if_true,Bool.false_eq_true,if_false,r1,r2,if_pos cs,idx_get hx,w1,w2,w])]
     exact g1
   ·cases q with
    | true =>
     obtain ⟨B',S',g1,g2⟩:=ih (k+1) (B++[(k:Int)]) (S++[1]) (by omega) B1 B2 (by simp;omega) (by simp;omega) (S1 _ (by omega))
     refine ⟨B',S',?_,g2⟩
     rw [Loop_next (s':=(B++[(k:Int)],S++[1],((k+1:Nat):Int))) (by
      simp only [drossref56_Of_l5,if_pos c,hq',Option.bind_some,if_true,r1,r2,if_neg cs,w])]
     exact g1
    | false =>
     obtain ⟨B',S',g1,g2⟩:=ih (k+1) B (S++[1]) (by omega) h1 B3 (by omega) (by simp;omega) (S1 _ (by omega))
     refine ⟨B',S',?_,g2⟩
     rw [Loop_next (s':=(B,S++[1],((k+1:Nat):Int))) (by
      simp only [drossref56_Of_l5,if_pos c,hq',Option.bind_some,Bool.false_eq_true,if_false,r1,r2,if_true,if_neg cs,w])]
     exact g1
 obtain ⟨B,S,g⟩:=key n 0 [] [] (by omega) (by simp) (by simp) (by simp) rfl (by simp)
 exact ⟨B,S,by simpa using g⟩
theorem firstE_zero {α:Type} {f:α→Int}:∀{l:List α},(∀x∈l,f x=0)→firstE f l=0
 | [],_=>rfl
 | x :: l,h=>by
  have h1:=h x List.mem_cons_self
  unfold firstE
  rw [if_neg (by simp [h1])]
  exact firstE_zero fun y hy=>h y (List.mem_cons_of_mem _ hy)
structure Made (t:Table) (l:Linkage):Prop where
 good:Good t
 ok:okTable t
 n1:1≤t.Attrs.length
 lnk:LnkT t l
 lim:limC t l=0
 rows:t.Rows.length≤6
 rules:l.Rules.length≤8
 nb:l.Block.length≤16
 surv:l.Survive.length=t.Attrs.length
 survs:∀x∈l.Survive,1≤x∧x≤5
def rulesD (n:Nat) (d:Drossref56_Draft):List (List Similar):=d.Rules.map fun r=>r.map (testC n)
theorem Of56_eq (n:Nat) (hn:1≤n) (hn2:n≤16) (d:Drossref56_Draft) (hok:okDrossref56_Draft d):∃B S,LoopF (drossref56_Of_l5 (n:Int) d) ([],[],0)=some (B,S)∧B.Nodup∧(∀x∈B,0≤x∧x < (n:Int))∧B.length≤n∧S.length=n∧(∀x∈S,1≤x∧x≤5) ∧
  drossref56_Of (n:Int) d=some (if goodD d then (⟨rulesD n d,B,S⟩,decide (d.Rules.length≤4)) else (⟨[],[],[]⟩,false)):=by
 obtain ⟨B,S,h,h1,h2,h3,h4,h5⟩:=block_loop n hn2 d hok
 refine ⟨B,S,h,h1,h2,h3,h4,h5,?_⟩
 simp only [drossref56_Of,rules_loop n hn hn2 d hok,Option.bind_some]
 cases goodD d with
 | true =>
  have e:(decide ((d.Rules.length:Int)≤4))=decide (d.Rules.length≤4):=decide_eq_decide.2 (by omega)
  simp only [if_true,h,Option.bind_some,e];rfl
 | false=>simp
theorem draft_ok (n:Nat) (hn:1≤n) (hn2:n≤16) (d:Drossref56_Draft) (hok:okDrossref56_Draft d) (hg:goodD d=true) (hl:d.Rules.length≤8) {B S:List Int} (h1:B.Nodup) (h2:∀x∈B,0≤x∧x < (n:Int)) (h4:S.length=n) (h5:∀x∈S,1≤x∧x≤5):linkC (n:Int) ⟨rulesD n d,B,S⟩=0:=by
 have hg':∀r∈d.Rules,1≤r.length∧r.length≤3:=fun r hr=>of_decide_eq_true (List.all_eq_true.1 hg r hr)
 have e1:firstE (ruleC (n:Int)) (rulesD n d)=0:=by
  refine firstE_zero fun r hr=>?_
  obtain ⟨q,hq,rfl⟩:=List.mem_map.1 hr
  have:=hg' q hq
  unfold ruleC
  rw [if_neg (by rw [List.length_map];omega)]
  refine firstE_zero fun c hc=>?_
  obtain ⟨x,hx,rfl⟩:=List.mem_map.1 hc
  exact testC_ok n hn ((hok.1.2 q hq).2 x hx)
 have e2:blockC (n:Int) B=0:=by
  unfold blockC
  rw [if_neg (by
   rw [List.any_eq_true]
   rintro ⟨x,hx,h⟩
   have:=h2 x hx
   have h:=of_decide_eq_true h
   omega),if_pos h1]
 unfold linkC
 have a1:¬((n:Int) < 0∨(n:Int) > 16):=by omega
 have a2:¬(rulesD n d).length > 8:=by rw [rulesD,List.length_map];omega
 have a3:¬(S.any (fun x=>decide (x < 1∨x > 5)))=true:=by
  rw [List.any_eq_true]
  rintro ⟨x,hx,h⟩
  have:=h5 x hx
  have h:=of_decide_eq_true h
  omega
 simp only [if_neg a1,if_neg a2,e1,e2,ne_eq,not_true,if_false,h4,if_neg a3]
theorem made_of {t:Table} (G:Good t) (ht:okTable t) (n1:1≤t.Attrs.length) (hr:t.Rows.length≤6) (d:Drossref56_Draft) (hok:okDrossref56_Draft d) (hg:goodD d=true) (hl:d.Rules.length≤8) {B S:List Int} (h1:B.Nodup) (h2:∀x∈B,0≤x∧x < (t.Attrs.length:Int)) (h3:B.length≤t.Attrs.length) (h4:S.length=t.Attrs.length) (h5:∀x∈S,1≤x∧x≤5):Made t ⟨rulesD t.Attrs.length d,B,S⟩:=by
 have hn:=G.attrs
 have hg':∀r∈d.Rules,1≤r.length∧r.length≤3:=fun r hr=>of_decide_eq_true (List.all_eq_true.1 hg r hr)
 refine ⟨G,ht,n1,⟨G.err,G.ok,by omega,by omega,?_,?_,?_,?_,h2⟩,?_,hr,?_,?_,h4,h5⟩
 ·simp only [rulesD,List.length_map];omega
 ·intro r hr
  obtain ⟨q,hq,rfl⟩:=List.mem_map.1 hr
  have:=hg' q hq
  rw [List.length_map];omega
 ·simp only;omega
 ·simp only;omega
 ·unfold limC
  rw [draft_ok t.Attrs.length n1 (by omega) d hok hg hl h1 h2 h4 h5,G.err]
  simp only [ne_eq,not_true,if_false]
  rw [if_neg (by omega)]
 ·simp only [rulesD,List.length_map];omega
 ·simp only;omega
theorem recipe6 (x:Drossref03_Recipe) (h:okDrossref03_Recipe x):drossref03_Table x 6=some (⟨[],[],[]⟩,false)∨∃t,drossref03_Table x 6=some (t,true)∧okTable t∧Good t∧t.Rows.length≤6∧t.Attrs.length≤5:=by
 by_cases hr:x.Rows.length≤6
 ·right
  obtain ⟨ha,hg,hl⟩:=h
  have ha':=u8_of ha
  have hg':=u8_of hg
  have h1:¬((x.Rows.length:Int) > 6):=by omega
  have hm:Int.tmod x.Attrs 6=((x.Attrs.toNat % 6:Nat):Int):=by
   rw [Int.tmod_eq_emod_of_nonneg ha'.1];omega
  have e1:IntKind.i64.wrap (Int.tmod x.Attrs 6)=((x.Attrs.toNat % 6:Nat):Int):=by rw [hm,wrap_i64 (by omega) (by omega)]
  refine ⟨wide x (x.Attrs.toNat % 6),?_,wide_ok _ _ (by omega) (by omega),recipe_good x (by omega),?_,?_⟩
  ·simp only [drossref03_Table,if_neg h1,e1,Wide_eq x (x.Attrs.toNat % 6) (by omega) (by omega) (fun r hr=>(hl.2 r hr).1) hg',Option.bind_some]
  ·simp only [wide,List.length_map,List.length_range];exact hr
  ·simp only [wide,List.length_take];omega
 ·left
  simp only [drossref03_Table,if_pos (show (x.Rows.length:Int) > 6 by omega)]
theorem of56 (x:Drossref03_Recipe) (d:Drossref56_Draft) (hx:okDrossref03_Recipe x) (hd:okDrossref56_Draft d) :
  (∃t l,drosslaw56_of x d=some (t,l,false))∨∃t B S,drosslaw56_of x d=some (t,⟨rulesD t.Attrs.length d,B,S⟩,true)∧Made t ⟨rulesD t.Attrs.length d,B,S⟩∧goodD d=true∧d.Rules.length≤4∧LoopF (drossref56_Of_l5 (t.Attrs.length:Int) d) ([],[],0)=some (B,S):=by
 rcases recipe6 x hx with h | ⟨t,h,ht,G,hr,hn⟩
 ·left
  exact ⟨⟨[],[],[]⟩,⟨[],[],[]⟩,by simp [drosslaw56_of,h]⟩
 ·by_cases n0:t.Attrs.length=0
  ·left
   exact ⟨⟨[],[],[]⟩,⟨[],[],[]⟩,by simp [drosslaw56_of,h,n0]⟩
  ·obtain ⟨B,S,hL,h1,h2,h3,h4,h5,e⟩:=Of56_eq t.Attrs.length (by omega) (by omega) d hd
   have z:((t.Attrs.length:Int) == 0)=false:=beq_eq_false_iff_ne.2 (by omega)
   by_cases hg:goodD d=true
   ·by_cases hl:d.Rules.length≤4
    ·right
     refine ⟨t,B,S,?_,made_of G ht (by omega) hr d hd hg (by omega) h1 h2 h3 h4 h5,hg,hl,hL⟩
     simp only [drosslaw56_of,h,Option.bind_some,if_true,z,Bool.false_eq_true,if_false,e,if_pos hg,decide_eq_true hl]
    ·left
     exact ⟨t,⟨rulesD t.Attrs.length d,B,S⟩,by simp only [drosslaw56_of,h,Option.bind_some,if_true,z,Bool.false_eq_true,if_false,e,if_pos hg,decide_eq_false hl]⟩
   ·left
    exact ⟨t,⟨[],[],[]⟩,by simp only [drosslaw56_of,h,Option.bind_some,if_true,z,Bool.false_eq_true,if_false,e,if_neg hg]⟩
theorem cls_comp {t:Table} {l:Linkage} {P:List Nat} (hP:P∈clsLk t l):∃C∈compsL (RT t l) t.Rows.length,P∈partsL (bestL (wT t l) C) C∧∀x∈P,x∈C:=by
 obtain ⟨C,hC,h⟩:=List.mem_flatMap.1 hP
 obtain ⟨c,_,hn,hl⟩:=bestL_ok (wT t l) C
 refine ⟨C,hC,h,fun x hx=>?_⟩
 exact (parts_perm hn hl).mem_iff.1 (List.mem_flatten.2 ⟨P,h,hx⟩)
theorem more_inner (r:List Arr2_int64×Int) (x:Arr2_int64) (hl:r.1.length≤1000000):∀(d k:Nat) (f:Bool),k+d=r.1.length→LoopF (drosslaw56_LinkageMore_l3 r x) (f,(k:Int))=some (f || (r.1.drop k).any fun y=>decide (x=y)):=by
 intro d
 induction d with
 | zero =>
  intro k f hk
  obtain rfl:k=r.1.length:=by omega
  rw [List.drop_length]
  exact Loop_done (by simp only [drosslaw56_LinkageMore_l3,if_neg (Int.lt_irrefl _)];simp)
 | succ d ih =>
  intro k f hk
  have hx:r.1[k]?=some r.1[k]:=List.getElem?_eq_getElem (by omega)
  have w:=wrap_nat (show k < 4611686018427387904 by omega)
  have e:((x.x0 == r.1[k].x0) && (x.x1 == r.1[k].x1))=decide (x=r.1[k]):=by
   rw [Bool.eq_iff_iff,Bool.and_eq_true,beq_iff_eq,beq_iff_eq,decide_eq_true_eq]
   constructor
   ·rintro ⟨a,b⟩
    cases x;cases h:r.1[k];rw [h] at a b;simp only at a b;rw [a,b]
   ·intro h;rw [h];simp
  rw [drop_cons hx,List.any_cons]
  cases f with
  | true =>
   rw [Loop_next (s':=(true,((k+1:Nat):Int))) (by simp only [drosslaw56_LinkageMore_l3,if_pos (lt_true hx),idx_get hx,Option.bind_some,if_true,w])]
   rw [ih (k+1) true (by omega)];simp
  | false =>
   rw [Loop_next (s':=(decide (x=r.1[k]),((k+1:Nat):Int))) (by simp only [drosslaw56_LinkageMore_l3,if_pos (lt_true hx),idx_get hx,Option.bind_some,Bool.false_eq_true,if_false,e,w])]
   rw [ih (k+1) _ (by omega),Bool.false_or]
theorem more_outer (a b:List Arr2_int64) (ha:a.length≤1000000) (hb:b.length≤1000000) (hs:∀x∈a,x∈b):∀(d k:Nat),k+d=a.length→LoopF (drosslaw56_LinkageMore_l4 (a,0) (b,0)) (k:Int)=some (.inl ()):=by
 intro d
 induction d with
 | zero =>
  intro k hk
  obtain rfl:k=a.length:=by omega
  exact Loop_done (by simp only [drosslaw56_LinkageMore_l4,if_neg (Int.lt_irrefl _)])
 | succ d ih =>
  intro k hk
  have hx:a[k]?=some a[k]:=List.getElem?_eq_getElem (by omega)
  have w:=wrap_nat (show k < 4611686018427387904 by omega)
  have hi:=more_inner (b,0) a[k] hb b.length 0 false (by simp)
  have ht:(b.any fun y=>decide (a[k]=y))=true:=List.any_eq_true.2 ⟨a[k],hs _ (List.mem_of_getElem? hx),decide_eq_true rfl⟩
  simp only [Int.natCast_zero,List.drop_zero,Bool.false_or,ht] at hi
  rw [Loop_next (s':=((k+1:Nat):Int)) (by simp only [drosslaw56_LinkageMore_l4,if_pos (lt_true hx),idx_get hx,Option.bind_some,hi,if_true,w])]
  exact ih (k+1) (by omega)
theorem posI_some {o:Option Nat}:posI o≥0↔o.isSome=true:=by
 cases o <;> simp [posI]
theorem match_more {l l':Linkage} (hb:l'.Block=l.Block) (hr:∀r∈l.Rules,r∈l'.Rules) {a b:Row} (h:matchLk l a b=true):matchLk l' a b=true:=by
 unfold matchLk compLk firstI at h ⊢
 rw [Bool.and_eq_true,decide_eq_true_eq,posI_some,List.findIdx?_isSome,List.any_eq_true] at h ⊢
 rw [hb]
 obtain ⟨h1,r,hm,h2⟩:=h
 exact ⟨h1,r,hr r hm,h2⟩
theorem matches_more {t:Table} {l l':Linkage} (hb:l'.Block=l.Block) (hr:∀r∈l.Rules,r∈l'.Rules):∀x∈matchesL t l,x∈matchesL t l':=by
 intro x hx
 unfold matchesL at hx ⊢
 rw [mem_pairsF] at hx ⊢
 obtain ⟨i,k,h1,h2,h3,h4⟩:=hx
 exact ⟨i,k,h1,h2,match_more hb hr h3,h4⟩
theorem no_rules {t:Table} {l:Linkage} (he:tableErr t=0) (h:l.Rules=[]):(sortC (clsI t l)).length=t.Rows.length:=by
 have hmt:∀i k,mT t l i k=false:=fun i k=>by
  unfold mT matchLk firstI
  rw [h]
  simp [posI]
 have hR:∀u v,¬RT t l u v:=fun u v hr=>by
  rw [RT_iff] at hr
  simp [hmt] at hr
 have hone:∀P∈clsLk t l,P.length=1:=fun P hP=>by
  obtain ⟨C,hC,_,hs⟩:=cls_comp hP
  obtain ⟨v,hv,rfl⟩:=List.mem_map.1 hC
  obtain ⟨h1,h2,_,_⟩:=clsN_ok hP
  have hall:∀x∈P,x=v:=fun x hx=>by
   have:=(mem_compL.1 (hs x hx)).2
   cases this with
   | refl=>rfl
   | step _ h=>exact absurd h (hR _ _)
  match P,h1,h2,hall with
  | [_],_,_,_=>rfl
  | a :: b :: r,h1,_,hall =>
   have:=(List.pairwise_cons.1 h1).1 b (by simp)
   have:=hall a (by simp)
   have:=hall b (by simp)
   omega
 have hl:=(clsN_perm t l).length_eq
 rw [List.length_range] at hl
 have key:∀L:List (List Nat),(∀P∈L,P.length=1)→L.flatten.length=L.length:=by
  intro L
  induction L with
  | nil=>intro _;rfl
  | cons a L ih =>
   intro h
   rw [List.flatten_cons,List.length_append,h a List.mem_cons_self,ih fun P hP=>h P (List.mem_cons_of_mem _ hP),List.length_cons];omega
 rw [key _ hone] at hl
 rw [(sortC_perm (clsI t l)).length_eq]
 unfold clsI
 rw [List.length_map];exact hl
theorem matchesL_len {t:Table} (l:Linkage) (h:t.Rows.length≤6):(matchesL t l).length≤1000000:=by
 have h1:=pairsF_len t.Rows.length (mT t l) (fun i k=>Arr2_int64.mk (rowT t i).ID (rowT t k).ID)
 have h2:t.Rows.length * t.Rows.length≤6 * 6:=Nat.mul_le_mul h h
 unfold matchesL;omega
theorem LinkageMore_holds (x:Drossref03_Recipe) (d:Drossref56_Draft) (m:Drossref56_Test) (hx:okDrossref03_Recipe x) (hd:okDrossref56_Draft d) (hm:okDrossref56_Test m):drosslaw56_LinkageMore x d m=some true:=by
 rcases of56 x d hx hd with ⟨t,l,h⟩ | ⟨t,B,S,h,M,hg,hl4,hL⟩
 ·simp only [drosslaw56_LinkageMore,h,awake56,Option.bind_some,if_true,Bool.not_false]
 ·have he:=M.good.err
  have hn:=M.good.attrs
  by_cases h0:(rulesD t.Attrs.length d).length=0
  ·have z:(((rulesD t.Attrs.length d).length:Int) == 0)=true:=by simp [h0]
   have hc:=no_rules (t:=t) (l:=⟨rulesD t.Attrs.length d,B,S⟩) he (List.eq_nil_of_length_eq_zero h0)
   simp only [drosslaw56_LinkageMore,h,awake56,Option.bind_some,if_true,Bool.not_true,Bool.false_eq_true,if_false,z,Clusters_p M.lnk M.lim M.rows,beq_self_eq_true,hc]
  ·have z:(((rulesD t.Attrs.length d).length:Int) == 0)=false:=beq_eq_false_iff_ne.2 (by omega)
   have hd':okDrossref56_Draft ⟨d.Rules++[[m]],d.Block,d.Survive⟩:=by
    refine ⟨⟨by simp only [List.length_append,List.length_singleton];omega,fun r hr=>?_⟩,hd.2.1,hd.2.2⟩
    rcases List.mem_append.1 hr with hr | hr
    ·exact hd.1.2 r hr
    ·rw [List.mem_singleton] at hr
     subst hr
     exact ⟨by simp,fun y hy=>by rw [List.mem_singleton] at hy;subst hy;exact hm⟩
   obtain ⟨B',S',hL',h1,h2,h3,h4,h5,e⟩:=Of56_eq t.Attrs.length M.n1 (by omega) ⟨d.Rules++[[m]],d.Block,d.Survive⟩ hd'
   have hsame:LoopF (drossref56_Of_l5 (t.Attrs.length:Int) ⟨d.Rules++[[m]],d.Block,d.Survive⟩) ([],[],0)=LoopF (drossref56_Of_l5 (t.Attrs.length:Int) d) ([],[],0):=rfl
   rw [hsame,hL] at hL'
   simp only [Option.some.injEq,Prod.mk.injEq] at hL'
   obtain ⟨rfl,rfl⟩:=hL'
   have hg':goodD ⟨d.Rules++[[m]],d.Block,d.Survive⟩=true:=by
    unfold goodD at hg ⊢
    rw [List.all_append,hg];rfl
   rw [if_pos hg'] at e
   have hl':(d.Rules++[[m]]).length≤8:=by rw [List.length_append,List.length_singleton];omega
   have M':=made_of M.good M.ok M.n1 M.rows ⟨d.Rules++[[m]],d.Block,d.Survive⟩ hd' hg' hl' h1 h2 h3 h4 h5
   have r1:roomB d.Rules.length 24=true:=room24 (by omega)
   have r2:roomB (d.Rules.length+1) 24=true:=room24 (by omega)
   have sub:=matches_more (t:=t) (l:=⟨rulesD t.Attrs.length d,B,S⟩) (l':=⟨rulesD t.Attrs.length ⟨d.Rules++[[m]],d.Block,d.Survive⟩,B,S⟩) rfl (fun r hr=>by
    unfold rulesD at hr ⊢
    simp only [List.map_append]
    exact List.mem_append.2 (Or.inl hr))
   have hloop:=more_outer _ _ (matchesL_len _ M.rows) (matchesL_len _ M.rows) sub (matchesL t ⟨rulesD t.Attrs.length d,B,S⟩).length 0 (by omega)
   simp only [Int.natCast_zero] at hloop
   simp only [drosslaw56_LinkageMore,h,awake56,Option.bind_some,if_true,Bool.not_true,Bool.false_eq_true,if_false,z,r1,r2,e,Matches_p M.lnk M.lim,Matches_p M'.lnk M'.lim,hloop,beq_self_eq_true]
   split <;> rfl
end Go.Proofs.YtmlegeeinnkhkaaGreat
