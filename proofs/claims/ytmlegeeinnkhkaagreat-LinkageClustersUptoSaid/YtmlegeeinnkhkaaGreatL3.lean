/- The Lean functions that the program's functions are lifted to, and the plain laws about them. -/
import Derived.Test.YtmlegeeinnkhkaaGreatL2
set_option linter.unusedVariables false
set_option linter.unusedSimpArgs false
open Bool renaming and_eq_true→vti,eq_iff_iff→vxj,false_eq_true→vtk,or_eq_true→vtn
open Int renaming lt_irrefl→vyu,natCast_zero→vxn,tmod→vxq,toNat_natCast→vxr
open Go.IntKind renaming i64→vxs
open List renaming all_eq_true→vv7,any_eq_true→vv9,filter_congr→vz6,findIdx?_cons→vx0,flatMap_cons→vwc,flatMap_nil→vz7,foldl_append→vz8,foldl_cons→vx1,getD_eq_getElem?_getD→vwd,getElem?_append_right→vt3,getElem?_eq_getElem→vt5,getElem?_eq_none→vt6,getElem?_map→vt8,length_map→vuf,length_range→vwp,length_set→vui,length_take→vuj,map_congr_left→vws,map_eq_nil_iff→vz9,mem_append→vun,mem_flatMap→vuo,mem_map→vwz,mem_of_getElem?→vup,mem_of_mem_take→vur,mem_range→vw1,mem_singleton→vw2,range→vuv,range'→vw4,take_add_one→vyh,take_of_length_le→vu1
open Nat renaming max_eq_right→v0a,min_eq_left→vw8
open Option renaming bind_some→vvn,toList_some→vz5
noncomputable section
namespace Go.Proofs.YtmlegeeinnkhkaaGreat
open Go Go.Ab
theorem vbr {t:Table} (he:qbe t=0) {C:List Nat} (hC:C.Pairwise (· < ·)) (hn:∀x∈C,x < t.Rows.length):q2b t (qeh t C)=C.map (qe9 t):=by
 have hrows:t.Rows=(vuv t.Rows.length).map (qe9 t):=by
  refine List.ext_getElem? fun i=>?_
  by_cases hi:i < t.Rows.length
  ·rw [qjs _ hi,qgt hi]
  ·rw [vt6 (by omega),vt6 (by simp;omega)]
 have h1:q2b t (qeh t C)=((vuv t.Rows.length).filter fun i=>decide (i∈C)).map (qe9 t):=by
  unfold q2b
  conv=>lhs;rw [hrows]
  rw [List.filter_map];congr 1;refine vz6 fun i hi=>?_
  have hi:=vw1.1 hi;simp only [Function.comp];rw [vxj,decide_eq_true_eq,decide_eq_true_eq];unfold qeh;rw [vwz];constructor
  ·rintro ⟨k,hk,e⟩;have:=vkl he (hn k hk) hi e;subst this;exact hk
  ·intro h;exact ⟨i,h,rfl⟩
 rw [h1];congr 1;have hs:((vuv t.Rows.length).filter fun i=>decide (i∈C)).Pairwise (· < ·):=List.pairwise_lt_range.filter _;refine List.Perm.eq_of_pairwise (le:=fun a b=>a < b) (fun a b _ _ h1 h2=>by omega) hs hC (qut (hs.imp fun h=>Nat.ne_of_lt h) (hC.imp fun h=>Nat.ne_of_lt h) fun x=>?_);rw [List.mem_filter,vw1,decide_eq_true_eq];exact ⟨fun h=>h.2,fun h=>⟨hn x h,h⟩⟩
theorem vn8 {t:Table} {l:Linkage} (T:LnkT t l) {C:List Nat} (hC:C.Pairwise (· < ·)) (hCn:∀x∈C,x < t.Rows.length) (hn:C.length≤6):qh3 t l (qeh t C)=some (qaz (qk3 (wT t l) C) C.length):=by
 have hat:=T.attrs;have hrw:=T.rows;have hk:=vnn t (qeh t C) (by omega) (by omega) (fun r hr=>by have:=qv2 T.err hr;omega) (by simp [qeh];omega);rw [vbr T.err hC hCn] at hk;have hlen:(C.map (qe9 t)).length=C.length:=by simp
 have qay:∀i,i < C.length→(C.map (qe9 t))[i]?=some (qe9 t (C.getD i 0)):=by
  intro i hi;rw [vt8,vt5 hi];simp [vwd,vt5 hi]
 have hmem:∀i,i < C.length→C.getD i 0 < t.Rows.length:=fun i hi=>hCn _ (vup (i:=i) (by simp [vwd,vt5 hi]))
 have qr9:∀(r:Table),r.Rows=C.map (qe9 t)→∀(i:Nat),i < C.length→∀(d k:Nat) (out:List Pair),i < k→k+d=C.length→out.length+d≤1000→qae (qd5 l r (i:Int)) (out,(k:Int))=some (out++(vw4 k d).flatMap fun (j:Nat)=>[(⟨(i:Int),(j:Int),qk3 (wT t l) C i j⟩:Pair)]):=by
  intro r hr i hi d
  induction d with
  | zero =>
   intro k out _ hk _;have c:¬((k:Int) < (r.Rows.length:Int)):=by rw [hr,hlen];omega
   rw [qad (t:=out) (by simp only [qd5,if_neg c])];simp
  | succ d ih =>
   intro k out hik hk hl;have hk':k < C.length:=by omega
   have c:((k:Int) < (r.Rows.length:Int)):=by rw [hr,hlen];omega
   have hrm:qao (out.length+1) 24=true:=q0h (by omega);have hlt:=q2m hC hik hk';have w:=wqn k;have gi:idx r.Rows (i:Int)=some (qe9 t (C.getD i 0)):=by rw [hr];exact qaa (qay i hi)
   have gk:idx r.Rows (k:Int)=some (qe9 t (C.getD k 0)):=by rw [hr];exact qaa (qay k hk')
   have hm:=vff T (qly (hmem i hi)) (qly (hmem k hk')) (vns T.err (hmem i hi) (hmem k hk') (by omega));have hm':qez (qe9 t (C.getD i 0)) (qe9 t (C.getD k 0)) l=some (mT t l (C.getD i 0) (C.getD k 0)):=hm;have hw:qk3 (wT t l) C i k=if mT t l (C.getD i 0) (C.getD k 0)=true then 1 else -1:=by
    unfold qk3 wT;rw [if_neg (by omega),vw8 (by omega),v0a (by omega)]
   have hb:qd5 l r (i:Int) (out,(k:Int))=some (.next (out++[(⟨(i:Int),(k:Int),qk3 (wT t l) C i k⟩:Pair)],((k+1:Nat):Int))):=by
    simp only [qd5,if_pos c,gi,gk,vvn,hm',hrm,if_true,w,hw];cases mT t l (C.getD i 0) (C.getD k 0) <;> rfl
   rw [qac hb,ih (k+1) _ (by omega) (by omega) (by rw [List.length_append,List.length_singleton];omega),List.range'_succ,vwc,List.append_assoc]
 have outer:∀(r:Table),r.Rows=C.map (qe9 t)→qae (qd6 l r) ([],0)=some (qaz (qk3 (wT t l) C) C.length):=by
  intro r hr;have o:=qiz (qd6 l r) (fun i=>(vw4 (i+1) (C.length - (i+1))).flatMap fun (k:Nat)=>if true=true then [(⟨(i:Int),(k:Int),qk3 (wT t l) C i k⟩:Pair)] else []) C.length 100 6 (by
   intro i out hi hl;have c:((i:Int) < (r.Rows.length:Int)):=by rw [hr,hlen];omega
   have w:=wqn i;have hin:=qr9 r hr i hi (C.length - (i+1)) (i+1) out (by omega) (by omega) (by omega);simp only [qd6,if_pos c,w,hin,vvn,if_true]) (by
   intro i _;have:=qjr (fun (k:Nat)=>if true=true then [(⟨(i:Int),(k:Int),qk3 (wT t l) C i k⟩:Pair)] else []) 1 (vw4 (i+1) (C.length - (i+1))) (fun k _=>by simp);rw [List.length_range'] at this;omega) (by
   intro out;have c:¬((C.length:Int) < (r.Rows.length:Int)):=by rw [hr,hlen];omega
   simp only [qd6,if_neg c]) C.length 0 [] (by omega) (by simp;omega)
  simp only [vxn,List.nil_append] at o;exact o
 have ho:=outer ⟨t.Name,t.Attrs,C.map (qe9 t)⟩ rfl;simp only [qh3,hk.2,vvn,ho]
theorem q71 (P:List Pair) (hP:P.length≤1000) (i k:Int):∃w b,qfi P i k=some (w,b):=by
 have key:∀(d m:Nat),m+d=P.length→∃o,qae (qcj P i k) (m:Int)=some o:=by
  intro d
  induction d with
  | zero =>
   intro m hm;obtain rfl:m=P.length:=by omega
   exact ⟨.inl (),qad (by simp only [qcj,if_neg (vyu _)])⟩
  | succ d ih =>
   intro m hm;have hlt:m < P.length:=by omega
   have hx:P[m]?=some P[m]:=vt5 hlt;have w:=wqn m;obtain ⟨o,ho⟩:=ih (m+1) (by omega);by_cases e1:P[m].I=i
   ·by_cases e2:P[m].K=k
    ·exact ⟨.inr (P[m].Weight,true),qad (by simp only [qcj,if_pos (qaj hx),qaa hx,vvn,beq_iff_eq,if_pos e1,e2,beq_self_eq_true,if_true])⟩
    ·have e2':(P[m].K == k)=false:=by rw [beq_eq_false_iff_ne];exact e2
     exact ⟨o,by rw [qac (s':=((m+1:Nat):Int)) (by simp only [qcj,if_pos (qaj hx),qaa hx,vvn,beq_iff_eq,if_pos e1,e2',vtk,if_false,w])];exact ho⟩
   ·exact ⟨o,by rw [qac (s':=((m+1:Nat):Int)) (by simp only [qcj,if_pos (qaj hx),qaa hx,vvn,beq_iff_eq,if_neg e1,vtk,if_false,w])];exact ho⟩
 obtain ⟨o,ho⟩:=key P.length 0 (by omega);simp only [vxn] at ho;cases o with
 | inl u=>exact ⟨0,false,by simp only [qfi,ho,vvn]⟩
 | inr r=>exact ⟨r.1,r.2,by simp only [qfi,ho,vvn]⟩
theorem vbs (W:Nat→Nat→Int) (hW:WOk W) (n:Nat) (hn:n≤6):∃r,qgi (n:Int) (qaz W n)=some r:=by
 have hpl:=qof W n hn;have h0:(0:Int)≤(n:Int):=by omega
 have hr:qao n 8=true:=qn9 (by omega);have L1:∀(d k:Nat) (la:List Int),k+d=n→la.length=n→∃la',qae (qf0 (n:Int)) (la,(k:Int))=some la'∧la'.length=n:=by
  intro d
  induction d with
  | zero =>
   intro k la hk hl;obtain rfl:k=n:=by omega
   exact ⟨la,qad (by simp only [qf0,if_neg (vyu _)]),hl⟩
  | succ d ih =>
   intro k la hk hl;have c:((k:Int) < (n:Int)):=by omega
   have hx:la[k]?=some (la.getD k 0):=by simp [vwd,vt5 (show k < la.length by omega)]
   obtain ⟨la',q1,q2⟩:=ih (k+1) (la.set k (-1)) (by omega) (by rw [vui];exact hl);refine ⟨la',?_,q2⟩;rw [qac (s':=(la.set k (-1),((k+1:Nat):Int))) (by simp only [qf0,if_pos c,qaa hx,vvn,vxr,wqn k])];exact q1
 have L4:∀(nx i:Int) (d k:Nat) (la:List Int),k+d=n→la.length=n→∃la',qae (qcy (n:Int) (qaz W n) nx i) (la,(k:Int))=some la'∧la'.length=n:=by
  intro nx i d
  induction d with
  | zero =>
   intro k la hk hl;obtain rfl:k=n:=by omega
   exact ⟨la,qad (by simp only [qcy,if_neg (vyu _)]),hl⟩
  | succ d ih =>
   intro k la hk hl;have c:((k:Int) < (n:Int)):=by omega
   have hx:la[k]?=some (la.getD k 0):=by simp [vwd,vt5 (show k < la.length by omega)]
   have w:=wqn k;obtain ⟨wt,b,hw⟩:=q71 (qaz W n) (by omega) i (k:Int);by_cases a:wt > 0
   ·by_cases q:la.getD k 0 < 0
    ·obtain ⟨la',q1,q2⟩:=ih (k+1) (la.set k nx) (by omega) (by rw [vui];exact hl);refine ⟨la',?_,q2⟩;rw [qac (s':=(la.set k nx,((k+1:Nat):Int))) (by simp only [qcy,if_pos c,hw,vvn,if_pos a,qaa hx,decide_eq_true q,if_true,vxr,w])];exact q1
    ·obtain ⟨la',q1,q2⟩:=ih (k+1) la (by omega) hl;refine ⟨la',?_,q2⟩;rw [qac (s':=(la,((k+1:Nat):Int))) (by simp only [qcy,if_pos c,hw,vvn,if_pos a,qaa hx,decide_eq_false q,vtk,if_false,w])];exact q1
   ·obtain ⟨la',q1,q2⟩:=ih (k+1) la (by omega) hl;refine ⟨la',?_,q2⟩;rw [qac (s':=(la,((k+1:Nat):Int))) (by simp only [qcy,if_pos c,hw,vvn,if_neg a,vtk,if_false,w])];exact q1
 have L5:∀(d k:Nat) (la:List Int) (nx:Nat),k+d=n→la.length=n→nx≤k→∃la',qae (qd7 (n:Int) (qaz W n)) (la,(nx:Int),(k:Int))=some la':=by
  intro d
  induction d with
  | zero =>
   intro k la nx hk hl _;obtain rfl:k=n:=by omega
   exact ⟨la,qad (by simp only [qd7,if_neg (vyu _)])⟩
  | succ d ih =>
   intro k la nx hk hl hnx;have c:((k:Int) < (n:Int)):=by omega
   have hx:la[k]?=some (la.getD k 0):=by simp [vwd,vt5 (show k < la.length by omega)]
   have w:=wqn k;have w2:=wqn nx;by_cases a:la.getD k 0≥0
   ·obtain ⟨la',q1⟩:=ih (k+1) la nx (by omega) hl (by omega);refine ⟨la',?_⟩;rw [qac (s':=(la,(nx:Int),((k+1:Nat):Int))) (by simp only [qd7,if_pos c,qaa hx,vvn,if_pos a,w])];exact q1
   ·obtain ⟨la1,r1,r2⟩:=L4 (nx:Int) (k:Int) (n - (k+1)) (k+1) (la.set k (nx:Int)) (by omega) (by rw [vui];exact hl);obtain ⟨la',q1⟩:=ih (k+1) la1 (nx+1) (by omega) r2 (by omega);refine ⟨la',?_⟩;rw [qac (s':=(la1,((nx+1:Nat):Int),((k+1:Nat):Int))) (by simp only [qd7,if_pos c,qaa hx,vvn,if_neg a,w,w2,vxr,r1])];exact q1
 obtain ⟨la1,h1,h2⟩:=L1 n 0 (List.replicate n 0) (by omega) (by simp);obtain ⟨la2,h3⟩:=L5 n 0 la1 0 (by omega) h2 (by omega);simp only [vxn] at h1 h3;exact ⟨(la2,0),by simp only [qgi,q5l W hW n hn,vvn,bne_self_eq_false,vtk,if_false,if_pos h0,vxr,hr,if_true,h1,h3]⟩
theorem vji (s:List (List Int)) (c:List Int) (hs:∀x∈s,x≠[]) (hc:c≠[]) (hl:s.length≤1000):qae qbq (s++[c],(s.length:Int))=some (qyw ltH c s):=by
 have hgen:∀(l:List (List Int)) (k:Nat) x y,k+1 < 1001→l[k+1]?=some x→l[k]?=some y→x≠[]→y≠[]→qbq (l,((k+1:Nat):Int))=if ltH x y=true then some (.next ((l.set (k+1) y).set k x,(k:Int))) else some (.done l):=by
  intro l k x y hk h1 h2 hx hy;have c0:((k+1:Nat):Int) > 0:=by omega
  have w:vxs.wrap (((k+1:Nat):Int) - 1)=(k:Int):=by rw [qav (by omega) (by omega)];omega
  have g1:x[0]?=some (x.headD 0):=q83 hx;have g2:y[0]?=some (y.headD 0):=q83 hy;have g3:idx (l.set (k+1) y) (k:Int)=some y:=by
   refine qaa ?_;rw [List.getElem?_set,if_neg (by omega),h2]
  simp only [qbq,if_pos c0,qaa h1,vvn,g1,w,qaa h2,g2,vxr,g3];unfold ltH;by_cases q:x.headD 0 < y.headD 0
  ·rw [if_pos q,decide_eq_true q];rfl
  ·rw [if_neg q,decide_eq_false q];rfl
 -- only lists without empty members are met
 have key:∀(n:Nat) (s u:List (List Int)),s.length=n→n≤1000→(∀x∈s,x≠[])→qae qbq (s++c :: u,(n:Int))=some (qyw ltH c s++u):=by
  intro n
  induction n with
  | zero =>
   intro s u hs' _ _;obtain rfl:s=[]:=List.eq_nil_of_length_eq_zero hs';rw [qad (t:=c :: u) (by simp [qbq])];rfl
  | succ n ih =>
   intro s u hs' hn hne;obtain ⟨s',y,rfl⟩:∃s' y,s=s'++[y]:=by
    rcases List.eq_nil_or_concat s with rfl | ⟨s',y,rfl⟩
    ·simp at hs'
    ·exact ⟨s',y,by simp⟩
   have hl':s'.length=n:=by simpa using hs'
   have e:s'++[y]++c :: u=s'++y :: c :: u:=by simp
   have g1:(s'++y :: c :: u)[n+1]?=some c:=by rw [vt3 (by omega),hl'];simp
   have g2:(s'++y :: c :: u)[n]?=some y:=by rw [vt3 (by omega),hl'];simp
   have hb:=hgen (s'++y :: c :: u) n c y (by omega) g1 g2 hc (hne y (by simp));rw [e];by_cases q:ltH c y=true
   ·rw [if_pos q] at hb;rw [qac hb];have e2:((s'++y :: c :: u).set (n+1) y).set n c=s'++c :: y :: u:=by
     subst hl';rw [List.set_append_right _ _ (by omega),show s'.length+1 - s'.length=1 by omega];simp
    rw [e2,ih s' (y :: u) hl' (by omega) (fun x hx=>hne x (by simp [hx])),qo1,if_pos q];simp
   ·have q':ltH c y=false:=by simpa using q
    rw [if_neg q] at hb;rw [qad hb,qo1,q'];simp
 have h:=key s.length s [] rfl hl hs;simpa using h
theorem vjj {s:List (List Int)} {c x:List Int}:x∈qyw ltH c s↔x=c∨x∈s:=by
 rw [(qxl ltH c s).mem_iff,List.mem_cons]
theorem q72 {t:Table} {C:List Nat} (G:List (List Int)) {k:Nat} {g:List Nat} (hg:G[k]?=some (qbr g)) (hi:∀i∈g,i < C.length) (hl:g.length≤1000):qae (qca (qeh t C) G (k:Int)) ([],0)=some (qeh t (g.map fun i=>C.getD i 0)):=by
 have hlen:(qbr g).length=g.length:=by simp [qbr]
 have h:=qv3 (qca (qeh t C) G (k:Int)) g (fun i=>(qe9 t (C.getD i 0)).ID) 1000 hl (by
  intro j out x hx hl';have hj:=qam hx;have hx':(qbr g)[j]?=some (x:Int):=by simp [qbr,hx]
  have hxc:=hi x (vup hx);have hid:(qeh t C)[x]?=some (qe9 t (C.getD x 0)).ID:=by
   unfold qeh;rw [vt8,vt5 hxc];simp [vwd,vt5 hxc]
  have hr:qao (out.length+1) 8=true:=qn9 (by omega);simp only [qca,qaa hg,vvn,if_pos (qaj hx'),qaa hx',qaa hid,hr,if_true,wqn j]) (by
  intro out;rw [←hlen];simp only [qca,qaa hg,vvn,if_neg (vyu _)])
 rw [h];congr 1;unfold qeh;rw [List.map_map];rfl
def q0n (t:Table) (s:List (List Int)) (P:List Nat):List (List Int):=qyw ltH (qeh t P) s
theorem q2p (t:Table):∀(Ps:List (List Nat)) (s:List (List Int)),(Ps.foldl (q0n t) s).length=s.length+Ps.length
 | [],s=>by simp
 | P :: Ps,s=>by rw [vx1,q2p t Ps];simp only [q0n,q8w,List.length_cons];omega
theorem q73 (t:Table):∀(Ps:List (List Nat)) (s:List (List Int)),(∀P∈Ps,P≠[])→(∀x∈s,x≠[])→∀x∈Ps.foldl (q0n t) s,x≠[]
 | [],s,_,hs=>hs
 | P :: Ps,s,hP,hs=>by
  rw [vx1];refine q73 t Ps _ (fun Q hQ=>hP Q (by simp [hQ])) fun x hx=>?_
  rcases vjj.1 hx with rfl | h
  ·have:=hP P (by simp);intro e;refine this ?_;unfold qeh at e;exact vz9.1 e
  ·exact hs x h
theorem vbt {t:Table} {C:List Nat} (r:List Int) (hr:r.length=C.length) (hnf:nfL r) (hC:C.Pairwise (· < ·)) (hl:C.length≤6) (out:List (List Int)) (ho:out.length≤100) (hne:∀x∈out,x≠[]) :
  qae (qcb (qeh t C) (qi1 r r.length)) (out,0)=some ((qde r C).foldl (q0n t) out):=by
 have hus:=qo5 hnf;have hgl:(qi1 r r.length).length=qb0 r:=by simp [qi1]
 have hpl:=qt4 r C;have key:∀(d k:Nat),k+d=qb0 r→qae (qcb (qeh t C) (qi1 r r.length)) (((qde r C).take k).foldl (q0n t) out,(k:Int))=some ((qde r C).foldl (q0n t) out):=by
  intro d
  induction d with
  | zero =>
   intro k hk;have e:(qde r C).take k=qde r C:=vu1 (by omega);rw [e];have c:¬((k:Int) < ((qi1 r r.length).length:Int)):=by omega
   exact qad (by simp only [qcb,if_neg c])
  | succ d ih =>
   intro k hk;have hlt:k < qb0 r:=by omega
   have c:((k:Int) < ((qi1 r r.length).length:Int)):=by omega
   have hg:(qi1 r r.length)[k]?=some (qbr (qt0 r r.length k)):=by
    have:=qjs (fun c=>qbr (qt0 r r.length c)) (n:=qb0 (r.take r.length)) (v:=k) (by rw [List.take_length];exact hlt);exact this
   have hp:(qde r C)[k]?=some ((qt0 r r.length k).map fun i=>C.getD i 0):=qjs _ hlt;have h1:=q72 (t:=t) (C:=C) (qi1 r r.length) hg (fun i hi=>by have:=q2n hi;omega) (by
    have:=List.length_filter_le (fun i=>decide (r.getD i 0=(k:Int))) (vuv r.length);unfold qt0;rw [vwp] at this;omega)
   have hlen:(((qde r C).take k).foldl (q0n t) out).length≤106:=by
    rw [q2p,vuj];omega
   have hneP:∀P∈qde r C,P≠[]:=fun P hP e=>by
    have:=(q2o hnf hC hr hP).2.1;rw [e] at this;simp at this
   have hne':=q73 t ((qde r C).take k) out (fun P hP=>hneP P (vur hP)) hne;have hcne:qeh t ((qt0 r r.length k).map fun i=>C.getD i 0)≠[]:=by
    have:=hneP _ (vup hp);intro e;exact this (vz9.1 e)
   have hs:=vji _ _ hne' hcne (by omega);have hroom:qao ((((qde r C).take k).foldl (q0n t) out).length+1) 24=true:=q0h (by omega);have w:vxs.wrap ((((((qde r C).take k).foldl (q0n t) out).length+1:Nat):Int) - 1)=(((((qde r C).take k).foldl (q0n t) out).length:Nat):Int):=by rw [qav (by omega) (by omega)];omega
   have hnext:qyw ltH (qeh t ((qt0 r r.length k).map fun i=>C.getD i 0)) (((qde r C).take k).foldl (q0n t) out)=((qde r C).take (k+1)).foldl (q0n t) out:=by
    rw [vyh,hp,vz5,vz8];rfl
   rw [qac (s':=(((qde r C).take (k+1)).foldl (q0n t) out,((k+1:Nat):Int))) (by
    simp only [qcb,if_pos c,h1,vvn,hroom,if_true,w,hs,hnext,wqn k])]
   exact ih (k+1) (by omega)
 have h:=key (qb0 r) 0 (by omega);simpa using h
theorem vbu {t:Table} {l:Linkage} (T:LnkT t l) (hn:t.Rows.length≤6):qf1 t l=some (qu1 (qt3 t l)):=by
 have hcl:=q5t t l;have key:∀(d k:Nat),k+d=(qcw (RT t l) t.Rows.length).length→qae (qdd t l ((qcw (RT t l) t.Rows.length).map (qeh t))) ((((qcw (RT t l) t.Rows.length).take k).flatMap fun C=>qde (qh4 (wT t l) C) C).foldl (q0n t) [],(k:Int))=some ((qx7 t l).foldl (q0n t) []):=by
  intro d
  induction d with
  | zero =>
   intro k hk;have e:(qcw (RT t l) t.Rows.length).take k=qcw (RT t l) t.Rows.length:=vu1 (by omega);rw [e];have c:¬((k:Int) < (((qcw (RT t l) t.Rows.length).map (qeh t)).length:Int)):=by rw [vuf];omega
   exact qad (by simp only [qdd,if_neg c];rfl)
  | succ d ih =>
   intro k hk;have hlt:k < (qcw (RT t l) t.Rows.length).length:=by omega
   have hx:(qcw (RT t l) t.Rows.length)[k]?=some (qcw (RT t l) t.Rows.length)[k]:=vt5 hlt;generalize hCg:(qcw (RT t l) t.Rows.length)[k]=C at hx;have hmem:=vup hx;obtain ⟨q1,q2,q3,q4⟩:=qx6 hmem;obtain ⟨c0,hb,hnf,hbl⟩:=qo6 (wT t l) C;have hWk:=q9e (vsq t l) C;obtain ⟨piv,hpiv⟩:=vbs (qk3 (wT t l) C) hWk C.length (by omega);obtain ⟨b,c,ho,hopt⟩:=vfs (qk3 (wT t l) C) hWk C.length (by omega);rw [hb] at ho;simp only [Option.some.injEq,Prod.mk.injEq] at ho;obtain ⟨e1,e2⟩:=ho;subst e1;have hx':((qcw (RT t l) t.Rows.length).map (qeh t))[k]?=some (qeh t C):=by rw [vt8,hx];rfl
   have hil:(qeh t C).length=C.length:=by simp [qeh]
   have c10:((qeh t C).length:Int)≤10:=by omega
   have hsub:∀Q,Q∈((qcw (RT t l) t.Rows.length).take k).flatMap (fun C=>qde (qh4 (wT t l) C) C)→Q∈qx7 t l:=by
    intro Q hQ;obtain ⟨D,hD,hQD⟩:=vuo.1 hQ;exact vuo.2 ⟨D,vur hD,hQD⟩
   have hne:=q73 t (((qcw (RT t l) t.Rows.length).take k).flatMap fun C=>qde (qh4 (wT t l) C) C) [] (fun Q hQ e=>by
    have:=(vf0 (hsub Q hQ)).2.1;rw [e] at this;simp at this) (by simp)
   have hlen:((((qcw (RT t l) t.Rows.length).take k).flatMap fun C=>qde (qh4 (wT t l) C) C).foldl (q0n t) []).length≤100:=by
    rw [q2p];have:=qjr (fun C=>qde (qh4 (wT t l) C) C) 6 ((qcw (RT t l) t.Rows.length).take k) (fun D hD=>by
     obtain ⟨c,_,hnf,hbl⟩:=qo6 (wT t l) D;have:=qo5 hnf;have:=(qx6 (vur hD)).2.2.2;rw [qt4];omega)
    rw [vuj] at this;have h6:min k (qcw (RT t l) t.Rows.length).length * 6≤6 * 6:=Nat.mul_le_mul_right 6 (by omega);simp only [List.length_nil,Nat.zero_add];omega
   have hput:=vbt (t:=t) (qh4 (wT t l) C) hbl hnf q1 (by omega) _ hlen hne;have hgr:=vjb hnf (by omega);have hpr:=vn8 T q1 q2 (by omega);have hp2:qgi ((qeh t C).length:Int) (qaz (qk3 (wT t l) C) C.length)=some piv:=by rw [hil];exact hpiv
   have ho2:qes ((qeh t C).length:Int) (qaz (qk3 (wT t l) C) C.length)=some (qh4 (wT t l) C,c,0):=by rw [hil];exact hopt
   have hnext:(qde (qh4 (wT t l) C) C).foldl (q0n t) ((((qcw (RT t l) t.Rows.length).take k).flatMap fun C=>qde (qh4 (wT t l) C) C).foldl (q0n t) [])=(((qcw (RT t l) t.Rows.length).take (k+1)).flatMap fun C=>qde (qh4 (wT t l) C) C).foldl (q0n t) []:=by
    rw [←vz8];congr 1;rw [vyh,hx,vz5,List.flatMap_append];simp
   rw [qac (s':=((((qcw (RT t l) t.Rows.length).take (k+1)).flatMap fun C=>qde (qh4 (wT t l) C) C).foldl (q0n t) [],((k+1:Nat):Int))) (by
    simp only [qdd,if_pos (qaj hx'),qaa hx',vvn,hpr,hp2,if_pos c10,ho2,hgr,hput,hnext,wqn k])]
   exact ih (k+1) (by omega)
 have h:=key (qcw (RT t l) t.Rows.length).length 0 (by omega);simp only [List.take_zero,vz7,List.foldl_nil,vxn] at h;simp only [qf1,q5v T (by omega),vvn,h];congr 1;unfold qu1 qtp qt3;rw [List.foldl_map];rfl
theorem vn9 {t:Table} (l:Linkage) (he:qbe t=0):divB t (qu1 (qt3 t l))=true:=by
 have hp:=qq4 (qt3 t l);have hf:=hp.flatten.trans (qx8 (t:=t) l);unfold divB;rw [vti,vti];refine ⟨?_,?_,?_⟩
 ·rw [q2d];refine ⟨fun c hc=>?_,hf.nodup_iff.2 (qlx he).2,by simp⟩;have:=qqb he (hp.mem_iff.1 hc);exact vn7 this.1 this.2.1
 ·rw [decide_eq_true_eq,hf.length_eq];simp [ids]
 ·rw [vv7];intro x hx;rw [decide_eq_true_eq];exact hf.mem_iff.1 hx
end Go.Proofs.YtmlegeeinnkhkaaGreat
namespace Go.Ab
open Go
def runL {σ τ:Type} (B:σ→Option (LS σ τ)):Nat→σ→Option τ
 | 0,_=>none
 | n+1,s=>match B s with
  | some (.next s')=>runL B n s'
  | some (.done t)=>some t
  | none=>none
theorem qjn {σ τ:Type} {B:σ→Option (LS σ τ)}:∀(n:Nat) {s:σ} {t:τ},runL B n s=some t→qae B s=some t
 | 0,s,t,h=>by simp [runL] at h
 | n+1,s,t,h=>by
  simp only [runL] at h;split at h
  ·rename_i s' e;rw [qac e];exact qjn n h
  ·rename_i t' e;cases h;exact qad e
  ·cases h
theorem vbv {W W':Nat→Nat→Int} (l:List Int) (c:Int) {k:Nat} (h:∀i,i < k→W i k=W' i k):qqw W l c k=qqw W' l c k:=by
 unfold qqw;congr 1;refine vws fun i hi=>?_
 rw [h i (vw1.1 hi)]
theorem q74 {W W':Nat→Nat→Int} (l:List Int) {n:Nat} (h:∀i k,i < k→k < n→W i k=W' i k):qfk W l n=qfk W' l n:=by
 unfold qfk;congr 1;refine vws fun k hk=>?_
 exact vbv l _ fun i hi=>h i k hi (vw1.1 hk)
theorem q0o {W W':Nat→Nat→Int} {n:Nat} (h:∀i k,i < k→k < n→W i k=W' i k):vgm W n=vgm W' n:=by
 unfold vgm;have:(fun x=>qfk W x n)=fun x=>qfk W' x n:=by
  funext x;exact q74 x h
 rw [this]
end Go.Ab
namespace Go.Proofs.YtmlegeeinnkhkaaGreat
open Go Go.Ab
def t56:Table:=⟨[112],[[110,97,109,101]],[⟨1,[⟨2,0,[97,110,110]⟩]⟩,⟨2,[⟨2,0,[97,110,110,101]⟩]⟩,⟨3,[⟨2,0,[97,110,110,101,115]⟩]⟩,⟨4,[⟨2,0,[98,111,98]⟩]⟩]⟩
def l56:Linkage:=⟨[[⟨0,2,1⟩]],[],[3]⟩
theorem vf6:qgo=some (t56,l56):=by
 have h:qae (qii [[97,110,110],[97,110,110,101],[97,110,110,101,115],[98,111,98]]) ([],0)=some t56.Rows:=qjn 6 (by decide +kernel);simp only [qgo,vvn,h];rfl
theorem vsw:qbe t56=0:=by decide +kernel
theorem vsx:q47 (t56.Attrs.length:Int) l56=0:=by decide +kernel
theorem vsy:LnkT t56 l56 where
 err:=vsw
 ok:=⟨by decide,by decide,by decide,by unfold vsa;decide⟩
 rows:=by decide
 attrs:=by decide
 rules:=by decide
 rule:=by decide
 nblock:=by decide
 nsurv:=by decide
 block:=by intro k hk;cases hk
theorem vsz:vkj t56 l56=0:=by
 unfold vkj;rw [if_neg (by rw [vsw];simp),if_neg (by rw [vsx];simp)];rfl
theorem sed01:sed ([97,110,110]:Str) [97,110,110,101]=1:=by simp [sed]
theorem sed02:sed ([97,110,110]:Str) [97,110,110,101,115]=2:=by simp [sed]
theorem sed03:sed ([97,110,110]:Str) [98,111,98]=3:=by simp [sed]
theorem sed12:sed ([97,110,110,101]:Str) [97,110,110,101,115]=1:=by simp [sed]
theorem sed13:sed ([97,110,110,101]:Str) [98,111,98]=4:=by simp [sed]
theorem sed23:sed ([97,110,110,101,115]:Str) [98,111,98]=5:=by simp [sed]
theorem m01:mT t56 l56 0 1=true:=by
 simp [mT,qo4,qnd,qoe,qtv,l56,t56,qe9,qz8,qhr,vAt,qie,q26,qmh,sed01,q7k,vx0]
theorem m02:mT t56 l56 0 2=false:=by
 simp [mT,qo4,qnd,qoe,qtv,l56,t56,qe9,qz8,qhr,vAt,qie,q26,qmh,sed02,q7k,vx0]
theorem m03:mT t56 l56 0 3=false:=by
 simp [mT,qo4,qnd,qoe,qtv,l56,t56,qe9,qz8,qhr,vAt,qie,q26,qmh,sed03,q7k,vx0]
theorem m12:mT t56 l56 1 2=true:=by
 simp [mT,qo4,qnd,qoe,qtv,l56,t56,qe9,qz8,qhr,vAt,qie,q26,qmh,sed12,q7k,vx0]
theorem m13:mT t56 l56 1 3=false:=by
 simp [mT,qo4,qnd,qoe,qtv,l56,t56,qe9,qz8,qhr,vAt,qie,q26,qmh,sed13,q7k,vx0]
theorem m23:mT t56 l56 2 3=false:=by
 simp [mT,qo4,qnd,qoe,qtv,l56,t56,qe9,qz8,qhr,vAt,qie,q26,qmh,sed23,q7k,vx0]
theorem n56:t56.Rows.length=4:=rfl
def b56 (i k:Nat):Bool:=(i == 0 && k == 1) || (i == 1 && k == 2)
theorem mT56:∀i k,i < k→k < 4→mT t56 l56 i k=b56 i k:=by
 intro i k h1 h2;have hk:k=1∨k=2∨k=3:=by omega
 rcases hk with rfl | rfl | rfl
 ·obtain rfl:i=0:=by omega
  rw [m01];rfl
 ·have hi:i=0∨i=1:=by omega
  rcases hi with rfl | rfl
  ·rw [m02];rfl
  ·rw [m12];rfl
 ·have hi:i=0∨i=1∨i=2:=by omega
  rcases hi with rfl | rfl | rfl
  ·rw [m03];rfl
  ·rw [m13];rfl
  ·rw [m23];rfl
theorem vf7:qdp t56 l56=[⟨1,2⟩,⟨2,3⟩]:=by
 unfold qdp;rw [n56,q5h (q:=b56) (mk':=fun i k=>Arr2_int64.mk (qe9 t56 i).ID (qe9 t56 k).ID) (fun i k h1 h2=>⟨mT56 i k h1 h2,rfl⟩)];decide +kernel
theorem R56 (u v:Nat):RT t56 l56 u v↔(u=0∧v=1)∨(u=1∧v=2)∨(u=1∧v=0)∨(u=2∧v=1):=by
 rw [q9f,n56];constructor
 ·rintro (⟨h1,h2,h3⟩ | ⟨h1,h2,h3⟩)
  ·rw [mT56 u v h1 h2] at h3;simp only [b56,vtn,vti,beq_iff_eq] at h3;omega
  ·rw [mT56 v u h1 h2] at h3;simp only [b56,vtn,vti,beq_iff_eq] at h3;omega
 ·rintro (⟨rfl,rfl⟩ | ⟨rfl,rfl⟩ | ⟨rfl,rfl⟩ | ⟨rfl,rfl⟩)
  ·exact .inl ⟨by omega,by omega,m01⟩
  ·exact .inl ⟨by omega,by omega,m12⟩
  ·exact .inr ⟨by omega,by omega,m01⟩
  ·exact .inr ⟨by omega,by omega,m12⟩
theorem voa (u v:Nat) (hu:u < 4):Rch (RT t56 l56) u v↔(u < 3∧v < 3)∨(u=3∧v=3):=by
 constructor
 ·intro h;refine h.closed (S:=fun v=>(u < 3∧v < 3)∨(u=3∧v=3)) (by omega) fun x y hx hxy=>?_
  rw [R56] at hxy;omega
 ·have e01:RT t56 l56 0 1:=(R56 0 1).2 (by omega);have e12:RT t56 l56 1 2:=(R56 1 2).2 (by omega);have e10:RT t56 l56 1 0:=(R56 1 0).2 (by omega);have e21:RT t56 l56 2 1:=(R56 2 1).2 (by omega);have r1:∀v,v < 3→Rch (RT t56 l56) 1 v:=by
   intro v hv;have:v=0∨v=1∨v=2:=by omega
   rcases this with rfl | rfl | rfl
   ·exact .step .refl e10
   ·exact .refl
   ·exact .step .refl e12
  rintro (⟨h1,h2⟩ | ⟨rfl,rfl⟩)
  ·have:u=0∨u=1∨u=2:=by omega
   rcases this with rfl | rfl | rfl
   ·exact (Rch.step .refl e01).trans (r1 v h2)
   ·exact r1 v h2
   ·exact (Rch.step .refl e21).trans (r1 v h2)
  ·exact .refl
theorem vob:qcw (RT t56 l56) 4=[[0,1,2],[3]]:=by
 classical
 have hh:qmf (RT t56 l56) 4=[0,3]:=by
  unfold qmf;have:∀v,v∈vuv 4→(decide (∀u,u < v→¬Rch (RT t56 l56) u v))=(v == 0 || v == 3):=by
   intro v hv;have hv:=vw1.1 hv;rw [vxj,decide_eq_true_eq,vtn,beq_iff_eq,beq_iff_eq];constructor
   ·intro h;by_cases h0:v=0
    ·exact .inl h0
    ·right;have:=h 0 (by omega);rw [voa 0 v (by omega)] at this;omega
   ·intro h u hu;rw [voa u v (by omega)];omega
  rw [vz6 this];rfl
 have hc:∀v,v < 4→qjq (RT t56 l56) 4 v=(vuv 4).filter fun x=>(decide (v < 3) && decide (x < 3)) || (decide (v=3) && decide (x=3)):=by
  intro v hv;unfold qjq;refine vz6 fun x _=>?_
  rw [vxj,decide_eq_true_eq,voa v x hv];simp
 unfold qcw;rw [hh];simp only [List.map_cons,List.map_nil,hc 0 (by omega),hc 3 (by omega)];rfl
theorem voc:qh4 (wT t56 l56) [0,1,2]=[0,0,0]:=by
 unfold qh4;rw [q0o (W':=fun i k=>if b56 i k then 1 else -1) (fun i k h1 h2=>by
  have h2':k < 3:=h2;have e:∀j,j < 3→[0,1,2].getD j 0=j:=by
   intro j hj;have:j=0∨j=1∨j=2:=by omega
   rcases this with rfl | rfl | rfl <;> rfl
  unfold qk3 wT;rw [e i (by omega),e k h2',if_neg (by omega),vw8 (by omega),v0a (by omega),mT56 i k h1 (by omega)])]
 decide +kernel
theorem vod:qh4 (wT t56 l56) [3]=[0]:=by
 unfold qh4;rw [q0o (W':=fun _ _=>0) (fun i k h1 h2=>by
  have h2':k < 1:=h2;omega)]
 decide +kernel
theorem cls56:qu1 (qt3 t56 l56)=[[1,2,3],[4]]:=by
 have:qt3 t56 l56=[[1,2,3],[4]]:=by
  unfold qt3 qx7;rw [n56,vob];simp only [vwc,vz7,voc,vod];decide +kernel
 rw [this];decide +kernel
theorem pl3a:qae (qdz 0 [1,2,3]) ([],0,0)=some (.inl [(1,0),(2,0),(3,0)]):=qjn 5 (by decide +kernel)
theorem pl3b:qae (qdz 1 [4]) ([(1,0),(2,0),(3,0)],0,0)=some (.inl [(1,0),(2,0),(3,0),(4,1)]):=qjn 5 (by decide +kernel)
theorem q5w:qe8 [[1,2,3],[4]]=some ([(1,0),(2,0),(3,0),(4,1)],3,true):=by
 have h:qae (qbj [[1,2,3],[4]]) ([],0,0)=some (.inl ([(1,0),(2,0),(3,0),(4,1)],3)):=by
  have i0:idx [[1,2,3],[4]] (0:Int)=some [1,2,(3:Int)]:=rfl;have i1:idx [[1,2,3],[4]] (1:Int)=some [(4:Int)]:=rfl;rw [qac (s':=([(1,0),(2,0),(3,0)],3,1)) (by
   simp only [qbj,i0,vvn,pl3a];rfl)]
  rw [qac (s':=([(1,0),(2,0),(3,0),(4,1)],3,2)) (by
   simp only [qbj,i1,vvn,pl3b];rfl)]
  exact qad (by simp [qbj])
 simp only [qe8,h,vvn];decide +kernel
theorem pl3c:qae (qdz 0 [1,2]) ([],0,0)=some (.inl [(1,0),(2,0)]):=qjn 5 (by decide +kernel)
theorem pl3d:qae (qdz 1 [3]) ([(1,0),(2,0)],0,0)=some (.inl [(1,0),(2,0),(3,1)]):=qjn 5 (by decide +kernel)
theorem pl3e:qae (qdz 2 [4]) ([(1,0),(2,0),(3,1)],0,0)=some (.inl [(1,0),(2,0),(3,1),(4,2)]):=qjn 5 (by decide +kernel)
theorem q5x:qe8 [[1,2],[3],[4]]=some ([(1,0),(2,0),(3,1),(4,2)],1,true):=by
 have h:qae (qbj [[1,2],[3],[4]]) ([],0,0)=some (.inl ([(1,0),(2,0),(3,1),(4,2)],1)):=by
  have i0:idx [[1,2],[3],[4]] (0:Int)=some [1,(2:Int)]:=rfl;have i1:idx [[1,2],[3],[4]] (1:Int)=some [(3:Int)]:=rfl;have i2:idx [[1,2],[3],[4]] (2:Int)=some [(4:Int)]:=rfl;rw [qac (s':=([(1,0),(2,0)],1,1)) (by
   simp only [qbj,i0,vvn,pl3c];rfl)]
  rw [qac (s':=([(1,0),(2,0),(3,1)],1,2)) (by
   simp only [qbj,i1,vvn,pl3d];rfl)]
  rw [qac (s':=([(1,0),(2,0),(3,1),(4,2)],1,3)) (by
   simp only [qbj,i2,vvn,pl3e];rfl)]
  exact qad (by simp [qbj])
 simp only [qe8,h,vvn];decide +kernel
def pa56:List (Int×Int):=[(1,0),(2,0),(3,0),(4,1)]
def pb56:List (Int×Int):=[(1,0),(2,0),(3,1),(4,2)]
theorem vs2:qc1 [[1,2,3],[4]] [[1,2],[3],[4]]=some (qoc 1 3,0):=by
 have a1:qae (qch (pb56,1,true) [1,2,3]) (0,[],0)=some 1:=qjn 5 (by decide +kernel);have a2:qae (qch (pb56,1,true) [4]) (1,[],0)=some 1:=qjn 5 (by decide +kernel);have h:qae (qax [[1,2,3],[4]] (pb56,1,true)) (0,0)=some 1:=by
  have i0:idx [[1,2,3],[4]] (0:Int)=some [1,2,(3:Int)]:=rfl;have i1:idx [[1,2,3],[4]] (1:Int)=some [(4:Int)]:=rfl;rw [qac (s':=(1,1)) (by simp only [qax,i0,vvn,a1];rfl)];rw [qac (s':=(1,2)) (by simp only [qax,i1,vvn,a2];rfl)];exact qad (by simp [qax])
 have hm:qj0 1 3=some (qoc 1 3,0):=qnn 1 3 (by omega) (by omega) (by omega);have z:((3:Int) == 0)=false:=rfl;have h':qae (qax [[1,2,3],[4]] ([(1,0),(2,0),(3,1),(4,2)],1,true)) (0,0)=some 1:=h;simp only [qc1,q5w,q5x,vvn,if_true,z,vtk,if_false,h',hm]
theorem voe:qc1 [[1,2],[3],[4]] [[1,2,3],[4]]=some (qoc 1 1,0):=by
 have a1:qae (qch (pa56,3,true) [1,2]) (0,[],0)=some 1:=qjn 5 (by decide +kernel);have a2:qae (qch (pa56,3,true) [3]) (1,[],0)=some 1:=qjn 5 (by decide +kernel);have a3:qae (qch (pa56,3,true) [4]) (1,[],0)=some 1:=qjn 5 (by decide +kernel);have h:qae (qax [[1,2],[3],[4]] (pa56,3,true)) (0,0)=some 1:=by
  have i0:idx [[1,2],[3],[4]] (0:Int)=some [1,(2:Int)]:=rfl;have i1:idx [[1,2],[3],[4]] (1:Int)=some [(3:Int)]:=rfl;have i2:idx [[1,2],[3],[4]] (2:Int)=some [(4:Int)]:=rfl;rw [qac (s':=(1,1)) (by simp only [qax,i0,vvn,a1];rfl)];rw [qac (s':=(1,2)) (by simp only [qax,i1,vvn,a2];rfl)];rw [qac (s':=(1,3)) (by simp only [qax,i2,vvn,a3];rfl)];exact qad (by simp [qax])
 have hm:qj0 1 1=some (qoc 1 1,0):=qnn 1 1 (by omega) (by omega) (by omega);have z:((1:Int) == 0)=false:=rfl;have h':qae (qax [[1,2],[3],[4]] ([(1,0),(2,0),(3,0),(4,1)],3,true)) (0,0)=some 1:=h;simp only [qc1,q5w,q5x,vvn,if_true,z,vtk,if_false,h',hm]
theorem vf8:qgb=some true:=by
 have hm:=vfh vsy vsz;have hc:=q0m vsy vsz (by rw [n56];omega);rw [vf7] at hm;rw [cls56] at hc;have hs:qdf [⟨1,2⟩,⟨2,3⟩] [⟨1,2⟩,⟨2,3⟩]=some true:=by
  rw [q5j _ _ (by decide)];rfl
 have hl:qev [[1,2,3],[4]] [[1,2,3],[4]]=some true:=by
  rw [q0e _ _ (by decide) (by decide)];rfl
 have o1:qea 1 3=some (qoc 1 3):=quv 1 3 (by omega) (by omega) (by omega);have o2:qea 1 1=some (qoc 1 1):=quv 1 1 (by omega) (by omega) (by omega);have hr:qjf [[1,2,3],[4]] [[1,2],[3],[4]]=some (qoc 1 1,0):=by
  simp only [qjf,voe,vvn]
 simp only [qgb,vf6,vvn,hm,hc,vs2,hr,beq_self_eq_true,if_true,hs,hl,o1,o2,Bool.and_true]
def qrb (n:Nat) (x:Drossref56_Test):Similar :=
 ⟨vxq x.Attr (n:Int),1+vxq x.Measure 4,if 1+vxq x.Measure 4=3 then vxq x.Limit 101 else if 1+vxq x.Measure 4=1 then 0 else vxq x.Limit 4⟩
theorem q2q {n:Int} (h:okI .u8 n):0≤n∧n≤255:=vsj h
theorem qqc {a b:Int} (ha:0≤a) (hb:0 < b):0≤vxq a b∧vxq a b < b:=by
 refine ⟨Int.tmod_nonneg b ha,Int.tmod_lt_of_pos a hb⟩
theorem vf9 (n:Nat) (hn:1≤n) (hn2:n≤16) (d:Drossref56_Draft) (i k:Nat) {r:List Drossref56_Test} {x:Drossref56_Test} (hr:d.Rules[i]?=some r) (hx:r[k]?=some x) (hok:qc3 x) (out:List Similar) (ho:out.length≤100) (hk:k≤1000) :
  qgd (n:Int) d (i:Int) (out,(k:Int))=some (.next (out++[qrb n x],((k+1:Nat):Int))):=by
 obtain ⟨h1,h2,h3⟩:=hok;have a1:=q2q h1;have a2:=q2q h2;have a3:=q2q h3;have hz:¬((n:Int)=0):=by omega
 have hroom:qao (out.length+1) 24=true:=q0h (by omega);have w:=wqn k;have m4:=qqc a2.1 (show (0:Int) < 4 by omega);have l101:=qqc a3.1 (show (0:Int) < 101 by omega);have l4:=qqc a3.1 (show (0:Int) < 4 by omega);have w1:vxs.wrap (vxq x.Measure 4)=vxq x.Measure 4:=qav (by omega) (by omega);have w2:vxs.wrap (1+vxq x.Measure 4)=1+vxq x.Measure 4:=qav (by omega) (by omega);have w3:vxs.wrap x.Attr=x.Attr:=qav (by omega) (by omega);have w4:vxs.wrap (vxq x.Limit 101)=vxq x.Limit 101:=qav (by omega) (by omega);have w5:vxs.wrap (vxq x.Limit 4)=vxq x.Limit 4:=qav (by omega) (by omega);simp only [qgd,qaa hr,vvn,if_pos (qaj hx),qaa hx,if_neg hz,w1,w2,w3,w4,w5,hroom,if_true,w,beq_iff_eq];unfold qrb;by_cases c1:1+vxq x.Measure 4=1
 ·have c3:¬1+vxq x.Measure 4=3:=by omega
  rw [if_pos c1,if_neg c3,if_neg c3,if_pos c1]
 ·by_cases c3:1+vxq x.Measure 4=3
  ·rw [if_neg c1,if_pos c3,if_pos c3]
  ·rw [if_neg c1,if_neg c3,if_neg c3,if_neg c1]
theorem vga (n:Nat) (hn:1≤n) (hn2:n≤16) (d:Drossref56_Draft) (i:Nat) {r:List Drossref56_Test} (hr:d.Rules[i]?=some r) (hok:∀x∈r,qc3 x) (hl:r.length≤3):qae (qgd (n:Int) d (i:Int)) ([],0)=some (r.map (qrb n)) :=
 qv3 _ r (qrb n) 50 (by omega) (fun k out x hx ho=>vf9 n hn hn2 d i k hr hx (hok x (vup hx)) out (by omega) (by have:=qam hx;omega)) (fun out=>by
  simp only [qgd,qaa hr,vvn,if_neg (vyu _)])
def q5y (d:Drossref56_Draft):Bool:=d.Rules.all fun r=>decide (1≤r.length∧r.length≤3)
theorem vbw (n:Nat) (hn:1≤n) (hn2:n≤16) (d:Drossref56_Draft) (hok:qbz d):qae (qdn (n:Int) d) ([],0)=some (if q5y d then .inl (d.Rules.map fun r=>r.map (qrb n)) else .inr (⟨[],[],[]⟩,false)):=by
 have hR:=hok.1;have key:∀(m k:Nat),k+m=d.Rules.length→qae (qdn (n:Int) d) ((d.Rules.take k).map (fun r=>r.map (qrb n)),(k:Int))=some (if (d.Rules.drop k).all (fun r=>decide (1≤r.length∧r.length≤3)) then .inl (d.Rules.map fun r=>r.map (qrb n)) else .inr (⟨[],[],[]⟩,false)):=by
  intro m
  induction m with
  | zero =>
   intro k hk;obtain rfl:k=d.Rules.length:=by omega
   exact qad (by simp [qdn])
  | succ m ih =>
   intro k hk;have hlt:k < d.Rules.length:=by omega
   have hx:d.Rules[k]?=some d.Rules[k]:=vt5 hlt;have hb:=hR.1;rw [qji hx,List.all_cons];by_cases c1:(d.Rules[k].length:Int) < 1
   ·have:decide (1≤d.Rules[k].length∧d.Rules[k].length≤3)=false:=decide_eq_false (by omega);rw [this,Bool.false_and];exact qad (by simp only [qdn,if_pos (qaj hx),qaa hx,vvn,if_pos c1];rfl)
   ·by_cases c2:(d.Rules[k].length:Int) > 3
    ·have:decide (1≤d.Rules[k].length∧d.Rules[k].length≤3)=false:=decide_eq_false (by omega);rw [this,Bool.false_and];exact qad (by simp only [qdn,if_pos (qaj hx),qaa hx,vvn,if_neg c1,if_pos c2];rfl)
    ·have:decide (1≤d.Rules[k].length∧d.Rules[k].length≤3)=true:=decide_eq_true (by omega);rw [this,Bool.true_and];have hr:=vga n hn hn2 d k hx (fun x hxm=>(hR.2 _ (vup hx)).2 x hxm) (by omega);have hroom:qao (((d.Rules.take k).map (fun r=>r.map (qrb n))).length+1) 24=true:=by
      unfold qao;simp only [vuf,vuj,decide_eq_true_eq];omega
     rw [qac (s':=((d.Rules.take (k+1)).map (fun r=>r.map (qrb n)),((k+1:Nat):Int))) (by
      simp only [qdn,if_pos (qaj hx),qaa hx,vvn,if_neg c1,if_neg c2,hr,hroom,if_true,wqn k];rw [vyh,hx,vz5,List.map_append,List.map_singleton])]
     exact ih (k+1) (by omega)
 have h:=key d.Rules.length 0 (by omega);simpa [q5y] using h
theorem vjk (n:Nat) (hn:1≤n) {x:Drossref56_Test} (hok:qc3 x):q18 (n:Int) (qrb n x)=0:=by
 obtain ⟨h1,h2,h3⟩:=hok;have a1:=q2q h1;have a2:=q2q h2;have a3:=q2q h3;have m4:=qqc a2.1 (show (0:Int) < 4 by omega);have l101:=qqc a3.1 (show (0:Int) < 101 by omega);have l4:=qqc a3.1 (show (0:Int) < 4 by omega);have an:=qqc a1.1 (show (0:Int) < (n:Int) by omega);have hlim:q26 (qrb n x)=true:=by
  unfold q26 qrb;simp only;by_cases c1:1+vxq x.Measure 4=1
  ·have c3:¬1+vxq x.Measure 4=3:=by omega
   rw [if_pos c1,if_neg c3,if_pos c1];rfl
  ·by_cases c3:1+vxq x.Measure 4=3
   ·have c2:¬(1+vxq x.Measure 4=2∨1+vxq x.Measure 4=4):=by omega
    rw [if_neg c1,if_neg c2,if_pos c3,if_pos c3,decide_eq_true_eq];omega
   ·have c2:1+vxq x.Measure 4=2∨1+vxq x.Measure 4=4:=by omega
    rw [if_neg c1,if_pos c2,if_neg c3,if_neg c1,decide_eq_true_eq];omega
 unfold q18;rw [if_neg (show ¬((qrb n x).Attr < 0∨(qrb n x).Attr≥(n:Int)) by unfold qrb;simp only;omega),hlim];rfl
theorem vbx (n:Nat) (hn2:n≤16) (d:Drossref56_Draft) (hok:qbz d):∃B S,qae (qbs (n:Int) d) ([],[],0)=some (B,S)∧B.Nodup∧(∀x∈B,0≤x∧x < (n:Int))∧B.length≤n∧S.length=n∧∀x∈S,1≤x∧x≤5:=by
 have hS:=hok.2.2;have key:∀(m k:Nat) (B S:List Int),k+m=n→B.Nodup→(∀x∈B,0≤x∧x < (k:Int))→B.length≤k→S.length=k→(∀x∈S,1≤x∧x≤5) →
   ∃B' S',qae (qbs (n:Int) d) (B,S,(k:Int))=some (B',S')∧B'.Nodup∧(∀x∈B',0≤x∧x < (n:Int))∧B'.length≤n∧S'.length=n∧∀x∈S',1≤x∧x≤5:=by
  intro m
  induction m with
  | zero =>
   intro k B S hk h1 h2 h3 h4 h5;obtain rfl:k=n:=by omega
   exact ⟨B,S,qad (by simp only [qbs,if_neg (vyu _)]),h1,h2,h3,h4,h5⟩
  | succ m ih =>
   intro k B S hk h1 h2 h3 h4 h5;have c:((k:Int) < (n:Int)):=by omega
   have w:=wqn k;have r1:qao (B.length+1) 8=true:=qn9 (by omega);have r2:qao (S.length+1) 8=true:=qn9 (by omega);have hneg:¬((k:Int) < 0):=by omega
   obtain ⟨q,hq⟩:∃q:Bool,(show Option Bool from if (k:Int) < 8 then if (k:Int) < 0 then none else some ((vxq (Int.fdiv d.Block (2 ^ (min ((k:Int)).toNat 8))) 2) == 1) else some false)=some q:=by
    by_cases c8:(k:Int) < 8
    ·exact ⟨_,by rw [if_pos c8,if_neg hneg]⟩
    ·exact ⟨false,by rw [if_neg c8]⟩
   have B1:(B++[(k:Int)]).Nodup:=by
    rw [List.nodup_append];refine ⟨h1,by simp,?_⟩;intro a ha b hb e;rw [vw2] at hb;subst hb;subst e;have:=h2 _ ha;omega
   have B2:∀x∈B++[(k:Int)],0≤x∧x < ((k+1:Nat):Int):=by
    intro x hx;rcases vun.1 hx with h | h
    ·have:=h2 x h;omega
    ·rw [vw2] at h;omega
   have B3:∀x∈B,0≤x∧x < ((k+1:Nat):Int):=fun x hx=>by have:=h2 x hx;omega
   have S1:∀y,1≤y∧y≤5→∀x∈S++[y],(1:Int)≤x∧x≤5:=by
    intro y hy x hx;rcases vun.1 hx with h | h
    ·exact h5 x h
    ·rw [vw2] at h;subst h;exact hy
   have hq':(if (k:Int) < 8 then if (k:Int) < 0 then none else some ((vxq (Int.fdiv d.Block (2 ^ (min ((k:Int)).toNat 8))) 2) == 1) else some false)=some q:=hq;by_cases cs:(k:Int) < (d.Survive.length:Int)
   ·have hx:d.Survive[k]?=some d.Survive[k]:=vt5 (by omega);have hu:=q2q (hS.2 _ (vup hx));have m5:=qqc hu.1 (show (0:Int) < 5 by omega);have w1:vxs.wrap (vxq d.Survive[k] 5)=vxq d.Survive[k] 5:=qav (by omega) (by omega);have w2:vxs.wrap (1+vxq d.Survive[k] 5)=1+vxq d.Survive[k] 5:=qav (by omega) (by omega);cases q with
    | true =>
     obtain ⟨B',S',g1,g2⟩:=ih (k+1) (B++[(k:Int)]) (S++[1+vxq d.Survive[k] 5]) (by omega) B1 B2 (by simp;omega) (by simp;omega) (S1 _ (by omega));refine ⟨B',S',?_,g2⟩;rw [qac (s':=(B++[(k:Int)],S++[1+vxq d.Survive[k] 5],((k+1:Nat):Int))) (by
      simp only [qbs,if_pos c,hq',vvn,if_true,r1,r2,if_pos cs,qaa hx,w1,w2,w])]
     exact g1
    | false =>
     obtain ⟨B',S',g1,g2⟩:=ih (k+1) B (S++[1+vxq d.Survive[k] 5]) (by omega) h1 B3 (by omega) (by simp;omega) (S1 _ (by omega));refine ⟨B',S',?_,g2⟩;rw [qac (s':=(B,S++[1+vxq d.Survive[k] 5],((k+1:Nat):Int))) (by
      simp only [qbs,if_pos c,hq',vvn,if_true,vtk,if_false,r1,r2,if_pos cs,qaa hx,w1,w2,w])]
     exact g1
   ·cases q with
    | true =>
     obtain ⟨B',S',g1,g2⟩:=ih (k+1) (B++[(k:Int)]) (S++[1]) (by omega) B1 B2 (by simp;omega) (by simp;omega) (S1 _ (by omega));refine ⟨B',S',?_,g2⟩;rw [qac (s':=(B++[(k:Int)],S++[1],((k+1:Nat):Int))) (by
      simp only [qbs,if_pos c,hq',vvn,if_true,r1,r2,if_neg cs,w])]
     exact g1
    | false =>
     obtain ⟨B',S',g1,g2⟩:=ih (k+1) B (S++[1]) (by omega) h1 B3 (by omega) (by simp;omega) (S1 _ (by omega));refine ⟨B',S',?_,g2⟩;rw [qac (s':=(B,S++[1],((k+1:Nat):Int))) (by
      simp only [qbs,if_pos c,hq',vvn,vtk,if_false,r1,r2,if_true,if_neg cs,w])]
     exact g1
 obtain ⟨B,S,g⟩:=key n 0 [] [] (by omega) (by simp) (by simp) (by simp) rfl (by simp);exact ⟨B,S,by simpa using g⟩
theorem qsj {α:Type} {f:α→Int}:∀{l:List α},(∀x∈l,f x=0)→qkm f l=0
 | [],_=>rfl
 | x :: l,h=>by
  have h1:=h x List.mem_cons_self;unfold qkm;rw [if_neg (by simp [h1])];exact qsj fun y hy=>h y (List.mem_cons_of_mem _ hy)
structure Made (t:Table) (l:Linkage):Prop where
 good:Good t
 ok:qoz t
 n1:1≤t.Attrs.length
 lnk:LnkT t l
 lim:vkj t l=0
 rows:t.Rows.length≤6
 rules:l.Rules.length≤8
 nb:l.Block.length≤16
 surv:l.Survive.length=t.Attrs.length
 survs:∀x∈l.Survive,1≤x∧x≤5
def qpg (n:Nat) (d:Drossref56_Draft):List (List Similar):=d.Rules.map fun r=>r.map (qrb n)
theorem vof (n:Nat) (hn:1≤n) (hn2:n≤16) (d:Drossref56_Draft) (hok:qbz d):∃B S,qae (qbs (n:Int) d) ([],[],0)=some (B,S)∧B.Nodup∧(∀x∈B,0≤x∧x < (n:Int))∧B.length≤n∧S.length=n∧(∀x∈S,1≤x∧x≤5) ∧
  qke (n:Int) d=some (if q5y d then (⟨qpg n d,B,S⟩,decide (d.Rules.length≤4)) else (⟨[],[],[]⟩,false)):=by
 obtain ⟨B,S,h,h1,h2,h3,h4,h5⟩:=vbx n hn2 d hok;refine ⟨B,S,h,h1,h2,h3,h4,h5,?_⟩;simp only [qke,vbw n hn hn2 d hok,vvn];cases q5y d with
 | true =>
  have e:(decide ((d.Rules.length:Int)≤4))=decide (d.Rules.length≤4):=decide_eq_decide.2 (by omega);simp only [if_true,h,vvn,e];rfl
 | false=>simp
theorem vjl (n:Nat) (hn:1≤n) (hn2:n≤16) (d:Drossref56_Draft) (hok:qbz d) (hg:q5y d=true) (hl:d.Rules.length≤8) {B S:List Int} (h1:B.Nodup) (h2:∀x∈B,0≤x∧x < (n:Int)) (h4:S.length=n) (h5:∀x∈S,1≤x∧x≤5):q47 (n:Int) ⟨qpg n d,B,S⟩=0:=by
 have hg':∀r∈d.Rules,1≤r.length∧r.length≤3:=fun r hr=>of_decide_eq_true (vv7.1 hg r hr)
 have e1:qkm (q19 (n:Int)) (qpg n d)=0:=by
  refine qsj fun r hr=>?_
  obtain ⟨q,hq,rfl⟩:=vwz.1 hr;have:=hg' q hq;unfold q19;rw [if_neg (by rw [vuf];omega)];refine qsj fun c hc=>?_
  obtain ⟨x,hx,rfl⟩:=vwz.1 hc;exact vjk n hn ((hok.1.2 q hq).2 x hx)
 have e2:q46 (n:Int) B=0:=by
  unfold q46;rw [if_neg (by
   rw [vv9];rintro ⟨x,hx,h⟩;have:=h2 x hx;have h:=of_decide_eq_true h;omega),if_pos h1]
 unfold q47;have a1:¬((n:Int) < 0∨(n:Int) > 16):=by omega
 have a2:¬(qpg n d).length > 8:=by rw [qpg,vuf];omega
 have a3:¬(S.any (fun x=>decide (x < 1∨x > 5)))=true:=by
  rw [vv9];rintro ⟨x,hx,h⟩;have:=h5 x hx;have h:=of_decide_eq_true h;omega
 simp only [if_neg a1,if_neg a2,e1,e2,ne_eq,not_true,if_false,h4,if_neg a3]
theorem vog {t:Table} (G:Good t) (ht:qoz t) (n1:1≤t.Attrs.length) (hr:t.Rows.length≤6) (d:Drossref56_Draft) (hok:qbz d) (hg:q5y d=true) (hl:d.Rules.length≤8) {B S:List Int} (h1:B.Nodup) (h2:∀x∈B,0≤x∧x < (t.Attrs.length:Int)) (h3:B.length≤t.Attrs.length) (h4:S.length=t.Attrs.length) (h5:∀x∈S,1≤x∧x≤5):Made t ⟨qpg t.Attrs.length d,B,S⟩:=by
 have hn:=G.attrs;have hg':∀r∈d.Rules,1≤r.length∧r.length≤3:=fun r hr=>of_decide_eq_true (vv7.1 hg r hr)
 refine ⟨G,ht,n1,⟨G.err,G.ok,by omega,by omega,?_,?_,?_,?_,h2⟩,?_,hr,?_,?_,h4,h5⟩
 ·simp only [qpg,vuf];omega
 ·intro r hr;obtain ⟨q,hq,rfl⟩:=vwz.1 hr;have:=hg' q hq;rw [vuf];omega
 ·simp only;omega
 ·simp only;omega
 ·unfold vkj;rw [vjl t.Attrs.length n1 (by omega) d hok hg hl h1 h2 h4 h5,G.err];simp only [ne_eq,not_true,if_false];rw [if_neg (by omega)]
 ·simp only [qpg,vuf];omega
 ·simp only;omega
theorem voh (x:Drossref03_Recipe) (h:qf2 x):qex x 6=some (⟨[],[],[]⟩,false)∨∃t,qex x 6=some (t,true)∧qoz t∧Good t∧t.Rows.length≤6∧t.Attrs.length≤5:=by
 by_cases hr:x.Rows.length≤6
 ·right;obtain ⟨ha,hg,hl⟩:=h;have ha':=q2q ha;have hg':=q2q hg;have h1:¬((x.Rows.length:Int) > 6):=by omega
  have hm:vxq x.Attrs 6=((x.Attrs.toNat % 6:Nat):Int):=by
   rw [Int.tmod_eq_emod_of_nonneg ha'.1];omega
  have e1:vxs.wrap (vxq x.Attrs 6)=((x.Attrs.toNat % 6:Nat):Int):=by rw [hm,qav (by omega) (by omega)]
  refine ⟨q86 x (x.Attrs.toNat % 6),?_,vn5 _ _ (by omega) (by omega),q7t x (by omega),?_,?_⟩
  ·simp only [qex,if_neg h1,e1,vnp x (x.Attrs.toNat % 6) (by omega) (by omega) (fun r hr=>(hl.2 r hr).1) hg',vvn]
  ·simp only [q86,vuf,vwp];exact hr
  ·simp only [q86,vuj];omega
 ·left;simp only [qex,if_pos (show (x.Rows.length:Int) > 6 by omega)]
theorem of56 (x:Drossref03_Recipe) (d:Drossref56_Draft) (hx:qf2 x) (hd:qbz d) :
  (∃t l,qec x d=some (t,l,false))∨∃t B S,qec x d=some (t,⟨qpg t.Attrs.length d,B,S⟩,true)∧Made t ⟨qpg t.Attrs.length d,B,S⟩∧q5y d=true∧d.Rules.length≤4∧qae (qbs (t.Attrs.length:Int) d) ([],[],0)=some (B,S):=by
 rcases voh x hx with h | ⟨t,h,ht,G,hr,hn⟩
 ·left;exact ⟨⟨[],[],[]⟩,⟨[],[],[]⟩,by simp [qec,h]⟩
 ·by_cases n0:t.Attrs.length=0
  ·left;exact ⟨⟨[],[],[]⟩,⟨[],[],[]⟩,by simp [qec,h,n0]⟩
  ·obtain ⟨B,S,hL,h1,h2,h3,h4,h5,e⟩:=vof t.Attrs.length (by omega) (by omega) d hd;have z:((t.Attrs.length:Int) == 0)=false:=beq_eq_false_iff_ne.2 (by omega);by_cases hg:q5y d=true
   ·by_cases hl:d.Rules.length≤4
    ·right;refine ⟨t,B,S,?_,vog G ht (by omega) hr d hd hg (by omega) h1 h2 h3 h4 h5,hg,hl,hL⟩;simp only [qec,h,vvn,if_true,z,vtk,if_false,e,if_pos hg,decide_eq_true hl]
    ·left;exact ⟨t,⟨qpg t.Attrs.length d,B,S⟩,by simp only [qec,h,vvn,if_true,z,vtk,if_false,e,if_pos hg,decide_eq_false hl]⟩
   ·left;exact ⟨t,⟨[],[],[]⟩,by simp only [qec,h,vvn,if_true,z,vtk,if_false,e,if_neg hg]⟩
theorem q5z {t:Table} (l:Linkage) (he:qbe t=0) (hn:t.Rows.length≤6):(qu1 (qt3 t l)).length≤6∧∀c∈qu1 (qt3 t l),c.length≤6∧c≠[]:=by
 have hp:=qq4 (qt3 t l);have h1:=q9i l he;refine ⟨by rw [hp.length_eq];omega,fun c hc=>?_⟩;have:=qqb he (hp.mem_iff.1 hc);exact ⟨by omega,this.2.2.2⟩
theorem voi (t:Table) (cs:List (List Int)) (hr:t.Rows.length≤1073741824) (hl:cs.length≤1048576) (hc:∀c∈cs,c.length≤1048576):qiy t cs=some (divB t cs):=by
 have h:=vnk t cs hr hl hc cs 0 0 rfl (Nat.zero_le _) (by omega);simp only [vxn,Nat.zero_add] at h;simp only [qiy,vni cs hl hc,vvn,h,divB];cases qq8 [] cs
 ·rfl
 ·simp only [if_true,Bool.true_and];cases cs.flatten.all (fun x=>decide (x∈ids t))
  ·simp
  ·simp only [if_true,Bool.and_true];congr 1;rw [vxj,beq_iff_eq,decide_eq_true_eq];omega
theorem vjm {t:Table} {l:Linkage} (M:Made t l):qiy t (qu1 (qt3 t l))=some true:=by
 obtain ⟨h1,h2⟩:=q5z l M.good.err M.rows;have:=M.rows;rw [voi t _ (by omega) (by omega) fun c hc=>by have:=(h2 c hc).1;omega,vn9 l M.good.err]
theorem qqd (x:Drossref03_Recipe) (d:Drossref56_Draft) (hx:qf2 x) (hd:qbz d):qcf x d=some true:=by
 rcases of56 x d hx hd with ⟨t,l,h⟩ | ⟨t,B,S,h,M,_⟩
 ·simp only [qcf,h,vf8,vvn,if_true,Bool.not_false]
 ·simp only [qcf,h,vf8,vvn,if_true,Bool.not_true,vtk,if_false,q0m M.lnk M.lim M.rows,beq_self_eq_true,vbu M.lnk M.rows,vjm M];obtain ⟨h1,h2⟩:=q5z ⟨qpg t.Attrs.length d,B,S⟩ M.good.err M.rows;rw [q0e _ _ (by omega) fun c hc=>by have:=(h2 c hc).1;omega];simp
end Go.Proofs.YtmlegeeinnkhkaaGreat
