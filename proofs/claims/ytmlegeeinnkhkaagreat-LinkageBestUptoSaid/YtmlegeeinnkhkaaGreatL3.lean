/- The Lean functions that the program's functions are lifted to, and the plain laws about them. -/
import Derived.Test.YtmlegeeinnkhkaaGreatL2
set_option linter.unusedVariables false
set_option linter.unusedSimpArgs false
open Bool renaming false_eq_true→vs4
open Int renaming natCast_zero→vw7
open List renaming all_eq_true→vvr,any_eq_true→vvt,getD_eq_getElem?_getD→vvx,getElem?_eq_getElem→vtp,getElem_mem→vv4,length_map→vtz,length_range→vv9,length_take→vt3,mem_flatMap→vt8,mem_flatten→vxq,mem_iff_getElem→vy2,mem_map→vwj,mem_range→vwl,nodup_range→vy6,range→vuf
open Option renaming bind_some→vu7
noncomputable section
namespace Go.Proofs.YtmlegeeinnkhkaaGreat
open Go Go.Ab
theorem qrq {α:Type} {f:α→Int}:∀{l:List α},(∀x∈l,f x=0)→qjq f l=0
 | [],_=>rfl
 | x :: l,h=>by
  have h1:=h x List.mem_cons_self;unfold qjq;rw [if_neg (by simp [h1])];exact qrq fun y hy=>h y (List.mem_cons_of_mem _ hy)
structure Made (t:Table) (l:Linkage):Prop where
 good:Good t
 ok:qoe t
 n1:1≤t.Attrs.length
 lnk:LnkT t l
 lim:vj5 t l=0
 rows:t.Rows.length≤6
 rules:l.Rules.length≤8
 nb:l.Block.length≤16
 surv:l.Survive.length=t.Attrs.length
 survs:∀x∈l.Survive,1≤x∧x≤5
def qor (n:Nat) (d:Drossref56_Draft):List (List Similar):=d.Rules.map fun r=>r.map (qqi n)
theorem vn0 (n:Nat) (hn:1≤n) (hn2:n≤16) (d:Drossref56_Draft) (hok:qbt d):∃B S,qag (qbo (n:Int) d) ([],[],0)=some (B,S)∧B.Nodup∧(∀x∈B,0≤x∧x < (n:Int))∧B.length≤n∧S.length=n∧(∀x∈S,1≤x∧x≤5) ∧
  qjl (n:Int) d=some (if q5c d then (⟨qor n d,B,S⟩,decide (d.Rules.length≤4)) else (⟨[],[],[]⟩,false)):=by
 obtain ⟨B,S,h,h1,h2,h3,h4,h5⟩:=vbg n hn2 d hok;refine ⟨B,S,h,h1,h2,h3,h4,h5,?_⟩;simp only [qjl,vbf n hn hn2 d hok,vu7];cases q5c d with
 | true =>
  have e:(decide ((d.Rules.length:Int)≤4))=decide (d.Rules.length≤4):=decide_eq_decide.2 (by omega);simp only [if_true,h,vu7,e];rfl
 | false=>simp
theorem vi7 (n:Nat) (hn:1≤n) (hn2:n≤16) (d:Drossref56_Draft) (hok:qbt d) (hg:q5c d=true) (hl:d.Rules.length≤8) {B S:List Int} (h1:B.Nodup) (h2:∀x∈B,0≤x∧x < (n:Int)) (h4:S.length=n) (h5:∀x∈S,1≤x∧x≤5):q4m (n:Int) ⟨qor n d,B,S⟩=0:=by
 have hg':∀r∈d.Rules,1≤r.length∧r.length≤3:=fun r hr=>of_decide_eq_true (vvr.1 hg r hr)
 have e1:qjq (q1o (n:Int)) (qor n d)=0:=by
  refine qrq fun r hr=>?_
  obtain ⟨q,hq,rfl⟩:=vwj.1 hr;have:=hg' q hq;unfold q1o;rw [if_neg (by rw [vtz];omega)];refine qrq fun c hc=>?_
  obtain ⟨x,hx,rfl⟩:=vwj.1 hc;exact vi6 n hn ((hok.1.2 q hq).2 x hx)
 have e2:q4l (n:Int) B=0:=by
  unfold q4l;rw [if_neg (by
   rw [vvt];rintro ⟨x,hx,h⟩;have:=h2 x hx;have h:=of_decide_eq_true h;omega),if_pos h1]
 unfold q4m;have a1:¬((n:Int) < 0∨(n:Int) > 16):=by omega
 have a2:¬(qor n d).length > 8:=by rw [qor,vtz];omega
 have a3:¬(S.any (fun x=>decide (x < 1∨x > 5)))=true:=by
  rw [vvt];rintro ⟨x,hx,h⟩;have:=h5 x hx;have h:=of_decide_eq_true h;omega
 simp only [if_neg a1,if_neg a2,e1,e2,ne_eq,not_true,if_false,h4,if_neg a3]
theorem vn1 {t:Table} (G:Good t) (ht:qoe t) (n1:1≤t.Attrs.length) (hr:t.Rows.length≤6) (d:Drossref56_Draft) (hok:qbt d) (hg:q5c d=true) (hl:d.Rules.length≤8) {B S:List Int} (h1:B.Nodup) (h2:∀x∈B,0≤x∧x < (t.Attrs.length:Int)) (h3:B.length≤t.Attrs.length) (h4:S.length=t.Attrs.length) (h5:∀x∈S,1≤x∧x≤5):Made t ⟨qor t.Attrs.length d,B,S⟩:=by
 have hn:=G.attrs;have hg':∀r∈d.Rules,1≤r.length∧r.length≤3:=fun r hr=>of_decide_eq_true (vvr.1 hg r hr)
 refine ⟨G,ht,n1,⟨G.err,G.ok,by omega,by omega,?_,?_,?_,?_,h2⟩,?_,hr,?_,?_,h4,h5⟩
 ·simp only [qor,vtz];omega
 ·intro r hr;obtain ⟨q,hq,rfl⟩:=vwj.1 hr;have:=hg' q hq;rw [vtz];omega
 ·simp only;omega
 ·simp only;omega
 ·unfold vj5;rw [vi7 t.Attrs.length n1 (by omega) d hok hg hl h1 h2 h4 h5,G.err];simp only [ne_eq,not_true,if_false];rw [if_neg (by omega)]
 ·simp only [qor,vtz];omega
 ·simp only;omega
theorem vn2 (x:Drossref03_Recipe) (h:qfd x):qee x 6=some (⟨[],[],[]⟩,false)∨∃t,qee x 6=some (t,true)∧qoe t∧Good t∧t.Rows.length≤6∧t.Attrs.length≤5:=by
 by_cases hr:x.Rows.length≤6
 ·right;obtain ⟨ha,hg,hl⟩:=h;have ha':=q13 ha;have hg':=q13 hg;have h1:¬((x.Rows.length:Int) > 6):=by omega
  have hm:Int.tmod x.Attrs 6=((x.Attrs.toNat % 6:Nat):Int):=by
   rw [Int.tmod_eq_emod_of_nonneg ha'.1];omega
  have e1:IntKind.i64.wrap (Int.tmod x.Attrs 6)=((x.Attrs.toNat % 6:Nat):Int):=by rw [hm,qax (by omega) (by omega)]
  refine ⟨q8q x (x.Attrs.toNat % 6),?_,vnq _ _ (by omega) (by omega),q7a x (by omega),?_,?_⟩
  ·simp only [qee,if_neg h1,e1,vna x (x.Attrs.toNat % 6) (by omega) (by omega) (fun r hr=>(hl.2 r hr).1) hg',vu7]
  ·simp only [q8q,vtz,vv9];exact hr
  ·simp only [q8q,vt3];omega
 ·left;simp only [qee,if_pos (show (x.Rows.length:Int) > 6 by omega)]
theorem of56 (x:Drossref03_Recipe) (d:Drossref56_Draft) (hx:qfd x) (hd:qbt d) :
  (∃t l,qdz x d=some (t,l,false))∨∃t B S,qdz x d=some (t,⟨qor t.Attrs.length d,B,S⟩,true)∧Made t ⟨qor t.Attrs.length d,B,S⟩∧q5c d=true∧d.Rules.length≤4∧qag (qbo (t.Attrs.length:Int) d) ([],[],0)=some (B,S):=by
 rcases vn2 x hx with h | ⟨t,h,ht,G,hr,hn⟩
 ·left;exact ⟨⟨[],[],[]⟩,⟨[],[],[]⟩,by simp [qdz,h]⟩
 ·by_cases n0:t.Attrs.length=0
  ·left;exact ⟨⟨[],[],[]⟩,⟨[],[],[]⟩,by simp [qdz,h,n0]⟩
  ·obtain ⟨B,S,hL,h1,h2,h3,h4,h5,e⟩:=vn0 t.Attrs.length (by omega) (by omega) d hd;have z:((t.Attrs.length:Int) == 0)=false:=beq_eq_false_iff_ne.2 (by omega);by_cases hg:q5c d=true
   ·by_cases hl:d.Rules.length≤4
    ·right;refine ⟨t,B,S,?_,vn1 G ht (by omega) hr d hd hg (by omega) h1 h2 h3 h4 h5,hg,hl,hL⟩;simp only [qdz,h,vu7,if_true,z,vs4,if_false,e,if_pos hg,decide_eq_true hl]
    ·left;exact ⟨t,⟨qor t.Attrs.length d,B,S⟩,by simp only [qdz,h,vu7,if_true,z,vs4,if_false,e,if_pos hg,decide_eq_false hl]⟩
   ·left;exact ⟨t,⟨[],[],[]⟩,by simp only [qdz,h,vu7,if_true,z,vs4,if_false,e,if_neg hg]⟩
theorem q5d {t:Table} (l:Linkage) (he:qa4 t=0) (hn:t.Rows.length≤6):(qtd (qqa t l)).length≤6∧∀c∈qtd (qqa t l),c.length≤6∧c≠[]:=by
 have hp:=qj6 (qqa t l);have h1:=q8z l he;refine ⟨by rw [hp.length_eq];omega,fun c hc=>?_⟩;have:=qpk he (hp.mem_iff.1 hc);exact ⟨by omega,this.2.2.2⟩
theorem vn3 (t:Table) (cs:List (List Int)) (hr:t.Rows.length≤1073741824) (hl:cs.length≤1048576) (hc:∀c∈cs,c.length≤1048576):qh8 t cs=some (divB t cs):=by
 have h:=vm5 t cs hr hl hc cs 0 0 rfl (Nat.zero_le _) (by omega);simp only [vw7,Nat.zero_add] at h;simp only [qh8,vm3 cs hl hc,vu7,h,divB];cases qqf [] cs
 ·rfl
 ·simp only [if_true,Bool.true_and];cases cs.flatten.all (fun x=>decide (x∈ids t))
  ·simp
  ·simp only [if_true,Bool.and_true];congr 1;rw [Bool.eq_iff_iff,beq_iff_eq,decide_eq_true_eq];omega
theorem vi8 {t:Table} {l:Linkage} (M:Made t l):qh8 t (qtd (qqa t l))=some true:=by
 obtain ⟨h1,h2⟩:=q5d l M.good.err M.rows;have:=M.rows;rw [vn3 t _ (by omega) (by omega) fun c hc=>by have:=(h2 c hc).1;omega,vnu l M.good.err]
theorem vbh {n j:Nat} {p:Nat→Bool} (hj:j < n) (h:∀k,k < n→(p k=true↔k=j)):(vuf n).filter p=[j]:=by
 refine List.perm_singleton.1 (qp4 (vy6.sublist List.filter_sublist) (by simp) fun x=>?_);rw [List.mem_filter,vwl,List.mem_singleton];constructor
 ·rintro ⟨h1,h2⟩;exact (h x h1).1 h2
 ·rintro rfl;exact ⟨hj,(h x hj).2 rfl⟩
def qvb (t:Table) (l:Linkage):List (List Int):=qtd (qqa t l)
def inC (cs:List (List Int)) (x:Int) (j:Nat):Bool:=decide (x∈cs.getD j [])
def qcf (t:Table) (l:Linkage) (i:Nat):Nat:=((vuf (qvb t l).length).filter (inC (qvb t l) (qi9 t i).ID)).headD 0
theorem quh {t:Table} (l:Linkage) (he:qa4 t=0):(qvb t l).flatten.Nodup:=by
 have:=(qj6 (qqa t l)).flatten;exact this.nodup_iff.2 (qug l he)
theorem qui {t:Table} (l:Linkage) (he:qa4 t=0) {i:Nat} (hi:i < t.Rows.length) :
  (vuf (qvb t l).length).filter (inC (qvb t l) (qi9 t i).ID)=[qcf t l i]∧qcf t l i < (qvb t l).length∧(qi9 t i).ID∈(qvb t l).getD (qcf t l i) []:=by
 have hm:(qi9 t i).ID∈(qvb t l).flatten:=by
  have h1:=(qj6 (qqa t l)).flatten;rw [show (qvb t l).flatten=(qtd (qqa t l)).flatten from rfl,h1.mem_iff,(qte l).mem_iff];exact vwj.2 ⟨qi9 t i,qms hi,rfl⟩
 obtain ⟨c,hc,hx⟩:=vxq.1 hm;obtain ⟨j,hj,rfl⟩:=vy2.1 hc;have hg:∀k (hk:k < (qvb t l).length),(qvb t l).getD k []=(qvb t l)[k]:=fun k hk=>by simp [vvx,vtp hk]
 have hf:(vuf (qvb t l).length).filter (inC (qvb t l) (qi9 t i).ID)=[j]:=vbh hj fun k hk=>by
  unfold inC;rw [decide_eq_true_eq,hg k hk];constructor
  ·intro h;exact qtf (quh l he) (vtp hk) (vtp hj) h hx
  ·rintro rfl;exact hx
 have hl:qcf t l i=j:=by unfold qcf;rw [hf];rfl
 rw [hl];exact ⟨hf,hj,by rw [hg j hj];exact hx⟩
theorem q80 {t:Table} (l:Linkage) (he:qa4 t=0) {i k:Nat} (hi:i < t.Rows.length) (hk:k < t.Rows.length):qcf t l i=qcf t l k↔∃P∈qxs t l,i∈P∧k∈P:=by
 obtain ⟨f1,l1,m1⟩:=qui l he hi;obtain ⟨f2,l2,m2⟩:=qui l he hk;have hg:∀k (hk:k < (qvb t l).length),(qvb t l).getD k []=(qvb t l)[k]:=fun k hk=>by simp [vvx,vtp hk]
 have hp:=qj6 (qqa t l);constructor
 ·intro e;rw [←e,hg _ l1] at m2;rw [hg _ l1] at m1;have hc:(qvb t l)[qcf t l i]∈qqa t l:=hp.mem_iff.1 (vv4 l1);obtain ⟨P,hP,eP⟩:=vwj.1 hc;rw [←eP] at m1 m2;obtain ⟨a,ha,ea⟩:=vwj.1 m1;obtain ⟨b,hb,eb⟩:=vwj.1 m2;have hn:=(vfo hP).2.2.1;have:=vfs he (hn a ha) hi ea;have:=vfs he (hn b hb) hk eb
  subst_vars
  exact ⟨P,hP,ha,hb⟩
 ·rintro ⟨P,hP,h1,h2⟩;have hc:ql1 t P∈qvb t l:=hp.mem_iff.2 (vwj.2 ⟨P,hP,rfl⟩);obtain ⟨j,hj,ej⟩:=vy2.1 hc;have a1:(qi9 t i).ID∈(qvb t l)[j]:=by rw [ej];exact vwj.2 ⟨i,h1,rfl⟩
  have a2:(qi9 t k).ID∈(qvb t l)[j]:=by rw [ej];exact vwj.2 ⟨k,h2,rfl⟩
  rw [hg _ l1] at m1;rw [hg _ l2] at m2;have e1:=qtf (quh l he) (vtp l1) (vtp hj) m1 a1;have e2:=qtf (quh l he) (vtp l2) (vtp hj) m2 a2;omega
theorem q81 {t:Table} {l:Linkage} {C D:List Nat} (hC:C∈qf7 (RT t l) t.Rows.length) (hD:D∈qf7 (RT t l) t.Rows.length) {x:Nat} (h1:x∈C) (h2:x∈D):C=D:=by
 obtain ⟨v,hv,rfl⟩:=vwj.1 hC;obtain ⟨w,hw,rfl⟩:=vwj.1 hD;rw [q8e (q12 t l) hv hw (qfe.1 h1).2 (qfe.1 h2).2]
theorem q82 {t:Table} {l:Linkage} {P:List Nat} (hP:P∈qxs t l):∃C∈qf7 (RT t l) t.Rows.length,P∈qks (qib (wT t l) C) C∧∀x∈P,x∈C:=by
 obtain ⟨C,hC,h⟩:=vt8.1 hP;obtain ⟨c,_,hn,hl⟩:=qmt (wT t l) C;refine ⟨C,hC,h,fun x hx=>?_⟩;exact (quf hn hl).mem_iff.1 (vxq.2 ⟨P,h,hx⟩)
theorem q83 {C:List Nat} (hC:C.Pairwise (· < ·)) {i k:Nat} (hi:i < C.length) (hk:k < C.length) (h:C.getD i 0=C.getD k 0):i=k:=by
 rcases Nat.lt_trichotomy i k with q | q | q
 ·have:=qtc hC q hk;omega
 ·exact q
 ·have:=qtc hC q hi;omega
theorem qxt {C:List Nat} {i:Nat} (hi:i < C.length):C.getD i 0∈C:=by
 rw [vvx,vtp hi];exact vv4 hi
theorem vi9 {t:Table} (l:Linkage) (he:qa4 t=0) {C:List Nat} (hC:C∈qf7 (RT t l) t.Rows.length) {i k:Nat} (hi:i < C.length) (hk:k < C.length) :
  (qib (wT t l) C).getD i 0=(qib (wT t l) C).getD k 0↔qcf t l (C.getD i 0)=qcf t l (C.getD k 0):=by
 obtain ⟨c1,c2,_,_⟩:=que hC;obtain ⟨c,_,hn,hl⟩:=qmt (wT t l) C;rw [q80 l he (c2 _ (qxt hi)) (c2 _ (qxt hk))];constructor
 ·intro e;obtain ⟨q,hq,eq⟩:=q44 hn (i:=i) (by omega);refine ⟨(qvs (qib (wT t l) C) (qib (wT t l) C).length q).map fun i=>C.getD i 0,?_,?_,?_⟩
  ·exact vt8.2 ⟨C,hC,vwj.2 ⟨q,vwl.2 hq,rfl⟩⟩
  ·exact vwj.2 ⟨i,qk7.2 ⟨by omega,eq⟩,rfl⟩
  ·exact vwj.2 ⟨k,qk7.2 ⟨by omega,by rw [←e];exact eq⟩,rfl⟩
 ·rintro ⟨P,hP,h1,h2⟩;obtain ⟨D,hD,hPD,hsub⟩:=q82 hP;obtain rfl:=q81 hD hC (hsub _ h1) (qxt hi);obtain ⟨q,_,rfl⟩:=vwj.1 hPD;obtain ⟨a,ha,ea⟩:=vwj.1 h1;obtain ⟨b,hb,eb⟩:=vwj.1 h2;have ha:=qk7.1 ha;have hb:=qk7.1 hb;have:=q83 c1 (by omega) hi ea;have:=q83 c1 (by omega) hk eb
  subst_vars
  rw [ha.2,hb.2]
theorem vbi {t:Table} {l:Linkage}:(qf7 (RT t l) t.Rows.length).Pairwise fun a b=>∀i∈a,∀k∈b,i≠k:=by
 have h:(qf7 (RT t l) t.Rows.length).flatten.Nodup:=(qrj (q12 t l) _).nodup_iff.2 vy6;unfold List.Nodup at h;rw [List.pairwise_flatten] at h;exact h.2
theorem vfx {t:Table} (l:Linkage) (he:qa4 t=0):∃b,vap (wT t l) t.Rows.length=some (b,qdu (wT t l) ((vuf t.Rows.length).map fun i=>(qcf t l i:Int)) t.Rows.length):=by
 obtain ⟨b,h⟩:=vd7 (W:=wT t l) (vfj t l).2.1 (n:=t.Rows.length) (L:=qf7 (RT t l) t.Rows.length) (qrj (q12 t l) _) (fun i=>(qcf t l i:Int)) (qib (wT t l))
  (fun C hC=>by obtain ⟨c,h,_⟩:=qmt (wT t l) C;exact ⟨c,h⟩)
  (fun C hC i k hi hk=>by rw [vi9 l he hC hi hk];omega)
  (by
   refine (List.Pairwise.and_mem.1 vbi).imp fun {a b} hab i hi k hk=>?_
   obtain ⟨ha,hb,hd⟩:=hab;have hne:=hd i hi k hk;have hin:=(que ha).2.1 i hi;have hkn:=(que hb).2.1 k hk;have hno:∀D∈qf7 (RT t l) t.Rows.length,i∈D→k∈D→False:=fun D hD h1 h2=>by
    obtain rfl:=q81 hD ha h1 hi;exact hd k h2 k hk rfl
   constructor
   ·unfold wT;rw [if_neg hne];split
    ·rename_i hm;exfalso;have hR:RT t l i k:=by
      rw [vfn];rcases Nat.lt_or_gt_of_ne hne with q | q
      ·left;rw [Nat.min_eq_left (by omega),Nat.max_eq_right (by omega)] at hm;exact ⟨q,hkn,hm⟩
      ·right;rw [Nat.min_eq_right (by omega),Nat.max_eq_left (by omega)] at hm;exact ⟨q,hin,hm⟩
     obtain ⟨v,hv,rfl⟩:=vwj.1 ha;exact hno _ ha hi (qfe.2 ⟨hkn,(qfe.1 hi).2.step hR⟩)
    ·omega
   ·intro e;have e:qcf t l i=qcf t l k:=by omega
    obtain ⟨P,hP,h1,h2⟩:=(q80 l he hin hkn).1 e;obtain ⟨D,hD,_,hsub⟩:=q82 hP;exact hno D hD (hsub _ h1) (hsub _ h2))
 refine ⟨b,?_⟩;rw [h,qjy];congr 2;refine qk4 fun i hi k hk=>?_
 have hi:=vwl.1 hi;have hk:=vwl.1 hk;simp [vvx,hi,hk]
theorem vbj (cs:List (List Int)) (x:Row) (hl:cs.length≤6) (hc:∀c∈cs,c.length≤1000):∀(m k:Nat) (out:List Int),k+m=cs.length→out.length+m≤1000 →
  qag (qbr (cs,0) x) (out,(k:Int))=some (out++((List.range' k m).filter (inC cs x.ID)).map fun (j:Nat)=>(j:Int)):=by
 intro m
 induction m with
 | zero =>
  intro k out hk ho;have c:¬((k:Int) < (cs.length:Int)):=by omega
  rw [qad (t:=out) (by simp only [qbr,if_neg c])];simp
 | succ m ih =>
  intro k out hk ho;have hx:cs[k]?=some cs[k]:=vtp (by omega);have hm:cs[k]∈cs:=vv4 (by omega);have hg:cs.getD k []=cs[k]:=by simp [vvx,hx]
  have hr:qao (out.length+1) 8=true:=qqd (by omega);have w:=wqn k;have hh:qeq cs[k] x.ID=some (inC cs x.ID k):=by
   rw [q8n _ _ (by have:=hc _ hm;omega)];unfold inC;rw [hg]
  rw [List.range'_succ,List.filter_cons];cases q:inC cs x.ID k with
  | true =>
   rw [qaf (s':=(out++[(k:Int)],((k+1:Nat):Int))) (by simp only [qbr,if_pos (qaj hx),qaa hx,vu7,hh,q,if_true,hr,w])];rw [ih (k+1) _ (by omega) (by rw [List.length_append,List.length_singleton];omega)];simp
  | false =>
   rw [qaf (s':=(out,((k+1:Nat):Int))) (by simp only [qbr,if_pos (qaj hx),qaa hx,vu7,hh,q,vs4,if_false,w])];rw [ih (k+1) _ (by omega) (by omega)];simp
theorem vbk {t:Table} (l:Linkage) (he:qa4 t=0) (hn:t.Rows.length≤6) (b:Bool) (l':Linkage):qag (qbc (t,l',b) (qvb t l,0)) ([],[],0)=some ((vuf t.Rows.length).map (fun i=>(qcf t l i:Int)),ids t):=by
 obtain ⟨h1,h2⟩:=q5d l he hn;have key:∀(m k:Nat),k+m=t.Rows.length→qag (qbc (t,l',b) (qvb t l,0)) ((vuf k).map (fun i=>(qcf t l i:Int)),(ids t).take k,(k:Int))=some ((vuf t.Rows.length).map (fun i=>(qcf t l i:Int)),ids t):=by
  intro m
  induction m with
  | zero =>
   intro k hk;obtain rfl:k=t.Rows.length:=by omega
   refine qad ?_;have e:(ids t).take t.Rows.length=ids t:=List.take_of_length_le (by simp [ids]);simp only [qbc,if_neg (Int.lt_irrefl _),e]
  | succ m ih =>
   intro k hk;have hk':k < t.Rows.length:=by omega
   have hx:=qh9 hk';have w:=wqn k;have hr:qao (((ids t).take k).length+1) 8=true:=qqd (by rw [vt3];omega);have hi:=vbj (qvb t l) (qi9 t k) h1 (fun c hc=>by have:=(h2 c hc).1;omega) (qvb t l).length 0 ((vuf k).map (fun i=>(qcf t l i:Int))) (by omega) (by rw [vtz,vv9];have:(qvb t l).length≤6:=h1;omega);rw [←List.range_eq_range',(qui l he hk').1] at hi;simp only [vw7,List.map_cons,List.map_nil] at hi;have e1:(vuf (k+1)).map (fun i=>(qcf t l i:Int))=(vuf k).map (fun i=>(qcf t l i:Int))++[(qcf t l k:Int)]:=by rw [List.range_succ,List.map_append];rfl
   have e2:(ids t).take (k+1)=(ids t).take k++[(qi9 t k).ID]:=by
    have hq:(ids t)[k]?=some (qi9 t k).ID:=by unfold ids;rw [List.getElem?_map,hx];rfl
    rw [List.take_add_one,hq];rfl
   rw [qaf (s':=((vuf (k+1)).map (fun i=>(qcf t l i:Int)),(ids t).take (k+1),((k+1:Nat):Int))) (by
    simp only [qbc,if_pos (qaj hx),qaa hx,vu7,hr,if_true,hi,w,e1,e2])]
   exact ih (k+1) (by omega)
 have h:=key t.Rows.length 0 (by omega);simpa using h
theorem quj (x:Drossref03_Recipe) (d:Drossref56_Draft) (hx:qfd x) (hd:qbt d):qck x d=some true:=by
 rcases of56 x d hx hd with ⟨t,l,h⟩ | ⟨t,B,S,h,M,_⟩
 ·simp only [qck,h,q7l,vu7,if_true,vs4,if_false]
 ·generalize hl:(⟨qor t.Attrs.length d,B,S⟩:Linkage)=l at *;have he:=M.good.err;by_cases h5:(t.Rows.length:Int) > 5
  ·simp only [qck,h,q7l,vu7,if_true,decide_eq_true h5]
  ·have hn:=M.rows;have hlp:qag (qbc (t,l,true) (qtd (qqa t l),0)) ([],[],0)=some ((vuf t.Rows.length).map (fun i=>(qcf t l i:Int)),ids t):=vbk l he hn true l;have hpairs:qfv t l (ids t)=some (qa1 (wT t l) t.Rows.length):=by
    have:=vnt M.lnk (C:=vuf t.Rows.length) List.pairwise_lt_range (fun x hx=>vwl.1 hx) (by rw [vv9];exact hn);rw [q46,vv9] at this;rw [this];congr 1;refine qu7 fun i k hik hk=>⟨rfl,?_⟩
    have e:∀j,j < t.Rows.length→(vuf t.Rows.length).getD j 0=j:=fun j hj=>by simp [vvx,hj]
    unfold qjo;rw [e i (by omega),e k hk]
   have hidl:(ids t).length=t.Rows.length:=by simp [ids]
   obtain ⟨b,hb⟩:=vfx l he;obtain ⟨b',c,ho,hopt⟩:=vfg (wT t l) (vfj t l) t.Rows.length hn;rw [hb] at ho;simp only [Option.some.injEq,Prod.mk.injEq] at ho;obtain ⟨rfl,rfl⟩:=ho;have hcost:qhz (t.Rows.length:Int) (qa1 (wT t l) t.Rows.length) ((vuf t.Rows.length).map fun i=>(qcf t l i:Int))=some (qdu (wT t l) ((vuf t.Rows.length).map fun i=>(qcf t l i:Int)) t.Rows.length,0):=by
    have hc:=qud (wT t l) (vfj t l) t.Rows.length hn ((vuf t.Rows.length).map fun i=>(qcf t l i:Int)) (by simp);simp only [qhz,q4z (wT t l) (vfj t l) t.Rows.length hn,vu7,bne_self_eq_false,vs4,if_false,vtz,vv9,hc]
   simp only [qck,h,q7l,vu7,if_true,decide_eq_false h5,vs4,if_false,qz3 M.lnk M.lim M.rows,bne_self_eq_false,vi8 M,hlp,hpairs,hidl,hcost,hopt,beq_self_eq_true]
end Go.Proofs.YtmlegeeinnkhkaaGreat
