/- An abstract logic for calls that only compute: what each operation does to values that are trees, and rules for walking a text. -/
import Derived.OrdersHeld
import Derived.Shelf.Spec.SlicesInsertGrow
import Derived.Lib.SlicesCompact
import Derived.Test.YtgklegblfboelaaGreatDoorA2
set_option linter.unusedVariables false
set_option linter.unusedSimpArgs false
open Array renaming ext'→vd3,getD_eq_getD_getElem?→vii,getElem?_append→vd4,getElem?_eq_getElem→vij,getElem?_eq_some_iff→vd5,getElem?_modify→vik,getElem?_replicate→vil,getElem?_setIfInBounds_ne→vd7,getElem?_toList→vd8,replicate→vim,size_append→veb
open Bool renaming and_eq_true→veg,false_eq_true→vei,not_eq_true'→vek
open Iff renaming rfl→vin
open Int renaming toNat_natCast→vio
open Go.IntKind renaming i64→vip,wrap_i64→viq
open Go.Lib renaming wpList_append_run→vir
open List renaming cons_append→vg7,getD_eq_getElem?_getD→vha,getElem?_append_left→ve0,getElem?_append_right→ve1,getElem?_cons_succ→vhb,getElem?_cons_zero→vhc,getElem?_drop→ve2,getElem?_eq_getElem→ve3,getElem?_eq_none→ve4,getElem?_eq_some_iff→ve5,getElem?_map→ve6,getElem?_mapIdx→vis,getElem?_set_ne→vit,getElem?_set_self→viu,getElem?_take→ve9,length_append→vfb,length_cons→vhe,length_drop→vfc,length_map→vfd,length_nil→vfe,length_set→vfg,length_singleton→viv,length_take→vfh,map→vhj,map_congr_left→vhk,map_cons→vfj,mem_append→vfl,mem_append_left→vhn,mem_append_right→vho,mem_cons→vhp,mem_cons_of_mem→vhq,mem_cons_self→vhr,mem_filter→vhs,mem_map→vht,mem_of_mem_drop→vfo,mem_range→vhv,mem_singleton→vhw,range→vft,replicate→vfv,size_toArray→vfw,take_of_length_le→vfz
open Nat renaming add_right_cancel→viw,beq→vh3,ble→vh4,blt→vh5,le_of_ble_eq_true→vix,le_of_succ_le→viy,le_refl→vf9,le_succ_of_le→viz,le_trans→vgb,lt_of_lt_of_le→vgc,lt_succ_self→vgd,lt_trichotomy→vh6,min_def→vi0,min_eq_left→vh7,strongRecOn→vh8,sub_self→vib,sub_zero→vgj,succ→vic,zero_le→vie
open Option renaming bind_some→vgl,map_some→vgq
open Option.some renaming inj→vih,injEq→vgr
open Prod.mk renaming injEq→vgs
open Go.Result renaming andThen_ok→vgt
open Go.Sem renaming run_bind→vgv,run_pure→vgw
noncomputable section
namespace Go.Ab
open Go
structure EvM where
 v:AV
 us:List (Nat×AO)
 rs:List Nat
def EvM.ks (e:EvM):List Nat:=e.us.map (·.1)
def qtw (C:Cx) (ops:Array Oper) (o:Oper) (ef:Nat→AV) (σ:Nat→AO) (e:EvM):Prop :=
 qbc C.N o=true∧((qh4 ops ef o=some true∧vbh C.D C.P o (evf ef) σ e.v e.us e.rs)∨(qh4 ops ef o=some false∧e=⟨.p (.tup []),[],[]⟩))
theorem vbh.frame {D:Prop} {P:Program} {o:Oper} {ρ ρ':Operand→AV} {σ τ:Nat→AO} {v:AV} {us:List (Nat×AO)} {rs:List Nat} (h:vbh D P o ρ σ v us rs) (hρ:∀x∈o.op.operands,ρ x=ρ' x) (hσ:∀l∈rs,τ l=σ l):vbh D P o ρ' τ v us rs :=
 fun X ρ2 σ2 h1 h2=>h X ρ2 σ2 (fun x hx=>(h1 x hx).trans (hρ x hx).symm) fun l hl=>(h2 l hl).trans (hσ l hl)
theorem qtw.frame {C:Cx} {ops:Array Oper} {o:Oper} {ef ef':Nat→AV} {σ τ:Nat→AO} {e:EvM} (h:qtw C ops o ef σ e) (hs:∀t∈o.looksAt ops,ef' t=ef t) (hσ:∀l∈e.rs,τ l=σ l) :
  qtw C ops o ef' τ e:=by
 obtain ⟨hd,h⟩:=h;have hg:qh4 ops ef' o=qh4 ops ef o:=by
  unfold qh4;split
  ·rfl
  ·rename_i j want hgd;split
   ·rename_i d hdd;rw [hs d (by unfold Oper.looksAt;refine vfl.2 (.inr ?_);rw [hgd];simp [hdd])]
   ·rfl
 refine ⟨hd,?_⟩;rw [hg];rcases h with ⟨h1,h2⟩ | h
 ·refine .inl ⟨h1,h2.frame (fun x hx=>?_) hσ⟩;cases x with
  | tmp t=>exact (hs t (qh6 hx)).symm
  | _=>rfl
 ·exact .inr h
def apM (ops:Array Oper):List EvM→Nat→(Nat→Bool)→(Nat→AV)×(Nat→AO)→(Nat→AV)×(Nat→AO)
 | [],_,_,s=>s
 | e :: es,i,D,s=>apM ops es (i+1) D (if D i then (qg7 s.1 ((ops[i]?).bind (·.dst)) e.v,ovr e.us s.2) else s)
theorem qxt (ops:Array Oper) (t:Nat):∀(es:List EvM) (i:Nat) (D D':Nat→Bool) (s s':(Nat→AV)×(Nat→AO)),s.1 t=s'.1 t →
  (∀j,i≤j→j < i+es.length→(ops[j]?).bind (·.dst)=some t→D j=D' j)→(apM ops es i D s).1 t=(apM ops es i D' s').1 t
 | [],_,_,_,_,_,h,_=>h
 | e :: es,i,D,D',s,s',h,hD=>by
  simp only [apM];refine qxt ops t es (i+1) D D' _ _ ?_ fun j h1 h2 h3=>hD j (by omega) (by simp only [vhe];omega) h3
  by_cases hd:(ops[i]?).bind (·.dst)=some t
  ·rw [hD i (vf9 _) (by simp) hd];split
   ·simp [qg7,hd]
   ·exact h
  ·split <;> split <;> simp [qg7,hd,h]
theorem q2p (ops:Array Oper) (l:Nat):∀(es:List EvM) (i:Nat) (D D':Nat→Bool) (s s':(Nat→AV)×(Nat→AO)),s.2 l=s'.2 l →
  (∀j e,i≤j→es[j - i]?=some e→l∈e.ks→D j=D' j)→(apM ops es i D s).2 l=(apM ops es i D' s').2 l
 | [],_,_,_,_,_,h,_=>h
 | e :: es,i,D,D',s,s',h,hD=>by
  simp only [apM];refine q2p ops l es (i+1) D D' _ _ ?_ fun j e' h1 h2 h3=>hD j e' (by omega) (by rw [show j - i=(j - (i+1))+1 by omega];simpa using h2) h3
  by_cases hd:l∈e.ks
  ·rw [hD i e (vf9 _) (by simp) hd];split
   ·exact q1y hd
   ·exact h
  ·have hd':l ∉ e.us.map (·.1):=hd;split <;> split <;> simp only [qlk hd',h]
theorem qxu (ops:Array Oper) (i:Nat) (ei:EvM):∀(es:List EvM) (k:Nat) (D:Nat→Bool) (s:(Nat→AV)×(Nat→AO)),k≤i→es[i - k]?=some ei→D i=false →
  (∀j e,i < j→es[j - k]?=some e→D j=true→((ops[j]?).bind (·.dst)=none∨(ops[j]?).bind (·.dst)≠(ops[i]?).bind (·.dst))∧(∀l∈e.ks,l ∉ ei.ks)) →
  apM ops es k (fun j=>j == i || D j) s=(qg7 (apM ops es k D s).1 ((ops[i]?).bind (·.dst)) ei.v,ovr ei.us (apM ops es k D s).2)
 | [],k,D,s,_,h,_,_=>by simp at h
 | e :: es,k,D,s,hk,h,hi,hj=>by
  by_cases hki:k=i
  ·subst hki;simp only [vib,vhc,vgr] at h;subst h;simp only [apM,beq_self_eq_true,Bool.true_or,if_true,hi,vei,if_false]
   -- the rest commutes
   have comm:∀(es':List EvM) (m:Nat) (D1 D2:Nat→Bool) (s:(Nat→AV)×(Nat→AO)),(∀j,m≤j→D1 j=D2 j) →
     (∀j e',m≤j→es'[j - m]?=some e'→D2 j=true→((ops[j]?).bind (·.dst)=none∨(ops[j]?).bind (·.dst)≠(ops[k]?).bind (·.dst))∧(∀l∈e'.ks,l ∉ e.ks)) →
     apM ops es' m D1 (qg7 s.1 ((ops[k]?).bind (·.dst)) e.v,ovr e.us s.2)=(qg7 (apM ops es' m D2 s).1 ((ops[k]?).bind (·.dst)) e.v,ovr e.us (apM ops es' m D2 s).2):=by
    intro es'
    induction es' with
    | nil=>intro m D1 D2 s _ _;rfl
    | cons e' es' ih =>
     intro m D1 D2 s hD hw;simp only [apM,hD m (vf9 _)];cases hm:D2 m with
     | false =>
      simp only [vei,if_false];exact ih (m+1) D1 D2 s (fun j hj=>hD j (by omega)) fun j e1 h1 h2 h3=>hw j e1 (by omega) (by rw [show j - m=(j - (m+1))+1 by omega];simpa using h2) h3
     | true =>
      simp only [if_true];obtain ⟨w1,w2⟩:=hw m e' (vf9 _) (by simp) hm;have e1:qg7 (qg7 s.1 ((ops[k]?).bind (·.dst)) e.v) ((ops[m]?).bind (·.dst)) e'.v=qg7 (qg7 s.1 ((ops[m]?).bind (·.dst)) e'.v) ((ops[k]?).bind (·.dst)) e.v:=by
       funext t;simp only [qg7];by_cases c1:(ops[m]?).bind (·.dst)=some t
       ·by_cases c2:(ops[k]?).bind (·.dst)=some t
        ·rcases w1 with w1 | w1
         ·rw [c1] at w1;cases w1
         ·rw [c1,c2] at w1;exact (w1 rfl).elim
        ·simp [c1,c2]
       ·simp [c1]
      have e2:ovr e'.us (ovr e.us s.2)=ovr e.us (ovr e'.us s.2):=by
       funext l;by_cases c1:l∈e'.ks
       ·have c2:l ∉ e.us.map (·.1):=w2 l c1;rw [qlk (us:=e.us) c2];exact q1y c1
       ·have c1':l ∉ e'.us.map (·.1):=c1;rw [qlk (us:=e'.us) c1'];by_cases c2:l∈e.us.map (·.1)
        ·exact q1y c2
        ·rw [qlk c2,qlk c2,qlk c1']
      rw [e1,e2];exact ih (m+1) D1 D2 (qg7 s.1 ((ops[m]?).bind (·.dst)) e'.v,ovr e'.us s.2) (fun j hj=>hD j (by omega)) fun j e1 h1 h2 h3=>hw j e1 (by omega) (by rw [show j - m=(j - (m+1))+1 by omega];simpa using h2) h3
   exact comm es (k+1) _ D s (fun j hj=>by have:(j == k)=false:=(by simp;omega);simp [this]) fun j e' h1 h2 h3=>hj j e' (by omega) (by rw [show j - k=(j - (k+1))+1 by omega];simpa using h2) h3
  ·have hb:(k == i)=false:=by simpa using hki
   simp only [apM,hb,Bool.false_or];exact qxu ops i ei es (k+1) D _ (by omega) (by rw [show i - k=(i - (k+1))+1 by omega] at h;simpa using h) hi fun j e' h1 h2 h3=>hj j e' h1 (by rw [show j - k=(j - (k+1))+1 by omega];simpa using h2) h3
def qqs (C:Cx) (ops:Array Oper):List EvM→Nat→(Nat→AV)×(Nat→AO)→Prop
 | [],_,_=>True
 | e :: es,i,s=>(∃o,ops[i]?=some o∧qtw C ops o s.1 s.2 e)∧qqs C ops es (i+1) (qg7 s.1 ((ops[i]?).bind (·.dst)) e.v,ovr e.us s.2)
theorem qqs.at {C:Cx} {ops:Array Oper}:∀{es:List EvM} {i:Nat} {s:(Nat→AV)×(Nat→AO)},qqs C ops es i s→∀j e,i≤j→es[j - i]?=some e →
  ∃o,ops[j]?=some o∧qtw C ops o (apM ops es i (fun m=>decide (m < j)) s).1 (apM ops es i (fun m=>decide (m < j)) s).2 e
 | [],i,s,h,j,e,hj,he=>by simp at he
 | e0 :: es,i,s,h,j,e,hj,he=>by
  obtain ⟨⟨o,ho,hst⟩,hrest⟩:=h;have skip:∀(es':List EvM) (m:Nat) (s':(Nat→AV)×(Nat→AO)),j≤m→apM ops es' m (fun m=>decide (m < j)) s'=s':=by
   intro es'
   induction es' with
   | nil=>intro m s' _;rfl
   | cons x xs ih=>intro m s' hm;simp only [apM];rw [if_neg (by simp;omega)];exact ih (m+1) s' (by omega)
  by_cases hji:j=i
  ·subst hji;simp only [vib,vhc,vgr] at he;subst he;rw [skip _ _ _ (vf9 _)];exact ⟨o,ho,hst⟩
  ·have hlt:i < j:=by omega
   have:=qqs.at hrest j e (by omega) (by rw [show j - i=(j - (i+1))+1 by omega] at he;simpa using he);simp only [apM];rw [if_pos (by simpa using hlt)];exact this
theorem qr1 (ops:Array Oper):∀(es:List EvM) (i:Nat) (D D':Nat→Bool) (s:(Nat→AV)×(Nat→AO)),(∀j,i≤j→j < i+es.length→D j=D' j)→apM ops es i D s=apM ops es i D' s
 | [],_,_,_,_,_=>rfl
 | e :: es,i,D,D',s,h=>by
  simp only [apM];rw [h i (vf9 _) (by simp)];exact qr1 ops es (i+1) D D' _ fun j h1 h2=>h j (by omega) (by simp only [vhe];omega)
def q9w (x y:EvM):Prop:=(∀l∈x.ks,l ∉ y.rs∧l ∉ y.ks)∧(∀l∈y.ks,l ∉ x.rs)
def EvsM (ops:Array Oper) (es:List EvM):Prop:=∀(i j:Nat) (x y:EvM),i < j→j < ops.size→es[i]?=some x→es[j]?=some y→Reach ops j i∨q9w x y
theorem SRf.putM {C:Cx} {ef:Nat→AV} {σ:Nat→AO} {inj:Inj} {a:Act} {w:World} (h:SRf C ef σ inj a w) {o:Oper} (hd:qbc C.N o=true) {v:AV} {val:Value} {us:List (Nat×AO)} {inj':Inj} {w':World}
  (h1:HR C.X inj' (ovr us σ) w') (h2:Ev C.D C.X inj σ w inj' (ovr us σ) w') (h3:AR C.X inj' (ovr us σ) w' v val) :
  SRf C (qg7 ef o.dst v) (ovr us σ) inj' (a.put o.dst val) w':=by
 refine ⟨fun t=>?_,?_,?_,h1,h.ev.trans h2⟩
 ·unfold qg7;cases hdst:o.dst with
  | none=>simpa [Act.put] using AR.ev h2 h.hr.xlt _ _ (h.env t)
  | some d =>
   simp only [qbc,hdst,decide_eq_true_eq] at hd;simp only [Act.put,vgr];by_cases ht:d=t
   ·subst ht;rw [if_pos rfl];have:(a.tmps.setIfInBounds d val).getD d undef=val:=by simp [h.size,hd]
    rw [this];exact h3
   ·rw [if_neg ht];have:(a.tmps.setIfInBounds d val).getD t undef=a.tmps.getD t undef:=by simp [vd7 ht]
    rw [this];exact AR.ev h2 h.hr.xlt _ _ (h.env t)
 ·cases hdst:o.dst <;> simp [Act.put,h.size]
 ·cases hdst:o.dst <;> simp [Act.put,h.defers]
theorem qwb {C:Cx} {ops:Array Oper} {es:List EvM} {s0:(Nat→AV)×(Nat→AO)} {Q:Exit→Act→World→Prop} {n:Nat} (hn:n≤ops.size) (hlen:es.length=n) (hch:qqs C ops es 0 s0) (hsl:qee ops=true) (hev:EvsM ops es)
  (hlast:∀j,n≤j→j < ops.size→∀i,i < j→Reach ops j i) (hQ:∀a w inj,SRf C (apM ops es 0 (fun _=>true) s0).1 (apM ops es 0 (fun _=>true) s0).2 inj a w→wpOps C.P ops Q (List.range' n (ops.size - n)) a w) :
  ∀(fuel:Nat) (listed:Array Bool) (a:Act) (w:World) (inj:Inj),listed.size=ops.size→qql ops (fun j=>listed.getD j false)→(∀j,n≤j→j < ops.size→listed.getD j false=false)→(listed.toList.filter (! ·)).length≤fuel →
   SRf C (apM ops es 0 (fun j=>listed.getD j false) s0).1 (apM ops es 0 (fun j=>listed.getD j false) s0).2 inj a w→wpAny C.P .any ops Q fuel listed a w:=by
 have full_of:∀(listed:Array Bool),listed.size=ops.size→Region.ready .any ops listed=[]→∀j,j < ops.size→listed.getD j false=true:=by
  intro listed hsz hr j
  induction j using vh8 with
  | _ j ih =>
   intro hj;by_cases hl:listed.getD j false=true
   ·exact hl
   ·have:j∈Region.ready .any ops listed:=by
     refine mem_ready.2 ⟨getD_in (by omega) (by simpa using hl),ops[j],by simp [hj],fun e he hb=>?_⟩;have hp:e.on∈qca ops j:=by
      unfold qca;simp only [hj,getElem?_pos];exact vht.2 ⟨e,vhs.2 ⟨by simpa using he,hb⟩,rfl⟩
     have hlt:=qe9 hsl hj _ hp;exact ih _ hlt (by omega)
    rw [hr] at this;cases this
 have count:∀(k:Nat) (l:List Bool) (m:Nat),m+k=l.length→(∀j,m≤j→j < l.length→l[j]?=some false)→k≤(l.filter (! ·)).length:=by
  intro k l m hm h;have h1:(l.drop m).length=k:=by rw [vfc];omega
  have h2:((l.drop m).filter (! ·))=l.drop m:=by
   rw [List.filter_eq_self];intro b hb;obtain ⟨j,hj,rfl⟩:=List.mem_iff_getElem.1 hb;have:=h (m+j) (by omega) (by rw [vfc] at hj;omega);rw [List.getElem_drop];obtain ⟨_,h3⟩:=ve5.1 this;rw [h3];rfl
  have h3:((l.drop m).filter (! ·)).length≤(l.filter (! ·)).length:=by
   conv=>rhs;rw [←List.take_append_drop m l,List.filter_append,vfb]
   omega
  rw [h2,h1] at h3;exact h3
 have done:∀(fuel:Nat) (listed:Array Bool) (a:Act) (w:World) (inj:Inj),listed.size=ops.size→(∀j,n≤j→j < ops.size→listed.getD j false=false)→(listed.toList.filter (! ·)).length≤fuel →
   SRf C (apM ops es 0 (fun j=>listed.getD j false) s0).1 (apM ops es 0 (fun j=>listed.getD j false) s0).2 inj a w→(∀j,j < n→listed.getD j false=true)→wpAny C.P .any ops Q fuel listed a w:=by
  intro fuel listed a w inj hsz hnl hf hs hfull;rw [qr1 ops es 0 _ (fun _=>true) s0 fun j _ h2=>hfull j (by omega)] at hs;refine qqr hsl hlast (ops.size - n) n _ listed a w (vf9 _) (by omega) hsz hfull hnl ?_ (hQ a w inj hs);refine vgb (count _ listed.toList n (by simp;omega) (fun j h1 h2=>?_)) hf;have:=hnl j h1 (by simp at h2;omega);have h3:j < listed.size:=by simpa using h2
  rw [vd8];simpa [h3] using this
 intro fuel
 induction fuel with
 | zero =>
  intro listed a w inj hsz hcl hnl hf hs;refine done 0 listed a w inj hsz hnl hf hs fun j hj=>?_
  apply Classical.byContradiction;intro hl;have hlt:j < listed.size:=by omega
  have hm:listed[j]'hlt∈listed.toList:=by simp
  have h0':listed[j]'hlt=false:=by simpa [hlt] using hl
  have:listed[j]'hlt∈listed.toList.filter (! ·):=vhs.2 ⟨hm,by rw [h0'];rfl⟩;have:0 < (listed.toList.filter (! ·)).length:=List.length_pos_of_mem this;omega
 | succ fuel ih =>
  intro listed a w inj hsz hcl hnl hf hs;by_cases hfull:∀j,j < n→listed.getD j false=true
  ·exact done _ listed a w inj hsz hnl hf hs hfull
  refine ⟨fun hr=>absurd (fun j hj=>full_of listed hsz hr j (by omega)) hfull,fun i hi=>?_⟩;obtain ⟨h0,o,ho,hpre⟩:=mem_ready.1 hi;have hlt:=(vd5.1 ho).1;have hltn:i < n:=by
   by_cases hltn:i < n
   ·exact hltn
   ·exfalso;apply hfull;intro j hj;have hpre':∀m∈qca ops i,listed.getD m false=true:=by
     intro m hm;unfold qca at hm;rw [ho] at hm;obtain ⟨e,he,rfl⟩:=vht.1 hm;obtain ⟨he1,he2⟩:=vhs.1 he;exact hpre e (by simpa using he1) he2
    exact (hlast i (by omega) hlt j (by omega)).ready (D:=fun j=>listed.getD j false) hcl hpre'
  have h0f:listed.getD i false=false:=getD_both h0;have hpre':∀m∈qca ops i,listed.getD m false=true:=by
   intro m hm;unfold qca at hm;rw [ho] at hm;obtain ⟨e,he,rfl⟩:=vht.1 hm;obtain ⟨he1,he2⟩:=vhs.1 he;exact hpre e (by simpa using he1) he2
  obtain ⟨e,he⟩:∃e,es[i]?=some e:=⟨es[i]'(by omega),ve3 (by omega)⟩;obtain ⟨o',ho',hst⟩:=hch.at i e (vie _) (by simpa using he);have:o'=o:=vih (ho'.symm.trans ho);subst this
  -- which are listed,compared with the text's order
  have cmpSlot:∀t∈o'.looksAt ops,(apM ops es 0 (fun j=>listed.getD j false) s0).1 t=(apM ops es 0 (fun m=>decide (m < i)) s0).1 t:=by
   intro t ht;refine qxt ops t es 0 _ _ s0 s0 rfl fun j _ hj hd=>?_
   obtain ⟨oj,hoj⟩:∃oj,ops[j]?=some oj:=⟨ops[j]'(by omega),by simp [show j < ops.size by omega]⟩;rw [hoj] at hd;simp only [vgl] at hd;rcases vh6 j i with hji | hji | hji
   ·simp only [hji,decide_true];rcases qc5 hsl hji hoj ho with hr | hr
    ·exact hr.ready (D:=fun j=>listed.getD j false) hcl hpre'
    ·exact absurd ht ((Oper.apart_spec hr).1 t hd)
   ·subst hji;simpa using h0f
   ·have:decide (j < i)=false:=by simp;omega
    rw [this];rcases qc5 hsl hji ho hoj with hr | hr
    ·by_cases hl:listed.getD j false=true
     ·have:=hr.closed (D:=fun j=>listed.getD j false) hcl hl;simp only [h0f] at this;cases this
     ·simpa using hl
    ·exact absurd ht ((Oper.apart_spec hr).2.2 t hd)
  have cmpLoc:∀l∈e.rs,(apM ops es 0 (fun j=>listed.getD j false) s0).2 l=(apM ops es 0 (fun m=>decide (m < i)) s0).2 l:=by
   intro l hl;refine q2p ops l es 0 _ _ s0 s0 rfl fun j ej _ hej hw=>?_
   simp only [vgj] at hej;have hjn:j < ops.size:=by have:=(ve5.1 hej).1;omega
   rcases vh6 j i with hji | hji | hji
   ·simp only [hji,decide_true];rcases hev _ _ _ _ hji hlt hej he with hr | hr
    ·exact hr.ready (D:=fun j=>listed.getD j false) hcl hpre'
    ·exact absurd hl (hr.1 l hw).1
   ·subst hji;simpa using h0f
   ·have:decide (j < i)=false:=by simp;omega
    rw [this];rcases hev _ _ _ _ hji hjn he hej with hr | hr
    ·by_cases hl':listed.getD j false=true
     ·have:=hr.closed (D:=fun j=>listed.getD j false) hcl hl';simp only [h0f] at this;cases this
     ·simpa using hl'
    ·exact absurd hl (hr.2 l hw)
  have hst':=hst.frame cmpSlot cmpLoc;obtain ⟨hdst,hst'⟩:=hst';have hjoin:=qxu ops i e es 0 (fun j=>listed.getD j false) s0 (vie _) (by simpa using he) h0f (by
   intro j ej hij hej hD;simp only [vgj] at hej;have hjn:j < ops.size:=by have:=(ve5.1 hej).1;omega
   obtain ⟨oj,hoj⟩:∃oj,ops[j]?=some oj:=⟨ops[j]'(by omega),by simp [show j < ops.size by omega]⟩;have nr:¬Reach ops j i:=fun hr=>by
    have:=hr.closed (D:=fun j=>listed.getD j false) hcl hD;simp only [h0f] at this;cases this
   constructor
   ·rcases qc5 hsl hij ho hoj with hr | hr
    ·exact (nr hr).elim
    ·rw [hoj,ho];simp only [vgl];cases hd:oj.dst with
     | none=>exact .inl rfl
     | some d =>
      refine .inr fun hh=>?_
      exact (Oper.apart_spec hr).2.1 d hh.symm hd
   ·rcases hev _ _ _ _ hij hjn he hej with hr | hr
    ·exact (nr hr).elim
    ·exact fun l hl hl2=>(hr.1 l hl2).2 hl)
  have hD':apM ops es 0 (fun j=>(listed.setIfInBounds i true).getD j false) s0=apM ops es 0 (fun j=>j == i || listed.getD j false) s0:=by
   refine qr1 ops es 0 _ _ s0 fun j _ hj=>?_
   by_cases hji:i=j
   ·subst hji;simp [hsz,hlt]
   ·rw [getD_set_ne false hji];have:(j == i)=false:=by simp;omega
    simp [this]
  have next:∀a' w' inj',SRf C (qg7 (apM ops es 0 (fun j=>listed.getD j false) s0).1 o'.dst e.v) (ovr e.us (apM ops es 0 (fun j=>listed.getD j false) s0).2) inj' a' w' →
    wpAny C.P .any ops Q fuel (listed.setIfInBounds i true) a' w':=by
   intro a' w' inj' hs';refine ih (listed.setIfInBounds i true) a' w' inj' (by simp [hsz]) ?_ (fun j hj hjs=>by rw [getD_set_ne false (by omega)];exact hnl j hj hjs) ?_ ?_
   ·intro j hj m hm;by_cases hji:i=j
    ·subst hji;exact getD_set_true (hpre' m hm)
    ·have hj':(listed.setIfInBounds i true).getD j false=true:=hj;rw [getD_set_ne false hji] at hj';exact getD_set_true (hcl j hj' m hm)
   ·have hli:listed[i]?=some false:=by
     have:i < listed.size:=by omega
     simp [this] at h0f ⊢;exact h0f
    have key:∀(l:List Bool) (i:Nat),l[i]?=some false→((l.set i true).filter (! ·)).length+1=(l.filter (! ·)).length:=by
     intro l
     induction l with
     | nil=>intro i h;simp at h
     | cons b l ihl =>
      intro i h;cases i with
      | zero=>simp at h;subst h;simp
      | succ i =>
       simp only [vhb] at h;have:=ihl i h;cases b <;> simp [this] <;> omega
    have:=key listed.toList i (by simpa using hli);rw [Array.toList_setIfInBounds];omega
   ·rw [hD',hjoin,ho];exact hs'
  unfold wpOp;rw [ho];simp only;rcases hst' with ⟨hg,hdo⟩ | ⟨hg,rfl⟩
  ·rw [qe2 hs hg];simp only [if_true];refine .inl (hdo C.X _ _ (fun _ _=>rfl) (fun _ _=>rfl) hs.hr (qi4 hs.ev) (fun x=>hs.eval x) fun val w' inj' h1 h2 h3=>?_);exact next _ _ _ (hs.putM hdst h1 h2 h3)
  ·rw [qe2 hs hg];simp only [vei,if_false];exact next _ _ inj (hs.putM (us:=[]) hdst hs.hr (Ev.refl _ _ _ _) ⟨[],rfl,rfl⟩)
inductive DChM (C:Cx) (ops:Array Oper):List Oper→St→List EvM→St→Prop
 | nil {st}:DChM C ops [] st [] st
 | cons {o rest st e es st'} (hd:qbc C.N o=true) (h:(qal ops st.env o=some true∧vbh C.D C.P o (ev st.env) st.sig e.v e.us e.rs)∨(qal ops st.env o=some false∧e=⟨.p (.tup []),[],[]⟩))
   (hr:DChM C ops rest ⟨qd0 st.env o.dst e.v,e.us++st.heap⟩ es st'):DChM C ops (o :: rest) st (e :: es) st'
theorem DChM.chain {C:Cx} {ops:Array Oper} {l:List Oper} {st:St} {es:List EvM} {st':St} (h:DChM C ops l st es st'):∀i,(∀j,j < l.length→ops[i+j]?=l[j]?) →
  es.length=l.length∧qqs C ops es i (st.env.get,st.sig)∧apM ops es i (fun _=>true) (st.env.get,st.sig)=(st'.env.get,st'.sig):=by
 induction h with
 | nil=>intro i hi;exact ⟨rfl,trivial,rfl⟩
 | @cons o rest st e es st' hd h hr ih =>
  intro i hi;have h0:ops[i]?=some o:=by have:=hi 0 (by simp);simpa using this
  obtain ⟨h3,h1,h2⟩:=ih (i+1) (fun j hj=>by have:=hi (j+1) (by simp;omega);rw [show i+1+j=i+(j+1) by omega,this];simp);have e1:((qg7 st.env.get ((ops[i]?).bind (·.dst)) e.v,ovr e.us st.sig):(Nat→AV)×(Nat→AO))=((⟨qd0 st.env o.dst e.v,e.us++st.heap⟩:St).env.get,(⟨qd0 st.env o.dst e.v,e.us++st.heap⟩:St).sig):=by
   rw [h0];simp only [vgl,qgc,St.sig,qni]
  refine ⟨by simp [h3],⟨⟨o,h0,hd,?_⟩,?_⟩,?_⟩
  ·rw [qmk,qh5];exact h
  ·rw [e1];exact h1
  ·simp only [apM,if_true];rw [e1];exact h2
def qov (ops:Array Oper) (n:Nat):Bool:=(List.range' n (ops.size - n)).all fun j=>(vft j).all fun i=>qpw (qxf ops ops.size) j i
theorem qwc {ops:Array Oper} {n:Nat} (h:qov ops n=true):∀j,n≤j→j < ops.size→∀i,i < j→Reach ops j i:=by
 simp only [qov,List.all_eq_true,vhv,List.mem_range'_1] at h;exact fun j h1 h2 i hi=>qgu (h j ⟨h1,by omega⟩ i hi)
variable {C:Cx} {Q:Exit→St→Prop} {st:St}
theorem qz0 (n:Nat) {id:Nat} {l:List Oper} {es:List EvM} {st':St} (hm:C.P.follows .mixedOrders=true) (hsl:qee l.toArray=true) (hn:n≤l.length) (hls:qov l.toArray n=true)
  (h1:DChM C l.toArray (l.take n) st es st') (h2:EvsM l.toArray es) (h3:AL C l.toArray (l.drop n) Q st'):AWp C (.region id l.toArray true) Q st:=by
 have hreach:=qwc hls;obtain ⟨hel,hcp,hap⟩:=h1.chain 0 (fun j hj=>by
  rw [vfh] at hj;rw [ve9,if_pos (by omega)];simp)
 have hel':es.length=n:=by rw [hel,vfh];omega
 intro inj a w hs;refine wp_region_any hm ?_;have hf:Fr C.D w { w with drawn:=w.drawn+1 }:=⟨rfl,rfl,rfl,fun _=>Nat.le_succ _,vf9 _,fun _ _=>rfl,fun _ _=>rfl⟩;have hE:Ev C.D C.X inj st.sig w inj st.sig { w with drawn:=w.drawn+1 }:=hf.ev;refine qwb (by simpa using hn) hel' hcp hsl h2 hreach ?_ _ _ _ _ inj (by simp) ?_ ?_ ?_ ?_
 ·intro a' w' inj' hs';rw [hap] at hs';have hal:=h3 inj' a' w' ⟨hs'.env,hs'.size,hs'.defers,hs'.hr,hs'.ev⟩;have heq:=wpOps_eq_wpList (P:=C.P) (ops:=l.toArray) (Q:=q4h C Q) (l.drop n) n (fun j=>by rw [ve2];simp);rw [vfc] at heq;rw [vfw,heq];exact hal
 ·intro j hj;simp only [getD_replicate_false] at hj;cases hj
 ·intro j _ _;exact getD_replicate_false _ _
 ·refine vgb (List.length_filter_le _ _) (by simp)
 ·rw [qr1 l.toArray es 0 _ (fun _=>false) _ fun j _ _=>getD_replicate_false _ _];have hnone:∀(es:List EvM) (i:Nat) (s:(Nat→AV)×(Nat→AO)),apM l.toArray es i (fun _=>false) s=s:=by
   intro es
   induction es with
   | nil=>intro i s;rfl
   | cons e es ih=>intro i s;simp only [apM,vei,if_false];exact ih (i+1) s
  rw [hnone];exact ⟨fun t=>AR.ev hE hs.hr.xlt _ _ (hs.env t),hs.size,hs.defers,hs.hr.fr hf,hs.ev.trans hE⟩
section
variable {X X':Nat→Prop} {inj inj':Inj} {σ σ':Nat→AO} {w:World}
theorem vc2 (hp:∀b,b < w.heap.size→(X' b∨F inj' σ' b)→X b∨F inj σ b) {x:PV} {v:Value} (h:PR (fun b=>X b∨F inj σ b) w x v):PR (fun b=>X' b∨F inj' σ' b) w x v :=
 PR.keep ⟨vf9 _,fun _ _ _=>rfl,fun b hb hx hn=>hx (hp b hb hn)⟩ x v h
mutual
theorem qwd (hp:∀b,b < w.heap.size→(X' b∨F inj' σ' b)→X b∨F inj σ b):∀(x:AV) (v:Value),(∀l∈qis x,σ' l=σ l∧inj' l=inj l)→AR X inj σ w x v→AR X' inj' σ' w x v
 | .any,_,_,_=>trivial
 | .p x,v,_,h=>vc2 hp h
 | .nils,_,_,h=>h
 | .loc l g i off,v,hl,h=>by
  obtain ⟨h1,h2⟩:=hl l (by simp [qis])
  obtain ⟨a1,a2⟩:=h
  refine ⟨a1,fun o ho=>?_⟩
  rw [h1] at ho
  rw [h2]
  exact a2 o ho
 | .own l g off len,v,hl,h=>by
  obtain ⟨h1,h2⟩:=hl l (by simp [qis])
  obtain ⟨a1,a2⟩:=h
  refine ⟨a1,fun o ho=>?_⟩
  rw [h1] at ho
  rw [h2]
  exact a2 o ho
 | .mapo l g,v,hl,h=>by
  obtain ⟨h1,h2⟩:=hl l (by simp [qis])
  obtain ⟨a1,a2⟩:=h
  refine ⟨a1,fun o ho=>?_⟩
  rw [h1] at ho
  rw [h2]
  exact a2 o ho
 | .func fn cs,v,hl,h=>by
  obtain ⟨vs,h1,h2⟩:=h
  exact ⟨vs,h1,qgh hp cs vs (by simpa [qis] using hl) h2⟩
 | .agg cs,v,hl,h=>by
  obtain ⟨vs,h1,h2,h3⟩:=h
  exact ⟨vs,h1,qgh hp cs vs (by simpa [qis] using hl) h2,h3⟩
 | .tup cs,v,hl,h=>by
  obtain ⟨vs,h1,h2⟩:=h
  exact ⟨vs,h1,qgh hp cs vs (by simpa [qis] using hl) h2⟩
theorem qgh (hp:∀b,b < w.heap.size→(X' b∨F inj' σ' b)→X b∨F inj σ b):∀(xs:List AV) (vs:List Value),(∀l∈qef xs,σ' l=σ l∧inj' l=inj l)→ARs X inj σ w xs vs→ARs X' inj' σ' w xs vs
 | [],_,_,h=>h
 | x :: xs,_,hl,h=>by
  obtain ⟨v,r,rfl,h1,h2⟩:=h
  exact ⟨v,r,rfl,qwd hp x v (fun l hh=>hl l (by simp [qef,hh])) h1,qgh hp xs r (fun l hh=>hl l (by simp [qef,hh])) h2⟩
end
theorem qwe {l:Nat} {o:AO} (hp:∀b,b < w.heap.size→(X' b∨F inj' σ' b)→X b∨F inj σ b) (hX:∀b c,inj l=some (b,c)→o.alive=true→¬X b→¬X' b) (hi:inj' l=inj l) (hl:∀k∈qkk o,σ' k=σ k∧inj' k=inj k)
  (h:OR X inj σ w l o):OR X' inj' σ' w l o:=by
 cases o with
 | dead g=>trivial
 | arr e sz g es =>
  obtain ⟨vs,o1,o2,o3,o4⟩:=h;refine ⟨vs,qgh hp es vs (by simpa [qkk] using hl) o1,o2,o3,?_⟩;rw [hi];rcases o4 with o4 | ⟨b,c,cur,p1,p2,p3⟩
  ·exact .inl o4
  ·exact .inr ⟨b,c,cur,p1,hX b c p1 rfl p2,p3⟩
 | map g ks vs =>
  obtain ⟨b,c,ms,clock,p1,p2,p3,p4,p5⟩:=h;refine ⟨b,c,ms,clock,by rw [hi];exact p1,hX b c p1 rfl p2,p3,qgh hp ks _ (fun k hk=>hl k (by simp [qkk,hk])) p4,qgh hp vs _ (fun k hk=>hl k (by simp [qkk,hk])) p5⟩
end
def qcq (σ:Nat→AO) (S:List Nat) (l:Nat):AO:=if l∈S then σ l else .dead 0
def q4c (σ:Nat→AO) (S:List Nat):Prop:=∀l∈S,∀k∈qkk (σ l),k∈S
def XO (X:Nat→Prop) (inj:Inj) (σ:Nat→AO) (S:List Nat) (b:Nat):Prop:=X b∨∃l c,l ∉ S∧(σ l).alive=true∧inj l=some (b,c)
section
variable {X:Nat→Prop} {inj:Inj} {σ:Nat→AO} {w:World} {S:List Nat}
theorem qc2 {l:Nat} (h:(qcq σ S l).alive=true):l∈S∧qcq σ S l=σ l:=by
 unfold qcq at h ⊢;by_cases hl:l∈S
 ·simp [hl]
 ·simp [hl,AO.alive] at h
theorem qtx (b:Nat):(XO X inj σ S b∨F inj (qcq σ S) b)↔(X b∨F inj σ b):=by
 constructor
 ·rintro ((h | ⟨l,c,h1,h2,h3⟩) | ⟨l,c,o,h1,h2,_,h3⟩)
  ·exact .inl h
  ·exact .inr ⟨l,c,σ l,rfl,h2,rfl,h3⟩
  ·obtain ⟨q1,q2⟩:=qc2 (h1 ▸ h2);exact .inr ⟨l,c,o,by rw [←h1,q2],h2,rfl,h3⟩
 ·rintro (h | ⟨l,c,o,h1,h2,_,h3⟩)
  ·exact .inl (.inl h)
  ·by_cases hl:l∈S
   ·exact .inr ⟨l,c,o,by unfold qcq;rw [if_pos hl];exact h1,h2,rfl,h3⟩
   ·exact .inl (.inr ⟨l,c,hl,by rw [h1];exact h2,h3⟩)
theorem HR.part (h:HR X inj σ w) (hs:q4c σ S):HR (XO X inj σ S) inj (qcq σ S) w:=by
 refine ⟨fun l o ho=>?_,fun l l' o o' b c c' h1 h2 h3 h4 h5 h6=>?_,fun b hb=>?_⟩
 ·by_cases hl:l∈S
  ·have ho':σ l=o:=by unfold qcq at ho;rw [if_pos hl] at ho;exact ho
   refine qwe (fun b _ hh=>(qtx b).1 hh) (fun b c hi ha hx=>?_) rfl (fun k hk=>?_) (h.obj l o ho')
   ·rintro (hh | ⟨m,c',q1,q2,q3⟩)
    ·exact hx hh
    ·have:=h.inj1 l m o (σ m) b c c' ho' rfl ha q2 hi q3;subst this;exact q1 hl
   ·rw [←ho'] at hk;exact ⟨by unfold qcq;rw [if_pos (hs l hl k hk)],rfl⟩
  ·unfold qcq at ho;rw [if_neg hl] at ho;subst ho;trivial
 ·obtain ⟨q1,q2⟩:=qc2 (l:=l) (by rw [h1];exact h3);obtain ⟨q3,q4⟩:=qc2 (l:=l') (by rw [h2];exact h4);exact h.inj1 l l' o o' b c c' (by rw [←q2];exact h1) (by rw [←q4];exact h2) h3 h4 h5 h6
 ·rcases hb with hb | ⟨l,c,q1,q2,q3⟩
  ·exact h.xlt b hb
  ·exact (h.flt (D:=fun _=>false) ⟨l,c,σ l,rfl,q2,rfl,q3⟩).1
theorem HR.less (h:HR X inj σ w) (hs:q4c σ S):HR X inj (qcq σ S) w:=by
 have hp:∀b,(X b∨F inj (qcq σ S) b)→X b∨F inj σ b:=by
  rintro b (h | ⟨l,c,o,h1,h2,_,h3⟩)
  ·exact .inl h
  ·obtain ⟨q1,q2⟩:=qc2 (h1 ▸ h2);exact .inr ⟨l,c,o,by rw [←h1,q2],h2,rfl,h3⟩
 refine ⟨fun l o ho=>?_,fun l l' o o' b c c' h1 h2 h3 h4 h5 h6=>?_,h.xlt⟩
 ·by_cases hl:l∈S
  ·have ho':σ l=o:=by unfold qcq at ho;rw [if_pos hl] at ho;exact ho
   refine qwe (fun b _ hh=>hp b hh) (fun b c hi ha hx=>hx) rfl (fun k hk=>?_) (h.obj l o ho');rw [←ho'] at hk;exact ⟨by unfold qcq;rw [if_pos (hs l hl k hk)],rfl⟩
  ·unfold qcq at ho;rw [if_neg hl] at ho;subst ho;trivial
 ·obtain ⟨q1,q2⟩:=qc2 (l:=l) (by rw [h1];exact h3);obtain ⟨q3,q4⟩:=qc2 (l:=l') (by rw [h2];exact h4);exact h.inj1 l l' o o' b c c' (by rw [←q2];exact h1) (by rw [←q4];exact h2) h3 h4 h5 h6
end
theorem HR.frame {D:Prop} {X:Nat→Prop} {inj inj1:Inj} {σ τ:Nat→AO} {w w':World} {S S':List Nat} (h:HR X inj σ w) (hs:q4c σ S) (hsub:∀l∈S,l∈S') (hnew:∀l∈S',l ∉ S→σ l=.dead 0)
  (h1:HR (XO X inj σ S) inj1 τ w') (hτ:∀l,l ∉ S'→τ l=.dead 0) (hs':q4c τ S') (h2:Ev D (XO X inj σ S) inj (qcq σ S) w inj1 τ w') :
  HR X (fun l=>if l∈S' then inj1 l else inj l) (fun l=>if l∈S' then τ l else σ l) w'∧Ev D X inj σ w (fun l=>if l∈S' then inj1 l else inj l) (fun l=>if l∈S' then τ l else σ l) w' ∧
  ∀x v,(∀l∈qis x,l∈S')→AR (XO X inj σ S) inj1 τ w' x v→AR X (fun l=>if l∈S' then inj1 l else inj l) (fun l=>if l∈S' then τ l else σ l) w' x v:=by
 -- what is protected
 have hF:∀b,b < w'.heap.size→(X b∨F (fun l=>if l∈S' then inj1 l else inj l) (fun l=>if l∈S' then τ l else σ l) b)→XO X inj σ S b∨F inj1 τ b:=by
  rintro b _ (hb | ⟨l,c,o,q1,q2,_,q3⟩)
  ·exact .inl (.inl hb)
  ·by_cases hl:l∈S'
   ·simp only [hl,if_true] at q1 q3;exact .inr ⟨l,c,o,q1,q2,rfl,q3⟩
   ·simp only [hl,if_false] at q1 q3;exact .inl (.inr ⟨l,c,fun hh=>hl (hsub l hh),by rw [q1];exact q2,q3⟩)
 have hev:Ev D X inj σ w (fun l=>if l∈S' then inj1 l else inj l) (fun l=>if l∈S' then τ l else σ l) w':=by
  refine ⟨h2.os,h2.tape,h2.output,h2.dr,h2.size,h2.fz,fun b hb hf=>?_,fun b hb=>?_,fun l=>?_⟩
  ·refine h2.blk b hb fun hf'=>hf ?_
   obtain ⟨l,c,o,q1,q2,_,q3⟩:=hf';obtain ⟨r1,r2⟩:=qc2 (q1 ▸ q2);exact ⟨l,c,o,by rw [←q1,r2],q2,rfl,q3⟩
  ·obtain ⟨l,c,o,q1,q2,_,q3⟩:=hb;by_cases hl:l∈S'
   ·simp only [hl,if_true] at q1 q3;rcases h2.fp b ⟨l,c,o,q1,q2,rfl,q3⟩ with ⟨k,c',o',r1,r2,_,r3⟩ | r
    ·obtain ⟨t1,t2⟩:=qc2 (r1 ▸ r2);exact .inl ⟨k,c',o',by rw [←r1,t2],r2,rfl,r3⟩
    ·exact .inr r
   ·simp only [hl,if_false] at q1 q3;exact .inl ⟨l,c,o,q1,q2,rfl,q3⟩
  ·by_cases hl:l∈S'
   ·simp only [hl,if_true];have:=h2.objs l;by_cases hlS:l∈S
    ·unfold qcq at this;rw [if_pos hlS] at this;exact this
    ·unfold qcq at this;rw [if_neg hlS] at this;rw [hnew l hl hlS];exact this
   ·simp only [hl,if_false];exact (OEv.refl _).of fun _=>trivial
 have hval:∀x v,(∀l∈qis x,l∈S')→AR (XO X inj σ S) inj1 τ w' x v→AR X (fun l=>if l∈S' then inj1 l else inj l) (fun l=>if l∈S' then τ l else σ l) w' x v:=fun x v hx hv =>
  qwd hF x v (fun l hl=>by simp [hx l hl]) hv
 refine ⟨⟨fun l o ho=>?_,fun l l' o o' b c c' q1 q2 q3 q4 q5 q6=>?_,fun b hb=>vgc (h.xlt b hb) h2.size⟩,hev,hval⟩
 ·by_cases hl:l∈S'
  ·simp only [hl,if_true] at ho;refine qwe hF (fun b c hi ha hx hX=>hx (.inl hX)) (by simp [hl]) (fun k hk=>?_) (h1.obj l o ho);rw [←ho] at hk;have:=hs' l hl k hk;simp [this]
  ·simp only [hl,if_false] at ho;have h0:=h.obj l o ho;have hlS:l ∉ S:=fun hh=>hl (hsub l hh)
   have blk:∀b c,inj l=some (b,c)→o.alive=true→b < w.heap.size→w'.heap[b]?=w.heap[b]?:=fun b c hi ha hb=>h2.blk b hb fun hf=>by
    obtain ⟨k,c',ok,r1,r2,_,r3⟩:=hf;obtain ⟨t1,t2⟩:=qc2 (r1 ▸ r2);have:=h.inj1 l k o ok b c c' ho (by rw [←t2];exact r1) ha r2 hi r3;subst this;exact hlS t1
   cases o with
   | dead g=>trivial
   | arr e sz g es =>
    obtain ⟨vs,o1,o2,o3,o4⟩:=h0;refine ⟨vs,ARs.ev hev h.xlt es vs o1,o2,o3,?_⟩;simp only [hl,if_false];rcases o4 with o4 | ⟨b,c,cur,p1,p2,p3,p4⟩
    ·exact .inl o4
    ·exact .inr ⟨b,c,cur,p1,p2,by rw [blk b c p1 rfl (vd5.1 p3).1];exact p3,p4⟩
   | map g ks vs =>
    obtain ⟨b,c,ms,clock,p1,p2,p3,p4,p5⟩:=h0;refine ⟨b,c,ms,clock,by simp only [hl,if_false];exact p1,p2,by rw [blk b c p1 rfl (vd5.1 p3).1];exact p3,ARs.ev hev h.xlt ks _ p4,ARs.ev hev h.xlt vs _ p5⟩
 · -- different blocks
  have key:∀(l l':Nat) (o o':AO) (b c c':Nat),l∈S'→l' ∉ S'→τ l=o→σ l'=o'→o.alive=true→o'.alive=true→inj1 l=some (b,c)→inj l'=some (b,c')→False:=by
   intro l l' o o' b c c' hl hl' q1 q2 q3 q4 q5 q6;have hb:=(h.flt (D:=fun _=>false) ⟨l',c',o',q2,q4,rfl,q6⟩).1;rcases h2.fp b ⟨l,c,o,q1,q3,rfl,q5⟩ with ⟨k,ck,ok,r1,r2,_,r3⟩ | r
   ·obtain ⟨t1,t2⟩:=qc2 (r1 ▸ r2);have:=h.inj1 k l' ok o' b ck c' (by rw [←t2];exact r1) q2 r2 q4 r3 q6;subst this;exact hl' (hsub _ t1)
   ·omega
  by_cases hl:l∈S' <;> by_cases hl':l'∈S'
  ·simp only [hl,hl',if_true] at q1 q2 q5 q6;exact h1.inj1 l l' o o' b c c' q1 q2 q3 q4 q5 q6
  ·simp only [hl,hl',if_true,if_false] at q1 q2 q5 q6;exact (key l l' o o' b c c' hl hl' q1 q2 q3 q4 q5 q6).elim
  ·simp only [hl,hl',if_true,if_false] at q1 q2 q5 q6;exact (key l' l o' o b c' c hl' hl q2 q1 q4 q3 q6 q5).elim
  ·simp only [hl,hl',if_false] at q1 q2 q5 q6;exact h.inj1 l l' o o' b c c' q1 q2 q3 q4 q5 q6
end Go.Ab
namespace Go.Ab
open Go
variable {D:Prop}
mutual
def shA (δ:Nat→Nat):AV→AV
 | .any=>.any
 | .p x=>.p x
 | .nils=>.nils
 | .loc l g i off=>.loc l (g+δ l) i off
 | .own l g off len=>.own l (g+δ l) off len
 | .mapo l g=>.mapo l (g+δ l)
 | .func fn cs=>.func fn (qj9 δ cs)
 | .agg cs=>.agg (qj9 δ cs)
 | .tup cs=>.tup (qj9 δ cs)
def qj9 (δ:Nat→Nat):List AV→List AV
 | []=>[]
 | v :: r=>shA δ v :: qj9 δ r
end
def shO (δ:Nat→Nat) (d:Nat):AO→AO
 | .dead g=>.dead (g+d)
 | .arr e sz g es=>.arr e sz (g+d) (qj9 δ es)
 | .map g ks vs=>.map (g+d) (qj9 δ ks) (qj9 δ vs)
def shS (δ:Nat→Nat) (σ:Nat→AO):Nat→AO:=fun l=>shO δ (δ l) (σ l)
def shH (δ:Nat→Nat):List (Nat×AO)→List (Nat×AO)
 | []=>[]
 | (l,o) :: r=>(l,shO δ (δ l) o) :: shH δ r
theorem qez (δ:Nat→Nat):∀(l:List AV),(qj9 δ l).length=l.length
 | []=>rfl
 | _ :: r=>by simp only [qj9,vhe,qez δ r]
theorem qxv (δ:Nat→Nat):∀(l:List PV),qj9 δ (l.map AV.p)=l.map AV.p
 | []=>rfl
 | x :: r=>by simp only [vfj,qj9,shA,qxv δ r]
theorem qfb (δ:Nat→Nat) (d:Nat) (o:AO):(shO δ d o).gen=o.gen+d:=by cases o <;> rfl
theorem qh8 (δ:Nat→Nat) (d:Nat) (o:AO):(shO δ d o).alive=o.alive:=by cases o <;> rfl
theorem q2q {δ:Nat→Nat} {d:Nat} {o:AO} {e sz g:Nat} {es:List AV} (h:shO δ d o=.arr e sz (g+d) es):∃es0,o=.arr e sz g es0∧es=qj9 δ es0:=by
 cases o with
 | arr e' sz' g' es' =>
  simp only [shO,AO.arr.injEq] at h;obtain ⟨rfl,rfl,hg,rfl⟩:=h;exact ⟨es',by rw [viw hg],rfl⟩
 | dead g'=>simp [shO] at h
 | map g' ks vs=>simp [shO] at h
theorem q9x {δ:Nat→Nat} {d:Nat} {o:AO} {g:Nat} {ks vs:List AV} (h:shO δ d o=.map (g+d) ks vs):∃k0 v0,o=.map g k0 v0∧ks=qj9 δ k0∧vs=qj9 δ v0:=by
 cases o with
 | map g' k' v' =>
  simp only [shO,AO.map.injEq] at h;obtain ⟨hg,rfl,rfl⟩:=h;exact ⟨k',v',by rw [viw hg],rfl,rfl⟩
 | dead g'=>simp [shO] at h
 | arr e sz g' es=>simp [shO] at h
section
variable {X:Nat→Prop} {inj inj':Inj} {σ σ':Nat→AO} {w w':World} {δ:Nat→Nat}
theorem shF (E:Nat→Bool) (b:Nat):q0m E inj (shS δ σ) b↔q0m E inj σ b:=by
 constructor
 ·rintro ⟨l,c,o,h1,h2,h3,h4⟩;exact ⟨l,c,σ l,rfl,by rw [←h1] at h2;simpa [shS,qh8] using h2,h3,h4⟩
 ·rintro ⟨l,c,o,h1,h2,h3,h4⟩;exact ⟨l,c,shS δ σ l,rfl,by rw [←h1] at h2;simpa [shS,qh8] using h2,h3,h4⟩
theorem shFe (inj:Inj) (σ:Nat→AO) (δ:Nat→Nat):F inj (shS δ σ)=F inj σ:=funext fun b=>propext (shF _ b)
theorem q9y {l g i off:Nat} {v:Value}:q6z inj (shS δ σ) l (g+δ l) i off v↔q6z inj σ l g i off v:=by
 constructor
 ·rintro ⟨h1,h2⟩;refine ⟨h1,fun o ho=>?_⟩;obtain ⟨a1,a2⟩:=h2 _ rfl;simp only [shS,ho,qfb] at a1 a2;refine ⟨by omega,fun hg e sz es he=>a2 (by omega) e sz (qj9 δ es) ?_⟩;rw [he];rfl
 ·rintro ⟨h1,h2⟩;refine ⟨h1,fun o ho=>?_⟩;obtain ⟨a1,a2⟩:=h2 _ rfl;subst ho;simp only [shS,qfb];refine ⟨by omega,fun hg e sz es he=>?_⟩;obtain ⟨es0,q1,q2⟩:=q2q he;exact a2 (by omega) e sz es0 q1
theorem q9z {l g off len:Nat} {v:Value}:q0n inj (shS δ σ) l (g+δ l) off len v↔q0n inj σ l g off len v:=by
 constructor
 ·rintro ⟨h1,h2⟩;refine ⟨h1,fun o ho=>?_⟩;obtain ⟨a1,a2⟩:=h2 _ rfl;simp only [shS,ho,qfb] at a1 a2;refine ⟨by omega,fun hg e sz es he=>?_⟩;have:=a2 (by omega) e sz (qj9 δ es) (by rw [he];rfl);rw [qez] at this;exact this
 ·rintro ⟨h1,h2⟩;refine ⟨h1,fun o ho=>?_⟩;obtain ⟨a1,a2⟩:=h2 _ rfl;subst ho;simp only [shS,qfb];refine ⟨by omega,fun hg e sz es he=>?_⟩;obtain ⟨es0,q1,q2⟩:=q2q he;rw [q2,qez];exact a2 (by omega) e sz es0 q1
theorem q90 {l g:Nat} {v:Value}:q7w inj (shS δ σ) l (g+δ l) v↔q7w inj σ l g v:=by
 constructor
 ·rintro ⟨h1,h2⟩;refine ⟨h1,fun o ho=>?_⟩;obtain ⟨a1,a2⟩:=h2 _ rfl;simp only [shS,ho,qfb] at a1 a2;exact ⟨by omega,fun hg ks vs he=>a2 (by omega) (qj9 δ ks) (qj9 δ vs) (by rw [he];rfl)⟩
 ·rintro ⟨h1,h2⟩;refine ⟨h1,fun o ho=>?_⟩;obtain ⟨a1,a2⟩:=h2 _ rfl;subst ho;simp only [shS,qfb];refine ⟨by omega,fun hg ks vs he=>?_⟩;obtain ⟨k0,v0,q1,_,_⟩:=q9x he;exact a2 (by omega) k0 v0 q1
mutual
theorem vc3:∀(x:AV) (v:Value),AR X inj (shS δ σ) w (shA δ x) v↔AR X inj σ w x v
 | .any,_=>vin
 | .p x,v=>by
  simp only [shA,AR]
  rw [show (fun b=>X b∨F inj (shS δ σ) b)=(fun b=>X b∨F inj σ b) from by rw [shFe]]
 | .nils,_=>vin
 | .loc l g i off,v=>q9y
 | .own l g off len,v=>q9z
 | .mapo l g,v=>q90
 | .func fn cs,v=>by
  simp only [shA,AR]
  exact exists_congr fun vs=>and_congr_right fun _=>qmx cs vs
 | .agg cs,v=>by
  simp only [shA,AR]
  exact exists_congr fun vs=>and_congr_right fun _=>and_congr_left fun _=>qmx cs vs
 | .tup cs,v=>by
  simp only [shA,AR]
  exact exists_congr fun vs=>and_congr_right fun _=>qmx cs vs
theorem qmx:∀(xs:List AV) (vs:List Value),ARs X inj (shS δ σ) w (qj9 δ xs) vs↔ARs X inj σ w xs vs
 | [],_=>vin
 | x :: xs,vs=>by
  simp only [qj9,ARs]
  exact exists_congr fun v=>exists_congr fun r=>and_congr_right fun _=>and_congr (vc3 x v) (qmx xs r)
end
theorem vc4 {l:Nat} (o:AO):OR X inj (shS δ σ) w l (shO δ (δ l) o)↔OR X inj σ w l o:=by
 cases o with
 | dead g=>exact vin
 | arr e sz g es =>
  simp only [shO,OR,qez];refine exists_congr fun vs=>and_congr (qmx es vs) (and_congr_right fun _=>and_congr_right fun _=>?_)
  have:qj9 δ es=[]↔es=[]:=by
   constructor
   ·intro h;have:=qez δ es;rw [h] at this;exact List.eq_nil_of_length_eq_zero this.symm
   ·rintro rfl;rfl
  rw [this]
 | map g ks vs =>
  simp only [shO,OR];exact exists_congr fun b=>exists_congr fun c=>exists_congr fun ms=>exists_congr fun clock=>and_congr_right fun _=>and_congr_right fun _=>and_congr_right fun _=>and_congr (qmx ks _) (qmx vs _)
theorem vc5:HR X inj (shS δ σ) w↔HR X inj σ w:=by
 constructor
 ·intro h;refine ⟨fun l o ho=>?_,fun l l' o o' b c c' h1 h2 h3 h4 h5 h6=>?_,h.xlt⟩
  ·exact (vc4 o).1 (h.obj l _ (by simp only [shS,ho]))
  ·exact h.inj1 l l' _ _ b c c' rfl rfl (by simp only [shS,qh8,h1,h3]) (by simp only [shS,qh8,h2,h4]) h5 h6
 ·intro h;refine ⟨fun l o ho=>?_,fun l l' o o' b c c' h1 h2 h3 h4 h5 h6=>?_,h.xlt⟩
  ·subst ho;exact (vc4 _).2 (h.obj l _ rfl)
  ·subst h1 h2;simp only [shS,qh8] at h3 h4;exact h.inj1 l l' _ _ b c c' rfl rfl h3 h4 h5 h6
theorem vc6 {o o':AO} {d:Nat} {p:Prop} (h:OEv o o' p):OEv (shO δ d o) (shO δ d o') p:=by
 obtain ⟨h1,h2⟩:=h;refine ⟨by rw [qfb,qfb];omega,fun ha hg=>?_⟩;rw [qh8] at ha;rw [qfb,qfb] at hg;obtain ⟨q1,q2⟩:=h2 ha (by omega);refine ⟨q1,?_⟩;rcases q2 with ⟨e,sz,es,es',r1,r2,r3⟩ | ⟨ks,vs,ks',vs',r1,r2⟩
 ·refine .inl ⟨e,sz,qj9 δ es,qj9 δ es',?_,?_,?_⟩
  ·rw [qfb];conv=>lhs;rw [r1]
   rfl
  ·rw [qfb,r2];rfl
  ·rw [qez,qez,r3]
 ·refine .inr ⟨qj9 δ ks,qj9 δ vs,qj9 δ ks',qj9 δ vs',?_,?_⟩
  ·rw [qfb];conv=>lhs;rw [r1]
   rfl
  ·rw [qfb,r2];rfl
theorem Ev_sh (h:Ev D X inj σ w inj' σ' w'):Ev D X inj (shS δ σ) w inj' (shS δ σ') w' :=
 ⟨h.os,h.tape,h.output,h.dr,h.size,h.fz,fun b hb hf=>h.blk b hb fun hh=>hf ((shF _ b).2 hh),fun b hb=>(h.fp b ((shF _ b).1 hb)).imp (fun hh=>(shF _ b).2 hh) id,fun l=>vc6 (h.objs l)⟩
end
def Ip (D:Prop) (P:Program) (k:FuncId) (avs:List AV) (H:List (Nat×AO)) (v:AV) (H':List (Nat×AO)):Prop :=
 HasBody P k∧∀(X:Nat→Prop) (inj:Inj) (w:World) (vs:List Value),HR X inj (qag H) w→TabOk P (fun b=>X b∨F inj (qag H) b) w→ARs X inj (qag H) w avs vs →
  Calls P k vs.toArray w fun e w'=>∃val,e=.returned val∧∃inj',HR X inj' (qag H') w'∧Ev D X inj (qag H) w inj' (qag H') w'∧AR X inj' (qag H') w' v val
theorem Ip.of_awp {P:Program} {k:FuncId} {avs:List AV} {H:List (Nat×AO)} {v:AV} {fn:Func} {c:Code} {N:Nat} (B:Nat) (S:St) (hk:HasBody P k) (hf:P.funcs[k]?=some fn) (hb:fn.body=some c) (hN:fn.ntmps=N) (hn:avs.length≤N)
  (hr:q0y P S fn.results.toList=some v)
  (h:∀X inj w hT,AWp ⟨P,N,B,X,H,inj,w,D,hT⟩ c (tE ⟨P,N,B,X,H,inj,w,D,hT⟩ .ret S) ⟨qex 0 avs,H⟩):Ip D P k avs H v S.heap:=by
 subst hN;refine ⟨hk,fun X inj w vs hR hT hars=>?_⟩;have hl:=hars.length;refine calls_of_wp hf hb (wp_mono (h X inj w hT inj _ w ⟨fun t=>?_,?_,rfl,hR,Ev.refl _ _ _ _⟩) ?_)
 ·have:=qhi avs vs 0 t hars;simp only [vie,if_true,vgj] at this;have e:(vs.toArray++vim (fn.ntmps - vs.toArray.size) undef).getD t undef=vs.getD t undef:=by
   by_cases ht:t < vs.length
   ·simp [vd4,ht]
   ·simp only [vii,vd4,vfw,ht,if_false,vil];rw [vha,ve4 (by omega)];split <;> rfl
  rw [e];exact this
 ·simp [←hl];omega
 ·rintro e a' w' ⟨s,inj0,hs0,rfl,hle⟩;have hs:=hle.sr hs0;obtain ⟨val,h1,h2⟩:=qjq hs hr;exact ⟨hs.defers,val,h1,val,rfl,_,hs.hr,hs.ev,h2⟩
def qft:List (Nat×AO)→List Nat
 | []=>[]
 | (l,_) :: r=>l :: qft r
def qu1 (p:Nat→Prop):List Nat→Prop
 | []=>True
 | l :: r=>p l∧qu1 p r
theorem qhj {p:Nat→Prop}:∀{s:List Nat},qu1 p s→∀l∈s,p l
 | _ :: _,h,l,hl=>by
  rcases vhp.1 hl with rfl | hl
  ·exact h.1
  ·exact qhj h.2 l hl
theorem qow:∀{H:List (Nat×AO)} {l:Nat},l ∉ qft H→qag H l=.dead 0
 | [],_,_=>rfl
 | (k,o) :: r,l,h=>by
  simp only [qft,vhp,not_or] at h;simp only [qag];rw [if_neg (Ne.symm h.1)];exact qow h.2
theorem qxw (δ:Nat→Nat):∀(H:List (Nat×AO)) (l:Nat),l∈qft H→qag (shH δ H) l=shO δ (δ l) (qag H l)
 | (k,o) :: r,l,h=>by
  simp only [shH,qag];by_cases e:k=l
  ·subst e;simp
  ·rw [if_neg e,if_neg e];simp only [qft,vhp] at h;exact qxw δ r l (h.resolve_left fun h=>e h.symm)
theorem qxx (K:List (Nat×AO)):∀(H:List (Nat×AO)) (l:Nat),(l∈qft H→qag (H++K) l=qag H l)∧(l ∉ qft H→qag (H++K) l=qag K l)
 | [],l=>⟨(fun h=>by cases h),fun _=>rfl⟩
 | (k,o) :: r,l=>by
  simp only [qft,vhp,vg7,qag];by_cases e:k=l
  ·subst e;simp
  ·rw [if_neg e,if_neg e];have:=qxx K r l;exact ⟨fun h=>this.1 (h.resolve_left fun h=>e h.symm),fun h=>this.2 fun hh=>h (.inr hh)⟩
theorem qxy (δ:Nat→Nat):∀(H:List (Nat×AO)),qft (shH δ H)=qft H
 | []=>rfl
 | (k,o) :: r=>by simp only [shH,qft,qxy δ r]
def qox (S:List Nat):List (Nat×AO)→Prop
 | []=>True
 | (_,o) :: r=>qu1 (fun k=>qon k S=true) (qkk o)∧qox S r
theorem qmo {S:List Nat}:∀{H:List (Nat×AO)},qox S H→∀l,∀k∈qkk (qag H l),k∈S
 | [],_,l,k,hk=>by simp [qag,qkk] at hk
 | (j,o) :: r,h,l,k,hk=>by
  simp only [qag] at hk;split at hk
  ·have:=qhj h.1 k hk;rw [qgw] at this;exact of_decide_eq_true this
  ·exact qmo h.2 l k hk
theorem qty:∀(l:List PV),qef (l.map AV.p)=[]
 | []=>rfl
 | x :: r=>by simp only [vfj,qef,qis,qty r,List.append_nil]
mutual
theorem q2r (δ:Nat→Nat):∀(x:AV),qis (shA δ x)=qis x
 | .any=>rfl
 | .p _=>rfl
 | .nils=>rfl
 | .loc ..=>rfl
 | .own ..=>rfl
 | .mapo ..=>rfl
 | .func _ cs=>by simp only [shA,qis,qjs δ cs]
 | .agg cs=>by simp only [shA,qis,qjs δ cs]
 | .tup cs=>by simp only [shA,qis,qjs δ cs]
theorem qjs (δ:Nat→Nat):∀(xs:List AV),qef (qj9 δ xs)=qef xs
 | []=>rfl
 | x :: xs=>by simp only [qj9,qef,q2r δ x,qjs δ xs]
end
theorem qxz (δ:Nat→Nat) (d:Nat) (o:AO):qkk (shO δ d o)=qkk o:=by
 cases o <;> simp only [shO,qkk,qjs]
def dlt:List (Nat×Nat)→Nat→Nat
 | [],_=>0
 | (k,d) :: r,l=>if k=l then d else dlt r l
def dks:List (Nat×Nat)→List Nat
 | []=>[]
 | (k,_) :: r=>k :: dks r
theorem q2s:∀{ds:List (Nat×Nat)} {l:Nat},l ∉ dks ds→dlt ds l=0
 | [],_,_=>rfl
 | (k,d) :: r,l,h=>by
  simp only [dks,vhp,not_or] at h;simp only [dlt];rw [if_neg (Ne.symm h.1)];exact q2s h.2
variable {C:Cx} {Q:Exit→St→Prop} {st:St}
theorem AL_ip {ops:Array Oper} {o:Oper} {rest:List Oper} {f:Operand} {args:Array Operand} {ats:Array TypeId} {k:FuncId} {avs avs0:List AV} {H H':List (Nat×AO)} {v:AV} (ds:List (Nat×Nat))
  (hp:Ip C.D C.P k avs0 H v H') (ho:o.op=.call ⟨.value f,args,ats⟩) (hg:qal ops st.env o=some true) (hd:qbc C.N o=true) (hc:qcg st.env f args.toList=some (k,avs)) (ha:qj9 (dlt ds) avs0=avs)
  (hds:qu1 (fun l=>qon l (qft H)=true) (dks ds))
  (hS:qu1 (fun l=>qag st.heap l=shO (dlt ds) (dlt ds l) (qag H l)) (qft H)) (hR:qox (qft H) H) (hA:qu1 (fun l=>qon l (qft H)=true) (qef avs0))
  (hsub:qu1 (fun l=>qon l (qft H')=true) (qft H)) (hnew:qu1 (fun l=>qon l (qft H)=true∨qag st.heap l=.dead 0) (qft H')) (hR':qox (qft H') H') (hv:qu1 (fun l=>qon l (qft H')=true) (qis v))
  (h:AL C ops rest Q ⟨qd0 st.env o.dst (shA (dlt ds) v),shH (dlt ds) H'++st.heap⟩):AL C ops (o :: rest) Q st:=by
 have mem:∀{l:Nat} {S:List Nat},qon l S=true→l∈S:=fun hm=>by rw [qgw] at hm;exact of_decide_eq_true hm
 obtain ⟨hb,hW⟩:=hp;intro inj a w hs;simp only [wpList,qb9 hs hg,if_true];refine .inl ?_;obtain ⟨vs,hrun,hars⟩:=qnh hs ho hb hc;unfold Oper.wp;rw [hrun];simp only [Oper.upon];have hSσ:∀l∈qft H,st.sig l=shO (dlt ds) (dlt ds l) (qag H l):=qhj hS;have hd0:∀l,l ∉ qft H→dlt ds l=0:=fun l hl=>q2s fun hh=>hl (mem (qhj hds l hh))
 have hkk:∀l∈qft H,l∈qft H':=fun l hl=>mem (qhj hsub l hl)
 have hsh:q4c st.sig (qft H):=fun l hl j hj=>by
  rw [hSσ l hl,qxz] at hj;exact qmo hR l j hj
 have hpart:qcq st.sig (qft H)=shS (dlt ds) (qag H):=by
  funext l;unfold qcq;split
  ·rename_i hl;exact hSσ l hl
  ·rename_i hl;simp only [shS,qow hl,hd0 l hl,shO]
 have hin:∀l∈qef avs,qcq st.sig (qft H) l=st.sig l∧inj l=inj l:=fun l hl=>by
  rw [←ha,qjs] at hl;exact ⟨by unfold qcq;rw [if_pos (mem (qhj hA l hl))],rfl⟩
 have hars':ARs (XO C.X inj st.sig (qft H)) inj (qcq st.sig (qft H)) w avs vs:=qgh (fun b _ hh=>(qtx b).1 hh) _ _ hin hars;have hT':TabOk C.P (fun b=>XO C.X inj st.sig (qft H) b∨F inj (qcq st.sig (qft H)) b) w:=(qi4 hs.ev).keep ⟨vf9 _,fun _ _ _=>rfl,fun b _ hx hn=>hx ((qtx b).1 hn)⟩;have hr':=hs.hr.part hsh;rw [hpart] at hars' hT' hr';rw [←ha] at hars';rw [shFe] at hT';refine (hW (XO C.X inj st.sig (qft H)) inj w vs (vc5.1 hr') hT' ((qmx _ _).1 hars')).mono ?_;rintro e' w' ⟨val,rfl,inj1,q1,q2,q3⟩;have t1:HR (XO C.X inj st.sig (qft H)) inj1 (shS (dlt ds) (qag H')) w':=vc5.2 q1;have t2:Ev C.D (XO C.X inj st.sig (qft H)) inj (qcq st.sig (qft H)) w inj1 (shS (dlt ds) (qag H')) w':=by rw [hpart];exact Ev_sh q2
 have t3:AR (XO C.X inj st.sig (qft H)) inj1 (shS (dlt ds) (qag H')) w' (shA (dlt ds) v) val:=(vc3 _ _).2 q3;have hτ:∀l,l ∉ qft H'→shS (dlt ds) (qag H') l=.dead 0:=fun l hl=>by
  simp only [shS,qow hl,hd0 l (fun hh=>hl (hkk l hh)),shO]
 have hτS:q4c (shS (dlt ds) (qag H')) (qft H'):=fun l hl j hj=>by
  simp only [shS,qxz] at hj;exact qmo hR' l j hj
 have hnew':∀l∈qft H',l ∉ qft H→st.sig l=.dead 0:=fun l hl hn=>(qhj hnew l hl).resolve_left fun hh=>hn (mem hh)
 obtain ⟨z1,z2,z3⟩:=HR.frame hs.hr hsh hkk hnew' t1 hτ hτS t2;have hov:(fun l=>if l∈qft H' then shS (dlt ds) (qag H') l else st.sig l)=qag (shH (dlt ds) H'++st.heap):=by
  funext l;have:=qxx st.heap (shH (dlt ds) H') l;rw [qxy] at this;split
  ·rename_i hl;rw [this.1 hl,qxw _ _ _ hl];rfl
  ·rename_i hl;rw [this.2 hl]
 have z4:=z3 (shA (dlt ds) v) val (fun l hl=>by rw [q2r] at hl;exact mem (qhj hv l hl)) t3;rw [hov] at z1 z2 z4;refine h (fun l=>if l∈qft H' then inj1 l else inj l) _ _ ?_;have h3:=hs.put (o:=o) (u:=none) hd hs.hr (Ev.refl _ _ _ _) (v:=.any) (val:=val) trivial;refine ⟨fun t=>?_,h3.size,h3.defers,z1,hs.ev.trans z2⟩;cases hdst:o.dst with
 | none =>
  have:=h3.env t;rw [hdst] at this;simpa [qd0,Act.put] using AR.ev z2 hs.hr.xlt _ _ (hs.env t)
 | some d =>
  simp only [qbc,hdst,decide_eq_true_eq] at hd;simp only [qd0,Act.put,Env.get];by_cases ht:d=t
  ·subst ht;rw [if_pos rfl];have:(a.tmps.setIfInBounds d val).getD d undef=val:=by simp [hs.size,hd]
   rw [this];exact z4
  ·rw [if_neg ht];have:(a.tmps.setIfInBounds d val).getD t undef=a.tmps.getD t undef:=by simp [vd7 ht]
   rw [this];exact AR.ev z2 hs.hr.xlt _ _ (hs.env t)
theorem zFo {P:Prop} (h:P:=by (repeat' refine And.intro ?_ ?_) <;> first | rfl | exact .inl rfl | exact .inr rfl | (simp;done)):P:=h
section
variable {σ τ:Type}
def q7k (B:(σ→Option τ)→σ→Option τ):Nat→σ→Option τ
 | 0,_=>none
 | n+1,s=>B (q7k B n) s
end
attribute [go_sem] shA qj9 shO shH qxv dlt dks qft qu1 qox qkk qis qef qty
theorem zIp (ds:List (Nat×Nat)) {ops:Array Oper} {o:Oper} {rest:List Oper} {f:Operand} {args:Array Operand} {ats:Array TypeId} {k:FuncId} {avs avs0:List AV} {H H':List (Nat×AO)} {v:AV}
  (hp:Ip C.D C.P k avs0 H v H') (h:AL C ops rest Q ⟨qd0 st.env o.dst (shA (dlt ds) v),shH (dlt ds) H'++st.heap⟩)
  (ho:o.op=.call ⟨.value f,args,ats⟩:=by rfl) (hg:qal ops st.env o=some true:=by first | exact qcb rfl | exact qdw rfl rfl (by exact rfl) (by exact rfl)) (hd:qbc C.N o=true:=by rfl)
  (hc:qcg st.env f args.toList=some (k,avs):=by simp only [go_sem,seval, *];exact rfl) (ha:qj9 (dlt ds) avs0=avs:=by simp only [go_sem,seval];all_goals exact zF)
  (hds:qu1 (fun l=>qon l (qft H)=true) (dks ds):=by simp only [go_sem,seval];all_goals exact zF)
  (hS:qu1 (fun l=>qag st.heap l=shO (dlt ds) (dlt ds l) (qag H l)) (qft H):=by simp only [go_sem,seval];all_goals exact zF)
  (hR:qox (qft H) H:=by simp only [go_sem,seval];all_goals exact zF) (hA:qu1 (fun l=>qon l (qft H)=true) (qef avs0):=by simp only [go_sem,seval];all_goals exact zF)
  (hsub:qu1 (fun l=>qon l (qft H')=true) (qft H):=by simp only [go_sem,seval];all_goals exact zF) (hnew:qu1 (fun l=>qon l (qft H)=true∨qag st.heap l=.dead 0) (qft H'):=by simp only [go_sem,seval];all_goals exact zFo)
  (hR':qox (qft H') H':=by simp only [go_sem,seval];all_goals exact zF) (hv:qu1 (fun l=>qon l (qft H')=true) (qis v):=by simp only [go_sem,seval];all_goals exact zF):AL C ops (o :: rest) Q st :=
 AL_ip ds hp ho hg hd hc ha hds hS hR hA hsub hnew hR' hv h
end Go.Ab
namespace Go.Ab
open Go
variable {C:Cx} {Q:Exit→St→Prop} {st:St} {inj:Inj} {a:Act} {w:World}
mutual
def q7l:PV→Bool
 | .int _ _=>true
 | .bool _=>true
 | .str _=>true
 | .nilp=>true
 | .nilf=>true
 | .nili=>true
 | .nilm=>true
 | .agg cs=>q2t cs
 | _=>false
def q2t:List PV→Bool
 | []=>true
 | p :: ps=>q7l p && q2t ps
end
end Go.Ab
namespace Go.Ab
open Go
variable {C:Cx} {Q:Exit→St→Prop} {st:St}
def vbj:AO→Bool
 | .arr _ _ _ [_]=>true
 | _=>false
theorem q5k (e sz g:Nat) (x:AV):vbj (.arr e sz g [x])=true:=rfl
def q5l (h:List (Nat×AO)):List Nat→Prop
 | []=>True
 | p :: ps=>vbj (qag h p)=true∧q5l h ps
theorem q2u (h:List (Nat×AO)):q5l h []=True:=rfl
theorem qz1 (h:List (Nat×AO)) (p:Nat) (ps:List Nat):q5l h (p :: ps)=(vbj (qag h p)=true∧q5l h ps):=rfl
attribute [go_sem] q5k q2u qz1
def isLoc:AV→Bool
 | .loc _ _ _ _=>true
 | _=>false
theorem q2v (l g i off:Nat):isLoc (.loc l g i off)=true:=rfl
attribute [go_sem] q2v
section
variable {α:Type} {h h' H0 rest:List (Nat×AO)} {f f' k e sz G G' e' sz':Nat} {o:AO} {enc:α→PV} {ll:List (List α)}
end
section
variable {β:Type} {f n e sz G:Nat} {ll ll':List β}
end
attribute [go_sem] true_or
end Go.Ab
namespace Go.Ab
open Go
variable {C:Cx} {Q:Exit→St→Prop} {st:St}
end Go.Ab
namespace Go.Ab
open Go
theorem q2w (D:Nat→Bool) (l g off len:Nat):qcn D 6 (.own l g off len)=qmj D 5 l g off len:=rfl
theorem q2x (D:Nat→Bool) (cs:List AV):qcn D 6 (.agg cs)=(qai (qcn D 5) cs).bind fun xs=>.ret (.agg xs):=rfl
theorem q91 (D:Nat→Bool) (x:PV):qcn D 5 (.p x)=.ret x:=rfl
theorem qz2 (D:Nat→Bool):qcn D 5 .nils=.ret (.slc []):=rfl
theorem q2y (D:Nat→Bool) (l g off len:Nat):qcn D 5 (.own l g off len)=qmj D 4 l g off len:=rfl
theorem q92 (D:Nat→Bool) (x:PV):qcn D 4 (.p x)=.ret x:=rfl
attribute [go_sem] q2w q2x q91 qz2 q2y q92
end Go.Ab
namespace Go.Ab
open Go Go.Proofs Go.Shelf Go.RowKit Go.Lib
structure InsLay (P:Program) (ρ:Ren):Prop where
 mixed:P.follows .mixedOrders=true
 fi:∃nm,P.funcs[ρ.f 22]?=some { Body2.n22 ρ with name:=nm }
 fo:∀(args:Array Value) (w:World),(callFunc (ρ.f 29) args).run P w=((Extern.SlicesOverlaps.overlaps #[ρ.t 24,ρ.t 24] #[ρ.t 4] args).run P w).andThen fun v w'=>.ok (.value v) w'
 t0:P.underlying (ρ.t 0)=some (TypeDesc.tuple #[])
 a0:∀w,(isAgg (ρ.t 0)).run P w=.ok false w
 z0:∀w,(Go.sizeOf (ρ.t 0)).run P w=.ok 1 w
 v0:∀w,(zeroValue (ρ.t 0)).run P w=.ok (Value.tuple #[]) w
 t3:P.underlying (ρ.t 3)=some (TypeDesc.int vip)
 a3:∀w,(isAgg (ρ.t 3)).run P w=.ok false w
 z3:∀w,(Go.sizeOf (ρ.t 3)).run P w=.ok 1 w
 v3:∀w,(zeroValue (ρ.t 3)).run P w=.ok (Value.int vip 0) w
 t4:P.underlying (ρ.t 4)=some (TypeDesc.bool)
 a4:∀w,(isAgg (ρ.t 4)).run P w=.ok false w
 z4:∀w,(Go.sizeOf (ρ.t 4)).run P w=.ok 1 w
 v4:∀w,(zeroValue (ρ.t 4)).run P w=.ok (Value.bool false) w
 t24:P.underlying (ρ.t 24)=some (TypeDesc.slice (ρ.t 9))
 a24:∀w,(isAgg (ρ.t 24)).run P w=.ok false w
 z24:∀w,(Go.sizeOf (ρ.t 24)).run P w=.ok 1 w
 v24:∀w,(zeroValue (ρ.t 24)).run P w=.ok (Value.slice none 0 0) w
 z9:∀w,(Go.sizeOf (ρ.t 9)).run P w=.ok 1 w
 i9:∃i z,P.info? (ρ.t 9)=some i∧i.zero=some z∧i.size=1∧i.bytes≤16∧z.cells=#[z]
variable {P:Program} {ρ:Ren}
set_option maxHeartbeats 4000000 in
set_option maxRecDepth 100000 in
theorem q2z (L:InsLay P ρ) (b n c i vb vc:Nat) (cs:List Value) (x:Value) (w:World) (hi:i < n) (hroom:n+1≤c) (hc:c≤9223372036854775807) (hvb:vb≠b) (hcl:cs.length=n)
  (hcs:∀j v,cs[j]?=some v→w.cell? ⟨b,j,none⟩=some v) (hsp:∀j,j < n+1→(w.cell? ⟨b,j,none⟩).isSome=true) (hfz:∀j,j < n+1→w.frozen? ⟨b,j,none⟩=false)
  (hx:w.cell? ⟨vb,0,none⟩=some x) (h1c:∀v∈cs,v.oneCell'=true) (h1x:x.oneCell'=true)
  (tA tB:TypeId) (kA kB:Nat) (hsa:w.shape? vb=some (tA,kA)) (hsb:w.shape? b=some (tB,kB)) (hkB:kB≠0) (hfa:w.frozen? ⟨vb,0,none⟩=false) (hfe:w.frozen? ⟨vb,kA,none⟩=false) :
  Calls P (ρ.f 22) #[.slice (some ⟨b,0,none⟩) n c,.int .i64 i,.slice (some ⟨vb,0,none⟩) 1 vc] w fun e w' =>
   e=.returned (.slice (some ⟨b,0,none⟩) (n+1) c)∧w'=(w.drew.setCells b (i+1) (cs.drop i)).setCells b i [x]:=by
 obtain ⟨nm,hf⟩:=L.fi
 have mixed:=L.mixed
 have t0:=L.t0;have a0:=L.a0;have z0:=L.z0;have v0:=L.v0;have t3:=L.t3;have a3:=L.a3;have z3:=L.z3;have v3:=L.v3;have t4:=L.t4;have a4:=L.a4;have z4:=L.z4;have v4:=L.v4;have z9:=L.z9
 have t24:=L.t24;have a24:=L.a24;have z24:=L.z24;have v24:=L.v24
 have u0:=run_underlying L.t0;have u3:=run_underlying L.t3;have u4:=run_underlying L.t4;have u24:=run_underlying L.t24
 obtain ⟨i0,z,hi0,hz0,hzs,hzb,hzc⟩:=L.i9
 have hsz:(P.info? (ρ.t 9)).map (·.size)=some 1:=by rw [hi0];simp [hzs]
 have hne:¬((i:Int)=(n:Int)):=by omega
 have hov:∀lb cb,(callFunc (ρ.f 29) #[.slice (some ⟨vb,0,none⟩) 1 vc,.slice (some ⟨b,i+1,none⟩) lb cb]).run P w=.ok (.value (.bool false)) w:=fun lb cb=>by
  rw [L.fo,Lib.run_overlaps_apart w (ρ.t 24) (ρ.t 4) (ρ.t 9) L.t24 1 L.z9 ⟨vb,0,none⟩ ⟨b,i+1,none⟩ 1 vc lb cb hvb tA tB kA kB hsa hsb hkB hfa hfe]
  rfl
 have hdl:(cs.drop i).length=n - i:=by rw [vfc,hcl]
 have hw1:vip.wrap ((i:Int)+1)=(i:Int)+1:=by rw [viq];omega
 have hw2:vip.wrap ((n:Int)+1)=(n:Int)+1:=by rw [viq];omega
 have hb1:(0:Int)≤(i:Int)+1:=by omega
 have hin:i≤n:=by omega
 have htn:((i:Int)+1).toNat=i+1:=by omega
 have hb2:¬(c=i+1):=by omega
 have hb3:(i:Int)≤(n:Int)+1:=by omega
 have hb4:¬(c=i):=by omega
 have cp1:∀ty dc sc,(Builtin.copy_ #[(ρ.t 24),(ρ.t 24)] ty #[.slice (some ⟨b,i+1,none⟩) (n - i) dc,.slice (some ⟨b,i,none⟩) (n+1 - i) sc]).run P w.drew=.ok (goInt (cs.drop i).length) (w.drew.setCells b (i+1) (cs.drop i)):=fun ty dc sc =>
  run_copy_cells w.drew _ _ ty (ρ.t 9) b (i+1) (n - i) dc ⟨b,i,none⟩ (n+1 - i) sc (cs.drop i) L.t24 hsz (by rw [hdl];simp only [vi0];split <;> omega)
   (fun j v hj=>by rw [Addr.add_lit];exact hcs (i+j) v (by rwa [ve2] at hj))
   (fun j hj=>hsp _ (by omega)) (fun j hj=>hfz _ (by omega)) (fun v hv=>h1c v (vfo hv))
 obtain ⟨W1,hW1⟩:∃W1,W1=w.drew.setCells b (i+1) (cs.drop i):=⟨_,rfl⟩
 have hsp1:∀k,k < n+1→(W1.cell? ⟨b,k,none⟩).isSome=true:=fun k hk=>by
  rw [hW1]
  exact Go.Proofs.isSome_setCells b _ _ w.drew (fun j hj=>hsp _ (by rw [hdl] at hj;omega)) k (hsp k hk)
 have cp2:∀(W:World),(∀y,W.cell? y=W1.cell? y)→(∀y,W.frozen? y=W1.frozen? y)→∀ty dc,(Builtin.copy_ #[(ρ.t 24),(ρ.t 24)] ty #[.slice (some ⟨b,i,none⟩) (n+1 - i) dc,.slice (some ⟨vb,0,none⟩) 1 vc]).run P W=.ok (goInt [x].length) (W.setCells b i [x]):=fun W hWc hWf ty dc =>
  run_copy_cells W _ _ ty (ρ.t 9) b i (n+1 - i) dc ⟨vb,0,none⟩ 1 vc [x] L.t24 hsz (by simp only [vi0,vhe,vfe];split <;> omega)
   (fun j v hj=>by
    cases j with
    | zero =>
     simp only [vhc,vgr] at hj
     subst hj
     rw [Addr.add_lit,hWc,hW1,World.cell?_setCells_out b _ _ _ _ (fun h _=>absurd h hvb)]
     exact hx
    | succ j=>simp at hj)
   (fun j hj=>by rw [hWc];exact hsp1 _ (by simp at hj;omega)) (fun j hj=>by rw [hWf,hW1,World.frozen?_setCells];exact hfz _ (by simp at hj;omega)) (fun v hv=>by rw [vhw.1 hv];exact h1x)
 rw [←hW1] at cp1
 go_enter hf,Body2.n22_ntmps ρ
 go_wp2_with (simp only [hov])
 go_region_law_o (refine step_copy_runI rfl _ _ (ρ.t 24) (ρ.t 24) rfl _ _ (by simp [Act.eval,Act.put]) (by simp [Act.eval,Act.put]) (cp1 _ _ _) ?_)
 go_wp2_with (at_builtin;refine wpList_copy_runI _ rfl _ _ (ρ.t 24) (ρ.t 24) rfl _ _ rfl rfl (cp2 _ (fun _=>rfl) (fun _=>rfl) _ _) ?_)
 go_ret
 exact ⟨rfl,rfl⟩
theorem q93 (L:InsLay P ρ) (sv:Value) (n c vb vc:Nat) (w w':World) (val:Value) (hs:sv=.slice none 0 0∧n=0∧c=0∨∃a,sv=.slice (some a) n c)
  (hrun:(Builtin.append_ #[ρ.t 24,ρ.t 24] (ρ.t 24) #[sv,.slice (some ⟨vb,0,none⟩) 1 vc]).run P w=.ok val w') (hnc:n≤c) :
  Calls P (ρ.f 22) #[sv,.int .i64 n,.slice (some ⟨vb,0,none⟩) 1 vc] w fun e w1=>e=.returned val∧w1=w':=by
 obtain ⟨nm,hf⟩:=L.fi;have mixed:=L.mixed;have t0:=L.t0;have a0:=L.a0;have z0:=L.z0;have v0:=L.v0;have t3:=L.t3;have a3:=L.a3;have z3:=L.z3;have v3:=L.v3;have t4:=L.t4;have a4:=L.a4;have z4:=L.z4;have v4:=L.v4;have z9:=L.z9;have t24:=L.t24;have a24:=L.a24;have z24:=L.z24;have v24:=L.v24;have u0:=run_underlying L.t0;have u3:=run_underlying L.t3;have u4:=run_underlying L.t4;have u24:=run_underlying L.t24;rcases hs with ⟨rfl,rfl,rfl⟩ | ⟨a,rfl⟩
 ·go_enter hf,Body2.n22_ntmps ρ
  go_wp2_with (at_builtin;refine vir _ rfl _ _ _ _ rfl _ _ rfl rfl _ _ hrun ?_)
  go_ret
  exact ⟨rfl,rfl⟩
 ·obtain ⟨ab,ao,asp⟩:=a
  go_enter hf,Body2.n22_ntmps ρ
  go_wp2_with (at_builtin;refine vir _ rfl _ _ _ _ rfl _ _ rfl rfl _ _ hrun ?_)
  all_goals (go_ret;exact ⟨rfl,rfl⟩)
set_option maxHeartbeats 4000000 in
set_option maxRecDepth 100000 in
theorem q5m (L:InsLay P ρ) (b n i vb vc:Nat) (cs:List Value) (x z:Value) (w:World) (hi:i < n) (hbig:(n+1) * 16≤140737488355328) (hcl:cs.length=n)
  (hcs:∀j v,cs[j]?=some v→w.cell? ⟨b,j,none⟩=some v) (hx:w.cell? ⟨vb,0,none⟩=some x) (h1c:∀v∈cs,v.oneCell'=true) (h1x:x.oneCell'=true) (hz:∃i,P.info? (ρ.t 9)=some i∧i.zero=some z) :
  Calls P (ρ.f 22) #[.slice (some ⟨b,0,none⟩) n n,.int .i64 i,.slice (some ⟨vb,0,none⟩) 1 vc] w fun e w' =>
   e=.returned (.slice (some ⟨w.heap.size,0,none⟩) (n+1) (grownCap w (n+1) n (ρ.t 9))) ∧
   w'=(((w.alloc (.cells ((cs.take i).toArray++Builtin.zeroCells z.cells (n+1 - i)++Builtin.zeroCells z.cells (grownCap w (n+1) n (ρ.t 9) - (n+1))) (ρ.t 9))).drew.setCells w.heap.size i [x]).drew).setCells w.heap.size (i+1) (cs.drop i):=by
 obtain ⟨nm,hf⟩:=L.fi
 have mixed:=L.mixed
 have t0:=L.t0;have a0:=L.a0;have z0:=L.z0;have v0:=L.v0;have t3:=L.t3;have a3:=L.a3;have z3:=L.z3;have v3:=L.v3;have t4:=L.t4;have a4:=L.a4;have z4:=L.z4;have v4:=L.v4;have z9:=L.z9
 have t24:=L.t24;have a24:=L.a24;have z24:=L.z24;have v24:=L.v24
 have u0:=run_underlying L.t0;have u3:=run_underlying L.t3;have u4:=run_underlying L.t4;have u24:=run_underlying L.t24
 obtain ⟨i0,z',hi0,hz0,hzs,hzb,hzc⟩:=L.i9
 obtain rfl:z=z':=by
  obtain ⟨i1,q1,q2⟩:=hz
  rw [hi0] at q1;cases q1
  rw [hz0] at q2;exact (vih q2).symm
 clear hz
 have hsz:(P.info? (ρ.t 9)).map (·.size)=some 1:=by rw [hi0];simp [hzs]
 have hne:¬((i:Int)=(n:Int)):=by omega
 have hbw:b < w.heap.size:=block_lt_of_cell (hcs 0 _ (ve3 (by omega)))
 have hvw:vb < w.heap.size:=block_lt_of_cell hx
 have hkk:(n:Int)+1 - (i:Int)=((n+1 - i:Nat):Int):=by omega
 have hik:i+(n+1 - i)=n+1:=by omega
 have hold:(Builtin.firstCells i0.size i (.slice (some ⟨b,0,none⟩) i n)).run P w.drew=.ok (cs.take i).toArray w.drew:=by
  rw [hzs]
  exact run_firstCells_some w.drew 1 i ⟨b,0,none⟩ i n (cs.take i) (by rw [vfh];omega) (fun j v hj=>by
   rw [Addr.add_lit,Nat.zero_add]
   rw [ve9] at hj
   split at hj
   ·exact hcs j v hj
   ·cases hj)
 have hrz:∀ty,(Builtin.append_ #[(ρ.t 24),(ρ.t 3)] ty #[.slice (some ⟨b,0,none⟩) i n,.int .i64 ((n:Int)+1 - (i:Int))]).run P w =
   .ok (.slice (some ⟨w.heap.size,0,none⟩) (n+1) (grownCap w (n+1) n (ρ.t 9))) (w.drew.alloc (.cells ((cs.take i).toArray++Builtin.zeroCells z.cells (n+1 - i)++Builtin.zeroCells z.cells (grownCap w (n+1) n (ρ.t 9) - (n+1))) (ρ.t 9))):=fun ty=>by
  have hnb:(n+1) * i0.bytes≤140737488355328:=vgb (Nat.mul_le_mul_left _ hzb) hbig
  have h48:(n+1 - i) * i0.bytes≤281474976710656:=vgb (Nat.mul_le_mul_right _ (Nat.sub_le _ _)) (by omega)
  have h:=Lib.run_append_grow_zeros w (ρ.t 24) (ρ.t 3) ty (ρ.t 9) i0 _ .i64 .i64 L.t24 L.t3 hi0 hz0 (some ⟨b,0,none⟩) i n (cs.take i) hold (n+1 - i) (by omega) (by omega) (by omega) (by omega) h48 (by rw [hik];exact growslice_fits (vgd n) hnb)
  rw [hik] at h
  rw [hkk]
  exact h
 obtain ⟨G,hG⟩:∃G,G=grownCap w (n+1) n (ρ.t 9):=⟨_,rfl⟩
 obtain ⟨ROW,hROW⟩:∃ROW:Array Value,ROW=(cs.take i).toArray++Builtin.zeroCells z.cells (n+1 - i)++Builtin.zeroCells z.cells (G - (n+1)):=⟨_,rfl⟩
 rw [←hG] at hrz ⊢
 rw [←hROW] at hrz ⊢
 have hRl:n+1≤ROW.size:=by
  rw [hROW]
  simp only [veb,size_zeroCells,hzc,vfw,vfh,viv]
  omega
 obtain ⟨W1,hW1⟩:∃W1,W1=w.drew.alloc (.cells ROW (ρ.t 9)):=⟨_,rfl⟩
 rw [←hW1] at hrz
 have hN:∀j,j < n+1→(W1.cell? ⟨w.heap.size,j,none⟩).isSome=true:=fun j hj=>by
  rw [hW1,World.cell?_alloc_at (w:=w.drew) ROW _ w.heap.size j rfl,vij (by omega)];rfl
 have hNf:∀j,W1.frozen? ⟨w.heap.size,j,none⟩=false:=fun j=>by rw [hW1];exact World.frozen?_alloc_at (w:=w.drew) ROW _ w.heap.size j rfl
 have hOb:∀j v,w.cell? ⟨b,j,none⟩=some v→W1.cell? ⟨b,j,none⟩=some v:=fun j v h=>by rw [hW1,World.cell?_alloc_past (w:=w.drew) _ b j hbw];exact h
 have hOv:∀j v,w.cell? ⟨vb,j,none⟩=some v→W1.cell? ⟨vb,j,none⟩=some v:=fun j v h=>by rw [hW1,World.cell?_alloc_past (w:=w.drew) _ vb j hvw];exact h
 have cpA:∀(W:World),(∀y,W.cell? y=W1.cell? y)→(∀y,W.frozen? y=W1.frozen? y)→∀ty dc,(Builtin.copy_ #[(ρ.t 24),(ρ.t 24)] ty #[.slice (some ⟨w.heap.size,i,none⟩) (n+1 - i) dc,.slice (some ⟨vb,0,none⟩) 1 vc]).run P W=.ok (goInt [x].length) (W.setCells w.heap.size i [x]):=fun W hWc hWf ty dc =>
  run_copy_cells W _ _ ty (ρ.t 9) w.heap.size i (n+1 - i) dc ⟨vb,0,none⟩ 1 vc [x] L.t24 hsz (by simp only [vi0,vhe,vfe];split <;> omega)
   (fun j v hj=>by
    cases j with
    | zero =>
     simp only [vhc,vgr] at hj
     subst hj
     rw [Addr.add_lit,hWc]
     exact hOv 0 _ hx
    | succ j=>simp at hj)
   (fun j hj=>by rw [hWc];exact hN _ (by simp at hj;omega)) (fun j hj=>by rw [hWf];exact hNf _) (fun v hv=>by rw [vhw.1 hv];exact h1x)
 have hGn:n+1≤G:=by rw [hG];exact grownCap_ge w _ _ _
 have hG63:G≤9223372036854775807:=by
  have:=grownCap_le_maxLen w (n+1) n (ρ.t 9) (by unfold maxLen;omega)
  rw [←hG] at this
  unfold maxLen at this
  omega
 have hGi:¬(G=i):=by omega
 have hGim:¬(G=i+1):=by omega
 have hci:¬(n=i):=by omega
 have hbN:b≠w.heap.size:=by omega
 have hdl:(cs.drop i).length=n - i:=by rw [vfc,hcl]
 have cpB:∀(W:World),(∀y,W.cell? y=(W1.setCells w.heap.size i [x]).cell? y)→(∀y,W.frozen? y=(W1.setCells w.heap.size i [x]).frozen? y)→∀ty dc sc,(Builtin.copy_ #[(ρ.t 24),(ρ.t 24)] ty #[.slice (some ⟨w.heap.size,i+1,none⟩) (n - i) dc,.slice (some ⟨b,i,none⟩) (n - i) sc]).run P W=.ok (goInt (cs.drop i).length) (W.setCells w.heap.size (i+1) (cs.drop i)):=fun W hWc hWf ty dc sc =>
  run_copy_cells W _ _ ty (ρ.t 9) w.heap.size (i+1) (n - i) dc ⟨b,i,none⟩ (n - i) sc (cs.drop i) L.t24 hsz (by rw [hdl];simp only [vi0];split <;> omega)
   (fun j v hj=>by
    rw [Addr.add_lit,hWc,World.cell?_setCells_out _ _ _ _ _ (fun h _=>absurd h hbN)]
    exact hOb _ v (hcs (i+j) v (by rwa [ve2] at hj)))
   (fun j hj=>by rw [hWc];exact Go.Proofs.isSome_setCells _ _ _ W1 (fun t ht=>hN _ (by simp at ht;omega)) _ (hN _ (by omega)))
   (fun j hj=>by rw [hWf,World.frozen?_setCells];exact hNf _) (fun v hv=>h1c v (vfo hv))
 subst hW1
 have hE1:∀y,((w.alloc (.cells ROW (ρ.t 9))).drew).cell? y=(w.drew.alloc (.cells ROW (ρ.t 9))).cell? y:=fun y=>rfl
 have hE2:∀y,((w.alloc (.cells ROW (ρ.t 9))).drew).frozen? y=(w.drew.alloc (.cells ROW (ρ.t 9))).frozen? y:=fun y=>rfl
 have hF1:∀y,(((w.alloc (.cells ROW (ρ.t 9))).drew.setCells w.heap.size i [x]).drew).cell? y=((w.drew.alloc (.cells ROW (ρ.t 9))).setCells w.heap.size i [x]).cell? y:=fun y=>rfl
 have hF2:∀y,(((w.alloc (.cells ROW (ρ.t 9))).drew.setCells w.heap.size i [x]).drew).frozen? y=((w.drew.alloc (.cells ROW (ρ.t 9))).setCells w.heap.size i [x]).frozen? y:=fun y=>rfl
 have hw1:vip.wrap ((i:Int)+1)=(i:Int)+1:=by rw [viq];omega
 have hw2:vip.wrap ((n:Int)+1)=(n:Int)+1:=by rw [viq];omega
 have hb1:(0:Int)≤(i:Int)+1:=by omega
 have hin:i≤n:=by omega
 have htn:((i:Int)+1).toNat=i+1:=by omega
 have hb3:(i:Int)≤(n:Int):=by omega
 clear hkk hik hold hROW hG hRl
 go_enter hf,Body2.n22_ntmps ρ
 go_wp2_with (first
  | (at_builtin;refine vir _ rfl _ _ _ _ rfl _ _ rfl rfl _ _ (hrz _) ?_)
  | (at_builtin;refine wpList_copy_runI _ rfl _ _ (ρ.t 24) (ρ.t 24) rfl _ _ rfl rfl (cpA _ hE1 hE2 _ _) ?_)
  | (at_builtin;refine wpList_copy_runI _ rfl _ _ (ρ.t 24) (ρ.t 24) rfl _ _ rfl rfl (cpB _ (fun _=>rfl) (fun _=>rfl) _ _ _) ?_))
 go_region_law_o (refine step_copy_runI rfl _ _ (ρ.t 24) (ρ.t 24) rfl (.slice (some ⟨w.heap.size,i+1,none⟩) (n - i) (G - (i+1))) (.slice (some ⟨b,i,none⟩) (n - i) (n - i)) (by simp [Act.eval,Act.put]) (by simp [Act.eval,Act.put]) (cpB _ hF1 hF2 (ρ.t 3) (G - (i+1)) (n - i)) ?_)
 go_wp2
 go_ret
 exact ⟨rfl,rfl⟩
end Go.Ab
namespace Go.Ab
open Go Go.Proofs Go.Shelf
def qwf (cur:Array Value):Nat→List Value→Array Value
 | _,[]=>cur
 | o,v :: vs=>qwf (cur.setIfInBounds o v) (o+1) vs
theorem qeg:∀(vs:List Value) (o:Nat) (cur:Array Value),(qwf cur o vs).size=cur.size
 | [],_,_=>rfl
 | v :: vs,o,cur=>by rw [qwf,qeg vs];simp
theorem qhk:∀(vs:List Value) (o:Nat) (cur:Array Value) (j:Nat),j < o∨o+vs.length≤j→(qwf cur o vs)[j]?=cur[j]?
 | [],_,_,_,_=>rfl
 | v :: vs,o,cur,j,h=>by
  rw [qwf,qhk vs (o+1) _ j (by simp only [vhe] at h;omega),vd7 (by simp only [vhe] at h;omega)]
theorem qoy:∀(vs:List Value) (o:Nat) (cur:Array Value) (j:Nat),j < vs.length→o+vs.length≤cur.size→(qwf cur o vs)[o+j]?=vs[j]?
 | v :: vs,o,cur,0,_,hs=>by
  simp only [vhe] at hs;rw [qwf,qhk vs (o+1) _ _ (.inl (by omega))];simp [Array.getElem?_setIfInBounds,show o < cur.size by omega]
 | v :: vs,o,cur,j+1,hj,hs=>by
  simp only [vhe] at hs hj;rw [qwf,show o+(j+1)=(o+1)+j by omega,qoy vs (o+1) _ j (by omega) (by simp;omega)];simp
theorem qfc {b:Nat} {e:TypeId} {f:Nat×Nat}:∀(vs:List Value) (o:Nat) (w:World) (cur:Array Value),w.heap[b]?=some (.cells cur e f) →
  (w.setCells b o vs).heap[b]?=some (.cells (qwf cur o vs) e f)
 | [],_,_,_,h=>h
 | v :: vs,o,w,cur,h=>by
  rw [World.setCells,qwf];refine qfc vs (o+1) _ _ ?_;have hb:b < w.heap.size:=(vd5.1 h).1;simp only [World.setCell,vik,if_true,h,vgq,Option.isSome_none,vei,if_false]
theorem qfd {b:Nat}:∀(vs:List Value) (o:Nat) (w:World),(w.setCells b o vs).os=w.os∧(w.setCells b o vs).tape=w.tape∧(w.setCells b o vs).output=w.output∧(w.setCells b o vs).drawn=w.drawn ∧
  (w.setCells b o vs).heap.size=w.heap.size∧∀k,k≠b→(w.setCells b o vs).heap[k]?=w.heap[k]?
 | [],_,_=>⟨rfl,rfl,rfl,rfl,rfl,fun _ _=>rfl⟩
 | v :: vs,o,w=>by
  rw [World.setCells];obtain ⟨h1,h2,h3,h4,h5,h6⟩:=qfd (b:=b) vs (o+1) (w.setCell ⟨b,o,none⟩ v);refine ⟨h1,h2,h3,h4,h5.trans (by simp [World.setCell]),fun k hk=>(h6 k hk).trans ?_⟩;simp only [World.setCell,vik];rw [if_neg (Ne.symm hk)]
def qit {α:Type} (l:List α) (i:Nat) (x:α):List α:=l.take i++x :: l.drop i
theorem qkm {α:Type} {l:List α} {i:Nat} {x:α} (h:i≤l.length):(qit l i x).length=l.length+1:=by
 simp [qit];omega
theorem q5n {α β:Type} (f:α→β) (l:List α) (i:Nat) (x:α):(qit l i x).map f=qit (l.map f) i (f x):=by simp [qit]
theorem q20 {cur:Array Value} {cs:List Value} {x:Value} {i:Nat} (hi:i≤cs.length) (hs:cs.length+1≤cur.size) (hc:∀j,j < i→cur[j]?=cs[j]?) :
  (qwf (qwf cur (i+1) (cs.drop i)) i [x]).toList.take (cs.length+1)=qit cs i x∧(qwf (qwf cur i [x]) (i+1) (cs.drop i)).toList.take (cs.length+1)=qit cs i x:=by
 have hd:(cs.drop i).length=cs.length - i:=vfc;have key:∀A:Array Value,A.size=cur.size→(∀j,j < i→A[j]?=cs[j]?)→A[i]?=some x→(∀j,j < cs.length - i→A[i+1+j]?=cs[i+j]?)→A.toList.take (cs.length+1)=qit cs i x:=by
  intro A hA h1 h2 h3;refine List.ext_getElem? fun j=>?_
  rw [ve9,qit];split
  ·rename_i hj;rw [vd8];rcases vh6 j i with h | h | h
   ·rw [h1 j h,ve0 (by rw [vfh];omega),ve9,if_pos h]
   ·subst h;rw [h2,ve1 (by rw [vfh];omega),vfh,vh7 hi];simp
   ·rw [show j=i+1+(j - i - 1) by omega,h3 (j - i - 1) (by omega),ve1 (by rw [vfh];omega),vfh,vh7 hi,
     show i+1+(j - i - 1) - i=(j - i - 1)+1 by omega,vhb,ve2]
  ·rename_i hj;refine (ve4 ?_).symm;rw [vfb,vfh,vhe,hd];omega
 constructor
 ·refine key _ (by rw [qeg,qeg]) (fun j hj=>?_) ?_ (fun j hj=>?_)
  ·rw [qhk _ _ _ _ (.inl hj),qhk _ _ _ _ (.inl (by omega))];exact hc j hj
  ·have:=qoy [x] i (qwf cur (i+1) (cs.drop i)) 0 (by simp) (by rw [qeg];simp only [vhe,vfe];omega);simpa using this
  ·rw [qhk _ _ _ _ (.inr (by simp only [vhe,vfe];omega)),qoy _ _ _ _ (by rw [hd];exact hj) (by rw [hd];omega),ve2]
 ·refine key _ (by rw [qeg,qeg]) (fun j hj=>?_) ?_ (fun j hj=>?_)
  ·rw [qhk _ _ _ _ (.inl (by omega)),qhk _ _ _ _ (.inl hj)];exact hc j hj
  ·rw [qhk _ _ _ _ (.inl (by omega))];have:=qoy [x] i cur 0 (by simp) (by simp only [vhe,vfe];omega);simpa using this
  ·rw [qoy _ _ _ _ (by rw [hd];exact hj) (by rw [hd,qeg];omega),ve2]
theorem qln (zs:List Int):∀v∈zs.map (Value.int .i64),v.oneCell'=true:=fun v hv=>by obtain ⟨x,_,rfl⟩:=vht.1 hv;rfl
theorem qtz (zs:List Int):∀v∈zs.map (Value.int .i64),v.cells.size=1:=fun v hv=>by obtain ⟨x,_,rfl⟩:=vht.1 hv;rfl
theorem qjb (zs:List Int):flat (zs.map (Value.int .i64))=zs.map (Value.int .i64):=qtl (qln zs)
theorem q21 {P:Program} {X:Nat→Prop} {inj:Inj} {σ:Nat→AO} {w:World} {a:Act} {o:Oper} {f:Operand} {args:Array Operand} {ats:Array TypeId} {ρ:Operand→AV} {k:FuncId} {avs:List AV}
  (hk:HasBody P k) (ha:∀x,AR X inj σ w (ρ x) (a.eval x)) (ho:o.op=.call ⟨.value f,args,ats⟩) (hc:qcv ρ f args.toList=some (k,avs)) :
  ∃vs,(execOp a.eval o).run P w=.ok (.enter k vs.toArray) w∧ARs X inj σ w avs vs:=by
 have hf:=ha f;have hargs:=qij ha args.toList;obtain ⟨dst,op,type,pos,after,guard⟩:=o;simp only at ho;subst ho;unfold qcv at hc;have run:∀cap:Array Value,a.eval f=.func (.func k) #[] cap→(execOp a.eval ⟨dst,.call ⟨.value f,args,ats⟩,type,pos,after,guard⟩).run P w=.ok (.enter k (args.map a.eval++cap)) w:=by
  intro cap he;simp only [execOp,resolve,Deferred.ofValue,he,vgv,vgw,vgt,invoke];rw [hk];simp
 split at hc
 ·rename_i k' cs hev;simp only [vgr,vgs] at hc;obtain ⟨rfl,rfl⟩:=hc;rw [hev] at hf;obtain ⟨vs,h1,h2⟩:=hf;refine ⟨args.toList.map a.eval++vs,?_,hargs.append (qav.2 h2)⟩;rw [run vs.toArray h1];congr 2;apply vd3;simp
 ·rename_i k' cs hev;simp only [vgr,vgs] at hc;obtain ⟨rfl,rfl⟩:=hc;rw [hev] at hf;obtain ⟨vs,h1,h2⟩:=hf;refine ⟨args.toList.map a.eval++vs,?_,hargs.append h2⟩;rw [run vs.toArray h1];congr 2;apply vd3;simp
 ·cases hc
variable {P:Program} {ρ:Ren} {D:Prop}
theorem qz3 (LY:InsLay P ρ) (hb:HasBody P (ρ.f 22)) (hz0:qbo P (ρ.t 9)=some (.p (.int .i64 0))) (hz1:qb8.zeroLen P (ρ.t 9)=1) (hc1:P.cellsOf (ρ.t 9)=1)
  {o:Oper} {f:Operand} {args:Array Operand} {ats:Array TypeId} {ρe:Operand→AV} {σ:Nat→AO} {l g l2 g2 i:Nat} {zs:List Int} {x:Int} {n:Nat}
  (ho:o.op=.call ⟨.value f,args,ats⟩) (hc:qcv ρe f args.toList=some (ρ.f 22,[.own l g 0 n,.p (.int .i64 i),.own l2 g2 0 1]))
  (h1:σ l=.arr (ρ.t 9) 1 g ((zs.map (PV.int .i64)).map AV.p)) (h2:σ l2=.arr (ρ.t 9) 1 g2 [.p (.int .i64 x)]) (hn:zs.length=n) (hll:l≠l2) (hi:i≤n) (hroom:qf6 P (ρ.t 9) (n+1)=true) (hbig:(n+1) * 16≤140737488355328) :
  OpU D P o ρe σ (.own l (g+1) 0 (n+1)) (some (l,.arr (ρ.t 9) 1 (g+1) (((qit zs i x).map (PV.int .i64)).map AV.p))) [l,l2]:=by
 intro X ρ' σ' hρ hσ inj w a next Q hr hT ha hnx
 have hf':ρ' f=ρe f:=hρ f (by rw [ho];simp [Op.operands,Call.operands]);have ha':args.toList.map ρ'=args.toList.map ρe:=vhk fun y hy=>hρ y (by rw [ho];simp [Op.operands,Call.operands] at hy ⊢;exact .inr hy)
 have hc':qcv ρ' f args.toList=some (ρ.f 22,[.own l g 0 n,.p (.int .i64 i),.own l2 g2 0 1]):=by
  unfold qcv at hc ⊢;rw [hf',ha'];exact hc
 obtain ⟨vs,hrun,hars⟩:=q21 hb ha ho hc';obtain ⟨sv,r1,rfl,hs,r2⟩:=hars;obtain ⟨iv,r3,rfl,hiv,r4⟩:=r2;obtain ⟨xv,r5,rfl,hxv,rfl⟩:=r4;have hiv':iv=.int .i64 i:=hiv;subst hiv';have e1:=(hσ l (by simp)).trans h1;have e2:=(hσ l2 (by simp)).trans h2;unfold Oper.wp;rw [hrun];simp only [Oper.upon]
 -- what is known of the two rows
 have hs':=hs;obtain ⟨_,hs2⟩:=hs;obtain ⟨_,hs3⟩:=hs2 _ e1;obtain ⟨hs4,hs5⟩:=hs3 rfl _ _ _ rfl;obtain ⟨_,hx2⟩:=id hxv;obtain ⟨_,hx3⟩:=hx2 _ e2;obtain ⟨_,hx5⟩:=hx3 rfl _ _ _ rfl;obtain ⟨xs,q1,q2,q3,q4⟩:=(e2 ▸ hr.obj l2 _ rfl:OR X inj σ' w l2 (.arr (ρ.t 9) 1 g2 [.p (.int .i64 x)]));have hxs:xs=[Value.int .i64 x]:=qrw (l:=[x]) q1;subst hxs;rcases q4 with ⟨_,q4⟩ | ⟨vb,vc,vcur,k1,k2,k3,k4,k5,k6,k7⟩
 ·cases q4
 rcases hx5 with ⟨j1,_⟩ | ⟨b2,c2,a2,j1,j2,j3,j4⟩
 ·rw [k1] at j1;cases j1
 rw [k1] at j1;cases j1;have hva:xv=.slice (some ⟨vb,0,none⟩) 1 vc:=by
  rcases j4 with ⟨h,_⟩ | h
  ·exact absurd rfl h
  ·rw [j2,h];simp
 subst hva;have hvb:vb < w.heap.size:=(vd5.1 k3).1;have hx0:w.cell? ⟨vb,0,none⟩=some (.int .i64 x):=by
  have k8:vcur.toList[0]?=some (.int .i64 x):=by
   have:=congrArg (fun l=>l[0]?) k7;simpa [flat,Value.cells,ve9] using this
  exact qhc k3 k8
 obtain ⟨cs,p1,p2,p3,p4⟩:=(e1 ▸ hr.obj l _ rfl:OR X inj σ' w l (.arr (ρ.t 9) 1 g ((zs.map (PV.int .i64)).map AV.p)));have hcs:cs=zs.map (Value.int .i64):=qrw p1;subst hcs;have hcl:(zs.map (Value.int .i64)).length=n:=by simp [hn]
 have hfin:qit (zs.map (Value.int .i64)) i (.int .i64 x)=(qit zs i x).map (Value.int .i64):=(q5n _ _ _ _).symm;have hlen':(qit zs i x).length=n+1:=by rw [qkm (by omega),hn]
 by_cases hin:i=n
 · -- an append
  subst hin;have hrA:(qb8 P l (ρ.t 24) (.own l g 0 i) (.own l2 g2 0 1)).run σ'=some (.own l (g+1) 0 (i+1),some (l,.arr (ρ.t 9) 1 (g+1) (((qit zs i x).map (PV.int .i64)).map AV.p))):=by
   have hins:((qit zs i x).map (PV.int .i64)).map AV.p=(zs.map (PV.int .i64)).map AV.p++[.p (.int .i64 x)]:=by
    rw [qit,vfz (by omega),List.drop_eq_nil_of_le (by omega)];simp
   rw [hins];have hz0':(qbo P (ρ.t 9)).isSome=true:=by rw [hz0];rfl
   simp [qb8,LY.t24,qf5,L.run_bind',L.run_look,e1,e2,hc1,hn,hz0',hz1,hroom,qdg,AV.cells,PV.cells,AV.known,PV.isTup]
  obtain ⟨val,w',inj',t1,t2,t3,t4⟩:=qih (D:=D) (ty:=ρ.t 24) hr (k:=l) hs' hxv hrA;have done:∀c,(sv=.slice none 0 0∧i=0∧c=0∨∃a,sv=.slice (some a) i c)→i≤c→Calls P (ρ.f 22) [sv,.int .i64 i,.slice (some ⟨vb,0,none⟩) 1 vc].toArray w fun e w1=>e=.returned val∧w1=w' :=
   fun c h1 h2=>q93 LY sv i c vb vc w w' val h1 t1 h2
  have key:Calls P (ρ.f 22) [sv,.int .i64 i,.slice (some ⟨vb,0,none⟩) 1 vc].toArray w fun e w1=>e=.returned val∧w1=w':=by
   rcases hs5 with ⟨_,h,_,h0⟩ | ⟨b,c,a0,_,h,hle,h0⟩
   ·exact done 0 (.inl ⟨h,h0,rfl⟩) (by omega)
   ·rcases h0 with ⟨h0,_⟩ | h0
    ·exact absurd rfl h0
    ·exact done c (.inr ⟨⟨b,0,none⟩,by rw [h,h0];simp⟩) (by omega)
  refine key.mono ?_;rintro e w1 ⟨rfl,rfl⟩;exact hnx _ _ _ t2 t3 t4
 ·have hlt:i < n:=by omega
  rcases hs5 with ⟨_,_,_,h0⟩ | ⟨b,c,a0,m1,m2,m3,m4⟩
  ·omega
  have ha0:a0=some ⟨b,0,none⟩:=by
   rcases m4 with ⟨h,_⟩ | h
   ·exact absurd rfl h
   ·simpa using h
  subst ha0;rcases p4 with ⟨p4,_⟩ | ⟨b',c',cur,n1,n2,n3,n4,n5,n6,n7⟩
  ·rw [m1] at p4;cases p4
  rw [m1] at n1;cases n1;subst m2;have hbw:b < w.heap.size:=(vd5.1 n3).1;have hvb':vb≠b:=fun h=>by
   subst h;exact hll (hr.inj1 l l2 _ _ vb c vc e1 e2 rfl rfl m1 k1)
  rw [qjb] at n7;have hlen0:((zs.map (PV.int .i64)).map AV.p).length * 1=n:=by simp [hn]
  rw [hlen0] at n7;have hcur:∀j,j < n→cur[j]?=(zs.map (Value.int .i64))[j]?:=fun j hj=>by
   have:=congrArg (fun q=>q[j]?) n7;simp only [ve9,if_pos hj,vd8] at this;exact this
  have hcell:∀j v,(zs.map (Value.int .i64))[j]?=some v→w.cell? ⟨b,j,none⟩=some v:=fun j v hv=>by
   have hj:j < n:=by
    have:=(ve5.1 hv).1;simp only [vfd] at this;omega
   exact qhc n3 (by rw [vd8,hcur j hj];exact hv)
  have hfrz:∀j,w.frozen? ⟨b,j,none⟩=false:=fun j=>by unfold World.frozen?;rw [n3];simp
  have hfrv:∀j,w.frozen? ⟨vb,j,none⟩=false:=fun j=>by unfold World.frozen?;rw [k3];simp
  have hmul:c * 1=c:=Nat.mul_one c;rw [hmul] at n6;have hnew:∀inj2 σ2 w2,ARs X inj2 σ2 w2 (((qit zs i x).map (PV.int .i64)).map AV.p) ((qit zs i x).map (Value.int .i64)):=fun inj2 σ2 w2=>qtm _
  have hnl:(((qit zs i x).map (PV.int .i64)).map AV.p).length * 1=n+1:=by simp [hlen']
  have hnl':(((qit zs i x).map (PV.int .i64)).map AV.p).length=n+1:=by simp [hlen']
  by_cases hcap:n+1≤c
  ·refine (q2z LY b n c i vb vc _ (.int .i64 x) w hlt hcap (by unfold maxLen at n5;omega) hvb' hcl hcell (fun j hj=>?_) (fun j _=>hfrz j) hx0 (qln zs) rfl (ρ.t 9) (ρ.t 9) vcur.size cur.size ?_ ?_ (by omega) (hfrv 0) (hfrv _)).mono ?_
   ·have:cur.toList[j]?=some cur[j]:=by rw [vd8];exact vij (by omega)
    rw [qhc n3 this];rfl
   ·unfold World.shape?;rw [k3]
   ·unfold World.shape?;rw [n3]
   rintro e w1 ⟨rfl,rfl⟩;have hh1:w.drew.heap[b]?=some (.cells cur (ρ.t 9) (0,0)):=n3;have hh2:=qfc ((zs.map (Value.int .i64)).drop i) (i+1) w.drew cur hh1;have hh3:=qfc [Value.int .i64 x] i _ _ hh2;obtain ⟨s1,s2,s3,s4,s5,s6⟩:=qfd (b:=b) ((zs.map (Value.int .i64)).drop i) (i+1) w.drew;obtain ⟨u1,u2,u3,u4,u5,u6⟩:=qfd (b:=b) [Value.int .i64 x] i (w.drew.setCells b (i+1) ((zs.map (Value.int .i64)).drop i));have hup:=hr.update (D:=D) (w':=(w.drew.setCells b (i+1) ((zs.map (Value.int .i64)).drop i)).setCells b i [.int .i64 x]) (l:=l) (o:=.arr (ρ.t 9) 1 g ((zs.map (PV.int .i64)).map AV.p)) (o':=.arr (ρ.t 9) 1 (g+1) (((qit zs i x).map (PV.int .i64)).map AV.p)) (x:=some (b,c)) e1
    (u1.trans s1) (u2.trans s2) (u3.trans s3) (fun _=>by rw [u4,s4];exact Nat.le_succ _) (by rw [u5,s5];exact vf9 _)
    (fun a' _=>by rw [World.frozen?_setCells,World.frozen?_setCells];rfl)
    (fun k _ hk=>by
     have hkb:k≠b:=fun h=>by subst h;exact hk rfl c m1
     rw [u6 k hkb,s6 k hkb];rfl)
    (fun b1 c1 h=>by cases h;exact .inr ⟨rfl,c,m1⟩) ⟨by simp [AO.gen],fun _ he=>by simp [AO.gen] at he⟩
   obtain ⟨hev,hhr⟩:=hup;have hown:q0n (fun q=>if q=l then some (b,c) else inj q) (qg6 σ' l (.arr (ρ.t 9) 1 (g+1) (((qit zs i x).map (PV.int .i64)).map AV.p))) l (g+1) 0 (n+1) (.slice (some ⟨b,0,none⟩) (n+1) c) :=
    qgb (qcp _ _ _) (if_pos rfl) (by rw [hnl'];exact vf9 _) hcap
   refine hnx _ _ _ (hhr ⟨_,hnew _ _ _,qtz _,by rw [qjb];exact qln _,.inr ⟨b,c,_,by simp,n2,hh3,by rw [hnl'];exact hcap,n5,by rw [qeg,qeg,n6,hmul],?_⟩⟩) hev hown;rw [hnl,qjb,←hfin];have:=(q20 (cur:=cur) (cs:=zs.map (Value.int .i64)) (x:=.int .i64 x) (i:=i) (by rw [hcl];omega) (by rw [hcl];omega) (fun j hj=>hcur j (by omega))).1;rw [hcl] at this;exact this
  ·have hcn:c=n:=by omega
   subst hcn;obtain ⟨i0,z,hi0,hz2,hzs,hzb,hzc⟩:=LY.i9;refine (q5m LY b c i vb vc _ (.int .i64 x) z w hlt hbig hcl hcell hx0 (qln zs) rfl ⟨i0,hi0,hz2⟩).mono ?_;rintro e w1 ⟨rfl,rfl⟩;obtain ⟨G,hG⟩:∃G,G=grownCap w (c+1) c (ρ.t 9):=⟨_,rfl⟩;have hGn:c+1≤G:=by rw [hG];exact grownCap_ge w _ _ _
   have hGm:G≤maxLen:=by rw [hG];exact grownCap_le_maxLen w _ _ _ (by unfold maxLen;omega)
   rw [←hG];obtain ⟨ROW,hROW⟩:∃ROW:Array Value,ROW=((zs.map (Value.int .i64)).take i).toArray++Builtin.zeroCells z.cells (c+1 - i)++Builtin.zeroCells z.cells (G - (c+1)):=⟨_,rfl⟩;rw [←hROW];have hRs:ROW.size=G:=by
    rw [hROW];simp only [veb,size_zeroCells,hzc,vfw,vfh,viv,vfd,hn];omega
   have hRc:∀j,j < i→ROW[j]?=(zs.map (Value.int .i64))[j]?:=fun j hj=>by
    rw [hROW,Array.append_assoc,Array.getElem?_append_left (by simp [hn];omega)];simp only [List.getElem?_toArray,ve9,if_pos hj]
   have hal:(w.alloc (.cells ROW (ρ.t 9))).heap=w.heap.push (.cells ROW (ρ.t 9)):=rfl;have hh1:(w.alloc (.cells ROW (ρ.t 9))).drew.heap[w.heap.size]?=some (.cells ROW (ρ.t 9) (0,0)):=by
    show (w.alloc (.cells ROW (ρ.t 9))).heap[w.heap.size]?=_;rw [hal];simp
   have hh2:=qfc [Value.int .i64 x] i _ _ hh1;have hh3:=qfc ((zs.map (Value.int .i64)).drop i) (i+1) ((w.alloc (.cells ROW (ρ.t 9))).drew.setCells w.heap.size i [Value.int .i64 x]).drew _ hh2;obtain ⟨s1,s2,s3,s4,s5,s6⟩:=qfd (b:=w.heap.size) [Value.int .i64 x] i (w.alloc (.cells ROW (ρ.t 9))).drew;obtain ⟨u1,u2,u3,u4,u5,u6⟩:=qfd (b:=w.heap.size) ((zs.map (Value.int .i64)).drop i) (i+1) ((w.alloc (.cells ROW (ρ.t 9))).drew.setCells w.heap.size i [Value.int .i64 x]).drew;have hsz:w.heap.size≤(w.alloc (.cells ROW (ρ.t 9))).heap.size:=by rw [hal,Array.size_push];omega
   have hup:=hr.update (D:=D) (w':=((w.alloc (.cells ROW (ρ.t 9))).drew.setCells w.heap.size i [Value.int .i64 x]).drew.setCells w.heap.size (i+1) ((zs.map (Value.int .i64)).drop i)) (l:=l) (o:=.arr (ρ.t 9) 1 g ((zs.map (PV.int .i64)).map AV.p)) (o':=.arr (ρ.t 9) 1 (g+1) (((qit zs i x).map (PV.int .i64)).map AV.p)) (x:=some (w.heap.size,G)) e1
    (u1.trans s1) (u2.trans s2) (u3.trans s3)
    (fun _=>by
     rw [u4];show w.drawn≤((w.alloc (.cells ROW (ρ.t 9))).drew.setCells w.heap.size i [Value.int .i64 x]).drawn+1;rw [s4];show w.drawn≤w.drawn+1+1;omega)
    (by
     rw [u5];show w.heap.size≤((w.alloc (.cells ROW (ρ.t 9))).drew.setCells w.heap.size i [Value.int .i64 x]).heap.size;rw [s5];exact hsz)
    (fun a' _=>by
     rw [World.frozen?_setCells];show ((w.alloc (.cells ROW (ρ.t 9))).drew.setCells w.heap.size i [Value.int .i64 x]).frozen? a'=_;rw [World.frozen?_setCells];exact qhf w ROW (ρ.t 9) a')
    (fun k hk0 hk=>by
     have hkb:k≠w.heap.size:=by omega
     rw [u6 k hkb];show ((w.alloc (.cells ROW (ρ.t 9))).drew.setCells w.heap.size i [Value.int .i64 x]).heap[k]?=_;rw [s6 k hkb];show (w.alloc (.cells ROW (ρ.t 9))).heap[k]?=_;rw [hal,Array.getElem?_push,if_neg hkb])
    (fun b1 c1 h=>by cases h;exact .inl (vf9 _)) ⟨by simp [AO.gen],fun _ he=>by simp [AO.gen] at he⟩
   obtain ⟨hev,hhr⟩:=hup;have hown:q0n (fun q=>if q=l then some (w.heap.size,G) else inj q) (qg6 σ' l (.arr (ρ.t 9) 1 (g+1) (((qit zs i x).map (PV.int .i64)).map AV.p))) l (g+1) 0 (c+1) (.slice (some ⟨w.heap.size,0,none⟩) (c+1) G) :=
    qgb (qcp _ _ _) (if_pos rfl) (by rw [hnl'];exact vf9 _) hGn
   refine hnx _ _ _ (hhr ⟨_,hnew _ _ _,qtz _,by rw [qjb];exact qln _,.inr ⟨w.heap.size,G,_,by simp,fun hX=>by have:=hr.xlt _ hX;omega,hh3,by rw [hnl'];exact hGn,hGm,by rw [qeg,qeg,hRs,Nat.mul_one],?_⟩⟩) hev hown;rw [hnl,qjb,←hfin];have:=(q20 (cur:=ROW) (cs:=zs.map (Value.int .i64)) (x:=.int .i64 x) (i:=i) (by rw [hcl];omega) (by rw [hcl];omega) hRc).2;rw [hcl] at this;exact this
end Go.Ab
namespace Go.Ab
open Go Go.Shelf
structure InsK (P:Program) (k e:Nat):Prop where
 lay:∃ρ:Ren,InsLay P ρ∧ρ.f 22=k∧ρ.t 9=e
 body:HasBody P k
 zero:qbo P e=some (.p (.int .i64 0))
 zlen:qb8.zeroLen P e=1
 cells:P.cellsOf e=1
 bytes:P.bytesOf e=8
variable {C:Cx} {st:St}
theorem yI {ops:Array Oper} {K:List Evt→St→Prop} {o:Oper} {f:Operand} {args:Array Operand} {ats:Array TypeId} {rest:List Oper} {acc:List Evt} {k e l g l2 g2:Nat}
  (S:InsK C.P k e) (zs:List Int) (i x:Int) (h0:0≤i) (h1:i≤((zs.length:Nat):Int)) (h2:zs.length≤1000000000)
  (h:DGo C ops rest ⟨qd0 st.env o.dst (.own l (g+1) 0 (qit zs i.toNat x).length),q0w st.heap l (.arr e 1 (g+1) (((qit zs i.toNat x).map (PV.int .i64)).map AV.p))⟩
   (⟨.own l (g+1) 0 (qit zs i.toNat x).length,some (l,.arr e 1 (g+1) (((qit zs i.toNat x).map (PV.int .i64)).map AV.p)),[l,l2]⟩ :: acc) K)
  (ho:o.op=.call ⟨.value f,args,ats⟩:=by rfl) (hgd:qal ops st.env o=some true:=by first | exact qcb rfl | exact qdw rfl rfl (by exact rfl) (by exact rfl)) (hd:qbc C.N o=true:=by rfl)
  (hc:qcg st.env f args.toList=some (k,[.own l g 0 zs.length,.p (.int .i64 i),.own l2 g2 0 1]):=by simp only [go_sem,seval, *];all_goals first | exact rfl | ((repeat' apply And.intro) <;> exact rfl))
  (hl:qag st.heap l=.arr e 1 g ((zs.map (PV.int .i64)).map AV.p):=by simp only [go_sem,seval, *];all_goals exact rfl)
  (hl2:qag st.heap l2=.arr e 1 g2 [.p (.int .i64 x)]:=by simp only [go_sem,seval, *];all_goals exact rfl)
  (hll:l≠l2:=by decide):DGo C ops (o :: rest) st acc K:=by
 obtain ⟨ρ,LY,rfl,rfl⟩:=S.lay;obtain ⟨n,rfl⟩:=Int.eq_ofNat_of_zero_le h0;have hn:n≤zs.length:=by omega
 have hlen:(qit zs ((n:Int)).toNat x).length=zs.length+1:=by rw [vio];exact qkm hn
 rw [hlen] at h;rw [vio] at h;refine DGo.ext (qz3 LY S.body S.zero S.zlen S.cells ho ?_ hl hl2 rfl hll hn ?_ (by omega)) hgd hd rfl ?_
 ·rw [qgd];exact hc
 ·simp only [qf6,S.bytes,decide_eq_true_eq];omega
 ·exact h
end Go.Ab
namespace Go.Ab
open Go
set_option linter.constructorNameAsVariable false
inductive Dst where
 | no
 | at (p:Ps)
def qgi:Option Tmp→Dst
 | some t=>.at (pth t)
 | none=>.no
inductive IOp where
 | f (d:Dst) (g:G)
 | call (d:Dst) (fn:Opd) (args:List Opd)
 | gd (j:Ps) (want:Bool) (d:Dst) (o:IOp)
 | cpy (tA:TypeId) (x y:Opd) (d1 d2 d3:Ps)
 | bad
def vc7 (P:Program) (t:TypeId) (parts:Array (Nat×Operand)) (B:Nat) (ρ:Operand→AV):L (AV×Upd):=qar (.ofOpt (qk6 P t (parts.toList.map fun p=>(p.1,ρ p.2))))
def vc8 (P:Program) (t:TypeId) (x:Operand) (lo hi:Option Operand) (B:Nat) (ρ:Operand→AV):L (AV×Upd):=match P.underlying t,qj7 (lo.map ρ),qj7 (hi.map ρ) with
  | some .string,some l,some h=>(match ρ x with | .p (.str _)=>qar (qhd (ρ x) l h) | _=>.fail)
  | some (.slice e),some l,some h=>(match ρ x with | .p (.str _)=>.fail | _=>if qmv P e=true then qar (aop.sliceT P e (ρ x) l h) else .fail)
  | _,_,_=>.fail
def vc9 (P:Program) (t:TypeId) (x ix:Operand) (B:Nat) (ρ:Operand→AV):L (AV×Upd):=match qj6 (ρ ix) with
  | some i=>qar (.ofOpt (qqa P t (ρ x) i))
  | none=>.fail
def q23 (P:Program) (o:Oper):IOp:=match o.op with
 | .move x=>.f (qgi o.dst) (qzy P o (opd x))
 | .assign x=>.f (qgi o.dst) (qzy P o (opd x))
 | .pick c a b=>.f (qgi o.dst) (vcy P o (opd c) (opd a) (opd b))
 | .alloc t=>(match qbo P t with
  | some z=>bif vh3 z.cells.length (P.cellsOf t) then .f (qgi o.dst) (q7g P o t z) else .bad
  | none=>.bad)
 | .box t x=>.f (qgi o.dst) (gBox P o t (opd x))
 | .build t parts=>.f (qgi o.dst) (gL P o (vc7 P t parts))
 | .load t x=>(match qaq P t with
  | some b=>.f (qgi o.dst) (vc0 P o (P.cellsOf t) b (opd x))
  | none=>.bad)
 | .store t x y=>(match qaq P t with
  | some b=>.f (qgi o.dst) (q2h P o (P.cellsOf t) (opd x) (opd y))
  | none=>.bad)
 | .binOp op t x y _=>.f (qgi o.dst) (gBin P o op t (qto P t) (qh7 P t) (vc1 P op t) (opd x) (opd y))
 | .convert s d x=>(match P.underlying s,P.underlying d with
  | some (.int _),some .string=>.f (qgi o.dst) (gChr (opd x))
  | _,_=>.f (qgi o.dst) (gL P o fun B ρ=>qar (qqc P s d (ρ x))))
 | .slice t x lo hi none=>.f (qgi o.dst) (gL P o (vc8 P t x lo hi))
 | .fieldAddr s x fd=>(match qe7 P s fd with
  | some off=>.f (qgi o.dst) (q7j P o off (opd x))
  | none=>.bad)
 | .indexAddr t x ix=>(match P.underlying t with
  | some (.slice e)=>bif qmv P e then .f (qgi o.dst) (gIdx P o t (P.cellsOf e) true (opd x) (opd ix)) else .bad
  | _=>.f (qgi o.dst) (gIdx P o t 0 false (opd x) (opd ix)))
 | .index t x ix=>.f (qgi o.dst) (gL P o (vc9 P t x ix))
 | .lookup t m k c=>.f (qgi o.dst) (gL P o fun B ρ=>qar (qmg P t (ρ m) (ρ k) c))
 | .mapUpdate t m k v=>.f (qgi o.dst) (gL P o fun B ρ=>qiz P t (ρ m) (ρ k) (ρ v))
 | .nilCheck x=>.f (qgi o.dst) (gNil P o (opd x))
 | .extract x i=>.f (qgi o.dst) (gExt P o i (opd x))
 | .call ⟨.value fn,args,_⟩=>.call (qgi o.dst) (opd fn) (args.toList.map opd)
 | .call ⟨.builtin .len,⟨[x]⟩,⟨[t]⟩⟩=>bif (P.underlying t).isSome then .f (qgi o.dst) (gLen P o t (qh7 P t) (opd x)) else .bad
 | .call ⟨.builtin .cap,⟨[x]⟩,⟨[t]⟩⟩=>bif qh7 P t then .f (qgi o.dst) (gCap (opd x)) else .bad
 | .call ⟨.builtin .append,⟨[s,x]⟩,⟨[t,t2]⟩⟩=>bif vh3 t t2 then .f (qgi o.dst) (gApp P o t (opd s) (opd x)) else (match P.underlying t,P.underlying t2 with
   | some (.slice e),some (.int _)=>(match qbo P e with
    | some z=>bif qdg (P.cellsOf e) z && (vh5 0 (P.cellsOf e) && vh3 (qb8.zeroLen P e) (P.cellsOf e)) then .f (qgi o.dst) (q2i P t e (P.cellsOf e) z (opd s) (opd x)) else .bad
    | none=>.bad)
   | _,_=>.bad)
 | _=>.f (qgi o.dst) (gL P o fun B ρ=>aop P B ρ o)
def qkn (P:Program) (N:Nat) (ops:Array Oper) (o:Oper):IOp:=bif qbc N o then (match o.guard with
 | none=>q23 P o
 | some (j,want)=>(match (ops[j]?).bind (·.dst) with
  | some d=>.gd (pth d) want (qgi o.dst) (q23 P o)
  | none=>.bad)) else .bad
def qt0 (P:Program) (N:Nat) (o1 o2 o3:Oper):Option IOp:=match o1.op,o2.op,o3.op,o1.dst,o2.dst,o3.dst with
 | .slice tA x none none none,.move y,.call ⟨.builtin .copy,⟨[.tmp a,.tmp b]⟩,⟨[dT,sT]⟩⟩,some d1,some d2,some d3=>(match P.underlying tA,P.underlying dT with
  | some (.array 3 te),some (.slice te')=>bif vh3 te te' && (qmv P te && (vh3 (P.cellsOf te) 1 && (vh3 a d1 && (vh3 b d2 && ((!vh3 d1 d2) && (o1.guard.isNone && (o2.guard.isNone && (o3.guard.isNone && (qbc N o1 && (qbc N o2 && (qbc N o3 &&
    (match y with | .tmp t=>!vh3 t d1 | _=>true)))))))))))) then some (.cpy tA (opd x) (opd y) (pth d1) (pth d2) (pth d3)) else none
  | _,_=>none)
 | _,_,_,_,_,_=>none
def q24 (P:Program) (N:Nat) (o:Oper) (i1:IOp) (r:List IOp) (rest:List Oper):List IOp:=match rest with
 | o2 :: o3 :: _=>(match qt0 P N o o2 o3 with
  | some i=>i :: r.drop 2
  | none=>i1 :: r)
 | _=>i1 :: r
def qr2 (P:Program) (N:Nat) (ops:Array Oper):List Oper→List IOp
 | []=>[]
 | o :: rest=>q24 P N o (qkn P N ops o) (qr2 P N ops rest) rest
inductive EZ where
 | bad
 | st (e:Ty AV) (h:Ty AO) (f:Nat)
inductive CR where
 | bad
 | r (x:Exit) (e:Ty AV) (h:Ty AO) (f:Nat)
inductive KR where
 | bad
 | r (v:AV) (h:Ty AO) (f:Nat)
abbrev qf2:=AV→List AV→Ty AO→Nat→KR
def qmd (e:Ty AV) (d:Dst) (x:AV):Ty AV:=@Dst.rec (fun _=>Ty AV) e (fun p=>Ty.set .any x e p) d
abbrev KE:=Ty AV→Ty AO→Nat→EZ
def onRy (d:Dst) (e:Ty AV) (h:Ty AO) (f:Nat) (k:KE) (r:Ry):EZ :=
 @Ry.rec (fun _=>EZ) .bad (fun x _=>k (qmd e d x) h f) (fun x l o _=>bif vh5 l f then k (qmd e d x) (qrx h l o) f else .bad) (fun x o _=>k (qmd e d x) (qrx h f o) (vic f)) r
def onK (d:Dst) (e:Ty AV) (k:KE) (r:KR):EZ:=@KR.rec (fun _=>EZ) .bad (fun x h f=>k (qmd e d x) h f) r
def q94 (want:Bool) (d:Dst) (e:Ty AV) (h:Ty AO) (f:Nat) (k:KE) (go:EZ) (v:AV):EZ:=match v with
 | .p (.bool b)=>bif b == want then go else k (qmd e d (.p (.tup []))) h f
 | .p (.tup [])=>k (qmd e d (.p (.tup []))) h f
 | _=>.bad
def qx0:List AV→Option (List Int)
 | []=>some []
 | .p (.int .i64 n) :: r=>(match qx0 r with
  | some l=>some (n :: l)
  | none=>none)
 | _=>none
def qwg (tA:TypeId) (x y:AV) (d1 d2 d3:Ps) (e:Ty AV) (h:Ty AO) (f:Nat) (k:KE):EZ:=match x with
 | .loc l g 0 0=>(match ho h l,(qf5 y).run (ho h) with
  | .arr t 3 g' [.p (.agg [.int .i64 c0,.int .i64 c1,.int .i64 c2])],some els=>(match qx0 els with
   | some L=>bif vh3 t tA && (vh3 g g' && vh5 l f) then
     k (Ty.set .any .any (Ty.set .any y (Ty.set .any .any e d1) d2) d3) (qrx h l (.arr tA 3 g [.p (.agg [.int .i64 (L.getD 0 c0),.int .i64 (L.getD 1 c1),.int .i64 (L.getD 2 c2)])])) f else .bad
   | none=>.bad)
  | _,_=>.bad)
 | _=>.bad
def qr3 (call:qf2) (o:IOp):KE→KE:=fun k e h f=>@IOp.rec (fun _=>EZ)
 (fun d g=>onRy d e h f k (g e h f))
 (fun d fn args=>onK d e k (call (vo e fn) (args.map (vo e)) h f))
 (fun j want d _ ih=>q94 want d e h f k ih (Ty.get .any e j))
 (fun tA x y d1 d2 d3=>qwg tA (vo e x) (vo e y) d1 d2 d3 e h f k)
 .bad o
def qx1 (call:qf2) (ops:List IOp):KE:=@List.rec IOp (fun _=>KE) .st (fun o _ ih=>qr3 call o ih) ops
structure EvW where
 ws:List (Nat×AO)
 rs:List Nat
inductive DR where
 | bad
 | st (e:Ty AV) (h:Ty AO) (f:Nat) (es:List EvW)
def mkH (h:Ty AO):List Nat→Ty AO
 | []=>.e
 | l :: r=>qrx (mkH h r) l (ho h l)
def qt1 (h:Ty AO):List (Nat×AO)→Ty AO
 | []=>h
 | (l,o) :: r=>qrx (qt1 h r) l o
def qg9 (h h':Ty AO) (S:List Nat):List Nat→List (Nat×AO)
 | []=>[]
 | l :: r=>bif qon l S && AO.same (ho h l) (ho h' l) then qg9 h h' S r else (l,ho h' l) :: qg9 h h' S r
def qt2 (S:List Nat):List Nat→List Nat
 | []=>[]
 | l :: r=>bif qon l S then qt2 S r else l :: qt2 S r
def qoz (f:Nat):List Nat→Bool
 | []=>true
 | l :: r=>vh4 f l && qoz f r
abbrev KD:=Ty AV→Ty AO→Nat→DR
def qko (x:EvW):DR→DR
 | .bad=>.bad
 | .st e h f es=>.st e h f (x :: es)
def onRD (d:Dst) (e:Ty AV) (h:Ty AO) (f:Nat) (k:KD) (r:Ry):DR :=
 @Ry.rec (fun _=>DR) .bad (fun x rs=>qko ⟨[],rs⟩ (k (qmd e d x) h f)) (fun x l o rs=>bif vh5 l f then qko ⟨[(l,o)],rs⟩ (k (qmd e d x) (qrx h l o) f) else .bad) (fun x o rs=>qko ⟨[(f,o)],rs⟩ (k (qmd e d x) (qrx h f o) (vic f))) r
def qwh (d:Dst) (e:Ty AV) (h:Ty AO) (f:Nat) (k:KD) (S:List Nat) (x:AV) (h':Ty AO) (f':Nat):Option (List Nat)→DR
 | some S'=>bif qoz f (qt2 S S') then qko ⟨qg9 h h' S S',S++qt2 S S'⟩ (k (qmd e d x) (qt1 h (qg9 h h' S S')) f') else .bad
 | none=>.bad
def q5o (call:qf2) (d:Dst) (v:AV) (avs:List AV) (e:Ty AV) (h:Ty AO) (f:Nat) (k:KD):Option (List Nat)→DR
 | some S=>@KR.rec (fun _=>DR) .bad (fun x h' f'=>qwh d e h f k S x h' f' (qg8 (ho h') 5000 (qis x++S) [])) (call v avs (mkH h S) f)
 | none=>.bad
def q95 (want:Bool) (d:Dst) (e:Ty AV) (h:Ty AO) (f:Nat) (k:KD) (go:DR) (v:AV):DR:=match v with
 | .p (.bool b)=>bif b == want then go else qko ⟨[],[]⟩ (k (qmd e d (.p (.tup []))) h f)
 | .p (.tup [])=>qko ⟨[],[]⟩ (k (qmd e d (.p (.tup []))) h f)
 | _=>.bad
def qt3 (call:qf2) (o:IOp):KD→KD:=fun k e h f=>@IOp.rec (fun _=>DR)
 (fun d g=>onRD d e h f k (g e h f))
 (fun d fn args=>q5o call d (vo e fn) (args.map (vo e)) e h f k (qg8 (ho h) 5000 (qis (vo e fn)++qef (args.map (vo e))) []))
 (fun j want d _ ih=>q95 want d e h f k ih (Ty.get .any e j))
 (fun tA x y d1 d2 d3=>.bad)
 .bad o
def q5p (call:qf2) (ops:List IOp):KD:=@List.rec IOp (fun _=>KD) (fun e h f=>.st e h f []) (fun o _ ih=>qt3 call o ih) ops
def djK:List (Nat×AO)→List Nat→Bool
 | [],_=>true
 | (l,_) :: r,s=>(!qon l s) && djK r s
def evW (x y:EvW):Bool:=match x.ws,y.ws with
 | [],[]=>true
 | _,_=>djK x.ws y.rs && (djK x.ws (y.ws.map (·.1)) && djK y.ws x.rs)
def qlo (es:List EvW):List (Nat×Nat)→Bool
 | []=>true
 | (i,j) :: r=>(match nth es i,nth es j with
  | some x,some y=>evW x y
  | _,_=>true) && qlo es r
def q96 (ops:Array Oper):Nat→Nat→Nat
 | 0,n=>n
 | k+1,n=>bif qov ops n then n else q96 ops k (vic n)
def q25 (ops:Array Oper) (T:Nat):List (Nat×Nat):=(vft T).flatMap fun j=>(vft j).filterMap fun i=>bif qpw (qxf ops ops.size) j i then none else some (i,j)
inductive IC where
 | skip | ret
 | exit (id:Nat)
 | seq (a b:Code)
 | cond (c:Opd) (a b:Code)
 | block (id:Nat) (b:Code)
 | loop (b:Code)
 | reg (l:List IOp)
 | drw (pre:List IOp) (ps:List (Nat×Nat)) (post:List IOp)
 | bad
def q97 (P:Program) (N:Nat) (l:Array Oper) (T:Nat):IC:=bif qee l && (qov l T && vh4 T l.size) then .drw ((l.toList.take T).map (qkn P N l)) (q25 l T) ((l.toList.drop T).map (qkn P N l)) else .bad
def vda (P:Program) (N:Nat):Code→IC
 | .skip=>.skip
 | .ret=>.ret
 | .exit id=>.exit id
 | .seq a b=>.seq a b
 | .cond c a b=>.cond (opd c) a b
 | .block id b=>.block id b
 | .loop b=>.loop b
 | .region _ l d=>bif d then q97 P N l (q96 l l.size 0) else .reg (qr2 P N l l.toList)
 | _=>.bad
abbrev qim:=Nat→Code→Ty AV→Ty AO→Nat→CR
def q98 (k:Ty AV→Ty AO→Nat→CR) (r:CR):CR:=@CR.rec (fun _=>CR) .bad (fun x e h f=>@Exit.rec (fun _=>CR) (k e h f) (fun i=>.r (.exit i) e h f) (fun i=>.r (.goto i) e h f) (.r .ret e h f) (fun c=>.r (.panic c) e h f) (.r .outgrown e h f) x) r
def q26 (id:Nat) (r:CR):CR:=@CR.rec (fun _=>CR) .bad (fun x e h f=>@Exit.rec (fun _=>CR) (.r .normal e h f) (fun i=>bif vh3 i id then .r .normal e h f else .r (.exit i) e h f) (fun i=>.r (.goto i) e h f) (.r .ret e h f) (fun c=>.r (.panic c) e h f) (.r .outgrown e h f) x) r
def qo0 (v:AV) (a b:CR):CR:=match v with
 | .p (.bool t)=>bif t then a else b
 | _=>.bad
def q27 (r:EZ):CR:=@EZ.rec (fun _=>CR) .bad (fun e h f=>.r .normal e h f) r
def q99 (call:qf2) (ps:List (Nat×Nat)) (post:List IOp) (r:DR):CR:=@DR.rec (fun _=>CR) .bad (fun e h f es=>bif qlo es ps then q27 (qx1 call post e h f) else .bad) r
def q5q (P:Program) (e:Ty AV) (h:Ty AO):ResultVar→Option AV
 | .tmp t=>some (eo e t)
 | .cell a t=>(qmf P t (eo e a)).run (ho h)
def q5r (P:Program) (e:Ty AV) (h:Ty AO):List ResultVar→Option (List AV)
 | []=>some []
 | x :: r=>match q5q P e h x,q5r P e h r with
  | some v,some vs=>some (v :: vs)
  | _,_=>none
def rsK (P:Program) (e:Ty AV) (h:Ty AO) (f:Nat) (rs:List ResultVar):KR:=match q5r P e h rs with
 | some [v]=>.r v h f
 | some vs=>.r (qu5 vs) h f
 | none=>.bad
def vaa (P:Program) (rs:List ResultVar) (r:CR):KR:=@CR.rec (fun _=>KR) .bad (fun x e h f=>@Exit.rec (fun _=>KR) (rsK P e h f rs) (fun i=>.bad) (fun i=>.bad) (rsK P e h f rs) (fun c=>.bad) .bad x) r
def qm9:Nat→List AV→Ty AV→Ty AV
 | _,[],t=>t
 | k,x :: r,t=>qm9 (k+1) r (Ty.set .any x t (pth k))
inductive FR where
 | bad
 | r (N:Nat) (c:Code) (rs:List ResultVar)
def q5s (P:Program) (k:FuncId):FR:=match P.funcs[k]? with
 | some fn=>(match fn.body with
  | some c=>bif vh4 fn.ntmps 1000 then .r fn.ntmps c fn.results.toList else .bad
  | none=>.bad)
 | none=>.bad
abbrev Ext:=FuncId→Option (List PV→Option PV)
def qo1 (P:Program) (ext:Ext) (ih:qim) (k:FuncId) (avs:List AV) (h:Ty AO) (f:Nat):KR:=match ext k with
 | some t=>(match qie avs with
  | some ps=>(match t ps with
   | some r=>.r (.p r) h f
   | none=>.bad)
  | none=>.bad)
 | none=>@FR.rec (fun _=>KR) .bad (fun N c rs=>bif vh4 avs.length N && vh4 1000 f then vaa P rs (ih N c (qm9 0 avs .e) h f) else .bad) (q5s P k)
def qlp (P:Program) (ext:Ext) (ih:qim):qf2:=fun v avs h f=>match v with
 | .p (.func (.func k) cs)=>qo1 P ext ih k (avs++cs.map .p) h f
 | .func (.func k) cs=>qo1 P ext ih k (avs++cs) h f
 | _=>.bad
def qz4 (P:Program) (ext:Ext) (ih:qim):qim:=fun N c e h f=>@IC.rec (fun _=>CR)
 (.r .normal e h f) (.r .ret e h f) (fun id=>.r (.exit id) e h f)
 (fun a b=>q98 (fun e h f=>ih N b e h f) (ih N a e h f))
 (fun x a b=>qo0 (vo e x) (ih N a e h f) (ih N b e h f))
 (fun id b=>q26 id (ih N b e h f))
 (fun b=>q98 (fun e h f=>ih N (.loop b) e h f) (ih N b e h f))
 (fun l=>q27 (qx1 (qlp P ext ih) l e h f))
 (fun pre ps post=>q99 (qlp P ext ih) ps post (q5p (qlp P ext ih) pre e h f))
 .bad (vda P N c)
def qkp (P:Program) (ext:Ext) (n:Nat):qim:=@Nat.rec (fun _=>qim) (fun _ _ _ _ _=>.bad) (fun _ ih=>qz4 P ext ih) n
end Go.Ab
namespace Go.Ab
open Go
set_option linter.constructorNameAsVariable false
def qx2 (P:Program):Prop:=∀(k:FuncId) (fn:Func),P.funcs[k]?=some fn→fn.body.isSome=true→HasBody P k
theorem qt4 {P : Program} (h : (P.funcs.all fun fn => !(fn.name == "runtime.NumGoroutine")) = true) : qx2 P := by
 intro k fn hf hb args w;have h1 : (fn.name == "runtime.NumGoroutine") = false := by
  have:=Array.all_eq_true.1 h k (vd5.1 hf).1;rw [(vd5.1 hf).2] at this;simpa using this
 have h2:fn.body.isNone=false:=by cases hx:fn.body <;> simp_all
 unfold callFunc;have hp:Sem.run P program w=.ok P w:=rfl;simp only [vgv,hp,vgt,hf,h1,h2,vei,if_false,vgw]
def qwi (P:Program) (o:Oper):IOp→Prop
 | .bad=>True
 | .f d g=>d=qgi o.dst∧GOk P o g
 | .call d fn args=>d=qgi o.dst∧∃f a ats,o.op=.call ⟨.value f,a,ats⟩∧fn=opd f∧args=a.toList.map opd
 | _=>False
def IOk (P:Program) (N:Nat) (ops:Array Oper) (o:Oper):IOp→Prop
 | .bad=>True
 | .gd j want d i=>qbc N o=true∧d=qgi o.dst∧(∃k t,o.guard=some (k,want)∧(ops[k]?).bind (·.dst)=some t∧j=pth t)∧qwi P o i
 | i=>qbc N o=true∧o.guard=none∧qwi P o i
theorem qwi.f {P:Program} {o:Oper} {g:G} (h:GOk P o g):qwi P o (.f (qgi o.dst) g):=⟨rfl,h⟩
theorem q5t (P:Program) (o:Oper):qwi P o (q23 P o):=by
 obtain ⟨dst,op,ty,pos,af,gd⟩:=o;unfold q23;split
 all_goals (rename_i heq;simp only at heq)
 ·subst heq;exact .f q5f
 ·subst heq;exact .f qzz
 ·subst heq;exact .f q5g
 ·rename_i t;subst heq;split
  ·rename_i z hz;rw [qpo];by_cases hc:z.cells.length=P.cellsOf t
   ·simp only [hc,decide_true,cond_true];exact .f (q2k hz hc)
   ·simp only [hc,decide_false,cond_false];trivial
  ·trivial
 ·subst heq;exact .f q9o
 ·subst heq;exact .f (qwa fun B ρ=>rfl)
 ·subst heq;split
  ·rename_i b hb;exact .f (q5j hb)
  ·trivial
 ·subst heq;split
  ·rename_i b hb;exact .f (q2l hb)
  ·trivial
 ·subst heq;exact .f q9p
 ·subst heq;split
  ·rename_i k h1 h2;exact .f (q9u h1 h2)
  ·exact .f (qwa fun B ρ=>rfl)
 ·subst heq;exact .f (qwa fun B ρ=>rfl)
 ·subst heq;split
  ·rename_i off hoff;exact .f (q2m hoff)
  ·trivial
 ·subst heq;split
  ·rename_i e he;cases hok:qmv P e with
   | false=>trivial
   | true=>exact .f (q2n fun _=>⟨e,he,rfl,hok⟩)
  ·exact .f (q2n fun h=>by cases h)
 ·subst heq;exact .f (qwa fun B ρ=>rfl)
 ·subst heq;exact .f (qwa fun B ρ=>rfl)
 ·subst heq;exact .f (qwa fun B ρ=>rfl)
 ·subst heq;exact .f q9s
 ·subst heq;exact .f q9r
 ·subst heq;exact ⟨rfl,_,_,_,rfl,rfl,rfl⟩
 ·subst heq;cases hs:(P.underlying _).isSome with
  | false=>trivial
  | true=>exact .f (q9q (fun h=>h) hs)
 ·subst heq;cases hs:qh7 P _ with
  | false=>trivial
  | true=>exact .f (q9t hs)
 ·subst heq;rename_i s x t t2;rw [qpo];by_cases ht:t=t2
  ·subst ht;simp only [decide_true,cond_true];exact .f q9v
  ·simp only [ht,decide_false,cond_false];split
   ·rename_i e kn h1 h2;split
    ·rename_i z hz;cases hc:qdg (P.cellsOf e) z && (vh5 0 (P.cellsOf e) && vh3 (qb8.zeroLen P e) (P.cellsOf e)) with
     | false=>trivial
     | true =>
      simp only [veg,qpo,decide_eq_true_eq] at hc;exact .f (q2o h1 h2 hz hc.1 (q4b.1 hc.2.1) hc.2.2)
    ·trivial
   ·trivial
 ·exact .f (qwa fun B ρ=>rfl)
theorem qnl (P:Program) (N:Nat) (ops:Array Oper) (o:Oper):IOk P N ops o (qkn P N ops o):=by
 unfold qkn;cases hd:qbc N o with
 | false=>trivial
 | true =>
  rw [cond_true];have h:=q5t P o;split
  ·rename_i hg;cases hc:q23 P o with
   | bad=>trivial
   | f d g=>rw [hc] at h;exact ⟨hd,hg,h⟩
   | call d fn args=>rw [hc] at h;exact ⟨hd,hg,h⟩
   | gd j want d i=>rw [hc] at h;exact h.elim
   | cpy tA x y d1 d2 d3=>rw [hc] at h;exact h.elim
  ·rename_i j want hg;split
   ·rename_i t ht;exact ⟨hd,rfl,⟨j,t,hg,ht,rfl⟩,h⟩
   ·trivial
end Go.Ab
namespace Go.Ab
open Go
set_option linter.constructorNameAsVariable false
structure RepV (e:Ty AV) (h:Ty AO) (f:Nat) (st:St):Prop where
 env:st.env.get=eo e
 heap:qag st.heap=ho h
 free:q7e h f
 ge:1000≤f
theorem RepV.evf {e:Ty AV} {h:Ty AO} {f:Nat} {st:St} (r:RepV e h f st):evf (eo e)=ev st.env:=by rw [←r.env,qmk]
def FunW (P:Program) (k:FuncId) (avs:List AV) (h:Ty AO) (x:AV) (h1:Ty AO) (f1:Nat):Prop:=HasBody P k∧(∃hl,qag hl=ho h1)∧q7e h1 f1∧1000≤f1 ∧
 ∀(D:Prop) (X:Nat→Prop) (inj:Inj) (w:World) (vs:List Value),HR X inj (ho h) w→TabOk P (fun b=>X b∨F inj (ho h) b) w→ARs X inj (ho h) w avs vs →
  Calls P k vs.toArray w fun e w'=>∃val,e=.returned val∧∃inj',HR X inj' (ho h1) w'∧Ev D X inj (ho h) w inj' (ho h1) w'∧AR X inj' (ho h1) w' x val
def qjc:AV→Option (FuncId×List AV)
 | .p (.func (.func k) cs)=>some (k,cs.map .p)
 | .func (.func k) cs=>some (k,cs)
 | _=>none
theorem qo2 {env:Env} {fn:Operand} {args:List Operand} {k:FuncId} {cs:List AV} (h:qjc (ev env fn)=some (k,cs)):qcg env fn args=some (k,args.map (ev env)++cs):=by
 unfold qjc at h;unfold qcg;split at h
 ·rename_i heq;rw [heq];cases h;rfl
 ·rename_i heq;rw [heq];cases h;rfl
 ·cases h
def qkq (P:Program) (call:qf2):Prop:=∀(v:AV) (avs:List AV) (h:Ty AO) (f:Nat) (x:AV) (h1:Ty AO) (f1:Nat),(∃hl,qag hl=ho h)→q7e h f→1000≤f→call v avs h f=.r x h1 f1 →
 ∃k cs,qjc v=some (k,cs)∧FunW P k (avs++cs) h x h1 f1
def qr4 (P:Program) (ih:qim):Prop:=∀(C:Cx) (c:Code) (e:Ty AV) (h:Ty AO) (f:Nat) (ex:Exit) (e1:Ty AV) (h1:Ty AO) (f1:Nat) (st:St) (Q:Exit→St→Prop),C.P=P→C.N≤1000 →
 ih C.N c e h f=.r ex e1 h1 f1→RepV e h f st→(∀st1,RepV e1 h1 f1 st1→Q ex st1)→AWp C c Q st
def qz5 (P:Program) (ext:Ext):Prop:=∀(k:FuncId) (t:List PV→Option PV) (ps:List PV) (r:PV),ext k=some t→t ps=some r→HasBody P k∧∀D,q4j D P k ps r
variable {P:Program} {C:Cx} {Q:Exit→St→Prop} {st:St}
theorem vab {ops:Array Oper} {o:Oper} {rest:List Oper} {fn:Operand} {args:Array Operand} {ats:Array TypeId} {k:FuncId} {cs:List AV} {h h1:Ty AO} {x:AV} {f1:Nat}
  (hW:FunW C.P k (args.toList.map (ev st.env)++cs) h x h1 f1) (hh:qag st.heap=ho h) (ho':o.op=.call ⟨.value fn,args,ats⟩) (hg:qal ops st.env o=some true) (hd:qbc C.N o=true) (hc:qjc (ev st.env fn)=some (k,cs))
  (hn:∀heap',qag heap'=ho h1→AL C ops rest Q ⟨qd0 st.env o.dst x,heap'⟩):AL C ops (o :: rest) Q st:=by
 obtain ⟨hb,⟨hl,hhl⟩,_,_,hW⟩:=hW;intro inj a w hs;simp only [wpList,qb9 hs hg,if_true];refine .inl ?_;obtain ⟨vs,hrun,hars⟩:=qnh hs ho' hb (qo2 hc);unfold Oper.wp;rw [hrun];simp only [Oper.upon];have hsg:st.sig=ho h:=hh;refine (hW C.D C.X inj w vs (hsg ▸ hs.hr) (hsg ▸ qi4 hs.ev) (hsg ▸ hars)).mono ?_;rintro e w' ⟨val,rfl,inj',h2,h3,h4⟩;refine hn hl hhl inj' _ _ ?_;rw [←hsg] at h3;have hput:=hs.put (o:=o) (u:=none) hd hs.hr (Ev.refl _ _ _ _) (v:=.any) (val:=val) trivial;have hsl:(St.mk (qd0 st.env o.dst x) hl).sig=ho h1:=hhl;refine ⟨fun t=>?_,hput.size,hput.defers,by rw [hsl];exact h2,by rw [hsl];exact hs.ev.trans h3⟩;rw [hsl];cases hdst:o.dst with
 | none=>simpa [qd0,Act.put] using AR.ev h3 hs.hr.xlt _ _ (hs.env t)
 | some d =>
  simp only [qbc,hdst,decide_eq_true_eq] at hd;simp only [qd0,Act.put,Env.get];by_cases ht:d=t
  ·subst ht;rw [if_pos rfl];have:(a.tmps.setIfInBounds d val).getD d undef=val:=by simp [hs.size,hd]
   rw [this];exact h4
  ·rw [if_neg ht];have:(a.tmps.setIfInBounds d val).getD t undef=a.tmps.getD t undef:=by simp [vd7 ht]
   rw [this];exact AR.ev h3 hs.hr.xlt _ _ (hs.env t)
theorem qt5 (e:Ty AV) (d:Option Tmp) (x:AV):eo (qmd e (qgi d) x)=qg7 (eo e) d x:=by
 cases d with
 | none=>funext t;simp [qmd,qgi,qg7]
 | some t=>exact q7c e t x
theorem RepV.put {e:Ty AV} {h:Ty AO} {f:Nat} {st:St} (r:RepV e h f st) (d:Option Tmp) (x:AV):RepV (qmd e (qgi d) x) h f ⟨qd0 st.env d x,st.heap⟩ :=
 ⟨by rw [qt5,←r.env];exact qgc _ _ _,r.heap,r.free,r.ge⟩
theorem RepV.set {e:Ty AV} {h:Ty AO} {f l:Nat} {o:AO} {st:St} (r:RepV e h f st) (hl:l < f) (d:Option Tmp) (x:AV):RepV (qmd e (qgi d) x) (qrx h l o) f ⟨qd0 st.env d x,[(l,o)]++st.heap⟩:=by
 refine ⟨by rw [qt5,←r.env];exact qgc _ _ _,?_,fun k hk=>?_,r.ge⟩
 ·rw [qi9,←r.heap];exact qh3 _ _ _
 ·rw [qi9];unfold qg6;rw [if_neg (by omega)];exact r.free k hk
theorem RepV.new {e:Ty AV} {h:Ty AO} {f:Nat} {o:AO} {st:St} (r:RepV e h f st) (d:Option Tmp) (x:AV):RepV (qmd e (qgi d) x) (qrx h f o) (vic f) ⟨qd0 st.env d x,[(f,o)]++st.heap⟩:=by
 refine ⟨by rw [qt5,←r.env];exact qgc _ _ _,?_,fun k hk=>?_,viz r.ge⟩
 ·rw [qi9,←r.heap];exact qh3 _ _ _
 ·rw [qi9];unfold qg6;have:f < k:=hk;rw [if_neg (by omega)];exact r.free k (by omega)
theorem q7m {N:Nat} {o:Oper} {f:Nat} (hd:qbc N o=true) (hN:N≤1000) (hf:1000≤f):o.dst.getD 0≤f:=by
 unfold qbc at hd;cases hdst:o.dst with
 | none=>simp
 | some d =>
  rw [hdst] at hd;simp only [decide_eq_true_eq] at hd;exact Nat.le_of_lt (vgc hd (vgb hN hf))
theorem q7n (e:Ty AV) (l:List Operand):(l.map opd).map (vo e)=l.map (evf (eo e)):=by
 rw [List.map_map];exact vhk fun x _=>qdi e x
def vac (C:Cx) (ops:Array Oper) (rest:List Oper) (Q:Exit→St→Prop) (k:KE) (z:EZ):Prop:=∀(e:Ty AV) (h:Ty AO) (f:Nat) (st:St),RepV e h f st→k e h f=z→AL C ops rest Q st
theorem qr5 {call:qf2} (hcall:qkq P call) (hP:C.P=P) (hN:C.N≤1000) {ops:Array Oper} {o:Oper} {rest:List Oper} {i:IOp} {k:KE} {e:Ty AV} {h:Ty AO} {f:Nat} {e1:Ty AV} {h1:Ty AO} {f1:Nat}
  (hi:qwi P o i) (hd:qbc C.N o=true) (hg:qal ops st.env o=some true) (hR:RepV e h f st) (hz:qr3 call i k e h f=.st e1 h1 f1) (hn:vac C ops rest Q k (.st e1 h1 f1)):AL C ops (o :: rest) Q st:=by
 subst hP;cases i with
 | bad=>cases hz
 | gd _ _ _ _=>exact hi.elim
 | cpy _ _ _ _ _ _=>exact hi.elim
 | f d g =>
  obtain ⟨rfl,hg'⟩:=hi;have hok:=hg' e h f hR.free (q7m hd hN hR.ge);have hz':onRy (qgi o.dst) e h f k (g e h f)=.st e1 h1 f1:=hz;generalize g e h f=r at hok hz';cases r with
  | no=>cases hz'
  | v x rs =>
   simp only [qzx,hR.evf,←hR.heap] at hok;exact q1z hg hd hok (hn _ _ _ _ (hR.put o.dst x) hz')
  | w x l ob rs =>
   simp only [qzx,hR.evf,←hR.heap] at hok;have hz2:(bif vh5 l f then k (qmd e (qgi o.dst) x) (qrx h l ob) f else .bad)=.st e1 h1 f1:=hz';cases hl:vh5 l f with
   | false=>rw [hl] at hz2;cases hz2
   | true =>
    rw [hl,cond_true] at hz2;exact q1z hg hd hok (hn _ _ _ _ (hR.set (q4b.1 hl) o.dst x) hz2)
  | new x ob rs =>
   simp only [qzx,hR.evf,←hR.heap] at hok;exact q1z hg hd hok (hn _ _ _ _ (hR.new o.dst x) hz')
 | call d fn args =>
  obtain ⟨rfl,fo,a,ats,ho',rfl,rfl⟩:=hi;have hz':onK (qgi o.dst) e k (call (vo e (opd fo)) ((a.toList.map opd).map (vo e)) h f)=.st e1 h1 f1:=hz;rw [qdi,q7n] at hz';generalize hc:call (evf (eo e) fo) (a.toList.map (evf (eo e))) h f=r at hz';cases r with
  | bad=>cases hz'
  | r x h2 f2 =>
   obtain ⟨kk,cs,c1,c2⟩:=hcall _ _ _ _ _ _ _ ⟨st.heap,hR.heap⟩ hR.free hR.ge hc;rw [hR.evf] at c1 c2;refine vab c2 hR.heap ho' hg hd c1 fun heap' hh=>?_
   obtain ⟨_,_,q1,q2,_⟩:=c2;exact hn _ _ _ _ ⟨by rw [qt5,←hR.env];exact qgc _ _ _,hh,q1,q2⟩ hz'
theorem q5u {call:qf2} (hcall:qkq P call) (hP:C.P=P) (hN:C.N≤1000) {ops:Array Oper} {o:Oper} {rest:List Oper} {i:IOp} {k:KE} {e:Ty AV} {h:Ty AO} {f:Nat} {e1:Ty AV} {h1:Ty AO} {f1:Nat}
  (hi:IOk P C.N ops o i) (hR:RepV e h f st) (hz:qr3 call i k e h f=.st e1 h1 f1) (hn:vac C ops rest Q k (.st e1 h1 f1)):AL C ops (o :: rest) Q st:=by
 have plain:∀{o:Oper},o.guard=none→qal ops st.env o=some true:=fun h=>by unfold qal;rw [h]
 cases i with
 | bad=>cases hz
 | cpy _ _ _ _ _ _=>exact hi.2.2.elim
 | f d g=>exact qr5 hcall hP hN (i:=.f d g) hi.2.2 hi.1 (plain hi.2.1) hR hz hn
 | call d fn args=>exact qr5 hcall hP hN (i:=.call d fn args) hi.2.2 hi.1 (plain hi.2.1) hR hz hn
 | gd j want d i =>
  obtain ⟨hd,rfl,⟨kk,t,hg,ht,rfl⟩,hi⟩:=hi;have hz':q94 want (qgi o.dst) e h f k (qr3 call i k e h f) (eo e t)=.st e1 h1 f1:=hz;have hgA:qal ops st.env o=match eo e t with | .p (.bool b)=>some (b == want) | .p (.tup [])=>some false | _=>none:=by
   unfold qal;rw [hg];simp only [ht,hR.env];rfl
  have skip:k (qmd e (qgi o.dst) (.p (.tup []))) h f=.st e1 h1 f1→qal ops st.env o=some false→AL C ops (o :: rest) Q st:=fun hk hgf =>
   qvi hgf hd (hn _ _ _ _ (hR.put o.dst (.p (.tup []))) hk)
  unfold q94 at hz';split at hz'
  ·rename_i b hb;rw [hb] at hgA;simp only at hgA;cases hbw:b == want with
   | true =>
    rw [hbw,cond_true] at hz';rw [hbw] at hgA;exact qr5 hcall hP hN hi hd hgA hR hz' hn
   | false =>
    rw [hbw,cond_false] at hz';rw [hbw] at hgA;exact skip hz' hgA
  ·rename_i hb;rw [hb] at hgA;exact skip hz' hgA
  ·cases hz'
inductive ILs (P:Program) (N:Nat) (ops:Array Oper):List Oper→List IOp→Prop
 | nil:ILs P N ops [] []
 | one {o i r is} (h:IOk P N ops o i) (t:ILs P N ops r is):ILs P N ops (o :: r) (i :: is)
 | cpy {o1 o2 o3 i r is} (h:qt0 P N o1 o2 o3=some i) (t:ILs P N ops r is):ILs P N ops (o1 :: o2 :: o3 :: r) (i :: is)
theorem ILs.map (P:Program) (N:Nat) (ops:Array Oper):∀l:List Oper,ILs P N ops l (l.map (qkn P N ops))
 | []=>.nil
 | o :: l=>.one (qnl P N ops o) (ILs.map P N ops l)
theorem q5v {N:Nat} {o1 o2 o3:Oper} (h:∀t x,o1.op≠.slice t x none none none):qt0 P N o1 o2 o3=none:=by
 unfold qt0;split
 ·rename_i tA x y a b dT sT d1 d2 d3 h1 _ _ _ _ _;exact absurd h1 (h tA x)
 ·rfl
theorem qo3 {N:Nat} {ops:Array Oper} {o:Oper} {rest:List Oper} (h:∀t x,o.op≠.slice t x none none none):qr2 P N ops (o :: rest)=qkn P N ops o :: qr2 P N ops rest:=by
 show q24 P N o (qkn P N ops o) (qr2 P N ops rest) rest=_;unfold q24;split
 ·rw [q5v h]
 ·rfl
theorem q28 {N:Nat} {o1 o2 o3:Oper} {i:IOp} (h:qt0 P N o1 o2 o3=some i):(∃y,o2.op=.move y)∧∃c,o3.op=.call c:=by
 unfold qt0 at h;split at h
 ·rename_i tA x y a b dT sT d1 d2 d3 _ h2 h3 _ _ _;exact ⟨⟨y,h2⟩,⟨_,h3⟩⟩
 ·cases h
theorem ILs.comp (P:Program) (N:Nat) (ops:Array Oper):∀(n:Nat) (l:List Oper),l.length≤n→ILs P N ops l (qr2 P N ops l)
 | _,[],_=>.nil
 | 0,_ :: _,h=>by simp at h
 | n+1,o :: rest,h=>by
  have hr:=ILs.comp P N ops n rest (by simpa using h);show ILs P N ops (o :: rest) (q24 P N o (qkn P N ops o) (qr2 P N ops rest) rest);unfold q24;split
  ·rename_i o2 o3 r;split
   ·rename_i i hi;obtain ⟨⟨y,h2⟩,⟨c,h3⟩⟩:=q28 hi;rw [qo3 (fun t x hh=>by rw [h2] at hh;cases hh),qo3 (fun t x hh=>by rw [h3] at hh;cases hh)];exact .cpy hi (ILs.comp P N ops n r (by simp at h;omega))
   ·exact .one (qnl P N ops o) hr
  ·exact .one (qnl P N ops o) hr
theorem qt6:∀{l:List AV} {L:List Int},qx0 l=some L→l=L.map fun n=>.p (.int .i64 n)
 | [],L,h=>by cases h;rfl
 | x :: r,L,h=>by
  unfold qx0 at h;split at h
  ·rename_i heq;cases heq
  ·rename_i n r' heq;cases heq;split at h
   ·rename_i l hl;cases h;rw [qt6 hl];rfl
   ·cases h
  ·cases h
theorem vdb {ops:Array Oper} {o1 o2 o3:Oper} {rest:List Oper} {i:IOp} {call:qf2} {k:KE} {e:Ty AV} {h:Ty AO} {f:Nat} {e1:Ty AV} {h1:Ty AO} {f1:Nat}
  (hi:qt0 C.P C.N o1 o2 o3=some i) (hR:RepV e h f st) (hz:qr3 call i k e h f=.st e1 h1 f1) (hn:vac C ops rest Q k (.st e1 h1 f1)):AL C ops (o1 :: o2 :: o3 :: rest) Q st:=by
 unfold qt0 at hi;split at hi
 case h_2=>cases hi
 rename_i tA x y a b dT sT d1 d2 d3 p1 p2 p3 q1 q2 q3;split at hi
 case h_2=>cases hi
 rename_i te te' u1 u2;generalize hc:(vh3 te te' && _)=c at hi;cases c with
 | false=>cases hi
 | true =>
 rw [cond_true] at hi;cases hi;simp only [veg,qpo,decide_eq_true_eq,vek,decide_eq_false_iff_not,Option.isNone_iff_eq_none] at hc;obtain ⟨rfl,c2,c3,rfl,rfl,c6,c7,c8,c9,c10,c11,c12,c13⟩:=hc;have hz':qwg tA (vo e (opd x)) (vo e (opd y)) (pth a) (pth b) (pth d3) e h f k=.st e1 h1 f1:=hz;rw [qdi,qdi] at hz';unfold qwg at hz';split at hz'
 case h_2=>cases hz'
 rename_i l g hx;split at hz'
 case h_2=>cases hz'
 rename_i t g' c0 c1 c2' els hob hel;split at hz'
 case h_2=>cases hz'
 rename_i L hL;cases hcc:vh3 t tA && (vh3 g g' && vh5 l f) with
 | false=>rw [hcc] at hz';cases hz'
 | true =>
 rw [hcc,cond_true] at hz';simp only [veg,qpo,decide_eq_true_eq] at hcc;obtain ⟨rfl,rfl,hlf⟩:=hcc;have hlf:=q4b.1 hlf;rw [hR.evf,←hR.heap,qt6 hL] at hel;rw [hR.evf] at hx hz';rw [←hR.heap] at hob;have hy:y≠.tmp a:=by
  rintro rfl;simp at c13
 refine vcx (l:=l) (g:=g) (c0:=c0) (c1:=c1) (c2:=c2') (L:=L) p1 q1 p2 q2 p3 c7 c8 c9 c10 c11 c12 c6 u1 c2 c3 u2 hy hx hob hel ?_;refine hn _ _ _ _ ?_ hz';have r1:=hR.put (some a) .any;have r2:=r1.put (some b) (ev st.env y);have r3:=(r2.put (some d3) .any);have r4:=(RepV.set (o:=.arr t 3 g [.p (.agg [.int .i64 (L.getD 0 c0),.int .i64 (L.getD 1 c1),.int .i64 (L.getD 2 c2')])]) r3 hlf none .any);rw [q1,q2,q3];exact r4
theorem q29 {call:qf2} (hcall:qkq P call) (hP:C.P=P) (hN:C.N≤1000) {ops:Array Oper} {l:List Oper} {is:List IOp} (hl:ILs P C.N ops l is):∀{st:St} {e:Ty AV} {h:Ty AO} {f:Nat} {e1:Ty AV} {h1:Ty AO} {f1:Nat},
  RepV e h f st→qx1 call is e h f=.st e1 h1 f1→(∀st1,RepV e1 h1 f1 st1→Q .normal st1)→AL C ops l Q st:=by
 induction hl with
 | nil =>
  intro st e h f e1 h1 f1 hR hz hQ;cases hz;exact qqh (hQ st hR)
 | @one o i r is hi ht ih =>
  intro st e h f e1 h1 f1 hR hz hQ;exact q5u hcall hP hN (k:=qx1 call is) hi hR hz fun e2 h2 f2 st2 hR2 hz2=>ih hR2 hz2 hQ
 | @cpy o1 o2 o3 i r is hi ht ih =>
  intro st e h f e1 h1 f1 hR hz hQ;subst hP;exact vdb hi hR (k:=qx1 call is) hz fun e2 h2 f2 st2 hR2 hz2=>ih hR2 hz2 hQ
end Go.Ab
namespace Go.Ab
open Go
set_option linter.constructorNameAsVariable false
variable {P:Program} {C:Cx} {Q:Exit→St→Prop} {st:St}
theorem q3a:∀(xs:List AV) (k:Nat) (t:Ty AV) (j:Nat),eo (qm9 k xs t) j=if k≤j∧j < k+xs.length then (xs[j - k]?).getD .any else eo t j
 | [],k,t,j=>by
  simp only [qm9,vfe,Nat.add_zero];rw [if_neg (by omega)]
 | x :: xs,k,t,j=>by
  simp only [qm9,vhe];rw [q3a xs (k+1) _ j,q7c];simp only [qg7,vgr];by_cases h1:k=j
  ·subst h1;rw [if_neg (by omega),if_pos rfl,if_pos (by omega)];simp
  ·by_cases h2:k+1≤j∧j < k+1+xs.length
   ·rw [if_pos h2,if_pos (by omega),show j - k=(j - (k+1))+1 by omega,vhb]
   ·rw [if_neg h2,if_neg h1,if_neg (by omega)]
theorem qwj (xs:List AV):(qex 0 xs).get=eo (qm9 0 xs .e):=by
 have key:∀(xs:List AV) (k j:Nat),(qex k xs).get j=if k≤j∧j < k+xs.length then (xs[j - k]?).getD .any else .any:=by
  intro xs
  induction xs with
  | nil=>intro k j;simp only [qex,vfe,Nat.add_zero];rw [if_neg (by omega)];rfl
  | cons x xs ih =>
   intro k j;simp only [qex,Env.get,vhe];by_cases h1:k=j
   ·subst h1;rw [if_pos rfl,if_pos (by omega)];simp
   ·rw [if_neg h1,ih (k+1) j];by_cases h2:k+1≤j∧j < k+1+xs.length
    ·rw [if_pos h2,if_pos (by omega),show j - k=(j - (k+1))+1 by omega,vhb]
    ·rw [if_neg h2,if_neg (by omega)]
 funext j;rw [key,q3a];have:eo .e j=.any:=Ty.get_e _ _;rw [this]
theorem q5w {e:Ty AV} {h:Ty AO} {f:Nat} {st:St} (hR:RepV e h f st) (x:ResultVar):q5q P e h x=qmw P st x:=by
 cases x with
 | tmp t=>simp only [q5q,qmw,←hR.env]
 | cell a t=>simp only [q5q,qmw,←hR.env,←hR.heap]
theorem qx3 {e:Ty AV} {h:Ty AO} {f:Nat} {st:St} (hR:RepV e h f st):∀rs:List ResultVar,q5r P e h rs=qlf P st rs
 | []=>rfl
 | x :: r=>by simp only [q5r,qlf,q5w hR x,qx3 hR r];rfl
theorem vdc {e:Ty AV} {h:Ty AO} {f:Nat} {st:St} {rs:List ResultVar} {x:AV} {h1:Ty AO} {f1:Nat} (hR:RepV e h f st) (hz:rsK P e h f rs=.r x h1 f1):q0y P st rs=some x∧h1=h∧f1=f:=by
 unfold rsK at hz;rw [qx3 hR] at hz;unfold q0y;split at hz
 ·rename_i v hv;rw [hv];cases hz;exact ⟨rfl,rfl,rfl⟩
 ·rename_i vs hne hv;cases hz;refine ⟨?_,rfl,rfl⟩;rw [hv];simp only
 ·cases hz
def qk3 (h:Ty AO) (f:Nat):Prop:=(∃hl,qag hl=ho h)∧q7e h f∧1000≤f
theorem qk3.set {h:Ty AO} {f l:Nat} {o:AO} (g:qk3 h f) (hl:l < f):qk3 (qrx h l o) f:=by
 obtain ⟨⟨x,hx⟩,h2,h3⟩:=g;refine ⟨⟨(l,o) :: x,?_⟩,fun k hk=>?_,h3⟩
 ·rw [qi9,←hx];exact qh3 _ _ _
 ·rw [qi9];unfold qg6;rw [if_neg (by omega)];exact h2 k hk
theorem qk3.new {h:Ty AO} {f:Nat} {o:AO} (g:qk3 h f):qk3 (qrx h f o) (vic f):=by
 obtain ⟨⟨x,hx⟩,h2,h3⟩:=g;refine ⟨⟨(f,o) :: x,?_⟩,fun k hk=>?_,viz h3⟩
 ·rw [qi9,←hx];exact qh3 _ _ _
 ·rw [qi9];unfold qg6;have:f < k:=hk;rw [if_neg (by omega)];exact h2 k (by omega)
def qhl (call:qf2):Prop:=∀(v:AV) (avs:List AV) (h:Ty AO) (f:Nat) (x:AV) (h1:Ty AO) (f1:Nat),qk3 h f→call v avs h f=.r x h1 f1→qk3 h1 f1
def qjt (ih:qim):Prop:=∀(N:Nat) (c:Code) (e:Ty AV) (h:Ty AO) (f:Nat) (ex:Exit) (e1:Ty AV) (h1:Ty AO) (f1:Nat),qk3 h f→ih N c e h f=.r ex e1 h1 f1→qk3 h1 f1
theorem qqt {call:qf2} (hc:qhl call) {k:KE} {e1:Ty AV} {h1:Ty AO} {f1:Nat} (hk:∀e h f,qk3 h f→k e h f=.st e1 h1 f1→qk3 h1 f1):∀(i:IOp) {e:Ty AV} {h:Ty AO} {f:Nat},qk3 h f→qr3 call i k e h f=.st e1 h1 f1→qk3 h1 f1
 | .bad,_,_,_,_,hz=>by cases hz
 | .f d g,e,h,f,hg,hz=>by
  have hz':onRy d e h f k (g e h f)=.st e1 h1 f1:=hz;generalize g e h f=r at hz';cases r with
  | no=>cases hz'
  | v x rs=>exact hk _ _ _ hg hz'
  | w x l ob rs =>
   have hz2:(bif vh5 l f then k (qmd e d x) (qrx h l ob) f else .bad)=.st e1 h1 f1:=hz';cases hl:vh5 l f with
   | false=>rw [hl] at hz2;cases hz2
   | true =>
    rw [hl,cond_true] at hz2;exact hk _ _ _ (hg.set (q4b.1 hl)) hz2
  | new x ob rs=>exact hk _ _ _ hg.new hz'
 | .call d fn args,e,h,f,hg,hz=>by
  have hz':onK d e k (call (vo e fn) (args.map (vo e)) h f)=.st e1 h1 f1:=hz;generalize hr:call (vo e fn) (args.map (vo e)) h f=r at hz';cases r with
  | bad=>cases hz'
  | r x h2 f2=>exact hk _ _ _ (hc _ _ _ _ _ _ _ hg hr) hz'
 | .gd j want d i,e,h,f,hg,hz=>by
  have hz':q94 want d e h f k (qr3 call i k e h f) (Ty.get .any e j)=.st e1 h1 f1:=hz;unfold q94 at hz';split at hz'
  ·rename_i b hb;cases hbw:b == want with
   | true=>rw [hbw,cond_true] at hz';exact qqt hc hk i hg hz'
   | false=>rw [hbw,cond_false] at hz';exact hk _ _ _ hg hz'
  ·exact hk _ _ _ hg hz'
  ·cases hz'
 | .cpy tA x y d1 d2 d3,e,h,f,hg,hz=>by
  have hz':qwg tA (vo e x) (vo e y) d1 d2 d3 e h f k=.st e1 h1 f1:=hz;unfold qwg at hz';split at hz'
  case h_2=>cases hz'
  split at hz'
  case h_2=>cases hz'
  split at hz'
  case h_2=>cases hz'
  rename_i l g _ _ _ t g' c0 c1 c2 els _ _ _ L _;cases hcc:vh3 t tA && (vh3 g g' && vh5 l f) with
  | false=>rw [hcc] at hz';cases hz'
  | true =>
  rw [hcc,cond_true] at hz';simp only [veg] at hcc;exact hk _ _ _ (hg.set (q4b.1 hcc.2.2)) hz'
theorem qo4 {call:qf2} (hc:qhl call):∀(is:List IOp) {e:Ty AV} {h:Ty AO} {f:Nat} {e1:Ty AV} {h1:Ty AO} {f1:Nat},qk3 h f→qx1 call is e h f=.st e1 h1 f1→qk3 h1 f1
 | [],_,_,_,_,_,_,hg,hz=>by cases hz;exact hg
 | i :: is,_,_,_,_,_,_,hg,hz=>qqt hc (k:=qx1 call is) (fun e h f hg hz=>qo4 hc is hg hz) i hg hz
theorem qr6 (h:Ty AO) (us:List (Nat×AO)):ho (qt1 h us)=ovr us (ho h):=by
 funext k
 induction us with
 | nil=>rfl
 | cons p r ih =>
  obtain ⟨l,o⟩:=p;simp only [qt1,qi9,qg6,ovr,ih];by_cases hl:l=k
  ·rw [if_pos hl,if_pos hl.symm]
  ·rw [if_neg hl,if_neg (Ne.symm hl)]
theorem qnm {h h':Ty AO} {S:List Nat}:∀{S':List Nat} {l:Nat} {o:AO},(l,o)∈qg9 h h' S S'→o=ho h' l
 | [],_,_,hm=>by cases hm
 | k :: S',l,o,hm=>by
  unfold qg9 at hm;cases hc:qon k S && AO.same (ho h k) (ho h' k) with
  | true=>rw [hc,cond_true] at hm;exact qnm hm
  | false =>
   rw [hc,cond_false] at hm;rcases vhp.1 hm with hm | hm
   ·cases hm;rfl
   ·exact qnm hm
theorem q3b {us:List (Nat×AO)} {σ:Nat→AO} {l:Nat} (h:l∈us.map (·.1)):(l,ovr us σ l)∈us:=by
 induction us with
 | nil=>cases h
 | cons p r ih =>
  obtain ⟨k,o⟩:=p;simp only [ovr];by_cases hk:k=l
  ·subst hk;rw [if_pos rfl];exact vhr
  ·rw [if_neg hk];rcases vhp.1 h with h | h
   ·exact absurd h.symm hk
   ·exact vhq _ (ih h)
theorem qk3.diff {h h':Ty AO} {f f':Nat} {S S':List Nat} (g:qk3 h f) (g':qk3 h' f') (hf:f≤f'):qk3 (qt1 h (qg9 h h' S S')) f':=by
 obtain ⟨⟨x,hx⟩,h2,h3⟩:=g;obtain ⟨_,k2,k3⟩:=g';refine ⟨⟨qg9 h h' S S'++x,?_⟩,fun k hk=>?_,k3⟩
 ·rw [qni,hx,qr6]
 ·rw [qr6];by_cases hm:k∈(qg9 h h' S S').map (·.1)
  ·rw [qnm (q3b hm)];exact k2 k hk
  ·rw [qlk hm];exact h2 k (by omega)
theorem q3c (h:Ty AO) (S:List Nat):ho (mkH h S)=qcq (ho h) S:=by
 funext k
 induction S with
 | nil=>simp only [mkH,qcq,List.not_mem_nil,if_false];exact Ty.get_e _ _
 | cons l S ih =>
  simp only [mkH,qi9,qg6,ih,qcq,vhp];by_cases hl:k=l
  ·subst hl;simp
  ·simp [hl]
theorem qk3.part {h:Ty AO} {f:Nat} (g:qk3 h f) (S:List Nat):qk3 (mkH h S) f:=by
 obtain ⟨_,h2,h3⟩:=g;refine ⟨?_,fun k hk=>?_,h3⟩
 ·induction S with
  | nil=>exact ⟨[],(vbg).symm⟩
  | cons l S ih =>
   obtain ⟨x,hx⟩:=ih;exact ⟨(l,ho h l) :: x,by rw [mkH,qi9,←hx];exact qh3 _ _ _⟩
 ·rw [q3c];unfold qcq;rw [h2 k hk];split <;> rfl
theorem qx4 (hB:qx2 P) {ext:Ext} (hE:qz5 P ext) {ih:qim} (hi:qr4 P ih) (hgd:qjt ih) {k:FuncId} {avs:List AV} {h:Ty AO} {f:Nat} {x:AV} {h1:Ty AO} {f1:Nat} (hL:∃hl,qag hl=ho h) (hF:q7e h f) (hge:1000≤f)
  (hz:qo1 P ext ih k avs h f=.r x h1 f1):FunW P k avs h x h1 f1:=by
 obtain ⟨hl,hhl⟩:=hL;unfold qo1 at hz;split at hz
 ·rename_i t ht;split at hz
  case h_2=>cases hz
  rename_i ps hps;split at hz
  case h_2=>cases hz
  rename_i r hr;cases hz;obtain ⟨hb,hp⟩:=hE k t ps r ht hr;refine ⟨hb,⟨hl,hhl⟩,hF,hge,fun D X inj w vs hh hT hars=>?_⟩;have hav:=qkc hps;subst hav;refine ((hp D) (fun b=>X b∨F inj (ho h) b) w vs (fun b hb=>hb.elim (hh.xlt b) fun hf=>(hh.flt hf).1) hT (qav.1 hars)).mono ?_;rintro e w' ⟨v,rfl,h1,h2⟩;exact ⟨v,rfl,inj,hh.fr h2,h2.ev,h1⟩
 ·cases hc:q5s P k with
  | bad=>rw [hc] at hz;cases hz
  | r N c rs =>
   rw [hc] at hz;have hz':(bif vh4 avs.length N && vh4 1000 f then vaa P rs (ih N c (qm9 0 avs .e) h f) else .bad)=KR.r x h1 f1:=hz;cases hcc:vh4 avs.length N && vh4 1000 f with
   | false=>rw [hcc] at hz';cases hz'
   | true =>
   rw [hcc,cond_true] at hz';simp only [veg] at hcc;have hn:=vix hcc.1;unfold q5s at hc;split at hc
   case h_2=>cases hc
   rename_i fn hfn;split at hc
   case h_2=>cases hc
   rename_i c' hb;cases hN:vh4 fn.ntmps 1000 with
   | false=>rw [hN] at hc;cases hc
   | true =>
   rw [hN,cond_true] at hc;cases hc;have hN:=vix hN;generalize hrun:ih fn.ntmps c (qm9 0 avs .e) h f=cr at hz';cases cr with
   | bad=>cases hz'
   | r ex e1 h2 f2 =>
   have hres:(ex=.normal∨ex=.ret)∧rsK P e1 h2 f2 fn.results.toList=.r x h1 f1:=by
    cases ex <;> first | exact ⟨.inl rfl,hz'⟩ | exact ⟨.inr rfl,hz'⟩ | cases hz'
   -- the state at the end does not matter: some one stands for it
   have hR0:RepV (qm9 0 avs .e) h f ⟨qex 0 avs,hl⟩:=⟨qwj avs,hhl,hF,hge⟩;have hwp:∀(D:Prop) (X:Nat→Prop) (inj:Inj) (w:World) hT,AWp ⟨P,fn.ntmps,0,X,hl,inj,w,D,hT⟩ c (fun e s=>(e=.normal∨e=.ret)∧RepV e1 h2 f2 s) ⟨qex 0 avs,hl⟩:=fun D X inj w hT =>
    hi ⟨P,fn.ntmps,0,X,hl,inj,w,D,hT⟩ c _ _ _ ex e1 h2 f2 _ _ rfl hN hrun hR0 fun st1 hR1=>⟨hres.1,hR1⟩
   have hst:h1=h2∧f1=f2:=by
    have:=hres.2;unfold rsK at this;split at this <;> cases this <;> exact ⟨rfl,rfl⟩
   obtain ⟨rfl,rfl⟩:=hst;obtain ⟨⟨hl',e1'⟩,e2',e3'⟩:=hgd _ _ _ _ _ _ _ _ _ ⟨⟨hl,hhl⟩,hF,hge⟩ hrun;refine ⟨hB k fn hfn (by rw [hb];rfl),⟨hl',e1'⟩,e2',e3',fun D X inj w vs hh hT hars=>?_⟩;rw [←hhl] at hh hT hars;have hlen:=hars.length;refine calls_of_wp hfn hb (wp_mono (hwp D X inj w hT inj _ w ⟨fun t=>?_,?_,rfl,hh,Ev.refl _ _ _ _⟩) ?_)
   ·have:=qhi avs vs 0 t hars;simp only [vie,if_true,vgj] at this;have e:(vs.toArray++vim (fn.ntmps - vs.toArray.size) undef).getD t undef=vs.getD t undef:=by
     by_cases ht:t < vs.length
     ·simp [vd4,ht]
     ·simp only [vii,vd4,vfw,ht,if_false,vil];rw [vha,ve4 (by omega)];split <;> rfl
    rw [e];exact this
   ·simp [←hlen];omega
   ·intro e a' w' ⟨s,inj',hs',hex,hR'⟩;obtain ⟨hv,_,_⟩:=vdc hR' hres.2;obtain ⟨val,k1,k2⟩:=qjq hs' hv;have hev:Ev D X inj (qag hl) w inj' s.sig w':=hs'.ev;have hsg:s.sig=ho h1:=hR'.heap;have hpost:∃val',Ending.returned val=.returned val'∧∃inj',HR X inj' (ho h1) w'∧Ev D X inj (ho h) w inj' (ho h1) w'∧AR X inj' (ho h1) w' x val' :=
     ⟨val,rfl,inj',by rw [←hsg];exact hs'.hr,by rw [←hsg,←hhl];exact hev,by rw [←hsg];exact k2⟩
    rcases hex with rfl | rfl
    ·exact ⟨hs'.defers,val,k1,hpost⟩
    ·exact ⟨hs'.defers,val,k1,hpost⟩
end Go.Ab
namespace Go.Ab
open Go
set_option linter.constructorNameAsVariable false
variable {P:Program} {C:Cx} {Q:Exit→St→Prop} {st:St}
theorem qr7 {S:List Nat}:∀{S':List Nat} {l:Nat},l∈S'→l ∉ S→l∈qt2 S S'
 | k :: S',l,h,hn=>by
  unfold qt2;rw [qgw];rcases vhp.1 h with rfl | h
  ·simp only [hn,decide_false,cond_false];exact vhr
  ·by_cases hk:k∈S
   ·simp only [hk,decide_true,cond_true];exact qr7 h hn
   ·simp only [hk,decide_false,cond_false];exact vhq _ (qr7 h hn)
theorem qt7 {f:Nat}:∀{s:List Nat} {l:Nat},qoz f s=true→l∈s→f≤l
 | k :: s,l,h,hl=>by
  simp only [qoz,veg] at h;rcases vhp.1 hl with rfl | hl
  ·exact vix h.1
  ·exact qt7 h.2 hl
theorem qr8 {h h':Ty AO} {S:List Nat}:∀{S':List Nat} {l:Nat},l∈S'→l ∉ (qg9 h h' S S').map (·.1)→l∈S∧ho h l=ho h' l
 | k :: S',l,hl,hn=>by
  unfold qg9 at hn;cases hc:qon k S && AO.same (ho h k) (ho h' k) with
  | true =>
   rw [hc,cond_true] at hn;rcases vhp.1 hl with rfl | hl
   ·simp only [veg,qgw,decide_eq_true_eq] at hc;exact ⟨hc.1,AO.same_eq hc.2⟩
   ·exact qr8 hl hn
  | false =>
   rw [hc,cond_false] at hn;simp only [vfj,vhp,not_or] at hn;rcases vhp.1 hl with rfl | hl
   ·exact absurd rfl hn.1
   ·exact qr8 hl hn.2
theorem qr9 {h h':Ty AO} {S:List Nat}:∀{S':List Nat} {l:Nat},l∈(qg9 h h' S S').map (·.1)→l∈S'
 | [],l,hm=>by cases hm
 | k :: S',l,hm=>by
  unfold qg9 at hm;cases hc:qon k S && AO.same (ho h k) (ho h' k) with
  | true=>rw [hc,cond_true] at hm;exact vhq _ (qr9 hm)
  | false =>
   rw [hc,cond_false] at hm;simp only [vfj,vhp] at hm;rcases hm with rfl | hm
   ·exact vhr
   ·exact vhq _ (qr9 hm)
theorem q5x {o:Oper} {fn:Operand} {args:Array Operand} {ats:Array TypeId} {ρ:Operand→AV} {k:FuncId} {cs:List AV} {h h':Ty AO} {f f':Nat} {x:AV} {S S':List Nat}
  (ho':o.op=.call ⟨.value fn,args,ats⟩) (hc:qjc (ρ fn)=some (k,cs)) (hW:FunW P k (args.toList.map ρ++cs) (mkH h S) x h' f') (hS:∀l∈qef (args.toList.map ρ++cs),l∈S) (hsh:q4c (ho h) S)
  (hx:∀l∈qis x,l∈S') (hsub:∀l∈S,l∈S') (hsh':q4c (ho h') S') (hfr:q7e h f) (hnw:qoz f (qt2 S S')=true):OpM P o ρ (ho h) x (qg9 h h' S S') (S++qt2 S S'):=by
 intro D X ρ' σ' hρ hσ inj w a next Q hr hT ha hn
 obtain ⟨hb,_,_,_,hW⟩:=hW;have hSσ:∀l∈S,σ' l=ho h l:=fun l hl=>hσ l (vhn _ hl)
 have hshσ:q4c σ' S:=fun l hl j hj=>hsh l hl j (by rw [←hSσ l hl];exact hj)
 have hpart:qcq σ' S=ho (mkH h S):=by
  rw [q3c];funext l;unfold qcq;split
  ·rename_i hl;exact hSσ l hl
  ·rfl
 -- the arguments
 have hfn:=ha fn;rw [hρ fn (by rw [ho'];simp [Op.operands,Call.operands])] at hfn;have hmap:args.toList.map ρ'=args.toList.map ρ:=vhk fun y hy=>hρ y (by rw [ho'];simp [Op.operands,Call.operands] at hy ⊢;exact .inr hy)
 have hargs:=qij ha args.toList;rw [hmap] at hargs;obtain ⟨dst,op,type,pos,after,guard⟩:=o;simp only at ho';subst ho';have run:∀cap:Array Value,a.eval fn=.func (.func k) #[] cap→(execOp a.eval ⟨dst,.call ⟨.value fn,args,ats⟩,type,pos,after,guard⟩).run P w=.ok (.enter k (args.map a.eval++cap)) w:=by
  intro cap he;simp only [execOp,resolve,Deferred.ofValue,he,vgv,vgw,vgt,invoke];rw [hb];simp
 have hcall:∃vs,(execOp a.eval ⟨dst,.call ⟨.value fn,args,ats⟩,type,pos,after,guard⟩).run P w=.ok (.enter k vs.toArray) w∧ARs X inj σ' w (args.toList.map ρ++cs) vs:=by
  unfold qjc at hc;split at hc
  ·rename_i k' cs' hev;simp only [vgr,vgs] at hc;obtain ⟨rfl,rfl⟩:=hc;rw [hev] at hfn;obtain ⟨vs,h1,h2⟩:=hfn;refine ⟨args.toList.map a.eval++vs,?_,hargs.append (qav.2 h2)⟩;rw [run vs.toArray h1];congr 2;apply vd3;simp
  ·rename_i k' cs' hev;simp only [vgr,vgs] at hc;obtain ⟨rfl,rfl⟩:=hc;rw [hev] at hfn;obtain ⟨vs,h1,h2⟩:=hfn;refine ⟨args.toList.map a.eval++vs,?_,hargs.append h2⟩;rw [run vs.toArray h1];congr 2;apply vd3;simp
  ·cases hc
 obtain ⟨vs,hrun,hars⟩:=hcall;unfold Oper.wp;rw [hrun];simp only [Oper.upon];have hin:∀l∈qef (args.toList.map ρ++cs),qcq σ' S l=σ' l∧inj l=inj l:=fun l hl=>⟨by unfold qcq;rw [if_pos (hS l hl)],rfl⟩
 have hars':ARs (XO X inj σ' S) inj (qcq σ' S) w (args.toList.map ρ++cs) vs:=qgh (fun b _ hh=>(qtx b).1 hh) _ _ hin hars;have hT':TabOk P (fun b=>XO X inj σ' S b∨F inj (qcq σ' S) b) w:=hT.keep ⟨vf9 _,fun _ _ _=>rfl,fun b _ hx hn=>hx ((qtx b).1 hn)⟩;have hr':=hr.part hshσ;rw [hpart] at hars' hT' hr';refine (hW D (XO X inj σ' S) inj w vs hr' hT' hars').mono ?_;rintro e' w' ⟨val,rfl,inj1,q1,q2,q3⟩
 -- what can be reached of it
 have hτ:∀l,l ∉ S'→qcq (ho h') S' l=.dead 0:=fun l hl=>by unfold qcq;rw [if_neg hl]
 have hτS:q4c (qcq (ho h') S') S':=fun l hl j hj=>hsh' l hl j (by unfold qcq at hj;rw [if_pos hl] at hj;exact hj)
 have hpF:∀b,(XO X inj σ' S b∨F inj1 (qcq (ho h') S') b)→XO X inj σ' S b∨F inj1 (ho h') b:=by
  rintro b (h | ⟨l,c,o,h1,h2,_,h3⟩)
  ·exact .inl h
  ·obtain ⟨r1,r2⟩:=qc2 (h1 ▸ h2);exact .inr ⟨l,c,o,by rw [←h1,r2],h2,rfl,h3⟩
 have t1:=q1.less hsh';have t3:AR (XO X inj σ' S) inj1 (qcq (ho h') S') w' x val:=qwd (fun b _ hh=>hpF b hh) x val (fun l hl=>⟨by unfold qcq;rw [if_pos (hx l hl)],rfl⟩) q3;have t2:Ev D (XO X inj σ' S) inj (qcq σ' S) w inj1 (qcq (ho h') S') w':=by
  rw [hpart];refine ⟨q2.os,q2.tape,q2.output,q2.dr,q2.size,q2.fz,q2.blk,fun b hb=>?_,fun l=>?_⟩
  ·obtain ⟨l,c,o,h1,h2,_,h3⟩:=hb;obtain ⟨r1,r2⟩:=qc2 (h1 ▸ h2);exact q2.fp b ⟨l,c,o,by rw [←h1,r2],h2,rfl,h3⟩
  ·by_cases hl:l∈S'
   ·have:qcq (ho h') S' l=ho h' l:=by unfold qcq;rw [if_pos hl]
    rw [this];exact q2.objs l
   ·rw [hτ l hl];have hlS:l ∉ S:=fun hh=>hl (hsub l hh)
    have:ho (mkH h S) l=.dead 0:=by rw [q3c];unfold qcq;rw [if_neg hlS]
    rw [this];exact ⟨vf9 _,fun ha=>by cases ha⟩
 have hnew:∀l∈S',l ∉ S→σ' l=.dead 0:=fun l hl hn'=>by
  have hm:=qr7 hl hn';rw [hσ l (vho _ hm)];exact hfr l (qt7 hnw hm)
 obtain ⟨z1,z2,z3⟩:=HR.frame hr hshσ hsub hnew t1 hτ hτS t2;have hov:ovr (qg9 h h' S S') σ'=fun l=>if l∈S' then qcq (ho h') S' l else σ' l:=by
  funext l;by_cases hl:l∈S'
  ·simp only [hl,if_true];have e1:qcq (ho h') S' l=ho h' l:=by unfold qcq;rw [if_pos hl]
   rw [e1];by_cases hm:l∈(qg9 h h' S S').map (·.1)
   ·exact qnm (q3b hm)
   ·rw [qlk hm];obtain ⟨r1,r2⟩:=qr8 hl hm;rw [hSσ l r1,r2]
  ·simp only [hl,if_false];exact qlk fun hm=>hl (qr9 hm)
 rw [hov] at hn;exact hn val w' _ z1 z2 (z3 x val hx t3)
end Go.Ab
namespace Go.Ab
open Go
set_option linter.constructorNameAsVariable false
variable {P:Program} {C:Cx} {Q:Exit→St→Prop} {st:St}
def EvM.w (m:EvM):EvW:=⟨m.us,m.rs⟩
theorem qec {x:EvW} {r:DR} {e:Ty AV} {h:Ty AO} {f:Nat} {es:List EvW} (hz:qko x r=.st e h f es):∃es',r=.st e h f es'∧es=x :: es':=by
 cases r with
 | bad=>cases hz
 | st e' h' f' es'=>cases hz;exact ⟨es',rfl,rfl⟩
def vad (C:Cx) (ops:Array Oper) (rest:List Oper) (k:KD):Prop:=∀(e:Ty AV) (h:Ty AO) (f:Nat) (st:St) (e1:Ty AV) (h1:Ty AO) (f1:Nat) (es:List EvW),RepV e h f st→k e h f=.st e1 h1 f1 es →
 ∃ms st1,DChM C ops rest st ms st1∧RepV e1 h1 f1 st1∧ms.map EvM.w=es
theorem qo5 {call:qf2} (hcall:qkq P call) (hgood:qhl call) (hmono:∀v avs h f x h1 f1,call v avs h f=.r x h1 f1→f≤f1) (hP:C.P=P) (hN:C.N≤1000) {ops:Array Oper} {o:Oper} {rest:List Oper} {i:IOp} {k:KD} {e:Ty AV} {h:Ty AO} {f:Nat} {e1:Ty AV} {h1:Ty AO} {f1:Nat} {es:List EvW}
  (hi:qwi P o i) (hd:qbc C.N o=true) (hg:qal ops st.env o=some true) (hR:RepV e h f st) (hz:qt3 call i k e h f=.st e1 h1 f1 es) (hn:vad C ops rest k):∃ms st1,DChM C ops (o :: rest) st ms st1∧RepV e1 h1 f1 st1∧ms.map EvM.w=es:=by
 subst hP;have fin:∀(x:AV) (us:List (Nat×AO)) (rs:List Nat) (e2:Ty AV) (h2:Ty AO) (f2:Nat),OpM C.P o (ev st.env) st.sig x us rs→RepV e2 h2 f2 ⟨qd0 st.env o.dst x,us++st.heap⟩→qko ⟨us,rs⟩ (k e2 h2 f2)=.st e1 h1 f1 es →
   ∃ms st1,DChM C ops (o :: rest) st ms st1∧RepV e1 h1 f1 st1∧ms.map EvM.w=es:=by
  intro x us rs e2 h2 f2 hop hR2 hz2;obtain ⟨es',hk,rfl⟩:=qec hz2;obtain ⟨ms,st1,q1,q2,q3⟩:=hn e2 h2 f2 _ _ _ _ _ hR2 hk;exact ⟨⟨x,us,rs⟩ :: ms,st1,.cons hd (.inl ⟨hg,hop.md⟩) q1,q2,by rw [vfj,q3];rfl⟩
 cases i with
 | bad=>cases hz
 | gd _ _ _ _=>exact hi.elim
 | cpy _ _ _ _ _ _=>exact hi.elim
 | f d g =>
  obtain ⟨rfl,hg'⟩:=hi;have hok:=hg' e h f hR.free (q7m hd hN hR.ge);have hz':onRD (qgi o.dst) e h f k (g e h f)=.st e1 h1 f1 es:=hz;generalize g e h f=r at hok hz';cases r with
  | no=>cases hz'
  | v x rs =>
   simp only [qzx,hR.evf,←hR.heap] at hok;exact fin x [] rs _ _ _ hok (hR.put o.dst x) hz'
  | w x l ob rs =>
   simp only [qzx,hR.evf,←hR.heap] at hok;have hz2:(bif vh5 l f then qko ⟨[(l,ob)],rs⟩ (k (qmd e (qgi o.dst) x) (qrx h l ob) f) else .bad)=DR.st e1 h1 f1 es:=hz';cases hl:vh5 l f with
   | false=>rw [hl] at hz2;cases hz2
   | true =>
    rw [hl,cond_true] at hz2;exact fin x [(l,ob)] rs _ _ _ hok (hR.set (q4b.1 hl) o.dst x) hz2
  | new x ob rs =>
   simp only [qzx,hR.evf,←hR.heap] at hok;exact fin x [(f,ob)] rs _ _ _ hok (hR.new o.dst x) hz'
 | call d fn args =>
  obtain ⟨rfl,fo,a,ats,ho',rfl,rfl⟩:=hi;have hz':q5o call (qgi o.dst) (vo e (opd fo)) ((a.toList.map opd).map (vo e)) e h f k (qg8 (ho h) 5000 (qis (vo e (opd fo))++qef ((a.toList.map opd).map (vo e))) [])=.st e1 h1 f1 es:=hz;rw [qdi,q7n,hR.evf] at hz';generalize hS:qg8 (ho h) 5000 (qis (ev st.env fo)++qef (a.toList.map (ev st.env))) []=oS at hz';cases oS with
  | none=>cases hz'
  | some S =>
  have hz2:(@KR.rec (fun _=>DR) .bad (fun x h' f'=>qwh (qgi o.dst) e h f k S x h' f' (qg8 (ho h') 5000 (qis x++S) [])) (call (ev st.env fo) (a.toList.map (ev st.env)) (mkH h S) f))=DR.st e1 h1 f1 es:=hz';obtain ⟨_,s2,s3⟩:=qjr hS (by simp);have hgd:qk3 h f:=⟨⟨st.heap,hR.heap⟩,hR.free,hR.ge⟩;generalize hc:call (ev st.env fo) (a.toList.map (ev st.env)) (mkH h S) f=r at hz2;cases r with
  | bad=>cases hz2
  | r x h' f' =>
  have hz3:qwh (qgi o.dst) e h f k S x h' f' (qg8 (ho h') 5000 (qis x++S) [])=DR.st e1 h1 f1 es:=hz2;generalize hS':qg8 (ho h') 5000 (qis x++S) []=oS' at hz3;cases oS' with
  | none=>cases hz3
  | some S' =>
  obtain ⟨_,s2',s3'⟩:=qjr hS' (by simp);have hz4:(bif qoz f (qt2 S S') then qko ⟨qg9 h h' S S',S++qt2 S S'⟩ (k (qmd e (qgi o.dst) x) (qt1 h (qg9 h h' S S')) f') else .bad)=DR.st e1 h1 f1 es:=hz3;cases hnw:qoz f (qt2 S S') with
  | false=>rw [hnw] at hz4;cases hz4
  | true =>
  rw [hnw,cond_true] at hz4;have hgp:=hgd.part S;obtain ⟨kk,cs,c1,c2⟩:=hcall _ _ _ _ _ _ _ hgp.1 hgp.2.1 hgp.2.2 hc;have hg2:=hgood _ _ _ _ _ _ _ hgp hc;have hrefs:∀l∈qef (a.toList.map (ev st.env)++cs),l∈S:=by
   intro l hl;have happ:∀(xs ys:List AV),qef (xs++ys)=qef xs++qef ys:=by
    intro xs ys
    induction xs with
    | nil=>rfl
    | cons x xs ih=>simp only [vg7,qef,ih,List.append_assoc]
   rw [happ] at hl;rcases vfl.1 hl with hl | hl
   ·exact s2 l (vho _ hl)
   ·refine s2 l (vhn _ ?_);unfold qjc at c1;split at c1
    ·rename_i k' cs' heq;cases c1;exfalso;have:∀ps:List PV,qef (ps.map .p)=[]:=by
      intro ps
      induction ps with
      | nil=>rfl
      | cons p ps ih=>simp only [vfj,qef,ih];rfl
     rw [this] at hl;cases hl
    ·rename_i k' cs' heq;cases c1;rw [heq];exact hl
    ·cases c1
  have hop:=q5x (ρ:=ev st.env) ho' c1 c2 hrefs s3 (fun l hl=>s2' l (vhn _ hl)) (fun l hl=>s2' l (vho _ hl)) s3' hR.free hnw;rw [←hR.heap] at hop;have hgo:=hgd.diff (S:=S) (S':=S') hg2 (hmono _ _ _ _ _ _ _ hc);refine fin x _ _ _ _ _ hop ⟨by rw [qt5,←hR.env];exact qgc _ _ _,?_,hgo.2.1,hgo.2.2⟩ hz4;rw [qr6,←hR.heap];exact qni _ _
theorem q5y {call:qf2} (hcall:qkq P call) (hgood:qhl call) (hmono:∀v avs h f x h1 f1,call v avs h f=.r x h1 f1→f≤f1) (hP:C.P=P) (hN:C.N≤1000) {ops:Array Oper} {o:Oper} {rest:List Oper} {i:IOp} {k:KD} {e:Ty AV} {h:Ty AO} {f:Nat} {e1:Ty AV} {h1:Ty AO} {f1:Nat} {es:List EvW}
  (hi:IOk P C.N ops o i) (hR:RepV e h f st) (hz:qt3 call i k e h f=.st e1 h1 f1 es) (hn:vad C ops rest k):∃ms st1,DChM C ops (o :: rest) st ms st1∧RepV e1 h1 f1 st1∧ms.map EvM.w=es:=by
 have plain:∀{o:Oper},o.guard=none→qal ops st.env o=some true:=fun h=>by unfold qal;rw [h]
 cases i with
 | bad=>cases hz
 | cpy _ _ _ _ _ _=>exact hi.2.2.elim
 | f d g=>exact qo5 hcall hgood hmono hP hN (i:=.f d g) hi.2.2 hi.1 (plain hi.2.1) hR hz hn
 | call d fn args=>exact qo5 hcall hgood hmono hP hN (i:=.call d fn args) hi.2.2 hi.1 (plain hi.2.1) hR hz hn
 | gd j want d i =>
  obtain ⟨hd,rfl,⟨kk,t,hg,ht,rfl⟩,hi⟩:=hi;have hz':q95 want (qgi o.dst) e h f k (qt3 call i k e h f) (eo e t)=.st e1 h1 f1 es:=hz;have hgA:qal ops st.env o=match eo e t with | .p (.bool b)=>some (b == want) | .p (.tup [])=>some false | _=>none:=by
   unfold qal;rw [hg];simp only [ht,hR.env];rfl
  have skip:qko ⟨[],[]⟩ (k (qmd e (qgi o.dst) (.p (.tup []))) h f)=.st e1 h1 f1 es→qal ops st.env o=some false→∃ms st1,DChM C ops (o :: rest) st ms st1∧RepV e1 h1 f1 st1∧ms.map EvM.w=es:=fun hk hgf=>by
   obtain ⟨es',hk2,rfl⟩:=qec hk;obtain ⟨ms,st1,q1,q2,q3⟩:=hn _ _ _ _ _ _ _ _ (hR.put o.dst (.p (.tup []))) hk2;exact ⟨⟨.p (.tup []),[],[]⟩ :: ms,st1,.cons hd (.inr ⟨hgf,rfl⟩) q1,q2,by rw [vfj,q3];rfl⟩
  unfold q95 at hz';split at hz'
  ·rename_i b hb;rw [hb] at hgA;simp only at hgA;cases hbw:b == want with
   | true =>
    rw [hbw,cond_true] at hz';rw [hbw] at hgA;exact qo5 hcall hgood hmono hP hN hi hd hgA hR hz' hn
   | false =>
    rw [hbw,cond_false] at hz';rw [hbw] at hgA;exact skip hz' hgA
  ·rename_i hb;rw [hb] at hgA;exact skip hz' hgA
  ·cases hz'
theorem q3d {call:qf2} (hcall:qkq P call) (hgood:qhl call) (hmono:∀v avs h f x h1 f1,call v avs h f=.r x h1 f1→f≤f1) (hP:C.P=P) (hN:C.N≤1000) {ops:Array Oper}:∀(l:List Oper),vad C ops l (q5p call (l.map (qkn P C.N ops)))
 | []=>fun e h f st e1 h1 f1 es hR hz=>by
  cases hz;exact ⟨[],st,.nil,hR,rfl⟩
 | o :: l=>fun e h f st e1 h1 f1 es hR hz=>q5y hcall hgood hmono hP hN (k:=q5p call (l.map (qkn P C.N ops))) (qnl P C.N ops o) hR hz (q3d hcall hgood hmono hP hN l)
theorem qnn:∀{ws:List (Nat×AO)} {s:List Nat},djK ws s=true→∀l∈ws.map (·.1),l ∉ s
 | [],_,_,l,hl=>by cases hl
 | (k,o) :: r,s,h,l,hl=>by
  simp only [djK,veg,qgw,vek,decide_eq_false_iff_not] at h;rcases vhp.1 hl with rfl | hl
  ·exact h.1
  ·exact qnn h.2 l hl
theorem q5z {x y:EvM} (h:evW x.w y.w=true):q9w x y:=by
 unfold evW at h;split at h
 ·rename_i h1 h2;have h1:x.us=[]:=h1;have h2:y.us=[]:=h2;unfold q9w EvM.ks;rw [h1,h2];simp
 ·simp only [veg] at h;obtain ⟨h1,h2,h3⟩:=h;exact ⟨fun l hl=>⟨qnn h1 l hl,qnn h2 l hl⟩,fun l hl=>qnn h3 l hl⟩
theorem qo6 {es:List EvW}:∀{ps:List (Nat×Nat)},qlo es ps=true→∀i j x y,(i,j)∈ps→nth es i=some x→nth es j=some y→evW x y=true
 | [],_,_,_,_,_,hm,_,_=>by cases hm
 | (a,b) :: r,h,i,j,x,y,hm,hx,hy=>by
  simp only [qlo,veg] at h;rcases vhp.1 hm with hm | hm
  ·cases hm;have:=h.1;rw [hx,hy] at this;exact this
  ·exact qo6 h.2 i j x y hm hx hy
theorem vae {ops:Array Oper} {T:Nat} {ms:List EvM} (hl:ms.length≤T) (h:qlo (ms.map EvM.w) (q25 ops T)=true):EvsM ops ms:=by
 intro i j x y hij hj hx hy;by_cases ha:qpw (qxf ops ops.size) j i=true
 ·exact .inl (qgu ha)
 ·refine .inr (q5z (qo6 h i j x.w y.w ?_ (by rw [qlm,ve6,hx];rfl) (by rw [qlm,ve6,hy];rfl)));have hjT:j < T:=vgc (ve5.1 hy).1 hl;unfold q25;refine List.mem_flatMap.2 ⟨j,vhv.2 hjT,List.mem_filterMap.2 ⟨i,vhv.2 hij,?_⟩⟩;have:qpw (qxf ops ops.size) j i=false:=by simpa using ha
  rw [this];rfl
theorem qqu {call:qf2} (hm:∀v avs h f x h1 f1,call v avs h f=.r x h1 f1→f≤f1) {k:KD} {e1:Ty AV} {h1:Ty AO} {f1:Nat} (hk:∀e h f es,k e h f=.st e1 h1 f1 es→f≤f1):∀(i:IOp) {e:Ty AV} {h:Ty AO} {f:Nat} {es:List EvW},qt3 call i k e h f=.st e1 h1 f1 es→f≤f1
 | .bad,_,_,_,_,hz=>by cases hz
 | .f d g,e,h,f,es,hz=>by
  have hz':onRD d e h f k (g e h f)=.st e1 h1 f1 es:=hz;generalize g e h f=r at hz';cases r with
  | no=>cases hz'
  | v x rs=>obtain ⟨es',hk2,_⟩:=qec hz';exact hk _ _ _ _ hk2
  | w x l ob rs =>
   have hz2:(bif vh5 l f then qko ⟨[(l,ob)],rs⟩ (k (qmd e d x) (qrx h l ob) f) else .bad)=DR.st e1 h1 f1 es:=hz';cases hl:vh5 l f with
   | false=>rw [hl] at hz2;cases hz2
   | true =>
    rw [hl,cond_true] at hz2;obtain ⟨es',hk2,_⟩:=qec hz2;exact hk _ _ _ _ hk2
  | new x ob rs=>obtain ⟨es',hk2,_⟩:=qec hz';exact viy (hk _ _ _ _ hk2)
 | .call d fn args,e,h,f,es,hz=>by
  have hz':q5o call d (vo e fn) (args.map (vo e)) e h f k (qg8 (ho h) 5000 (qis (vo e fn)++qef (args.map (vo e))) [])=.st e1 h1 f1 es:=hz;generalize qg8 (ho h) 5000 (qis (vo e fn)++qef (args.map (vo e))) []=oS at hz';cases oS with
  | none=>cases hz'
  | some S =>
  have hz2:(@KR.rec (fun _=>DR) .bad (fun x h' f'=>qwh d e h f k S x h' f' (qg8 (ho h') 5000 (qis x++S) [])) (call (vo e fn) (args.map (vo e)) (mkH h S) f))=DR.st e1 h1 f1 es:=hz';generalize hc:call (vo e fn) (args.map (vo e)) (mkH h S) f=r at hz2;cases r with
  | bad=>cases hz2
  | r x h' f' =>
  have hz3:qwh d e h f k S x h' f' (qg8 (ho h') 5000 (qis x++S) [])=DR.st e1 h1 f1 es:=hz2;generalize qg8 (ho h') 5000 (qis x++S) []=oS' at hz3;cases oS' with
  | none=>cases hz3
  | some S' =>
  have hz4:(bif qoz f (qt2 S S') then qko ⟨qg9 h h' S S',S++qt2 S S'⟩ (k (qmd e d x) (qt1 h (qg9 h h' S S')) f') else .bad)=DR.st e1 h1 f1 es:=hz3;cases hnw:qoz f (qt2 S S') with
  | false=>rw [hnw] at hz4;cases hz4
  | true =>
  rw [hnw,cond_true] at hz4;obtain ⟨es',hk2,_⟩:=qec hz4;exact vgb (hm _ _ _ _ _ _ _ hc) (hk _ _ _ _ hk2)
 | .gd j want d i,e,h,f,es,hz=>by
  have hz':q95 want d e h f k (qt3 call i k e h f) (Ty.get .any e j)=.st e1 h1 f1 es:=hz;unfold q95 at hz';split at hz'
  ·rename_i b hb;cases hbw:b == want with
   | true=>rw [hbw,cond_true] at hz';exact qqu hm hk i hz'
   | false=>rw [hbw,cond_false] at hz';obtain ⟨es',hk2,_⟩:=qec hz';exact hk _ _ _ _ hk2
  ·obtain ⟨es',hk2,_⟩:=qec hz';exact hk _ _ _ _ hk2
  ·cases hz'
 | .cpy tA x y d1 d2 d3,_,_,_,_,hz=>by cases hz
theorem qt8 {call:qf2} (hm:∀v avs h f x h1 f1,call v avs h f=.r x h1 f1→f≤f1):∀(is:List IOp) {e:Ty AV} {h:Ty AO} {f:Nat} {e1:Ty AV} {h1:Ty AO} {f1:Nat} {es:List EvW},q5p call is e h f=.st e1 h1 f1 es→f≤f1
 | [],_,_,_,_,_,_,_,hz=>by cases hz;exact vf9 _
 | i :: is,_,_,_,_,_,_,_,hz=>qqu hm (k:=q5p call is) (fun e h f es hz=>qt8 hm is hz) i hz
theorem qqv {call:qf2} (hm:∀v avs h f x h1 f1,call v avs h f=.r x h1 f1→f≤f1) {k:KE} {e1:Ty AV} {h1:Ty AO} {f1:Nat} (hk:∀e h f,k e h f=.st e1 h1 f1→f≤f1):∀(i:IOp) {e:Ty AV} {h:Ty AO} {f:Nat},qr3 call i k e h f=.st e1 h1 f1→f≤f1
 | .bad,_,_,_,hz=>by cases hz
 | .f d g,e,h,f,hz=>by
  have hz':onRy d e h f k (g e h f)=.st e1 h1 f1:=hz;generalize g e h f=r at hz';cases r with
  | no=>cases hz'
  | v x rs=>exact hk _ _ _ hz'
  | w x l ob rs =>
   have hz2:(bif vh5 l f then k (qmd e d x) (qrx h l ob) f else .bad)=.st e1 h1 f1:=hz';cases hl:vh5 l f with
   | false=>rw [hl] at hz2;cases hz2
   | true=>rw [hl,cond_true] at hz2;exact hk _ _ _ hz2
  | new x ob rs=>exact viy (hk _ _ _ hz')
 | .call d fn args,e,h,f,hz=>by
  have hz':onK d e k (call (vo e fn) (args.map (vo e)) h f)=.st e1 h1 f1:=hz;generalize hr:call (vo e fn) (args.map (vo e)) h f=r at hz';cases r with
  | bad=>cases hz'
  | r x h2 f2=>exact vgb (hm _ _ _ _ _ _ _ hr) (hk _ _ _ hz')
 | .gd j want d i,e,h,f,hz=>by
  have hz':q94 want d e h f k (qr3 call i k e h f) (Ty.get .any e j)=.st e1 h1 f1:=hz;unfold q94 at hz';split at hz'
  ·rename_i b hb;cases hbw:b == want with
   | true=>rw [hbw,cond_true] at hz';exact qqv hm hk i hz'
   | false=>rw [hbw,cond_false] at hz';exact hk _ _ _ hz'
  ·exact hk _ _ _ hz'
  ·cases hz'
 | .cpy tA x y d1 d2 d3,e,h,f,hz=>by
  have hz':qwg tA (vo e x) (vo e y) d1 d2 d3 e h f k=.st e1 h1 f1:=hz;unfold qwg at hz';split at hz'
  case h_2=>cases hz'
  split at hz'
  case h_2=>cases hz'
  split at hz'
  case h_2=>cases hz'
  generalize (_ && _)=c at hz';cases c with
  | false=>cases hz'
  | true=>exact hk _ _ _ hz'
theorem qo7 {call:qf2} (hm:∀v avs h f x h1 f1,call v avs h f=.r x h1 f1→f≤f1):∀(is:List IOp) {e:Ty AV} {h:Ty AO} {f:Nat} {e1:Ty AV} {h1:Ty AO} {f1:Nat},qx1 call is e h f=.st e1 h1 f1→f≤f1
 | [],_,_,_,_,_,_,hz=>by cases hz;exact vf9 _
 | i :: is,_,_,_,_,_,_,hz=>qqv hm (k:=qx1 call is) (fun e h f hz=>qo7 hm is hz) i hz
theorem qqw {call:qf2} (hc:qhl call) (hm:∀v avs h f x h1 f1,call v avs h f=.r x h1 f1→f≤f1) {k:KD} {e1:Ty AV} {h1:Ty AO} {f1:Nat} (hk:∀e h f es,qk3 h f→k e h f=.st e1 h1 f1 es→qk3 h1 f1):∀(i:IOp) {e:Ty AV} {h:Ty AO} {f:Nat} {es:List EvW},qk3 h f→qt3 call i k e h f=.st e1 h1 f1 es→qk3 h1 f1
 | .bad,_,_,_,_,_,hz=>by cases hz
 | .f d g,e,h,f,es,hg,hz=>by
  have hz':onRD d e h f k (g e h f)=.st e1 h1 f1 es:=hz;generalize g e h f=r at hz';cases r with
  | no=>cases hz'
  | v x rs=>obtain ⟨es',hk2,_⟩:=qec hz';exact hk _ _ _ _ hg hk2
  | w x l ob rs =>
   have hz2:(bif vh5 l f then qko ⟨[(l,ob)],rs⟩ (k (qmd e d x) (qrx h l ob) f) else .bad)=DR.st e1 h1 f1 es:=hz';cases hl:vh5 l f with
   | false=>rw [hl] at hz2;cases hz2
   | true =>
    rw [hl,cond_true] at hz2;obtain ⟨es',hk2,_⟩:=qec hz2;exact hk _ _ _ _ (hg.set (q4b.1 hl)) hk2
  | new x ob rs=>obtain ⟨es',hk2,_⟩:=qec hz';exact hk _ _ _ _ hg.new hk2
 | .call d fn args,e,h,f,es,hg,hz=>by
  have hz':q5o call d (vo e fn) (args.map (vo e)) e h f k (qg8 (ho h) 5000 (qis (vo e fn)++qef (args.map (vo e))) [])=.st e1 h1 f1 es:=hz;generalize qg8 (ho h) 5000 (qis (vo e fn)++qef (args.map (vo e))) []=oS at hz';cases oS with
  | none=>cases hz'
  | some S =>
  have hz2:(@KR.rec (fun _=>DR) .bad (fun x h' f'=>qwh d e h f k S x h' f' (qg8 (ho h') 5000 (qis x++S) [])) (call (vo e fn) (args.map (vo e)) (mkH h S) f))=DR.st e1 h1 f1 es:=hz';generalize hcc:call (vo e fn) (args.map (vo e)) (mkH h S) f=r at hz2;cases r with
  | bad=>cases hz2
  | r x h' f' =>
  have hz3:qwh d e h f k S x h' f' (qg8 (ho h') 5000 (qis x++S) [])=DR.st e1 h1 f1 es:=hz2;generalize qg8 (ho h') 5000 (qis x++S) []=oS' at hz3;cases oS' with
  | none=>cases hz3
  | some S' =>
  have hz4:(bif qoz f (qt2 S S') then qko ⟨qg9 h h' S S',S++qt2 S S'⟩ (k (qmd e d x) (qt1 h (qg9 h h' S S')) f') else .bad)=DR.st e1 h1 f1 es:=hz3;cases hnw:qoz f (qt2 S S') with
  | false=>rw [hnw] at hz4;cases hz4
  | true =>
  rw [hnw,cond_true] at hz4;obtain ⟨es',hk2,_⟩:=qec hz4;exact hk _ _ _ _ (hg.diff (hc _ _ _ _ _ _ _ (hg.part S) hcc) (hm _ _ _ _ _ _ _ hcc)) hk2
 | .gd j want d i,e,h,f,es,hg,hz=>by
  have hz':q95 want d e h f k (qt3 call i k e h f) (Ty.get .any e j)=.st e1 h1 f1 es:=hz;unfold q95 at hz';split at hz'
  ·rename_i b hb;cases hbw:b == want with
   | true=>rw [hbw,cond_true] at hz';exact qqw hc hm hk i hg hz'
   | false=>rw [hbw,cond_false] at hz';obtain ⟨es',hk2,_⟩:=qec hz';exact hk _ _ _ _ hg hk2
  ·obtain ⟨es',hk2,_⟩:=qec hz';exact hk _ _ _ _ hg hk2
  ·cases hz'
 | .cpy tA x y d1 d2 d3,_,_,_,_,_,hz=>by cases hz
theorem qt9 {call:qf2} (hc:qhl call) (hm:∀v avs h f x h1 f1,call v avs h f=.r x h1 f1→f≤f1):∀(is:List IOp) {e:Ty AV} {h:Ty AO} {f:Nat} {e1:Ty AV} {h1:Ty AO} {f1:Nat} {es:List EvW},qk3 h f→q5p call is e h f=.st e1 h1 f1 es→qk3 h1 f1
 | [],_,_,_,_,_,_,_,hg,hz=>by cases hz;exact hg
 | i :: is,_,_,_,_,_,_,_,hg,hz=>qqw hc hm (k:=q5p call is) (fun e h f es hg hz=>qt9 hc hm is hg hz) i hg hz
end Go.Ab
namespace Go.Ab
open Go
set_option linter.constructorNameAsVariable false
variable {P:Program} {C:Cx} {Q:Exit→St→Prop} {st:St}
def qlq (ih:qim):Prop:=∀(N:Nat) (c:Code) (e:Ty AV) (h:Ty AO) (f:Nat) (ex:Exit) (e1:Ty AV) (h1:Ty AO) (f1:Nat),ih N c e h f=.r ex e1 h1 f1→f≤f1
theorem q50 {e:Ty AV} {h:Ty AO} {f:Nat} {rs:List ResultVar} {x:AV} {h1:Ty AO} {f1:Nat} (hz:rsK P e h f rs=.r x h1 f1):h1=h∧f1=f:=by
 unfold rsK at hz;split at hz <;> cases hz <;> exact ⟨rfl,rfl⟩
theorem qua {ext:Ext} {ih:qim} {k:FuncId} {avs:List AV} {h:Ty AO} {f:Nat} {x:AV} {h1:Ty AO} {f1:Nat} (hz:qo1 P ext ih k avs h f=.r x h1 f1):(h1=h∧f1=f)∨∃N c ex e1,ih N c (qm9 0 avs .e) h f=.r ex e1 h1 f1:=by
 unfold qo1 at hz;split at hz
 ·split at hz
  ·split at hz
   ·cases hz;exact .inl ⟨rfl,rfl⟩
   ·cases hz
  ·cases hz
 ·cases hc:q5s P k with
  | bad=>rw [hc] at hz;cases hz
  | r N c rs =>
   rw [hc] at hz;have hz':(bif vh4 avs.length N && vh4 1000 f then vaa P rs (ih N c (qm9 0 avs .e) h f) else .bad)=KR.r x h1 f1:=hz;cases hcc:vh4 avs.length N && vh4 1000 f with
   | false=>rw [hcc] at hz';cases hz'
   | true =>
   rw [hcc,cond_true] at hz';generalize hrun:ih N c (qm9 0 avs .e) h f=cr at hz';cases cr with
   | bad=>cases hz'
   | r ex e1 h2 f2 =>
    have hres:rsK P e1 h2 f2 rs=.r x h1 f1:=by cases ex <;> first | exact hz' | cases hz'
    obtain ⟨rfl,rfl⟩:=q50 hres;exact .inr ⟨N,c,ex,e1,hrun⟩
theorem qwk {ext:Ext} {ih:qim} {v:AV} {avs:List AV} {h:Ty AO} {f:Nat} {x:AV} {h1:Ty AO} {f1:Nat} (hz:qlp P ext ih v avs h f=.r x h1 f1):∃k cs,qjc v=some (k,cs)∧qo1 P ext ih k (avs++cs) h f=.r x h1 f1:=by
 unfold qlp at hz;split at hz
 ·exact ⟨_,_,rfl,hz⟩
 ·exact ⟨_,_,rfl,hz⟩
 ·cases hz
theorem qmp {ext:Ext} {ih:qim} (hm:qlq ih):∀v avs h f x h1 f1,qlp P ext ih v avs h f=.r x h1 f1→f≤f1:=by
 intro v avs h f x h1 f1 hz;obtain ⟨k,cs,_,hz⟩:=qwk hz;rcases qua hz with ⟨_,rfl⟩ | ⟨N,c,ex,e1,hr⟩
 ·exact vf9 _
 ·exact hm _ _ _ _ _ _ _ _ _ hr
theorem qqx {ext:Ext} {ih:qim} (hg:qjt ih):qhl (qlp P ext ih):=by
 intro v avs h f x h1 f1 hgd hz;obtain ⟨k,cs,_,hz⟩:=qwk hz;rcases qua hz with ⟨rfl,rfl⟩ | ⟨N,c,ex,e1,hr⟩
 ·exact hgd
 ·exact hg _ _ _ _ _ _ _ _ _ hgd hr
theorem q51 (hB:qx2 P) {ext:Ext} (hE:qz5 P ext) {ih:qim} (hi:qr4 P ih) (hgd:qjt ih):qkq P (qlp P ext ih):=by
 intro v avs h f x h1 f1 hl hf hge hz;obtain ⟨k,cs,hc,hz⟩:=qwk hz;exact ⟨k,cs,hc,qx4 hB hE hi hgd hl hf hge hz⟩
theorem qmq {k:Ty AV→Ty AO→Nat→CR} {r:CR} {ex:Exit} {e1:Ty AV} {h1:Ty AO} {f1:Nat} (hz:q98 k r=.r ex e1 h1 f1):(∃e h f,r=.r .normal e h f∧k e h f=.r ex e1 h1 f1)∨(r=.r ex e1 h1 f1∧ex≠.normal):=by
 cases r with
 | bad=>cases hz
 | r x e h f =>
  cases x with
  | normal=>exact .inl ⟨e,h,f,rfl,hz⟩
  | _=>refine .inr ⟨?_,?_⟩ <;> cases hz <;> first | rfl | exact fun h=>by cases h
theorem qo8 {id:Nat} {r:CR} {ex:Exit} {e1:Ty AV} {h1:Ty AO} {f1:Nat} (hz:q26 id r=.r ex e1 h1 f1):(r=.r (.exit id) e1 h1 f1∧ex=.normal)∨(r=.r ex e1 h1 f1∧ex≠.exit id):=by
 cases r with
 | bad=>cases hz
 | r x e h f =>
  cases x with
  | exit i =>
   have hz':(bif vh3 i id then CR.r .normal e h f else .r (.exit i) e h f)=.r ex e1 h1 f1:=hz;rw [qpo] at hz';by_cases hi:i=id
   ·subst hi;simp only [decide_true,cond_true] at hz';cases hz';exact .inl ⟨rfl,rfl⟩
   ·simp only [hi,decide_false,cond_false] at hz';cases hz';exact .inr ⟨rfl,fun h=>hi (by cases h;rfl)⟩
  | _=>refine .inr ⟨?_,?_⟩ <;> cases hz <;> first | rfl | exact fun h=>by cases h
theorem q3e {r:EZ} {ex:Exit} {e1:Ty AV} {h1:Ty AO} {f1:Nat} (hz:q27 r=.r ex e1 h1 f1):r=.st e1 h1 f1∧ex=.normal:=by
 cases r with
 | bad=>cases hz
 | st e h f=>cases hz;exact ⟨rfl,rfl⟩
theorem vaf {call:qf2} {ps:List (Nat×Nat)} {post:List IOp} {r:DR} {ex:Exit} {e1:Ty AV} {h1:Ty AO} {f1:Nat} (hz:q99 call ps post r=.r ex e1 h1 f1):∃e h f es,r=.st e h f es∧qlo es ps=true∧qx1 call post e h f=.st e1 h1 f1∧ex=.normal:=by
 cases r with
 | bad=>cases hz
 | st e h f es =>
  have hz':(bif qlo es ps then q27 (qx1 call post e h f) else .bad)=CR.r ex e1 h1 f1:=hz;cases hp:qlo es ps with
  | false=>rw [hp] at hz';cases hz'
  | true =>
   rw [hp,cond_true] at hz';obtain ⟨q1,q2⟩:=q3e hz';exact ⟨e,h,f,es,rfl,hp,q1,q2⟩
structure CodeAll (P:Program) (ih:qim):Prop where
 mono:qlq ih
 good:qjt ih
 ok:qr4 P ih
theorem qsa {N id:Nat} {l:Array Oper} {d:Bool} {ext:Ext} {ih:qim} {e:Ty AV} {h:Ty AO} {f:Nat} {ex:Exit} {e1:Ty AV} {h1:Ty AO} {f1:Nat} (hz:qz4 P ext ih N (.region id l d) e h f=.r ex e1 h1 f1) :
  ex=.normal∧((d=false∧qx1 (qlp P ext ih) (qr2 P N l l.toList) e h f=.st e1 h1 f1) ∨
   (d=true∧qee l=true∧∃T e2 h2 f2 es,qov l T=true∧T≤l.size∧q5p (qlp P ext ih) ((l.toList.take T).map (qkn P N l)) e h f=.st e2 h2 f2 es∧qlo es (q25 l T)=true ∧
    qx1 (qlp P ext ih) ((l.toList.drop T).map (qkn P N l)) e2 h2 f2=.st e1 h1 f1)):=by
 cases d with
 | false =>
  have hz':q27 (qx1 (qlp P ext ih) (qr2 P N l l.toList) e h f)=.r ex e1 h1 f1:=hz;obtain ⟨q1,q2⟩:=q3e hz';exact ⟨q2,.inl ⟨rfl,q1⟩⟩
 | true =>
  generalize hT:q96 l l.size 0=T at hz;have hcomp:vda P N (.region id l true)=q97 P N l T:=by rw [←hT];rfl
  unfold qz4 at hz;rw [hcomp] at hz;unfold q97 at hz;cases hc:qee l && (qov l T && vh4 T l.size) with
  | false=>rw [hc] at hz;cases hz
  | true =>
   rw [hc,cond_true] at hz;simp only [veg] at hc;have hz':q99 (qlp P ext ih) (q25 l T) ((l.toList.drop T).map (qkn P N l)) (q5p (qlp P ext ih) ((l.toList.take T).map (qkn P N l)) e h f)=.r ex e1 h1 f1:=hz;obtain ⟨e2,h2,f2,es,q1,q2,q3,q4⟩:=vaf hz';exact ⟨q4,.inr ⟨rfl,hc.1,T,e2,h2,f2,es,hc.2.1,vix hc.2.2,q1,q2,q3⟩⟩
theorem qz6 {ext:Ext} {ih:qim} (hm:qlq ih):qlq (qz4 P ext ih):=by
 intro N c e h f ex e1 h1 f1 hz;have hcm:=qmp (P:=P) (ext:=ext) hm;cases c with
 | skip=>cases hz;exact vf9 _
 | ret=>cases hz;exact vf9 _
 | exit id=>cases hz;exact vf9 _
 | seq a b =>
  rcases qmq (k:=fun e h f=>ih N b e h f) (r:=ih N a e h f) hz with ⟨e2,h2,f2,q1,q2⟩ | ⟨q1,_⟩
  ·exact vgb (hm _ _ _ _ _ _ _ _ _ q1) (hm _ _ _ _ _ _ _ _ _ q2)
  ·exact hm _ _ _ _ _ _ _ _ _ q1
 | cond x a b =>
  have hz':qo0 (vo e (opd x)) (ih N a e h f) (ih N b e h f)=.r ex e1 h1 f1:=hz;unfold qo0 at hz';split at hz'
  ·rename_i t _;cases t
   ·exact hm _ _ _ _ _ _ _ _ _ hz'
   ·exact hm _ _ _ _ _ _ _ _ _ hz'
  ·cases hz'
 | block id b =>
  rcases qo8 (r:=ih N b e h f) hz with ⟨q1,_⟩ | ⟨q1,_⟩
  ·exact hm _ _ _ _ _ _ _ _ _ q1
  ·exact hm _ _ _ _ _ _ _ _ _ q1
 | loop b =>
  rcases qmq (k:=fun e h f=>ih N (.loop b) e h f) (r:=ih N b e h f) hz with ⟨e2,h2,f2,q1,q2⟩ | ⟨q1,_⟩
  ·exact vgb (hm _ _ _ _ _ _ _ _ _ q1) (hm _ _ _ _ _ _ _ _ _ q2)
  ·exact hm _ _ _ _ _ _ _ _ _ q1
 | region id l d =>
  obtain ⟨_,⟨_,q⟩ | ⟨_,_,T,e2,h2,f2,es,_,_,q1,_,q2⟩⟩:=qsa hz
  ·exact qo7 hcm _ q
  ·exact vgb (qt8 hcm _ q1) (qo7 hcm _ q2)
 | _=>cases hz
theorem qz7 {ext:Ext} {ih:qim} (hm:qlq ih) (hg:qjt ih):qjt (qz4 P ext ih):=by
 intro N c e h f ex e1 h1 f1 hgd hz;have hcm:=qmp (P:=P) (ext:=ext) hm;have hcg:=qqx (P:=P) (ext:=ext) hg;cases c with
 | skip=>cases hz;exact hgd
 | ret=>cases hz;exact hgd
 | exit id=>cases hz;exact hgd
 | seq a b =>
  rcases qmq (k:=fun e h f=>ih N b e h f) (r:=ih N a e h f) hz with ⟨e2,h2,f2,q1,q2⟩ | ⟨q1,_⟩
  ·exact hg _ _ _ _ _ _ _ _ _ (hg _ _ _ _ _ _ _ _ _ hgd q1) q2
  ·exact hg _ _ _ _ _ _ _ _ _ hgd q1
 | cond x a b =>
  have hz':qo0 (vo e (opd x)) (ih N a e h f) (ih N b e h f)=.r ex e1 h1 f1:=hz;unfold qo0 at hz';split at hz'
  ·rename_i t _;cases t
   ·exact hg _ _ _ _ _ _ _ _ _ hgd hz'
   ·exact hg _ _ _ _ _ _ _ _ _ hgd hz'
  ·cases hz'
 | block id b =>
  rcases qo8 (r:=ih N b e h f) hz with ⟨q1,_⟩ | ⟨q1,_⟩
  ·exact hg _ _ _ _ _ _ _ _ _ hgd q1
  ·exact hg _ _ _ _ _ _ _ _ _ hgd q1
 | loop b =>
  rcases qmq (k:=fun e h f=>ih N (.loop b) e h f) (r:=ih N b e h f) hz with ⟨e2,h2,f2,q1,q2⟩ | ⟨q1,_⟩
  ·exact hg _ _ _ _ _ _ _ _ _ (hg _ _ _ _ _ _ _ _ _ hgd q1) q2
  ·exact hg _ _ _ _ _ _ _ _ _ hgd q1
 | region id l d =>
  obtain ⟨_,⟨_,q⟩ | ⟨_,_,T,e2,h2,f2,es,_,_,q1,_,q2⟩⟩:=qsa hz
  ·exact qo4 hcg _ hgd q
  ·exact qo4 hcg _ (qt9 hcg hcm _ hgd q1) q2
 | _=>cases hz
theorem q3f (hB:qx2 P) (hmo:P.follows .mixedOrders=true) {ext:Ext} (hE:qz5 P ext) (n:Nat):CodeAll P (qkp P ext n):=by
 induction n using vh8 with
 | _ n ihs =>
 cases n with
 | zero =>
  refine ⟨?_,?_,?_⟩
  ·intro N c e h f ex e1 h1 f1 hz;cases hz
  ·intro N c e h f ex e1 h1 f1 _ hz;cases hz
  ·intro C c e h f ex e1 h1 f1 st Q _ _ hz;cases hz
 | succ n =>
  obtain ⟨hm,hg,hi⟩:=ihs n (vgd n);refine ⟨qz6 (P:=P) (ext:=ext) hm,qz7 (P:=P) (ext:=ext) hm hg,?_⟩;have hcm:=qmp (P:=P) (ext:=ext) hm;have hcg:=qqx (P:=P) (ext:=ext) hg;have hco:=q51 hB hE hi hg;intro C c e h f ex e1 h1 f1 st Q hP hN hz hR hQ;have hz:qz4 P ext (qkp P ext n) C.N c e h f=.r ex e1 h1 f1:=hz;cases c with
  | skip=>cases hz;exact qri (hQ st hR)
  | ret=>cases hz;exact qrj (hQ st hR)
  | exit id=>cases hz;exact qxd (hQ st hR)
  | seq a b =>
   rcases qmq (k:=fun e h f=>qkp P ext n C.N b e h f) (r:=qkp P ext n C.N a e h f) hz with ⟨e2,h2,f2,q1,q2⟩ | ⟨q1,hne⟩
   ·exact qik (hi C a _ _ _ _ _ _ _ st _ hP hN q1 hR fun st1 hR1=>hi C b _ _ _ _ _ _ _ st1 Q hP hN q2 hR1 hQ)
   ·refine qik (hi C a _ _ _ _ _ _ _ st _ hP hN q1 hR fun st1 hR1=>?_);have:=hQ st1 hR1;cases ex <;> first | exact (hne rfl).elim | exact this
  | cond x a b =>
   have hz':qo0 (vo e (opd x)) (qkp P ext n C.N a e h f) (qkp P ext n C.N b e h f)=.r ex e1 h1 f1:=hz;unfold qo0 at hz';split at hz'
   ·rename_i t ht;rw [qdi,hR.evf] at ht;refine qrk ht (fun hh=>?_) fun hh=>?_
    ·subst hh;exact hi C a _ _ _ _ _ _ _ st Q hP hN hz' hR hQ
    ·subst hh;exact hi C b _ _ _ _ _ _ _ st Q hP hN hz' hR hQ
   ·cases hz'
  | block id b =>
   rcases qo8 (r:=qkp P ext n C.N b e h f) hz with ⟨q1,rfl⟩ | ⟨q1,hne⟩
   ·refine qn9 (hi C b _ _ _ _ _ _ _ st _ hP hN q1 hR fun st1 hR1=>?_);simp only [qi5,if_true];exact hQ st1 hR1
   ·refine qn9 (hi C b _ _ _ _ _ _ _ st _ hP hN q1 hR fun st1 hR1=>?_);have:=hQ st1 hR1;cases ex with
    | exit i =>
     simp only [qi5];rw [if_neg (fun h=>hne (by rw [h]))];exact this
    | _=>exact this
  | loop b =>
   have key:∀m,m≤n+1→∀e h f st,qkp P ext m C.N (.loop b) e h f=.r ex e1 h1 f1→RepV e h f st→∀inj a w,SR C st inj a w→Code.rounds C.P b (q4h C Q) m a w:=by
    intro m
    induction m with
    | zero=>intro _ e h f st h;cases h
    | succ m ihm =>
     intro hmn e h f st hz hR inj a w hs;have hi':qr4 P (qkp P ext m):=(ihs m (by omega)).ok;rw [rounds_succ];rcases qmq (k:=fun e h f=>qkp P ext m C.N (.loop b) e h f) (r:=qkp P ext m C.N b e h f) hz with ⟨e2,h2,f2,q1,q2⟩ | ⟨q1,hne⟩
     ·refine wp_mono (hi' C b _ _ _ _ _ _ _ st (fun e s=>e=.normal∧RepV e2 h2 f2 s) hP hN q1 hR (fun s hs=>⟨rfl,hs⟩) inj a w hs) ?_;rintro e' a' w' ⟨s,i,h2,rfl,h3⟩;exact ihm (by omega) _ _ _ s q2 h3 i a' w' h2
     ·refine wp_mono (hi' C b _ _ _ _ _ _ _ st (fun e s=>e=ex∧Q e s) hP hN q1 hR (fun s h=>⟨rfl,hQ s h⟩) inj a w hs) ?_;rintro e' a' w' ⟨s,i,h2,rfl,h3⟩;cases e' <;> first | exact (hne rfl).elim | exact ⟨s,i,h2,h3⟩
   intro inj a w hs;exact wp_loop_rounds (n+1) (key (n+1) (vf9 _) e h f st hz hR inj a w hs)
  | region id l d =>
   subst hP;have hl:l=l.toList.toArray:=by simp
   obtain ⟨rfl,⟨rfl,q⟩ | ⟨rfl,hsl,T,e2,h2,f2,es,hT1,hT2,q1,hpw,q2⟩⟩:=qsa hz
   ·have:=qgl (C:=C) (id:=id) (l:=l.toList) (q29 hco rfl hN (by rw [←hl];exact ILs.comp C.P C.N l _ l.toList (vf9 _)) hR q hQ);rw [←hl] at this;exact this
   ·obtain ⟨ms,st1,d1,d2,d3⟩:=q3d hco hcg hcm rfl hN (l.toList.take T) e h f st e2 h2 f2 es hR q1;have hlen:ms.length≤T:=by
     have:=(d1.chain 0 (fun j hj=>by
      rw [vfh] at hj;rw [ve9,if_pos (by omega)];simp)).1
     rw [this,vfh];omega
    have hev:=vae (ops:=l) hlen (by rw [d3];exact hpw);have:=qz0 (C:=C) T (id:=id) (l:=l.toList) (Q:=Q) hmo (by rw [←hl];exact hsl) (by simpa using hT2) (by rw [←hl];exact hT1) (by rw [←hl];exact d1) (by rw [←hl];exact hev)
     (q29 hco rfl hN (by rw [←hl];exact ILs.map C.P C.N l _) d2 q2 hQ)
    rw [←hl] at this;exact this
  | _=>cases hz
theorem q52 (hB : (P.funcs.all fun fn => !(fn.name == "runtime.NumGoroutine")) = true) (hmo : P.follows .mixedOrders = true) {ext : Ext} (hE : qz5 P ext) {n : Nat} {k : FuncId} {args : List PV} {x : AV} {h1 : Ty AO} {f1 : Nat} {r : PV} {D : Prop}
  (hz:qo1 P ext (qkp P ext n) k (args.map .p) .e 1000=.r x h1 f1) (hv:(qcn (fun _=>true) 9 x).run (ho h1)=some r):q4j D P k args r:=by
 obtain ⟨hm,hg,hi⟩:=q3f (qt4 hB) hmo hE n;obtain ⟨_,_,_,_,hW⟩:=qx4 (qt4 hB) hE hi hg ⟨[],vbg.symm⟩ (fun l _=>by rw [vbg];rfl) (vf9 _) hz;intro X w vs hX hT hargs;have hnoF:∀b,¬F (fun _=>none) (ho .e) b:=by
  rintro b ⟨l,c,o,h1,h2,_⟩;rw [vbg] at h1;simp only [qag] at h1;subst h1;cases h2
 have keep:Keeps X (fun b=>X b∨F (fun _=>none) (ho .e) b) w w:=⟨vf9 _,fun _ _ _=>rfl,fun b _ hx hn=>hn.elim hx (hnoF b)⟩;have hr:HR X (fun _=>none) (ho .e) w:=by
  refine ⟨fun l o ho'=>?_,fun l l' o o' b c c' h1 h2 h3=>?_,hX⟩
  ·rw [vbg] at ho';simp only [qag] at ho';subst ho';trivial
  ·rw [vbg] at h1;simp only [qag] at h1;subst h1;cases h3
 refine (hW D X (fun _=>none) w vs hr (hT.keep keep) (qav.2 (PRs.keep keep args vs hargs))).mono ?_;rintro e w' ⟨val,rfl,inj',q1,q2,q3⟩;refine ⟨val,rfl,?_,⟨q2.os,q2.tape,q2.output,q2.dr,q2.size,q2.fz,fun b hb=>q2.blk b hb (hnoF b)⟩⟩;have:=qcs q1 (fun _=>true) 9 x val r q3 hv;exact PR.keep ⟨vf9 _,fun _ _ _=>rfl,fun b _ hx hn=>hx (.inl hn)⟩ r val this
end Go.Ab
namespace Go.Ab
open Go
def vag:KR→Bool
 | .r (.p (.bool true)) ..=>true
 | _=>false
theorem qsb {P : Program} {D : Prop} {ext : Ext} {n : Nat} {k : FuncId} (hB : (P.funcs.all fun fn => !(fn.name == "runtime.NumGoroutine")) = true) (hmo : P.follows .mixedOrders = true) (hE : qz5 P ext)
  (h:vag (qo1 P ext (qkp P ext n) k [] .e 1000)=true):q4j D P k [] (.bool true):=by
 generalize hz:qo1 P ext (qkp P ext n) k [] .e 1000=z at h;unfold vag at h;split at h
 ·rename_i h1 f1;exact q52 hB hmo hE (args:=[]) hz rfl
 ·cases h
end Go.Ab
namespace Go.Ab
open Go
variable {C:Cx} {Q:Exit→St→Prop} {st:St}
def isSl:AV→Bool
 | .p (.slc _)=>true
 | .nils=>true
 | .own _ _ _ _=>true
 | _=>false
theorem q53 (es:List PV):isSl (.p (.slc es))=true:=rfl
theorem q3g:isSl .nils=true:=rfl
theorem q54 (l g off len:Nat):isSl (.own l g off len)=true:=rfl
attribute [go_sem] q53 q3g q54
def isInt:AV→Bool
 | .p (.int _ _)=>true
 | _=>false
theorem q3h (k:IntKind) (n:Int):isInt (.p (.int k n))=true:=rfl
def vdd:AV→Bool
 | .p p=>q7l p
 | _=>false
theorem q3i (k:IntKind) (n:Int):vdd (.p (.int k n))=true:=rfl
theorem qz8 (b:Bool):vdd (.p (.bool b))=true:=rfl
attribute [go_sem] q3h q3i qz8
end Go.Ab
namespace Go.Ab
open Go
section
variable {α β:Type} {h h' H0 rest:List (Nat×AO)} {f e sz G G' i:Nat} {enc:α→PV} {encV:β→PV} {ll:List (List α)} {vs:List (List β)}
def qjd (f e sz G:Nat) (enc:α→PV) (ll:List (List α)):List AV:=ll.mapIdx fun i x=>.agg [.own (fx f i) G 0 x.length,.nils]
def qkr (f e sz G:Nat) (enc:α→PV) (encV:β→PV) (vs:List (List β)) (ll:List (List α)):List AV:=ll.mapIdx fun i x=>.agg [.p (.slc (vhj encV (vs.getD i []))),.own (fx f i) G 0 x.length]
def vah (encV:β→PV) (vs:List (List β)):List AV:=vs.map fun x=>.agg [.p (.slc (vhj encV x)),.nils]
theorem qgy (i:Nat):(qjd f e sz G enc ll)[i]?=(ll[i]?).map fun x=>AV.agg [.own (fx f i) G 0 x.length,.nils]:=by simp [qjd,vis]
theorem qh9 (i:Nat):(qkr f e sz G enc encV vs ll)[i]?=(ll[i]?).map fun x=>AV.agg [.p (.slc (vhj encV (vs.getD i []))),.own (fx f i) G 0 x.length]:=by simp [qkr,vis]
theorem qeh:(qjd f e sz G enc ll).length=ll.length:=by simp [qjd]
theorem qfw:(qkr f e sz G enc encV vs ll).length=ll.length:=by simp [qkr]
theorem qsc:(vah encV vs).length=vs.length:=by simp [vah]
theorem q3j:qjd f e sz G enc []=[]:=rfl
theorem qfu {σ σ':Nat→AO} {a b a' b':AV}:LeV σ σ' (.agg [a,b]) (.agg [a',b'])=(LeV σ σ' a a'∧LeV σ σ' b b'):=by
 show (AV.isAgg (.agg [a,b])=true∧qgm σ σ' [a,b] [a',b'])=_;simp only [AV.isAgg,qgm,and_true,true_and]
theorem qlr {σ σ':Nat→AO} (x:PV):LeV σ σ' (.p x) (.p x):=by simp [LeV,qcn]
theorem qia {σ σ':Nat→AO}:LeV σ σ' .nils .nils:=rfl
theorem qub (h1:qeo h f e sz G enc ll) (h2:qeo h' f e sz G' enc ll):qgm (qag h) (qag h') (qjd f e sz G enc ll) (qjd f e sz G' enc ll)=True:=by
 rw [eq_iff_iff,iff_true];refine qgg (by rw [qeh,qeh]) fun j c c' hc hc'=>?_
 rw [qgy] at hc hc';cases hx:ll[j]? with
 | none=>rw [hx] at hc;cases hc
 | some x =>
  rw [hx] at hc hc';cases hc;cases hc';rw [qfu];exact ⟨qou (h1 j x hx) (h2 j x hx),qia⟩
theorem quc (h1:qeo h f e sz G enc ll) (h2:qeo h' f e sz G' enc ll):qgm (qag h) (qag h') (qkr f e sz G enc encV vs ll) (qkr f e sz G' enc encV vs ll)=True:=by
 rw [eq_iff_iff,iff_true];refine qgg (by rw [qfw,qfw]) fun j c c' hc hc'=>?_
 rw [qh9] at hc hc';cases hx:ll[j]? with
 | none=>rw [hx] at hc;cases hc
 | some x =>
  rw [hx] at hc hc';cases hc;cases hc';rw [qfu];exact ⟨qlr _,qou (h1 j x hx) (h2 j x hx)⟩
theorem qsd {y:List α} {g m:Nat} (h1:qgx h f i e sz G enc ll) (h2:qeo h' f e sz G enc (ll.set i y)) (hg:(qag h (fx f i)).gen=g) (ha:(qag h (fx f i)).alive=true) (hm:qzu m y) :
  qgm (qag h) (qag h') ((qjd f e sz G enc ll).set i (.agg [.own (fx f i) g 0 m,.nils])) (qjd f e sz G enc (ll.set i y))=True:=by
 rw [eq_iff_iff,iff_true];unfold qzu at hm;subst hm;refine qgg (by rw [vfg,qeh,qeh,vfg]) fun j c c' hc hc'=>?_
 rw [qgy] at hc';cases hx:(ll.set i y)[j]? with
 | none=>rw [hx] at hc';cases hc'
 | some x =>
  rw [hx] at hc';cases hc';have h3:=h2 j x hx;have hlt:j < ll.length:=by have:=(ve5.1 hx).1;simpa using this
  by_cases hj:j=i
  ·subst hj;rw [viu (by rw [qeh];exact hlt)] at hc;cases hc;rw [viu hlt] at hx;cases hx;rw [qfu];exact ⟨.inl ⟨by rw [hg],by rw [h3];rfl,by rw [h3];rfl,ha⟩,qia⟩
  ·rw [vit (fun e=>hj e.symm),qgy] at hc;rw [vit (fun e=>hj e.symm)] at hx;rw [hx] at hc;cases hc;rw [qfu];exact ⟨qou (h1 j x hj hx) h3,qia⟩
theorem qse {y:List α} {g m:Nat} {v:PV} (h1:qgx h f i e sz G enc ll) (h2:qeo h' f e sz G enc (ll.set i y)) (hg:(qag h (fx f i)).gen=g) (ha:(qag h (fx f i)).alive=true) (hm:qzu m y) (hv:v=.slc (vhj encV (vs.getD i []))) :
  qgm (qag h) (qag h') ((qkr f e sz G enc encV vs ll).set i (.agg [.p v,.own (fx f i) g 0 m])) (qkr f e sz G enc encV vs (ll.set i y))=True:=by
 rw [eq_iff_iff,iff_true];unfold qzu at hm;subst hm;subst hv;refine qgg (by rw [vfg,qfw,qfw,vfg]) fun j c c' hc hc'=>?_
 rw [qh9] at hc';cases hx:(ll.set i y)[j]? with
 | none=>rw [hx] at hc';cases hc'
 | some x =>
  rw [hx] at hc';cases hc';have h3:=h2 j x hx;have hlt:j < ll.length:=by have:=(ve5.1 hx).1;simpa using this
  by_cases hj:j=i
  ·subst hj;rw [viu (by rw [qfw];exact hlt)] at hc;cases hc;rw [viu hlt] at hx;cases hx;rw [qfu];exact ⟨qlr _,.inl ⟨by rw [hg],by rw [h3];rfl,by rw [h3];rfl,ha⟩⟩
  ·rw [vit (fun e=>hj e.symm),qh9] at hc;rw [vit (fun e=>hj e.symm)] at hx;rw [hx] at hc;cases hc;rw [qfu];exact ⟨qlr _,qou (h1 j x hj hx) h3⟩
theorem qp3 (h1:qeo h f e sz G enc ll) (h2:qeo h' f e sz G enc (ll++[[]])) (hd:(qag h (fx f ll.length)).alive=false) :
  qgm (qag h) (qag h') (qjd f e sz G enc ll++[.agg [.nils,.nils]]) (qjd f e sz G enc (ll++[[]]))=True:=by
 rw [eq_iff_iff,iff_true];refine qgg (by simp [qeh]) fun j c c' hc hc'=>?_
 rw [qgy] at hc';cases hx:(ll++[[]])[j]? with
 | none=>rw [hx] at hc';cases hc'
 | some x =>
  rw [hx] at hc';cases hc';have h3:=h2 j x hx;by_cases hj:j < ll.length
  ·rw [ve0 (by rw [qeh];exact hj),qgy] at hc;rw [ve0 hj] at hx;rw [hx] at hc;cases hc;rw [qfu];exact ⟨qou (h1 j x hx) h3,qia⟩
  ·have hjl:=(ve5.1 hx).1;simp only [vfb,viv] at hjl;have:j=ll.length:=by omega
   subst this;rw [ve1 (by rw [qeh];exact vf9 _),qeh,vib] at hc;cases hc;have hx':x=[]:=by
    rw [ve1 (vf9 _),vib] at hx;exact (vih hx).symm
   subst hx';rw [qfu];exact ⟨.inr ⟨rfl,rfl,rfl,hd,by rw [h3];rfl⟩,qia⟩
theorem q55 {x:List α} (h1:qag h (fx f i)=.arr e sz G (vhj AV.p (vhj enc x))) (hd:(qag h' (fx f i)).alive=false):LeV (qag h) (qag h') (.own (fx f i) G 0 x.length) (.p (.slc (vhj enc x))):=by
 show (qcn (fun l=>!(qag h' l).alive) 9 (.own (fx f i) G 0 x.length)).run (qag h)=some _;have hD:(!(qag h' (fx f i)).alive)=true:=by rw [hd];rfl
 simp only [qcn,hD,if_true,L.run_look,h1];rw [if_pos ⟨trivial,by simp⟩];rw [L.run_bind',List.drop_zero,vfz (by simp),qgo];rfl
theorem qsf (h1:qeo h f e sz G enc ll) (h2:qf1 h' f):qgm (qag h) (qag h') (qjd f e sz G enc ll) (vah enc ll)=True:=by
 rw [eq_iff_iff,iff_true];refine qgg (by rw [qeh,qsc]) fun j c c' hc hc'=>?_
 rw [qgy] at hc;cases hx:ll[j]? with
 | none=>rw [hx] at hc;cases hc
 | some x =>
  rw [hx] at hc;cases hc;rw [vah,ve6,hx] at hc';cases hc';rw [qfu];exact ⟨q55 (h1 j x hx) (h2 j),qia⟩
theorem qwl (hd:qf1 h f) (h2:qeo h' f e sz G enc (vfv vs.length [])):qgm (qag h) (qag h') (vah encV vs) (qkr f e sz G enc encV vs (vfv vs.length []))=True:=by
 rw [eq_iff_iff,iff_true];refine qgg (by rw [qsc,qfw,List.length_replicate]) fun j c c' hc hc'=>?_
 rw [qh9] at hc';cases hx:(vfv vs.length ([]:List α))[j]? with
 | none=>rw [hx] at hc';cases hc'
 | some x =>
  rw [hx] at hc';cases hc';have h3:=h2 j x hx;have hx':x=[]:=by
   rw [List.getElem?_replicate] at hx;split at hx
   ·exact (vih hx).symm
   ·cases hx
  subst hx';rw [vah,ve6] at hc;cases hv:vs[j]? with
  | none=>rw [hv] at hc;cases hc
  | some v =>
   rw [hv] at hc;cases hc;rw [qfu,vha,hv];exact ⟨qlr _,.inr ⟨rfl,rfl,rfl,hd j,by rw [h3];rfl⟩⟩
theorem qp4 {γ:Type} (encH:γ→PV) (mk:List β→List α→γ) (hmk:∀a b,encH (mk a b)=.agg [.slc (vhj encV a),.slc (vhj enc b)]) (hl:vs.length=ll.length) (h1:qeo h f e sz G enc ll) (h2:qf1 h' f) :
  qgm (qag h) (qag h') (qkr f e sz G enc encV vs ll) (vhj AV.p (vhj encH (List.zipWith mk vs ll)))=True:=by
 rw [eq_iff_iff,iff_true];refine qgg (by rw [qfw];simp [hl]) fun j c c' hc hc'=>?_
 rw [qh9] at hc;cases hx:ll[j]? with
 | none=>rw [hx] at hc;cases hc
 | some x =>
  rw [hx] at hc;cases hc;have hjl:=(ve5.1 hx).1;have hv:vs[j]?=some (vs.getD j []):=by rw [vha,ve3 (by omega)];rfl
  rw [ve6,ve6,List.getElem?_zipWith,hv,hx] at hc';simp only [vgq,vgr] at hc';subst hc';rw [hmk];show (qcn (fun l=>!(qag h' l).alive) 9 (.agg [.p (.slc (vhj encV (vs.getD j []))),.own (fx f j) G 0 x.length])).run (qag h)=_;have hv2:(qcn (fun l=>!(qag h' l).alive) 8 (.own (fx f j) G 0 x.length)).run (qag h)=some (.slc (vhj enc x)):=by
   have hD:(!(qag h' (fx f j)).alive)=true:=by rw [h2 j];rfl
   simp only [qcn,hD,if_true,L.run_look,h1 j x hx];rw [if_pos ⟨trivial,by simp⟩];rw [L.run_bind',List.drop_zero,vfz (by simp),qgo];rfl
  have hp:(qcn (fun l=>!(qag h' l).alive) 8 (.p (.slc (vhj encV (vs.getD j []))))).run (qag h)=some (.slc (vhj encV (vs.getD j []))):=rfl;show ((qai (qcn (fun l=>!(qag h' l).alive) 8) [.p (.slc (vhj encV (vs.getD j []))),.own (fx f j) G 0 x.length]).bind fun xs=>L.ret (PV.agg xs)).run (qag h)=_;simp only [qai,L.run_bind',hv2,hp];rfl
theorem qwm {γ:Type} {f:γ→PV} {x:List (List γ)} {y:List γ}:qv0 (vhj AV.p (vhj (qc1 f) x++[PV.slc (vhj f y)])) (qc1 f) (x++[y])=True:=by simp [qv0,qc1]
end
attribute [go_sem] qwm qgy qh9 qeh qfw qsc q3j qub quc qsd qse qp3 qsf qwl Nat.min_self List.length_zipWith
end Go.Ab
