/- An abstract logic for calls that only compute: what each operation does to values that are trees, and rules for walking a text. -/
import Derived.LoopN
import Derived.Lib.AppendZeros
import Derived.Test.YtfnmcjkkfnhpnaaGreatDoorA2
set_option linter.unusedVariables false
set_option linter.unusedSimpArgs false
open Array renaming getElem?_append→vpe,getElem?_eq_some_iff→vpf,getElem?_setIfInBounds_ne→vph
open Bool renaming and_eq_true→vpq,eq_false_iff→vsd,false_eq_true→vps,not_eq_true'→vpu
open Int renaming toNat_natCast→vtv
open List renaming cons_append→vso,getElem?_cons_succ→vss,getElem?_cons_zero→vst,getElem?_eq_some_iff→vqf,getElem?_map→vqg,getElem?_take→vqj,length_cons→vsv,length_drop→vqm,length_map→vqn,length_nil→vqo,length_replicate→vqp,length_take→vqr,map_congr_left→vs4,map_cons→vqt,mem_append→vqv,mem_append_left→vtw,mem_append_right→vtx,mem_cons→vty,mem_cons_of_mem→vs8,mem_cons_self→vs9,mem_filter→vta,mem_flatMap→vqw,mem_map→vtb,mem_of_mem_take→vqz,mem_range→vtc,mem_replicate→vq1,nil_append→vq2,range→vq3,replicate→vq5,size_toArray→vq6
open Nat renaming add→vtz,beq→vt0,ble→vt1,blt→vt2,le_of_ble_eq_true→vt3,le_of_succ_le→vt4,le_refl→vrj,le_succ_of_le→vt5,le_trans→vrl,lt_of_lt_of_le→vrm,lt_succ_self→vrn,lt_trichotomy→vtk,min_eq_left→vtm,strongRecOn→vtn,sub→vt6,sub_zero→vrt,succ→vt7,zero_add→vru,zero_le→vtq
open Option renaming bind_some→vrv
open Option.some renaming inj→vtu,injEq→vr1
open Go.Result renaming andThen_ok→vr3
open Go.Sem renaming run_bind→vr5,run_pure→vr6
noncomputable section
namespace Go.Ab
open Go Go.Shelf
structure InsK (P:Program) (k e:Nat):Prop where
 lay:∃ρ:Ren,InsLay P ρ∧ρ.f 22=k∧ρ.t 9=e
 body:HasBody P k
 zero:qa2 P e=some (.p (.int .i64 0))
 zlen:qb3.zeroLen P e=1
 cells:P.cellsOf e=1
 bytes:P.bytesOf e=8
variable {C:Cx} {st:St}
theorem yI {ops:Array Oper} {K:List Evt→St→Prop} {o:Oper} {f:Operand} {args:Array Operand} {ats:Array TypeId} {rest:List Oper} {acc:List Evt} {k e l g l2 g2:Nat}
  (S:InsK C.P k e) (zs:List Int) (i x:Int) (h0:0≤i) (h1:i≤((zs.length:Nat):Int)) (h2:zs.length≤1000000000)
  (h:DGo C ops rest ⟨qd7 st.env o.dst (.own l (g+1) 0 (qm3 zs i.toNat x).length),qw9 st.heap l (.arr e 1 (g+1) (((qm3 zs i.toNat x).map (PV.int .i64)).map AV.p))⟩
   (⟨.own l (g+1) 0 (qm3 zs i.toNat x).length,some (l,.arr e 1 (g+1) (((qm3 zs i.toNat x).map (PV.int .i64)).map AV.p)),[l,l2]⟩ :: acc) K)
  (ho:o.op=.call ⟨.value f,args,ats⟩:=by rfl) (hgd:qaq ops st.env o=some true:=by first | exact qbe rfl | exact qb4 rfl rfl (by exact rfl) (by exact rfl)) (hd:qba C.N o=true:=by rfl)
  (hc:qcg st.env f args.toList=some (k,[.own l g 0 zs.length,.p (.int .i64 i),.own l2 g2 0 1]):=by simp only [go_sem,seval, *];all_goals first | exact rfl | ((repeat' apply And.intro) <;> exact rfl))
  (hl:qcq st.heap l=.arr e 1 g ((zs.map (PV.int .i64)).map AV.p):=by simp only [go_sem,seval, *];all_goals exact rfl)
  (hl2:qcq st.heap l2=.arr e 1 g2 [.p (.int .i64 x)]:=by simp only [go_sem,seval, *];all_goals exact rfl)
  (hll:l≠l2:=by decide):DGo C ops (o :: rest) st acc K:=by
 obtain ⟨ρ,LY,rfl,rfl⟩:=S.lay;obtain ⟨n,rfl⟩:=Int.eq_ofNat_of_zero_le h0;have hn:n≤zs.length:=by omega
 have hlen:(qm3 zs ((n:Int)).toNat x).length=zs.length+1:=by rw [vtv];exact qo5 hn
 rw [hlen] at h;rw [vtv] at h;refine DGo.ext (q50 LY S.body S.zero S.zlen S.cells ho ?_ hl hl2 rfl hll hn ?_ (by omega)) hgd hd rfl ?_
 ·rw [qjl];exact hc
 ·simp only [qi9,S.bytes,decide_eq_true_eq];omega
 ·exact h
end Go.Ab
namespace Go.Ab
open Go
set_option linter.constructorNameAsVariable false
theorem quw (a b:Nat):vt0 a b=decide (a=b):=by
 by_cases h:a=b
 ·subst h;simp [Nat.beq_eq]
 ·simp only [h,decide_false];exact vsd.2 fun e=>h (Nat.eq_of_beq_eq_true e)
theorem nmod (a b:Nat):Nat.mod a b=a % b:=rfl
theorem ndiv (a b:Nat):Nat.div a b=a / b:=rfl
inductive Ps where
 | z | o (p:Ps) | i (p:Ps)
 deriving DecidableEq
def Ps.of:Nat→Nat→Ps
 | 0,_=>.z
 | f+1,k=>bif vt0 k 0 then .z else bif vt0 (Nat.mod k 2) 1 then .o (Ps.of f (Nat.div k 2)) else .i (Ps.of f (Nat.pred (Nat.div k 2)))
abbrev pth (k:Nat):Ps:=Ps.of (vt7 k) k
def Ps.num:Ps→Nat
 | .z=>0
 | .o p=>2 * p.num+1
 | .i p=>2 * p.num+2
theorem Ps.num_of:∀(f k:Nat),k < f→(Ps.of f k).num=k
 | 0,k,h=>by omega
 | f+1,k,h=>by
  simp only [Ps.of,quw,nmod,ndiv,Nat.pred_eq_sub_one,cond_eq_ite,decide_eq_true_eq];by_cases hk:k=0
  ·subst hk;rfl
  ·simp only [hk,if_false];by_cases hm:k % 2=1
   ·simp only [hm,if_true,Ps.num];rw [Ps.num_of f (k / 2) (by omega)];omega
   ·simp only [hm,if_false,Ps.num];rw [Ps.num_of f (k / 2 - 1) (by omega)];omega
theorem q8w {j k:Nat} (h:pth j=pth k):j=k:=by
 have h1:=Ps.num_of (j+1) j (by omega);have h2:=Ps.num_of (k+1) k (by omega);unfold pth at h;rw [←h1,←h2];exact congrArg Ps.num h
inductive Ty (α:Type) where
 | e
 | n (v:α) (l r:Ty α)
def Ty.get {α:Type} (d:α) (t:Ty α) (p:Ps):α :=
 @Ps.rec (fun _=>Ty α→α) (fun t=>@Ty.rec α (fun _=>α) d (fun v _ _ _ _=>v) t) (fun _ ih t=>@Ty.rec α (fun _=>α) d (fun _ l _ _ _=>ih l) t) (fun _ ih t=>@Ty.rec α (fun _=>α) d (fun _ _ r _ _=>ih r) t) p t
def Ty.set {α:Type} (d:α) (v:α) (t:Ty α) (p:Ps):Ty α :=
 @Ps.rec (fun _=>Ty α→Ty α) (fun t=>@Ty.rec α (fun _=>Ty α) (.n v .e .e) (fun _ l r _ _=>.n v l r) t) (fun _ ih t=>@Ty.rec α (fun _=>Ty α) (.n d (ih .e) .e) (fun w l r _ _=>.n w (ih l) r) t)
  (fun _ ih t=>@Ty.rec α (fun _=>Ty α) (.n d .e (ih .e)) (fun w l r _ _=>.n w l (ih r)) t) p t
theorem Ty.get_e {α:Type} (d:α) (p:Ps):Ty.get d .e p=d:=by cases p <;> rfl
theorem Ty.get_set {α:Type} (d v:α):∀(p:Ps) (t:Ty α) (q:Ps),Ty.get d (Ty.set d v t p) q=if p=q then v else Ty.get d t q
 | .z,t,q=>by
  cases t <;> cases q <;> simp <;> first | rfl | (rw [Ty.get_e];exact Ty.get_e d _)
 | .o p,t,q=>by
  have ih:=Ty.get_set d v p;cases t with
  | e=>cases q with
   | o q=>simp only [Ps.o.injEq,Ty.get_e];have:=ih .e q;rw [Ty.get_e] at this;exact this
   | z=>simp;rfl
   | i q=>simp only [reduceCtorEq,if_false,Ty.get_e];exact Ty.get_e d q
  | n w l r=>cases q with
   | o q=>simp only [Ps.o.injEq];exact ih l q
   | z=>simp;rfl
   | i q=>simp;rfl
 | .i p,t,q=>by
  have ih:=Ty.get_set d v p;cases t with
  | e=>cases q with
   | i q=>simp only [Ps.i.injEq,Ty.get_e];have:=ih .e q;rw [Ty.get_e] at this;exact this
   | z=>simp;rfl
   | o q=>simp only [reduceCtorEq,if_false,Ty.get_e];exact Ty.get_e d q
  | n w l r=>cases q with
   | i q=>simp only [Ps.i.injEq];exact ih r q
   | z=>simp;rfl
   | o q=>simp;rfl
def ho (h:Ty AO) (l:Nat):AO:=Ty.get (.dead 0) h (pth l)
def qxs (h:Ty AO) (l:Nat) (o:AO):Ty AO:=Ty.set (.dead 0) o h (pth l)
theorem qnj (h:Ty AO) (l:Nat) (o:AO):ho (qxs h l o)=qit (ho h) l o:=by
 funext k;unfold ho qxs qit;rw [Ty.get_set];by_cases hk:l=k
 ·subst hk;simp
 ·rw [if_neg (fun h=>hk (q8w h)),if_neg (Ne.symm hk)]
theorem vjs:ho .e=qcq []:=by funext l;exact Ty.get_e _ _
def eo (e:Ty AV) (t:Nat):AV:=Ty.get .any e (pth t)
theorem vez (e:Ty AV) (t:Nat) (v:AV):eo (Ty.set .any v e (pth t))=qkf (eo e) (some t) v:=by
 funext k;unfold eo qkf;rw [Ty.get_set];by_cases hk:t=k
 ·subst hk;simp
 ·rw [if_neg (fun h=>hk (q8w h)),if_neg (fun h=>hk (vtu h))]
mutual
def qqu:AV→List Nat
 | .own l _ _ _=>[l]
 | .loc l _ _ _=>[l]
 | .mapo l _=>[l]
 | .func _ cs=>qix cs
 | .agg cs=>qix cs
 | .tup cs=>qix cs
 | _=>[]
def qix:List AV→List Nat
 | []=>[]
 | v :: r=>qqu v++qix r
end
def qzs:AO→List Nat
 | .arr _ _ _ es=>qix es
 | .map _ ks vs=>qix ks++qix vs
 | .dead _=>[]
def q8x (l:Nat):List Nat→Bool
 | []=>false
 | k :: r=>bif vt0 k l then true else q8x l r
theorem qnk {l:Nat}:∀{s:List Nat},q8x l s=decide (l∈s)
 | []=>by simp [q8x]
 | k :: r=>by
  simp only [q8x,quw,qnk (s:=r),vty];by_cases h:k=l
  ·subst h;simp
  ·simp [h,Ne.symm h]
def qkj (σ:Nat→AO):Nat→List Nat→List Nat→Option (List Nat)
 | _,[],seen=>some seen
 | 0,_,_=>none
 | n+1,l :: todo,seen=>bif q8x l seen then qkj σ n todo seen else qkj σ n (qzs (σ l)++todo) (l :: seen)
theorem qn7 {σ:Nat→AO}:∀{n:Nat} {todo seen S:List Nat},qkj σ n todo seen=some S→(∀l∈seen,∀k∈qzs (σ l),k∈seen∨k∈todo) →
  (∀l∈seen,l∈S)∧(∀l∈todo,l∈S)∧∀l∈S,∀k∈qzs (σ l),k∈S
 | n,[],seen,S,h,hi=>by
  have:seen=S:=by cases n <;> simpa [qkj] using h
  subst this;exact ⟨fun _ h=>h,by simp,fun l hl k hk=>(hi l hl k hk).elim id (by simp)⟩
 | 0,_ :: _,_,_,h,_=>by cases h
 | n+1,l :: todo,seen,S,h,hi=>by
  simp only [qkj,qnk] at h;by_cases hl:l∈seen
  ·simp only [hl,decide_true,cond_true] at h;obtain ⟨h1,h2,h3⟩:=qn7 h fun j hj k hk=>(hi j hj k hk).elim .inl fun h=>by
    rcases vty.1 h with rfl | h
    ·exact .inl hl
    ·exact .inr h
   exact ⟨h1,fun j hj=>by
    rcases vty.1 hj with rfl | hj
    ·exact h1 _ hl
    ·exact h2 _ hj,h3⟩
  ·simp only [hl,decide_false,cond_false] at h;obtain ⟨h1,h2,h3⟩:=qn7 h fun j hj k hk=>by
    rcases vty.1 hj with rfl | hj
    ·exact .inr (vtw _ hk)
    ·rcases hi j hj k hk with h | h
     ·exact .inl (vs8 _ h)
     ·rcases vty.1 h with rfl | h
      ·exact .inl vs9
      ·exact .inr (vtx _ h)
   exact ⟨fun j hj=>h1 j (vs8 _ hj),fun j hj=>by
    rcases vty.1 hj with rfl | hj
    ·exact h1 _ vs9
    ·exact h2 _ (vtx _ hj),h3⟩
def q3p:Fn→Fn→Bool
 | .func f,.func f'=>vt0 f f'
 | _,_=>false
theorem qzt {f f':Fn} (h:q3p f f'=true):f=f':=by
 cases f <;> cases f' <;> simp only [q3p,quw,decide_eq_true_eq] at h <;> first | (rw [h];done) | cases h
mutual
def PV.same:PV→PV→Bool
 | .int k n,.int k' n'=>decide (k=k') && decide (n=n')
 | .bool a,.bool b=>a == b
 | .str s,.str s'=>decide (s=s')
 | .nilp,.nilp=>true
 | .nilf,.nilf=>true
 | .nili,.nili=>true
 | .nilm,.nilm=>true
 | .slc es,.slc es'=>PV.sames es es'
 | .nnil es,.nnil es'=>PV.sames es es'
 | .clip es,.clip es'=>PV.sames es es'
 | .imm es,.imm es'=>PV.sames es es'
 | .func f es,.func f' es'=>q3p f f' && PV.sames es es'
 | .agg es,.agg es'=>PV.sames es es'
 | .tup es,.tup es'=>PV.sames es es'
 | _,_=>false
def PV.sames:List PV→List PV→Bool
 | [],[]=>true
 | x :: xs,y :: ys=>PV.same x y && PV.sames xs ys
 | _,_=>false
end
mutual
theorem PV.same_eq:∀(x y:PV),PV.same x y=true→x=y
 | .int k n,y,h=>by cases y <;> simp_all [PV.same]
 | .bool a,y,h=>by cases y <;> simp_all [PV.same]
 | .str s,y,h=>by cases y <;> simp_all [PV.same]
 | .nilp,y,h=>by cases y <;> simp_all [PV.same]
 | .nilf,y,h=>by cases y <;> simp_all [PV.same]
 | .nili,y,h=>by cases y <;> simp_all [PV.same]
 | .nilm,y,h=>by cases y <;> simp_all [PV.same]
 | .slc es,y,h=>by cases y <;> simp only [PV.same] at h <;> first | (rw [PV.sames_eq _ _ h]) | cases h
 | .nnil es,y,h=>by cases y <;> simp only [PV.same] at h <;> first | (rw [PV.sames_eq _ _ h]) | cases h
 | .clip es,y,h=>by cases y <;> simp only [PV.same] at h <;> first | (rw [PV.sames_eq _ _ h]) | cases h
 | .imm es,y,h=>by cases y <;> simp only [PV.same] at h <;> first | (rw [PV.sames_eq _ _ h]) | cases h
 | .mapv ks vs,y,h=>by cases y <;> simp [PV.same] at h
 | .func f es,y,h=>by
  cases y <;> simp only [PV.same,vpq] at h <;> first | (rw [qzt h.1,PV.sames_eq _ _ h.2]) | cases h
 | .agg es,y,h=>by cases y <;> simp only [PV.same] at h <;> first | (rw [PV.sames_eq _ _ h]) | cases h
 | .tup es,y,h=>by cases y <;> simp only [PV.same] at h <;> first | (rw [PV.sames_eq _ _ h]) | cases h
theorem PV.sames_eq:∀(x y:List PV),PV.sames x y=true→x=y
 | [],[],_=>rfl
 | [],_ :: _,h=>by simp [PV.sames] at h
 | _ :: _,[],h=>by simp [PV.sames] at h
 | x :: xs,y :: ys,h=>by
  simp only [PV.sames,vpq] at h
  rw [PV.same_eq x y h.1,PV.sames_eq xs ys h.2]
end
mutual
def AV.same:AV→AV→Bool
 | .any,.any=>true
 | .p x,.p y=>PV.same x y
 | .nils,.nils=>true
 | .loc l g i o,.loc l' g' i' o'=>vt0 l l' && (vt0 g g' && (vt0 i i' && vt0 o o'))
 | .own l g i o,.own l' g' i' o'=>vt0 l l' && (vt0 g g' && (vt0 i i' && vt0 o o'))
 | .mapo l g,.mapo l' g'=>vt0 l l' && vt0 g g'
 | .func f es,.func f' es'=>q3p f f' && AV.sames es es'
 | .agg es,.agg es'=>AV.sames es es'
 | .tup es,.tup es'=>AV.sames es es'
 | _,_=>false
def AV.sames:List AV→List AV→Bool
 | [],[]=>true
 | x :: xs,y :: ys=>AV.same x y && AV.sames xs ys
 | _,_=>false
end
mutual
theorem AV.same_eq:∀(x y:AV),AV.same x y=true→x=y
 | .any,y,h=>by cases y <;> simp_all [AV.same]
 | .p x,y,h=>by cases y <;> simp only [AV.same] at h <;> first | (rw [PV.same_eq _ _ h]) | cases h
 | .nils,y,h=>by cases y <;> simp_all [AV.same]
 | .loc ..,y,h=>by cases y <;> simp_all [AV.same,quw]
 | .own ..,y,h=>by cases y <;> simp_all [AV.same,quw]
 | .mapo ..,y,h=>by cases y <;> simp_all [AV.same,quw]
 | .func f es,y,h=>by
  cases y <;> simp only [AV.same,vpq] at h <;> first | (rw [qzt h.1,AV.sames_eq _ _ h.2]) | cases h
 | .agg es,y,h=>by cases y <;> simp only [AV.same] at h <;> first | (rw [AV.sames_eq _ _ h]) | cases h
 | .tup es,y,h=>by cases y <;> simp only [AV.same] at h <;> first | (rw [AV.sames_eq _ _ h]) | cases h
theorem AV.sames_eq:∀(x y:List AV),AV.sames x y=true→x=y
 | [],[],_=>rfl
 | [],_ :: _,h=>by simp [AV.sames] at h
 | _ :: _,[],h=>by simp [AV.sames] at h
 | x :: xs,y :: ys,h=>by
  simp only [AV.sames,vpq] at h
  rw [AV.same_eq x y h.1,AV.sames_eq xs ys h.2]
end
def AO.same:AO→AO→Bool
 | .dead g,.dead g'=>vt0 g g'
 | .arr e sz g es,.arr e' sz' g' es'=>(vt0 e e' && vt0 sz sz') && (vt0 g g' && AV.sames es es')
 | .map g ks vs,.map g' ks' vs'=>vt0 g g' && (AV.sames ks ks' && AV.sames vs vs')
 | _,_=>false
theorem AO.same_eq {x y:AO} (h:AO.same x y=true):x=y:=by
 cases x <;> cases y <;> simp only [AO.same,vpq,quw,decide_eq_true_eq] at h <;> first | (cases h;done) | skip
 ·rw [h]
 ·rw [h.1.1,h.1.2,h.2.1,AV.sames_eq _ _ h.2.2]
 ·rw [h.1,AV.sames_eq _ _ h.2.1,AV.sames_eq _ _ h.2.2]
end Go.Ab
namespace Go.Ab
open Go
def ovr:List (Nat×AO)→(Nat→AO)→Nat→AO
 | [],σ,l=>σ l
 | (k,o) :: r,σ,l=>if k=l then o else ovr r σ l
def Upd.list:Upd→List (Nat×AO)
 | none=>[]
 | some p=>[p]
theorem qtm (u:Upd) (σ:Nat→AO):ovr (Upd.list u) σ=upd σ u:=by
 cases u with
 | none=>rfl
 | some p =>
  funext l;simp only [Upd.list,ovr,upd,qit];by_cases h:p.1=l
  ·rw [if_pos h,if_pos h.symm]
  ·rw [if_neg h,if_neg (Ne.symm h)]
theorem qsi (us:List (Nat×AO)) (h:List (Nat×AO)):qcq (us++h)=ovr us (qcq h):=by
 funext l
 induction us with
 | nil=>rfl
 | cons p r ih =>
  obtain ⟨k,o⟩:=p;simp only [vso,qcq,ovr,ih]
theorem qp1 {us:List (Nat×AO)} {σ:Nat→AO} {l:Nat} (h:l ∉ us.map (·.1)):ovr us σ l=σ l:=by
 induction us with
 | nil=>rfl
 | cons p r ih =>
  obtain ⟨k,o⟩:=p;simp only [vqt,vty,not_or] at h;simp only [ovr];rw [if_neg (Ne.symm h.1),ih h.2]
theorem q8y {us:List (Nat×AO)} {σ τ:Nat→AO} {l:Nat} (h:l∈us.map (·.1)):ovr us σ l=ovr us τ l:=by
 induction us with
 | nil=>cases h
 | cons p r ih =>
  obtain ⟨k,o⟩:=p;simp only [ovr];by_cases hk:k=l
  ·rw [if_pos hk,if_pos hk]
  ·rw [if_neg hk,if_neg hk];rcases vty.1 h with h | h
   ·exact absurd h.symm hk
   ·exact ih h
def OpM (P:Program) (o:Oper) (ρ:Operand→AV) (σ:Nat→AO) (v:AV) (us:List (Nat×AO)) (rs:List Nat):Prop :=
 ∀(D:Prop) (X:Nat→Prop) (ρ':Operand→AV) (σ':Nat→AO),(∀x∈o.op.operands,ρ' x=ρ x)→(∀l∈rs,σ' l=σ l) →
  ∀{inj:Inj} {w:World} {a:Act} {next:Act→World→Prop} {Q:Exit→Act→World→Prop},HR X inj σ' w→TabOk P (fun b=>X b∨F inj σ' b) w→(∀x,AR X inj σ' w (ρ' x) (a.eval x)) →
   (∀val w' inj',HR X inj' (ovr us σ') w'→Ev D X inj σ' w inj' (ovr us σ') w'→AR X inj' (ovr us σ') w' v val→next (a.put o.dst val) w')→o.wp P a w next Q
def vjt (D:Prop) (P:Program) (o:Oper) (ρ:Operand→AV) (σ:Nat→AO) (v:AV) (us:List (Nat×AO)) (rs:List Nat):Prop :=
 ∀(X:Nat→Prop) (ρ':Operand→AV) (σ':Nat→AO),(∀x∈o.op.operands,ρ' x=ρ x)→(∀l∈rs,σ' l=σ l) →
  ∀{inj:Inj} {w:World} {a:Act} {next:Act→World→Prop} {Q:Exit→Act→World→Prop},HR X inj σ' w→TabOk P (fun b=>X b∨F inj σ' b) w→(∀x,AR X inj σ' w (ρ' x) (a.eval x)) →
   (∀val w' inj',HR X inj' (ovr us σ') w'→Ev D X inj σ' w inj' (ovr us σ') w'→AR X inj' (ovr us σ') w' v val→next (a.put o.dst val) w')→o.wp P a w next Q
theorem OpM.md {D:Prop} {P:Program} {o:Oper} {ρ:Operand→AV} {σ:Nat→AO} {v:AV} {us:List (Nat×AO)} {rs:List Nat} (h:OpM P o ρ σ v us rs):vjt D P o ρ σ v us rs:=h D
theorem qtn {P:Program} {B:Nat} {o:Oper} {ρ:Operand→AV} {σ:Nat→AO} {v:AV} {u:Upd} (h:(aop P B ρ o).run σ=some (v,u)):OpM P o ρ σ v (Upd.list u) ((aop P B ρ o).reads σ):=by
 intro D X ρ' σ' hρ hσ inj w a next Q hr hT ha hn
 have hc:aop P B ρ' o=aop P B ρ o:=qs5 P B o hρ;obtain ⟨h1,_⟩:=L.frame _ h hσ;rw [←hc] at h1;refine q3a B o ρ' hr ha h1 fun val w' inj' k1 k2 k3=>?_
 rw [qtm] at hn;exact hn val w' inj' k1 k2.weak k3
theorem qto {P:Program} {o:Oper} {ρ:Operand→AV} {σ:Nat→AO} {v:AV}
  (h:∀(X:Nat→Prop) (ρ':Operand→AV) (σ':Nat→AO) (inj:Inj) (w:World) (a:Act),(∀x∈o.op.operands,ρ' x=ρ x)→(∀x,AR X inj σ' w (ρ' x) (a.eval x))→∃val,(execOp a.eval o).run P w=.ok (.value val) w∧AR X inj σ' w v val):OpM P o ρ σ v [] []:=by
 intro D X ρ' σ' hρ _ inj w a next Q hr hT ha hn
 obtain ⟨val,h1,h2⟩:=h X ρ' σ' inj w a hρ ha;unfold Oper.wp;rw [h1];exact hn val w inj hr (Ev.refl _ _ _ _) h2
variable {C:Cx} {Q:Exit→St→Prop} {st:St}
theorem q8z {ops:Array Oper} {o:Oper} {rest:List Oper} {v:AV} {us:List (Nat×AO)} {rs:List Nat} (hg:qaq ops st.env o=some true) (hd:qba C.N o=true)
  (hop:OpM C.P o (ev st.env) st.sig v us rs) (h:AL C ops rest Q ⟨qd7 st.env o.dst v,us++st.heap⟩):AL C ops (o :: rest) Q st:=by
 intro inj a w hs;simp only [wpList,qbm hs hg,if_true];refine .inl (hop C.D C.X (ev st.env) st.sig (fun _ _=>rfl) (fun _ _=>rfl) hs.hr (qnb hs.ev) (fun x=>hs.eval x) fun val w' inj' h1 h2 h3=>?_);refine h inj' _ _ ?_;have hput:=hs.put (o:=o) (u:=none) hd hs.hr (Ev.refl _ _ _ _) (v:=.any) (val:=val) trivial;have hsg:(St.mk (qd7 st.env o.dst v) (us++st.heap)).sig=ovr us st.sig:=qsi _ _;refine ⟨fun t=>?_,hput.size,hput.defers,by rw [hsg];exact h1,by rw [hsg];exact hs.ev.trans h2⟩;rw [hsg];cases hdst:o.dst with
 | none=>simpa [qd7,Act.put] using AR.ev h2 hs.hr.xlt _ _ (hs.env t)
 | some d =>
  simp only [qba,hdst,decide_eq_true_eq] at hd;simp only [qd7,Act.put,Env.get];by_cases ht:d=t
  ·subst ht;rw [if_pos rfl];have:(a.tmps.setIfInBounds d val).getD d undef=val:=by simp [hs.size,hd]
   rw [this];exact h3
  ·rw [if_neg ht];have:(a.tmps.setIfInBounds d val).getD t undef=a.tmps.getD t undef:=by simp [vph ht]
   rw [this];exact AR.ev h2 hs.hr.xlt _ _ (hs.env t)
def q51 (op:BinOp) (t:Bool):Option AV:=match op with
 | .eql=>some (.p (.bool t))
 | .neq=>some (.p (.bool (!t)))
 | _=>none
def q80 (x y:AV):Option Bool:=match x,y with
 | .loc ..,.p .nilp=>some false
 | .p .nilp,.p .nilp=>some true
 | _,_=>none
def qzu (P:Program) (t:TypeId):Bool:=match P.underlying t with
 | some (.pointer _)=>true
 | _=>false
def qlt (P:Program) (t:TypeId):Bool:=match P.underlying t with
 | some (.slice _)=>true
 | _=>false
theorem qtp {P:Program} {w:World} {op:BinOp} {t:TypeId} {x y:Value} {r:Bool} {v:AV} {ox oy:Operand} (hg:∀op:BinOp,(eqGuard op t ox oy x y).run P w=.ok () w)
  (he:(binOp .eql t x y).run P w=.ok (.bool r) w) (hn:(binOp .neq t x y).run P w=.ok (.bool (!r)) w) (h:q51 op r=some v) :
  ∃val,(do eqGuard op t ox oy x y;binOp op t x y:Sem Value).run P w=.ok val w∧∀X inj σ,AR X inj σ w v val:=by
 simp only [vr5,hg,vr3];unfold q51 at h;split at h
 ·cases h;exact ⟨_,he,fun _ _ _=>rfl⟩
 ·cases h;exact ⟨_,hn,fun _ _ _=>rfl⟩
 ·cases h
theorem q81 {P:Program} {t e:TypeId} (hu:P.underlying t=some (.pointer e)) (d:Nat) (b:Addr) (w:World):(Op.equalIn (d+1) t (.pointer (some b)) (.pointer none)).run P w=.ok false w:=by
 simp [Op.equalIn,run_underlying hu]
theorem q82 {P:Program} {t e:TypeId} (hu:P.underlying t=some (.pointer e)) (d:Nat) (w:World):(Op.equalIn (d+1) t (.pointer none) (.pointer none)).run P w=.ok true w:=by
 simp [Op.equalIn,run_underlying hu]
theorem vho {P:Program} {dst:Option Tmp} {op:BinOp} {t yt ty:TypeId} {x y:Operand} {pos:String} {af:Array Edge} {gd:Option (Nat×Bool)} {ρ:Operand→AV} {σ:Nat→AO} {v:AV} {r:Bool}
  (ht:qzu P t=true) (hr:q80 (ρ x) (ρ y)=some r) (hv:q51 op r=some v):OpM P ⟨dst,.binOp op t x y yt,ty,pos,af,gd⟩ ρ σ v [] []:=by
 refine qto fun X ρ' σ' inj w a hρ ha=>?_
 have hx:=ha x;have hy:=ha y;rw [hρ x (by simp [Op.operands])] at hx;rw [hρ y (by simp [Op.operands])] at hy;unfold qzu at ht;split at ht
 case h_2=>cases ht
 rename_i e hu;have key:∃val,(do eqGuard op t x y (a.eval x) (a.eval y);binOp op t (a.eval x) (a.eval y):Sem Value).run P w=.ok val w∧∀X inj σ,AR X inj σ w v val:=by
  unfold q80 at hr;split at hr
  ·rename_i l g i off h1 h2;rw [h1] at hx;rw [h2] at hy;obtain ⟨⟨b,hb⟩,_⟩:=hx;simp only [AR,PR] at hy;rw [hb,hy];cases hr;have hk:(Op.equal t (.pointer (some b)) (.pointer none)).run P w=.ok false w:=q81 hu 9999 b w;refine qtp (fun op=>by cases op <;> simp [eqGuard]) ?_ ?_ hv
   ·simp [binOp,hk]
   ·simp [binOp,hk]
  ·rename_i h1 h2;rw [h1] at hx;rw [h2] at hy;simp only [AR,PR] at hx hy;rw [hx,hy];cases hr;have hk:(Op.equal t (.pointer none) (.pointer none)).run P w=.ok true w:=q82 hu 9999 w;refine qtp (fun op=>by cases op <;> simp [eqGuard]) ?_ ?_ hv
   ·simp [binOp,hk]
   ·simp [binOp,hk]
  ·cases hr
 obtain ⟨val,h1,h2⟩:=key;refine ⟨val,?_,h2 _ _ _⟩;simp only [execOp,vr5];simp only [vr5] at h1;rw [h1];rfl
theorem vhp {P:Program} {dst:Option Tmp} {op:BinOp} {t yt ty:TypeId} {x y:Operand} {pos:String} {af:Array Edge} {gd:Option (Nat×Bool)} {ρ:Operand→AV} {σ:Nat→AO} {v:AV} {l g off len e sz:Nat} {es:List AV}
  (ht:qlt P t=true) (hx0:ρ x=.own l g off (len+1)) (hy0:ρ y=.nils) (ho:σ l=.arr e sz g es) (hv:q51 op false=some v):OpM P ⟨dst,.binOp op t x y yt,ty,pos,af,gd⟩ ρ σ v [] [l]:=by
 intro D X ρ' σ' hρ hσ inj w a next Q hr hT ha hn
 have hx:=ha x;have hy:=ha y;rw [hρ x (by simp [Op.operands]),hx0] at hx;rw [hρ y (by simp [Op.operands]),hy0] at hy;unfold qlt at ht;split at ht
 case h_2=>cases ht
 rename_i et hu;simp only [AR] at hy;obtain ⟨_,a2⟩:=hx;obtain ⟨_,a3⟩:=a2 _ ((hσ l (by simp)).trans ho);obtain ⟨a4,a5⟩:=a3 rfl _ _ _ rfl;have hval:∃aa n c,a.eval x=.slice (some aa) n c:=by
  rcases a5 with ⟨_,_,_,h0⟩ | ⟨b,c,aa,_,h1,h2,h3⟩
  ·omega
  ·rcases h3 with ⟨_,h3⟩ | h3
   ·omega
   ·exact ⟨_,_,_,by rw [h1,h3]⟩
 obtain ⟨aa,n,c,hval⟩:=hval;have key:∃val,(do eqGuard op t x y (a.eval x) (a.eval y);binOp op t (a.eval x) (a.eval y):Sem Value).run P w=.ok val w∧∀X inj σ,AR X inj σ w v val:=by
  rw [hval,hy];exact qtp (fun op=>by cases op <;> simp [eqGuard]) (Lib.run_eql_slice_nil w t et _ _ _ _ _ hu) (run_neq_slice_nil_any w t et _ _ _ _ _ hu) hv
 obtain ⟨val,h1,h2⟩:=key;have hrun:(execOp a.eval ⟨dst,.binOp op t x y yt,ty,pos,af,gd⟩).run P w=.ok (.value val) w:=by
  simp only [execOp,vr5];simp only [vr5] at h1;rw [h1];rfl
 unfold Oper.wp;rw [hrun];exact hn val w inj hr (Ev.refl _ _ _ _) (h2 _ _ _)
theorem vhq {P:Program} {dst:Option Tmp} {ty:TypeId} {x:Operand} {t:TypeId} {pos:String} {af:Array Edge} {gd:Option (Nat×Bool)} {ρ:Operand→AV} {σ:Nat→AO}
  (ht:qlt P t=true) (hx0:ρ x=.nils):OpM P ⟨dst,.call ⟨.builtin .cap,#[x],#[t]⟩,ty,pos,af,gd⟩ ρ σ (.p (.int .i64 0)) [] []:=by
 refine qto fun X ρ' σ' inj w a hρ ha=>?_
 have hx:=ha x;rw [hρ x (by simp [Op.operands,Call.operands]),hx0] at hx;simp only [AR] at hx;unfold qlt at ht;split at ht
 case h_2=>cases ht
 rename_i et hu;refine ⟨.int .i64 0,?_,rfl⟩;simp [execOp,resolve,invoke,builtin,hx,Builtin.cap_,goInt,run_underlying hu]
theorem vhr {P:Program} {dst:Option Tmp} {ty s d:TypeId} {x:Operand} {pos:String} {af:Array Edge} {gd:Option (Nat×Bool)} {ρ:Operand→AV} {σ:Nat→AO} {k kk:IntKind} {n:Nat}
  (hs:P.underlying s=some (.int kk)) (hd:P.underlying d=some .string) (hx0:ρ x=.p (.int k n)) (hn:n < 128):OpM P ⟨dst,.convert s d x,ty,pos,af,gd⟩ ρ σ (.p (.str [UInt8.ofNat n])) [] []:=by
 refine qto fun X ρ' σ' inj w a hρ ha=>?_
 have hx:=ha x;rw [hρ x (by simp [Op.operands]),hx0] at hx;simp only [AR,PR] at hx;refine ⟨.string ⟨#[UInt8.ofNat n]⟩,?_,rfl⟩;have h128:∀m:Fin 128,(Utf8.encode (m.val:Int)).data=#[UInt8.ofNat m.val]:=by decide +kernel
 have he:Utf8.encode (n:Int)=⟨#[UInt8.ofNat n]⟩:=by
  have:=h128 ⟨n,hn⟩;cases hb:Utf8.encode (n:Int) with
  | mk d=>rw [hb] at this;exact congrArg ByteArray.mk this
 simp [execOp,convert,run_underlying hs,run_underlying hd,hx,Conv.intToString,he]
end Go.Ab
namespace Go.Ab
open Go
theorem q52 {z:Value} (n:Nat):(Builtin.zeroCells z.cells n).toList=flat (vq5 n z):=qoo z n
theorem q83 {P:Program} {dst:Option Tmp} {ty t tn e:TypeId} {s x:Operand} {pos:String} {af:Array Edge} {gd:Option (Nat×Bool)} {ρ:Operand→AV} {σ:Nat→AO} {k:IntKind} {kn:IntKind} {n B:Nat} {z:AV}
  (ht:P.underlying t=some (.slice e)) (htn:P.underlying tn=some (.int kn)) (hs0:ρ s=.nils) (hx0:ρ x=.p (.int k n)) (hz:qa2 P e=some z) (hel:qd0 (P.cellsOf e) z=true) (hpos:0 < n) (hc:0 < P.cellsOf e)
  (hroom:qi9 P e n=true) (hl:qb3.zeroLen P e=P.cellsOf e) (hB:σ B=.dead 0) :
  OpM P ⟨dst,.call ⟨.builtin .append,#[s,x],#[t,tn]⟩,ty,pos,af,gd⟩ ρ σ (.own B 1 0 n) [(B,.arr e (P.cellsOf e) 1 (vq5 n z))] [B]:=by
 intro D X ρ' σ' hρ hσ inj w a next Q hr hT ha hn
 have hs:=ha s;have hx:=ha x;rw [hρ s (by simp [Op.operands,Call.operands]),hs0] at hs;rw [hρ x (by simp [Op.operands,Call.operands]),hx0] at hx;have ho:=(hσ B (by simp)).trans hB;simp only [AR,PR] at hs hx;simp only [qi9,decide_eq_true_eq] at hroom;obtain ⟨hby,h63⟩:=hroom;obtain ⟨i,z0,hi,hz0,hzl',his,hib⟩:=qox (P:=P) (e:=e) (by rw [hz];rfl);have hzv:z=ofV z0:=by
  unfold qa2 at hz;rw [hi] at hz;simpa [hz0] using hz.symm
 have hzr:∀X inj σ w,AR X inj σ w z z0:=fun X inj σ w=>by rw [hzv];exact qpk z0
 have hrun:=Lib.run_append_nil_zeros (P:=P) w t tn ty e i z0 k kn ht htn hi hz0 n hpos (by omega) (by omega) (by rw [hib];omega);have hge:=grownCap_ge w n 0 e;have hz1:z0.cells.size=P.cellsOf e:=by rw [←hzl'];exact hl
 have hars:∀m,ARs X inj σ' w (vq5 m z) (vq5 m z0):=fun m=>by
  induction m with
  | zero=>rfl
  | succ m ih=>exact ⟨z0,_,rfl,hzr _ _ _ _,ih⟩
 obtain ⟨_,hone⟩:=AR.cells_of (X:=X) (inj:=inj) (σ:=σ') (w:=w) (by
  have:=hel;unfold qd0 at this;simp only [vpq] at this;exact this.1) (hzr X inj σ' w)
 have hone2:qa0 (flat (vq5 n z0)):=by
  intro u hu;unfold flat at hu;obtain ⟨v,hv,hu⟩:=vqw.1 hu;rw [(vq1.1 hv).2] at hu;exact hone u hu
 have hall:=hr.alloc (D:=D) (l:=B) (g':=1) (e:=e) (sz:=P.cellsOf e) (es:=vq5 n z) (vs:=vq5 n z0) (w1:=w.drew) (c:=grownCap w n 0 e)
  (cur:=Builtin.zeroCells z0.cells n++Builtin.zeroCells z0.cells (grownCap w n 0 e - n)) (.inr rfl) (by rw [ho];exact vrn 0) (hars n) (fun v hv=>by rw [(vq1.1 hv).2];exact hz1) hone2
  (by simpa using hge) (grownCap_le_maxLen w _ 0 e (by simp only [maxLen];omega))
  (by
   simp only [Array.size_append,size_zeroCells];rw [hz1,←Nat.add_mul];congr 1;omega)
  (by
   simp only [Array.toList_append,vqp];rw [q52];refine List.take_left' ?_;rw [qa9 (sz:=P.cellsOf e) (fun v hv=>by rw [(vq1.1 hv).2];exact hz1),vqp])
 have hexec:(execOp a.eval ⟨dst,.call ⟨.builtin .append,#[s,x],#[t,tn]⟩,ty,pos,af,gd⟩).run P w=.ok (.value (.slice (some ⟨w.heap.size,0,none⟩) n (grownCap w n 0 e))) (w.drew.alloc (.cells (Builtin.zeroCells z0.cells n++Builtin.zeroCells z0.cells (grownCap w n 0 e - n)) e)):=by
  simp only [execOp,resolve,vr5,vr6,vr3,invoke,qk9];have:(#[s,x]:Array Operand).map a.eval=#[.slice none 0 0,.int k n]:=by simp [hs,hx]
  rw [this,hrun];simp
 unfold Oper.wp;rw [hexec];have hov:ovr [(B,.arr e (P.cellsOf e) 1 (vq5 n z))] σ'=qit σ' B (.arr e (P.cellsOf e) 1 (vq5 n z)):=by
  have:=qtm (some (B,.arr e (P.cellsOf e) 1 (vq5 n z))) σ';exact this
 rw [hov] at hn;refine hn _ _ _ hall.1 hall.2 ?_;exact qiu (inj:=fun j=>if j=B then some (w.heap.size,grownCap w n 0 e) else inj j) (qc3 _ _ _) (by simp) (by simp) hge
theorem HR.head {D:Prop} {X:Nat→Prop} {inj:Inj} {σ:Nat→AO} {w:World} {l e sz g len:Nat} {es:List AV} (h:HR X inj σ w) (ho:σ l=.arr e sz g es) (hl:len≤es.length) :
  HR X inj (qit σ l (.arr e sz (g+1) (es.take len))) w∧Ev D X inj σ w inj (qit σ l (.arr e sz (g+1) (es.take len))) w:=by
 have hup:=h.update (D:=D) (w':=w) (l:=l) (o:=.arr e sz g es) (o':=.arr e sz (g+1) (es.take len)) (x:=inj l) ho rfl rfl rfl (fun _=>vrj _) (vrj _) (fun _ _=>rfl) (fun _ _ _=>rfl)
  (fun b c hb=>.inr ⟨rfl,c,hb⟩) ⟨Nat.le_succ _,fun _ he=>by simp [AO.gen] at he⟩
 rw [ql9] at hup;obtain ⟨hev,hhr⟩:=hup;refine ⟨hhr ?_,hev⟩;obtain ⟨vs,o1,o2,o3,o4⟩:=(ho ▸ h.obj l _ rfl:OR X inj σ w l (.arr e sz g es));have hvl:=o1.length;refine ⟨vs.take len,ARs.ev hev h.xlt _ _ (o1.take len),fun v hv=>o2 v (vqz hv),?_,?_⟩
 ·rw [qhb len o2];intro v hv;exact o3 v (vqz hv)
 ·rcases o4 with ⟨p1,p2⟩ | ⟨b,c,cur,p1,p2,p3,p4,p5,p6,p7⟩
  ·exact .inl ⟨p1,by rw [p2];simp⟩
  ·refine .inr ⟨b,c,cur,p1,p2,p3,by rw [vqr];omega,p5,p6,?_⟩;rw [vqr,vtm hl,qhb len o2,←p7,List.take_take,vtm (Nat.mul_le_mul_right _ hl)]
theorem q14 {P:Program} {dst:Option Tmp} {ty t e sz:TypeId} {s x:Operand} {pos:String} {af:Array Edge} {gd:Option (Nat×Bool)} {ρ:Operand→AV} {σ:Nat→AO} {l g len B:Nat} {es:List AV} {r:AV} {up:Upd} {rs:List Nat}
  (hs0:ρ s=.own l g 0 len) (ho:σ l=.arr e sz g es) (hl:len≤es.length)
  (hr0:(qb3 P B t (.own l (g+1) 0 len) (ρ x)).run (qit σ l (.arr e sz (g+1) (es.take len)))=some (r,up)) (hrs:(qb3 P B t (.own l (g+1) 0 len) (ρ x)).reads (qit σ l (.arr e sz (g+1) (es.take len)))=rs) :
  OpM P ⟨dst,.call ⟨.builtin .append,#[s,x],#[t,t]⟩,ty,pos,af,gd⟩ ρ σ r (Upd.list up++[(l,.arr e sz (g+1) (es.take len))]) (l :: rs):=by
 intro D X ρ' σ' hρ hσ inj w a next Q hr hT ha hn
 have hs:=ha s;have hx:=ha x;rw [hρ s (by simp [Op.operands,Call.operands]),hs0] at hs;rw [hρ x (by simp [Op.operands,Call.operands])] at hx;have ho':=(hσ l (by simp)).trans ho;obtain ⟨h1,h2⟩:=hr.head (D:=D) ho' hl;have hs':AR X inj (qit σ' l (.arr e sz (g+1) (es.take len))) w (.own l (g+1) 0 len) (a.eval s):=by
  obtain ⟨a1,a2⟩:=hs;obtain ⟨_,a3⟩:=a2 _ ho';obtain ⟨a4,a5⟩:=a3 rfl _ _ _ rfl;refine ⟨a1,fun o hoo=>?_⟩;rw [qc3] at hoo;subst hoo;refine ⟨vrj _,fun _ e2 sz2 es2 he=>?_⟩;cases he;exact ⟨by rw [vqr];omega,a5⟩
 have hx':=AR.ev h2 hr.xlt _ _ hx;have hfr:(qb3 P B t (.own l (g+1) 0 len) (ρ x)).run (qit σ' l (.arr e sz (g+1) (es.take len)))=some (r,up):=by
  refine (L.frame _ hr0 fun k hk=>?_).1;rw [hrs] at hk;unfold qit;by_cases hkl:k=l
  ·rw [if_pos hkl,if_pos hkl]
  ·rw [if_neg hkl,if_neg hkl];exact hσ k (by simp [hk])
 obtain ⟨val,w',inj',q1,q2,q3,q4⟩:=qma (D:=D) (ty:=ty) h1 hs' hx' hfr;have hov:ovr (Upd.list up++[(l,.arr e sz (g+1) (es.take len))]) σ'=upd (qit σ' l (.arr e sz (g+1) (es.take len))) up:=by
  rw [←qtm];funext k;cases up with
  | none =>
   have:=congrFun (qtm (some (l,.arr e sz (g+1) (es.take len))) σ') k;exact this
  | some p =>
   have:=congrFun (qtm (some (l,.arr e sz (g+1) (es.take len))) σ') k;simp only [Upd.list,vso,vq2,ovr] at this ⊢;split
   ·rfl
   ·exact this
 have hexec:(execOp a.eval ⟨dst,.call ⟨.builtin .append,#[s,x],#[t,t]⟩,ty,pos,af,gd⟩).run P w=.ok (.value val) w':=by
  simp only [execOp,resolve,vr5,vr6,vr3,invoke,qk9];have:(#[s,x]:Array Operand).map a.eval=#[a.eval s,a.eval x]:=by simp
  rw [this,q1];simp
 unfold Oper.wp;rw [hexec];rw [hov] at hn;exact hn val w' inj' q2 (h2.trans q3) q4
end Go.Ab
namespace Go.Ab
open Go
variable {C:Cx} {Q:Exit→St→Prop} {st:St}
theorem q3q {X:Nat→Prop} {inj:Inj} {σ:Nat→AO} {w:World}:∀{L:List Int} {vs:List Value},ARs X inj σ w (L.map fun n=>.p (.int .i64 n)) vs→vs=L.map (Value.int .i64)
 | [],_,h=>h
 | n :: L,_,h=>by
  obtain ⟨v,r,rfl,h1,h2⟩:=h;simp only [AR,PR] at h1;rw [h1,q3q h2];rfl
theorem vmk {ops:Array Oper} {o1 o2 o3:Oper} {rest:List Oper} {tA te dT sT:TypeId} {x y:Operand} {d1 d2 l g:Nat} {c0 c1 c2:Int} {L:List Int}
  (h1:o1.op=.slice tA x none none none) (hd1:o1.dst=some d1) (h2:o2.op=.move y) (hd2:o2.dst=some d2) (h3:o3.op=.call ⟨.builtin .copy,#[.tmp d1,.tmp d2],#[dT,sT]⟩)
  (g1:o1.guard=none) (g2:o2.guard=none) (g3:o3.guard=none) (n1:qba C.N o1=true) (n2:qba C.N o2=true) (n3:qba C.N o3=true) (hne:d1≠d2)
  (hu:C.P.underlying tA=some (.array 3 te)) (hte:qmo C.P te=true) (hc:C.P.cellsOf te=1) (hdT:C.P.underlying dT=some (.slice te)) (hy:y≠.tmp d1)
  (hx:ev st.env x=.loc l g 0 0) (ho:qcq st.heap l=.arr tA 3 g [q05 c0 c1 c2]) (hyv:(qi8 (ev st.env y)).run st.sig=some (L.map fun n=>.p (.int .i64 n)))
  (h:AL C ops rest Q ⟨qd7 (qd7 (qd7 st.env o1.dst .any) o2.dst (ev st.env y)) o3.dst .any,qw9 st.heap l (.arr tA 3 g [q05 (L.getD 0 c0) (L.getD 1 c1) (L.getD 2 c2)])⟩):AL C ops (o1 :: o2 :: o3 :: rest) Q st:=by
 intro inj a w hs;have hg:∀(o:Oper) (st':St),o.guard=none→qaq ops st'.env o=some true:=fun o st' e=>by unfold qaq;rw [e]
 have hloc:=hs.eval x;rw [hx] at hloc;obtain ⟨_,a2⟩:=hloc;have hσ:st.sig l=.arr tA 3 g [q05 c0 c1 c2]:=ho;obtain ⟨_,a3⟩:=a2 _ hσ;obtain ⟨b,c,a4,hptr⟩:=a3 rfl tA 3 _ rfl;simp only [Nat.zero_mul,vru] at hptr
 -- the slice
 have r1:(Instr.sliceAt tA (a.eval x) none none none).run C.P w=.ok (.slice (some ⟨b,0,none⟩) 3 3) w:=by
  rw [hptr];simp [Instr.sliceAt,run_underlying hu,Instr.sureAddr,Instr.sliceBounds,qdz hte w,Addr.add_lit]
 simp only [wpList,qbm hs (hg o1 st g1),if_true];refine .inl ?_;obtain ⟨dst1,op1,ty1,pos1,af1,gd1⟩:=o1;simp only at h1 hd1;subst h1 hd1;refine qlp (s:=Instr.sliceAt tA (a.eval x) none none none) rfl r1 ?_;have hs1:=hs.put (o:=⟨some d1,.slice tA x none none none,ty1,pos1,af1,gd1⟩) (v:=.any) (val:=.slice (some ⟨b,0,none⟩) 3 3) (u:=none) n1 hs.hr (Ev.refl _ _ _ _) trivial;simp only [qm9] at hs1
 -- the source
 have hd1N:d1 < C.N:=by simpa [qba] using n1
 have e1:∀t,t≠d1→(a.put (some d1) (.slice (some ⟨b,0,none⟩) 3 3)).tmps.getD t undef=a.tmps.getD t undef:=fun t ht=>by
  simp [Act.put,vph (Ne.symm ht)]
 have hy1:ev (qd7 st.env (some d1) .any) y=ev st.env y:=by
  cases y with
  | tmp t =>
   have ht:t≠d1:=fun e=>hy (by rw [e])
   simp only [ev,qd7,Env.get];rw [if_neg (Ne.symm ht)]
  | const v=>rfl
  | global g=>rfl
  | func f=>rfl
 simp only [wpList,qbm hs1 (hg o2 _ g2),if_true];refine .inl ?_;obtain ⟨dst2,op2,ty2,pos2,af2,gd2⟩:=o2;simp only at h2 hd2;subst h2 hd2;have hsrc:=hs1.eval y;simp only at hsrc;rw [hy1] at hsrc;refine qlp (s:=pure ((a.put (some d1) (.slice (some ⟨b,0,none⟩) 3 3)).eval y)) (by simp [execOp]) (vr6 _ _ _) ?_;have hs2:=hs1.put (o:=⟨some d2,.move y,ty2,pos2,af2,gd2⟩) (v:=ev st.env y) (u:=none) n2 hs1.hr (Ev.refl _ _ _ _) hsrc;simp only [qm9] at hs2;obtain ⟨sa,cap,vs,hva,hcap,hvs,hsl⟩:=qkw hs1.hr hsrc hyv;have hvs':=q3q hvs;subst hvs';rw [vqn] at hva hcap;generalize hV:(a.put (some d1) (.slice (some ⟨b,0,none⟩) 3 3)).eval y=vy at *;subst hva
 -- the copy
 simp only [wpList,qbm hs2 (hg o3 _ g3),if_true];refine .inl ?_;obtain ⟨dst3,op3,ty3,pos3,af3,gd3⟩:=o3;simp only at h3;subst h3;have hd2N:d2 < C.N:=by simpa [qba] using n2
 have v1:((a.put (some d1) (.slice (some ⟨b,0,none⟩) 3 3)).put (some d2) (.slice sa L.length cap)).eval (.tmp d1)=.slice (some ⟨b,0,none⟩) 3 3:=by
  rw [qzq hne];exact qsh (by rw [hs.size];exact hd1N)
 have v2:((a.put (some d1) (.slice (some ⟨b,0,none⟩) 3 3)).put (some d2) (.slice sa L.length cap)).eval (.tmp d2)=.slice sa L.length cap:=qsh (by rw [hs1.size];exact hd2N);have key:∃(rv:Value) (w':World),(Builtin.copy_ #[dT,sT] ty3 #[.slice (some ⟨b,0,none⟩) 3 3,.slice sa L.length cap]).run C.P w=.ok rv w'∧HR C.X inj (upd st.sig (some (l,.arr tA 3 g [q05 (L.getD 0 c0) (L.getD 1 c1) (L.getD 2 c2)]))) w'∧Ev C.D C.X inj st.sig w inj (upd st.sig (some (l,.arr tA 3 g [q05 (L.getD 0 c0) (L.getD 1 c1) (L.getD 2 c2)]))) w':=by
  obtain ⟨inf,hinf⟩:=Option.isSome_iff_exists.1 hte;have hsize:inf.size=1:=by
   unfold Program.cellsOf at hc;rw [hinf] at hc;simpa using hc
  have hinfs:(C.P.info? te).map (·.size)=some 1:=by rw [hinf];simp [hsize]
  by_cases hL:L=[]
  ·subst hL;refine ⟨goInt 0,w,?_,?_,?_⟩
   ·exact run_copy_none w dT sT ty3 te _ _ _ _ _ _ hdT hinfs rfl
   ·have:=qsg hσ;simp only [List.getD_nil] at this ⊢;rw [this];exact hs.hr
   ·have:=qsg hσ;simp only [List.getD_nil] at this ⊢;rw [this];exact Ev.refl _ _ _ _
  ·obtain ⟨w',q1,q2,q3⟩:=qtk (D:=C.D) (P:=C.P) hs.hr hσ a4 (i:=0) (off:=0) (x:=q05 c0 c1 c2) rfl (qzp c0 c1 c2 L hL) (q8n (L.take 3) _ _ _ _);simp only [Nat.zero_mul,vru,List.set_cons_zero] at q1 q2 q3;refine ⟨goInt (Nat.min L.length 3),w',?_,q2,q3⟩;rcases hsl with hsl | ⟨sb,so,sz,rfl,hcs,hrow⟩
   ·exact absurd (by simpa using hsl) hL
   ·have hflat:flat (L.map (Value.int .i64))=L.map (Value.int .i64):=by
     unfold flat;rw [List.flatMap_map];have:∀l:List Int,(l.flatMap fun n=>(Value.int .i64 n).cells.toList)=l.map (Value.int .i64):=by
      intro l
      induction l with
      | nil=>rfl
      | cons n l ih=>rw [List.flatMap_cons,ih];rfl
     exact this L
    rw [hflat] at hrow;have hcl:((L.take 3).map (Value.int .i64)).length=Nat.min L.length 3:=by rw [vqn,vqr];exact Nat.min_comm _ _
    have hload:=run_loadCells_list (P:=C.P) w ⟨sb,so,none⟩ ((L.take 3).map (Value.int .i64)) (fun j v hv=>by
     rw [List.map_take,vqj] at hv;split at hv
     ·have:=hrow j v hv;simpa [Addr.add_lit] using this
     ·cases hv)
    rw [hcl] at hload;have hq1:(storeCells ⟨b,0,none⟩ (List.take 3 (L.map (Value.int .i64)))).run C.P w=.ok () w':=by
     rw [←List.map_take];exact q1
    simp [Builtin.copy_,run_underlying hdT,Builtin.lenOf,Builtin.firstCells,sizeOf,typeInfo,hinf,hsize,hload,hq1]
 obtain ⟨rv,w',k1,k2,k3⟩:=key;have hexec:(execOp ((a.put (some d1) (.slice (some ⟨b,0,none⟩) 3 3)).put (some d2) (.slice sa L.length cap)).eval ⟨dst3,.call ⟨.builtin .copy,#[.tmp d1,.tmp d2],#[dT,sT]⟩,ty3,pos3,af3,gd3⟩).run C.P w=.ok (Next.value rv) w':=by
  simp only [execOp,resolve,vr5,vr6,vr3,invoke,qrw];have:(#[Operand.tmp d1,Operand.tmp d2]:Array Operand).map ((a.put (some d1) (.slice (some ⟨b,0,none⟩) 3 3)).put (some d2) (.slice sa L.length cap)).eval=#[.slice (some ⟨b,0,none⟩) 3 3,.slice sa L.length cap]:=by
   simp [v1,v2]
  rw [this,k1];simp
 unfold Oper.wp;rw [hexec];simp only [Oper.upon];refine h inj _ _ ?_;have hs3:=hs2.put (o:=⟨dst3,.call ⟨.builtin .copy,#[.tmp d1,.tmp d2],#[dT,sT]⟩,ty3,pos3,af3,gd3⟩) (v:=.any) (val:=rv) (u:=some (l,.arr tA 3 g [q05 (L.getD 0 c0) (L.getD 1 c1) (L.getD 2 c2)])) n3 k2 k3 trivial;exact hs3
end Go.Ab
namespace Go.Ab
open Go
set_option linter.constructorNameAsVariable false
inductive Opd where
 | t (p:Ps)
 | c (v:AV)
def opd:Operand→Opd
 | .tmp t=>.t (pth t)
 | .const v=>.c (ofV v)
 | .func f=>.c (.p (.func (.func f) []))
 | .global _=>.c .any
def vo (e:Ty AV) (x:Opd):AV:=@Opd.rec (fun _=>AV) (fun p=>Ty.get .any e p) (fun v=>v) x
theorem qfa (e:Ty AV) (x:Operand):vo e (opd x)=evf (eo e) x:=by cases x <;> rfl
inductive Ry where
 | no
 | v (x:AV) (rs:List Nat)
 | w (x:AV) (l:Nat) (o:AO) (rs:List Nat)
 | new (x:AV) (o:AO) (rs:List Nat)
abbrev G:=Ty AV→Ty AO→Nat→Ry
def ve0 (h:Ty AO) (f:Nat):Prop:=∀l,f≤l→ho h l=.dead 0
def q53 (P:Program) (o:Oper) (e:Ty AV) (h:Ty AO) (f:Nat):Ry→Prop
 | .no=>True
 | .v x rs=>OpM P o (evf (eo e)) (ho h) x [] rs
 | .w x l ob rs=>OpM P o (evf (eo e)) (ho h) x [(l,ob)] rs
 | .new x ob rs=>OpM P o (evf (eo e)) (ho h) x [(f,ob)] rs
def GOk (P:Program) (o:Oper) (g:G):Prop:=∀e h f,ve0 h f→o.dst.getD 0≤f→q53 P o e h f (g e h f)
def rdA (P:Program) (o:Oper) (e:Ty AV) (h:Ty AO) (f:Nat):List Nat:=(aop P (vt6 f (o.dst.getD 0)) (evf (eo e)) o).reads (ho h)
def ofA (P:Program) (o:Oper) (e:Ty AV) (h:Ty AO) (f:Nat) (r:Option (AV×Upd)):Ry:=match r with
 | some (x,some (l,ob))=>bif vt0 l f then .new x ob (rdA P o e h f) else .w x l ob (rdA P o e h f)
 | some (x,none)=>.v x (rdA P o e h f)
 | none=>.no
theorem ve1 {P:Program} {o:Oper} {e:Ty AV} {h:Ty AO} {f:Nat} {r:Option (AV×Upd)} (hr:∀y,r=some y→(aop P (vt6 f (o.dst.getD 0)) (evf (eo e)) o).run (ho h)=some y):q53 P o e h f (ofA P o e h f r):=by
 unfold ofA;split
 ·rename_i x l ob;have:=qtn (hr _ rfl);rw [quw];by_cases hl:l=f
  ·subst hl;simp only [decide_true,cond_true];exact this
  ·simp only [hl,decide_false,cond_false];exact this
 ·exact qtn (hr _ rfl)
 ·trivial
theorem vca {P:Program} {o:Oper} {e:Ty AV} {h:Ty AO} {f:Nat} {x:AV} (hr:(aop P (vt6 f (o.dst.getD 0)) (evf (eo e)) o).run (ho h)=some (x,none)):q53 P o e h f (.v x (rdA P o e h f)):=qtn hr
theorem wA_ok {P:Program} {o:Oper} {e:Ty AV} {h:Ty AO} {f:Nat} {x:AV} {l:Nat} {ob:AO} (hr:(aop P (vt6 f (o.dst.getD 0)) (evf (eo e)) o).run (ho h)=some (x,some (l,ob))):q53 P o e h f (.w x l ob (rdA P o e h f)):=qtn hr
theorem nA_ok {P:Program} {o:Oper} {e:Ty AV} {h:Ty AO} {f:Nat} {x:AV} {ob:AO} (hr:(aop P (vt6 f (o.dst.getD 0)) (evf (eo e)) o).run (ho h)=some (x,some (f,ob))):q53 P o e h f (.new x ob (rdA P o e h f)):=qtn hr
theorem vhs {o:Oper} {f:Nat} (h:o.dst.getD 0≤f):qhl (vt6 f (o.dst.getD 0)) o=f:=by
 unfold qhl;exact Nat.sub_add_cancel h
def gL (P:Program) (o:Oper) (m:Nat→(Operand→AV)→L (AV×Upd)):G:=fun e h f=>ofA P o e h f ((m (vt6 f (o.dst.getD 0)) (evf (eo e))).run (ho h))
theorem q15 {P:Program} {o:Oper} {m:Nat→(Operand→AV)→L (AV×Upd)} (hm:∀B ρ,aop P B ρ o=m B ρ):GOk P o (gL P o m):=fun e h f _ _=>ve1 fun y hy=>by rw [hm];exact hy
def nth {α:Type}:List α→Nat→Option α
 | [],_=>none
 | x :: r,k=>match k with
  | 0=>some x
  | k+1=>nth r k
theorem qp2 {α:Type}:∀(l:List α) (k:Nat),nth l k=l[k]?
 | [],k=>by simp [nth]
 | x :: r,0=>by simp [nth]
 | x :: r,k+1=>by simp [nth,qp2 r k]
section
variable (P:Program) (o:Oper)
def va1 (e:Ty AV) (h:Ty AO) (f:Nat) (r:Option AV):Ry:=match r with
 | some x=>.v x (rdA P o e h f)
 | none=>.no
theorem qnl {P:Program} {o:Oper} {e:Ty AV} {h:Ty AO} {f:Nat} {r:Option AV} (hr:∀x,r=some x→(aop P (vt6 f (o.dst.getD 0)) (evf (eo e)) o).run (ho h)=some (x,none)):q53 P o e h f (va1 P o e h f r):=by
 unfold va1;split
 ·exact vca (hr _ rfl)
 ·trivial
def q54 (x:Opd):G:=fun e h f=>.v (vo e x) (rdA P o e h f)
def vml (c a b:Opd):G:=fun e h f=>va1 P o e h f (match vo e c with
 | .p (.bool t)=>some (bif t then vo e a else vo e b)
 | _=>none)
def boxB (t:TypeId) (v:AV) (f:Nat) (rs:List Nat):Ry:=bif v.known then .new (.loc f 1 0 0) (.arr t v.cells.length 1 [v]) rs else .no
def gBox (t:TypeId) (x:Opd):G:=fun e h f=>boxB t (vo e x) f (rdA P o e h f)
def ve2 (t:TypeId) (z:AV):G:=fun e h f=>boxB t z f (rdA P o e h f)
def vht (n:Nat) (b:Bool) (x:AV) (off:Nat):Option AV :=
 bif b then (bif vt0 off 0 && (vt0 n x.cells.length && x.isAgg) then some x else bif vt1 (vtz off n) x.cells.length then some (qjw ((x.cells.drop off).take n)) else none)
 else nth x.cells off
def vmm (n:Nat) (b:Bool) (g i off:Nat) (ob:AO):Option AV:=match ob with
 | .arr _ _ g' es=>bif vt0 g g' then (match nth es i with
  | some x=>bif x.known then vht n b x off else none
  | none=>none) else none
 | _=>none
def vhu (n:Nat) (b:Bool) (a:AV) (h:Ty AO):Option AV:=match a with
 | .loc l g i off=>vmm n b g i off (ho h l)
 | .p (.imm cs)=>bif b then (bif vt1 n cs.length then some (qjw (((cs.map .p).drop 0).take n)) else none) else nth (cs.map .p) 0
 | _=>none
def vmn (n:Nat) (b:Bool) (x:Opd):G:=fun e h f=>va1 P o e h f (vhu n b (vo e x) h)
def ve3 (n:Nat) (l g i off:Nat) (v:AV) (rs:List Nat) (ob:AO):Ry:=match ob with
 | .arr e sz g' es=>bif vt0 g g' && vt0 v.cells.length n then (match nth es i with
  | some x=>(match qjz x off v with
   | some y=>.w .any l (.arr e sz g (es.set i y)) rs
   | none=>.no)
  | none=>.no) else .no
 | _=>.no
def ve4 (n:Nat) (a v:AV) (h:Ty AO) (rs:List Nat):Ry:=match a with
 | .loc l g i off=>ve3 n l g i off v rs (ho h l)
 | _=>.no
def q84 (n:Nat) (x y:Opd):G:=fun e h f=>ve4 n (vo e x) (vo e y) h (rdA P o e h f)
def vmo (P:Program) (op:BinOp) (t:TypeId):IntKind→Int→IntKind→Int→Option AV:=match op with
 | .add=>fun k a k' b=>bif decide (k=k') then some (.p (.int k (k.wrap (a+b)))) else none
 | .sub=>fun k a k' b=>bif decide (k=k') then some (.p (.int k (k.wrap (a - b)))) else none
 | .eql=>fun k a k' b=>bif decide (k=k') then some (.p (.bool (decide (a=b)))) else none
 | .neq=>fun k a k' b=>bif decide (k=k') then some (.p (.bool (!decide (a=b)))) else none
 | .lss=>fun k a k' b=>bif decide (k=k') then some (.p (.bool (decide (a < b)))) else none
 | .leq=>fun k a k' b=>bif decide (k=k') then some (.p (.bool (decide (a≤b)))) else none
 | .gtr=>fun k a k' b=>bif decide (k=k') then some (.p (.bool (decide (b < a)))) else none
 | .geq=>fun k a k' b=>bif decide (k=k') then some (.p (.bool (decide (b≤a)))) else none
 | op=>fun k a k' b=>vej P op t (.int k a) (.int k' b)
theorem vhv (P:Program) (op:BinOp) (t:TypeId) (k:IntKind) (a:Int) (k':IntKind) (b:Int):vmo P op t k a k' b=vej P op t (.int k a) (.int k' b):=by
 by_cases hk:k=k'
 ·subst hk;cases op <;> simp only [vmo,vej,vjl,decide_true,cond_true,if_true] <;> rfl
 ·cases op <;> simp only [vmo,vej,hk,decide_false,cond_false,if_false]
def own2 (op:BinOp) (g l:Nat) (ob:AO):Ry:=match ob with
 | .arr _ _ g' _=>bif vt0 g g' then (match q51 op false with
  | some v=>.v v [l]
  | none=>.no) else .no
 | _=>.no
def bin2 (op:BinOp) (t:TypeId) (pt st:Bool) (x y:AV) (e:Ty AV) (h:Ty AO) (f:Nat):Ry:=match vek P op t x y with
 | some v=>.v v (rdA P o e h f)
 | none=>bif pt then (match q80 x y with
   | some r=>(match q51 op r with
    | some v=>.v v []
    | none=>.no)
   | none=>.no)
  else bif st then (match x,y with
   | .own l g off (n+1),.nils=>own2 op g l (ho h l)
   | _,_=>.no) else .no
def bin1 (op:BinOp) (t:TypeId) (pt st:Bool) (fi:IntKind→Int→IntKind→Int→Option AV) (x y:AV) (e:Ty AV) (h:Ty AO) (f:Nat):Ry:=match x,y with
 | .p (.int k a),.p (.int k' b)=>va1 P o e h f (fi k a k' b)
 | x,y=>bin2 P o op t pt st x y e h f
def gBin (op:BinOp) (t:TypeId) (pt st:Bool) (fi:IntKind→Int→IntKind→Int→Option AV) (x y:Opd):G:=fun e h f=>bin1 P o op t pt st fi (vo e x) (vo e y) e h f
def ve5 (off:Nat) (x:Opd):G:=fun e h f=>va1 P o e h f (match vo e x with
 | .loc l g i k=>some (.loc l g i (vtz k off))
 | .p (.imm cs)=>some (.p (.imm (cs.drop off)))
 | _=>none)
def idx2 (sz' l g off len:Nat) (i:Int) (ob:AO):Option AV:=match ob,i with
 | .arr _ sz g' es,.ofNat i=>bif vt0 g g' && (vt0 sz sz' && vt2 i len) then some (.loc l g (vtz off i) 0) else none
 | _,_=>none
def idx1 (t:TypeId) (sz':Nat) (ok:Bool) (x i:AV) (h:Ty AO):Option AV:=match x,i with
 | .own l g off len,.p (.int _ i)=>bif ok then idx2 sz' l g off len i (ho h l) else none
 | x,.p (.int _ i)=>(qip P t x i).run (ho h)
 | _,_=>none
def gIdx (t:TypeId) (sz':Nat) (ok:Bool) (x i:Opd):G:=fun e h f=>va1 P o e h f (idx1 P t sz' ok (vo e x) (vo e i) h)
def gen2 (g len:Nat) (ob:AO):Option AV:=match ob with
 | .arr _ _ g' _=>bif vt0 g g' then some (.p (.int .i64 len)) else none
 | _=>none
def len1 (t:TypeId) (b:Bool) (x:AV) (h:Ty AO):Option AV:=match x with
 | .own l g off len=>bif b then gen2 g len (ho h l) else none
 | x=>(aop.lenT P t x).run (ho h)
def gLen (t:TypeId) (b:Bool) (x:Opd):G:=fun e h f=>va1 P o e h f (len1 P t b (vo e x) h)
def gExt (i:Nat) (x:Opd):G:=fun e h f=>va1 P o e h f (match vo e x with
 | .p (.tup vs)=>nth (vs.map .p) i
 | .tup vs=>nth vs i
 | _=>none)
def gNil (x:Opd):G:=fun e h f=>va1 P o e h f (vjm (vo e x))
def gCap (x:Opd):G:=fun e h f=>match vo e x with
 | .nils=>.v (.p (.int .i64 0)) []
 | _=>.no
def gChr (x:Opd):G:=fun e h f=>match vo e x with
 | .p (.int _ (.ofNat n))=>bif vt2 n 128 then .v (.p (.str [UInt8.ofNat n])) [] else .no
 | _=>.no
def appH (t:TypeId) (s x:AV) (h:Ty AO) (f:Nat):Ry:=match s with
 | .own l g 0 len=>(match ho h l with
  | .arr e sz g' es=>bif vt0 g g' && vt1 len es.length then (match (qb3 P f t (.own l (vt7 g) 0 len) x).run (qit (ho h) l (.arr e sz (vt7 g) (es.take len))) with
    | some (r,some (l',ob))=>bif vt0 l' l then .w r l ob (l :: (qb3 P f t (.own l (vt7 g) 0 len) x).reads (qit (ho h) l (.arr e sz (vt7 g) (es.take len)))) else .no
    | _=>.no) else .no
  | _=>.no)
 | _=>.no
def gApp (t:TypeId) (s x:Opd):G:=fun e h f=>match (qb3 P f t (vo e s) (vo e x)).run (ho h) with
 | some y=>ofA P o e h f (some y)
 | none=>appH P t (vo e s) (vo e x) h f
def q85 (t e':TypeId) (sz:Nat) (z:AV) (s x:Opd):G:=fun e h f=>match vo e s,vo e x with
 | .nils,.p (.int _ (.ofNat n))=>bif vt2 0 n && qi9 P e' n then .new (.own f 1 0 n) (.arr e' sz 1 (vq5 n z)) [f] else .no
 | _,_=>.no
end
end Go.Ab
namespace Go.Ab
open Go
set_option linter.constructorNameAsVariable false
variable {P:Program} {dst:Option Tmp} {ty:TypeId} {pos:String} {af:Array Edge} {gd:Option (Nat×Bool)}
theorem bleT {a b:Nat}:vt1 a b=true↔a≤b:=by rw [Nat.ble_eq]
theorem va2 {a b:Nat}:vt2 a b=true↔a < b:=by rw [Nat.blt_eq]
theorem vcb {x:Operand}:GOk P ⟨dst,.move x,ty,pos,af,gd⟩ (q54 P ⟨dst,.move x,ty,pos,af,gd⟩ (opd x)):=by
 intro e h f hf hd;unfold q54;rw [qfa];exact vca rfl
theorem q55 {x:Operand}:GOk P ⟨dst,.assign x,ty,pos,af,gd⟩ (q54 P ⟨dst,.assign x,ty,pos,af,gd⟩ (opd x)):=by
 intro e h f hf hd;unfold q54;rw [qfa];exact vca rfl
theorem vcc {c a b:Operand}:GOk P ⟨dst,.pick c a b,ty,pos,af,gd⟩ (vml P ⟨dst,.pick c a b,ty,pos,af,gd⟩ (opd c) (opd a) (opd b)):=by
 intro e h f hf hd;refine qnl fun x hx=>?_
 simp only [qfa] at hx;simp only [aop];split at hx
 ·rename_i t ht;cases hx;rw [ht];cases t <;> rfl
 ·cases hx
theorem q86 {o:Oper} {t:TypeId} {v:AV} {e:Ty AV} {h:Ty AO} {f:Nat} (hf:ve0 h f) (ha:aop P (vt6 f (o.dst.getD 0)) (evf (eo e)) o=vbb P f t v):q53 P o e h f (boxB t v f (rdA P o e h f)):=by
 unfold boxB;cases hk:v.known with
 | false=>trivial
 | true =>
  rw [cond_true];refine nA_ok ?_;rw [ha];unfold vbb;rw [hk];simp only [if_true,q61,L.run,hf f (vrj _)]
theorem vhw {t:TypeId} {x:Operand}:GOk P ⟨dst,.box t x,ty,pos,af,gd⟩ (gBox P ⟨dst,.box t x,ty,pos,af,gd⟩ t (opd x)):=by
 intro e h f hf hd;unfold gBox;rw [qfa];refine q86 hf ?_;simp only [aop];rw [vhs hd]
theorem q87 {t:TypeId} {z:AV} (hz:qa2 P t=some z) (hc:z.cells.length=P.cellsOf t):GOk P ⟨dst,.alloc t,ty,pos,af,gd⟩ (ve2 P ⟨dst,.alloc t,ty,pos,af,gd⟩ t z):=by
 intro e h f hf hd;refine q86 hf ?_;simp only [aop];rw [vhs hd,hz];simp only [hc,if_true]
theorem vcd {t:TypeId} {b:Bool} {x y:AV} {off:Nat} (hb:qaj P t=some b) (hk:x.known=true) (h:vht (P.cellsOf t) b x off=some y):qn1 P t x off=some y:=by
 unfold vht at h;unfold qn1 qu1;simp only [hk,Bool.not_true,vps,if_false,hb];cases b with
 | true =>
  simp only [cond_true,quw] at h;by_cases h1:off=0∧P.cellsOf t=x.cells.length∧x.isAgg=true
  ·simp only [h1.1,h1.2.1,h1.2.2,decide_true,Bool.and_true,cond_true,vr1] at h;rw [if_pos ⟨h1.1,rfl,h1.2.1,h1.2.2⟩,h]
  ·have h2:(decide (off=0) && (decide (P.cellsOf t=x.cells.length) && x.isAgg))=false:=by
    rw [vsd];intro hh;simp only [vpq,decide_eq_true_eq] at hh;exact h1 hh
   rw [h2,cond_false] at h;rw [if_neg (fun hh=>h1 ⟨hh.1,hh.2.2⟩)];simp only;by_cases h3:off+P.cellsOf t≤x.cells.length
   ·have:vt1 (vtz off (P.cellsOf t)) x.cells.length=true:=bleT.2 h3;rw [this,cond_true] at h;rw [if_pos h3];exact h
   ·have:vt1 (vtz off (P.cellsOf t)) x.cells.length=false:=vsd.2 fun hh=>h3 (bleT.1 hh)
    rw [this] at h;cases h
 | false =>
  rw [cond_false,qp2] at h;simp only [vr1,vps,false_and,and_false,if_false];exact h
theorem vce {t:TypeId} {b:Bool} {a y:AV} {h:Ty AO} (hb:qaj P t=some b) (hl:vhu (P.cellsOf t) b a h=some y):(qqw P t a).run (ho h)=some y:=by
 unfold vhu at hl;split at hl
 ·rename_i l g i off;unfold vmm at hl;simp only [qqw,L.run];split at hl
  ·rename_i e sz g' es hob;rw [hob];simp only;rw [quw] at hl;by_cases hg:g=g'
   ·subst hg;simp only [decide_true,cond_true] at hl;rw [if_pos rfl,←qp2];split at hl
    ·rename_i x hx;rw [hx];simp only;cases hk:x.known with
     | false=>rw [hk] at hl;cases hl
     | true =>
      rw [hk,cond_true] at hl;rw [vcd hb hk hl];rfl
    ·cases hl
   ·simp only [hg,decide_false,cond_false] at hl;cases hl
  ·cases hl
 ·rename_i cs;unfold qqw qu1;rw [hb];cases b with
  | true =>
   rw [cond_true] at hl;by_cases h3:P.cellsOf t≤cs.length
   ·have:vt1 (P.cellsOf t) cs.length=true:=bleT.2 h3;rw [this,cond_true] at hl;simp only [vru,vqn,h3,if_true,L.run];exact hl
   ·have:vt1 (P.cellsOf t) cs.length=false:=vsd.2 fun hh=>h3 (bleT.1 hh)
    rw [this] at hl;cases hl
  | false =>
   rw [cond_false,qp2] at hl;simp only;rw [hl];rfl
 ·cases hl
theorem vcf {t:TypeId} {b:Bool} {x:Operand} (hb:qaj P t=some b):GOk P ⟨dst,.load t x,ty,pos,af,gd⟩ (vmn P ⟨dst,.load t x,ty,pos,af,gd⟩ (P.cellsOf t) b (opd x)):=by
 intro e h f hf hd;refine qnl fun y hy=>?_
 rw [qfa] at hy;have:=vce hb hy;simp only [aop,qa1,L.run_bind',this,vrv,L.run_ret]
theorem q88 {t:TypeId} {b:Bool} {x y:Operand} (hb:qaj P t=some b):GOk P ⟨dst,.store t x y,ty,pos,af,gd⟩ (q84 P ⟨dst,.store t x y,ty,pos,af,gd⟩ (P.cellsOf t) (opd x) (opd y)):=by
 intro e h f hf hd;unfold q84;rw [qfa,qfa];unfold ve4;split
 ·rename_i l g i off hx;unfold ve3;split
  ·rename_i e1 sz g' es hob;cases hc:vt0 g g' && vt0 (evf (eo e) y).cells.length (P.cellsOf t) with
   | false=>trivial
   | true =>
    rw [cond_true];simp only [vpq,quw,decide_eq_true_eq] at hc;split
    ·rename_i z hz;split
     ·rename_i q hq;refine wA_ok ?_;rw [qp2] at hz;simp only [aop,hx,qsp,L.run,hob];rw [if_pos ⟨hc.1,hc.2,by rw [hb];rfl⟩,hz];simp only [hq,L.run]
     ·trivial
    ·trivial
  ·trivial
 ·trivial
theorem vhx {op:BinOp} {t yt:TypeId} {x y:Operand}:GOk P ⟨dst,.binOp op t x y yt,ty,pos,af,gd⟩ (gBin P ⟨dst,.binOp op t x y yt,ty,pos,af,gd⟩ op t (qzu P t) (qlt P t) (vmo P op t) (opd x) (opd y)):=by
 intro e h f hf hd;have hq:∀v,vek P op t (evf (eo e) x) (evf (eo e) y)=some v→(aop P (vt6 f (dst.getD 0)) (evf (eo e)) ⟨dst,.binOp op t x y yt,ty,pos,af,gd⟩).run (ho h)=some (v,none):=fun v hv=>by
  simp only [aop,qa1,L.run_bind',L.run_ofOpt,hv,vrv,L.run_ret]
 unfold gBin;rw [qfa,qfa];unfold bin1;split
 ·rename_i k a k' b h1 h2;refine qnl fun v hv=>hq v ?_
  rw [vhv] at hv;rw [h1,h2];unfold vek;simp only [PV.isAgg,Bool.and_false,vps,if_false];exact hv
 ·unfold bin2;split
  ·rename_i v hv;exact vca (hq v hv)
  ·cases hp:qzu P t with
   | true =>
    rw [cond_true];split
    ·rename_i r hr;split
     ·rename_i v hv;exact vho hp hr hv
     ·trivial
    ·trivial
   | false =>
    rw [cond_false];cases hs:qlt P t with
    | false=>trivial
    | true =>
     rw [cond_true];split
     ·rename_i l g off n h1 h2;unfold own2;split
      ·rename_i e1 sz g' es hob;rw [quw];by_cases hg:g=g'
       ·subst hg;simp only [decide_true,cond_true];split
        ·rename_i v hv;exact vhp hs h1 h2 hob hv
        ·trivial
       ·simp only [hg,decide_false,cond_false];trivial
      ·trivial
     ·trivial
theorem q89 {s:TypeId} {fd off:Nat} {x:Operand} (ho':qah P s fd=some off):GOk P ⟨dst,.fieldAddr s x fd,ty,pos,af,gd⟩ (ve5 P ⟨dst,.fieldAddr s x fd,ty,pos,af,gd⟩ off (opd x)):=by
 intro e h f hf hd;refine qnl fun v hv=>?_
 rw [qfa] at hv;simp only [aop,qa1,L.run_bind',L.run_ofOpt,qjr,ho'];split at hv
 ·rename_i l g i k hx;cases hv;rw [hx];rfl
 ·rename_i cs hx;cases hv;rw [hx];rfl
 ·cases hv
theorem q9a {t:TypeId} {sz:Nat} {ok:Bool} {x ix:Operand} (hok:ok=true→∃et,P.underlying t=some (.slice et)∧P.cellsOf et=sz∧qmo P et=true) :
  GOk P ⟨dst,.indexAddr t x ix,ty,pos,af,gd⟩ (gIdx P ⟨dst,.indexAddr t x ix,ty,pos,af,gd⟩ t sz ok (opd x) (opd ix)):=by
 intro e h f hf hd;refine qnl fun v hv=>?_
 rw [qfa,qfa] at hv;unfold idx1 at hv;split at hv
 ·rename_i l g off len k i hx hi;cases ok with
  | false=>cases hv
  | true =>
   rw [cond_true] at hv;obtain ⟨et,h1,h2,h3⟩:=hok rfl;unfold idx2 at hv;split at hv
   ·rename_i e1 sz1 g' es j hob;cases hc:vt0 g g' && (vt0 sz1 sz && vt2 j len) with
    | false=>rw [hc] at hv;cases hv
    | true =>
     rw [hc,cond_true] at hv;simp only [vpq,quw,decide_eq_true_eq] at hc;obtain ⟨c1,c2,c3⟩:=hc;have c3:j < len:=va2.1 c3;cases hv;simp only [aop,hi,qol,qa1,L.run_bind',qip,h1,hx,L.run,hob];rw [if_pos ⟨c1,by rw [h2];exact c2,Int.natCast_nonneg _,Int.ofNat_lt.2 c3,h3⟩];rfl
   ·cases hv
 ·rename_i k i hi hne;simp only [aop,hi,qol,qa1,L.run_bind',hv,vrv,L.run_ret]
 ·cases hv
theorem vhy {t:TypeId} {b:Bool} {x:Operand} (hb:b=true→qlt P t=true) (ht:(P.underlying t).isSome=true):GOk P ⟨dst,.call ⟨.builtin .len,#[x],#[t]⟩,ty,pos,af,gd⟩ (gLen P ⟨dst,.call ⟨.builtin .len,#[x],#[t]⟩,ty,pos,af,gd⟩ t b (opd x)):=by
 intro e h f hf hd;refine qnl fun v hv=>?_
 rw [qfa] at hv;have key:(aop.lenT P t (evf (eo e) x)).run (ho h)=some v:=by
  unfold len1 at hv;split at hv
  ·rename_i l g off len hx;cases b with
   | false=>cases hv
   | true =>
    rw [cond_true] at hv;have hs:=hb rfl;unfold qlt at hs;split at hs
    case h_2=>cases hs
    rename_i et hu;unfold gen2 at hv;rw [hx];unfold aop.lenT;rw [hu];simp only [q04,L.run];split at hv
    ·rename_i e1 sz g' es hob;rw [hob];rw [quw] at hv;by_cases hg:g=g'
     ·subst hg;simp only [decide_true,cond_true] at hv;simp only [if_true,L.run];exact hv
     ·simp only [hg,decide_false,cond_false] at hv;cases hv
    ·cases hv
  ·exact hv
 simp only [aop,ht,if_true,qa1,L.run_bind',key,vrv,L.run_ret]
theorem vhz {i:Nat} {x:Operand}:GOk P ⟨dst,.extract x i,ty,pos,af,gd⟩ (gExt P ⟨dst,.extract x i,ty,pos,af,gd⟩ i (opd x)):=by
 intro e h f hf hd;refine qnl fun v hv=>?_
 rw [qfa] at hv;simp only [aop];split at hv
 ·rename_i vs hx;rw [hx];rw [qp2,vqg] at hv;simp only [qa1,L.run_bind',L.run_ofOpt,hv,vrv,L.run_ret]
 ·rename_i vs hx;rw [hx];rw [qp2] at hv;simp only [qa1,L.run_bind',L.run_ofOpt,hv,vrv,L.run_ret]
 ·cases hv
theorem vh0 {x:Operand}:GOk P ⟨dst,.nilCheck x,ty,pos,af,gd⟩ (gNil P ⟨dst,.nilCheck x,ty,pos,af,gd⟩ (opd x)):=by
 intro e h f hf hd;refine qnl fun v hv=>?_
 rw [qfa] at hv;simp only [aop,qa1,L.run_bind',L.run_ofOpt,hv,vrv,L.run_ret]
theorem vh1 {t:TypeId} {x:Operand} (ht:qlt P t=true):GOk P ⟨dst,.call ⟨.builtin .cap,#[x],#[t]⟩,ty,pos,af,gd⟩ (gCap (opd x)):=by
 intro e h f hf hd;unfold gCap;rw [qfa];split
 ·rename_i hx;exact vhq ht hx
 ·trivial
theorem vh2 {s d:TypeId} {kk:IntKind} {x:Operand} (hs:P.underlying s=some (.int kk)) (hd':P.underlying d=some .string):GOk P ⟨dst,.convert s d x,ty,pos,af,gd⟩ (gChr (opd x)):=by
 intro e h f hf hd;unfold gChr;rw [qfa];split
 ·rename_i k n hx;cases hn:vt2 n 128 with
  | false=>trivial
  | true =>
   rw [cond_true];exact vhr hs hd' hx (va2.1 hn)
 ·trivial
theorem vh3 {t:TypeId} {s x:Operand}:GOk P ⟨dst,.call ⟨.builtin .append,#[s,x],#[t,t]⟩,ty,pos,af,gd⟩ (gApp P ⟨dst,.call ⟨.builtin .append,#[s,x],#[t,t]⟩,ty,pos,af,gd⟩ t (opd s) (opd x)):=by
 intro e h f hf hd;unfold gApp;rw [qfa,qfa];split
 ·rename_i y hy;refine ve1 fun z hz=>?_
  cases hz;simp only [aop,if_true];rw [vhs hd];exact hy
 ·unfold appH;split
  ·rename_i l g len hs;split
   ·rename_i e1 sz g' es hob;cases hc:vt0 g g' && vt1 len es.length with
    | false=>trivial
    | true =>
     rw [cond_true];simp only [vpq,quw,decide_eq_true_eq] at hc;obtain ⟨rfl,c2⟩:=hc;have c2:=vt3 c2;split
     ·rename_i r l' ob hr;rw [quw];by_cases hl:l'=l
      ·subst hl;simp only [decide_true,cond_true];have:=q14 (P:=P) (dst:=dst) (ty:=ty) (pos:=pos) (af:=af) (gd:=gd) (ρ:=evf (eo e)) (x:=x) (t:=t) (B:=f) hs hob c2 hr rfl;have e2:∀σ:Nat→AO,ovr (Upd.list (some (l',ob))++[(l',.arr e1 sz (g+1) (es.take len))]) σ=ovr [(l',ob)] σ:=fun σ=>by
        funext k;simp only [Upd.list,vso,vq2,ovr];by_cases hk:l'=k <;> simp [hk]
       intro D X ρ' σ' hρ hσ inj w a next Q hr hT ha hn
       refine this D X ρ' σ' hρ hσ hr hT ha ?_;rw [e2];exact hn
      ·simp only [hl,decide_false,cond_false];trivial
     ·trivial
   ·trivial
  ·trivial
theorem q9b {t tn et:TypeId} {kn:IntKind} {z:AV} {s x:Operand} (ht:P.underlying t=some (.slice et)) (htn:P.underlying tn=some (.int kn)) (hz:qa2 P et=some z) (hel:qd0 (P.cellsOf et) z=true)
  (hc:0 < P.cellsOf et) (hl:qb3.zeroLen P et=P.cellsOf et):GOk P ⟨dst,.call ⟨.builtin .append,#[s,x],#[t,tn]⟩,ty,pos,af,gd⟩ (q85 P t et (P.cellsOf et) z (opd s) (opd x)):=by
 intro e h f hf hd;unfold q85;rw [qfa,qfa];split
 ·rename_i k n hs hx;cases hb:vt2 0 n && qi9 P et n with
  | false=>trivial
  | true =>
   rw [cond_true];simp only [vpq] at hb;exact q83 ht htn hs hx hz hel (va2.1 hb.1) hc hb.2 hl (hf f (vrj _))
 ·trivial
end Go.Ab
namespace Go.Ab
open Go
structure EvM where
 v:AV
 us:List (Nat×AO)
 rs:List Nat
def EvM.ks (e:EvM):List Nat:=e.us.map (·.1)
def qzv (C:Cx) (ops:Array Oper) (o:Oper) (ef:Nat→AV) (σ:Nat→AO) (e:EvM):Prop :=
 qba C.N o=true∧((qlq ops ef o=some true∧vjt C.D C.P o (evf ef) σ e.v e.us e.rs)∨(qlq ops ef o=some false∧e=⟨.p (.tup []),[],[]⟩))
theorem vjt.frame {D:Prop} {P:Program} {o:Oper} {ρ ρ':Operand→AV} {σ τ:Nat→AO} {v:AV} {us:List (Nat×AO)} {rs:List Nat} (h:vjt D P o ρ σ v us rs) (hρ:∀x∈o.op.operands,ρ x=ρ' x) (hσ:∀l∈rs,τ l=σ l):vjt D P o ρ' τ v us rs :=
 fun X ρ2 σ2 h1 h2=>h X ρ2 σ2 (fun x hx=>(h1 x hx).trans (hρ x hx).symm) fun l hl=>(h2 l hl).trans (hσ l hl)
theorem qzv.frame {C:Cx} {ops:Array Oper} {o:Oper} {ef ef':Nat→AV} {σ τ:Nat→AO} {e:EvM} (h:qzv C ops o ef σ e) (hs:∀t∈o.looksAt ops,ef' t=ef t) (hσ:∀l∈e.rs,τ l=σ l) :
  qzv C ops o ef' τ e:=by
 obtain ⟨hd,h⟩:=h;have hg:qlq ops ef' o=qlq ops ef o:=by
  unfold qlq;split
  ·rfl
  ·rename_i j want hgd;split
   ·rename_i d hdd;rw [hs d (by unfold Oper.looksAt;refine vqv.2 (.inr ?_);rw [hgd];simp [hdd])]
   ·rfl
 refine ⟨hd,?_⟩;rw [hg];rcases h with ⟨h1,h2⟩ | h
 ·refine .inl ⟨h1,h2.frame (fun x hx=>?_) hσ⟩;cases x with
  | tmp t=>exact (hs t (qls hx)).symm
  | _=>rfl
 ·exact .inr h
def apM (ops:Array Oper):List EvM→Nat→(Nat→Bool)→(Nat→AV)×(Nat→AO)→(Nat→AV)×(Nat→AO)
 | [],_,_,s=>s
 | e :: es,i,D,s=>apM ops es (i+1) D (if D i then (qkf s.1 ((ops[i]?).bind (·.dst)) e.v,ovr e.us s.2) else s)
theorem q3r (ops:Array Oper) (t:Nat):∀(es:List EvM) (i:Nat) (D D':Nat→Bool) (s s':(Nat→AV)×(Nat→AO)),s.1 t=s'.1 t →
  (∀j,i≤j→j < i+es.length→(ops[j]?).bind (·.dst)=some t→D j=D' j)→(apM ops es i D s).1 t=(apM ops es i D' s').1 t
 | [],_,_,_,_,_,h,_=>h
 | e :: es,i,D,D',s,s',h,hD=>by
  simp only [apM];refine q3r ops t es (i+1) D D' _ _ ?_ fun j h1 h2 h3=>hD j (by omega) (by simp only [vsv];omega) h3
  by_cases hd:(ops[i]?).bind (·.dst)=some t
  ·rw [hD i (vrj _) (by simp) hd];split
   ·simp [qkf,hd]
   ·exact h
  ·split <;> split <;> simp [qkf,hd,h]
theorem q9c (ops:Array Oper) (l:Nat):∀(es:List EvM) (i:Nat) (D D':Nat→Bool) (s s':(Nat→AV)×(Nat→AO)),s.2 l=s'.2 l →
  (∀j e,i≤j→es[j - i]?=some e→l∈e.ks→D j=D' j)→(apM ops es i D s).2 l=(apM ops es i D' s').2 l
 | [],_,_,_,_,_,h,_=>h
 | e :: es,i,D,D',s,s',h,hD=>by
  simp only [apM];refine q9c ops l es (i+1) D D' _ _ ?_ fun j e' h1 h2 h3=>hD j e' (by omega) (by rw [show j - i=(j - (i+1))+1 by omega];simpa using h2) h3
  by_cases hd:l∈e.ks
  ·rw [hD i e (vrj _) (by simp) hd];split
   ·exact q8y hd
   ·exact h
  ·have hd':l ∉ e.us.map (·.1):=hd;split <;> split <;> simp only [qp1 hd',h]
theorem q3s (ops:Array Oper) (i:Nat) (ei:EvM):∀(es:List EvM) (k:Nat) (D:Nat→Bool) (s:(Nat→AV)×(Nat→AO)),k≤i→es[i - k]?=some ei→D i=false →
  (∀j e,i < j→es[j - k]?=some e→D j=true→((ops[j]?).bind (·.dst)=none∨(ops[j]?).bind (·.dst)≠(ops[i]?).bind (·.dst))∧(∀l∈e.ks,l ∉ ei.ks)) →
  apM ops es k (fun j=>j == i || D j) s=(qkf (apM ops es k D s).1 ((ops[i]?).bind (·.dst)) ei.v,ovr ei.us (apM ops es k D s).2)
 | [],k,D,s,_,h,_,_=>by simp at h
 | e :: es,k,D,s,hk,h,hi,hj=>by
  by_cases hki:k=i
  ·subst hki;simp only [Nat.sub_self,vst,vr1] at h;subst h;simp only [apM,beq_self_eq_true,Bool.true_or,if_true,hi,vps,if_false]
   -- the rest commutes
   have comm:∀(es':List EvM) (m:Nat) (D1 D2:Nat→Bool) (s:(Nat→AV)×(Nat→AO)),(∀j,m≤j→D1 j=D2 j) →
     (∀j e',m≤j→es'[j - m]?=some e'→D2 j=true→((ops[j]?).bind (·.dst)=none∨(ops[j]?).bind (·.dst)≠(ops[k]?).bind (·.dst))∧(∀l∈e'.ks,l ∉ e.ks)) →
     apM ops es' m D1 (qkf s.1 ((ops[k]?).bind (·.dst)) e.v,ovr e.us s.2)=(qkf (apM ops es' m D2 s).1 ((ops[k]?).bind (·.dst)) e.v,ovr e.us (apM ops es' m D2 s).2):=by
    intro es'
    induction es' with
    | nil=>intro m D1 D2 s _ _;rfl
    | cons e' es' ih =>
     intro m D1 D2 s hD hw;simp only [apM,hD m (vrj _)];cases hm:D2 m with
     | false =>
      simp only [vps,if_false];exact ih (m+1) D1 D2 s (fun j hj=>hD j (by omega)) fun j e1 h1 h2 h3=>hw j e1 (by omega) (by rw [show j - m=(j - (m+1))+1 by omega];simpa using h2) h3
     | true =>
      simp only [if_true];obtain ⟨w1,w2⟩:=hw m e' (vrj _) (by simp) hm;have e1:qkf (qkf s.1 ((ops[k]?).bind (·.dst)) e.v) ((ops[m]?).bind (·.dst)) e'.v=qkf (qkf s.1 ((ops[m]?).bind (·.dst)) e'.v) ((ops[k]?).bind (·.dst)) e.v:=by
       funext t;simp only [qkf];by_cases c1:(ops[m]?).bind (·.dst)=some t
       ·by_cases c2:(ops[k]?).bind (·.dst)=some t
        ·rcases w1 with w1 | w1
         ·rw [c1] at w1;cases w1
         ·rw [c1,c2] at w1;exact (w1 rfl).elim
        ·simp [c1,c2]
       ·simp [c1]
      have e2:ovr e'.us (ovr e.us s.2)=ovr e.us (ovr e'.us s.2):=by
       funext l;by_cases c1:l∈e'.ks
       ·have c2:l ∉ e.us.map (·.1):=w2 l c1;rw [qp1 (us:=e.us) c2];exact q8y c1
       ·have c1':l ∉ e'.us.map (·.1):=c1;rw [qp1 (us:=e'.us) c1'];by_cases c2:l∈e.us.map (·.1)
        ·exact q8y c2
        ·rw [qp1 c2,qp1 c2,qp1 c1']
      rw [e1,e2];exact ih (m+1) D1 D2 (qkf s.1 ((ops[m]?).bind (·.dst)) e'.v,ovr e'.us s.2) (fun j hj=>hD j (by omega)) fun j e1 h1 h2 h3=>hw j e1 (by omega) (by rw [show j - m=(j - (m+1))+1 by omega];simpa using h2) h3
   exact comm es (k+1) _ D s (fun j hj=>by have:(j == k)=false:=(by simp;omega);simp [this]) fun j e' h1 h2 h3=>hj j e' (by omega) (by rw [show j - k=(j - (k+1))+1 by omega];simpa using h2) h3
  ·have hb:(k == i)=false:=by simpa using hki
   simp only [apM,hb,Bool.false_or];exact q3s ops i ei es (k+1) D _ (by omega) (by rw [show i - k=(i - (k+1))+1 by omega] at h;simpa using h) hi fun j e' h1 h2 h3=>hj j e' h1 (by rw [show j - k=(j - (k+1))+1 by omega];simpa using h2) h3
def qwd (C:Cx) (ops:Array Oper):List EvM→Nat→(Nat→AV)×(Nat→AO)→Prop
 | [],_,_=>True
 | e :: es,i,s=>(∃o,ops[i]?=some o∧qzv C ops o s.1 s.2 e)∧qwd C ops es (i+1) (qkf s.1 ((ops[i]?).bind (·.dst)) e.v,ovr e.us s.2)
theorem qwd.at {C:Cx} {ops:Array Oper}:∀{es:List EvM} {i:Nat} {s:(Nat→AV)×(Nat→AO)},qwd C ops es i s→∀j e,i≤j→es[j - i]?=some e →
  ∃o,ops[j]?=some o∧qzv C ops o (apM ops es i (fun m=>decide (m < j)) s).1 (apM ops es i (fun m=>decide (m < j)) s).2 e
 | [],i,s,h,j,e,hj,he=>by simp at he
 | e0 :: es,i,s,h,j,e,hj,he=>by
  obtain ⟨⟨o,ho,hst⟩,hrest⟩:=h;have skip:∀(es':List EvM) (m:Nat) (s':(Nat→AV)×(Nat→AO)),j≤m→apM ops es' m (fun m=>decide (m < j)) s'=s':=by
   intro es'
   induction es' with
   | nil=>intro m s' _;rfl
   | cons x xs ih=>intro m s' hm;simp only [apM];rw [if_neg (by simp;omega)];exact ih (m+1) s' (by omega)
  by_cases hji:j=i
  ·subst hji;simp only [Nat.sub_self,vst,vr1] at he;subst he;rw [skip _ _ _ (vrj _)];exact ⟨o,ho,hst⟩
  ·have hlt:i < j:=by omega
   have:=qwd.at hrest j e (by omega) (by rw [show j - i=(j - (i+1))+1 by omega] at he;simpa using he);simp only [apM];rw [if_pos (by simpa using hlt)];exact this
theorem qxt (ops:Array Oper):∀(es:List EvM) (i:Nat) (D D':Nat→Bool) (s:(Nat→AV)×(Nat→AO)),(∀j,i≤j→j < i+es.length→D j=D' j)→apM ops es i D s=apM ops es i D' s
 | [],_,_,_,_,_=>rfl
 | e :: es,i,D,D',s,h=>by
  simp only [apM];rw [h i (vrj _) (by simp)];exact qxt ops es (i+1) D D' _ fun j h1 h2=>h j (by omega) (by simp only [vsv];omega)
def vh4 (x y:EvM):Prop:=(∀l∈x.ks,l ∉ y.rs∧l ∉ y.ks)∧(∀l∈y.ks,l ∉ x.rs)
def EvsM (ops:Array Oper) (es:List EvM):Prop:=∀(i j:Nat) (x y:EvM),i < j→j < ops.size→es[i]?=some x→es[j]?=some y→Reach ops j i∨vh4 x y
theorem SRf.putM {C:Cx} {ef:Nat→AV} {σ:Nat→AO} {inj:Inj} {a:Act} {w:World} (h:SRf C ef σ inj a w) {o:Oper} (hd:qba C.N o=true) {v:AV} {val:Value} {us:List (Nat×AO)} {inj':Inj} {w':World}
  (h1:HR C.X inj' (ovr us σ) w') (h2:Ev C.D C.X inj σ w inj' (ovr us σ) w') (h3:AR C.X inj' (ovr us σ) w' v val) :
  SRf C (qkf ef o.dst v) (ovr us σ) inj' (a.put o.dst val) w':=by
 refine ⟨fun t=>?_,?_,?_,h1,h.ev.trans h2⟩
 ·unfold qkf;cases hdst:o.dst with
  | none=>simpa [Act.put] using AR.ev h2 h.hr.xlt _ _ (h.env t)
  | some d =>
   simp only [qba,hdst,decide_eq_true_eq] at hd;simp only [Act.put,vr1];by_cases ht:d=t
   ·subst ht;rw [if_pos rfl];have:(a.tmps.setIfInBounds d val).getD d undef=val:=by simp [h.size,hd]
    rw [this];exact h3
   ·rw [if_neg ht];have:(a.tmps.setIfInBounds d val).getD t undef=a.tmps.getD t undef:=by simp [vph ht]
    rw [this];exact AR.ev h2 h.hr.xlt _ _ (h.env t)
 ·cases hdst:o.dst <;> simp [Act.put,h.size]
 ·cases hdst:o.dst <;> simp [Act.put,h.defers]
theorem q16 {C:Cx} {ops:Array Oper} {es:List EvM} {s0:(Nat→AV)×(Nat→AO)} {Q:Exit→Act→World→Prop} {n:Nat} (hn:n≤ops.size) (hlen:es.length=n) (hch:qwd C ops es 0 s0) (hsl:qgm ops=true) (hev:EvsM ops es)
  (hlast:∀j,n≤j→j < ops.size→∀i,i < j→Reach ops j i) (hQ:∀a w inj,SRf C (apM ops es 0 (fun _=>true) s0).1 (apM ops es 0 (fun _=>true) s0).2 inj a w→wpOps C.P ops Q (List.range' n (ops.size - n)) a w) :
  ∀(fuel:Nat) (listed:Array Bool) (a:Act) (w:World) (inj:Inj),listed.size=ops.size→qv6 ops (fun j=>listed.getD j false)→(∀j,n≤j→j < ops.size→listed.getD j false=false)→(listed.toList.filter (! ·)).length≤fuel →
   SRf C (apM ops es 0 (fun j=>listed.getD j false) s0).1 (apM ops es 0 (fun j=>listed.getD j false) s0).2 inj a w→wpAny C.P .any ops Q fuel listed a w:=by
 have full_of:∀(listed:Array Bool),listed.size=ops.size→Region.ready .any ops listed=[]→∀j,j < ops.size→listed.getD j false=true:=by
  intro listed hsz hr j
  induction j using vtn with
  | _ j ih =>
   intro hj;by_cases hl:listed.getD j false=true
   ·exact hl
   ·have:j∈Region.ready .any ops listed:=by
     refine mem_ready.2 ⟨getD_in (by omega) (by simpa using hl),ops[j],by simp [hj],fun e he hb=>?_⟩;have hp:e.on∈qc7 ops j:=by
      unfold qc7;simp only [hj,getElem?_pos];exact vtb.2 ⟨e,vta.2 ⟨by simpa using he,hb⟩,rfl⟩
     have hlt:=qhz hsl hj _ hp;exact ih _ hlt (by omega)
    rw [hr] at this;cases this
 have count:∀(k:Nat) (l:List Bool) (m:Nat),m+k=l.length→(∀j,m≤j→j < l.length→l[j]?=some false)→k≤(l.filter (! ·)).length:=by
  intro k l m hm h;have h1:(l.drop m).length=k:=by rw [vqm];omega
  have h2:((l.drop m).filter (! ·))=l.drop m:=by
   rw [List.filter_eq_self];intro b hb;obtain ⟨j,hj,rfl⟩:=List.mem_iff_getElem.1 hb;have:=h (m+j) (by omega) (by rw [vqm] at hj;omega);rw [List.getElem_drop];obtain ⟨_,h3⟩:=vqf.1 this;rw [h3];rfl
  have h3:((l.drop m).filter (! ·)).length≤(l.filter (! ·)).length:=by
   conv=>rhs;rw [←List.take_append_drop m l,List.filter_append,List.length_append]
   omega
  rw [h2,h1] at h3;exact h3
 have done:∀(fuel:Nat) (listed:Array Bool) (a:Act) (w:World) (inj:Inj),listed.size=ops.size→(∀j,n≤j→j < ops.size→listed.getD j false=false)→(listed.toList.filter (! ·)).length≤fuel →
   SRf C (apM ops es 0 (fun j=>listed.getD j false) s0).1 (apM ops es 0 (fun j=>listed.getD j false) s0).2 inj a w→(∀j,j < n→listed.getD j false=true)→wpAny C.P .any ops Q fuel listed a w:=by
  intro fuel listed a w inj hsz hnl hf hs hfull;rw [qxt ops es 0 _ (fun _=>true) s0 fun j _ h2=>hfull j (by omega)] at hs;refine qwb hsl hlast (ops.size - n) n _ listed a w (vrj _) (by omega) hsz hfull hnl ?_ (hQ a w inj hs);refine vrl (count _ listed.toList n (by simp;omega) (fun j h1 h2=>?_)) hf;have:=hnl j h1 (by simp at h2;omega);have h3:j < listed.size:=by simpa using h2
  rw [Array.getElem?_toList];simpa [h3] using this
 intro fuel
 induction fuel with
 | zero =>
  intro listed a w inj hsz hcl hnl hf hs;refine done 0 listed a w inj hsz hnl hf hs fun j hj=>?_
  apply Classical.byContradiction;intro hl;have hlt:j < listed.size:=by omega
  have hm:listed[j]'hlt∈listed.toList:=by simp
  have h0':listed[j]'hlt=false:=by simpa [hlt] using hl
  have:listed[j]'hlt∈listed.toList.filter (! ·):=vta.2 ⟨hm,by rw [h0'];rfl⟩;have:0 < (listed.toList.filter (! ·)).length:=List.length_pos_of_mem this;omega
 | succ fuel ih =>
  intro listed a w inj hsz hcl hnl hf hs;by_cases hfull:∀j,j < n→listed.getD j false=true
  ·exact done _ listed a w inj hsz hnl hf hs hfull
  refine ⟨fun hr=>absurd (fun j hj=>full_of listed hsz hr j (by omega)) hfull,fun i hi=>?_⟩;obtain ⟨h0,o,ho,hpre⟩:=mem_ready.1 hi;have hlt:=(vpf.1 ho).1;have hltn:i < n:=by
   by_cases hltn:i < n
   ·exact hltn
   ·exfalso;apply hfull;intro j hj;have hpre':∀m∈qc7 ops i,listed.getD m false=true:=by
     intro m hm;unfold qc7 at hm;rw [ho] at hm;obtain ⟨e,he,rfl⟩:=vtb.1 hm;obtain ⟨he1,he2⟩:=vta.1 he;exact hpre e (by simpa using he1) he2
    exact (hlast i (by omega) hlt j (by omega)).ready (D:=fun j=>listed.getD j false) hcl hpre'
  have h0f:listed.getD i false=false:=getD_both h0;have hpre':∀m∈qc7 ops i,listed.getD m false=true:=by
   intro m hm;unfold qc7 at hm;rw [ho] at hm;obtain ⟨e,he,rfl⟩:=vtb.1 hm;obtain ⟨he1,he2⟩:=vta.1 he;exact hpre e (by simpa using he1) he2
  obtain ⟨e,he⟩:∃e,es[i]?=some e:=⟨es[i]'(by omega),List.getElem?_eq_getElem (by omega)⟩;obtain ⟨o',ho',hst⟩:=hch.at i e (vtq _) (by simpa using he);have:o'=o:=vtu (ho'.symm.trans ho);subst this
  -- which are listed,compared with the text's order
  have cmpSlot:∀t∈o'.looksAt ops,(apM ops es 0 (fun j=>listed.getD j false) s0).1 t=(apM ops es 0 (fun m=>decide (m < i)) s0).1 t:=by
   intro t ht;refine q3r ops t es 0 _ _ s0 s0 rfl fun j _ hj hd=>?_
   obtain ⟨oj,hoj⟩:∃oj,ops[j]?=some oj:=⟨ops[j]'(by omega),by simp [show j < ops.size by omega]⟩;rw [hoj] at hd;simp only [vrv] at hd;rcases vtk j i with hji | hji | hji
   ·simp only [hji,decide_true];rcases qep hsl hji hoj ho with hr | hr
    ·exact hr.ready (D:=fun j=>listed.getD j false) hcl hpre'
    ·exact absurd ht ((Oper.apart_spec hr).1 t hd)
   ·subst hji;simpa using h0f
   ·have:decide (j < i)=false:=by simp;omega
    rw [this];rcases qep hsl hji ho hoj with hr | hr
    ·by_cases hl:listed.getD j false=true
     ·have:=hr.closed (D:=fun j=>listed.getD j false) hcl hl;simp only [h0f] at this;cases this
     ·simpa using hl
    ·exact absurd ht ((Oper.apart_spec hr).2.2 t hd)
  have cmpLoc:∀l∈e.rs,(apM ops es 0 (fun j=>listed.getD j false) s0).2 l=(apM ops es 0 (fun m=>decide (m < i)) s0).2 l:=by
   intro l hl;refine q9c ops l es 0 _ _ s0 s0 rfl fun j ej _ hej hw=>?_
   simp only [vrt] at hej;have hjn:j < ops.size:=by have:=(vqf.1 hej).1;omega
   rcases vtk j i with hji | hji | hji
   ·simp only [hji,decide_true];rcases hev _ _ _ _ hji hlt hej he with hr | hr
    ·exact hr.ready (D:=fun j=>listed.getD j false) hcl hpre'
    ·exact absurd hl (hr.1 l hw).1
   ·subst hji;simpa using h0f
   ·have:decide (j < i)=false:=by simp;omega
    rw [this];rcases hev _ _ _ _ hji hjn he hej with hr | hr
    ·by_cases hl':listed.getD j false=true
     ·have:=hr.closed (D:=fun j=>listed.getD j false) hcl hl';simp only [h0f] at this;cases this
     ·simpa using hl'
    ·exact absurd hl (hr.2 l hw)
  have hst':=hst.frame cmpSlot cmpLoc;obtain ⟨hdst,hst'⟩:=hst';have hjoin:=q3s ops i e es 0 (fun j=>listed.getD j false) s0 (vtq _) (by simpa using he) h0f (by
   intro j ej hij hej hD;simp only [vrt] at hej;have hjn:j < ops.size:=by have:=(vqf.1 hej).1;omega
   obtain ⟨oj,hoj⟩:∃oj,ops[j]?=some oj:=⟨ops[j]'(by omega),by simp [show j < ops.size by omega]⟩;have nr:¬Reach ops j i:=fun hr=>by
    have:=hr.closed (D:=fun j=>listed.getD j false) hcl hD;simp only [h0f] at this;cases this
   constructor
   ·rcases qep hsl hij ho hoj with hr | hr
    ·exact (nr hr).elim
    ·rw [hoj,ho];simp only [vrv];cases hd:oj.dst with
     | none=>exact .inl rfl
     | some d =>
      refine .inr fun hh=>?_
      exact (Oper.apart_spec hr).2.1 d hh.symm hd
   ·rcases hev _ _ _ _ hij hjn he hej with hr | hr
    ·exact (nr hr).elim
    ·exact fun l hl hl2=>(hr.1 l hl2).2 hl)
  have hD':apM ops es 0 (fun j=>(listed.setIfInBounds i true).getD j false) s0=apM ops es 0 (fun j=>j == i || listed.getD j false) s0:=by
   refine qxt ops es 0 _ _ s0 fun j _ hj=>?_
   by_cases hji:i=j
   ·subst hji;simp [hsz,hlt]
   ·rw [getD_set_ne false hji];have:(j == i)=false:=by simp;omega
    simp [this]
  have next:∀a' w' inj',SRf C (qkf (apM ops es 0 (fun j=>listed.getD j false) s0).1 o'.dst e.v) (ovr e.us (apM ops es 0 (fun j=>listed.getD j false) s0).2) inj' a' w' →
    wpAny C.P .any ops Q fuel (listed.setIfInBounds i true) a' w':=by
   intro a' w' inj' hs';refine ih (listed.setIfInBounds i true) a' w' inj' (by simp [hsz]) ?_ (fun j hj hjs=>by rw [getD_set_ne false (by omega)];exact hnl j hj hjs) ?_ ?_
   ·intro j hj m hm;by_cases hji:i=j
    ·subst hji;exact getD_set_true (hpre' m hm)
    ·have hj':(listed.setIfInBounds i true).getD j false=true:=hj;rw [getD_set_ne false hji] at hj';exact getD_set_true (hcl j hj' m hm)
   ·have hli:listed[i]?=some false:=by
     have:i < listed.size:=by omega
     simp [this] at h0f ⊢;exact h0f
    have key:∀(l:List Bool) (i:Nat),l[i]?=some false→((l.set i true).filter (! ·)).length+1=(l.filter (! ·)).length:=by
     intro l
     induction l with
     | nil=>intro i h;simp at h
     | cons b l ihl =>
      intro i h;cases i with
      | zero=>simp at h;subst h;simp
      | succ i =>
       simp only [vss] at h;have:=ihl i h;cases b <;> simp [this] <;> omega
    have:=key listed.toList i (by simpa using hli);rw [Array.toList_setIfInBounds];omega
   ·rw [hD',hjoin,ho];exact hs'
  unfold wpOp;rw [ho];simp only;rcases hst' with ⟨hg,hdo⟩ | ⟨hg,rfl⟩
  ·rw [qhq hs hg];simp only [if_true];refine .inl (hdo C.X _ _ (fun _ _=>rfl) (fun _ _=>rfl) hs.hr (qnb hs.ev) (fun x=>hs.eval x) fun val w' inj' h1 h2 h3=>?_);exact next _ _ _ (hs.putM hdst h1 h2 h3)
  ·rw [qhq hs hg];simp only [vps,if_false];exact next _ _ inj (hs.putM (us:=[]) hdst hs.hr (Ev.refl _ _ _ _) ⟨[],rfl,rfl⟩)
inductive DChM (C:Cx) (ops:Array Oper):List Oper→St→List EvM→St→Prop
 | nil {st}:DChM C ops [] st [] st
 | cons {o rest st e es st'} (hd:qba C.N o=true) (h:(qaq ops st.env o=some true∧vjt C.D C.P o (ev st.env) st.sig e.v e.us e.rs)∨(qaq ops st.env o=some false∧e=⟨.p (.tup []),[],[]⟩))
   (hr:DChM C ops rest ⟨qd7 st.env o.dst e.v,e.us++st.heap⟩ es st'):DChM C ops (o :: rest) st (e :: es) st'
theorem DChM.chain {C:Cx} {ops:Array Oper} {l:List Oper} {st:St} {es:List EvM} {st':St} (h:DChM C ops l st es st'):∀i,(∀j,j < l.length→ops[i+j]?=l[j]?) →
  es.length=l.length∧qwd C ops es i (st.env.get,st.sig)∧apM ops es i (fun _=>true) (st.env.get,st.sig)=(st'.env.get,st'.sig):=by
 induction h with
 | nil=>intro i hi;exact ⟨rfl,trivial,rfl⟩
 | @cons o rest st e es st' hd h hr ih =>
  intro i hi;have h0:ops[i]?=some o:=by have:=hi 0 (by simp);simpa using this
  obtain ⟨h3,h1,h2⟩:=ih (i+1) (fun j hj=>by have:=hi (j+1) (by simp;omega);rw [show i+1+j=i+(j+1) by omega,this];simp);have e1:((qkf st.env.get ((ops[i]?).bind (·.dst)) e.v,ovr e.us st.sig):(Nat→AV)×(Nat→AO))=((⟨qd7 st.env o.dst e.v,e.us++st.heap⟩:St).env.get,(⟨qd7 st.env o.dst e.v,e.us++st.heap⟩:St).sig):=by
   rw [h0];simp only [vrv,qjk,St.sig,qsi]
  refine ⟨by simp [h3],⟨⟨o,h0,hd,?_⟩,?_⟩,?_⟩
  ·rw [qq2,qlr];exact h
  ·rw [e1];exact h1
  ·simp only [apM,if_true];rw [e1];exact h2
def qtq (ops:Array Oper) (n:Nat):Bool:=(List.range' n (ops.size - n)).all fun j=>(vq3 j).all fun i=>qu8 (q3f ops ops.size) j i
theorem q17 {ops:Array Oper} {n:Nat} (h:qtq ops n=true):∀j,n≤j→j < ops.size→∀i,i < j→Reach ops j i:=by
 simp only [qtq,List.all_eq_true,vtc,List.mem_range'_1] at h;exact fun j h1 h2 i hi=>qj3 (h j ⟨h1,by omega⟩ i hi)
variable {C:Cx} {Q:Exit→St→Prop} {st:St}
theorem q56 (n:Nat) {id:Nat} {l:List Oper} {es:List EvM} {st':St} (hm:C.P.follows .mixedOrders=true) (hsl:qgm l.toArray=true) (hn:n≤l.length) (hls:qtq l.toArray n=true)
  (h1:DChM C l.toArray (l.take n) st es st') (h2:EvsM l.toArray es) (h3:AL C l.toArray (l.drop n) Q st'):AWp C (.region id l.toArray true) Q st:=by
 have hreach:=q17 hls;obtain ⟨hel,hcp,hap⟩:=h1.chain 0 (fun j hj=>by
  rw [vqr] at hj;rw [vqj,if_pos (by omega)];simp)
 have hel':es.length=n:=by rw [hel,vqr];omega
 intro inj a w hs;refine wp_region_any hm ?_;have hf:Fr C.D w { w with drawn:=w.drawn+1 }:=⟨rfl,rfl,rfl,fun _=>Nat.le_succ _,vrj _,fun _ _=>rfl,fun _ _=>rfl⟩;have hE:Ev C.D C.X inj st.sig w inj st.sig { w with drawn:=w.drawn+1 }:=hf.ev;refine q16 (by simpa using hn) hel' hcp hsl h2 hreach ?_ _ _ _ _ inj (by simp) ?_ ?_ ?_ ?_
 ·intro a' w' inj' hs';rw [hap] at hs';have hal:=h3 inj' a' w' ⟨hs'.env,hs'.size,hs'.defers,hs'.hr,hs'.ev⟩;have heq:=wpOps_eq_wpList (P:=C.P) (ops:=l.toArray) (Q:=vbe C Q) (l.drop n) n (fun j=>by rw [List.getElem?_drop];simp);rw [vqm] at heq;rw [vq6,heq];exact hal
 ·intro j hj;simp only [getD_replicate_false] at hj;cases hj
 ·intro j _ _;exact getD_replicate_false _ _
 ·refine vrl (List.length_filter_le _ _) (by simp)
 ·rw [qxt l.toArray es 0 _ (fun _=>false) _ fun j _ _=>getD_replicate_false _ _];have hnone:∀(es:List EvM) (i:Nat) (s:(Nat→AV)×(Nat→AO)),apM l.toArray es i (fun _=>false) s=s:=by
   intro es
   induction es with
   | nil=>intro i s;rfl
   | cons e es ih=>intro i s;simp only [apM,vps,if_false];exact ih (i+1) s
  rw [hnone];exact ⟨fun t=>AR.ev hE hs.hr.xlt _ _ (hs.env t),hs.size,hs.defers,hs.hr.fr hf,hs.ev.trans hE⟩
section
variable {X X':Nat→Prop} {inj inj':Inj} {σ σ':Nat→AO} {w:World}
theorem vmp (hp:∀b,b < w.heap.size→(X' b∨F inj' σ' b)→X b∨F inj σ b) {x:PV} {v:Value} (h:PR (fun b=>X b∨F inj σ b) w x v):PR (fun b=>X' b∨F inj' σ' b) w x v :=
 PR.keep ⟨vrj _,fun _ _ _=>rfl,fun b hb hx hn=>hx (hp b hb hn)⟩ x v h
mutual
theorem q18 (hp:∀b,b < w.heap.size→(X' b∨F inj' σ' b)→X b∨F inj σ b):∀(x:AV) (v:Value),(∀l∈qqu x,σ' l=σ l∧inj' l=inj l)→AR X inj σ w x v→AR X' inj' σ' w x v
 | .any,_,_,_=>trivial
 | .p x,v,_,h=>vmp hp h
 | .nils,_,_,h=>h
 | .loc l g i off,v,hl,h=>by
  obtain ⟨h1,h2⟩:=hl l (by simp [qqu])
  obtain ⟨a1,a2⟩:=h
  refine ⟨a1,fun o ho=>?_⟩
  rw [h1] at ho
  rw [h2]
  exact a2 o ho
 | .own l g off len,v,hl,h=>by
  obtain ⟨h1,h2⟩:=hl l (by simp [qqu])
  obtain ⟨a1,a2⟩:=h
  refine ⟨a1,fun o ho=>?_⟩
  rw [h1] at ho
  rw [h2]
  exact a2 o ho
 | .mapo l g,v,hl,h=>by
  obtain ⟨h1,h2⟩:=hl l (by simp [qqu])
  obtain ⟨a1,a2⟩:=h
  refine ⟨a1,fun o ho=>?_⟩
  rw [h1] at ho
  rw [h2]
  exact a2 o ho
 | .func fn cs,v,hl,h=>by
  obtain ⟨vs,h1,h2⟩:=h
  exact ⟨vs,h1,qkz hp cs vs (by simpa [qqu] using hl) h2⟩
 | .agg cs,v,hl,h=>by
  obtain ⟨vs,h1,h2,h3⟩:=h
  exact ⟨vs,h1,qkz hp cs vs (by simpa [qqu] using hl) h2,h3⟩
 | .tup cs,v,hl,h=>by
  obtain ⟨vs,h1,h2⟩:=h
  exact ⟨vs,h1,qkz hp cs vs (by simpa [qqu] using hl) h2⟩
theorem qkz (hp:∀b,b < w.heap.size→(X' b∨F inj' σ' b)→X b∨F inj σ b):∀(xs:List AV) (vs:List Value),(∀l∈qix xs,σ' l=σ l∧inj' l=inj l)→ARs X inj σ w xs vs→ARs X' inj' σ' w xs vs
 | [],_,_,h=>h
 | x :: xs,_,hl,h=>by
  obtain ⟨v,r,rfl,h1,h2⟩:=h
  exact ⟨v,r,rfl,q18 hp x v (fun l hh=>hl l (by simp [qix,hh])) h1,qkz hp xs r (fun l hh=>hl l (by simp [qix,hh])) h2⟩
end
theorem q19 {l:Nat} {o:AO} (hp:∀b,b < w.heap.size→(X' b∨F inj' σ' b)→X b∨F inj σ b) (hX:∀b c,inj l=some (b,c)→o.alive=true→¬X b→¬X' b) (hi:inj' l=inj l) (hl:∀k∈qzs o,σ' k=σ k∧inj' k=inj k)
  (h:OR X inj σ w l o):OR X' inj' σ' w l o:=by
 cases o with
 | dead g=>trivial
 | arr e sz g es =>
  obtain ⟨vs,o1,o2,o3,o4⟩:=h;refine ⟨vs,qkz hp es vs (by simpa [qzs] using hl) o1,o2,o3,?_⟩;rw [hi];rcases o4 with o4 | ⟨b,c,cur,p1,p2,p3⟩
  ·exact .inl o4
  ·exact .inr ⟨b,c,cur,p1,hX b c p1 rfl p2,p3⟩
 | map g ks vs =>
  obtain ⟨b,c,ms,clock,p1,p2,p3,p4,p5⟩:=h;refine ⟨b,c,ms,clock,by rw [hi];exact p1,hX b c p1 rfl p2,p3,qkz hp ks _ (fun k hk=>hl k (by simp [qzs,hk])) p4,qkz hp vs _ (fun k hk=>hl k (by simp [qzs,hk])) p5⟩
end
def qe6 (σ:Nat→AO) (S:List Nat) (l:Nat):AO:=if l∈S then σ l else .dead 0
def ve6 (σ:Nat→AO) (S:List Nat):Prop:=∀l∈S,∀k∈qzs (σ l),k∈S
def XO (X:Nat→Prop) (inj:Inj) (σ:Nat→AO) (S:List Nat) (b:Nat):Prop:=X b∨∃l c,l ∉ S∧(σ l).alive=true∧inj l=some (b,c)
section
variable {X:Nat→Prop} {inj:Inj} {σ:Nat→AO} {w:World} {S:List Nat}
theorem qeg {l:Nat} (h:(qe6 σ S l).alive=true):l∈S∧qe6 σ S l=σ l:=by
 unfold qe6 at h ⊢;by_cases hl:l∈S
 ·simp [hl]
 ·simp [hl,AO.alive] at h
theorem q9d (b:Nat):(XO X inj σ S b∨F inj (qe6 σ S) b)↔(X b∨F inj σ b):=by
 constructor
 ·rintro ((h | ⟨l,c,h1,h2,h3⟩) | ⟨l,c,o,h1,h2,_,h3⟩)
  ·exact .inl h
  ·exact .inr ⟨l,c,σ l,rfl,h2,rfl,h3⟩
  ·obtain ⟨q1,q2⟩:=qeg (h1 ▸ h2);exact .inr ⟨l,c,o,by rw [←h1,q2],h2,rfl,h3⟩
 ·rintro (h | ⟨l,c,o,h1,h2,_,h3⟩)
  ·exact .inl (.inl h)
  ·by_cases hl:l∈S
   ·exact .inr ⟨l,c,o,by unfold qe6;rw [if_pos hl];exact h1,h2,rfl,h3⟩
   ·exact .inl (.inr ⟨l,c,hl,by rw [h1];exact h2,h3⟩)
theorem HR.part (h:HR X inj σ w) (hs:ve6 σ S):HR (XO X inj σ S) inj (qe6 σ S) w:=by
 refine ⟨fun l o ho=>?_,fun l l' o o' b c c' h1 h2 h3 h4 h5 h6=>?_,fun b hb=>?_⟩
 ·by_cases hl:l∈S
  ·have ho':σ l=o:=by unfold qe6 at ho;rw [if_pos hl] at ho;exact ho
   refine q19 (fun b _ hh=>(q9d b).1 hh) (fun b c hi ha hx=>?_) rfl (fun k hk=>?_) (h.obj l o ho')
   ·rintro (hh | ⟨m,c',q1,q2,q3⟩)
    ·exact hx hh
    ·have:=h.inj1 l m o (σ m) b c c' ho' rfl ha q2 hi q3;subst this;exact q1 hl
   ·rw [←ho'] at hk;exact ⟨by unfold qe6;rw [if_pos (hs l hl k hk)],rfl⟩
  ·unfold qe6 at ho;rw [if_neg hl] at ho;subst ho;trivial
 ·obtain ⟨q1,q2⟩:=qeg (l:=l) (by rw [h1];exact h3);obtain ⟨q3,q4⟩:=qeg (l:=l') (by rw [h2];exact h4);exact h.inj1 l l' o o' b c c' (by rw [←q2];exact h1) (by rw [←q4];exact h2) h3 h4 h5 h6
 ·rcases hb with hb | ⟨l,c,q1,q2,q3⟩
  ·exact h.xlt b hb
  ·exact (h.flt (D:=fun _=>false) ⟨l,c,σ l,rfl,q2,rfl,q3⟩).1
theorem HR.less (h:HR X inj σ w) (hs:ve6 σ S):HR X inj (qe6 σ S) w:=by
 have hp:∀b,(X b∨F inj (qe6 σ S) b)→X b∨F inj σ b:=by
  rintro b (h | ⟨l,c,o,h1,h2,_,h3⟩)
  ·exact .inl h
  ·obtain ⟨q1,q2⟩:=qeg (h1 ▸ h2);exact .inr ⟨l,c,o,by rw [←h1,q2],h2,rfl,h3⟩
 refine ⟨fun l o ho=>?_,fun l l' o o' b c c' h1 h2 h3 h4 h5 h6=>?_,h.xlt⟩
 ·by_cases hl:l∈S
  ·have ho':σ l=o:=by unfold qe6 at ho;rw [if_pos hl] at ho;exact ho
   refine q19 (fun b _ hh=>hp b hh) (fun b c hi ha hx=>hx) rfl (fun k hk=>?_) (h.obj l o ho');rw [←ho'] at hk;exact ⟨by unfold qe6;rw [if_pos (hs l hl k hk)],rfl⟩
  ·unfold qe6 at ho;rw [if_neg hl] at ho;subst ho;trivial
 ·obtain ⟨q1,q2⟩:=qeg (l:=l) (by rw [h1];exact h3);obtain ⟨q3,q4⟩:=qeg (l:=l') (by rw [h2];exact h4);exact h.inj1 l l' o o' b c c' (by rw [←q2];exact h1) (by rw [←q4];exact h2) h3 h4 h5 h6
end
theorem HR.frame {D:Prop} {X:Nat→Prop} {inj inj1:Inj} {σ τ:Nat→AO} {w w':World} {S S':List Nat} (h:HR X inj σ w) (hs:ve6 σ S) (hsub:∀l∈S,l∈S') (hnew:∀l∈S',l ∉ S→σ l=.dead 0)
  (h1:HR (XO X inj σ S) inj1 τ w') (hτ:∀l,l ∉ S'→τ l=.dead 0) (hs':ve6 τ S') (h2:Ev D (XO X inj σ S) inj (qe6 σ S) w inj1 τ w') :
  HR X (fun l=>if l∈S' then inj1 l else inj l) (fun l=>if l∈S' then τ l else σ l) w'∧Ev D X inj σ w (fun l=>if l∈S' then inj1 l else inj l) (fun l=>if l∈S' then τ l else σ l) w' ∧
  ∀x v,(∀l∈qqu x,l∈S')→AR (XO X inj σ S) inj1 τ w' x v→AR X (fun l=>if l∈S' then inj1 l else inj l) (fun l=>if l∈S' then τ l else σ l) w' x v:=by
 -- what is protected
 have hF:∀b,b < w'.heap.size→(X b∨F (fun l=>if l∈S' then inj1 l else inj l) (fun l=>if l∈S' then τ l else σ l) b)→XO X inj σ S b∨F inj1 τ b:=by
  rintro b _ (hb | ⟨l,c,o,q1,q2,_,q3⟩)
  ·exact .inl (.inl hb)
  ·by_cases hl:l∈S'
   ·simp only [hl,if_true] at q1 q3;exact .inr ⟨l,c,o,q1,q2,rfl,q3⟩
   ·simp only [hl,if_false] at q1 q3;exact .inl (.inr ⟨l,c,fun hh=>hl (hsub l hh),by rw [q1];exact q2,q3⟩)
 have hev:Ev D X inj σ w (fun l=>if l∈S' then inj1 l else inj l) (fun l=>if l∈S' then τ l else σ l) w':=by
  refine ⟨h2.os,h2.tape,h2.output,h2.dr,h2.size,h2.fz,fun b hb hf=>?_,fun b hb=>?_,fun l=>?_⟩
  ·refine h2.blk b hb fun hf'=>hf ?_
   obtain ⟨l,c,o,q1,q2,_,q3⟩:=hf';obtain ⟨r1,r2⟩:=qeg (q1 ▸ q2);exact ⟨l,c,o,by rw [←q1,r2],q2,rfl,q3⟩
  ·obtain ⟨l,c,o,q1,q2,_,q3⟩:=hb;by_cases hl:l∈S'
   ·simp only [hl,if_true] at q1 q3;rcases h2.fp b ⟨l,c,o,q1,q2,rfl,q3⟩ with ⟨k,c',o',r1,r2,_,r3⟩ | r
    ·obtain ⟨t1,t2⟩:=qeg (r1 ▸ r2);exact .inl ⟨k,c',o',by rw [←r1,t2],r2,rfl,r3⟩
    ·exact .inr r
   ·simp only [hl,if_false] at q1 q3;exact .inl ⟨l,c,o,q1,q2,rfl,q3⟩
  ·by_cases hl:l∈S'
   ·simp only [hl,if_true];have:=h2.objs l;by_cases hlS:l∈S
    ·unfold qe6 at this;rw [if_pos hlS] at this;exact this
    ·unfold qe6 at this;rw [if_neg hlS] at this;rw [hnew l hl hlS];exact this
   ·simp only [hl,if_false];exact (OEv.refl _).of fun _=>trivial
 have hval:∀x v,(∀l∈qqu x,l∈S')→AR (XO X inj σ S) inj1 τ w' x v→AR X (fun l=>if l∈S' then inj1 l else inj l) (fun l=>if l∈S' then τ l else σ l) w' x v:=fun x v hx hv =>
  q18 hF x v (fun l hl=>by simp [hx l hl]) hv
 refine ⟨⟨fun l o ho=>?_,fun l l' o o' b c c' q1 q2 q3 q4 q5 q6=>?_,fun b hb=>vrm (h.xlt b hb) h2.size⟩,hev,hval⟩
 ·by_cases hl:l∈S'
  ·simp only [hl,if_true] at ho;refine q19 hF (fun b c hi ha hx hX=>hx (.inl hX)) (by simp [hl]) (fun k hk=>?_) (h1.obj l o ho);rw [←ho] at hk;have:=hs' l hl k hk;simp [this]
  ·simp only [hl,if_false] at ho;have h0:=h.obj l o ho;have hlS:l ∉ S:=fun hh=>hl (hsub l hh)
   have blk:∀b c,inj l=some (b,c)→o.alive=true→b < w.heap.size→w'.heap[b]?=w.heap[b]?:=fun b c hi ha hb=>h2.blk b hb fun hf=>by
    obtain ⟨k,c',ok,r1,r2,_,r3⟩:=hf;obtain ⟨t1,t2⟩:=qeg (r1 ▸ r2);have:=h.inj1 l k o ok b c c' ho (by rw [←t2];exact r1) ha r2 hi r3;subst this;exact hlS t1
   cases o with
   | dead g=>trivial
   | arr e sz g es =>
    obtain ⟨vs,o1,o2,o3,o4⟩:=h0;refine ⟨vs,ARs.ev hev h.xlt es vs o1,o2,o3,?_⟩;simp only [hl,if_false];rcases o4 with o4 | ⟨b,c,cur,p1,p2,p3,p4⟩
    ·exact .inl o4
    ·exact .inr ⟨b,c,cur,p1,p2,by rw [blk b c p1 rfl (vpf.1 p3).1];exact p3,p4⟩
   | map g ks vs =>
    obtain ⟨b,c,ms,clock,p1,p2,p3,p4,p5⟩:=h0;refine ⟨b,c,ms,clock,by simp only [hl,if_false];exact p1,p2,by rw [blk b c p1 rfl (vpf.1 p3).1];exact p3,ARs.ev hev h.xlt ks _ p4,ARs.ev hev h.xlt vs _ p5⟩
 · -- different blocks
  have key:∀(l l':Nat) (o o':AO) (b c c':Nat),l∈S'→l' ∉ S'→τ l=o→σ l'=o'→o.alive=true→o'.alive=true→inj1 l=some (b,c)→inj l'=some (b,c')→False:=by
   intro l l' o o' b c c' hl hl' q1 q2 q3 q4 q5 q6;have hb:=(h.flt (D:=fun _=>false) ⟨l',c',o',q2,q4,rfl,q6⟩).1;rcases h2.fp b ⟨l,c,o,q1,q3,rfl,q5⟩ with ⟨k,ck,ok,r1,r2,_,r3⟩ | r
   ·obtain ⟨t1,t2⟩:=qeg (r1 ▸ r2);have:=h.inj1 k l' ok o' b ck c' (by rw [←t2];exact r1) q2 r2 q4 r3 q6;subst this;exact hl' (hsub _ t1)
   ·omega
  by_cases hl:l∈S' <;> by_cases hl':l'∈S'
  ·simp only [hl,hl',if_true] at q1 q2 q5 q6;exact h1.inj1 l l' o o' b c c' q1 q2 q3 q4 q5 q6
  ·simp only [hl,hl',if_true,if_false] at q1 q2 q5 q6;exact (key l l' o o' b c c' hl hl' q1 q2 q3 q4 q5 q6).elim
  ·simp only [hl,hl',if_true,if_false] at q1 q2 q5 q6;exact (key l' l o' o b c' c hl' hl q2 q1 q4 q3 q6 q5).elim
  ·simp only [hl,hl',if_false] at q1 q2 q5 q6;exact h.inj1 l l' o o' b c c' q1 q2 q3 q4 q5 q6
end Go.Ab
namespace Go.Ab
open Go
set_option linter.constructorNameAsVariable false
inductive Dst where
 | no
 | at (p:Ps)
def qjn:Option Tmp→Dst
 | some t=>.at (pth t)
 | none=>.no
inductive IOp where
 | f (d:Dst) (g:G)
 | call (d:Dst) (fn:Opd) (args:List Opd)
 | gd (j:Ps) (want:Bool) (d:Dst) (o:IOp)
 | cpy (tA:TypeId) (x y:Opd) (d1 d2 d3:Ps)
 | bad
def vmq (P:Program) (t:TypeId) (qap:Array (Nat×Operand)) (B:Nat) (ρ:Operand→AV):L (AV×Upd):=qa1 (.ofOpt (qhy P t (qap.toList.map fun p=>(p.1,ρ p.2))))
def vmr (P:Program) (t:TypeId) (x:Operand) (lo hi:Option Operand) (B:Nat) (ρ:Operand→AV):L (AV×Upd):=match P.underlying t,qom (lo.map ρ),qom (hi.map ρ) with
  | some .string,some l,some h=>(match ρ x with | .p (.str _)=>qa1 (qkt (ρ x) l h) | _=>.fail)
  | some (.slice e),some l,some h=>(match ρ x with | .p (.str _)=>.fail | _=>if qmo P e=true then qa1 (aop.sliceT P e (ρ x) l h) else .fail)
  | _,_,_=>.fail
def vms (P:Program) (t:TypeId) (x ix:Operand) (B:Nat) (ρ:Operand→AV):L (AV×Upd):=match qol (ρ ix) with
  | some i=>qa1 (.ofOpt (qvw P t (ρ x) i))
  | none=>.fail
def q9e (P:Program) (o:Oper):IOp:=match o.op with
 | .move x=>.f (qjn o.dst) (q54 P o (opd x))
 | .assign x=>.f (qjn o.dst) (q54 P o (opd x))
 | .pick c a b=>.f (qjn o.dst) (vml P o (opd c) (opd a) (opd b))
 | .alloc t=>(match qa2 P t with
  | some z=>bif vt0 z.cells.length (P.cellsOf t) then .f (qjn o.dst) (ve2 P o t z) else .bad
  | none=>.bad)
 | .box t x=>.f (qjn o.dst) (gBox P o t (opd x))
 | .build t qap=>.f (qjn o.dst) (gL P o (vmq P t qap))
 | .load t x=>(match qaj P t with
  | some b=>.f (qjn o.dst) (vmn P o (P.cellsOf t) b (opd x))
  | none=>.bad)
 | .store t x y=>(match qaj P t with
  | some b=>.f (qjn o.dst) (q84 P o (P.cellsOf t) (opd x) (opd y))
  | none=>.bad)
 | .binOp op t x y _=>.f (qjn o.dst) (gBin P o op t (qzu P t) (qlt P t) (vmo P op t) (opd x) (opd y))
 | .convert s d x=>(match P.underlying s,P.underlying d with
  | some (.int _),some .string=>.f (qjn o.dst) (gChr (opd x))
  | _,_=>.f (qjn o.dst) (gL P o fun B ρ=>qa1 (qvx P s d (ρ x))))
 | .slice t x lo hi none=>.f (qjn o.dst) (gL P o (vmr P t x lo hi))
 | .fieldAddr s x fd=>(match qah P s fd with
  | some off=>.f (qjn o.dst) (ve5 P o off (opd x))
  | none=>.bad)
 | .indexAddr t x ix=>(match P.underlying t with
  | some (.slice e)=>bif qmo P e then .f (qjn o.dst) (gIdx P o t (P.cellsOf e) true (opd x) (opd ix)) else .bad
  | _=>.f (qjn o.dst) (gIdx P o t 0 false (opd x) (opd ix)))
 | .index t x ix=>.f (qjn o.dst) (gL P o (vms P t x ix))
 | .lookup t m k c=>.f (qjn o.dst) (gL P o fun B ρ=>qa1 (qqx P t (ρ m) (ρ k) c))
 | .mapUpdate t m k v=>.f (qjn o.dst) (gL P o fun B ρ=>qm6 P t (ρ m) (ρ k) (ρ v))
 | .nilCheck x=>.f (qjn o.dst) (gNil P o (opd x))
 | .extract x i=>.f (qjn o.dst) (gExt P o i (opd x))
 | .call ⟨.value fn,args,_⟩=>.call (qjn o.dst) (opd fn) (args.toList.map opd)
 | .call ⟨.builtin .len,⟨[x]⟩,⟨[t]⟩⟩=>bif (P.underlying t).isSome then .f (qjn o.dst) (gLen P o t (qlt P t) (opd x)) else .bad
 | .call ⟨.builtin .cap,⟨[x]⟩,⟨[t]⟩⟩=>bif qlt P t then .f (qjn o.dst) (gCap (opd x)) else .bad
 | .call ⟨.builtin .append,⟨[s,x]⟩,⟨[t,t2]⟩⟩=>bif vt0 t t2 then .f (qjn o.dst) (gApp P o t (opd s) (opd x)) else (match P.underlying t,P.underlying t2 with
   | some (.slice e),some (.int _)=>(match qa2 P e with
    | some z=>bif qd0 (P.cellsOf e) z && (vt2 0 (P.cellsOf e) && vt0 (qb3.zeroLen P e) (P.cellsOf e)) then .f (qjn o.dst) (q85 P t e (P.cellsOf e) z (opd s) (opd x)) else .bad
    | none=>.bad)
   | _,_=>.bad)
 | _=>.f (qjn o.dst) (gL P o fun B ρ=>aop P B ρ o)
def qo6 (P:Program) (N:Nat) (ops:Array Oper) (o:Oper):IOp:=bif qba N o then (match o.guard with
 | none=>q9e P o
 | some (j,want)=>(match (ops[j]?).bind (·.dst) with
  | some d=>.gd (pth d) want (qjn o.dst) (q9e P o)
  | none=>.bad)) else .bad
def qzw (P:Program) (N:Nat) (o1 o2 o3:Oper):Option IOp:=match o1.op,o2.op,o3.op,o1.dst,o2.dst,o3.dst with
 | .slice tA x none none none,.move y,.call ⟨.builtin .copy,⟨[.tmp a,.tmp b]⟩,⟨[dT,sT]⟩⟩,some d1,some d2,some d3=>(match P.underlying tA,P.underlying dT with
  | some (.array 3 te),some (.slice te')=>bif vt0 te te' && (qmo P te && (vt0 (P.cellsOf te) 1 && (vt0 a d1 && (vt0 b d2 && ((!vt0 d1 d2) && (o1.guard.isNone && (o2.guard.isNone && (o3.guard.isNone && (qba N o1 && (qba N o2 && (qba N o3 &&
    (match y with | .tmp t=>!vt0 t d1 | _=>true)))))))))))) then some (.cpy tA (opd x) (opd y) (pth d1) (pth d2) (pth d3)) else none
  | _,_=>none)
 | _,_,_,_,_,_=>none
def q9f (P:Program) (N:Nat) (o:Oper) (i1:IOp) (r:List IOp) (rest:List Oper):List IOp:=match rest with
 | o2 :: o3 :: _=>(match qzw P N o o2 o3 with
  | some i=>i :: r.drop 2
  | none=>i1 :: r)
 | _=>i1 :: r
def qxu (P:Program) (N:Nat) (ops:Array Oper):List Oper→List IOp
 | []=>[]
 | o :: rest=>q9f P N o (qo6 P N ops o) (qxu P N ops rest) rest
inductive EZ where
 | bad
 | st (e:Ty AV) (h:Ty AO) (f:Nat)
inductive CR where
 | bad
 | r (x:Exit) (e:Ty AV) (h:Ty AO) (f:Nat)
inductive KR where
 | bad
 | r (v:AV) (h:Ty AO) (f:Nat)
abbrev qi4:=AV→List AV→Ty AO→Nat→KR
def qqv (e:Ty AV) (d:Dst) (x:AV):Ty AV:=@Dst.rec (fun _=>Ty AV) e (fun p=>Ty.set .any x e p) d
abbrev KE:=Ty AV→Ty AO→Nat→EZ
def onRy (d:Dst) (e:Ty AV) (h:Ty AO) (f:Nat) (k:KE) (r:Ry):EZ :=
 @Ry.rec (fun _=>EZ) .bad (fun x _=>k (qqv e d x) h f) (fun x l o _=>bif vt2 l f then k (qqv e d x) (qxs h l o) f else .bad) (fun x o _=>k (qqv e d x) (qxs h f o) (vt7 f)) r
def onK (d:Dst) (e:Ty AV) (k:KE) (r:KR):EZ:=@KR.rec (fun _=>EZ) .bad (fun x h f=>k (qqv e d x) h f) r
def vh5 (want:Bool) (d:Dst) (e:Ty AV) (h:Ty AO) (f:Nat) (k:KE) (go:EZ) (v:AV):EZ:=match v with
 | .p (.bool b)=>bif b == want then go else k (qqv e d (.p (.tup []))) h f
 | .p (.tup [])=>k (qqv e d (.p (.tup []))) h f
 | _=>.bad
def q3t:List AV→Option (List Int)
 | []=>some []
 | .p (.int .i64 n) :: r=>(match q3t r with
  | some l=>some (n :: l)
  | none=>none)
 | _=>none
def q2a (tA:TypeId) (x y:AV) (d1 d2 d3:Ps) (e:Ty AV) (h:Ty AO) (f:Nat) (k:KE):EZ:=match x with
 | .loc l g 0 0=>(match ho h l,(qi8 y).run (ho h) with
  | .arr t 3 g' [.p (.agg [.int .i64 c0,.int .i64 c1,.int .i64 c2])],some els=>(match q3t els with
   | some L=>bif vt0 t tA && (vt0 g g' && vt2 l f) then
     k (Ty.set .any .any (Ty.set .any y (Ty.set .any .any e d1) d2) d3) (qxs h l (.arr tA 3 g [.p (.agg [.int .i64 (L.getD 0 c0),.int .i64 (L.getD 1 c1),.int .i64 (L.getD 2 c2)])])) f else .bad
   | none=>.bad)
  | _,_=>.bad)
 | _=>.bad
def qxv (call:qi4) (o:IOp):KE→KE:=fun k e h f=>@IOp.rec (fun _=>EZ)
 (fun d g=>onRy d e h f k (g e h f))
 (fun d fn args=>onK d e k (call (vo e fn) (args.map (vo e)) h f))
 (fun j want d _ ih=>vh5 want d e h f k ih (Ty.get .any e j))
 (fun tA x y d1 d2 d3=>q2a tA (vo e x) (vo e y) d1 d2 d3 e h f k)
 .bad o
def q3u (call:qi4) (ops:List IOp):KE:=@List.rec IOp (fun _=>KE) .st (fun o _ ih=>qxv call o ih) ops
structure EvW where
 ws:List (Nat×AO)
 rs:List Nat
inductive DR where
 | bad
 | st (e:Ty AV) (h:Ty AO) (f:Nat) (es:List EvW)
def mkH (h:Ty AO):List Nat→Ty AO
 | []=>.e
 | l :: r=>qxs (mkH h r) l (ho h l)
def qzx (h:Ty AO):List (Nat×AO)→Ty AO
 | []=>h
 | (l,o) :: r=>qxs (qzx h r) l o
def qkk (h h':Ty AO) (S:List Nat):List Nat→List (Nat×AO)
 | []=>[]
 | l :: r=>bif q8x l S && AO.same (ho h l) (ho h' l) then qkk h h' S r else (l,ho h' l) :: qkk h h' S r
def qzy (S:List Nat):List Nat→List Nat
 | []=>[]
 | l :: r=>bif q8x l S then qzy S r else l :: qzy S r
def qtr (f:Nat):List Nat→Bool
 | []=>true
 | l :: r=>vt1 f l && qtr f r
abbrev KD:=Ty AV→Ty AO→Nat→DR
def qo7 (x:EvW):DR→DR
 | .bad=>.bad
 | .st e h f es=>.st e h f (x :: es)
def onRD (d:Dst) (e:Ty AV) (h:Ty AO) (f:Nat) (k:KD) (r:Ry):DR :=
 @Ry.rec (fun _=>DR) .bad (fun x rs=>qo7 ⟨[],rs⟩ (k (qqv e d x) h f)) (fun x l o rs=>bif vt2 l f then qo7 ⟨[(l,o)],rs⟩ (k (qqv e d x) (qxs h l o) f) else .bad) (fun x o rs=>qo7 ⟨[(f,o)],rs⟩ (k (qqv e d x) (qxs h f o) (vt7 f))) r
def q2b (d:Dst) (e:Ty AV) (h:Ty AO) (f:Nat) (k:KD) (S:List Nat) (x:AV) (h':Ty AO) (f':Nat):Option (List Nat)→DR
 | some S'=>bif qtr f (qzy S S') then qo7 ⟨qkk h h' S S',S++qzy S S'⟩ (k (qqv e d x) (qzx h (qkk h h' S S')) f') else .bad
 | none=>.bad
def vcg (call:qi4) (d:Dst) (v:AV) (avs:List AV) (e:Ty AV) (h:Ty AO) (f:Nat) (k:KD):Option (List Nat)→DR
 | some S=>@KR.rec (fun _=>DR) .bad (fun x h' f'=>q2b d e h f k S x h' f' (qkj (ho h') 5000 (qqu x++S) [])) (call v avs (mkH h S) f)
 | none=>.bad
def vh6 (want:Bool) (d:Dst) (e:Ty AV) (h:Ty AO) (f:Nat) (k:KD) (go:DR) (v:AV):DR:=match v with
 | .p (.bool b)=>bif b == want then go else qo7 ⟨[],[]⟩ (k (qqv e d (.p (.tup []))) h f)
 | .p (.tup [])=>qo7 ⟨[],[]⟩ (k (qqv e d (.p (.tup []))) h f)
 | _=>.bad
def qzz (call:qi4) (o:IOp):KD→KD:=fun k e h f=>@IOp.rec (fun _=>DR)
 (fun d g=>onRD d e h f k (g e h f))
 (fun d fn args=>vcg call d (vo e fn) (args.map (vo e)) e h f k (qkj (ho h) 5000 (qqu (vo e fn)++qix (args.map (vo e))) []))
 (fun j want d _ ih=>vh6 want d e h f k ih (Ty.get .any e j))
 (fun tA x y d1 d2 d3=>.bad)
 .bad o
def vch (call:qi4) (ops:List IOp):KD:=@List.rec IOp (fun _=>KD) (fun e h f=>.st e h f []) (fun o _ ih=>qzz call o ih) ops
def djK:List (Nat×AO)→List Nat→Bool
 | [],_=>true
 | (l,_) :: r,s=>(!q8x l s) && djK r s
def evW (x y:EvW):Bool:=match x.ws,y.ws with
 | [],[]=>true
 | _,_=>djK x.ws y.rs && (djK x.ws (y.ws.map (·.1)) && djK y.ws x.rs)
def qp3 (es:List EvW):List (Nat×Nat)→Bool
 | []=>true
 | (i,j) :: r=>(match nth es i,nth es j with
  | some x,some y=>evW x y
  | _,_=>true) && qp3 es r
def vh7 (ops:Array Oper):Nat→Nat→Nat
 | 0,n=>n
 | k+1,n=>bif qtq ops n then n else vh7 ops k (vt7 n)
def q9g (ops:Array Oper) (T:Nat):List (Nat×Nat):=(vq3 T).flatMap fun j=>(vq3 j).filterMap fun i=>bif qu8 (q3f ops ops.size) j i then none else some (i,j)
inductive IC where
 | skip | ret
 | exit (id:Nat)
 | seq (a b:Code)
 | cond (c:Opd) (a b:Code)
 | block (id:Nat) (b:Code)
 | loop (b:Code)
 | reg (l:List IOp)
 | drw (pre:List IOp) (ps:List (Nat×Nat)) (post:List IOp)
 | bad
def vh8 (P:Program) (N:Nat) (l:Array Oper) (T:Nat):IC:=bif qgm l && (qtq l T && vt1 T l.size) then .drw ((l.toList.take T).map (qo6 P N l)) (q9g l T) ((l.toList.drop T).map (qo6 P N l)) else .bad
def vmt (P:Program) (N:Nat):Code→IC
 | .skip=>.skip
 | .ret=>.ret
 | .exit id=>.exit id
 | .seq a b=>.seq a b
 | .cond c a b=>.cond (opd c) a b
 | .block id b=>.block id b
 | .loop b=>.loop b
 | .region _ l d=>bif d then vh8 P N l (vh7 l l.size 0) else .reg (qxu P N l l.toList)
 | _=>.bad
abbrev qme:=Nat→Code→Ty AV→Ty AO→Nat→CR
def vh9 (k:Ty AV→Ty AO→Nat→CR) (r:CR):CR:=@CR.rec (fun _=>CR) .bad (fun x e h f=>@Exit.rec (fun _=>CR) (k e h f) (fun i=>.r (.exit i) e h f) (fun i=>.r (.goto i) e h f) (.r .ret e h f) (fun c=>.r (.panic c) e h f) (.r .outgrown e h f) x) r
def q9h (id:Nat) (r:CR):CR:=@CR.rec (fun _=>CR) .bad (fun x e h f=>@Exit.rec (fun _=>CR) (.r .normal e h f) (fun i=>bif vt0 i id then .r .normal e h f else .r (.exit i) e h f) (fun i=>.r (.goto i) e h f) (.r .ret e h f) (fun c=>.r (.panic c) e h f) (.r .outgrown e h f) x) r
def qts (v:AV) (a b:CR):CR:=match v with
 | .p (.bool t)=>bif t then a else b
 | _=>.bad
def q9i (r:EZ):CR:=@EZ.rec (fun _=>CR) .bad (fun e h f=>.r .normal e h f) r
def vib (call:qi4) (ps:List (Nat×Nat)) (post:List IOp) (r:DR):CR:=@DR.rec (fun _=>CR) .bad (fun e h f es=>bif qp3 es ps then q9i (q3u call post e h f) else .bad) r
def vci (P:Program) (e:Ty AV) (h:Ty AO):ResultVar→Option AV
 | .tmp t=>some (eo e t)
 | .cell a t=>(qqw P t (eo e a)).run (ho h)
def vcj (P:Program) (e:Ty AV) (h:Ty AO):List ResultVar→Option (List AV)
 | []=>some []
 | x :: r=>match vci P e h x,vcj P e h r with
  | some v,some vs=>some (v :: vs)
  | _,_=>none
def rsK (P:Program) (e:Ty AV) (h:Ty AO) (f:Nat) (rs:List ResultVar):KR:=match vcj P e h rs with
 | some [v]=>.r v h f
 | some vs=>.r (q08 vs) h f
 | none=>.bad
def vic (P:Program) (rs:List ResultVar) (r:CR):KR:=@CR.rec (fun _=>KR) .bad (fun x e h f=>@Exit.rec (fun _=>KR) (rsK P e h f rs) (fun i=>.bad) (fun i=>.bad) (rsK P e h f rs) (fun c=>.bad) .bad x) r
def qr5:Nat→List AV→Ty AV→Ty AV
 | _,[],t=>t
 | k,x :: r,t=>qr5 (k+1) r (Ty.set .any x t (pth k))
inductive FR where
 | bad
 | r (N:Nat) (c:Code) (rs:List ResultVar)
def vck (P:Program) (k:FuncId):FR:=match P.funcs[k]? with
 | some fn=>(match fn.body with
  | some c=>bif vt1 fn.ntmps 1000 then .r fn.ntmps c fn.results.toList else .bad
  | none=>.bad)
 | none=>.bad
abbrev Ext:=FuncId→Option (List PV→Option PV)
def qve (P:Program) (ext:Ext) (ih:qme) (k:FuncId) (avs:List AV) (h:Ty AO) (f:Nat):KR:=match ext k with
 | some t=>(match ql7 avs with
  | some ps=>(match t ps with
   | some r=>.r (.p r) h f
   | none=>.bad)
  | none=>.bad)
 | none=>@FR.rec (fun _=>KR) .bad (fun N c rs=>bif vt1 avs.length N && vt1 1000 f then vic P rs (ih N c (qr5 0 avs .e) h f) else .bad) (vck P k)
def qp4 (P:Program) (ext:Ext) (ih:qme):qi4:=fun v avs h f=>match v with
 | .p (.func (.func k) cs)=>qve P ext ih k (avs++cs.map .p) h f
 | .func (.func k) cs=>qve P ext ih k (avs++cs) h f
 | _=>.bad
def q57 (P:Program) (ext:Ext) (ih:qme):qme:=fun N c e h f=>@IC.rec (fun _=>CR)
 (.r .normal e h f) (.r .ret e h f) (fun id=>.r (.exit id) e h f)
 (fun a b=>vh9 (fun e h f=>ih N b e h f) (ih N a e h f))
 (fun x a b=>qts (vo e x) (ih N a e h f) (ih N b e h f))
 (fun id b=>q9h id (ih N b e h f))
 (fun b=>vh9 (fun e h f=>ih N (.loop b) e h f) (ih N b e h f))
 (fun l=>q9i (q3u (qp4 P ext ih) l e h f))
 (fun pre ps post=>vib (qp4 P ext ih) ps post (vch (qp4 P ext ih) pre e h f))
 .bad (vmt P N c)
def qp5 (P:Program) (ext:Ext) (n:Nat):qme:=@Nat.rec (fun _=>qme) (fun _ _ _ _ _=>.bad) (fun _ ih=>q57 P ext ih) n
end Go.Ab
namespace Go.Ab
open Go
set_option linter.constructorNameAsVariable false
def q3v (P:Program):Prop:=∀(k:FuncId) (fn:Func),P.funcs[k]?=some fn→fn.body.isSome=true→HasBody P k
theorem qz0 {P : Program} (h : (P.funcs.all fun fn => !(fn.name == "runtime.NumGoroutine")) = true) : q3v P := by
 intro k fn hf hb args w;have h1 : (fn.name == "runtime.NumGoroutine") = false := by
  have:=Array.all_eq_true.1 h k (vpf.1 hf).1;rw [(vpf.1 hf).2] at this;simpa using this
 have h2:fn.body.isNone=false:=by cases hx:fn.body <;> simp_all
 unfold callFunc;have hp:Sem.run P program w=.ok P w:=rfl;simp only [vr5,hp,vr3,hf,h1,h2,vps,if_false,vr6]
def q2c (P:Program) (o:Oper):IOp→Prop
 | .bad=>True
 | .f d g=>d=qjn o.dst∧GOk P o g
 | .call d fn args=>d=qjn o.dst∧∃f a ats,o.op=.call ⟨.value f,a,ats⟩∧fn=opd f∧args=a.toList.map opd
 | _=>False
def IOk (P:Program) (N:Nat) (ops:Array Oper) (o:Oper):IOp→Prop
 | .bad=>True
 | .gd j want d i=>qba N o=true∧d=qjn o.dst∧(∃k t,o.guard=some (k,want)∧(ops[k]?).bind (·.dst)=some t∧j=pth t)∧q2c P o i
 | i=>qba N o=true∧o.guard=none∧q2c P o i
theorem q2c.f {P:Program} {o:Oper} {g:G} (h:GOk P o g):q2c P o (.f (qjn o.dst) g):=⟨rfl,h⟩
theorem vcl (P:Program) (o:Oper):q2c P o (q9e P o):=by
 obtain ⟨dst,op,ty,pos,af,gd⟩:=o;unfold q9e;split
 all_goals (rename_i heq;simp only at heq)
 ·subst heq;exact .f vcb
 ·subst heq;exact .f q55
 ·subst heq;exact .f vcc
 ·rename_i t;subst heq;split
  ·rename_i z hz;rw [quw];by_cases hc:z.cells.length=P.cellsOf t
   ·simp only [hc,decide_true,cond_true];exact .f (q87 hz hc)
   ·simp only [hc,decide_false,cond_false];trivial
  ·trivial
 ·subst heq;exact .f vhw
 ·subst heq;exact .f (q15 fun B ρ=>rfl)
 ·subst heq;split
  ·rename_i b hb;exact .f (vcf hb)
  ·trivial
 ·subst heq;split
  ·rename_i b hb;exact .f (q88 hb)
  ·trivial
 ·subst heq;exact .f vhx
 ·subst heq;split
  ·rename_i k h1 h2;exact .f (vh2 h1 h2)
  ·exact .f (q15 fun B ρ=>rfl)
 ·subst heq;exact .f (q15 fun B ρ=>rfl)
 ·subst heq;split
  ·rename_i off hoff;exact .f (q89 hoff)
  ·trivial
 ·subst heq;split
  ·rename_i e he;cases hok:qmo P e with
   | false=>trivial
   | true=>exact .f (q9a fun _=>⟨e,he,rfl,hok⟩)
  ·exact .f (q9a fun h=>by cases h)
 ·subst heq;exact .f (q15 fun B ρ=>rfl)
 ·subst heq;exact .f (q15 fun B ρ=>rfl)
 ·subst heq;exact .f (q15 fun B ρ=>rfl)
 ·subst heq;exact .f vh0
 ·subst heq;exact .f vhz
 ·subst heq;exact ⟨rfl,_,_,_,rfl,rfl,rfl⟩
 ·subst heq;cases hs:(P.underlying _).isSome with
  | false=>trivial
  | true=>exact .f (vhy (fun h=>h) hs)
 ·subst heq;cases hs:qlt P _ with
  | false=>trivial
  | true=>exact .f (vh1 hs)
 ·subst heq;rename_i s x t t2;rw [quw];by_cases ht:t=t2
  ·subst ht;simp only [decide_true,cond_true];exact .f vh3
  ·simp only [ht,decide_false,cond_false];split
   ·rename_i e kn h1 h2;split
    ·rename_i z hz;cases hc:qd0 (P.cellsOf e) z && (vt2 0 (P.cellsOf e) && vt0 (qb3.zeroLen P e) (P.cellsOf e)) with
     | false=>trivial
     | true =>
      simp only [vpq,quw,decide_eq_true_eq] at hc;exact .f (q9b h1 h2 hz hc.1 (va2.1 hc.2.1) hc.2.2)
    ·trivial
   ·trivial
 ·exact .f (q15 fun B ρ=>rfl)
theorem qsj (P:Program) (N:Nat) (ops:Array Oper) (o:Oper):IOk P N ops o (qo6 P N ops o):=by
 unfold qo6;cases hd:qba N o with
 | false=>trivial
 | true =>
  rw [cond_true];have h:=vcl P o;split
  ·rename_i hg;cases hc:q9e P o with
   | bad=>trivial
   | f d g=>rw [hc] at h;exact ⟨hd,hg,h⟩
   | call d fn args=>rw [hc] at h;exact ⟨hd,hg,h⟩
   | gd j want d i=>rw [hc] at h;exact h.elim
   | cpy tA x y d1 d2 d3=>rw [hc] at h;exact h.elim
  ·rename_i j want hg;split
   ·rename_i t ht;exact ⟨hd,rfl,⟨j,t,hg,ht,rfl⟩,h⟩
   ·trivial
end Go.Ab
namespace Go.Ab
open Go
set_option linter.constructorNameAsVariable false
structure RepV (e:Ty AV) (h:Ty AO) (f:Nat) (st:St):Prop where
 env:st.env.get=eo e
 heap:qcq st.heap=ho h
 free:ve0 h f
 ge:1000≤f
theorem RepV.evf {e:Ty AV} {h:Ty AO} {f:Nat} {st:St} (r:RepV e h f st):evf (eo e)=ev st.env:=by rw [←r.env,qq2]
def FunW (P:Program) (k:FuncId) (avs:List AV) (h:Ty AO) (x:AV) (h1:Ty AO) (f1:Nat):Prop:=HasBody P k∧(∃hl,qcq hl=ho h1)∧ve0 h1 f1∧1000≤f1 ∧
 ∀(D:Prop) (X:Nat→Prop) (inj:Inj) (w:World) (vs:List Value),HR X inj (ho h) w→TabOk P (fun b=>X b∨F inj (ho h) b) w→ARs X inj (ho h) w avs vs →
  Calls P k vs.toArray w fun e w'=>∃val,e=.returned val∧∃inj',HR X inj' (ho h1) w'∧Ev D X inj (ho h) w inj' (ho h1) w'∧AR X inj' (ho h1) w' x val
def qnm:AV→Option (FuncId×List AV)
 | .p (.func (.func k) cs)=>some (k,cs.map .p)
 | .func (.func k) cs=>some (k,cs)
 | _=>none
theorem qtt {env:Env} {fn:Operand} {args:List Operand} {k:FuncId} {cs:List AV} (h:qnm (ev env fn)=some (k,cs)):qcg env fn args=some (k,args.map (ev env)++cs):=by
 unfold qnm at h;unfold qcg;split at h
 ·rename_i heq;rw [heq];cases h;rfl
 ·rename_i heq;rw [heq];cases h;rfl
 ·cases h
def qo8 (P:Program) (call:qi4):Prop:=∀(v:AV) (avs:List AV) (h:Ty AO) (f:Nat) (x:AV) (h1:Ty AO) (f1:Nat),(∃hl,qcq hl=ho h)→ve0 h f→1000≤f→call v avs h f=.r x h1 f1 →
 ∃k cs,qnm v=some (k,cs)∧FunW P k (avs++cs) h x h1 f1
def qxw (P:Program) (ih:qme):Prop:=∀(C:Cx) (c:Code) (e:Ty AV) (h:Ty AO) (f:Nat) (ex:Exit) (e1:Ty AV) (h1:Ty AO) (f1:Nat) (st:St) (Q:Exit→St→Prop),C.P=P→C.N≤1000 →
 ih C.N c e h f=.r ex e1 h1 f1→RepV e h f st→(∀st1,RepV e1 h1 f1 st1→Q ex st1)→AWp C c Q st
def q9j (P:Program) (ext:Ext):Prop:=∀(k:FuncId) (t:List PV→Option PV) (ps:List PV) (r:PV),ext k=some t→t ps=some r→HasBody P k∧∀D,ven D P k ps r
variable {P:Program} {C:Cx} {Q:Exit→St→Prop} {st:St}
theorem vid {ops:Array Oper} {o:Oper} {rest:List Oper} {fn:Operand} {args:Array Operand} {ats:Array TypeId} {k:FuncId} {cs:List AV} {h h1:Ty AO} {x:AV} {f1:Nat}
  (hW:FunW C.P k (args.toList.map (ev st.env)++cs) h x h1 f1) (hh:qcq st.heap=ho h) (ho':o.op=.call ⟨.value fn,args,ats⟩) (hg:qaq ops st.env o=some true) (hd:qba C.N o=true) (hc:qnm (ev st.env fn)=some (k,cs))
  (hn:∀heap',qcq heap'=ho h1→AL C ops rest Q ⟨qd7 st.env o.dst x,heap'⟩):AL C ops (o :: rest) Q st:=by
 obtain ⟨hb,⟨hl,hhl⟩,_,_,hW⟩:=hW;intro inj a w hs;simp only [wpList,qbm hs hg,if_true];refine .inl ?_;obtain ⟨vs,hrun,hars⟩:=qn6 hs ho' hb (qtt hc);unfold Oper.wp;rw [hrun];simp only [Oper.upon];have hsg:st.sig=ho h:=hh;refine (hW C.D C.X inj w vs (hsg ▸ hs.hr) (hsg ▸ qnb hs.ev) (hsg ▸ hars)).mono ?_;rintro e w' ⟨val,rfl,inj',h2,h3,h4⟩;refine hn hl hhl inj' _ _ ?_;rw [←hsg] at h3;have hput:=hs.put (o:=o) (u:=none) hd hs.hr (Ev.refl _ _ _ _) (v:=.any) (val:=val) trivial;have hsl:(St.mk (qd7 st.env o.dst x) hl).sig=ho h1:=hhl;refine ⟨fun t=>?_,hput.size,hput.defers,by rw [hsl];exact h2,by rw [hsl];exact hs.ev.trans h3⟩;rw [hsl];cases hdst:o.dst with
 | none=>simpa [qd7,Act.put] using AR.ev h3 hs.hr.xlt _ _ (hs.env t)
 | some d =>
  simp only [qba,hdst,decide_eq_true_eq] at hd;simp only [qd7,Act.put,Env.get];by_cases ht:d=t
  ·subst ht;rw [if_pos rfl];have:(a.tmps.setIfInBounds d val).getD d undef=val:=by simp [hs.size,hd]
   rw [this];exact h4
  ·rw [if_neg ht];have:(a.tmps.setIfInBounds d val).getD t undef=a.tmps.getD t undef:=by simp [vph ht]
   rw [this];exact AR.ev h3 hs.hr.xlt _ _ (hs.env t)
theorem qz1 (e:Ty AV) (d:Option Tmp) (x:AV):eo (qqv e (qjn d) x)=qkf (eo e) d x:=by
 cases d with
 | none=>funext t;simp [qqv,qjn,qkf]
 | some t=>exact vez e t x
theorem RepV.put {e:Ty AV} {h:Ty AO} {f:Nat} {st:St} (r:RepV e h f st) (d:Option Tmp) (x:AV):RepV (qqv e (qjn d) x) h f ⟨qd7 st.env d x,st.heap⟩ :=
 ⟨by rw [qz1,←r.env];exact qjk _ _ _,r.heap,r.free,r.ge⟩
theorem RepV.set {e:Ty AV} {h:Ty AO} {f l:Nat} {o:AO} {st:St} (r:RepV e h f st) (hl:l < f) (d:Option Tmp) (x:AV):RepV (qqv e (qjn d) x) (qxs h l o) f ⟨qd7 st.env d x,[(l,o)]++st.heap⟩:=by
 refine ⟨by rw [qz1,←r.env];exact qjk _ _ _,?_,fun k hk=>?_,r.ge⟩
 ·rw [qnj,←r.heap];exact qj2 _ _ _
 ·rw [qnj];unfold qit;rw [if_neg (by omega)];exact r.free k hk
theorem RepV.new {e:Ty AV} {h:Ty AO} {f:Nat} {o:AO} {st:St} (r:RepV e h f st) (d:Option Tmp) (x:AV):RepV (qqv e (qjn d) x) (qxs h f o) (vt7 f) ⟨qd7 st.env d x,[(f,o)]++st.heap⟩:=by
 refine ⟨by rw [qz1,←r.env];exact qjk _ _ _,?_,fun k hk=>?_,vt5 r.ge⟩
 ·rw [qnj,←r.heap];exact qj2 _ _ _
 ·rw [qnj];unfold qit;have:f < k:=hk;rw [if_neg (by omega)];exact r.free k (by omega)
theorem ve7 {N:Nat} {o:Oper} {f:Nat} (hd:qba N o=true) (hN:N≤1000) (hf:1000≤f):o.dst.getD 0≤f:=by
 unfold qba at hd;cases hdst:o.dst with
 | none=>simp
 | some d =>
  rw [hdst] at hd;simp only [decide_eq_true_eq] at hd;exact Nat.le_of_lt (vrm hd (vrl hN hf))
theorem ve8 (e:Ty AV) (l:List Operand):(l.map opd).map (vo e)=l.map (evf (eo e)):=by
 rw [List.map_map];exact vs4 fun x _=>qfa e x
def vie (C:Cx) (ops:Array Oper) (rest:List Oper) (Q:Exit→St→Prop) (k:KE) (z:EZ):Prop:=∀(e:Ty AV) (h:Ty AO) (f:Nat) (st:St),RepV e h f st→k e h f=z→AL C ops rest Q st
theorem qxx {call:qi4} (hcall:qo8 P call) (hP:C.P=P) (hN:C.N≤1000) {ops:Array Oper} {o:Oper} {rest:List Oper} {i:IOp} {k:KE} {e:Ty AV} {h:Ty AO} {f:Nat} {e1:Ty AV} {h1:Ty AO} {f1:Nat}
  (hi:q2c P o i) (hd:qba C.N o=true) (hg:qaq ops st.env o=some true) (hR:RepV e h f st) (hz:qxv call i k e h f=.st e1 h1 f1) (hn:vie C ops rest Q k (.st e1 h1 f1)):AL C ops (o :: rest) Q st:=by
 subst hP;cases i with
 | bad=>cases hz
 | gd _ _ _ _=>exact hi.elim
 | cpy _ _ _ _ _ _=>exact hi.elim
 | f d g =>
  obtain ⟨rfl,hg'⟩:=hi;have hok:=hg' e h f hR.free (ve7 hd hN hR.ge);have hz':onRy (qjn o.dst) e h f k (g e h f)=.st e1 h1 f1:=hz;generalize g e h f=r at hok hz';cases r with
  | no=>cases hz'
  | v x rs =>
   simp only [q53,hR.evf,←hR.heap] at hok;exact q8z hg hd hok (hn _ _ _ _ (hR.put o.dst x) hz')
  | w x l ob rs =>
   simp only [q53,hR.evf,←hR.heap] at hok;have hz2:(bif vt2 l f then k (qqv e (qjn o.dst) x) (qxs h l ob) f else .bad)=.st e1 h1 f1:=hz';cases hl:vt2 l f with
   | false=>rw [hl] at hz2;cases hz2
   | true =>
    rw [hl,cond_true] at hz2;exact q8z hg hd hok (hn _ _ _ _ (hR.set (va2.1 hl) o.dst x) hz2)
  | new x ob rs =>
   simp only [q53,hR.evf,←hR.heap] at hok;exact q8z hg hd hok (hn _ _ _ _ (hR.new o.dst x) hz')
 | call d fn args =>
  obtain ⟨rfl,fo,a,ats,ho',rfl,rfl⟩:=hi;have hz':onK (qjn o.dst) e k (call (vo e (opd fo)) ((a.toList.map opd).map (vo e)) h f)=.st e1 h1 f1:=hz;rw [qfa,ve8] at hz';generalize hc:call (evf (eo e) fo) (a.toList.map (evf (eo e))) h f=r at hz';cases r with
  | bad=>cases hz'
  | r x h2 f2 =>
   obtain ⟨kk,cs,c1,c2⟩:=hcall _ _ _ _ _ _ _ ⟨st.heap,hR.heap⟩ hR.free hR.ge hc;rw [hR.evf] at c1 c2;refine vid c2 hR.heap ho' hg hd c1 fun heap' hh=>?_
   obtain ⟨_,_,q1,q2,_⟩:=c2;exact hn _ _ _ _ ⟨by rw [qz1,←hR.env];exact qjk _ _ _,hh,q1,q2⟩ hz'
theorem vcm {call:qi4} (hcall:qo8 P call) (hP:C.P=P) (hN:C.N≤1000) {ops:Array Oper} {o:Oper} {rest:List Oper} {i:IOp} {k:KE} {e:Ty AV} {h:Ty AO} {f:Nat} {e1:Ty AV} {h1:Ty AO} {f1:Nat}
  (hi:IOk P C.N ops o i) (hR:RepV e h f st) (hz:qxv call i k e h f=.st e1 h1 f1) (hn:vie C ops rest Q k (.st e1 h1 f1)):AL C ops (o :: rest) Q st:=by
 have plain:∀{o:Oper},o.guard=none→qaq ops st.env o=some true:=fun h=>by unfold qaq;rw [h]
 cases i with
 | bad=>cases hz
 | cpy _ _ _ _ _ _=>exact hi.2.2.elim
 | f d g=>exact qxx hcall hP hN (i:=.f d g) hi.2.2 hi.1 (plain hi.2.1) hR hz hn
 | call d fn args=>exact qxx hcall hP hN (i:=.call d fn args) hi.2.2 hi.1 (plain hi.2.1) hR hz hn
 | gd j want d i =>
  obtain ⟨hd,rfl,⟨kk,t,hg,ht,rfl⟩,hi⟩:=hi;have hz':vh5 want (qjn o.dst) e h f k (qxv call i k e h f) (eo e t)=.st e1 h1 f1:=hz;have hgA:qaq ops st.env o=match eo e t with | .p (.bool b)=>some (b == want) | .p (.tup [])=>some false | _=>none:=by
   unfold qaq;rw [hg];simp only [ht,hR.env];rfl
  have skip:k (qqv e (qjn o.dst) (.p (.tup []))) h f=.st e1 h1 f1→qaq ops st.env o=some false→AL C ops (o :: rest) Q st:=fun hk hgf =>
   q1l hgf hd (hn _ _ _ _ (hR.put o.dst (.p (.tup []))) hk)
  unfold vh5 at hz';split at hz'
  ·rename_i b hb;rw [hb] at hgA;simp only at hgA;cases hbw:b == want with
   | true =>
    rw [hbw,cond_true] at hz';rw [hbw] at hgA;exact qxx hcall hP hN hi hd hgA hR hz' hn
   | false =>
    rw [hbw,cond_false] at hz';rw [hbw] at hgA;exact skip hz' hgA
  ·rename_i hb;rw [hb] at hgA;exact skip hz' hgA
  ·cases hz'
inductive ILs (P:Program) (N:Nat) (ops:Array Oper):List Oper→List IOp→Prop
 | nil:ILs P N ops [] []
 | one {o i r is} (h:IOk P N ops o i) (t:ILs P N ops r is):ILs P N ops (o :: r) (i :: is)
 | cpy {o1 o2 o3 i r is} (h:qzw P N o1 o2 o3=some i) (t:ILs P N ops r is):ILs P N ops (o1 :: o2 :: o3 :: r) (i :: is)
theorem ILs.map (P:Program) (N:Nat) (ops:Array Oper):∀l:List Oper,ILs P N ops l (l.map (qo6 P N ops))
 | []=>.nil
 | o :: l=>.one (qsj P N ops o) (ILs.map P N ops l)
theorem vcn {N:Nat} {o1 o2 o3:Oper} (h:∀t x,o1.op≠.slice t x none none none):qzw P N o1 o2 o3=none:=by
 unfold qzw;split
 ·rename_i tA x y a b dT sT d1 d2 d3 h1 _ _ _ _ _;exact absurd h1 (h tA x)
 ·rfl
theorem qtu {N:Nat} {ops:Array Oper} {o:Oper} {rest:List Oper} (h:∀t x,o.op≠.slice t x none none none):qxu P N ops (o :: rest)=qo6 P N ops o :: qxu P N ops rest:=by
 show q9f P N o (qo6 P N ops o) (qxu P N ops rest) rest=_;unfold q9f;split
 ·rw [vcn h]
 ·rfl
theorem q9k {N:Nat} {o1 o2 o3:Oper} {i:IOp} (h:qzw P N o1 o2 o3=some i):(∃y,o2.op=.move y)∧∃c,o3.op=.call c:=by
 unfold qzw at h;split at h
 ·rename_i tA x y a b dT sT d1 d2 d3 _ h2 h3 _ _ _;exact ⟨⟨y,h2⟩,⟨_,h3⟩⟩
 ·cases h
theorem ILs.comp (P:Program) (N:Nat) (ops:Array Oper):∀(n:Nat) (l:List Oper),l.length≤n→ILs P N ops l (qxu P N ops l)
 | _,[],_=>.nil
 | 0,_ :: _,h=>by simp at h
 | n+1,o :: rest,h=>by
  have hr:=ILs.comp P N ops n rest (by simpa using h);show ILs P N ops (o :: rest) (q9f P N o (qo6 P N ops o) (qxu P N ops rest) rest);unfold q9f;split
  ·rename_i o2 o3 r;split
   ·rename_i i hi;obtain ⟨⟨y,h2⟩,⟨c,h3⟩⟩:=q9k hi;rw [qtu (fun t x hh=>by rw [h2] at hh;cases hh),qtu (fun t x hh=>by rw [h3] at hh;cases hh)];exact .cpy hi (ILs.comp P N ops n r (by simp at h;omega))
   ·exact .one (qsj P N ops o) hr
  ·exact .one (qsj P N ops o) hr
theorem qz2:∀{l:List AV} {L:List Int},q3t l=some L→l=L.map fun n=>.p (.int .i64 n)
 | [],L,h=>by cases h;rfl
 | x :: r,L,h=>by
  unfold q3t at h;split at h
  ·rename_i heq;cases heq
  ·rename_i n r' heq;cases heq;split at h
   ·rename_i l hl;cases h;rw [qz2 hl];rfl
   ·cases h
  ·cases h
theorem vmu {ops:Array Oper} {o1 o2 o3:Oper} {rest:List Oper} {i:IOp} {call:qi4} {k:KE} {e:Ty AV} {h:Ty AO} {f:Nat} {e1:Ty AV} {h1:Ty AO} {f1:Nat}
  (hi:qzw C.P C.N o1 o2 o3=some i) (hR:RepV e h f st) (hz:qxv call i k e h f=.st e1 h1 f1) (hn:vie C ops rest Q k (.st e1 h1 f1)):AL C ops (o1 :: o2 :: o3 :: rest) Q st:=by
 unfold qzw at hi;split at hi
 case h_2=>cases hi
 rename_i tA x y a b dT sT d1 d2 d3 p1 p2 p3 q1 q2 q3;split at hi
 case h_2=>cases hi
 rename_i te te' u1 u2;generalize hc:(vt0 te te' && _)=c at hi;cases c with
 | false=>cases hi
 | true =>
 rw [cond_true] at hi;cases hi;simp only [vpq,quw,decide_eq_true_eq,vpu,decide_eq_false_iff_not,Option.isNone_iff_eq_none] at hc;obtain ⟨rfl,c2,c3,rfl,rfl,c6,c7,c8,c9,c10,c11,c12,c13⟩:=hc;have hz':q2a tA (vo e (opd x)) (vo e (opd y)) (pth a) (pth b) (pth d3) e h f k=.st e1 h1 f1:=hz;rw [qfa,qfa] at hz';unfold q2a at hz';split at hz'
 case h_2=>cases hz'
 rename_i l g hx;split at hz'
 case h_2=>cases hz'
 rename_i t g' c0 c1 c2' els hob hel;split at hz'
 case h_2=>cases hz'
 rename_i L hL;cases hcc:vt0 t tA && (vt0 g g' && vt2 l f) with
 | false=>rw [hcc] at hz';cases hz'
 | true =>
 rw [hcc,cond_true] at hz';simp only [vpq,quw,decide_eq_true_eq] at hcc;obtain ⟨rfl,rfl,hlf⟩:=hcc;have hlf:=va2.1 hlf;rw [hR.evf,←hR.heap,qz2 hL] at hel;rw [hR.evf] at hx hz';rw [←hR.heap] at hob;have hy:y≠.tmp a:=by
  rintro rfl;simp at c13
 refine vmk (l:=l) (g:=g) (c0:=c0) (c1:=c1) (c2:=c2') (L:=L) p1 q1 p2 q2 p3 c7 c8 c9 c10 c11 c12 c6 u1 c2 c3 u2 hy hx hob hel ?_;refine hn _ _ _ _ ?_ hz';have r1:=hR.put (some a) .any;have r2:=r1.put (some b) (ev st.env y);have r3:=(r2.put (some d3) .any);have r4:=(RepV.set (o:=.arr t 3 g [.p (.agg [.int .i64 (L.getD 0 c0),.int .i64 (L.getD 1 c1),.int .i64 (L.getD 2 c2')])]) r3 hlf none .any);rw [q1,q2,q3];exact r4
theorem q9l {call:qi4} (hcall:qo8 P call) (hP:C.P=P) (hN:C.N≤1000) {ops:Array Oper} {l:List Oper} {is:List IOp} (hl:ILs P C.N ops l is):∀{st:St} {e:Ty AV} {h:Ty AO} {f:Nat} {e1:Ty AV} {h1:Ty AO} {f1:Nat},
  RepV e h f st→q3u call is e h f=.st e1 h1 f1→(∀st1,RepV e1 h1 f1 st1→Q .normal st1)→AL C ops l Q st:=by
 induction hl with
 | nil =>
  intro st e h f e1 h1 f1 hR hz hQ;cases hz;exact qv2 (hQ st hR)
 | @one o i r is hi ht ih =>
  intro st e h f e1 h1 f1 hR hz hQ;exact vcm hcall hP hN (k:=q3u call is) hi hR hz fun e2 h2 f2 st2 hR2 hz2=>ih hR2 hz2 hQ
 | @cpy o1 o2 o3 i r is hi ht ih =>
  intro st e h f e1 h1 f1 hR hz hQ;subst hP;exact vmu hi hR (k:=q3u call is) hz fun e2 h2 f2 st2 hR2 hz2=>ih hR2 hz2 hQ
end Go.Ab
namespace Go.Ab
open Go
set_option linter.constructorNameAsVariable false
variable {P:Program} {C:Cx} {Q:Exit→St→Prop} {st:St}
theorem q9m:∀(xs:List AV) (k:Nat) (t:Ty AV) (j:Nat),eo (qr5 k xs t) j=if k≤j∧j < k+xs.length then (xs[j - k]?).getD .any else eo t j
 | [],k,t,j=>by
  simp only [qr5,vqo,Nat.add_zero];rw [if_neg (by omega)]
 | x :: xs,k,t,j=>by
  simp only [qr5,vsv];rw [q9m xs (k+1) _ j,vez];simp only [qkf,vr1];by_cases h1:k=j
  ·subst h1;rw [if_neg (by omega),if_pos rfl,if_pos (by omega)];simp
  ·by_cases h2:k+1≤j∧j < k+1+xs.length
   ·rw [if_pos h2,if_pos (by omega),show j - k=(j - (k+1))+1 by omega,vss]
   ·rw [if_neg h2,if_neg h1,if_neg (by omega)]
theorem q2d (xs:List AV):(qh2 0 xs).get=eo (qr5 0 xs .e):=by
 have key:∀(xs:List AV) (k j:Nat),(qh2 k xs).get j=if k≤j∧j < k+xs.length then (xs[j - k]?).getD .any else .any:=by
  intro xs
  induction xs with
  | nil=>intro k j;simp only [qh2,vqo,Nat.add_zero];rw [if_neg (by omega)];rfl
  | cons x xs ih =>
   intro k j;simp only [qh2,Env.get,vsv];by_cases h1:k=j
   ·subst h1;rw [if_pos rfl,if_pos (by omega)];simp
   ·rw [if_neg h1,ih (k+1) j];by_cases h2:k+1≤j∧j < k+1+xs.length
    ·rw [if_pos h2,if_pos (by omega),show j - k=(j - (k+1))+1 by omega,vss]
    ·rw [if_neg h2,if_neg (by omega)]
 funext j;rw [key,q9m];have:eo .e j=.any:=Ty.get_e _ _;rw [this]
theorem vco {e:Ty AV} {h:Ty AO} {f:Nat} {st:St} (hR:RepV e h f st) (x:ResultVar):vci P e h x=qru P st x:=by
 cases x with
 | tmp t=>simp only [vci,qru,←hR.env]
 | cell a t=>simp only [vci,qru,←hR.env,←hR.heap]
theorem q3w {e:Ty AV} {h:Ty AO} {f:Nat} {st:St} (hR:RepV e h f st):∀rs:List ResultVar,vcj P e h rs=qpr P st rs
 | []=>rfl
 | x :: r=>by simp only [vcj,qpr,vco hR x,q3w hR r];rfl
theorem vmv {e:Ty AV} {h:Ty AO} {f:Nat} {st:St} {rs:List ResultVar} {x:AV} {h1:Ty AO} {f1:Nat} (hR:RepV e h f st) (hz:rsK P e h f rs=.r x h1 f1):q7g P st rs=some x∧h1=h∧f1=f:=by
 unfold rsK at hz;rw [q3w hR] at hz;unfold q7g;split at hz
 ·rename_i v hv;rw [hv];cases hz;exact ⟨rfl,rfl,rfl⟩
 ·rename_i vs hne hv;cases hz;refine ⟨?_,rfl,rfl⟩;rw [hv];simp only
 ·cases hz
def qkl (h:Ty AO) (f:Nat):Prop:=(∃hl,qcq hl=ho h)∧ve0 h f∧1000≤f
theorem qkl.set {h:Ty AO} {f l:Nat} {o:AO} (g:qkl h f) (hl:l < f):qkl (qxs h l o) f:=by
 obtain ⟨⟨x,hx⟩,h2,h3⟩:=g;refine ⟨⟨(l,o) :: x,?_⟩,fun k hk=>?_,h3⟩
 ·rw [qnj,←hx];exact qj2 _ _ _
 ·rw [qnj];unfold qit;rw [if_neg (by omega)];exact h2 k hk
theorem qkl.new {h:Ty AO} {f:Nat} {o:AO} (g:qkl h f):qkl (qxs h f o) (vt7 f):=by
 obtain ⟨⟨x,hx⟩,h2,h3⟩:=g;refine ⟨⟨(f,o) :: x,?_⟩,fun k hk=>?_,vt5 h3⟩
 ·rw [qnj,←hx];exact qj2 _ _ _
 ·rw [qnj];unfold qit;have:f < k:=hk;rw [if_neg (by omega)];exact h2 k (by omega)
def qk0 (call:qi4):Prop:=∀(v:AV) (avs:List AV) (h:Ty AO) (f:Nat) (x:AV) (h1:Ty AO) (f1:Nat),qkl h f→call v avs h f=.r x h1 f1→qkl h1 f1
def qn8 (ih:qme):Prop:=∀(N:Nat) (c:Code) (e:Ty AV) (h:Ty AO) (f:Nat) (ex:Exit) (e1:Ty AV) (h1:Ty AO) (f1:Nat),qkl h f→ih N c e h f=.r ex e1 h1 f1→qkl h1 f1
theorem qwe {call:qi4} (hc:qk0 call) {k:KE} {e1:Ty AV} {h1:Ty AO} {f1:Nat} (hk:∀e h f,qkl h f→k e h f=.st e1 h1 f1→qkl h1 f1):∀(i:IOp) {e:Ty AV} {h:Ty AO} {f:Nat},qkl h f→qxv call i k e h f=.st e1 h1 f1→qkl h1 f1
 | .bad,_,_,_,_,hz=>by cases hz
 | .f d g,e,h,f,hg,hz=>by
  have hz':onRy d e h f k (g e h f)=.st e1 h1 f1:=hz;generalize g e h f=r at hz';cases r with
  | no=>cases hz'
  | v x rs=>exact hk _ _ _ hg hz'
  | w x l ob rs =>
   have hz2:(bif vt2 l f then k (qqv e d x) (qxs h l ob) f else .bad)=.st e1 h1 f1:=hz';cases hl:vt2 l f with
   | false=>rw [hl] at hz2;cases hz2
   | true =>
    rw [hl,cond_true] at hz2;exact hk _ _ _ (hg.set (va2.1 hl)) hz2
  | new x ob rs=>exact hk _ _ _ hg.new hz'
 | .call d fn args,e,h,f,hg,hz=>by
  have hz':onK d e k (call (vo e fn) (args.map (vo e)) h f)=.st e1 h1 f1:=hz;generalize hr:call (vo e fn) (args.map (vo e)) h f=r at hz';cases r with
  | bad=>cases hz'
  | r x h2 f2=>exact hk _ _ _ (hc _ _ _ _ _ _ _ hg hr) hz'
 | .gd j want d i,e,h,f,hg,hz=>by
  have hz':vh5 want d e h f k (qxv call i k e h f) (Ty.get .any e j)=.st e1 h1 f1:=hz;unfold vh5 at hz';split at hz'
  ·rename_i b hb;cases hbw:b == want with
   | true=>rw [hbw,cond_true] at hz';exact qwe hc hk i hg hz'
   | false=>rw [hbw,cond_false] at hz';exact hk _ _ _ hg hz'
  ·exact hk _ _ _ hg hz'
  ·cases hz'
 | .cpy tA x y d1 d2 d3,e,h,f,hg,hz=>by
  have hz':q2a tA (vo e x) (vo e y) d1 d2 d3 e h f k=.st e1 h1 f1:=hz;unfold q2a at hz';split at hz'
  case h_2=>cases hz'
  split at hz'
  case h_2=>cases hz'
  split at hz'
  case h_2=>cases hz'
  rename_i l g _ _ _ t g' c0 c1 c2 els _ _ _ L _;cases hcc:vt0 t tA && (vt0 g g' && vt2 l f) with
  | false=>rw [hcc] at hz';cases hz'
  | true =>
  rw [hcc,cond_true] at hz';simp only [vpq] at hcc;exact hk _ _ _ (hg.set (va2.1 hcc.2.2)) hz'
theorem qtv {call:qi4} (hc:qk0 call):∀(is:List IOp) {e:Ty AV} {h:Ty AO} {f:Nat} {e1:Ty AV} {h1:Ty AO} {f1:Nat},qkl h f→q3u call is e h f=.st e1 h1 f1→qkl h1 f1
 | [],_,_,_,_,_,_,hg,hz=>by cases hz;exact hg
 | i :: is,_,_,_,_,_,_,hg,hz=>qwe hc (k:=q3u call is) (fun e h f hg hz=>qtv hc is hg hz) i hg hz
theorem qxy (h:Ty AO) (us:List (Nat×AO)):ho (qzx h us)=ovr us (ho h):=by
 funext k
 induction us with
 | nil=>rfl
 | cons p r ih =>
  obtain ⟨l,o⟩:=p;simp only [qzx,qnj,qit,ovr,ih];by_cases hl:l=k
  ·rw [if_pos hl,if_pos hl.symm]
  ·rw [if_neg hl,if_neg (Ne.symm hl)]
theorem qsk {h h':Ty AO} {S:List Nat}:∀{S':List Nat} {l:Nat} {o:AO},(l,o)∈qkk h h' S S'→o=ho h' l
 | [],_,_,hm=>by cases hm
 | k :: S',l,o,hm=>by
  unfold qkk at hm;cases hc:q8x k S && AO.same (ho h k) (ho h' k) with
  | true=>rw [hc,cond_true] at hm;exact qsk hm
  | false =>
   rw [hc,cond_false] at hm;rcases vty.1 hm with hm | hm
   ·cases hm;rfl
   ·exact qsk hm
theorem q9n {us:List (Nat×AO)} {σ:Nat→AO} {l:Nat} (h:l∈us.map (·.1)):(l,ovr us σ l)∈us:=by
 induction us with
 | nil=>cases h
 | cons p r ih =>
  obtain ⟨k,o⟩:=p;simp only [ovr];by_cases hk:k=l
  ·subst hk;rw [if_pos rfl];exact vs9
  ·rw [if_neg hk];rcases vty.1 h with h | h
   ·exact absurd h.symm hk
   ·exact vs8 _ (ih h)
theorem qkl.diff {h h':Ty AO} {f f':Nat} {S S':List Nat} (g:qkl h f) (g':qkl h' f') (hf:f≤f'):qkl (qzx h (qkk h h' S S')) f':=by
 obtain ⟨⟨x,hx⟩,h2,h3⟩:=g;obtain ⟨_,k2,k3⟩:=g';refine ⟨⟨qkk h h' S S'++x,?_⟩,fun k hk=>?_,k3⟩
 ·rw [qsi,hx,qxy]
 ·rw [qxy];by_cases hm:k∈(qkk h h' S S').map (·.1)
  ·rw [qsk (q9n hm)];exact k2 k hk
  ·rw [qp1 hm];exact h2 k (by omega)
theorem q9o (h:Ty AO) (S:List Nat):ho (mkH h S)=qe6 (ho h) S:=by
 funext k
 induction S with
 | nil=>simp only [mkH,qe6,List.not_mem_nil,if_false];exact Ty.get_e _ _
 | cons l S ih =>
  simp only [mkH,qnj,qit,ih,qe6,vty];by_cases hl:k=l
  ·subst hl;simp
  ·simp [hl]
theorem qkl.part {h:Ty AO} {f:Nat} (g:qkl h f) (S:List Nat):qkl (mkH h S) f:=by
 obtain ⟨_,h2,h3⟩:=g;refine ⟨?_,fun k hk=>?_,h3⟩
 ·induction S with
  | nil=>exact ⟨[],(vjs).symm⟩
  | cons l S ih =>
   obtain ⟨x,hx⟩:=ih;exact ⟨(l,ho h l) :: x,by rw [mkH,qnj,←hx];exact qj2 _ _ _⟩
 ·rw [q9o];unfold qe6;rw [h2 k hk];split <;> rfl
theorem q3x (hB:q3v P) {ext:Ext} (hE:q9j P ext) {ih:qme} (hi:qxw P ih) (hgd:qn8 ih) {k:FuncId} {avs:List AV} {h:Ty AO} {f:Nat} {x:AV} {h1:Ty AO} {f1:Nat} (hL:∃hl,qcq hl=ho h) (hF:ve0 h f) (hge:1000≤f)
  (hz:qve P ext ih k avs h f=.r x h1 f1):FunW P k avs h x h1 f1:=by
 obtain ⟨hl,hhl⟩:=hL;unfold qve at hz;split at hz
 ·rename_i t ht;split at hz
  case h_2=>cases hz
  rename_i ps hps;split at hz
  case h_2=>cases hz
  rename_i r hr;cases hz;obtain ⟨hb,hp⟩:=hE k t ps r ht hr;refine ⟨hb,⟨hl,hhl⟩,hF,hge,fun D X inj w vs hh hT hars=>?_⟩;have hav:=qow hps;subst hav;refine ((hp D) (fun b=>X b∨F inj (ho h) b) w vs (fun b hb=>hb.elim (hh.xlt b) fun hf=>(hh.flt hf).1) hT (qbc.1 hars)).mono ?_;rintro e w' ⟨v,rfl,h1,h2⟩;exact ⟨v,rfl,inj,hh.fr h2,h2.ev,h1⟩
 ·cases hc:vck P k with
  | bad=>rw [hc] at hz;cases hz
  | r N c rs =>
   rw [hc] at hz;have hz':(bif vt1 avs.length N && vt1 1000 f then vic P rs (ih N c (qr5 0 avs .e) h f) else .bad)=KR.r x h1 f1:=hz;cases hcc:vt1 avs.length N && vt1 1000 f with
   | false=>rw [hcc] at hz';cases hz'
   | true =>
   rw [hcc,cond_true] at hz';simp only [vpq] at hcc;have hn:=vt3 hcc.1;unfold vck at hc;split at hc
   case h_2=>cases hc
   rename_i fn hfn;split at hc
   case h_2=>cases hc
   rename_i c' hb;cases hN:vt1 fn.ntmps 1000 with
   | false=>rw [hN] at hc;cases hc
   | true =>
   rw [hN,cond_true] at hc;cases hc;have hN:=vt3 hN;generalize hrun:ih fn.ntmps c (qr5 0 avs .e) h f=cr at hz';cases cr with
   | bad=>cases hz'
   | r ex e1 h2 f2 =>
   have hres:(ex=.normal∨ex=.ret)∧rsK P e1 h2 f2 fn.results.toList=.r x h1 f1:=by
    cases ex <;> first | exact ⟨.inl rfl,hz'⟩ | exact ⟨.inr rfl,hz'⟩ | cases hz'
   -- the state at the end does not matter: some one stands for it
   have hR0:RepV (qr5 0 avs .e) h f ⟨qh2 0 avs,hl⟩:=⟨q2d avs,hhl,hF,hge⟩;have hwp:∀(D:Prop) (X:Nat→Prop) (inj:Inj) (w:World) hT,AWp ⟨P,fn.ntmps,0,X,hl,inj,w,D,hT⟩ c (fun e s=>(e=.normal∨e=.ret)∧RepV e1 h2 f2 s) ⟨qh2 0 avs,hl⟩:=fun D X inj w hT =>
    hi ⟨P,fn.ntmps,0,X,hl,inj,w,D,hT⟩ c _ _ _ ex e1 h2 f2 _ _ rfl hN hrun hR0 fun st1 hR1=>⟨hres.1,hR1⟩
   have hst:h1=h2∧f1=f2:=by
    have:=hres.2;unfold rsK at this;split at this <;> cases this <;> exact ⟨rfl,rfl⟩
   obtain ⟨rfl,rfl⟩:=hst;obtain ⟨⟨hl',e1'⟩,e2',e3'⟩:=hgd _ _ _ _ _ _ _ _ _ ⟨⟨hl,hhl⟩,hF,hge⟩ hrun;refine ⟨hB k fn hfn (by rw [hb];rfl),⟨hl',e1'⟩,e2',e3',fun D X inj w vs hh hT hars=>?_⟩;rw [←hhl] at hh hT hars;have hlen:=hars.length;refine calls_of_wp hfn hb (wp_mono (hwp D X inj w hT inj _ w ⟨fun t=>?_,?_,rfl,hh,Ev.refl _ _ _ _⟩) ?_)
   ·have:=qng avs vs 0 t hars;simp only [vtq,if_true,vrt] at this;have e:(vs.toArray++Array.replicate (fn.ntmps - vs.toArray.size) undef).getD t undef=vs.getD t undef:=by
     by_cases ht:t < vs.length
     ·simp [vpe,ht]
     ·simp only [Array.getD_eq_getD_getElem?,vpe,vq6,ht,if_false,Array.getElem?_replicate];rw [List.getD_eq_getElem?_getD,List.getElem?_eq_none (by omega)];split <;> rfl
    rw [e];exact this
   ·simp [←hlen];omega
   ·intro e a' w' ⟨s,inj',hs',hex,hR'⟩;obtain ⟨hv,_,_⟩:=vmv hR' hres.2;obtain ⟨val,k1,k2⟩:=qq0 hs' hv;have hev:Ev D X inj (qcq hl) w inj' s.sig w':=hs'.ev;have hsg:s.sig=ho h1:=hR'.heap;have hpost:∃val',Ending.returned val=.returned val'∧∃inj',HR X inj' (ho h1) w'∧Ev D X inj (ho h) w inj' (ho h1) w'∧AR X inj' (ho h1) w' x val' :=
     ⟨val,rfl,inj',by rw [←hsg];exact hs'.hr,by rw [←hsg,←hhl];exact hev,by rw [←hsg];exact k2⟩
    rcases hex with rfl | rfl
    ·exact ⟨hs'.defers,val,k1,hpost⟩
    ·exact ⟨hs'.defers,val,k1,hpost⟩
end Go.Ab
namespace Go.Ab
open Go
set_option linter.constructorNameAsVariable false
variable {P:Program} {C:Cx} {Q:Exit→St→Prop} {st:St}
theorem qxz {S:List Nat}:∀{S':List Nat} {l:Nat},l∈S'→l ∉ S→l∈qzy S S'
 | k :: S',l,h,hn=>by
  unfold qzy;rw [qnk];rcases vty.1 h with rfl | h
  ·simp only [hn,decide_false,cond_false];exact vs9
  ·by_cases hk:k∈S
   ·simp only [hk,decide_true,cond_true];exact qxz h hn
   ·simp only [hk,decide_false,cond_false];exact vs8 _ (qxz h hn)
theorem qz3 {f:Nat}:∀{s:List Nat} {l:Nat},qtr f s=true→l∈s→f≤l
 | k :: s,l,h,hl=>by
  simp only [qtr,vpq] at h;rcases vty.1 hl with rfl | hl
  ·exact vt3 h.1
  ·exact qz3 h.2 hl
theorem qx0 {h h':Ty AO} {S:List Nat}:∀{S':List Nat} {l:Nat},l∈S'→l ∉ (qkk h h' S S').map (·.1)→l∈S∧ho h l=ho h' l
 | k :: S',l,hl,hn=>by
  unfold qkk at hn;cases hc:q8x k S && AO.same (ho h k) (ho h' k) with
  | true =>
   rw [hc,cond_true] at hn;rcases vty.1 hl with rfl | hl
   ·simp only [vpq,qnk,decide_eq_true_eq] at hc;exact ⟨hc.1,AO.same_eq hc.2⟩
   ·exact qx0 hl hn
  | false =>
   rw [hc,cond_false] at hn;simp only [vqt,vty,not_or] at hn;rcases vty.1 hl with rfl | hl
   ·exact absurd rfl hn.1
   ·exact qx0 hl hn.2
theorem qx1 {h h':Ty AO} {S:List Nat}:∀{S':List Nat} {l:Nat},l∈(qkk h h' S S').map (·.1)→l∈S'
 | [],l,hm=>by cases hm
 | k :: S',l,hm=>by
  unfold qkk at hm;cases hc:q8x k S && AO.same (ho h k) (ho h' k) with
  | true=>rw [hc,cond_true] at hm;exact vs8 _ (qx1 hm)
  | false =>
   rw [hc,cond_false] at hm;simp only [vqt,vty] at hm;rcases hm with rfl | hm
   ·exact vs9
   ·exact vs8 _ (qx1 hm)
theorem vcp {o:Oper} {fn:Operand} {args:Array Operand} {ats:Array TypeId} {ρ:Operand→AV} {k:FuncId} {cs:List AV} {h h':Ty AO} {f f':Nat} {x:AV} {S S':List Nat}
  (ho':o.op=.call ⟨.value fn,args,ats⟩) (hc:qnm (ρ fn)=some (k,cs)) (hW:FunW P k (args.toList.map ρ++cs) (mkH h S) x h' f') (hS:∀l∈qix (args.toList.map ρ++cs),l∈S) (hsh:ve6 (ho h) S)
  (hx:∀l∈qqu x,l∈S') (hsub:∀l∈S,l∈S') (hsh':ve6 (ho h') S') (hfr:ve0 h f) (hnw:qtr f (qzy S S')=true):OpM P o ρ (ho h) x (qkk h h' S S') (S++qzy S S'):=by
 intro D X ρ' σ' hρ hσ inj w a next Q hr hT ha hn
 obtain ⟨hb,_,_,_,hW⟩:=hW;have hSσ:∀l∈S,σ' l=ho h l:=fun l hl=>hσ l (vtw _ hl)
 have hshσ:ve6 σ' S:=fun l hl j hj=>hsh l hl j (by rw [←hSσ l hl];exact hj)
 have hpart:qe6 σ' S=ho (mkH h S):=by
  rw [q9o];funext l;unfold qe6;split
  ·rename_i hl;exact hSσ l hl
  ·rfl
 -- the arguments
 have hfn:=ha fn;rw [hρ fn (by rw [ho'];simp [Op.operands,Call.operands])] at hfn;have hmap:args.toList.map ρ'=args.toList.map ρ:=vs4 fun y hy=>hρ y (by rw [ho'];simp [Op.operands,Call.operands] at hy ⊢;exact .inr hy)
 have hargs:=qmc ha args.toList;rw [hmap] at hargs;obtain ⟨dst,op,type,pos,after,guard⟩:=o;simp only at ho';subst ho';have run:∀cap:Array Value,a.eval fn=.func (.func k) #[] cap→(execOp a.eval ⟨dst,.call ⟨.value fn,args,ats⟩,type,pos,after,guard⟩).run P w=.ok (.enter k (args.map a.eval++cap)) w:=by
  intro cap he;simp only [execOp,resolve,Deferred.ofValue,he,vr5,vr6,vr3,invoke];rw [hb];simp
 have hcall:∃vs,(execOp a.eval ⟨dst,.call ⟨.value fn,args,ats⟩,type,pos,after,guard⟩).run P w=.ok (.enter k vs.toArray) w∧ARs X inj σ' w (args.toList.map ρ++cs) vs:=by
  unfold qnm at hc;split at hc
  ·rename_i k' cs' hev;simp only [vr1,Prod.mk.injEq] at hc;obtain ⟨rfl,rfl⟩:=hc;rw [hev] at hfn;obtain ⟨vs,h1,h2⟩:=hfn;refine ⟨args.toList.map a.eval++vs,?_,hargs.append (qbc.2 h2)⟩;rw [run vs.toArray h1];congr 2;apply Array.ext';simp
  ·rename_i k' cs' hev;simp only [vr1,Prod.mk.injEq] at hc;obtain ⟨rfl,rfl⟩:=hc;rw [hev] at hfn;obtain ⟨vs,h1,h2⟩:=hfn;refine ⟨args.toList.map a.eval++vs,?_,hargs.append h2⟩;rw [run vs.toArray h1];congr 2;apply Array.ext';simp
  ·cases hc
 obtain ⟨vs,hrun,hars⟩:=hcall;unfold Oper.wp;rw [hrun];simp only [Oper.upon];have hin:∀l∈qix (args.toList.map ρ++cs),qe6 σ' S l=σ' l∧inj l=inj l:=fun l hl=>⟨by unfold qe6;rw [if_pos (hS l hl)],rfl⟩
 have hars':ARs (XO X inj σ' S) inj (qe6 σ' S) w (args.toList.map ρ++cs) vs:=qkz (fun b _ hh=>(q9d b).1 hh) _ _ hin hars;have hT':TabOk P (fun b=>XO X inj σ' S b∨F inj (qe6 σ' S) b) w:=hT.keep ⟨vrj _,fun _ _ _=>rfl,fun b _ hx hn=>hx ((q9d b).1 hn)⟩;have hr':=hr.part hshσ;rw [hpart] at hars' hT' hr';refine (hW D (XO X inj σ' S) inj w vs hr' hT' hars').mono ?_;rintro e' w' ⟨val,rfl,inj1,q1,q2,q3⟩
 -- what can be reached of it
 have hτ:∀l,l ∉ S'→qe6 (ho h') S' l=.dead 0:=fun l hl=>by unfold qe6;rw [if_neg hl]
 have hτS:ve6 (qe6 (ho h') S') S':=fun l hl j hj=>hsh' l hl j (by unfold qe6 at hj;rw [if_pos hl] at hj;exact hj)
 have hpF:∀b,(XO X inj σ' S b∨F inj1 (qe6 (ho h') S') b)→XO X inj σ' S b∨F inj1 (ho h') b:=by
  rintro b (h | ⟨l,c,o,h1,h2,_,h3⟩)
  ·exact .inl h
  ·obtain ⟨r1,r2⟩:=qeg (h1 ▸ h2);exact .inr ⟨l,c,o,by rw [←h1,r2],h2,rfl,h3⟩
 have t1:=q1.less hsh';have t3:AR (XO X inj σ' S) inj1 (qe6 (ho h') S') w' x val:=q18 (fun b _ hh=>hpF b hh) x val (fun l hl=>⟨by unfold qe6;rw [if_pos (hx l hl)],rfl⟩) q3;have t2:Ev D (XO X inj σ' S) inj (qe6 σ' S) w inj1 (qe6 (ho h') S') w':=by
  rw [hpart];refine ⟨q2.os,q2.tape,q2.output,q2.dr,q2.size,q2.fz,q2.blk,fun b hb=>?_,fun l=>?_⟩
  ·obtain ⟨l,c,o,h1,h2,_,h3⟩:=hb;obtain ⟨r1,r2⟩:=qeg (h1 ▸ h2);exact q2.fp b ⟨l,c,o,by rw [←h1,r2],h2,rfl,h3⟩
  ·by_cases hl:l∈S'
   ·have:qe6 (ho h') S' l=ho h' l:=by unfold qe6;rw [if_pos hl]
    rw [this];exact q2.objs l
   ·rw [hτ l hl];have hlS:l ∉ S:=fun hh=>hl (hsub l hh)
    have:ho (mkH h S) l=.dead 0:=by rw [q9o];unfold qe6;rw [if_neg hlS]
    rw [this];exact ⟨vrj _,fun ha=>by cases ha⟩
 have hnew:∀l∈S',l ∉ S→σ' l=.dead 0:=fun l hl hn'=>by
  have hm:=qxz hl hn';rw [hσ l (vtx _ hm)];exact hfr l (qz3 hnw hm)
 obtain ⟨z1,z2,z3⟩:=HR.frame hr hshσ hsub hnew t1 hτ hτS t2;have hov:ovr (qkk h h' S S') σ'=fun l=>if l∈S' then qe6 (ho h') S' l else σ' l:=by
  funext l;by_cases hl:l∈S'
  ·simp only [hl,if_true];have e1:qe6 (ho h') S' l=ho h' l:=by unfold qe6;rw [if_pos hl]
   rw [e1];by_cases hm:l∈(qkk h h' S S').map (·.1)
   ·exact qsk (q9n hm)
   ·rw [qp1 hm];obtain ⟨r1,r2⟩:=qx0 hl hm;rw [hSσ l r1,r2]
  ·simp only [hl,if_false];exact qp1 fun hm=>hl (qx1 hm)
 rw [hov] at hn;exact hn val w' _ z1 z2 (z3 x val hx t3)
end Go.Ab
namespace Go.Ab
open Go
set_option linter.constructorNameAsVariable false
variable {P:Program} {C:Cx} {Q:Exit→St→Prop} {st:St}
def EvM.w (m:EvM):EvW:=⟨m.us,m.rs⟩
theorem qgg {x:EvW} {r:DR} {e:Ty AV} {h:Ty AO} {f:Nat} {es:List EvW} (hz:qo7 x r=.st e h f es):∃es',r=.st e h f es'∧es=x :: es':=by
 cases r with
 | bad=>cases hz
 | st e' h' f' es'=>cases hz;exact ⟨es',rfl,rfl⟩
def vif (C:Cx) (ops:Array Oper) (rest:List Oper) (k:KD):Prop:=∀(e:Ty AV) (h:Ty AO) (f:Nat) (st:St) (e1:Ty AV) (h1:Ty AO) (f1:Nat) (es:List EvW),RepV e h f st→k e h f=.st e1 h1 f1 es →
 ∃ms st1,DChM C ops rest st ms st1∧RepV e1 h1 f1 st1∧ms.map EvM.w=es
theorem qtw {call:qi4} (hcall:qo8 P call) (hgood:qk0 call) (hmono:∀v avs h f x h1 f1,call v avs h f=.r x h1 f1→f≤f1) (hP:C.P=P) (hN:C.N≤1000) {ops:Array Oper} {o:Oper} {rest:List Oper} {i:IOp} {k:KD} {e:Ty AV} {h:Ty AO} {f:Nat} {e1:Ty AV} {h1:Ty AO} {f1:Nat} {es:List EvW}
  (hi:q2c P o i) (hd:qba C.N o=true) (hg:qaq ops st.env o=some true) (hR:RepV e h f st) (hz:qzz call i k e h f=.st e1 h1 f1 es) (hn:vif C ops rest k):∃ms st1,DChM C ops (o :: rest) st ms st1∧RepV e1 h1 f1 st1∧ms.map EvM.w=es:=by
 subst hP;have fin:∀(x:AV) (us:List (Nat×AO)) (rs:List Nat) (e2:Ty AV) (h2:Ty AO) (f2:Nat),OpM C.P o (ev st.env) st.sig x us rs→RepV e2 h2 f2 ⟨qd7 st.env o.dst x,us++st.heap⟩→qo7 ⟨us,rs⟩ (k e2 h2 f2)=.st e1 h1 f1 es →
   ∃ms st1,DChM C ops (o :: rest) st ms st1∧RepV e1 h1 f1 st1∧ms.map EvM.w=es:=by
  intro x us rs e2 h2 f2 hop hR2 hz2;obtain ⟨es',hk,rfl⟩:=qgg hz2;obtain ⟨ms,st1,q1,q2,q3⟩:=hn e2 h2 f2 _ _ _ _ _ hR2 hk;exact ⟨⟨x,us,rs⟩ :: ms,st1,.cons hd (.inl ⟨hg,hop.md⟩) q1,q2,by rw [vqt,q3];rfl⟩
 cases i with
 | bad=>cases hz
 | gd _ _ _ _=>exact hi.elim
 | cpy _ _ _ _ _ _=>exact hi.elim
 | f d g =>
  obtain ⟨rfl,hg'⟩:=hi;have hok:=hg' e h f hR.free (ve7 hd hN hR.ge);have hz':onRD (qjn o.dst) e h f k (g e h f)=.st e1 h1 f1 es:=hz;generalize g e h f=r at hok hz';cases r with
  | no=>cases hz'
  | v x rs =>
   simp only [q53,hR.evf,←hR.heap] at hok;exact fin x [] rs _ _ _ hok (hR.put o.dst x) hz'
  | w x l ob rs =>
   simp only [q53,hR.evf,←hR.heap] at hok;have hz2:(bif vt2 l f then qo7 ⟨[(l,ob)],rs⟩ (k (qqv e (qjn o.dst) x) (qxs h l ob) f) else .bad)=DR.st e1 h1 f1 es:=hz';cases hl:vt2 l f with
   | false=>rw [hl] at hz2;cases hz2
   | true =>
    rw [hl,cond_true] at hz2;exact fin x [(l,ob)] rs _ _ _ hok (hR.set (va2.1 hl) o.dst x) hz2
  | new x ob rs =>
   simp only [q53,hR.evf,←hR.heap] at hok;exact fin x [(f,ob)] rs _ _ _ hok (hR.new o.dst x) hz'
 | call d fn args =>
  obtain ⟨rfl,fo,a,ats,ho',rfl,rfl⟩:=hi;have hz':vcg call (qjn o.dst) (vo e (opd fo)) ((a.toList.map opd).map (vo e)) e h f k (qkj (ho h) 5000 (qqu (vo e (opd fo))++qix ((a.toList.map opd).map (vo e))) [])=.st e1 h1 f1 es:=hz;rw [qfa,ve8,hR.evf] at hz';generalize hS:qkj (ho h) 5000 (qqu (ev st.env fo)++qix (a.toList.map (ev st.env))) []=oS at hz';cases oS with
  | none=>cases hz'
  | some S =>
  have hz2:(@KR.rec (fun _=>DR) .bad (fun x h' f'=>q2b (qjn o.dst) e h f k S x h' f' (qkj (ho h') 5000 (qqu x++S) [])) (call (ev st.env fo) (a.toList.map (ev st.env)) (mkH h S) f))=DR.st e1 h1 f1 es:=hz';obtain ⟨_,s2,s3⟩:=qn7 hS (by simp);have hgd:qkl h f:=⟨⟨st.heap,hR.heap⟩,hR.free,hR.ge⟩;generalize hc:call (ev st.env fo) (a.toList.map (ev st.env)) (mkH h S) f=r at hz2;cases r with
  | bad=>cases hz2
  | r x h' f' =>
  have hz3:q2b (qjn o.dst) e h f k S x h' f' (qkj (ho h') 5000 (qqu x++S) [])=DR.st e1 h1 f1 es:=hz2;generalize hS':qkj (ho h') 5000 (qqu x++S) []=oS' at hz3;cases oS' with
  | none=>cases hz3
  | some S' =>
  obtain ⟨_,s2',s3'⟩:=qn7 hS' (by simp);have hz4:(bif qtr f (qzy S S') then qo7 ⟨qkk h h' S S',S++qzy S S'⟩ (k (qqv e (qjn o.dst) x) (qzx h (qkk h h' S S')) f') else .bad)=DR.st e1 h1 f1 es:=hz3;cases hnw:qtr f (qzy S S') with
  | false=>rw [hnw] at hz4;cases hz4
  | true =>
  rw [hnw,cond_true] at hz4;have hgp:=hgd.part S;obtain ⟨kk,cs,c1,c2⟩:=hcall _ _ _ _ _ _ _ hgp.1 hgp.2.1 hgp.2.2 hc;have hg2:=hgood _ _ _ _ _ _ _ hgp hc;have hrefs:∀l∈qix (a.toList.map (ev st.env)++cs),l∈S:=by
   intro l hl;have happ:∀(xs ys:List AV),qix (xs++ys)=qix xs++qix ys:=by
    intro xs ys
    induction xs with
    | nil=>rfl
    | cons x xs ih=>simp only [vso,qix,ih,List.append_assoc]
   rw [happ] at hl;rcases vqv.1 hl with hl | hl
   ·exact s2 l (vtx _ hl)
   ·refine s2 l (vtw _ ?_);unfold qnm at c1;split at c1
    ·rename_i k' cs' heq;cases c1;exfalso;have:∀ps:List PV,qix (ps.map .p)=[]:=by
      intro ps
      induction ps with
      | nil=>rfl
      | cons p ps ih=>simp only [vqt,qix,ih];rfl
     rw [this] at hl;cases hl
    ·rename_i k' cs' heq;cases c1;rw [heq];exact hl
    ·cases c1
  have hop:=vcp (ρ:=ev st.env) ho' c1 c2 hrefs s3 (fun l hl=>s2' l (vtw _ hl)) (fun l hl=>s2' l (vtx _ hl)) s3' hR.free hnw;rw [←hR.heap] at hop;have hgo:=hgd.diff (S:=S) (S':=S') hg2 (hmono _ _ _ _ _ _ _ hc);refine fin x _ _ _ _ _ hop ⟨by rw [qz1,←hR.env];exact qjk _ _ _,?_,hgo.2.1,hgo.2.2⟩ hz4;rw [qxy,←hR.heap];exact qsi _ _
theorem vcq {call:qi4} (hcall:qo8 P call) (hgood:qk0 call) (hmono:∀v avs h f x h1 f1,call v avs h f=.r x h1 f1→f≤f1) (hP:C.P=P) (hN:C.N≤1000) {ops:Array Oper} {o:Oper} {rest:List Oper} {i:IOp} {k:KD} {e:Ty AV} {h:Ty AO} {f:Nat} {e1:Ty AV} {h1:Ty AO} {f1:Nat} {es:List EvW}
  (hi:IOk P C.N ops o i) (hR:RepV e h f st) (hz:qzz call i k e h f=.st e1 h1 f1 es) (hn:vif C ops rest k):∃ms st1,DChM C ops (o :: rest) st ms st1∧RepV e1 h1 f1 st1∧ms.map EvM.w=es:=by
 have plain:∀{o:Oper},o.guard=none→qaq ops st.env o=some true:=fun h=>by unfold qaq;rw [h]
 cases i with
 | bad=>cases hz
 | cpy _ _ _ _ _ _=>exact hi.2.2.elim
 | f d g=>exact qtw hcall hgood hmono hP hN (i:=.f d g) hi.2.2 hi.1 (plain hi.2.1) hR hz hn
 | call d fn args=>exact qtw hcall hgood hmono hP hN (i:=.call d fn args) hi.2.2 hi.1 (plain hi.2.1) hR hz hn
 | gd j want d i =>
  obtain ⟨hd,rfl,⟨kk,t,hg,ht,rfl⟩,hi⟩:=hi;have hz':vh6 want (qjn o.dst) e h f k (qzz call i k e h f) (eo e t)=.st e1 h1 f1 es:=hz;have hgA:qaq ops st.env o=match eo e t with | .p (.bool b)=>some (b == want) | .p (.tup [])=>some false | _=>none:=by
   unfold qaq;rw [hg];simp only [ht,hR.env];rfl
  have skip:qo7 ⟨[],[]⟩ (k (qqv e (qjn o.dst) (.p (.tup []))) h f)=.st e1 h1 f1 es→qaq ops st.env o=some false→∃ms st1,DChM C ops (o :: rest) st ms st1∧RepV e1 h1 f1 st1∧ms.map EvM.w=es:=fun hk hgf=>by
   obtain ⟨es',hk2,rfl⟩:=qgg hk;obtain ⟨ms,st1,q1,q2,q3⟩:=hn _ _ _ _ _ _ _ _ (hR.put o.dst (.p (.tup []))) hk2;exact ⟨⟨.p (.tup []),[],[]⟩ :: ms,st1,.cons hd (.inr ⟨hgf,rfl⟩) q1,q2,by rw [vqt,q3];rfl⟩
  unfold vh6 at hz';split at hz'
  ·rename_i b hb;rw [hb] at hgA;simp only at hgA;cases hbw:b == want with
   | true =>
    rw [hbw,cond_true] at hz';rw [hbw] at hgA;exact qtw hcall hgood hmono hP hN hi hd hgA hR hz' hn
   | false =>
    rw [hbw,cond_false] at hz';rw [hbw] at hgA;exact skip hz' hgA
  ·rename_i hb;rw [hb] at hgA;exact skip hz' hgA
  ·cases hz'
theorem q9p {call:qi4} (hcall:qo8 P call) (hgood:qk0 call) (hmono:∀v avs h f x h1 f1,call v avs h f=.r x h1 f1→f≤f1) (hP:C.P=P) (hN:C.N≤1000) {ops:Array Oper}:∀(l:List Oper),vif C ops l (vch call (l.map (qo6 P C.N ops)))
 | []=>fun e h f st e1 h1 f1 es hR hz=>by
  cases hz;exact ⟨[],st,.nil,hR,rfl⟩
 | o :: l=>fun e h f st e1 h1 f1 es hR hz=>vcq hcall hgood hmono hP hN (k:=vch call (l.map (qo6 P C.N ops))) (qsj P C.N ops o) hR hz (q9p hcall hgood hmono hP hN l)
theorem qsl:∀{ws:List (Nat×AO)} {s:List Nat},djK ws s=true→∀l∈ws.map (·.1),l ∉ s
 | [],_,_,l,hl=>by cases hl
 | (k,o) :: r,s,h,l,hl=>by
  simp only [djK,vpq,qnk,vpu,decide_eq_false_iff_not] at h;rcases vty.1 hl with rfl | hl
  ·exact h.1
  ·exact qsl h.2 l hl
theorem vcr {x y:EvM} (h:evW x.w y.w=true):vh4 x y:=by
 unfold evW at h;split at h
 ·rename_i h1 h2;have h1:x.us=[]:=h1;have h2:y.us=[]:=h2;unfold vh4 EvM.ks;rw [h1,h2];simp
 ·simp only [vpq] at h;obtain ⟨h1,h2,h3⟩:=h;exact ⟨fun l hl=>⟨qsl h1 l hl,qsl h2 l hl⟩,fun l hl=>qsl h3 l hl⟩
theorem qtx {es:List EvW}:∀{ps:List (Nat×Nat)},qp3 es ps=true→∀i j x y,(i,j)∈ps→nth es i=some x→nth es j=some y→evW x y=true
 | [],_,_,_,_,_,hm,_,_=>by cases hm
 | (a,b) :: r,h,i,j,x,y,hm,hx,hy=>by
  simp only [qp3,vpq] at h;rcases vty.1 hm with hm | hm
  ·cases hm;have:=h.1;rw [hx,hy] at this;exact this
  ·exact qtx h.2 i j x y hm hx hy
theorem vig {ops:Array Oper} {T:Nat} {ms:List EvM} (hl:ms.length≤T) (h:qp3 (ms.map EvM.w) (q9g ops T)=true):EvsM ops ms:=by
 intro i j x y hij hj hx hy;by_cases ha:qu8 (q3f ops ops.size) j i=true
 ·exact .inl (qj3 ha)
 ·refine .inr (vcr (qtx h i j x.w y.w ?_ (by rw [qp2,vqg,hx];rfl) (by rw [qp2,vqg,hy];rfl)));have hjT:j < T:=vrm (vqf.1 hy).1 hl;unfold q9g;refine vqw.2 ⟨j,vtc.2 hjT,List.mem_filterMap.2 ⟨i,vtc.2 hij,?_⟩⟩;have:qu8 (q3f ops ops.size) j i=false:=by simpa using ha
  rw [this];rfl
theorem qwf {call:qi4} (hm:∀v avs h f x h1 f1,call v avs h f=.r x h1 f1→f≤f1) {k:KD} {e1:Ty AV} {h1:Ty AO} {f1:Nat} (hk:∀e h f es,k e h f=.st e1 h1 f1 es→f≤f1):∀(i:IOp) {e:Ty AV} {h:Ty AO} {f:Nat} {es:List EvW},qzz call i k e h f=.st e1 h1 f1 es→f≤f1
 | .bad,_,_,_,_,hz=>by cases hz
 | .f d g,e,h,f,es,hz=>by
  have hz':onRD d e h f k (g e h f)=.st e1 h1 f1 es:=hz;generalize g e h f=r at hz';cases r with
  | no=>cases hz'
  | v x rs=>obtain ⟨es',hk2,_⟩:=qgg hz';exact hk _ _ _ _ hk2
  | w x l ob rs =>
   have hz2:(bif vt2 l f then qo7 ⟨[(l,ob)],rs⟩ (k (qqv e d x) (qxs h l ob) f) else .bad)=DR.st e1 h1 f1 es:=hz';cases hl:vt2 l f with
   | false=>rw [hl] at hz2;cases hz2
   | true =>
    rw [hl,cond_true] at hz2;obtain ⟨es',hk2,_⟩:=qgg hz2;exact hk _ _ _ _ hk2
  | new x ob rs=>obtain ⟨es',hk2,_⟩:=qgg hz';exact vt4 (hk _ _ _ _ hk2)
 | .call d fn args,e,h,f,es,hz=>by
  have hz':vcg call d (vo e fn) (args.map (vo e)) e h f k (qkj (ho h) 5000 (qqu (vo e fn)++qix (args.map (vo e))) [])=.st e1 h1 f1 es:=hz;generalize qkj (ho h) 5000 (qqu (vo e fn)++qix (args.map (vo e))) []=oS at hz';cases oS with
  | none=>cases hz'
  | some S =>
  have hz2:(@KR.rec (fun _=>DR) .bad (fun x h' f'=>q2b d e h f k S x h' f' (qkj (ho h') 5000 (qqu x++S) [])) (call (vo e fn) (args.map (vo e)) (mkH h S) f))=DR.st e1 h1 f1 es:=hz';generalize hc:call (vo e fn) (args.map (vo e)) (mkH h S) f=r at hz2;cases r with
  | bad=>cases hz2
  | r x h' f' =>
  have hz3:q2b d e h f k S x h' f' (qkj (ho h') 5000 (qqu x++S) [])=DR.st e1 h1 f1 es:=hz2;generalize qkj (ho h') 5000 (qqu x++S) []=oS' at hz3;cases oS' with
  | none=>cases hz3
  | some S' =>
  have hz4:(bif qtr f (qzy S S') then qo7 ⟨qkk h h' S S',S++qzy S S'⟩ (k (qqv e d x) (qzx h (qkk h h' S S')) f') else .bad)=DR.st e1 h1 f1 es:=hz3;cases hnw:qtr f (qzy S S') with
  | false=>rw [hnw] at hz4;cases hz4
  | true =>
  rw [hnw,cond_true] at hz4;obtain ⟨es',hk2,_⟩:=qgg hz4;exact vrl (hm _ _ _ _ _ _ _ hc) (hk _ _ _ _ hk2)
 | .gd j want d i,e,h,f,es,hz=>by
  have hz':vh6 want d e h f k (qzz call i k e h f) (Ty.get .any e j)=.st e1 h1 f1 es:=hz;unfold vh6 at hz';split at hz'
  ·rename_i b hb;cases hbw:b == want with
   | true=>rw [hbw,cond_true] at hz';exact qwf hm hk i hz'
   | false=>rw [hbw,cond_false] at hz';obtain ⟨es',hk2,_⟩:=qgg hz';exact hk _ _ _ _ hk2
  ·obtain ⟨es',hk2,_⟩:=qgg hz';exact hk _ _ _ _ hk2
  ·cases hz'
 | .cpy tA x y d1 d2 d3,_,_,_,_,hz=>by cases hz
theorem qz4 {call:qi4} (hm:∀v avs h f x h1 f1,call v avs h f=.r x h1 f1→f≤f1):∀(is:List IOp) {e:Ty AV} {h:Ty AO} {f:Nat} {e1:Ty AV} {h1:Ty AO} {f1:Nat} {es:List EvW},vch call is e h f=.st e1 h1 f1 es→f≤f1
 | [],_,_,_,_,_,_,_,hz=>by cases hz;exact vrj _
 | i :: is,_,_,_,_,_,_,_,hz=>qwf hm (k:=vch call is) (fun e h f es hz=>qz4 hm is hz) i hz
theorem qwg {call:qi4} (hm:∀v avs h f x h1 f1,call v avs h f=.r x h1 f1→f≤f1) {k:KE} {e1:Ty AV} {h1:Ty AO} {f1:Nat} (hk:∀e h f,k e h f=.st e1 h1 f1→f≤f1):∀(i:IOp) {e:Ty AV} {h:Ty AO} {f:Nat},qxv call i k e h f=.st e1 h1 f1→f≤f1
 | .bad,_,_,_,hz=>by cases hz
 | .f d g,e,h,f,hz=>by
  have hz':onRy d e h f k (g e h f)=.st e1 h1 f1:=hz;generalize g e h f=r at hz';cases r with
  | no=>cases hz'
  | v x rs=>exact hk _ _ _ hz'
  | w x l ob rs =>
   have hz2:(bif vt2 l f then k (qqv e d x) (qxs h l ob) f else .bad)=.st e1 h1 f1:=hz';cases hl:vt2 l f with
   | false=>rw [hl] at hz2;cases hz2
   | true=>rw [hl,cond_true] at hz2;exact hk _ _ _ hz2
  | new x ob rs=>exact vt4 (hk _ _ _ hz')
 | .call d fn args,e,h,f,hz=>by
  have hz':onK d e k (call (vo e fn) (args.map (vo e)) h f)=.st e1 h1 f1:=hz;generalize hr:call (vo e fn) (args.map (vo e)) h f=r at hz';cases r with
  | bad=>cases hz'
  | r x h2 f2=>exact vrl (hm _ _ _ _ _ _ _ hr) (hk _ _ _ hz')
 | .gd j want d i,e,h,f,hz=>by
  have hz':vh5 want d e h f k (qxv call i k e h f) (Ty.get .any e j)=.st e1 h1 f1:=hz;unfold vh5 at hz';split at hz'
  ·rename_i b hb;cases hbw:b == want with
   | true=>rw [hbw,cond_true] at hz';exact qwg hm hk i hz'
   | false=>rw [hbw,cond_false] at hz';exact hk _ _ _ hz'
  ·exact hk _ _ _ hz'
  ·cases hz'
 | .cpy tA x y d1 d2 d3,e,h,f,hz=>by
  have hz':q2a tA (vo e x) (vo e y) d1 d2 d3 e h f k=.st e1 h1 f1:=hz;unfold q2a at hz';split at hz'
  case h_2=>cases hz'
  split at hz'
  case h_2=>cases hz'
  split at hz'
  case h_2=>cases hz'
  generalize (_ && _)=c at hz';cases c with
  | false=>cases hz'
  | true=>exact hk _ _ _ hz'
theorem qty {call:qi4} (hm:∀v avs h f x h1 f1,call v avs h f=.r x h1 f1→f≤f1):∀(is:List IOp) {e:Ty AV} {h:Ty AO} {f:Nat} {e1:Ty AV} {h1:Ty AO} {f1:Nat},q3u call is e h f=.st e1 h1 f1→f≤f1
 | [],_,_,_,_,_,_,hz=>by cases hz;exact vrj _
 | i :: is,_,_,_,_,_,_,hz=>qwg hm (k:=q3u call is) (fun e h f hz=>qty hm is hz) i hz
theorem qwh {call:qi4} (hc:qk0 call) (hm:∀v avs h f x h1 f1,call v avs h f=.r x h1 f1→f≤f1) {k:KD} {e1:Ty AV} {h1:Ty AO} {f1:Nat} (hk:∀e h f es,qkl h f→k e h f=.st e1 h1 f1 es→qkl h1 f1):∀(i:IOp) {e:Ty AV} {h:Ty AO} {f:Nat} {es:List EvW},qkl h f→qzz call i k e h f=.st e1 h1 f1 es→qkl h1 f1
 | .bad,_,_,_,_,_,hz=>by cases hz
 | .f d g,e,h,f,es,hg,hz=>by
  have hz':onRD d e h f k (g e h f)=.st e1 h1 f1 es:=hz;generalize g e h f=r at hz';cases r with
  | no=>cases hz'
  | v x rs=>obtain ⟨es',hk2,_⟩:=qgg hz';exact hk _ _ _ _ hg hk2
  | w x l ob rs =>
   have hz2:(bif vt2 l f then qo7 ⟨[(l,ob)],rs⟩ (k (qqv e d x) (qxs h l ob) f) else .bad)=DR.st e1 h1 f1 es:=hz';cases hl:vt2 l f with
   | false=>rw [hl] at hz2;cases hz2
   | true =>
    rw [hl,cond_true] at hz2;obtain ⟨es',hk2,_⟩:=qgg hz2;exact hk _ _ _ _ (hg.set (va2.1 hl)) hk2
  | new x ob rs=>obtain ⟨es',hk2,_⟩:=qgg hz';exact hk _ _ _ _ hg.new hk2
 | .call d fn args,e,h,f,es,hg,hz=>by
  have hz':vcg call d (vo e fn) (args.map (vo e)) e h f k (qkj (ho h) 5000 (qqu (vo e fn)++qix (args.map (vo e))) [])=.st e1 h1 f1 es:=hz;generalize qkj (ho h) 5000 (qqu (vo e fn)++qix (args.map (vo e))) []=oS at hz';cases oS with
  | none=>cases hz'
  | some S =>
  have hz2:(@KR.rec (fun _=>DR) .bad (fun x h' f'=>q2b d e h f k S x h' f' (qkj (ho h') 5000 (qqu x++S) [])) (call (vo e fn) (args.map (vo e)) (mkH h S) f))=DR.st e1 h1 f1 es:=hz';generalize hcc:call (vo e fn) (args.map (vo e)) (mkH h S) f=r at hz2;cases r with
  | bad=>cases hz2
  | r x h' f' =>
  have hz3:q2b d e h f k S x h' f' (qkj (ho h') 5000 (qqu x++S) [])=DR.st e1 h1 f1 es:=hz2;generalize qkj (ho h') 5000 (qqu x++S) []=oS' at hz3;cases oS' with
  | none=>cases hz3
  | some S' =>
  have hz4:(bif qtr f (qzy S S') then qo7 ⟨qkk h h' S S',S++qzy S S'⟩ (k (qqv e d x) (qzx h (qkk h h' S S')) f') else .bad)=DR.st e1 h1 f1 es:=hz3;cases hnw:qtr f (qzy S S') with
  | false=>rw [hnw] at hz4;cases hz4
  | true =>
  rw [hnw,cond_true] at hz4;obtain ⟨es',hk2,_⟩:=qgg hz4;exact hk _ _ _ _ (hg.diff (hc _ _ _ _ _ _ _ (hg.part S) hcc) (hm _ _ _ _ _ _ _ hcc)) hk2
 | .gd j want d i,e,h,f,es,hg,hz=>by
  have hz':vh6 want d e h f k (qzz call i k e h f) (Ty.get .any e j)=.st e1 h1 f1 es:=hz;unfold vh6 at hz';split at hz'
  ·rename_i b hb;cases hbw:b == want with
   | true=>rw [hbw,cond_true] at hz';exact qwh hc hm hk i hg hz'
   | false=>rw [hbw,cond_false] at hz';obtain ⟨es',hk2,_⟩:=qgg hz';exact hk _ _ _ _ hg hk2
  ·obtain ⟨es',hk2,_⟩:=qgg hz';exact hk _ _ _ _ hg hk2
  ·cases hz'
 | .cpy tA x y d1 d2 d3,_,_,_,_,_,hz=>by cases hz
theorem qz5 {call:qi4} (hc:qk0 call) (hm:∀v avs h f x h1 f1,call v avs h f=.r x h1 f1→f≤f1):∀(is:List IOp) {e:Ty AV} {h:Ty AO} {f:Nat} {e1:Ty AV} {h1:Ty AO} {f1:Nat} {es:List EvW},qkl h f→vch call is e h f=.st e1 h1 f1 es→qkl h1 f1
 | [],_,_,_,_,_,_,_,hg,hz=>by cases hz;exact hg
 | i :: is,_,_,_,_,_,_,_,hg,hz=>qwh hc hm (k:=vch call is) (fun e h f es hg hz=>qz5 hc hm is hg hz) i hg hz
end Go.Ab
namespace Go.Ab
open Go
set_option linter.constructorNameAsVariable false
variable {P:Program} {C:Cx} {Q:Exit→St→Prop} {st:St}
def qp6 (ih:qme):Prop:=∀(N:Nat) (c:Code) (e:Ty AV) (h:Ty AO) (f:Nat) (ex:Exit) (e1:Ty AV) (h1:Ty AO) (f1:Nat),ih N c e h f=.r ex e1 h1 f1→f≤f1
theorem vcs {e:Ty AV} {h:Ty AO} {f:Nat} {rs:List ResultVar} {x:AV} {h1:Ty AO} {f1:Nat} (hz:rsK P e h f rs=.r x h1 f1):h1=h∧f1=f:=by
 unfold rsK at hz;split at hz <;> cases hz <;> exact ⟨rfl,rfl⟩
theorem qz6 {ext:Ext} {ih:qme} {k:FuncId} {avs:List AV} {h:Ty AO} {f:Nat} {x:AV} {h1:Ty AO} {f1:Nat} (hz:qve P ext ih k avs h f=.r x h1 f1):(h1=h∧f1=f)∨∃N c ex e1,ih N c (qr5 0 avs .e) h f=.r ex e1 h1 f1:=by
 unfold qve at hz;split at hz
 ·split at hz
  ·split at hz
   ·cases hz;exact .inl ⟨rfl,rfl⟩
   ·cases hz
  ·cases hz
 ·cases hc:vck P k with
  | bad=>rw [hc] at hz;cases hz
  | r N c rs =>
   rw [hc] at hz;have hz':(bif vt1 avs.length N && vt1 1000 f then vic P rs (ih N c (qr5 0 avs .e) h f) else .bad)=KR.r x h1 f1:=hz;cases hcc:vt1 avs.length N && vt1 1000 f with
   | false=>rw [hcc] at hz';cases hz'
   | true =>
   rw [hcc,cond_true] at hz';generalize hrun:ih N c (qr5 0 avs .e) h f=cr at hz';cases cr with
   | bad=>cases hz'
   | r ex e1 h2 f2 =>
    have hres:rsK P e1 h2 f2 rs=.r x h1 f1:=by cases ex <;> first | exact hz' | cases hz'
    obtain ⟨rfl,rfl⟩:=vcs hres;exact .inr ⟨N,c,ex,e1,hrun⟩
theorem q2e {ext:Ext} {ih:qme} {v:AV} {avs:List AV} {h:Ty AO} {f:Nat} {x:AV} {h1:Ty AO} {f1:Nat} (hz:qp4 P ext ih v avs h f=.r x h1 f1):∃k cs,qnm v=some (k,cs)∧qve P ext ih k (avs++cs) h f=.r x h1 f1:=by
 unfold qp4 at hz;split at hz
 ·exact ⟨_,_,rfl,hz⟩
 ·exact ⟨_,_,rfl,hz⟩
 ·cases hz
theorem qq6 {ext:Ext} {ih:qme} (hm:qp6 ih):∀v avs h f x h1 f1,qp4 P ext ih v avs h f=.r x h1 f1→f≤f1:=by
 intro v avs h f x h1 f1 hz;obtain ⟨k,cs,_,hz⟩:=q2e hz;rcases qz6 hz with ⟨_,rfl⟩ | ⟨N,c,ex,e1,hr⟩
 ·exact vrj _
 ·exact hm _ _ _ _ _ _ _ _ _ hr
theorem qwi {ext:Ext} {ih:qme} (hg:qn8 ih):qk0 (qp4 P ext ih):=by
 intro v avs h f x h1 f1 hgd hz;obtain ⟨k,cs,_,hz⟩:=q2e hz;rcases qz6 hz with ⟨rfl,rfl⟩ | ⟨N,c,ex,e1,hr⟩
 ·exact hgd
 ·exact hg _ _ _ _ _ _ _ _ _ hgd hr
theorem vct (hB:q3v P) {ext:Ext} (hE:q9j P ext) {ih:qme} (hi:qxw P ih) (hgd:qn8 ih):qo8 P (qp4 P ext ih):=by
 intro v avs h f x h1 f1 hl hf hge hz;obtain ⟨k,cs,hc,hz⟩:=q2e hz;exact ⟨k,cs,hc,q3x hB hE hi hgd hl hf hge hz⟩
theorem qq7 {k:Ty AV→Ty AO→Nat→CR} {r:CR} {ex:Exit} {e1:Ty AV} {h1:Ty AO} {f1:Nat} (hz:vh9 k r=.r ex e1 h1 f1):(∃e h f,r=.r .normal e h f∧k e h f=.r ex e1 h1 f1)∨(r=.r ex e1 h1 f1∧ex≠.normal):=by
 cases r with
 | bad=>cases hz
 | r x e h f =>
  cases x with
  | normal=>exact .inl ⟨e,h,f,rfl,hz⟩
  | _=>refine .inr ⟨?_,?_⟩ <;> cases hz <;> first | rfl | exact fun h=>by cases h
theorem qtz {id:Nat} {r:CR} {ex:Exit} {e1:Ty AV} {h1:Ty AO} {f1:Nat} (hz:q9h id r=.r ex e1 h1 f1):(r=.r (.exit id) e1 h1 f1∧ex=.normal)∨(r=.r ex e1 h1 f1∧ex≠.exit id):=by
 cases r with
 | bad=>cases hz
 | r x e h f =>
  cases x with
  | exit i =>
   have hz':(bif vt0 i id then CR.r .normal e h f else .r (.exit i) e h f)=.r ex e1 h1 f1:=hz;rw [quw] at hz';by_cases hi:i=id
   ·subst hi;simp only [decide_true,cond_true] at hz';cases hz';exact .inl ⟨rfl,rfl⟩
   ·simp only [hi,decide_false,cond_false] at hz';cases hz';exact .inr ⟨rfl,fun h=>hi (by cases h;rfl)⟩
  | _=>refine .inr ⟨?_,?_⟩ <;> cases hz <;> first | rfl | exact fun h=>by cases h
theorem q9q {r:EZ} {ex:Exit} {e1:Ty AV} {h1:Ty AO} {f1:Nat} (hz:q9i r=.r ex e1 h1 f1):r=.st e1 h1 f1∧ex=.normal:=by
 cases r with
 | bad=>cases hz
 | st e h f=>cases hz;exact ⟨rfl,rfl⟩
theorem vih {call:qi4} {ps:List (Nat×Nat)} {post:List IOp} {r:DR} {ex:Exit} {e1:Ty AV} {h1:Ty AO} {f1:Nat} (hz:vib call ps post r=.r ex e1 h1 f1):∃e h f es,r=.st e h f es∧qp3 es ps=true∧q3u call post e h f=.st e1 h1 f1∧ex=.normal:=by
 cases r with
 | bad=>cases hz
 | st e h f es =>
  have hz':(bif qp3 es ps then q9i (q3u call post e h f) else .bad)=CR.r ex e1 h1 f1:=hz;cases hp:qp3 es ps with
  | false=>rw [hp] at hz';cases hz'
  | true =>
   rw [hp,cond_true] at hz';obtain ⟨q1,q2⟩:=q9q hz';exact ⟨e,h,f,es,rfl,hp,q1,q2⟩
structure CodeAll (P:Program) (ih:qme):Prop where
 mono:qp6 ih
 good:qn8 ih
 ok:qxw P ih
theorem qx2 {N id:Nat} {l:Array Oper} {d:Bool} {ext:Ext} {ih:qme} {e:Ty AV} {h:Ty AO} {f:Nat} {ex:Exit} {e1:Ty AV} {h1:Ty AO} {f1:Nat} (hz:q57 P ext ih N (.region id l d) e h f=.r ex e1 h1 f1) :
  ex=.normal∧((d=false∧q3u (qp4 P ext ih) (qxu P N l l.toList) e h f=.st e1 h1 f1) ∨
   (d=true∧qgm l=true∧∃T e2 h2 f2 es,qtq l T=true∧T≤l.size∧vch (qp4 P ext ih) ((l.toList.take T).map (qo6 P N l)) e h f=.st e2 h2 f2 es∧qp3 es (q9g l T)=true ∧
    q3u (qp4 P ext ih) ((l.toList.drop T).map (qo6 P N l)) e2 h2 f2=.st e1 h1 f1)):=by
 cases d with
 | false =>
  have hz':q9i (q3u (qp4 P ext ih) (qxu P N l l.toList) e h f)=.r ex e1 h1 f1:=hz;obtain ⟨q1,q2⟩:=q9q hz';exact ⟨q2,.inl ⟨rfl,q1⟩⟩
 | true =>
  generalize hT:vh7 l l.size 0=T at hz;have hcomp:vmt P N (.region id l true)=vh8 P N l T:=by rw [←hT];rfl
  unfold q57 at hz;rw [hcomp] at hz;unfold vh8 at hz;cases hc:qgm l && (qtq l T && vt1 T l.size) with
  | false=>rw [hc] at hz;cases hz
  | true =>
   rw [hc,cond_true] at hz;simp only [vpq] at hc;have hz':vib (qp4 P ext ih) (q9g l T) ((l.toList.drop T).map (qo6 P N l)) (vch (qp4 P ext ih) ((l.toList.take T).map (qo6 P N l)) e h f)=.r ex e1 h1 f1:=hz;obtain ⟨e2,h2,f2,es,q1,q2,q3,q4⟩:=vih hz';exact ⟨q4,.inr ⟨rfl,hc.1,T,e2,h2,f2,es,hc.2.1,vt3 hc.2.2,q1,q2,q3⟩⟩
theorem q58 {ext:Ext} {ih:qme} (hm:qp6 ih):qp6 (q57 P ext ih):=by
 intro N c e h f ex e1 h1 f1 hz;have hcm:=qq6 (P:=P) (ext:=ext) hm;cases c with
 | skip=>cases hz;exact vrj _
 | ret=>cases hz;exact vrj _
 | exit id=>cases hz;exact vrj _
 | seq a b =>
  rcases qq7 (k:=fun e h f=>ih N b e h f) (r:=ih N a e h f) hz with ⟨e2,h2,f2,q1,q2⟩ | ⟨q1,_⟩
  ·exact vrl (hm _ _ _ _ _ _ _ _ _ q1) (hm _ _ _ _ _ _ _ _ _ q2)
  ·exact hm _ _ _ _ _ _ _ _ _ q1
 | cond x a b =>
  have hz':qts (vo e (opd x)) (ih N a e h f) (ih N b e h f)=.r ex e1 h1 f1:=hz;unfold qts at hz';split at hz'
  ·rename_i t _;cases t
   ·exact hm _ _ _ _ _ _ _ _ _ hz'
   ·exact hm _ _ _ _ _ _ _ _ _ hz'
  ·cases hz'
 | block id b =>
  rcases qtz (r:=ih N b e h f) hz with ⟨q1,_⟩ | ⟨q1,_⟩
  ·exact hm _ _ _ _ _ _ _ _ _ q1
  ·exact hm _ _ _ _ _ _ _ _ _ q1
 | loop b =>
  rcases qq7 (k:=fun e h f=>ih N (.loop b) e h f) (r:=ih N b e h f) hz with ⟨e2,h2,f2,q1,q2⟩ | ⟨q1,_⟩
  ·exact vrl (hm _ _ _ _ _ _ _ _ _ q1) (hm _ _ _ _ _ _ _ _ _ q2)
  ·exact hm _ _ _ _ _ _ _ _ _ q1
 | region id l d =>
  obtain ⟨_,⟨_,q⟩ | ⟨_,_,T,e2,h2,f2,es,_,_,q1,_,q2⟩⟩:=qx2 hz
  ·exact qty hcm _ q
  ·exact vrl (qz4 hcm _ q1) (qty hcm _ q2)
 | _=>cases hz
theorem q59 {ext:Ext} {ih:qme} (hm:qp6 ih) (hg:qn8 ih):qn8 (q57 P ext ih):=by
 intro N c e h f ex e1 h1 f1 hgd hz;have hcm:=qq6 (P:=P) (ext:=ext) hm;have hcg:=qwi (P:=P) (ext:=ext) hg;cases c with
 | skip=>cases hz;exact hgd
 | ret=>cases hz;exact hgd
 | exit id=>cases hz;exact hgd
 | seq a b =>
  rcases qq7 (k:=fun e h f=>ih N b e h f) (r:=ih N a e h f) hz with ⟨e2,h2,f2,q1,q2⟩ | ⟨q1,_⟩
  ·exact hg _ _ _ _ _ _ _ _ _ (hg _ _ _ _ _ _ _ _ _ hgd q1) q2
  ·exact hg _ _ _ _ _ _ _ _ _ hgd q1
 | cond x a b =>
  have hz':qts (vo e (opd x)) (ih N a e h f) (ih N b e h f)=.r ex e1 h1 f1:=hz;unfold qts at hz';split at hz'
  ·rename_i t _;cases t
   ·exact hg _ _ _ _ _ _ _ _ _ hgd hz'
   ·exact hg _ _ _ _ _ _ _ _ _ hgd hz'
  ·cases hz'
 | block id b =>
  rcases qtz (r:=ih N b e h f) hz with ⟨q1,_⟩ | ⟨q1,_⟩
  ·exact hg _ _ _ _ _ _ _ _ _ hgd q1
  ·exact hg _ _ _ _ _ _ _ _ _ hgd q1
 | loop b =>
  rcases qq7 (k:=fun e h f=>ih N (.loop b) e h f) (r:=ih N b e h f) hz with ⟨e2,h2,f2,q1,q2⟩ | ⟨q1,_⟩
  ·exact hg _ _ _ _ _ _ _ _ _ (hg _ _ _ _ _ _ _ _ _ hgd q1) q2
  ·exact hg _ _ _ _ _ _ _ _ _ hgd q1
 | region id l d =>
  obtain ⟨_,⟨_,q⟩ | ⟨_,_,T,e2,h2,f2,es,_,_,q1,_,q2⟩⟩:=qx2 hz
  ·exact qtv hcg _ hgd q
  ·exact qtv hcg _ (qz5 hcg hcm _ hgd q1) q2
 | _=>cases hz
theorem q9r (hB:q3v P) (hmo:P.follows .mixedOrders=true) {ext:Ext} (hE:q9j P ext) (n:Nat):CodeAll P (qp5 P ext n):=by
 induction n using vtn with
 | _ n ihs =>
 cases n with
 | zero =>
  refine ⟨?_,?_,?_⟩
  ·intro N c e h f ex e1 h1 f1 hz;cases hz
  ·intro N c e h f ex e1 h1 f1 _ hz;cases hz
  ·intro C c e h f ex e1 h1 f1 st Q _ _ hz;cases hz
 | succ n =>
  obtain ⟨hm,hg,hi⟩:=ihs n (vrn n);refine ⟨q58 (P:=P) (ext:=ext) hm,q59 (P:=P) (ext:=ext) hm hg,?_⟩;have hcm:=qq6 (P:=P) (ext:=ext) hm;have hcg:=qwi (P:=P) (ext:=ext) hg;have hco:=vct hB hE hi hg;intro C c e h f ex e1 h1 f1 st Q hP hN hz hR hQ;have hz:q57 P ext (qp5 P ext n) C.N c e h f=.r ex e1 h1 f1:=hz;cases c with
  | skip=>cases hz;exact qxa (hQ st hR)
  | ret=>cases hz;exact qxb (hQ st hR)
  | exit id=>cases hz;exact q3c (hQ st hR)
  | seq a b =>
   rcases qq7 (k:=fun e h f=>qp5 P ext n C.N b e h f) (r:=qp5 P ext n C.N a e h f) hz with ⟨e2,h2,f2,q1,q2⟩ | ⟨q1,hne⟩
   ·exact qmd (hi C a _ _ _ _ _ _ _ st _ hP hN q1 hR fun st1 hR1=>hi C b _ _ _ _ _ _ _ st1 Q hP hN q2 hR1 hQ)
   ·refine qmd (hi C a _ _ _ _ _ _ _ st _ hP hN q1 hR fun st1 hR1=>?_);have:=hQ st1 hR1;cases ex <;> first | exact (hne rfl).elim | exact this
  | cond x a b =>
   have hz':qts (vo e (opd x)) (qp5 P ext n C.N a e h f) (qp5 P ext n C.N b e h f)=.r ex e1 h1 f1:=hz;unfold qts at hz';split at hz'
   ·rename_i t ht;rw [qfa,hR.evf] at ht;refine qxc ht (fun hh=>?_) fun hh=>?_
    ·subst hh;exact hi C a _ _ _ _ _ _ _ st Q hP hN hz' hR hQ
    ·subst hh;exact hi C b _ _ _ _ _ _ _ st Q hP hN hz' hR hQ
   ·cases hz'
  | block id b =>
   rcases qtz (r:=qp5 P ext n C.N b e h f) hz with ⟨q1,rfl⟩ | ⟨q1,hne⟩
   ·refine qs0 (hi C b _ _ _ _ _ _ _ st _ hP hN q1 hR fun st1 hR1=>?_);simp only [qnc,if_true];exact hQ st1 hR1
   ·refine qs0 (hi C b _ _ _ _ _ _ _ st _ hP hN q1 hR fun st1 hR1=>?_);have:=hQ st1 hR1;cases ex with
    | exit i =>
     simp only [qnc];rw [if_neg (fun h=>hne (by rw [h]))];exact this
    | _=>exact this
  | loop b =>
   have key:∀m,m≤n+1→∀e h f st,qp5 P ext m C.N (.loop b) e h f=.r ex e1 h1 f1→RepV e h f st→∀inj a w,SR C st inj a w→Code.rounds C.P b (vbe C Q) m a w:=by
    intro m
    induction m with
    | zero=>intro _ e h f st h;cases h
    | succ m ihm =>
     intro hmn e h f st hz hR inj a w hs;have hi':qxw P (qp5 P ext m):=(ihs m (by omega)).ok;rw [rounds_succ];rcases qq7 (k:=fun e h f=>qp5 P ext m C.N (.loop b) e h f) (r:=qp5 P ext m C.N b e h f) hz with ⟨e2,h2,f2,q1,q2⟩ | ⟨q1,hne⟩
     ·refine wp_mono (hi' C b _ _ _ _ _ _ _ st (fun e s=>e=.normal∧RepV e2 h2 f2 s) hP hN q1 hR (fun s hs=>⟨rfl,hs⟩) inj a w hs) ?_;rintro e' a' w' ⟨s,i,h2,rfl,h3⟩;exact ihm (by omega) _ _ _ s q2 h3 i a' w' h2
     ·refine wp_mono (hi' C b _ _ _ _ _ _ _ st (fun e s=>e=ex∧Q e s) hP hN q1 hR (fun s h=>⟨rfl,hQ s h⟩) inj a w hs) ?_;rintro e' a' w' ⟨s,i,h2,rfl,h3⟩;cases e' <;> first | exact (hne rfl).elim | exact ⟨s,i,h2,h3⟩
   intro inj a w hs;exact wp_loop_rounds (n+1) (key (n+1) (vrj _) e h f st hz hR inj a w hs)
  | region id l d =>
   subst hP;have hl:l=l.toList.toArray:=by simp
   obtain ⟨rfl,⟨rfl,q⟩ | ⟨rfl,hsl,T,e2,h2,f2,es,hT1,hT2,q1,hpw,q2⟩⟩:=qx2 hz
   ·have:=qjs (C:=C) (id:=id) (l:=l.toList) (q9l hco rfl hN (by rw [←hl];exact ILs.comp C.P C.N l _ l.toList (vrj _)) hR q hQ);rw [←hl] at this;exact this
   ·obtain ⟨ms,st1,d1,d2,d3⟩:=q9p hco hcg hcm rfl hN (l.toList.take T) e h f st e2 h2 f2 es hR q1;have hlen:ms.length≤T:=by
     have:=(d1.chain 0 (fun j hj=>by
      rw [vqr] at hj;rw [vqj,if_pos (by omega)];simp)).1
     rw [this,vqr];omega
    have hev:=vig (ops:=l) hlen (by rw [d3];exact hpw);have:=q56 (C:=C) T (id:=id) (l:=l.toList) (Q:=Q) hmo (by rw [←hl];exact hsl) (by simpa using hT2) (by rw [←hl];exact hT1) (by rw [←hl];exact d1) (by rw [←hl];exact hev)
     (q9l hco rfl hN (by rw [←hl];exact ILs.map C.P C.N l _) d2 q2 hQ)
    rw [←hl] at this;exact this
  | _=>cases hz
theorem vcu (hB : (P.funcs.all fun fn => !(fn.name == "runtime.NumGoroutine")) = true) (hmo : P.follows .mixedOrders = true) {ext : Ext} (hE : q9j P ext) {n : Nat} {k : FuncId} {args : List PV} {x : AV} {h1 : Ty AO} {f1 : Nat} {r : PV} {D : Prop}
  (hz:qve P ext (qp5 P ext n) k (args.map .p) .e 1000=.r x h1 f1) (hv:(qdx (fun _=>true) 9 x).run (ho h1)=some r):ven D P k args r:=by
 obtain ⟨hm,hg,hi⟩:=q9r (qz0 hB) hmo hE n;obtain ⟨_,_,_,_,hW⟩:=q3x (qz0 hB) hE hi hg ⟨[],vjs.symm⟩ (fun l _=>by rw [vjs];rfl) (vrj _) hz;intro X w vs hX hT hargs;have hnoF:∀b,¬F (fun _=>none) (ho .e) b:=by
  rintro b ⟨l,c,o,h1,h2,_⟩;rw [vjs] at h1;simp only [qcq] at h1;subst h1;cases h2
 have keep:Keeps X (fun b=>X b∨F (fun _=>none) (ho .e) b) w w:=⟨vrj _,fun _ _ _=>rfl,fun b _ hx hn=>hn.elim hx (hnoF b)⟩;have hr:HR X (fun _=>none) (ho .e) w:=by
  refine ⟨fun l o ho'=>?_,fun l l' o o' b c c' h1 h2 h3=>?_,hX⟩
  ·rw [vjs] at ho';simp only [qcq] at ho';subst ho';trivial
  ·rw [vjs] at h1;simp only [qcq] at h1;subst h1;cases h3
 refine (hW D X (fun _=>none) w vs hr (hT.keep keep) (qbc.2 (PRs.keep keep args vs hargs))).mono ?_;rintro e w' ⟨val,rfl,inj',q1,q2,q3⟩;refine ⟨val,rfl,?_,⟨q2.os,q2.tape,q2.output,q2.dr,q2.size,q2.fz,fun b hb=>q2.blk b hb (hnoF b)⟩⟩;have:=qdq q1 (fun _=>true) 9 x val r q3 hv;exact PR.keep ⟨vrj _,fun _ _ _=>rfl,fun b _ hx hn=>hx (.inl hn)⟩ r val this
end Go.Ab
