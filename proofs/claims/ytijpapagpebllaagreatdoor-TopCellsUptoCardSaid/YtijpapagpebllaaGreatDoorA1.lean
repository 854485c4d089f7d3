/- -/
import Derived.WalkKit
import Derived.ProofKit
import Derived.Laws.OwnMore
import Derived.Lib.Strings
import Derived.WalkSpells
import Derived.Laws.StructEq
import Derived.Laws.IdiomStrings
import Derived.Laws.BytesString
import Derived.MapKept
import Derived.Carry
import Derived.Great.BuildSlice
import Derived.Deep.LoopGhost
set_option linter.unusedVariables false
set_option linter.unusedSimpArgs false
open Array renaming eq_empty_of_size_eq_zero->v5a,ext'->v5b,getElem?_append->v5c,getElem?_eq_some_iff->v5d,getElem?_setIfInBounds_ne->v5e,length_toList->v5f,size_append->v5g,toList_push->v5h
open Bool renaming and_eq_true->v5i,and_true->v5j,false_eq_true->v5k,not_eq_false->v5l,not_eq_true'->v5m,true_eq_false->v5n
open Go.Lib renaming run_eql_slice_nil->v5o,size_eq->v5p
open List renaming all_cons->v5q,append_assoc->v5r,append_nil->v5s,cons->v5t,drop_eq_getElem_cons->v5u,drop_of_length_le->v5v,drop_succ_cons->v5w,eq_nil_of_length_eq_zero->v5x,ext_getElem?->v5y,forIn_cons->v5z,getElem?_drop->v51,getElem?_eq_getElem->v52,getElem?_eq_none->v54,getElem?_eq_some_iff->v56,getElem?_replicate->v58,getElem?_take->v59,headD_cons->v6a,length_append->v6b,length_drop->v6c,length_map->v6d,length_nil->v6e,length_set->v6f,length_take->v6g,map_append->v6h,map_cons->v6i,map_nil->v6j,mem_append->v6k,mem_flatMap->v6l,mem_of_getElem?->v6m,mem_of_mem_drop->v6n,mem_of_mem_take->v6o,mem_or_eq_of_mem_set->v6p,mem_replicate->v6q,nil_append->v6r,range->v6s,range_eq_range'->v6t,replicate->v6u,size_toArray->v6v,take_append->v6w,take_left'->v6x,take_of_length_le->v6y,take_zero->v6z,zip_cons_cons->v60
open Nat renaming add_assoc->v61,add_mul->v62,add_zero->v65,div_add_mod->v67,div_lt_of_lt_mul->v68,le_of_lt->v69,le_refl->v7a,le_succ->v7b,le_trans->v7c,lt_of_lt_of_le->v7d,lt_succ_self->v7e,mod_lt->v7f,mul_comm->v7g,mul_le_mul_right->v7h,one_mul->v7i,pos_of_ne_zero->v7j,sub_zero->v7k,zero_add->v7l
open Option renaming bind_some->v7m,getD_none->v7n,getD_some->v7o,isSome_iff_exists->v7p,map_eq_some_iff->v7q,map_some->v7r
open Option.some renaming injEq->v7s
open Prod.mk renaming injEq->v7t
open Go.Result renaming andThen_ok->v7u
open Go.Sem renaming run->v7v,run_bind->v7w,run_pure->v7x
noncomputable section
namespace Go.Ab
open Go
section
inductive PV where
 |int (k:IntKind) (n:Int)
 |bool (b:Bool)
 |str (s:List UInt8)
 |nilp|nilf|nili|nilm
 |slc (es:List PV)
 |nnil (es:List PV)
 |clip (es:List PV)
 |imm (cs:List PV)
 |mapv (ks vs:List PV)
 |func (fn:Fn) (cs:List PV)
 |agg (cs:List PV)
 |tup (cs:List PV)
 |bfn (fn:Fn) (bs:List PV)
def q99(X:Nat->Prop)(w:World)(b o:Nat)(vs:List Value):Prop :=
 b<w.heap.size/\¬X b/\∀j u,vs[j]?=some u->w.cell? ⟨b,o+j,none⟩=some u
def flat(vs:List Value):List Value:=vs.flatMap fun v=>v.cells.toList
def qbp(vs:List Value):Prop:=∀u∈vs,u.oneCell'=true
def vaa(X:Nat->Prop)(w:World)(a:Option Addr)(vs:List Value):Prop :=
 vs=[]\/∃b o sz,a=some ⟨b,o,none⟩/\(∀v∈vs,v.cells.size=sz)/\qbp (flat vs)/\q99 X w b o (flat vs)
mutual
def PR(X:Nat->Prop)(w:World):PV->Value->Prop
 |.int k n,v=>v=.int k n
 |.bool b,v=>v=.bool b
 |.str s,v=>v=.string ⟨s.toArray⟩
 |.nilp,v=>v=.pointer none
 |.nilf,v=>v=.nilFunc
 |.nili,v=>v=.nilIface
 |.nilm,v=>v=.map none
 |.slc es,v=>∃a A vs,v=.slice a es.length A/\es.length<=A/\PRs X w es vs/\vaa X w a vs
 |.nnil es,v=>∃a A vs,v=.slice (some a) es.length A/\es.length<=A/\PRs X w es vs/\vaa X w (some a) vs
 |.clip es,v=>∃a vs,v=.slice a es.length es.length/\PRs X w es vs/\vaa X w a vs
 |.imm cs,v=>∃b o vs,v=.pointer (some ⟨b,o,none⟩)/\PRs X w cs vs/\qbp vs/\q99 X w b o vs
 | .mapv ks es,v=>(v=.map none∧ks=[]∧es=[])∨∃r H E,v=.map (some r)∧r < w.heap.size∧¬X r∧w.heap[r]?=some (.map H E) ∧
   PRs X w ks (H.toList.map (·.key))/\PRs X w es (H.toList.map (·.val))
 |.func fn cs,v=>∃vs,v=.func fn #[] vs.toArray/\PRs X w cs vs
 |.agg cs,v=>∃vs,v=.agg vs.toArray/\PRs X w cs vs/\qbp vs
 |.tup cs,v=>∃vs,v=.tuple vs.toArray/\PRs X w cs vs
 |.bfn fn bs,v=>∃vs,v=.func fn vs.toArray #[]/\PRs X w bs vs
def PRs(X:Nat->Prop)(w:World):List PV->List Value->Prop
 |[],vs=>vs=[]
 |p::ps,vs=>∃v r,vs=v::r/\PR X w p v/\PRs X w ps r
end
structure Keeps(X X':Nat->Prop)(w w':World):Prop where
 size:w.heap.size<=w'.heap.size
 blk:∀b,b<w.heap.size->¬X b->w'.heap[b]?=w.heap[b]?
 prot:∀b,b<w.heap.size->¬X b->¬X' b
def qoy:List Int:=[0,1,28,2,29,14,24,3,30,22,20,15,25,17,4,8,31,27,13,23,21,19,16,7,26,12,18,6,11,5,10,9]
def TabOk(P:Program)(X:Nat->Prop)(w:World):Prop :=
 ∀g,P.globalNamed "math/bits.deBruijn32tab" = some g->q99 X w g 0 (qoy.map (Value.int .u8))
theorem Keeps.refl(X:Nat->Prop)(w:World):Keeps X X w w:=⟨v7a _,fun _ _ _=>rfl,fun _ _ h=>h⟩
theorem q99.keep{X E w w' b o vs}(k:Keeps X E w w')(h:q99 X w b o vs):q99 E w' b o vs:=by
 obtain⟨h1,A,I⟩:=h;refine⟨v7d h1 k.size,k.prot b h1 A,fun j u H=>?_⟩;rw[World.cell?_of_block (w:=w) (w':=w') (a:=⟨b,o+j,none⟩) (k.blk b h1 A)];exact I j u H
theorem TabOk.keep{P:Program}{X A w w'}(k:Keeps X A w w')(h:TabOk P X w):TabOk P A w':=fun g E=>(h g E).keep k
mutual
theorem PR.keep{X O w w'}(k:Keeps X O w w'):∀(p:PV) (v:Value),PR X w p v->PR O w' p v
 |.int _ _,_,h=>h
 |.bool _,_,h=>h
 |.str _,_,h=>h
 |.nilp,_,h=>h
 |.nilf,_,h=>h
 |.nili,_,h=>h
 |.nilm,_,h=>h
 |.slc es,v,h=>by
  obtain⟨a,H,vs,h1,M,A,E⟩:=h
  refine⟨a,H,vs,h1,M,PRs.keep k es vs A,?_⟩
  rcases E with E|⟨b,o,sz,ha,J,ho,hr⟩
  ·exact .inl E
  ·exact .inr ⟨b,o,sz,ha,J,ho,hr.keep k⟩
 |.nnil es,v,h=>by
  obtain⟨a,H,vs,h1,M,A,E⟩:=h
  refine⟨a,H,vs,h1,M,PRs.keep k es vs A,?_⟩
  rcases E with E|⟨b,o,sz,ha,J,ho,hr⟩
  ·exact .inl E
  ·exact .inr ⟨b,o,sz,ha,J,ho,hr.keep k⟩
 |.clip es,v,h=>by
  obtain⟨a,vs,h1,A,E⟩:=h
  refine⟨a,vs,h1,PRs.keep k es vs A,?_⟩
  rcases E with E|⟨b,o,sz,ha,J,ho,hr⟩
  ·exact .inl E
  ·exact .inr ⟨b,o,sz,ha,J,ho,hr.keep k⟩
 |.imm cs,v,h=>by
  obtain⟨b,o,vs,h1,A,ho,E⟩:=h
  exact⟨b,o,vs,h1,PRs.keep k cs vs A,ho,E.keep k⟩
 |.mapv ks es,v,h=>by
  rcases h with h|⟨r,W,I,h1,A,E,V,U,Z⟩
  ·exact .inl h
  ·exact .inr ⟨r,W,I,h1,v7d A k.size,k.prot r A E,by rw[k.blk r A E];exact V,PRs.keep k ks _ U,PRs.keep k es _ Z⟩
 |.func fn cs,v,h=>by
  obtain⟨vs,h1,A⟩:=h
  exact⟨vs,h1,PRs.keep k cs vs A⟩
 |.agg cs,v,h=>by
  obtain⟨vs,h1,A,E⟩:=h
  exact⟨vs,h1,PRs.keep k cs vs A,E⟩
 |.tup cs,v,h=>by
  obtain⟨vs,h1,A⟩:=h
  exact⟨vs,h1,PRs.keep k cs vs A⟩
 |.bfn fn cs,v,h=>by
  obtain⟨vs,h1,A⟩:=h
  exact⟨vs,h1,PRs.keep k cs vs A⟩
theorem PRs.keep{X A w w'}(k:Keeps X A w w'):∀(ps:List PV) (vs:List Value),PRs X w ps vs->PRs A w' ps vs
 |[],_,h=>h
 |p::ps,vs,h=>by
  obtain⟨v,r,h1,E,H⟩:=h
  exact⟨v,r,h1,PR.keep k p v E,PRs.keep k ps r H⟩
end
theorem PRs.length{X w}:∀{ps:List PV} {vs:List Value},PRs X w ps vs->ps.length=vs.length
 |[],_,h=>by simp only[PRs]at h;subst h;rfl
 |p::ps,_,h=>by
  simp only[PRs]at h;obtain⟨v,r,rfl,_,A⟩:=h;simp[PRs.length A]
theorem PRs.get{X w}:∀{ps:List PV} {vs:List Value} {i:Nat} {p:PV},PRs X w ps vs->ps[i]?=some p->∃v,vs[i]?=some v/\PR X w p v
 |[],_,i,p,_,hp=>by simp at hp
 |q::ps,_,i,p,h,hp=>by
  simp only[PRs]at h;obtain⟨v,r,rfl,A,H⟩:=h;cases i with
  |zero=>simp at hp;subst hp;exact⟨v,by simp,A⟩
  |succ i=>simp at hp;obtain⟨u,E,hr⟩:=PRs.get H hp;exact⟨u,by simpa using E,hr⟩
inductive AV where
 |any
 |p (x:PV)
 |nils
 |loc (l g i off:Nat)
 |own (l g off len:Nat)
 |mapo (l:Nat) (g:Nat)
 |func (fn:Fn) (cs:List AV)
 |agg (cs:List AV)
 |tup (cs:List AV)
inductive AO where
 |dead (g:Nat)
 |arr (e sz g:Nat) (es:List AV)
 |map (g:Nat) (ks vs:List AV)
def AO.gen:AO->Nat
 |.dead g=>g
 |.arr _ _ g _=>g
 |.map g _ _=>g
def AO.alive:AO->Bool
 |.dead _=>false
 |_=>true
abbrev Inj:=Nat->Option (Nat×Nat)
def q2f(D:Nat->Bool)(inj:Inj)(σ:Nat->AO)(b:Nat):Prop :=
 ∃l c o,σ l=o/\o.alive=true/\D l=false/\inj l=some (b,c)
abbrev F(inj:Inj)(σ:Nat->AO)(b:Nat):Prop:=q2f (fun _=>false) inj σ b
def vip(inj:Inj)(σ:Nat->AO)(l g i off:Nat)(v:Value):Prop :=
 (∃a,v=.pointer (some a))/\∀o,σ l=o->g<=o.gen/\(g=o.gen->∀e sz es,o=.arr e sz g es->∃b c,inj l=some (b,c)/\v=.pointer (some ⟨b,i*sz+off,none⟩))
def ve6(inj:Inj)(σ:Nat->AO)(l g off len:Nat)(v:Value):Prop :=
  (∃a n c,v=.slice a n c)/\∀o,σ l=o->g<=o.gen/\(g=o.gen->∀e sz es,o=.arr e sz g es->off+len<=es.length /\
    ((inj l=none/\v=.slice none 0 0/\off=0/\len=0) \/
     ∃b c a,inj l=some (b,c)/\v=.slice a len (c-off)/\off+len<=c/\((off≠0/\off=c)\/a=some ⟨b,off*sz,none⟩)))
def vsc(inj:Inj)(σ:Nat->AO)(l g:Nat)(v:Value):Prop :=
 (∃r,v=.map r)/\∀o,σ l=o->g<=o.gen/\(g=o.gen->∀ks vs,o=.map g ks vs->∃b c,inj l=some (b,c)/\v=.map (some b))
mutual
def AR(X:Nat->Prop)(inj:Inj)(σ:Nat->AO)(w:World):AV->Value->Prop
 |.any,_=>True
 |.p x,v=>PR (fun b=>X b\/F inj σ b) w x v
 |.nils,v=>v=.slice none 0 0
 |.loc l g i off,v=>vip inj σ l g i off v
 |.own l g off len,v=>ve6 inj σ l g off len v
 |.mapo l g,v=>vsc inj σ l g v
 |.func fn cs,v=>∃vs,v=.func fn #[] vs.toArray/\ARs X inj σ w cs vs
 |.agg cs,v=>∃vs,v=.agg vs.toArray/\ARs X inj σ w cs vs/\qbp vs
 |.tup cs,v=>∃vs,v=.tuple vs.toArray/\ARs X inj σ w cs vs
def ARs(X:Nat->Prop)(inj:Inj)(σ:Nat->AO)(w:World):List AV->List Value->Prop
 |[],vs=>vs=[]
 |p::ps,vs=>∃v r,vs=v::r/\AR X inj σ w p v/\ARs X inj σ w ps r
end
theorem ARs.length{X inj σ w}:∀{ps:List AV} {vs:List Value},ARs X inj σ w ps vs->ps.length=vs.length
 |[],_,h=>by simp only[ARs]at h;subst h;rfl
 |p::ps,_,h=>by
  simp only[ARs]at h;obtain⟨v,r,rfl,_,A⟩:=h;simp[ARs.length A]
theorem ARs.get{X inj σ w}:∀{ps:List AV} {vs:List Value} {i:Nat} {p:AV},ARs X inj σ w ps vs->ps[i]?=some p->∃v,vs[i]?=some v/\AR X inj σ w p v
 |[],_,i,p,_,hp=>by simp at hp
 |q::ps,_,i,p,h,hp=>by
  simp only[ARs]at h;obtain⟨v,r,rfl,A,H⟩:=h;cases i with
  |zero=>simp at hp;subst hp;exact⟨v,by simp,A⟩
  |succ i=>simp at hp;obtain⟨u,E,hr⟩:=ARs.get H hp;exact⟨u,by simpa using E,hr⟩
def OEv(o o':AO)(same:Prop):Prop :=
 o.gen<=o'.gen/\(o'.alive=true->o.gen=o'.gen->same /\
  ((∃e sz es es',o=.arr e sz o.gen es/\o'=.arr e sz o.gen es'/\es.length=es'.length)\/(∃ks vs E A,o=.map o.gen ks vs/\o'=.map o.gen E A)))
structure Ev(D:Prop)(X:Nat->Prop)(inj:Inj)(σ:Nat->AO)(w:World)(inj':Inj)(σ':Nat->AO)(w':World):Prop where
 os:w'.os=w.os
 tape:w'.tape=w.tape
 output:w'.output=w.output
 dr:D->w.drawn<=w'.drawn
 size:w.heap.size<=w'.heap.size
 fz:∀a,a.block<w.heap.size->w'.frozen? a=w.frozen? a
 blk:∀b,b<w.heap.size->¬F inj σ b->w'.heap[b]?=w.heap[b]?
 fp:∀b,F inj' σ' b->F inj σ b\/w.heap.size<=b
 objs:∀l,OEv (σ l) (σ' l) (inj' l=inj l)
theorem OEv.refl(o:AO):OEv o o True:=by
 refine⟨v7a _,fun h _=>⟨trivial,?_⟩⟩;cases o with
 |dead g=>simp[AO.alive]at h
 |arr e sz g es=>exact .inl ⟨e,sz,es,es,rfl,rfl,rfl⟩
 |map g ks vs=>exact .inr ⟨ks,vs,ks,vs,rfl,rfl⟩
theorem OEv.of{o o':AO}{p q:Prop}(h:OEv o o' p)(A:p->q):OEv o o' q :=
 ⟨h.1,fun a b=>⟨A (h.2 a b).1,(h.2 a b).2⟩⟩
variable {D:Prop}
theorem Ev.refl(X inj σ w):Ev D X inj σ w inj σ w :=
 ⟨rfl,rfl,rfl,fun _=>v7a _,v7a _,fun _ _=>rfl,fun _ _ _=>rfl,fun _ h=>.inl h,fun l=>(OEv.refl _).of fun _=>rfl⟩
theorem Ev.weak{X inj σ w A σ' w'}(h:Ev True X inj σ w A σ' w'):Ev D X inj σ w A σ' w':=⟨h.os,h.tape,h.output,fun _=>h.dr trivial,h.size,h.fz,h.blk,h.fp,h.objs⟩
theorem OEv.trans{a b c:AO}{p q r:Prop}(h1:OEv a b p)(U:OEv b c q)(hr:p->q->r):OEv a c r:=by
 refine⟨v7c h1.1 U.1,fun hc hg=>?_⟩;have E:a.gen=b.gen:=by have:=h1.1;have:=U.1;omega
 have W:b.gen=c.gen:=by omega
 obtain⟨hq,Z⟩:=U.2 hc W;have hb:b.alive=true:=by
  rcases Z with⟨e,sz,es,es',J,H,_⟩|⟨ks,vs,ks',vs',J,H⟩<;>rw[J]<;>rfl
 obtain⟨hp,k1⟩:=h1.2 hb E;refine⟨hr hp hq,?_⟩;rcases k1 with⟨e,sz,es,es',J,H,e3⟩|⟨ks,vs,ks',vs',J,H⟩
 ·rcases Z with⟨f,tz,I,M,A,O,f3⟩|⟨_,_,_,_,A,_⟩
  ·rw[H]at A;simp only[AO.gen,AO.arr.injEq]at A;obtain⟨rfl,rfl,_,rfl⟩:=A;exact .inl ⟨e,sz,es,M,J,by rw[O,<-E],e3.trans f3⟩
  ·rw[H]at A;simp[AO.gen]at A
 ·rcases Z with⟨f,tz,I,M,A,O,f3⟩|⟨gs,us,gs',V,A,O⟩
  ·rw[H]at A;simp[AO.gen]at A
  ·exact .inr ⟨ks,vs,gs',V,J,by rw[O,<-E]⟩
theorem Ev.trans{X inj σ w inj1 H w1 A I J}(a:Ev D X inj σ w inj1 H w1)(b:Ev D X inj1 H w1 A I J):Ev D X inj σ w A I J:=by
 refine⟨b.os.trans a.os,b.tape.trans a.tape,b.output.trans a.output,fun d=>v7c (a.dr d) (b.dr d),v7c a.size b.size,fun x E=>(b.fz x (v7d E a.size)).trans (a.fz x E),?_,?_,?_⟩
 ·intro x E M;have h1:¬F inj1 H x:=fun h=>by
   rcases a.fp x h with h|h
   ·exact M h
   ·omega
  rw[b.blk x (v7d E a.size) h1,a.blk x E M]
 ·intro x E;rcases b.fp x E with h|h
  ·exact a.fp x h
  ·exact .inr (v7c a.size h)
 ·intro l;exact(a.objs l).trans (b.objs l) fun p q=>q.trans p
theorem Ev.keeps{X inj σ w E σ' w'}(h:Ev D X inj σ w E σ' w')(I:∀b,X b->b<w.heap.size):Keeps (fun b=>X b\/F inj σ b) (fun b=>X b\/F E σ' b) w w' :=
 ⟨h.size,fun b H hn=>h.blk b H fun f=>hn (.inr f),fun b H hn A=>by
  rcases A with A|A
  ·exact hn (.inl A)
  ·rcases h.fp b A with h1|h1
   ·exact hn (.inr h1)
   ·omega⟩
def qmz(σ:Nat->AO)(l:Nat)(o:AO):Nat->AO:=fun k=>if k=l then o else σ k
@[simp]theorem qc1(σ l o):qmz σ l o l=o:=by simp[qmz]
theorem qme (σ l o) {k:Nat} (h:k≠l):qmz σ l o k=σ k:=by simp[qmz,h]
theorem vip.ev{X inj σ w A σ' w' l g i off v}(h:Ev D X inj σ w A σ' w')(r:vip inj σ l g i off v):vip A σ' l g i off v:=by
 obtain⟨W,r⟩:=r;refine⟨W,fun o' M=>?_⟩;have J:=h.objs l;rw[M]at J;have O:=r _ rfl;refine⟨v7c O.1 J.1,fun Z e sz es ho=>?_⟩;have H:g=(σ l).gen:=by have:=O.1;have:=J.1;omega
 obtain⟨hi,k⟩:=J.2 (by rw[ho];rfl) (by omega);rw[hi];rcases k with⟨e',V,es',U,I,E,_⟩|⟨_,_,_,_,_,E⟩
 ·rw[ho]at E;simp only[AO.arr.injEq]at E;obtain⟨rfl,rfl,_,_⟩:=E;exact O.2 H e sz es' (by rw[H];exact I)
 ·rw[ho]at E;cases E
theorem ve6.ev{X inj σ w A σ' w' l g i off v}(h:Ev D X inj σ w A σ' w')(r:ve6 inj σ l g i off v):ve6 A σ' l g i off v:=by
 obtain⟨W,r⟩:=r;refine⟨W,fun o' M=>?_⟩;have J:=h.objs l;rw[M]at J;have O:=r _ rfl;refine⟨v7c O.1 J.1,fun hg e sz es ho=>?_⟩;have H:g=(σ l).gen:=by have:=O.1;have:=J.1;omega
 obtain⟨hi,k⟩:=J.2 (by rw[ho];rfl) (by omega);rw[hi];rcases k with⟨e',V,es',U,I,E,Z⟩|⟨_,_,_,_,_,E⟩
 ·rw[ho]at E;simp only[AO.arr.injEq]at E;obtain⟨rfl,rfl,_,rfl⟩:=E;rw[<-Z];exact O.2 H e sz es' (by rw[H];exact I)
 ·rw[ho]at E;cases E
theorem vsc.ev{X inj σ w A σ' w' l g v}(h:Ev D X inj σ w A σ' w')(r:vsc inj σ l g v):vsc A σ' l g v:=by
 obtain⟨hs,r⟩:=r;refine⟨hs,fun o' M=>?_⟩;have H:=h.objs l;rw[M]at H;have O:=r _ rfl;refine⟨v7c O.1 H.1,fun hg ks vs ho=>?_⟩;have E:g=(σ l).gen:=by have:=O.1;have:=H.1;omega
 obtain⟨hi,k⟩:=H.2 (by rw[ho];rfl) (by omega);rw[hi];rcases k with⟨e',sz',es',Z,I,J,a3⟩|⟨U,V,W,vs'',I,J⟩
 ·rw[ho]at J;cases J
 ·exact O.2 E U V (by rw[E];exact I)
mutual
theorem AR.ev{X inj σ w A σ' w'}(h:Ev D X inj σ w A σ' w')(H:∀b,X b->b<w.heap.size):∀(p:AV) (v:Value),AR X inj σ w p v->AR X A σ' w' p v
 |.any,_,_=>trivial
 |.p x,v,r=>PR.keep (h.keeps H) x v r
 |.nils,_,r=>r
 |.loc l g i off,_,r=>vip.ev h r
 |.own l g off len,_,r=>ve6.ev h r
 |.mapo l g,_,r=>vsc.ev h r
 |.func fn cs,v,r=>by
  obtain⟨vs,h1,E⟩:=r
  exact⟨vs,h1,ARs.ev h H cs vs E⟩
 |.agg cs,v,r=>by
  obtain⟨vs,h1,E,I⟩:=r
  exact⟨vs,h1,ARs.ev h H cs vs E,I⟩
 |.tup cs,v,r=>by
  obtain⟨vs,h1,E⟩:=r
  exact⟨vs,h1,ARs.ev h H cs vs E⟩
theorem ARs.ev{X inj σ w A σ' w'}(h:Ev D X inj σ w A σ' w')(E:∀b,X b->b<w.heap.size):∀(ps:List AV) (vs:List Value),ARs X inj σ w ps vs->ARs X A σ' w' ps vs
 |[],_,r=>r
 |p::ps,vs,r=>by
  obtain⟨v,rs,h1,H,I⟩:=r
  exact⟨v,rs,h1,AR.ev h E p v H,ARs.ev h E ps rs I⟩
end
def OR(X:Nat->Prop)(inj:Inj)(σ:Nat->AO)(w:World)(l:Nat):AO->Prop
 |.dead _=>True
 | .arr e sz _ es=>∃vs,ARs X inj σ w es vs∧(∀v∈vs,v.cells.size=sz)∧qbp (flat vs) ∧
   ((inj l=none/\es=[])\/∃b c cur,inj l=some (b,c)/\¬X b/\w.heap[b]?=some (.cells cur e (0,0))/\es.length<=c/\c<=maxLen/\cur.size=c*sz /\
    cur.toList.take (es.length*sz)=flat vs)
 | .map _ ks vs=>∃b c E A,inj l=some (b,c)∧¬X b∧w.heap[b]?=some (.map E A) ∧
   ARs X inj σ w ks (E.toList.map (·.key))/\ARs X inj σ w vs (E.toList.map (·.val))
structure HR(X:Nat->Prop)(inj:Inj)(σ:Nat->AO)(w:World):Prop where
 obj:∀l o,σ l=o->OR X inj σ w l o
 inj1:∀l l' o o' b c c',σ l=o->σ l'=o'->o.alive=true->o'.alive=true->inj l=some (b,c)->inj l'=some (b,c')->l=l'
 xlt:∀b,X b->b<w.heap.size
theorem HR.flt{X inj σ w}(h:HR X inj σ w){D b}(W:q2f D inj σ b):b<w.heap.size/\¬X b:=by
 obtain⟨l,c,o,h1,U,_,H⟩:=W;have:=h.obj l o h1;cases o with
 |dead g=>simp[AO.alive]at U
 |arr e sz g es =>
  obtain⟨vs,_,_,_,O|⟨M,V,cur,A,I,E,_⟩⟩:=this
  ·rw[H]at O;cases O.1
  ·rw[H]at A;cases A;exact⟨(v5d.1 E).1,I⟩
 |map g ks vs =>
  obtain⟨M,V,Z,J,A,I,E,_⟩:=this;rw[H]at A;cases A;exact⟨(v5d.1 E).1,I⟩
theorem HR.update{X inj σ w w' l o o' x}(h:HR X inj σ w)(hl:σ l=o)
  (hos:w'.os=w.os) (W:w'.tape=w.tape) (hout:w'.output=w.output) (hdr:D->w.drawn<=w'.drawn) (hsz:w.heap.size<=w'.heap.size)
  (hfz:∀a,a.block<w.heap.size->w'.frozen? a=w.frozen? a)
  (V:∀b,b<w.heap.size->(o.alive=true->∀c,inj l≠some (b,c))->w'.heap[b]?=w.heap[b]?)
  (hx:∀b c,x=some (b,c)->w.heap.size<=b\/(o.alive=true/\∃M,inj l=some (b,M)))
  (hev:OEv o o' (x=inj l)) :
  Ev D X inj σ w (fun k=>if k=l then x else inj k) (qmz σ l o') w' /\
  (OR X (fun k=>if k=l then x else inj k) (qmz σ l o') w' l o'->HR X (fun k=>if k=l then x else inj k) (qmz σ l o') w'):=by
 have E:Ev D X inj σ w (fun k=>if k=l then x else inj k) (qmz σ l o') w':=by
  refine⟨hos,W,hout,hdr,hsz,hfz,?_,?_,?_⟩
  ·intro b hb hf;exact V b hb fun ha c hc=>hf ⟨l,c,o,hl,ha,rfl,hc⟩
  ·rintro b ⟨k,c,ok,H,ha,_,hi⟩;by_cases A:k=l
   ·subst A;simp only[if_true]at hi;rcases hx b c hi with h1|⟨h1,M,I⟩
    ·exact .inr h1
    ·exact .inl ⟨k,M,o,hl,h1,rfl,I⟩
   ·simp only[if_neg A]at hi;rw[qme _ _ _ A]at H;exact .inl ⟨k,c,ok,H,ha,rfl,hi⟩
  ·intro k;by_cases A:k=l
   ·subst A;rw[hl];simpa using hev
   ·rw[qme _ _ _ A];exact(OEv.refl _).of fun _=>if_neg A
 refine⟨E,fun hor=>⟨?_,?_,fun b hb=>v7d (h.xlt b hb) hsz⟩⟩
 ·intro k ok H;by_cases A:k=l
  ·subst A;rw[qc1]at H;subst H;exact hor
  ·rw[qme _ _ _ A]at H;have hk0:=h.obj k ok H;have hne:∀b c,ok.alive=true->inj k=some (b,c)->w'.heap[b]?=w.heap[b]?:=fun b c ha hi =>
    V b (h.flt (D:=fun _=>false) ⟨k,c,ok,H,ha,rfl,hi⟩).1 fun O M hc'=>A (h.inj1 k l ok o b c M H hl ha O hi hc')
   cases ok with
   |dead g=>trivial
   |arr e sz g es =>
    obtain⟨vs,h1,I,h3,h4⟩:=hk0;refine⟨vs,ARs.ev E h.xlt es vs h1,I,h3,?_⟩;simp only[if_neg A];rcases h4 with h4|⟨b,c,cur,h5,h6,h7,h8⟩
    ·exact .inl h4
    ·exact .inr ⟨b,c,cur,h5,h6,by rw[hne b c rfl h5];exact h7,h8⟩
   |map g ks vs =>
    obtain⟨b,c,ms,Z,h5,h6,h7,h8,h9⟩:=hk0;exact⟨b,c,ms,Z,by simp only[if_neg A];exact h5,h6,by rw[hne b c rfl h5];exact h7,ARs.ev E h.xlt ks _ h8,ARs.ev E h.xlt vs _ h9⟩
 ·intro k k' ok ok' b c M H U ha O hi J;have fresh:∀m om cm,m≠l->σ m=om->om.alive=true->inj m=some (b,cm)->x=some (b,c)\/x=some (b,M)->False:=by
   intro m om cm hml hm ham him hxx;have hlt:=(h.flt (D:=fun _=>false) ⟨m,cm,om,hm,ham,rfl,him⟩).1;have:w.heap.size<=b\/(o.alive=true/\∃M,inj l=some (b,M)):=by rcases hxx with e|e<;>exact hx _ _ e
   rcases this with h1|⟨h1,c1,I⟩
   ·omega
   ·exact hml (h.inj1 m l om o b cm c1 hm hl ham h1 him I)
  by_cases h1:k=l<;>by_cases I:k'=l
  ·rw[h1,I]
  ·simp only[if_pos h1]at hi;simp only[if_neg I]at J;rw[qme _ _ _ I]at U;exact(fresh k' ok' M I U O J (.inl hi)).elim
  ·simp only[if_neg h1]at hi;simp only[if_pos I]at J;rw[qme _ _ _ h1]at H;exact(fresh k ok c h1 H ha hi (.inr J)).elim
  ·simp only[if_neg h1]at hi;simp only[if_neg I]at J;rw[qme _ _ _ h1]at H;rw[qme _ _ _ I]at U;exact h.inj1 k k' ok ok' b c M H U ha O hi J
end
section
variable {A:Type}
inductive L (α:Type) where
 |ret (a:α)
 |look (l:Nat) (k:AO->L α)
 |fail
def L.bind{A β:Type}:L A->(A->L β)->L β
 |.ret a,f=>f a
 |.look l k,f=>.look l fun o=>(k o).bind f
 |.fail,_=>.fail
instance:Monad L where
 pure:=L.ret
 bind:=L.bind
def L.run{A:Type}:L A->(Nat->AO)->Option A
 |.ret a,_=>some a
 |.look l k,σ=>(k (σ l)).run σ
 |.fail,_=>none
def L.reads{A:Type}:L A->(Nat->AO)->List Nat
 |.ret _,_=>[]
 |.look l k,σ=>l::(k (σ l)).reads σ
 |.fail,_=>[]
@[simp]theorem L.run_ret(a:A)(σ):(L.ret a).run σ=some a:=rfl
@[simp]theorem L.run_pure(a:A)(σ):(pure a:L A).run σ=some a:=rfl
@[simp]theorem L.run_fail(σ):(L.fail:L A).run σ=none:=rfl
theorem L.run_look(l k σ):(L.look l k:L A).run σ=(k (σ l)).run σ:=rfl
theorem L.run_bind{β:Type}(m:L A)(f:A->L β)(σ):(m >>= f).run σ=(m.run σ).bind fun a=>(f a).run σ:=by
 show(m.bind f).run σ=_
 induction m with
 |ret a=>rfl
 |look l k ih=>exact ih (σ l)
 |fail=>rfl
theorem L.frame{I:Type}{σ A:Nat->AO}(m:L I){r}(h:m.run σ=some r)(E:∀l∈m.reads σ,A l=σ l):m.run A=some r/\m.reads A=m.reads σ:=by
 induction m with
 |ret a=>exact⟨h,rfl⟩
 |look l k ih =>
  simp only[L.run]at h;have hl:A l=σ l:=E l (by simp[L.reads]);have:=ih (σ l) h fun j H=>E j (by simp[L.reads,H])
  simp[L.run,L.reads,hl,this]
 |fail=>cases h
def PV.cells:PV->List PV
 |.agg cs=>cs
 |v=>[v]
def PV.isAgg:PV->Bool
 |.agg _=>true
 |_=>false
def PV.isTup:PV->Bool
 |.tup _=>true
 |_=>false
def AV.cells:AV->List AV
 |.p x=>x.cells.map .p
 |.agg cs=>cs
 |v=>[v]
def AV.known:AV->Bool
 |.any|.tup _=>false
 |.p x=>!x.isTup
 |_=>true
def AV.isAgg:AV->Bool
 |.agg _=>true
 |.p x=>x.isAgg
 |_=>false
def AV.one(v:AV):Bool:=v.known&&!v.isAgg
def qq9:List AV->Option (List PV)
 |[]=>some []
 |.p x::r=>match qq9 r with|some xs=>some (x::xs)|none=>none
 |_::_=>none
def qkz(cs:List AV):AV:=match qq9 cs with|some xs=>.p (.agg xs)|none=>.agg cs
def ve7(cs:List AV):AV:=match qq9 cs with|some xs=>.p (.tup xs)|none=>.tup cs
def q6u(fn:Fn)(cs:List AV):AV:=match qq9 cs with|some xs=>.p (.func fn xs)|none=>.func fn cs
def vsd:Value->AV
 |.bool b=>.p (.bool b)
 |.int k n=>.p (.int k n)
 |.string s=>.p (.str s.data.toList)
 |.pointer none=>.p .nilp
 |.slice none 0 0=>.nils
 |.map none=>.p (.mapv [] [])
 |.nilFunc=>.p .nilf
 |.nilIface=>.p .nili
 |_=>.any
def ofV:Value->AV
 |.agg cs=>if(cs.toList.all fun v=>(vsd v).one) then qkz (cs.toList.map vsd) else .any
 |v=>vsd v
abbrev Env:=List (Nat×AV)
def Env.get:Env->Nat->AV
 |[],_=>.any
 |(k,v)::r,t=>if k=t then v else Env.get r t
def ev(env:Env):Operand->AV
 |.tmp t=>env.get t
 |.const v=>ofV v
 |.func f=>.p (.func (.func f) [])
 |.global _=>.any
def qat(P:Program)(t:TypeId):Option Bool:=match P.underlying t with|some (.struct _)|some (.array _ _)=>some true|some _=>some false|none=>none
def qba(f:AV->L PV):List AV->L (List PV)
 |[]=>.ret []
 |c::cs=>(f c).bind fun x=>(qba f cs).bind fun A=>.ret (x::A)
def view(D:Nat->Bool):Nat->AV->L PV
 |0,_=>.fail
 |n+1,.p x=>.ret x
 |n+1,.any=>.fail
 |n+1,.nils=>.ret (.slc [])
 | n+1,.own l g off len=>if D l then .look l fun o=>match o with
   |.arr _ _ g' es=>if g=g'/\off+len<=es.length then(qba (view D n) ((es.drop off).take len)).bind fun A=>.ret (.slc A) else .fail
   |_=>.fail
  else .fail
 | n+1,.loc l g i off=>if D l then .look l fun o=>match o with
   |.arr _ _ g' es=>if g=g' then(match es[i]? with
    |some x=>(qba (view D n) (x.cells.drop off)).bind fun E=>.ret (.imm E)
    |none=>.fail) else .fail
   |_=>.fail
  else .fail
 | n+1,.mapo l g=>if D l then .look l fun o=>match o with
   |.map g' ks vs=>if g=g' then(qba (view D n) ks).bind fun A=>(qba (view D n) vs).bind fun E=>.ret (.mapv A E) else .fail
   |_=>.fail
  else .fail
 |n+1,.func fn cs=>(qba (view D n) cs).bind fun A=>.ret (.func fn A)
 |n+1,.agg cs=>(qba (view D n) cs).bind fun A=>.ret (.agg A)
 |n+1,.tup cs=>(qba (view D n) cs).bind fun A=>.ret (.tup A)
theorem qlm(D:Nat->Bool)(n:Nat)(A:List PV):qba (view D (n+1)) (A.map .p)=.ret A:=by
 induction A with
 |nil=>rfl
 |cons x A ih=>simp only[v6i,qba,view,ih,L.bind]
theorem L.run_bind'{β:Type}(m:L A)(f:A->L β)(σ):(m.bind f).run σ=(m.run σ).bind fun a=>(f a).run σ:=L.run_bind m f σ
theorem qkj(v:Value)(vs:List Value):flat (v::vs)=v.cells.toList++flat vs:=rfl
theorem qob(a b:List Value):flat (a++b)=flat a++flat b:=by simp[flat]
theorem qb1{sz:Nat}:∀{vs:List Value},(∀v∈vs,v.cells.size=sz)->(flat vs).length=vs.length*sz
 |[],_=>by simp[flat]
 |v::vs,h=>by
  rw[qkj,v6b,qb1 (fun u A=>h u (by simp[A])),List.length_cons,v62];have:=h v (by simp);simp only[v5f,this];omega
theorem qoc{sz:Nat}:∀{vs:List Value} (k:Nat),(∀v∈vs,v.cells.size=sz)->flat (vs.drop k)=(flat vs).drop (k*sz)
 |[],k,_=>by simp[flat]
 |v::vs,0,_=>by simp
 |v::vs,k+1,h=>by
  rw[v5w,qoc k (fun u A=>h u (by simp[A])),qkj,v62,v7i,Nat.add_comm (k*sz) sz];have:=h v (by simp);rw[<-List.drop_drop,List.drop_append_of_le_length (by rw[v5f,this];exact v7a _),v5v (l:=v.cells.toList) (i:=sz) (by rw[v5f,this];exact v7a _),v6r]
theorem qm4{sz:Nat}:∀{vs:List Value} (k:Nat),(∀v∈vs,v.cells.size=sz)->flat (vs.take k)=(flat vs).take (k*sz)
 |[],k,_=>by simp[flat]
 |v::vs,0,_=>by simp[flat]
 |v::vs,k+1,h=>by
  rw[List.take_succ_cons,qkj,qm4 k (fun u A=>h u (by simp[A])),qkj,v62,v7i,Nat.add_comm (k*sz) sz];have:=h v (by simp);rw[v6w];simp only[v5f,this,Nat.add_sub_cancel_left];rw[v6y (l:=v.cells.toList) (by rw[v5f,this];omega)]
theorem ARs.drop{X inj σ w}:∀{ps:List AV} {vs:List Value} (k:Nat),ARs X inj σ w ps vs->ARs X inj σ w (ps.drop k) (vs.drop k)
 |[],_,k,h=>by simp only[ARs]at h;subst h;simp[ARs]
 |p::ps,_,0,h=>h
 |p::ps,_,k+1,h=>by
  simp only[ARs]at h;obtain⟨v,r,rfl,E,A⟩:=h;simpa using ARs.drop k A
theorem ARs.take{X inj σ w}:∀{ps:List AV} {vs:List Value} (k:Nat),ARs X inj σ w ps vs->ARs X inj σ w (ps.take k) (vs.take k)
 |[],_,k,h=>by simp only[ARs]at h;subst h;simp[ARs]
 |p::ps,_,0,h=>by simp[ARs]
 |p::ps,_,k+1,h=>by
  simp only[ARs]at h;obtain⟨v,r,rfl,A,E⟩:=h;exact⟨v,r.take k,by simp,A,ARs.take k E⟩
theorem PRs.drop{X w}:∀{ps:List PV} {vs:List Value} (k:Nat),PRs X w ps vs->PRs X w (ps.drop k) (vs.drop k)
 |[],_,k,h=>by simp only[PRs]at h;subst h;simp[PRs]
 |p::ps,_,0,h=>h
 |p::ps,_,k+1,h=>by
  simp only[PRs]at h;obtain⟨v,r,rfl,E,A⟩:=h;simpa using PRs.drop k A
theorem PRs.take{X w}:∀{ps:List PV} {vs:List Value} (k:Nat),PRs X w ps vs->PRs X w (ps.take k) (vs.take k)
 |[],_,k,h=>by simp only[PRs]at h;subst h;simp[PRs]
 |p::ps,_,0,h=>by simp[PRs]
 |p::ps,_,k+1,h=>by
  simp only[PRs]at h;obtain⟨v,r,rfl,A,E⟩:=h;exact⟨v,r.take k,by simp,A,PRs.take k E⟩
theorem qby{X inj σ w}:∀{cs:List PV} {vs:List Value},ARs X inj σ w (cs.map .p) vs↔PRs (fun b=>X b\/F inj σ b) w cs vs
 |[],_=>by simp[ARs,PRs]
 |c::cs,_=>by simp[ARs,PRs,AR,qby]
theorem PR.cells_of{X w}:∀{x:PV} {v:Value},PR X w x v->PRs X w x.cells v.cells.toList
 |.agg cs,_,h=>by obtain⟨vs,rfl,E,_⟩:=h;simpa[PV.cells,Value.cells] using E
 |.int _ _,_,h=>by simp only[PR]at h;subst h;simp[PV.cells,Value.cells,PRs,PR]
 |.bool _,_,h=>by simp only[PR]at h;subst h;simp[PV.cells,Value.cells,PRs,PR]
 |.str _,_,h=>by simp only[PR]at h;subst h;simp[PV.cells,Value.cells,PRs,PR]
 |.nilp,_,h=>by simp only[PR]at h;subst h;simp[PV.cells,Value.cells,PRs,PR]
 |.nilf,_,h=>by simp only[PR]at h;subst h;simp[PV.cells,Value.cells,PRs,PR]
 |.nili,_,h=>by simp only[PR]at h;subst h;simp[PV.cells,Value.cells,PRs,PR]
 |.nilm,_,h=>by simp only[PR]at h;subst h;simp[PV.cells,Value.cells,PRs,PR]
 |.slc es,_,h=>by have h':=h;simp only[PR]at h;obtain⟨a,A,vs,rfl,_⟩:=h;simpa[PV.cells,Value.cells,PRs] using h'
 |.nnil es,_,h=>by have h':=h;simp only[PR]at h;obtain⟨a,A,vs,rfl,_⟩:=h;simpa[PV.cells,Value.cells,PRs] using h'
 |.clip es,_,h=>by have h':=h;simp only[PR]at h;obtain⟨a,vs,rfl,_⟩:=h;simpa[PV.cells,Value.cells,PRs] using h'
 |.imm cs,_,h=>by have h':=h;simp only[PR]at h;obtain⟨b,o,vs,rfl,_⟩:=h;simpa[PV.cells,Value.cells,PRs] using h'
 |.mapv ks es,_,h=>by have h':=h;simp only[PR]at h;rcases h with⟨rfl,_⟩|⟨r,I,H,rfl,_⟩<;>simpa[PV.cells,Value.cells,PRs] using h'
 |.func fn cs,_,h=>by have h':=h;simp only[PR]at h;obtain⟨vs,rfl,_⟩:=h;simpa[PV.cells,Value.cells,PRs] using h'
 |.tup cs,_,h=>by have h':=h;simp only[PR]at h;obtain⟨vs,rfl,_⟩:=h;simpa[PV.cells,Value.cells,PRs] using h'
 |.bfn fn cs,_,h=>by have h':=h;simp only[PR]at h;obtain⟨vs,rfl,_⟩:=h;simpa[PV.cells,Value.cells,PRs] using h'
theorem AR.cells_of{X inj σ w}:∀{x:AV} {v:Value},x.known=true->AR X inj σ w x v->ARs X inj σ w x.cells v.cells.toList/\qbp v.cells.toList
 |.any,_,h,_=>by cases h
 |.p x,v,hk,h=>by
  refine⟨qby.2 (PR.cells_of h),?_⟩;cases x with
  |agg cs=>obtain⟨vs,rfl,_,E⟩:=h;simpa[Value.cells] using E
  |tup cs=>cases hk
  |slc es=>simp only[AR,PR]at h;obtain⟨a,A,vs,rfl,_⟩:=h;simp[Value.cells,qbp,Value.oneCell']
  |nnil es=>simp only[AR,PR]at h;obtain⟨a,A,vs,rfl,_⟩:=h;simp[Value.cells,qbp,Value.oneCell']
  |clip es=>simp only[AR,PR]at h;obtain⟨a,vs,rfl,_⟩:=h;simp[Value.cells,qbp,Value.oneCell']
  |imm cs=>simp only[AR,PR]at h;obtain⟨b,o,vs,rfl,_⟩:=h;simp[Value.cells,qbp,Value.oneCell']
  |mapv ks es=>simp only[AR,PR]at h;rcases h with⟨rfl,_⟩|⟨r,I,J,rfl,_⟩<;>simp[Value.cells,qbp,Value.oneCell']
  |func fn cs=>simp only[AR,PR]at h;obtain⟨vs,rfl,_⟩:=h;simp[Value.cells,qbp,Value.oneCell']
  |bfn fn cs=>simp only[AR,PR]at h;obtain⟨vs,rfl,_⟩:=h;simp[Value.cells,qbp,Value.oneCell']
  |_=>simp only[AR,PR]at h;subst h;simp[Value.cells,qbp,Value.oneCell']
 |.nils,_,_,h=>by simp only[AR]at h;subst h;simp[AV.cells,Value.cells,ARs,AR,qbp,Value.oneCell']
 |.agg cs,_,_,h=>by obtain⟨vs,rfl,H,E⟩:=h;exact⟨by simpa[AV.cells,Value.cells] using H,by simpa[Value.cells] using E⟩
 |.tup cs,_,h,_=>by cases h
 |.func fn cs,_,_,h=>by
  have h':=h;simp only[AR]at h;obtain⟨vs,rfl,_⟩:=h;exact⟨by simpa[AV.cells,Value.cells,ARs] using h',by simp[Value.cells,qbp,Value.oneCell']⟩
 |.loc l g i off,v,_,h=>by
  have h':=h;simp only[AR]at h;obtain⟨⟨a,rfl⟩,_⟩:=h;exact⟨by simpa[AV.cells,Value.cells,ARs] using h',by simp[Value.cells,qbp,Value.oneCell']⟩
 |.own l g i off,v,_,h=>by
  have h':=h;simp only[AR]at h;obtain⟨⟨a,n,c,rfl⟩,_⟩:=h;exact⟨by simpa[AV.cells,Value.cells,ARs] using h',by simp[Value.cells,qbp,Value.oneCell']⟩
 |.mapo l g,v,_,h=>by
  have h':=h;simp only[AR]at h;obtain⟨⟨r,rfl⟩,_⟩:=h;exact⟨by simpa[AV.cells,Value.cells,ARs] using h',by simp[Value.cells,qbp,Value.oneCell']⟩
theorem q2f.mono{D A:Nat->Bool}{inj σ b}(H:∀l,D l=false->A l=false)(h:q2f D inj σ b):q2f A inj σ b:=by
 obtain⟨l,c,o,h1,E,J,I⟩:=h;exact⟨l,c,o,h1,E,H l J,I⟩
theorem qeh{X inj σ w D}{f:AV->L PV}
  (I:∀v val x,AR X inj σ w v val->(f v).run σ=some x->PR (fun b=>X b\/q2f D inj σ b) w x val) :
  ∀(cs:List AV) (vs:List Value) (A:List PV),ARs X inj σ w cs vs->(qba f cs).run σ=some A->PRs (fun b=>X b\/q2f D inj σ b) w A vs
 |[],_,A,h,hr=>by simp only[qba,L.run_ret,v7s]at hr;subst hr;exact h
 | c :: cs,_,A,h,hr=>by
  obtain⟨v,r,rfl,J,M⟩:=h;simp only[qba,L.run_bind',L.run_ret]at hr;cases H:(f c).run σ with
  |none=>rw[H]at hr;cases hr
  | some x =>
   cases E:(qba f cs).run σ with
   |none=>rw[H,E]at hr;cases hr
   |some ys =>
    rw[H,E]at hr;simp only[v7m,v7s]at hr;subst hr;exact⟨v,r,rfl,I c v x J H,qeh I cs r ys M E⟩
theorem qv8{w:World}{b j:Nat}{cur:Array Value}{e:TypeId}{u:Value}(h:w.heap[b]?=some (.cells cur e (0,0)))(A:cur.toList[j]?=some u):w.cell? ⟨b,j,none⟩=some u:=by
 rw[cell_of_row w b j cur e (0,0) h];simpa using A
theorem q36{l m:List A}{k j:Nat}{u:A}(h:l.take k=m)(E:m[j]?=some u):l[j]?=some u:=by
 grind
theorem qep{X inj σ w}(h:HR X inj σ w)(D:Nat->Bool):∀(n:Nat) (v:AV) (val:Value) (x:PV),AR X inj σ w v val->(view D n v).run σ=some x ->
  PR (fun b=>X b\/q2f D inj σ b) w x val
 |0,_,_,_,_,hr=>by simp[view]at hr
 |n+1,.any,_,_,_,hr=>by simp[view]at hr
 |n+1,.p y,val,x,ha,hr=>by
  simp only[view,L.run_ret,v7s]at hr;subst hr;refine PR.keep ⟨v7a _,fun _ _ _=>rfl,fun b _ hn hn'=>hn ?_⟩ y val ha;rcases hn' with h1|h1
  ·exact .inl h1
  ·exact .inr (h1.mono fun _ _=>rfl)
 |n+1,.nils,val,x,ha,hr=>by
  simp only[view,L.run_ret,v7s]at hr;subst hr;simp only[AR]at ha;exact⟨none,0,[],by simpa using ha,by simp,rfl,.inl rfl⟩
 | n+1,.func fn cs,val,x,ha,hr=>by
  simp only[view,L.run_bind',L.run_ret]at hr;obtain⟨vs,h1,h2⟩:=ha;cases A:(qba (view D n) cs).run σ with
  |none=>rw[A]at hr;cases hr
  |some xs =>
   rw[A]at hr;simp only[v7m,v7s]at hr;subst hr;exact⟨vs,h1,qeh (qep h D n) cs vs xs h2 A⟩
 | n+1,.agg cs,val,x,ha,hr=>by
  simp only[view,L.run_bind',L.run_ret]at hr;obtain⟨vs,h1,h2,h3⟩:=ha;cases A:(qba (view D n) cs).run σ with
  |none=>rw[A]at hr;cases hr
  |some xs =>
   rw[A]at hr;simp only[v7m,v7s]at hr;subst hr;exact⟨vs,h1,qeh (qep h D n) cs vs xs h2 A,h3⟩
 | n+1,.tup cs,val,x,ha,hr=>by
  simp only[view,L.run_bind',L.run_ret]at hr;obtain⟨vs,h1,h2⟩:=ha;cases A:(qba (view D n) cs).run σ with
  |none=>rw[A]at hr;cases hr
  |some xs =>
   rw[A]at hr;simp only[v7m,v7s]at hr;subst hr;exact⟨vs,h1,qeh (qep h D n) cs vs xs h2 A⟩
 | n+1,.own l g off len,val,x,ha,hr=>by
  simp only[view]at hr;split at hr
  case isFalse=>simp at hr
  rename_i hD;simp only[L.run]at hr;split at hr
  case h_2=>simp at hr
  rename_i e sz g' es ho;split at hr
  case isFalse=>simp at hr
  rename_i hg;obtain⟨rfl,hlen⟩:=hg;simp only[L.run_bind',L.run_ret]at hr;cases A:(qba (view D n) ((es.drop off).take len)).run σ with
  |none=>rw[A]at hr;cases hr
  | some xs =>
   rw[A]at hr;simp only[v7m,v7s]at hr;subst hr;obtain⟨vs,U,O,o3,o4⟩:=h.obj l _ ho;obtain⟨_,a2⟩:=ha;obtain⟨_,a3⟩:=a2 _ ho;obtain⟨W,a5⟩:=a3 rfl e sz es rfl;have I:=qeh (qep h D n) _ _ xs ((U.drop off).take len) A;have hl:xs.length=len:=by
    rw[I.length,<-((U.drop off).take len).length,v6g,v6c];omega
   rcases a5 with⟨i1,rfl,rfl,rfl⟩|⟨b,c,a,i1,rfl,i2,i3⟩
   ·simp only[List.drop_zero,v6z]at I;have hx:xs=[]:=v5x hl;subst hx;exact⟨none,0,[],by simp,by simp,rfl,.inl rfl⟩
   ·refine⟨a,c-off,_,by rw[hl],by omega,I,?_⟩;by_cases h0:len=0
    ·subst h0;exact .inl (by simp)
    ·rcases i3 with⟨_,i3⟩|i3
     ·omega
     ·subst i3;rcases o4 with⟨o4,_⟩|⟨M,H,cur,E,p2,V,p4,p5,p6,p7⟩
      ·grind
      ·rw[i1]at E;cases E;have hsz:∀v∈(vs.drop off).take len,v.cells.size=sz:=fun v hv=>O v (v6n (v6o hv))
       have hfl:flat ((vs.drop off).take len)=((flat vs).drop (off*sz)).take (len*sz):=by
        rw[qm4 len fun v hv=>O v (v6n hv),qoc off O]
       refine .inr ⟨b,off*sz,sz,rfl,hsz,?_,(v5d.1 V).1,?_,?_⟩
       ·rw[hfl];exact fun u J=>o3 u (v6n (v6o J))
       ·rintro(hX|⟨l',H,o',q1,q2,q3,q4⟩)
        ·exact p2 hX
        ·have:=h.inj1 l' l o' _ b H c q1 ho q2 rfl q4 i1
         grind
       ·intro j u J;refine qv8 V ?_
        grind
 | n+1,.loc l g i off,val,x,ha,hr=>by
  simp only[view]at hr;split at hr
  case isFalse=>simp at hr
  rename_i hD;simp only[L.run]at hr;split at hr
  case h_2=>simp at hr
  rename_i e sz g' es ho;split at hr
  case isFalse=>simp at hr
  rename_i hg;subst hg;split at hr
  case h_2=>simp at hr
  rename_i y hy;simp only[L.run_bind',L.run_ret]at hr;cases A:(qba (view D n) (y.cells.drop off)).run σ with
  |none=>rw[A]at hr;cases hr
  | some xs =>
   rw [A] at hr;simp only [v7m,v7s] at hr;subst hr;obtain⟨vs,U,O,o3,o4⟩:=h.obj l _ ho;obtain⟨_,a2⟩:=ha;obtain⟨_,a3⟩:=a2 _ ho;obtain⟨b,c,W,a5⟩:=a3 rfl e sz es rfl;obtain⟨u,J,Z⟩:=U.get hy;have hyk:y.known=true∨y=.any:=by
    cases y with
    |any=>exact .inr rfl
    |tup cs =>
     obtain⟨us,rfl,_⟩:=Z;have:=o3 (.tuple us.toArray) (v6l.2 ⟨_,v6m J,by simp[Value.cells]⟩);cases this
    | p q =>
     cases q with
     |tup cs =>
      obtain⟨us,rfl,_⟩:=Z;have:=o3 (.tuple us.toArray) (v6l.2 ⟨_,v6m J,by simp[Value.cells]⟩);cases this
     |_=>exact .inl rfl
    |_=>exact .inl rfl
   rcases hyk with hyk|rfl
   case inr =>
    cases off with
    |zero=>cases n<;>simp[AV.cells,qba,view,L.run_bind']at A
    | succ off =>
     simp only[AV.cells,v5w,List.drop_nil,qba,L.run_ret,v7s]at A;subst A;rcases o4 with⟨o4,_⟩|⟨M,H,cur,E,p2,V,p4,p5,p6,p7⟩
     ·grind
     ·rw[W]at E;cases E;refine⟨_,_,[],a5,rfl,(fun u J=>by cases J),(v5d.1 V).1,?_,(fun j u J=>by simp at J)⟩;rintro(hX|⟨l',H,o',q1,q2,q3,q4⟩)
      ·exact p2 hX
      ·have:=h.inj1 l' l o' _ _ H _ q1 ho q2 rfl q4 W
       grind
   obtain⟨hcs,hone⟩:=AR.cells_of hyk Z;have I:=qeh (qep h D n) _ _ xs (hcs.drop off) A;rcases o4 with⟨o4,_⟩|⟨M,H,cur,E,p2,V,p4,p5,p6,p7⟩
   ·grind
   ·rw[W]at E;cases E;refine⟨_,i*sz+off,u.cells.toList.drop off,a5,I,fun u' hu'=>hone u' (v6n hu'),(v5d.1 V).1,?_,?_⟩
    ·rintro(hX|⟨l',H,o',q1,q2,q3,q4⟩)
     ·exact p2 hX
     ·have:=h.inj1 l' l o' _ _ H _ q1 ho q2 rfl q4 W
      grind
    ·intro j u' hu';refine qv8 V (q36 p7 ?_);rw[v51]at hu';have hi:i<vs.length:=(v56.1 J).1;have hui:vs[i]=u:=(v56.1 J).2;have hd:(flat vs).drop (i*sz)=u.cells.toList++flat (vs.drop (i+1)):=by
      rw[<-qoc i O,v5u hi,hui,qkj]
     have:(flat vs)[i*sz+off+j]?=((flat vs).drop (i*sz))[off+j]?:=by rw[v51,v61]
     grind
 | n+1,.mapo l g,val,x,ha,hr=>by
  simp only[view]at hr;split at hr
  case isFalse=>simp at hr
  rename_i hD;simp only[L.run]at hr;split at hr
  case h_2=>simp at hr
  rename_i g' ks vs ho;split at hr
  case isFalse=>simp at hr
  rename_i hg;subst hg;simp only[L.run_bind',L.run_ret]at hr;cases A:(qba (view D n) ks).run σ with
  |none=>rw[A]at hr;cases hr
  | some xs =>
   cases hd:(qba (view D n) vs).run σ with
   |none=>rw[A,hd]at hr;cases hr
   | some ys =>
    rw[A,hd]at hr;simp only[v7m,v7s]at hr;subst hr;obtain⟨M,H,ms,clock,E,p2,V,p4,p5⟩:=h.obj l _ ho;obtain⟨_,a2⟩:=ha;obtain⟨_,a3⟩:=a2 _ ho;obtain⟨b,c,W,a5⟩:=a3 rfl ks vs rfl;rw[W]at E;cases E;refine .inr ⟨_,ms,clock,a5,(v5d.1 V).1,?_,V,qeh (qep h D n) _ _ xs p4 A,qeh (qep h D n) _ _ ys p5 hd⟩;rintro(hX|⟨l',H,o',q1,q2,q3,q4⟩)
    ·exact p2 hX
    ·have:=h.inj1 l' l o' _ _ H _ q1 ho q2 rfl q4 W
     grind
def qbm(P:Program)(t:TypeId):Option AV:=((P.info? t).bind (·.zero)).map ofV
def vz7(op:BinOp)(k:IntKind)(a b:Int):Option AV :=
 match op with
 |.add=>some (.p (.int k (k.wrap (a+b))))
 |.sub=>some (.p (.int k (k.wrap (a-b))))
 |.mul=>some (.p (.int k (k.wrap (a*b))))
 |.quo=>if b=0 then none else some (.p (.int k (k.wrap (a.tdiv b))))
 |.rem=>if b=0 then none else some (.p (.int k (a.tmod b)))
 |.and=>some (.p (.int k (k.wrap ((BitVec.ofInt k.bits a&&&BitVec.ofInt k.bits b).toNat:Int))))
 |.or=>some (.p (.int k (k.wrap ((BitVec.ofInt k.bits a|||BitVec.ofInt k.bits b).toNat:Int))))
 |.xor=>some (.p (.int k (k.wrap ((BitVec.ofInt k.bits a^^^BitVec.ofInt k.bits b).toNat:Int))))
 |.andNot=>some (.p (.int k (k.wrap ((BitVec.ofInt k.bits a &&& ~~~(BitVec.ofInt k.bits b)).toNat:Int))))
 |.eql=>some (.p (.bool (a==b)))
 |.neq=>some (.p (.bool (a != b)))
 |.lss=>some (.p (.bool (decide (a<b))))
 |.leq=>some (.p (.bool (decide (a<=b))))
 |.gtr=>some (.p (.bool (decide (a>b))))
 |.geq=>some (.p (.bool (decide (a>=b))))
 |_=>none
def strA(op:BinOp)(a b:List UInt8):Option AV :=
 match op with
 |.eql=>some (.p (.bool (a==b)))
 |.neq=>some (.p (.bool (!(a==b))))
 |.lss=>some (.p (.bool (Op.bytesLess a b)))
 |.leq=>some (.p (.bool (Op.bytesLess a b||a==b)))
 |.gtr=>some (.p (.bool (!(Op.bytesLess a b||a==b))))
 |.geq=>some (.p (.bool (!Op.bytesLess a b)))
 |.add=>if a.length+b.length<=9223372036854775807 then some (.p (.str (a++b))) else none
 |_=>none
def voo(P:Program)(f:TypeId->List PV->List PV->Option Bool):List Field->List PV->List PV->Option Bool
 |[],_,_=>some true
 |fd::r,xs,ys =>
  if fd.name = "_" then voo P f r xs ys else
  match f fd.type ((xs.drop fd.offset).take (P.cellsOf fd.type)) ((ys.drop fd.offset).take (P.cellsOf fd.type)),voo P f r xs ys with
  |some a,some b=>some (a&&b)
  |_,_=>none
def vse(f:List PV->List PV->Option Bool)(sz:Nat)(A E:List PV):List Nat->Option Bool
 |[]=>some true
 |i::r=>match f ((A.drop (i*sz)).take sz) ((E.drop (i*sz)).take sz),vse f sz A E r with
  |some a,some b=>some (a&&b)
  |_,_=>none
def eqT(P:Program):Nat->TypeId->List PV->List PV->Option Bool
 |0,_,_,_=>none
 |d+1,t,xs,ys =>
  match P.underlying t with
  |some .bool=>(match xs,ys with|[.bool a],[.bool b]=>some (a==b)|_,_=>none)
  |some (.int _)=>(match xs,ys with|[.int k a],[.int k' b]=>if k=k' then some (a==b) else none|_,_=>none)
  |some .string=>(match xs,ys with|[.str a],[.str b]=>some (a==b)|_,_=>none)
  |some (.struct fs)=>if P.stoodInHeld t then none else voo P (eqT P d) fs.toList xs ys
  |some (.array n e)=>if(P.info? e).isSome then vse (eqT P d e) (P.cellsOf e) xs ys (v6s n) else none
  |_=>none
def vx6(P:Program)(op:BinOp)(t:TypeId)(x y:PV):Option AV :=
 match x,y with
 |.int k a,.int k' b =>
  match op with
  |.shl=>if b<0 then none else some (.p (.int k (k.wrap (a*2^(min b.toNat k.bits)))))
  |.shr=>if b<0 then none else some (.p (.int k (a.fdiv (2^(min b.toNat k.bits)))))
  |_=>if k=k' then vz7 op k a b else none
 |.str a,.str b=>strA op a b
 |.bool a,.bool b=>(match P.underlying t,op with
  |some .bool,.eql=>some (.p (.bool (a==b)))
  |some .bool,.neq=>some (.p (.bool (!(a==b))))
  |_,_=>none)
 |.imm _,.nilp=>(match P.underlying t,op with
  |some (.pointer _),.eql=>some (.p (.bool false))
  |some (.pointer _),.neq=>some (.p (.bool true))
  |_,_=>none)
 |.nilp,.nilp=>(match P.underlying t,op with
  |some (.pointer _),.eql=>some (.p (.bool true))
  |some (.pointer _),.neq=>some (.p (.bool false))
  |_,_=>none)
 |_,_=>none
def vop(P:Program)(op:BinOp)(t:TypeId)(x y:AV):Option AV :=
 match x,y with
 | .p x,.p y =>
  if x.isAgg&&y.isAgg then
   match P.eqGuardType P.depth t,qat P t,op with
   |false,some true,.eql=>(eqT P 9 t x.cells y.cells).map fun r=>.p (.bool r)
   |false,some true,.neq=>(eqT P 9 t x.cells y.cells).map fun r=>.p (.bool (!r))
   |_,_,_=>none
  else vx6 P op t x y
 |.p (.slc (_::_)),.nils=>(match P.underlying t,op with
  |some (.slice _),.eql=>some (.p (.bool false))
  |some (.slice _),.neq=>some (.p (.bool true))
  |_,_=>none)
 |.nils,.nils=>(match P.underlying t,op with
  |some (.slice _),.eql=>some (.p (.bool true))
  |some (.slice _),.neq=>some (.p (.bool false))
  |_,_=>none)
 |_,_=>none
def unA(op:UnOp)(x:AV):Option AV :=
 match op,x with
 |.neg,.p (.int k n)=>some (.p (.int k (k.wrap (0-n))))
 |.xor,.p (.int k n)=>vz7 .xor k (if k.signed then -1 else k.max) n
 |.not,.p (.bool b)=>some (.p (.bool !b))
 |_,_=>none
def q6v(P:Program)(t:TypeId)(cs:List AV)(off:Nat):Option AV :=
 match qat P t with
 |some true=>if off+P.cellsOf t<=cs.length then some (qkz ((cs.drop off).take (P.cellsOf t))) else none
 |some false=>cs[off]?
 |none=>none
def qzm(P:Program)(t:TypeId)(x:AV)(off:Nat):Option AV :=
 if !x.known then none else
 if off=0/\qat P t=some true/\P.cellsOf t=x.cells.length/\x.isAgg=true then some x else q6v P t x.cells off
def vab(x:AV)(off:Nat)(v:AV):AV:=qkz (x.cells.take off++v.cells++x.cells.drop (off+v.cells.length))
def qqb(x:AV)(off:Nat)(v:AV):Option AV :=
 if !v.known then none else
 if x.isAgg then(if v.isAgg&&off==0&&v.cells.length==x.cells.length then some v else
  if off+v.cells.length<=x.cells.length then some (vab x off v) else none)
 else if off==0&&x.known&&!v.isAgg then some v else none
abbrev Upd:=Option (Nat×AO)
def upd(σ:Nat->AO):Upd->(Nat->AO)
 |none=>σ
 |some (l,o)=>qmz σ l o
def qz3(P:Program)(t:TypeId):AV->L AV
 | .loc l g i off=>.look l fun o=>match o with
  |.arr _ _ g' es=>if g=g' then(match es[i]? with
   |some x=>(match qzm P t x off with|some v=>.ret v|none=>.fail)
   |none=>.fail) else .fail
  |_=>.fail
 |.p (.imm cs)=>(match q6v P t (cs.map .p) 0 with|some v=>.ret v|none=>.fail)
 |_=>.fail
def q27(P:Program)(t:TypeId)(A v:AV):L (AV×Upd) :=
 match A with
 | .loc l g i off=>.look l fun o=>match o with
  | .arr e sz g' es=>if g=g'∧v.cells.length=P.cellsOf t∧(qat P t).isSome=true then (match es[i]? with
   |some x=>(match qqb x off v with
    |some y=>.ret (.any,some (l,.arr e sz g (es.set i y)))
    |none=>.fail)
   |none=>.fail) else .fail
  |_=>.fail
 |_=>.fail
def qz4:AV->Option Int
 |.p (.int _ n)=>some n
 |_=>none
def vac(v:AV):L AV :=
 match v with
 |.p (.str s)=>.ret (.p (.int .i64 s.length))
 |.p (.slc es)=>.ret (.p (.int .i64 es.length))
 |.nils=>.ret (.p (.int .i64 0))
 |.own l g off len=>.look l fun o=>match o with
  |.arr _ _ g' _=>if g=g' then .ret (.p (.int .i64 len)) else .fail
  |_=>.fail
 |.p .nilm=>.ret (.p (.int .i64 0))
 |.p (.mapv ks _)=>.ret (.p (.int .i64 ks.length))
 |.mapo l g=>.look l fun o=>match o with
  |.map g' ks _=>if g=g' then .ret (.p (.int .i64 ks.length)) else .fail
  |_=>.fail
 |_=>.fail
def qqc(v:AV):L (List AV) :=
 match v with
 |.p (.slc es)=>.ret (es.map .p)
 |.nils=>.ret []
 |.own l g off len=>.look l fun o=>match o with
  |.arr _ _ g' es=>if g=g' then .ret ((es.drop off).take len) else .fail
  |_=>.fail
 |_=>.fail
def qqd(x:AV)(lo hi:Option Int):L AV :=
 match x with
 |.p (.str s) =>
  let h:=hi.getD s.length
  let l:=lo.getD 0
  if 0<=l/\l<=h/\h<=s.length then .ret (.p (.str ((s.drop l.toNat).take (h.toNat-l.toNat)))) else .fail
 |.p (.slc es) =>
  let h:=hi.getD es.length
  let l:=lo.getD 0
  if 0<=l/\l<=h/\h<=es.length then .ret (.p (.slc ((es.drop l.toNat).take (h.toNat-l.toNat)))) else .fail
 |.nils=>if lo.getD 0=0/\hi.getD 0=0 then .ret .nils else .fail
 | .own l g off len=>.look l fun o=>match o with
  | .arr _ _ g' es=>if g=g' then
    let h:=hi.getD len
    let A:=lo.getD 0
    if 0<=A/\A<=h/\h<=len then .ret (.own l g (off+A.toNat) (h.toNat-A.toNat)) else .fail
   else .fail
  |_=>.fail
 |_=>.fail
def qyl:Option AV->Option (Option Int)
 |none=>some none
 |some (.p (.int _ n))=>some (some n)
 |_=>none
def qau(P:Program)(s:TypeId)(f:Nat):Option Nat :=
 match P.underlying s with
 |some (.struct fs)=>(match fs[f]? with|some fd=>if P.cellsOf fd.type=0 then none else some fd.offset|none=>none)
 |_=>none
def qsc(P:Program)(t:TypeId):Bool:=(P.info? t).isSome
def qqe(P:Program)(t:TypeId)(x:AV)(i:Int):L AV :=
 match P.underlying t,x with
 | some (.slice e),.p (.slc es)=>if 0≤i then (match es[i.toNat]? with
   |some y=>if y.cells.length=P.cellsOf e/\qsc P e=true then .ret (.p (.imm y.cells)) else .fail
   |none=>.fail) else .fail
 |some (.slice e),.own l g off len=>.look l fun o=>match o with
  |.arr e' sz g' es=>if g=g'/\sz=P.cellsOf e/\0<=i/\i<len/\qsc P e=true then .ret (.loc l g (off+i.toNat) 0) else .fail
  |_=>.fail
 |some (.array n e),.loc l g j off=>if 0<=i/\i<n/\qsc P e=true then .ret (.loc l g j (off+i.toNat*P.cellsOf e)) else .fail
 |some (.array n e),.p (.imm cs)=>if 0<=i/\i<n/\qsc P e=true then .ret (.p (.imm (cs.drop (i.toNat*P.cellsOf e)))) else .fail
 |_,_=>.fail
def qyz(a b:PV):Option Bool :=
 match a,b with
 |.int k x,.int k' y=>if k=k' then some (x==y) else none
 |.str x,.str y=>some (x==y)
 |.bool x,.bool y=>some (x==y)
 |_,_=>none
def eqC:List PV->List PV->Bool
 |[],[]=>true
 |.int k x::xs,.int k' y::ys=>(k==k')&&((x==y)&&eqC xs ys)
 |.str x::xs,.str y::ys=>(x==y)&&eqC xs ys
 |.bool x::xs,.bool y::ys=>(x==y)&&eqC xs ys
 |_,_=>false
def qnw(P:Program)(E:TypeId)(a b:PV):Option Bool :=
 match a,b with
 |.agg xs,.agg ys=>(eqT P 9 E xs ys).bind fun r=>if r=eqC xs ys then some r else none
 |.agg _,_=>none
 |_,.agg _=>none
 |a,b=>qyz a b
def qhb(sz:Nat)(v:AV):Bool:=v.known&&v.cells.length==sz
def bytesOf(P:Program)(t:TypeId):Nat:=P.bytesOf t
def qu6(P:Program)(e n:Nat):Bool:=decide (n*P.bytesOf e<=140737488355328/\n<=9223372036854775807)
def viq(k:Nat)(mk:Nat->AO×AV):L (AV×Upd):=.look k fun o=>match o with
 |.dead g=>.ret ((mk (g+1)).2,some (k,(mk (g+1)).1))
 |_=>.fail
def vtu(P:Program)(k:Nat)(t:TypeId)(v:AV):L (AV×Upd) :=
 if v.known then viq k fun g=>(.arr t v.cells.length g [v],.loc k g 0 0) else .fail
def qdk(P:Program)(k:Nat)(t:TypeId)(s x:AV):L (AV×Upd) :=
 match P.underlying t with
 | some (.slice e)=>(match s with
  | .own l g off len=>(qqc x).bind fun A=>.look l fun o=>match o with
   | .arr e' sz g' es=>if g=g'∧e=e'∧sz=P.cellsOf e∧off=0∧len=es.length∧A.all (qhb sz)=true∧qu6 P e (len+A.length)=true∧0 < sz∧(qbm P e).isSome=true∧zeroLen P e=sz then
     .ret (.own l (g+1) 0 (len+A.length),some (l,.arr e sz (g+1) (es++A)))
    else .fail
   |_=>.fail
  | .nils=>(qqc x).bind fun A =>
    if A.all (qhb (P.cellsOf e))=true/\qu6 P e A.length=true/\0<P.cellsOf e/\(qbm P e).isSome=true/\zeroLen P e=P.cellsOf e then
     viq k fun g=>(.arr e (P.cellsOf e) g A,.own k g 0 A.length)
    else .fail
  |.p (.clip as)=>(match x with
   | .p (.slc bs)=>if (as.map AV.p).all (qhb (P.cellsOf e))=true∧(bs.map AV.p).all (qhb (P.cellsOf e))=true∧qu6 P e (as.length+bs.length)=true∧0 < P.cellsOf e∧(qbm P e).isSome=true∧zeroLen P e=P.cellsOf e then
     .ret (.p (.slc (as++bs)),none) else .fail
   |_=>.fail)
  |_=>.fail)
 |_=>.fail
where zeroLen (P:Program) (e:TypeId):Nat:=(((P.info? e).bind (·.zero)).map (·.cells.size)).getD 0
end
end Go.Ab
namespace Go.Ab
variable {D:Prop}
open Go
variable {P:Program} {X:Nat->Prop} {inj:Inj} {σ:Nat->AO} {w:World}
variable {t ty:TypeId} {val u v:Value} {off k:Nat} {a:Addr} {A:Type} {d:TypeDesc}
theorem qhi{b:Bool}(h:qat P t=some b):∃d,P.underlying t=some d/\(match d with|.struct _|.array _ _=>true|_=>false)=b:=by
 unfold qat at h
 grind
theorem qln(h:P.underlying t=some d):∃i,P.info? t=some i:=by
 unfold Program.underlying at h
 grind
theorem qo5(h:P.underlying t=some d)(w:World):(sizeOf t).run P w=.ok (P.cellsOf t) w:=by
 obtain⟨i,hi⟩:=qln h;simp[sizeOf,typeInfo,hi,Program.cellsOf]
theorem qmf{b:Bool}(h:qat P t=some b)(w:World):(isAgg t).run P w=.ok b w:=by
 obtain⟨d,A,E⟩:=qhi h;simp only[isAgg,v7w,run_underlying A,v7u];cases d<;>simp_all
theorem qod(h:qat P t=some true){cs:List Value}(E:∀j v,cs[j]?=some v->w.cell? (a.add j)=some v)(hn:cs.length=P.cellsOf t) :
  (loadVar t a).run P w=.ok (.agg cs.toArray) w:=by
 obtain⟨d,A,_⟩:=qhi h;simp only[loadVar,v7w,qmf h,v7u,if_true,qo5 A];rw[<-hn,run_loadCells_list w a cs E];rfl
theorem qsz(h:qat P t=some false)(A:w.cell? a=some v):(loadVar t a).run P w=.ok v w:=by
 simp[loadVar,qmf h,A]
theorem qve:∀{cs:List AV} {A:List PV},qq9 cs=some A->cs=A.map .p
 |[],A,h=>by simp only[qq9,v7s]at h;subst h;rfl
 | c :: cs,A,h=>by
  cases c with
  |p x =>
   simp only[qq9]at h;cases E:qq9 cs with
   |none=>rw[E]at h;cases h
   |some ys=>rw[E]at h;simp only[v7s]at h;subst h;rw[qve E];rfl
  |_=>simp[qq9]at h
theorem qub{cs:List AV}{vs:List Value}(h:ARs X inj σ w cs vs)(h1:qbp vs):AR X inj σ w (qkz cs) (.agg vs.toArray):=by
 unfold qkz;split
 ·rename_i A E;rw[qve E]at h;exact⟨vs,rfl,qby.1 h,h1⟩
 ·exact⟨vs,rfl,h,h1⟩
theorem vct{cs:List AV}{vs:List Value}(h:ARs X inj σ w cs vs):AR X inj σ w (ve7 cs) (.tuple vs.toArray):=by
 unfold ve7;split
 ·rename_i A E;rw[qve E]at h;exact⟨vs,rfl,qby.1 h⟩
 ·exact⟨vs,rfl,h⟩
theorem vir{fn:Fn}{cs:List AV}{vs:List Value}(h:ARs X inj σ w cs vs):AR X inj σ w (q6u fn cs) (.func fn #[] vs.toArray):=by
 unfold q6u;split
 ·rename_i A E;rw[qve E]at h;exact⟨vs,rfl,qby.1 h⟩
 ·exact⟨vs,rfl,h⟩
theorem vad(v:Value):AR X inj σ w (vsd v) v:=by
 unfold vsd;split<;>simp[AR,PR]
theorem AR.one_of{x:AV}(A:x.one=true)(h:AR X inj σ w x v):v.oneCell'=true:=by
 simp only[AV.one,v5i,v5m]at A;obtain⟨A,H⟩:=A;cases x with
 |any=>cases A
 |tup cs=>cases A
 |agg cs=>cases H
 |nils=>simp only[AR]at h;subst h;rfl
 |loc l g i off=>obtain⟨⟨a,rfl⟩,_⟩:=h;rfl
 |own l g off len=>obtain⟨⟨a,n,c,rfl⟩,_⟩:=h;rfl
 |mapo l g=>obtain⟨⟨r,rfl⟩,_⟩:=h;rfl
 |func fn cs=>obtain⟨vs,rfl,_⟩:=h;rfl
 |p x =>
  cases x with
  |agg cs=>cases H
  |tup cs=>cases A
  |slc es=>obtain⟨a,E,vs,rfl,_⟩:=h;rfl
  |nnil es=>obtain⟨a,E,vs,rfl,_⟩:=h;rfl
  |clip es=>obtain⟨a,vs,rfl,_⟩:=h;rfl
  |imm es=>obtain⟨a,E,vs,rfl,_⟩:=h;rfl
  |mapv ks es=>rcases h with⟨rfl,_⟩|⟨r,I,J,rfl,_⟩<;>rfl
  |func fn cs=>obtain⟨vs,rfl,_⟩:=h;rfl
  |bfn fn cs=>obtain⟨vs,rfl,_⟩:=h;rfl
  |_=>simp only[AR,PR]at h;subst h;rfl
theorem qym(v:Value):AR X inj σ w (ofV v) v:=by
 unfold ofV;split
 ·rename_i cs;split
  ·rename_i A;have h1:∀vs:List Value,(vs.all fun v=>(vsd v).one)=true->ARs X inj σ w (vs.map vsd) vs/\qbp vs:=by
    intro vs
    induction vs with
    |nil=>intro _;exact⟨rfl,fun u E=>by cases E⟩
    |cons v vs ih =>
     intro h;simp only[v5q,v5i]at h;obtain⟨H,I⟩:=ih h.2;refine⟨⟨v,vs,rfl,vad v,H⟩,fun u E=>?_⟩;cases List.mem_cons.1 E with
     |inl e=>subst e;exact AR.one_of (X:=X) (inj:=inj) (σ:=σ) (w:=w) h.1 (vad u)
     |inr e=>exact I u e
   have:=h1 cs.toList A;simpa using qub this.1 this.2
  ·trivial
 ·exact vad v
theorem HR.elem(h:HR X inj σ w){l e sz g es i x}(ho:σ l=.arr e sz g es)(V:es[i]?=some x) :
  ∃u b c cur,inj l=some (b,c)/\AR X inj σ w x u/\u.cells.size=sz/\qbp u.cells.toList/\¬X b/\w.heap[b]?=some (.cells cur e (0,0)) /\
   (∀j v,u.cells.toList[j]?=some v->cur.toList[i*sz+j]?=some v):=by
 obtain⟨vs,U,O,Z,M⟩:=(ho▸h.obj l _ rfl:OR X inj σ w l (.arr e sz g es));obtain⟨u,E,H⟩:=U.get V;have hi:i<vs.length:=(v56.1 E).1;have I:vs[i]=u:=(v56.1 E).2;have A:u∈vs:=v6m E;rcases M with⟨_,M⟩|⟨b,c,cur,p1,W,p3,p4,p5,p6,p7⟩
 ·grind
 ·refine⟨u,b,c,cur,p1,H,O u A,fun v J=>Z v (v6l.2 ⟨u,A,J⟩),W,p3,fun j v J=>q36 p7 ?_⟩;have hd:(flat vs).drop (i*sz)=u.cells.toList++flat (vs.drop (i+1)):=by
   rw[<-qoc i O,v5u hi,I,qkj]
  have:(flat vs)[i*sz+j]?=((flat vs).drop (i*sz))[j]?:=by rw[v51]
  grind
theorem q6w{x:AV}(A:x.isAgg=true)(h:AR X inj σ w x u):u=.agg u.cells.toList.toArray:=by
 cases x with
 |agg cs=>obtain⟨vs,rfl,_⟩:=h;simp[Value.cells]
 |p x =>
  cases x with
  |agg cs=>obtain⟨vs,rfl,_⟩:=h;simp[Value.cells]
  |_=>cases A
 |_=>cases A
theorem qz5{cs:List AV}{vs:List Value}{v:AV}(E:ARs X inj σ w cs vs)(h1:qbp vs)(A:q6v P t cs off=some v)(O:∀j u,vs[j]?=some u->off<=j->w.cell? (a.add (j-off))=some u):∃val,(loadVar t a).run P w=.ok val w/\AR X inj σ w v val:=by
 unfold q6v at A;split at A
 ·rename_i J;split at A
  ·rename_i M;simp only[v7s]at A;subst A;have hl:=E.length;refine⟨_,qod (cs:=(vs.drop off).take (P.cellsOf t)) J ?_ ?_,qub ((E.drop off).take _) fun u H=>h1 u (v6n (v6o H))⟩
   ·grind
   ·grind
  ·cases A
 ·rename_i J;obtain⟨u,H,I⟩:=E.get A;have:=O off u H (v7a _);rw[Nat.sub_self,Addr.add_zero']at this;exact⟨u,qsz J this,I⟩
 ·cases A
theorem q2g{x v:AV}(I:AR X inj σ w x u)(A:qzm P t x off=some v)(M:∀j c,u.cells.toList[j]?=some c->off<=j->w.cell? (a.add (j-off))=some c):∃val,(loadVar t a).run P w=.ok val w/\AR X inj σ w v val:=by
 unfold qzm at A;split at A
 ·cases A
 ·rename_i J;simp only[v5m,v5l]at J;obtain⟨E,H⟩:=AR.cells_of J I;split at A
  ·rename_i U;obtain⟨rfl,W,hn,O⟩:=U;simp only[v7s]at A;subst A;refine⟨u,?_,I⟩;have:=qod (P:=P) (w:=w) (t:=t) (a:=a) (cs:=u.cells.toList) W (fun j c V=>by simpa using M j c V (Nat.zero_le _)) (by rw[hn,E.length]);rw[this,<-q6w O I]
  ·exact qz5 E H A M
theorem qvf(h:HR X inj σ w){A v:AV}(ha:AR X inj σ w A val)(hr:(qz3 P t A).run σ=some v) :
  ∃u,(Instr.loadAt t val).run P w=.ok u w/\AR X inj σ w v u:=by
 cases A with
 | loc l g i off =>
  simp only[qz3,L.run]at hr;split at hr
  case h_2=>simp at hr
  rename_i e sz g' es ho;split at hr
  case isFalse=>simp at hr
  rename_i Z;subst Z;split at hr
  case h_2=>simp at hr
  rename_i x hx;split at hr
  case h_2=>simp at hr
  rename_i v' J;simp only[L.run_ret,v7s]at hr;subst hr;obtain⟨u,b,c,cur,hi,I,hsz,U,hX,hb,E⟩:=h.elem ho hx;obtain⟨_,V⟩:=ha;obtain⟨_,a3⟩:=V _ ho;obtain⟨M,c',O,rfl⟩:=a3 rfl e sz es rfl;rw[hi]at O;cases O;obtain⟨val,h1,H⟩:=q2g (P:=P) I J (a:=⟨b,i*sz+off,none⟩) (fun j c hj hle=>by
   rw[Addr.add_lit,show i*sz+off+(j-off)=i*sz+j by omega];exact qv8 hb (E j c hj))
  exact⟨val,by simpa[Instr.loadAt,Instr.sureAddr] using h1,H⟩
 | p x =>
  cases x with
  | imm cs =>
   simp only[qz3]at hr;split at hr
   case h_2=>simp at hr
   rename_i v' J;simp only[L.run_ret,v7s]at hr;subst hr;obtain⟨b,o,vs,rfl,h1,H,h3⟩:=ha;obtain⟨val,h4,W⟩:=qz5 (P:=P) (qby.2 h1) H J (a:=⟨b,o,none⟩) (fun j u hu _=>by
    rw[Addr.add_lit];exact h3.2.2 j u hu)
   exact⟨val,by simpa[Instr.loadAt,Instr.sureAddr] using h4,W⟩
  |_=>simp[qz3]at hr
 |_=>simp[qz3]at hr
def splice(L:List A)(o:Nat)(vals:List A):List A:=L.take o++vals++L.drop (o+vals.length)
theorem qmg(L:List A)(o:Nat)(vals:List A)(h:o+vals.length<=L.length)(j:Nat) :
  (splice L o vals)[j]?=if j<o then L[j]? else if j<o+vals.length then vals[j-o]? else L[j]?:=by
 unfold splice
 grind
theorem qic(L:List A)(o:Nat)(vals:List A)(h:o+vals.length<=L.length):(splice L o vals).length=L.length:=by
 unfold splice
 grind
theorem qra{sz:Nat}{vs:List Value}(h:∀v∈vs,v.cells.size=sz){i:Nat}(E:vs[i]?=some u){j:Nat}(I:j<sz):(flat vs)[i*sz+j]?=u.cells.toList[j]?:=by
 have hi:i<vs.length:=(v56.1 E).1;have A:vs[i]=u:=(v56.1 E).2;have H:(flat vs).drop (i*sz)=u.cells.toList++flat (vs.drop (i+1)):=by
  rw[<-qoc i h,v5u hi,A,qkj]
 have:(flat vs)[i*sz+j]?=((flat vs).drop (i*sz))[j]?:=by rw[v51]
 grind
theorem vcu{sz:Nat}{vs:List Value}(h:∀v∈vs,v.cells.size=sz){i:Nat}{I:Value}(U:vs[i]?=some u){vals:List Value}
  (O:I.cells.toList=splice u.cells.toList off vals) (M:off+vals.length<=sz):flat (vs.set i I)=splice (flat vs) (i*sz+off) vals:=by
 have hi:i<vs.length:=(v56.1 U).1;have V:u.cells.size=sz:=h u (v6m U);have hs':I.cells.size=sz:=by rw[<-v5f,O,qic _ _ _ (by rw[show u.cells.toList.length=sz by rw[v5f,V]];exact M),v5f,V]
 have A:∀v∈vs.set i I,v.cells.size=sz:=fun v W=>by
  grind
 have J:(i+1)*sz<=vs.length*sz:=v7h _ hi;rw[v62,v7i]at J;have Z:i*sz+off+vals.length<=(flat vs).length:=by
  rw[qb1 h];omega
 apply v5y;intro k;rw[qmg _ _ _ Z];by_cases E:sz=0
 ·subst E;have e1:(flat (vs.set i I)).length=0:=by rw[qb1 A];simp
  have e2:(flat vs).length=0:=by rw[qb1 h];simp
  grind
 ·have E:0<sz:=by omega
  obtain⟨q,r,hr,rfl⟩:∃q r,r<sz/\k=q*sz+r:=⟨k/sz,k%sz,v7f _ E,by rw[v7g];exact(v67 k sz).symm⟩;by_cases hq:q<vs.length
  ·have W:vs[q]?=some vs[q]:=v52 hq;by_cases H:q=i
   ·subst H;rw[qra A (i:=q) (u:=I) (by simp[hq]) hr,O,qmg _ _ _ (by rw[show u.cells.toList.length=sz by rw[v5f,V]];exact M),qra h U hr]
    grind
   ·rw[qra A (i:=q) (u:=vs[q]) (by rw[List.getElem?_set_ne (Ne.symm H)];exact W) hr,qra h W hr];rcases Nat.lt_or_gt_of_ne H with c|c
    ·have:(q+1)*sz<=i*sz:=v7h _ c
     grind
    ·have:(i+1)*sz<=q*sz:=v7h _ c
     grind
  ·have:vs.length*sz<=q*sz:=v7h _ (by omega);rw[v54 (by rw[qb1 A,v6f];omega)];rw[if_neg (by omega),if_neg (by omega),v54 (by rw[qb1 h];omega)]
theorem ARs.set{cs:List AV}{vs:List Value}(h:ARs X inj σ w cs vs){i:Nat}{y:AV}{u:Value}(H:AR X inj σ w y u):ARs X inj σ w (cs.set i y) (vs.set i u):=by
 induction cs generalizing vs i with
 |nil=>simp only[ARs]at h;subst h;simp[ARs]
 |cons c cs ih =>
  simp only[ARs]at h;obtain⟨v,r,rfl,E,A⟩:=h;cases i with
  |zero=>exact⟨u,r,rfl,H,A⟩
  |succ i=>exact⟨v,r.set i u,rfl,E,ih A⟩
theorem ARs.append{cs A:List AV}{vs us:List Value}(h:ARs X inj σ w cs vs)(k:ARs X inj σ w A us):ARs X inj σ w (cs++A) (vs++us):=by
 induction cs generalizing vs with
 |nil=>simp only[ARs]at h;subst h;exact k
 |cons c cs ih =>
  simp only[ARs]at h;obtain⟨v,r,rfl,E,H⟩:=h;exact⟨v,r++us,rfl,E,ih H⟩
theorem frozen_setRow(w:World)(g:Nat)(cs:Array Value)(a:Addr):(w.setRow g cs).frozen? a=w.frozen? a:=by
 simp only[World.frozen?,World.setRow,Array.getElem?_modify]
 grind
theorem quc(inj:Inj)(l:Nat):(fun k=>if k=l then inj l else inj k)=inj:=by
 funext k;split<;>simp_all
theorem qs0{x y v:AV}{sz:Nat}(hx:AR X inj σ w x u)(Z:AR X inj σ w v val)(hsz:u.cells.size=sz)(h1:qbp u.cells.toList)
  (H:qqb x off v=some y):off+v.cells.length<=sz/\qbp val.cells.toList/\v.cells.length=val.cells.size /\
   ∃u',AR X inj σ w y u'/\u'.cells.toList=splice u.cells.toList off val.cells.toList/\qbp u'.cells.toList:=by
 unfold qqb at H;split at H
 ·cases H
 rename_i V;simp only[v5m,v5l]at V;obtain⟨W,E⟩:=AR.cells_of V Z;have J:v.cells.length=val.cells.size:=by rw[W.length,v5f]
 split at H
 ·rename_i M;have O:x.known=true:=by
   cases x with
   |p x=>cases x<;>first|rfl|cases M
   |_=>first|rfl|cases M
  obtain⟨U,I⟩:=AR.cells_of O hx;have hxl:x.cells.length=sz:=by rw[U.length,v5f,hsz]
  split at H
  ·rename_i A;simp only[v5i,beq_iff_eq]at A;obtain⟨⟨hg2,rfl⟩,hl⟩:=A;simp only[v7s]at H;subst H;refine⟨by omega,E,J,val,Z,?_,E⟩;unfold splice;rw[v6z,v6r,v5v (by simp only[v5f];omega),v5s]
  ·split at H
   case isFalse=>cases H
   rename_i hle;simp only[v7s]at H;subst H;refine⟨by omega,E,J,.agg (splice u.cells.toList off val.cells.toList).toArray,?_,by simp[Value.cells],?_⟩
   ·unfold vab splice;refine qub (((U.take off).append W).append ?_) ?_
    ·rw[show off+v.cells.length=off+val.cells.toList.length by rw[J,v5f]];exact U.drop _
    ·intro c A;rcases v6k.1 A with A|A
     ·rcases v6k.1 A with A|A
      ·exact I c (v6o A)
      ·exact E c A
     ·exact I c (v6n A)
   ·simp only[Value.cells];intro c A;unfold splice at A;rcases v6k.1 A with A|A
    ·rcases v6k.1 A with A|A
     ·exact I c (v6o A)
     ·exact E c A
    ·exact I c (v6n A)
 ·rename_i M;split at H
  case isFalse=>cases H
  rename_i A;simp only[v5i,beq_iff_eq,v5m,v5l]at A M;obtain⟨⟨rfl,O⟩,hvg⟩:=A;simp only[v7s]at H;subst H;have vyb:∀{z:AV} {q:Value},AR X inj σ w z q->z.known=true->z.isAgg=false->q.cells.size=1:=by
   intro z q hz V M;have:=AR.one_of (X:=X) (inj:=inj) (σ:=σ) (w:=w) (by simp[AV.one,V,M]) hz;cases q<;>first|rfl|cases this
  have hs1:=vyb hx O (by simpa using M);have hs2:=vyb Z V hvg;refine⟨by omega,E,J,val,Z,?_,E⟩;unfold splice;rw[v6z,v6r,v5v (by simp only[v5f];omega),v5s]
theorem q6x(h:HR X inj σ w){E v r:AV}{ua V:Value}{I:Upd}(ha:AR X inj σ w E ua)(hv:AR X inj σ w v V)(hr:(q27 P t E v).run σ=some (r,I)) :
  ∃w',(Instr.storeAt t ua V).run P w=.ok () w'/\HR X inj (upd σ I) w'/\Ev D X inj σ w inj (upd σ I) w'/\r=.any:=by
 cases E with
 | loc l g i off =>
  simp only[q27,L.run]at hr;split at hr
  case h_2=>simp at hr
  rename_i e sz g' es ho;split at hr
  case isFalse=>simp at hr
  rename_i hc;obtain⟨rfl,hlen,hty⟩:=hc;split at hr
  case h_2=>simp at hr
  rename_i x hx;split at hr
  case h_2=>simp at hr
  rename_i y hp;simp only[L.run_ret,v7s,v7t]at hr;obtain⟨rfl,rfl⟩:=hr;obtain⟨vs,U,O,o3,o4⟩:=(ho▸h.obj l _ rfl:OR X inj σ w l (.arr e sz g es));obtain⟨u,hu,hau⟩:=U.get hx;have H:u∈vs:=v6m hu;have hone:qbp u.cells.toList:=fun c hc=>o3 c (v6l.2 ⟨u,H,hc⟩)
  obtain⟨s1,s2,s3,u',s4,s5,s6⟩:=qs0 hau hv (O u H) hone hp;obtain⟨_,a2⟩:=ha;obtain⟨_,a3⟩:=a2 _ ho;obtain⟨b,c,a4,rfl⟩:=a3 rfl e sz es rfl;rcases o4 with⟨o4,_⟩|⟨M,c',cur,p1,p2,p3,p4,p5,p6,p7⟩
  ·grind
  rw[a4]at p1;cases p1;have hi:i<vs.length:=(v56.1 hu).1;have hel:es.length=vs.length:=U.length;have hmul:(i+1)*sz<=vs.length*sz:=v7h _ hi;have Z:es.length*sz<=c*sz:=v7h _ p4;rw[hel]at Z;rw[v62,v7i]at hmul;have J:V.cells.toList.length=v.cells.length:=by rw[v5f,s3]
  have hst:=run_storeCells_at P b (i*sz+off) e V.cells.toList 0 cur w p3 (by rw[J,p6];omega) s2;simp only[v65]at hst;obtain⟨ty,hty'⟩:=v7p.1 hty;obtain⟨d,hd,_⟩:=qhi hty';have hsz':V.cells.size=P.cellsOf t:=by rw[<-s3,hlen]
  have hct:cur.toList.length=c*sz:=by rw[v5f,p6]
  have A:i*sz+off+V.cells.toList.length<=cur.toList.length:=by rw[J,hct];omega
  have hup:=h.update (D:=D) (w':=w.setRow b (splice cur.toList (i*sz+off) V.cells.toList).toArray) (l:=l) (o:=.arr e sz g es) (o':=.arr e sz g (es.set i y)) (x:=inj l) ho rfl rfl rfl (fun _=>v7a _) (by simp)
   (fun a _=>frozen_setRow w b _ a) (fun k hk hne=>setRow_other w b k _ (fun e=>hne rfl c (by rw[e];exact a4)))
   (fun b1 c1 h1=>.inr ⟨rfl,c1,h1⟩) ⟨v7a _,fun _ _=>⟨rfl,.inl ⟨e,sz,es,_,rfl,rfl,by simp⟩⟩⟩
  rw[quc]at hup;obtain⟨hev,hhr⟩:=hup;refine⟨_,?_,hhr ?_,hev,rfl⟩
  ·simp only[Instr.storeAt,Instr.sureAddr,storeVar,v7w,v7x,v7u,qo5 hd,hsz',ne_eq,not_true_eq_false,if_false];exact hst
  ·refine⟨vs.set i u',(ARs.ev hev h.xlt es vs U).set (AR.ev hev h.xlt y u' s4),?_,?_,.inr ⟨b,c,_,a4,p2,setRow_heap w b cur _ e _ p3,by simpa using p4,p5,?_,?_⟩⟩
   ·intro q W;rcases v6p W with h1|h1
    ·exact O q h1
    ·rw[h1,<-v5f,s5,qic _ _ _ (by rw[J,show u.cells.toList.length=sz by rw[v5f,O u H]];exact s1),v5f,O u H]
   ·intro q W;obtain⟨z,hz,W⟩:=v6l.1 W;rcases v6p hz with h1|h1
    ·exact o3 q (v6l.2 ⟨z,h1,W⟩)
    ·rw[h1]at W;exact s6 q W
   ·rw[v6v,qic _ _ _ A,hct]
   ·rw[vcu O hu s5 (by rw[J];exact s1),<-p7,v6f];apply v5y;intro k;have hA:i*sz+off+V.cells.toList.length<=(cur.toList.take (es.length*sz)).length:=by
     grind
    rw[v59,qmg _ _ _ A,qmg _ _ _ hA,v59]
    grind
 |_=>simp[q27]at hr
theorem HR.fresh(h:HR X inj σ w){l g' e sz es vs w' b c cur}(hg:(σ l).gen<g')
  (hos:w'.os=w.os) (A:w'.tape=w.tape) (M:w'.output=w.output) (hdr:D->w.drawn<=w'.drawn) (hsz:w.heap.size<=w'.heap.size)
  (hfz:∀a,w'.frozen? a=w.frozen? a) (O:∀b,b<w.heap.size->w'.heap[b]?=w.heap[b]?)
  (W:w.heap.size<=b) (E:w'.heap[b]?=some (.cells cur e (0,0))) (hes:ARs X inj σ w es vs) (hs:∀v∈vs,v.cells.size=sz) (U:qbp (flat vs))
  (I:es.length<=c) (J:c<=maxLen) (hcs:cur.size=c*sz) (H:cur.toList.take (es.length*sz)=flat vs) :
  HR X (fun k=>if k=l then some (b,c) else inj k) (qmz σ l (.arr e sz g' es)) w'/\Ev D X inj σ w (fun k=>if k=l then some (b,c) else inj k) (qmz σ l (.arr e sz g' es)) w':=by
 have Z:=h.update (D:=D) (w':=w') (l:=l) (o:=σ l) (o':=.arr e sz g' es) (x:=some (b,c)) rfl hos A M hdr hsz (fun a _=>hfz a) (fun b W _=>O b W)
  (fun b1 c1 h1=>by cases h1;exact .inl W) ⟨v69 hg,fun _ he=>by simp only[AO.gen]at he hg;omega⟩
 obtain⟨hev,V⟩:=Z;refine⟨V ⟨vs,ARs.ev hev h.xlt es vs hes,hs,U,.inr ⟨b,c,cur,by simp,fun hX=>?_,E,I,J,hcs,H⟩⟩,hev⟩;have:=h.xlt b hX;omega
theorem qs1(w:World)(c:Array Value)(t:TypeId)(a:Addr):(w.alloc (.cells c t)).frozen? a=w.frozen? a:=RowKit.frozen?_alloc_cells w c t a
theorem HR.alloc(h:HR X inj σ w){l g' e sz es vs}{w1:World}{c:Nat}{cur:Array Value}(M:w1=w\/w1=w.drew)(hg:(σ l).gen<g')
  (O:ARs X inj σ w es vs) (W:∀v∈vs,v.cells.size=sz) (H:qbp (flat vs))
  (E:es.length<=c) (I:c<=maxLen) (J:cur.size=c*sz) (A:cur.toList.take (es.length*sz)=flat vs) :
  HR X (fun k=>if k=l then some (w.heap.size,c) else inj k) (qmz σ l (.arr e sz g' es)) (w1.alloc (.cells cur e)) /\
  Ev D X inj σ w (fun k=>if k=l then some (w.heap.size,c) else inj k) (qmz σ l (.arr e sz g' es)) (w1.alloc (.cells cur e)):=by
 have h1:w1.os=w.os/\w1.tape=w.tape/\w1.output=w.output/\w1.heap=w.heap/\(∀a,w1.frozen? a=w.frozen? a)/\w.drawn<=w1.drawn:=by
  rcases M with rfl|rfl
  ·grind
  ·exact⟨rfl,rfl,rfl,rfl,fun _=>rfl,v7b _⟩
 obtain⟨e1,e2,e3,Z,V,e6⟩:=h1;have U:(w1.alloc (.cells cur e)).heap=w.heap.push (.cells cur e):=by rw[<-Z];rfl
 refine h.fresh hg e1 e2 e3 (fun _=>e6) (by rw[U];simp) (fun a=>(qs1 w1 cur e a).trans (V a)) (fun b hb=>?_) (v7a _) (by rw[U];simp) O W H E I J A
 grind
theorem qzn(u:Value):flat [u]=u.cells.toList:=by simp[flat]
theorem qoe{x:AV}(A:x.known=true)(h:AR X inj σ w x v):v.cells.size=x.cells.length:=by
 obtain⟨h1,_⟩:=AR.cells_of A h;rw[h1.length,v5f]
theorem q37{l g e sz es b c}(A:σ l=.arr e sz g es)(hi:inj l=some (b,c))(i off:Nat):vip inj σ l g i off (.pointer (some ⟨b,i*sz+off,none⟩)):=by
 refine⟨⟨_,rfl⟩,fun o ho=>?_⟩;rw[A]at ho;subst ho;refine⟨v7a _,fun _ I E es' H=>?_⟩
 grind
theorem qo6{l g e sz es b c len}(A:σ l=.arr e sz g es)(hi:inj l=some (b,c))(h1:len<=es.length)(H:len<=c):ve6 inj σ l g 0 len (.slice (some ⟨b,0,none⟩) len c):=by
 refine⟨⟨_,_,_,rfl⟩,fun o ho=>?_⟩;rw[A]at ho;subst ho;refine⟨v7a _,fun _ I E es' J=>?_⟩
 grind
theorem q28(h:HR X inj σ w){v r:AV}{I:Upd}(H:AR X inj σ w v val)(hr:(vtu P k t v).run σ=some (r,I)) :
  ∃A,HR X A (upd σ I) (w.alloc (.cells val.cells t))/\Ev D X inj σ w A (upd σ I) (w.alloc (.cells val.cells t))/\AR X A (upd σ I) (w.alloc (.cells val.cells t)) r (.pointer (some ⟨w.heap.size,0,none⟩)):=by
 unfold vtu viq at hr;split at hr
 case isFalse=>simp at hr
 rename_i M;simp only[L.run]at hr;split at hr
 case h_2=>simp at hr
 rename_i g ho;simp only[L.run_ret,v7s,v7t]at hr;obtain⟨rfl,rfl⟩:=hr;obtain⟨O,E⟩:=AR.cells_of M H;have hn:=qoe M H;have:=h.alloc (D:=D) (l:=k) (g':=g+1) (e:=t) (sz:=v.cells.length) (es:=[v]) (vs:=[val]) (w1:=w) (c:=1) (cur:=val.cells) (.inl rfl) (by rw[ho];exact v7e _)
  ⟨val,[],rfl,H,rfl⟩ (fun u J=>by simp at J;rw[J,hn]) (by rw[qzn];exact E) (v7a _) (by simp[maxLen]) (by rw[hn];omega)
  (by rw[qzn,v6y];rw[v5f,hn];simp)
 exact⟨_,this.1,this.2,by
  have:=q37 (inj:=fun j=>if j=k then some (w.heap.size,1) else inj j) (σ:=qmz σ k (.arr t v.cells.length (g+1) [v])) (b:=w.heap.size) (c:=1) (qc1 _ _ _) (by simp) 0 0;simpa[AR,upd] using this⟩
theorem qxv{e:TypeId}(E:(qbm P e).isSome=true):∃i z,P.info? e=some i/\i.zero=some z/\qdk.zeroLen P e=z.cells.size/\i.size=P.cellsOf e/\i.bytes=P.bytesOf e:=by
 unfold qbm at E;cases hi:P.info? e with
 |none=>rw[hi]at E;cases E
 |some i =>
  rw[hi]at E;cases A:i.zero with
  |none=>simp[A]at E
  |some z=>exact⟨i,z,rfl,A,by simp[qdk.zeroLen,hi,A],by simp[Program.cellsOf,hi],by simp[Program.bytesOf,hi]⟩
theorem qk5{sz:Nat}:∀{es:List AV} {vs:List Value},es.all (qhb sz)=true->ARs X inj σ w es vs->(∀v∈vs,v.cells.size=sz)/\qbp (flat vs)
 |[],_,_,h=>by simp only[ARs]at h;subst h;simp[flat,qbp]
 | e :: es,_,ha,h=>by
  simp only[ARs]at h;obtain⟨v,r,rfl,E,M⟩:=h;simp only[v5q,v5i,qhb,beq_iff_eq]at ha;obtain⟨⟨H,hl⟩,hr⟩:=ha;obtain⟨I,J⟩:=qk5 (sz:=sz) (by simpa[qhb] using hr) M;obtain⟨_,ho⟩:=AR.cells_of H E;refine⟨fun u A=>?_,fun u A=>?_⟩
  ·rcases List.mem_cons.1 A with rfl|A
   ·rw[qoe H E,hl]
   ·exact I u A
  ·rw[qkj]at A;rcases v6k.1 A with A|A
   ·exact ho u A
   ·exact J u A
theorem qs2(h:HR X inj σ w){x:AV}{A:List AV}(I:AR X inj σ w x val)(hr:(qqc x).run σ=some A) :
  ∃a E vs,val=.slice a A.length E/\A.length<=E/\ARs X inj σ w A vs/\(vs=[]\/∃b o sz,a=some ⟨b,o,none⟩/\(∀v∈vs,v.cells.size=sz) /\
   ∀j u,(flat vs)[j]?=some u->w.cell? ⟨b,o+j,none⟩=some u):=by
 cases x with
 | p x =>
  cases x with
  |slc es =>
   simp only[qqc,L.run_ret,v7s]at hr;subst hr;obtain⟨a,E,vs,rfl,hc,h1,J⟩:=I;refine⟨a,E,vs,by simp,by simpa using hc,qby.2 h1,?_⟩;rcases J with J|⟨b,o,sz,ha,hz,_,hr⟩
   ·exact .inl J
   ·exact .inr ⟨b,o,sz,ha,hz,hr.2.2⟩
  |_=>simp[qqc]at hr
 |nils =>
  simp only[qqc,L.run_ret,v7s]at hr;subst hr;simp only[AR]at I;exact⟨none,0,[],I,by simp,rfl,.inl rfl⟩
 | own l g off len =>
  simp only[qqc,L.run]at hr;split at hr
  case h_2=>simp at hr
  rename_i e sz g' es ho;split at hr
  case isFalse=>simp at hr
  rename_i hg;subst hg;simp only[L.run_ret,v7s]at hr;subst hr;obtain⟨vs,U,O,o3,o4⟩:=(ho▸h.obj l _ rfl:OR X inj σ w l (.arr e sz g es));obtain⟨_,a2⟩:=I;obtain⟨_,a3⟩:=a2 _ ho;obtain⟨a4,a5⟩:=a3 rfl e sz es rfl;have hl:((es.drop off).take len).length=len:=by rw[v6g,v6c];omega
  rcases a5 with⟨W,rfl,rfl,rfl⟩|⟨b,c,a,W,rfl,i2,H⟩
  ·exact⟨none,0,[],by simp,by simp,by simp[ARs],.inl rfl⟩
  ·refine⟨a,c-off,(vs.drop off).take len,by rw[hl],by omega,(U.drop off).take len,?_⟩;by_cases h0:len=0
   ·grind
   ·rcases H with⟨_,H⟩|H
    ·omega
    ·subst H;rcases o4 with⟨o4,_⟩|⟨M,c',cur,Z,p2,p3,p4,p5,p6,p7⟩
     ·grind
     ·rw[W]at Z;cases Z;have hfl:flat ((vs.drop off).take len)=((flat vs).drop (off*sz)).take (len*sz):=by
       rw[qm4 len fun v V=>O v (v6n V),qoc off O]
      refine .inr ⟨b,off*sz,sz,rfl,fun v V=>O v (v6n (v6o V)),fun j u hu=>qv8 p3 ?_⟩
      grind
 |_=>simp[qqc]at hr
theorem qof(w:World){e:TypeId}{E:Option Addr}{H A:Nat}{J:Option Addr}{M:Nat}(O:P.underlying t=some (.slice e)){i:TypeInfo}(hi:P.info? e=some i)(I:H<=A) :
  (Builtin.append_ #[t,t] ty #[.slice E H A,.slice J 0 M]).run P w=.ok (.slice E H A) w:=by
 cases E<;>cases J<;>simp[Builtin.append_,run_underlying O,sizeOf,typeInfo,hi,Builtin.lenOf,I,Builtin.firstCells,loadCells,loadCellsFrom,storeCells]
theorem HR.other(h:HR X inj σ w){w':World}(hos:w'.os=w.os)(E:w'.tape=w.tape)(I:w'.output=w.output)(hdr:D->w.drawn<=w'.drawn)(J:w.heap.size<=w'.heap.size)
  (hfz:∀a,a.block<w.heap.size->w'.frozen? a=w.frozen? a) (A:∀b,b<w.heap.size->w'.heap[b]?=w.heap[b]?):HR X inj σ w'/\Ev D X inj σ w inj σ w':=by
 have hev:Ev D X inj σ w inj σ w':=⟨hos,E,I,hdr,J,hfz,fun b U _=>A b U,fun _ hf=>.inl hf,fun l=>(OEv.refl _).of fun _=>rfl⟩;refine⟨⟨fun l o ho=>?_,h.inj1,fun b U=>v7d (h.xlt b U) J⟩,hev⟩;have h0:=h.obj l o ho;cases o with
 |dead g=>trivial
 |arr e sz g es =>
  obtain⟨vs,h1,h2,h3,Z⟩:=h0;refine⟨vs,ARs.ev hev h.xlt es vs h1,h2,h3,?_⟩;rcases Z with Z|⟨b,c,cur,O,V,M,W⟩
  ·exact .inl Z
  ·exact .inr ⟨b,c,cur,O,V,by rw[A b (v5d.1 M).1];exact M,W⟩
 |map g ks vs =>
  obtain⟨b,c,ms,H,O,V,M,W,h9⟩:=h0;exact⟨b,c,ms,H,O,V,by rw[A b (v5d.1 M).1];exact M,ARs.ev hev h.xlt ks _ W,ARs.ev hev h.xlt vs _ h9⟩
theorem vae(h:HR X inj σ w){e:TypeId}{A E:List PV}{J xv:Value}(ht:P.underlying t=some (.slice e))(hs:AR X inj σ w (.p (.clip A)) J)(hx:AR X inj σ w (.p (.slc E)) xv)
  (ha:(A.map AV.p).all (qhb (P.cellsOf e))=true) (hb:(E.map AV.p).all (qhb (P.cellsOf e))=true) (I:qu6 P e (A.length+E.length)=true) (hpos:0<P.cellsOf e) (hzs:(qbm P e).isSome=true) (hzl:qdk.zeroLen P e=P.cellsOf e) :
  ∃val w',(Builtin.append_ #[t,t] ty #[J,xv]).run P w=.ok val w'/\HR X inj σ w'/\Ev D X inj σ w inj σ w'/\AR X inj σ w' (.p (.slc (A++E))) val:=by
 simp only[qu6,decide_eq_true_eq]at I;obtain⟨hby,h63⟩:=I;obtain⟨i,z,hi,hz,hzl',his,hib⟩:=qxv hzs;obtain⟨a,vs,rfl,U,Z⟩:=hs;obtain⟨xa,xc,us,rfl,hxc,hus,O⟩:=hx;obtain⟨hvz,hv1⟩:=qk5 ha (qby.2 U);obtain⟨huz,hu1⟩:=qk5 hb (qby.2 hus);have hvl:=U.length;have hul:=hus.length;have hflv:(flat vs).length=A.length*P.cellsOf e:=by rw[qb1 hvz,hvl]
 have V:(flat us).length=E.length*P.cellsOf e:=by rw[qb1 huz,hul]
 have hmax:A.length+E.length<=maxLen:=by simp only[maxLen];omega
 by_cases hm:E.length=0
 ·have he:E=[]:=v5x hm;subst he;refine⟨_,w,qof w ht hi (v7a _),h,Ev.refl _ _ _ _,?_⟩;rw[v5s];exact⟨a,A.length,vs,rfl,v7a _,U,Z⟩
 ·obtain⟨xb,xo,rfl,hn⟩:∃xb xo,xa=some ⟨xb,xo,none⟩/\∀j u,(flat us)[j]?=some u->w.cell? ((⟨xb,xo,none⟩:Addr).add j)=some u:=by
   rcases O with rfl|⟨b,o,sz,O,_,_,_,_,hc⟩
   ·grind
   ·exact⟨b,o,O,fun j u hu=>by rw[Addr.add_lit];exact hc j u hu⟩
  have fin:∀H,H=A.length->(Builtin.append_ #[t,t] ty #[.slice a A.length A.length,.slice (some ⟨xb,xo,none⟩) E.length xc]).run P w=.ok (.slice (some ⟨w.heap.size,0,none⟩) (A.length+E.length) (grownCap w (A.length+E.length) H e)) (w.drew.alloc (.cells ((flat vs).toArray++(flat us).toArray++Builtin.zeroCells z.cells (grownCap w (A.length+E.length) H e-(A.length+E.length))) e)) ->
    ∃val w',(Builtin.append_ #[t,t] ty #[.slice a A.length A.length,.slice (some ⟨xb,xo,none⟩) E.length xc]).run P w=.ok val w'/\HR X inj σ w'/\Ev D X inj σ w inj σ w'/\AR X inj σ w' (.p (.slc (A++E))) val:=by
   intro H ho M;have W:∀(o:Obj) (k:Nat),k<w.heap.size->(w.drew.alloc o).heap[k]?=w.heap[k]?:=fun o k hk=>by
    show(w.heap.push _)[k]?=_
    grind
   obtain⟨q1,q2⟩:=h.other (D:=D) (w':=w.drew.alloc (.cells ((flat vs).toArray++(flat us).toArray++Builtin.zeroCells z.cells (grownCap w (A.length+E.length) H e-(A.length+E.length))) e)) rfl rfl rfl (fun _=>v7b _) (by simp) (fun a _=>qs1 w.drew _ e a) (fun k hk=>W _ k hk);have hk:Keeps (fun b=>X b\/F inj σ b) (fun b=>X b\/F inj σ b) w (w.drew.alloc (.cells ((flat vs).toArray++(flat us).toArray++Builtin.zeroCells z.cells (grownCap w (A.length+E.length) H e-(A.length+E.length))) e)) :=
    ⟨by simp,fun k hk _=>W _ k hk,fun _ _ h=>h⟩
   refine⟨_,_,M,q1,q2,⟨_,_,vs++us,by rw[v6b],by rw[v6b];exact grownCap_ge w _ H e,by have:=(qby (inj:=inj) (σ:=σ).2 (PRs.keep hk A vs U)).append (qby.2 (PRs.keep hk E us hus));rw[<-v6h]at this;exact qby.1 this,.inr ⟨w.heap.size,0,P.cellsOf e,rfl,fun v hv=>?_,?_,?_⟩⟩⟩
   ·grind
   ·rw[qob];intro v hv;rcases v6k.1 hv with hv|hv
    ·exact hv1 v hv
    ·exact hu1 v hv
   ·refine⟨by simp,fun hX=>?_,fun j u hu=>?_⟩
    ·rcases hX with hX|hX
     ·have:=h.xlt _ hX;omega
     ·have:=(h.flt hX).1;omega
    ·rw[qob]at hu;have hj:j<(flat vs++flat us).length:=by
      grind
     rw[v7l];rw[cell_of_row _ w.heap.size j _ e (0,0) (heap_alloc_new w.drew _)]
     grind
  cases a with
  | none =>
   have hv0:vs=[]:=by
    rcases Z with h|⟨b,o,sz,h,_⟩
    ·exact h
    ·cases h
   have ha0:A.length=0:=by rw[hvl,hv0];rfl
   refine fin 0 ha0.symm ?_;rw[ha0,hv0];have M:=run_append_nil (P:=P) w t ty e i z ht hi hz ⟨xb,xo,none⟩ E.length xc (flat us) (by rw[V,his]) hn (by omega) (by omega) (by rw[hib];rw[ha0]at hby;simp only[v7l]at hby;omega);simpa[flat] using M
  | some ad =>
   have holds:∀j u,(flat vs)[j]?=some u->w.cell? (ad.add j)=some u:=by
    rcases Z with rfl|⟨b,o,sz,O,_,_,_,_,hc⟩
    ·grind
    ·cases O;intro j u hu;rw[Addr.add_lit];exact hc j u hu
   exact fin _ rfl (run_append_grow (P:=P) w t ty e i z ht hi hz ad A.length A.length (flat vs) (by rw[hflv,his]) holds ⟨xb,xo,none⟩ E.length xc (flat us) (by rw[V,his]) hn (by omega) (by omega) (growslice_fits (by omega) (by rw[hib];exact hby)))
theorem q38(h:HR X inj σ w){s x r:AV}{J xv:Value}{I:Upd}(hs:AR X inj σ w s J)(hx:AR X inj σ w x xv)
  (hr:(qdk P k t s x).run σ=some (r,I)) :
  ∃val w' V,(Builtin.append_ #[t,t] ty #[J,xv]).run P w=.ok val w'/\HR X V (upd σ I) w'/\Ev D X inj σ w V (upd σ I) w'/\AR X V (upd σ I) w' r val:=by
 unfold qdk at hr;split at hr
 case h_2=>simp at hr
 rename_i e ht;split at hr
 case h_4=>simp at hr
 case h_3 =>
  split at hr
  case h_2=>simp at hr
  split at hr
  case isFalse=>simp at hr
  rename_i hc;obtain⟨c1,c2,c3,c4,c5,c6⟩:=hc;simp only[L.run_ret,v7s,v7t]at hr;obtain⟨rfl,rfl⟩:=hr;obtain⟨val,w',q1,q2,q3,q4⟩:=vae (D:=D) (ty:=ty) h ht hs hx c1 c2 c3 c4 c5 c6;exact⟨val,w',inj,q1,q2,q3,q4⟩
 ·rename_i l g off len;simp only[L.run_bind']at hr;cases hel:(qqc x).run σ with
  |none=>rw[hel]at hr;cases hr
  | some els =>
   rw[hel]at hr;simp only[v7m,L.run]at hr;split at hr
   case h_2=>simp at hr
   rename_i e' sz g' es ho;split at hr
   case isFalse=>simp at hr
   rename_i hc;obtain⟨rfl,rfl,rfl,rfl,rfl,hall,W,hpos,hzs,hzl⟩:=hc;simp only[L.run_ret,v7s,v7t]at hr;obtain⟨rfl,rfl⟩:=hr;simp only[qu6,decide_eq_true_eq]at W;obtain⟨hby,h63⟩:=W;obtain⟨i,z,hi,hz,hzl',his,hib⟩:=qxv hzs;obtain⟨xa,xc,us,rfl,hxc,hus,hmem⟩:=qs2 h hx hel;obtain⟨hsz,hone⟩:=qk5 hall hus;obtain⟨vs,U,O,o3,o4⟩:=(ho▸h.obj l _ rfl:OR X inj σ w l (.arr e (P.cellsOf e) g es));obtain⟨_,a2⟩:=hs;obtain⟨_,a3⟩:=a2 _ ho;obtain⟨a4,a5⟩:=a3 rfl e _ es rfl;have hvl:=U.length;have hul:=hus.length;have hflv:(flat vs).length=es.length*P.cellsOf e:=by rw[qb1 O,hvl]
   have H:(flat us).length=els.length*P.cellsOf e:=by rw[qb1 hsz,hul]
   have A:(σ l).gen<g+1:=by rw[ho];exact v7e _
   have hall2:∀v∈vs++us,v.cells.size=P.cellsOf e:=fun v hv=>by
    grind
   have hone2:qbp (flat (vs++us)):=fun v hv=>by
    rw[qob]at hv;rcases v6k.1 hv with hv|hv
    ·exact o3 v hv
    ·exact hone v hv
   have hmax:es.length+els.length<=maxLen:=by simp only[maxLen];omega
   -- the grown block
   have grow:∀(Z:Nat),Z<es.length+els.length->∀E:Option Addr,∀olds:List Value,olds=flat vs ->
     ∃val w' V,(Result.ok (Value.slice (some ⟨w.heap.size,0,none⟩) (es.length+els.length) (grownCap w (es.length+els.length) Z e)) (w.drew.alloc (.cells (olds.toArray++(flat us).toArray++Builtin.zeroCells z.cells (grownCap w (es.length+els.length) Z e-(es.length+els.length))) e)):Result Value)=.ok val w' /\
     HR X V (upd σ (some (l,.arr e (P.cellsOf e) (g+1) (es++els)))) w'/\Ev D X inj σ w V (upd σ (some (l,.arr e (P.cellsOf e) (g+1) (es++els)))) w' /\
     AR X V (upd σ (some (l,.arr e (P.cellsOf e) (g+1) (es++els)))) w' (.own l (g+1) 0 (es.length+els.length)) val:=by
    intro Z hold E olds holds;subst holds;have hge:=grownCap_ge w (es.length+els.length) Z e;have:=h.alloc (D:=D) (l:=l) (g':=g+1) (e:=e) (sz:=P.cellsOf e) (es:=es++els) (vs:=vs++us) (w1:=w.drew) (c:=grownCap w (es.length+els.length) Z e)
     (cur:=(flat vs).toArray++(flat us).toArray++Builtin.zeroCells z.cells (grownCap w (es.length+els.length) Z e-(es.length+els.length))) (.inr rfl) A (U.append hus) hall2 hone2
     (by rw[v6b];exact hge) (grownCap_le_maxLen w _ Z e hmax)
     (by
      simp only[v5g,v6v,size_zeroCells];rw[hflv,H,<-hzl',hzl,<-v62,<-v62];congr 1;omega)
     (by
      simp only[Array.toList_append,v5r];rw[<-v5r,qob];exact v6x (by rw[v6b,hflv,H,v6b,v62]))
    exact⟨_,_,_,rfl,this.1,this.2,qo6 (inj:=fun j=>if j=l then some (w.heap.size,grownCap w (es.length+els.length) Z e) else inj j) (qc1 _ _ _) (by simp) (by simp) hge⟩
   by_cases hm:els.length=0
   · -- nothing to append
    have he:els=[]:=v5x hm;subst he;have hu:us=[]:=v5x (by rw[<-hul];rfl);subst hu;have hup:=h.update (D:=D) (w':=w) (l:=l) (o:=σ l) (o':=.arr e (P.cellsOf e) (g+1) es) (x:=inj l) rfl rfl rfl rfl (fun _=>v7a _) (v7a _) (fun _ _=>rfl) (fun _ _ _=>rfl)
     (fun b c hb=>.inr ⟨by rw[ho];rfl,c,hb⟩) ⟨v69 A,fun _ he=>by rw[he]at A;simp only[AO.gen]at A;omega⟩
    rw[quc]at hup;obtain⟨hev,hhr⟩:=hup;have hsv:∃E c0,J=.slice E es.length c0/\es.length<=c0:=by
     grind
    obtain⟨E,c0,rfl,hle⟩:=hsv;refine⟨_,w,inj,qof w ht hi hle,?_,?_,?_⟩
    ·simp only[v5s,upd];refine hhr ⟨vs,ARs.ev hev h.xlt es vs U,O,o3,?_⟩;exact o4
    ·simpa[upd] using hev
    ·simp only[v5s,v6e,v65,upd];refine⟨⟨_,_,_,rfl⟩,fun o1' ho1'=>?_⟩;rw[qc1]at ho1';subst ho1';refine⟨v7a _,fun _ e2 sz2 es2 he2=>?_⟩
     grind
   ·have hnews:∀(a:Addr),xa=some a->∀j u,(flat us)[j]?=some u->w.cell? (a.add j)=some u:=by
     intro a ha j u hu;rcases hmem with rfl|⟨b,o,sz,hxa,_,hc⟩
     ·grind
     ·rw[ha]at hxa;cases hxa;rw[Addr.add_lit];exact hc j u hu
    obtain⟨xb,xo,rfl⟩:∃xb xo,xa=some ⟨xb,xo,none⟩:=by
     grind
    have hn:=hnews _ rfl;rcases a5 with⟨i1,rfl,_,h0⟩|⟨b,c,a,i1,rfl,i2,i3⟩
    ·have hes:es=[]:=v5x h0;subst hes;have hv0:vs=[]:=v5x (by rw[<-hvl];rfl);subst hv0;have hrun:=run_append_nil (P:=P) w t ty e i z ht hi hz ⟨xb,xo,none⟩ els.length xc (flat us) (by rw[H,his]) hn (by omega) (by omega) (by rw[hib];simp only[v6e,v7l]at hby;omega);obtain⟨val,w',V,q1,q2⟩:=grow 0 (by omega) none [] rfl
     grind
    ·simp only[v7k,ne_eq,not_true_eq_false,false_and,Nat.zero_mul,false_or]at i3 ⊢;subst i3;rcases o4 with⟨o4,_⟩|⟨M,c',cur,p1,p2,p3,p4,p5,p6,p7⟩
     ·grind
     rw[i1]at p1;cases p1;by_cases hfit:es.length+els.length<=c
     · -- room
      have hmul:(es.length+els.length)*P.cellsOf e<=c*P.cellsOf e:=v7h _ hfit;rw[v62]at hmul;have hrun:=run_append_room (P:=P) w t ty e i ht hi b es.length c cur p3 ⟨xb,xo,none⟩ els.length xc (flat us) (by rw[H,his]) hn hone hfit (by rw[his,H,p6];exact hmul);have hup:=h.update (D:=D) (w':=w.setRow b (splice cur.toList (es.length*P.cellsOf e) (flat us)).toArray) (l:=l) (o:=σ l) (o':=.arr e (P.cellsOf e) (g+1) (es++els)) (x:=inj l) rfl rfl rfl rfl (fun _=>v7a _) (by simp)
       (fun a _=>frozen_setRow w b _ a) (fun k hk hne=>setRow_other w b k _ (fun e=>hne (by rw[ho];rfl) c (by rw[e];exact i1)))
       (fun b1 c1 h1=>.inr ⟨by rw[ho];rfl,c1,h1⟩) ⟨v69 A,fun _ he=>by rw[he]at A;simp only[AO.gen]at A;omega⟩
      rw[quc]at hup;obtain⟨hev,hhr⟩:=hup;have hct:cur.toList.length=c*P.cellsOf e:=by rw[v5f,p6]
      have hsl:es.length*P.cellsOf e+(flat us).length<=cur.toList.length:=by rw[hct,H];exact hmul
      refine⟨.slice (some ⟨b,0,none⟩) (es.length+els.length) c,w.setRow b (splice cur.toList (es.length*P.cellsOf e) (flat us)).toArray,inj,?_,hhr ⟨vs++us,(ARs.ev hev h.xlt es vs U).append (ARs.ev hev h.xlt els us hus),hall2,hone2,.inr ⟨b,c,_,i1,p2,setRow_heap w b cur _ e _ p3,by rw[v6b];exact hfit,p5,?_,?_⟩⟩,hev,?_⟩
      ·rw[hrun,his];rfl
      ·rw[v6v,qic _ _ _ hsl,hct]
      ·show(splice cur.toList (es.length*P.cellsOf e) (flat us)).take _=_;unfold splice;rw[p7,qob];exact v6x (by rw[v6b,hflv,H,v6b,v62])
      ·exact qo6 (qc1 _ _ _) i1 (by simp) hfit
     ·have holds:∀j u,(flat vs)[j]?=some u->w.cell? ((⟨b,0,none⟩:Addr).add j)=some u:=fun j u hu=>by
       rw[Addr.add_lit,v7l];exact qv8 p3 (q36 p7 hu)
      have hrun:=run_append_grow (P:=P) w t ty e i z ht hi hz ⟨b,0,none⟩ es.length c (flat vs) (by rw[hflv,his]) holds ⟨xb,xo,none⟩ els.length xc (flat us) (by rw[H,his]) hn (by omega) (by omega)
       (growslice_fits (by omega) (by rw[hib];exact hby))
      obtain⟨val,w',V,q1,q2⟩:=grow c (by omega) none (flat vs) rfl
      grind
 ·simp only[L.run_bind']at hr;cases hel:(qqc x).run σ with
  |none=>rw[hel]at hr;cases hr
  | some els =>
   rw[hel]at hr;simp only[v7m]at hr;split at hr
   case isFalse=>simp at hr
   rename_i hc;obtain⟨hall,W,hpos,hzs,hzl⟩:=hc;simp only[viq,L.run]at hr;split at hr
   case h_2=>simp at hr
   rename_i g0 ho;simp only[L.run_ret,v7s,v7t]at hr;obtain⟨rfl,rfl⟩:=hr;simp only[qu6,decide_eq_true_eq]at W;obtain⟨hby,h63⟩:=W;obtain⟨i,z,hi,hz,hzl',his,hib⟩:=qxv hzs;obtain⟨xa,xc,us,rfl,hxc,hus,hmem⟩:=qs2 h hx hel;obtain⟨hsz,hone⟩:=qk5 hall hus;simp only[AR]at hs;subst hs;have hul:=hus.length;have H:(flat us).length=els.length*P.cellsOf e:=by rw[qb1 hsz,hul]
   have A:(σ k).gen<g0+1:=by rw[ho];exact v7e _
   by_cases hm:els.length=0
   ·have he:els=[]:=v5x hm;subst he;have hup:=h.update (D:=D) (w':=w) (l:=k) (o:=σ k) (o':=.arr e (P.cellsOf e) (g0+1) []) (x:=none) rfl rfl rfl rfl (fun _=>v7a _) (v7a _) (fun _ _=>rfl) (fun _ _ _=>rfl)
     (fun b c hb=>by cases hb) ⟨v69 A,fun _ he=>by rw[he]at A;simp only[AO.gen]at A;omega⟩
    obtain⟨hev,hhr⟩:=hup;refine⟨_,w,_,qof w ht hi (v7a _),hhr ⟨[],rfl,by simp,by simp[flat,qbp],.inl ⟨by simp,rfl⟩⟩,hev,?_⟩;refine⟨⟨_,_,_,rfl⟩,fun o1' ho1'=>?_⟩;simp only[upd,qc1]at ho1';subst ho1';refine⟨v7a _,fun _ e2 sz2 es2 he2=>?_⟩
    grind
   ·obtain⟨xb,xo,rfl,hn⟩:∃xb xo,xa=some ⟨xb,xo,none⟩/\∀j u,(flat us)[j]?=some u->w.cell? ((⟨xb,xo,none⟩:Addr).add j)=some u:=by
     rcases hmem with rfl|⟨b,o,sz,hxa,_,hc⟩
     ·grind
     ·exact⟨b,o,hxa,fun j u hu=>by rw[Addr.add_lit];exact hc j u hu⟩
    have hrun:=run_append_nil (P:=P) w t ty e i z ht hi hz ⟨xb,xo,none⟩ els.length xc (flat us) (by rw[H,his]) hn (by omega) (by omega) (by rw[hib];omega);have hge:=grownCap_ge w els.length 0 e;have:=h.alloc (D:=D) (l:=k) (g':=g0+1) (e:=e) (sz:=P.cellsOf e) (es:=els) (vs:=us) (w1:=w.drew) (c:=grownCap w els.length 0 e)
     (cur:=(flat us).toArray++Builtin.zeroCells z.cells (grownCap w els.length 0 e-els.length)) (.inr rfl) A hus hsz hone hge (grownCap_le_maxLen w _ 0 e (by simp only[maxLen];omega))
     (by
      simp only[v5g,v6v,size_zeroCells];rw[H,<-hzl',hzl,<-v62];congr 1;omega)
     (by
      grind)
    exact⟨_,_,_,hrun,this.1,this.2,qo6 (inj:=fun j=>if j=k then some (w.heap.size,grownCap w els.length 0 e) else inj j) (qc1 _ _ _) (by simp) (v7a _) hge⟩
end Go.Ab
namespace Go.Ab
open Go
section
variable {A:Type}
def qkk(A:Nat->Option (Nat×Nat))(E:List AV):List (Nat×AV)->Option (List AV)
 |[]=>some E
 |(i,v)::r=>match A i with
  |some (off,size)=>if v.known&&v.cells.length==size&&decide (off+size<=E.length) then qkk A (splice E off v.cells) r else none
  |none=>none
def qvg(P:Program)(I:Array Field)(i:Nat):Option (Nat×Nat):=(I[i]?).map fun f=>(f.offset,P.cellsOf f.type)
def qhc(P:Program)(t:TypeId)(parts:List (Nat×AV)):Option AV :=
 match P.underlying t,qbm P t with
 |some (.struct fs),some z=>if z.known&&fs.toList.all (fun f=>(P.info? f.type).isSome) then(qkk (qvg P fs) z.cells parts).map qkz else none
 |some (.array _ e),some z=>if z.known&&(P.info? e).isSome then(qkk (fun i=>some (i*P.cellsOf e,P.cellsOf e)) z.cells parts).map qkz else none
 |_,_=>none
def qid(P:Program)(k:Nat)(t:TypeId)(len:Nat)(parts:List (Nat×AV)):L (AV×Upd) :=
 match P.underlying t with
 | some (.slice e) =>
  if parts.map (·.1)=v6s len/\(parts.map (·.2)).all (qhb (P.cellsOf e))=true/\len*P.cellsOf e<=16777216/\0<P.cellsOf e/\len<=9223372036854775807/\(qbm P e).isSome=true then
   viq k fun g=>(.arr e (P.cellsOf e) g (parts.map (·.2)),.own k g 0 len)
  else .fail
 |_=>.fail
def qqf(P:Program)(k:Nat)(t:TypeId)(l c:AV):L (AV×Upd) :=
 match P.underlying t,l,c with
 | some (.slice e),.p (.int _ n),.p (.int _ m) =>
  (match qbm P e with
  | some z=>if 0≤n∧n=m∧qu6 P e n.toNat=true∧qhb (P.cellsOf e) z=true then
    viq k fun g=>(.arr e (P.cellsOf e) g (v6u n.toNat z),.own k g 0 n.toNat)
   else .fail
  |none=>.fail)
 |_,_,_=>.fail
def qk6(P:Program)(s:TypeId)(f:Nat)(x:AV):Option AV :=
 match qau P s f with
 |some o=>(match x with
  |.loc l g i off=>some (.loc l g i (off+o))
  |.p (.imm cs)=>some (.p (.imm (cs.drop o)))
  |_=>none)
 |none=>none
def q6y(P:Program)(t:TypeId)(x:AV)(i:Int):Option AV :=
 match P.underlying t,x with
 |some .string,.p (.str s)=>if 0<=i then(s[i.toNat]?).map fun b=>.p (.int .u8 b.toNat) else none
 |_,_=>none
def voq(P:Program)(A dst:TypeId)(x:AV):Option AV :=
 match P.underlying A,P.underlying dst,x with
 |some _,some (.int k),.p (.int _ n)=>some (.p (.int k (k.wrap n)))
 |some .string,some .string,.p (.str s)=>some x
 |_,_,_=>none
def vis:AV->AV->Option AV
 |.p (.int k x),.p (.int _ y)=>some (.p (.int k (if y>x then y else x)))
 |_,_=>none
def vit:AV->AV->Option AV
 |.p (.int k x),.p (.int _ y)=>some (.p (.int k (if y<x then y else x)))
 |_,_=>none
def ve8(f:AV->AV->Option AV):AV->List AV->Option AV
 |x,[]=>some x
 |x,y::r=>match f x y with
  |some z=>ve8 f z r
  |none=>none
def viu(f:AV->AV->Option AV):List AV->Option AV
 |[]=>none
 |x::r=>ve8 f x r
def L.ofOpt:Option A->L A
 |some a=>.ret a
 |none=>.fail
@[simp]theorem L.run_ofOpt(o:Option A)(σ):(L.ofOpt o).run σ=o:=by cases o<;>rfl
def q6z(P:Program)(s:TypeId)(f:Nat)(x:AV):Option AV :=
 match P.underlying s with
 |some (.struct fs)=>(match fs[f]? with|some fd=>if x.known&&x.isAgg then q6v P fd.type x.cells fd.offset else none|none=>none)
 |_=>none
def qv9(m:AV):L (List AV×List AV):=match m with
 |.p (.mapv ks vs)=>.ret (ks.map .p,vs.map .p)
 |.mapo l g=>.look l fun o=>match o with
  |.map g' ks vs=>if g=g' then .ret (ks,vs) else .fail
  |_=>.fail
 |_=>.fail
def qu7(P:Program)(t:TypeId)(x:AV):L (AV×Upd):=match P.underlying t,x with
 | some (.slice e),.own l g off len=>.look l fun o=>(match o with
   | .arr e' sz g' es=>if g=g'∧e=e'∧sz=P.cellsOf e∧off+len≤es.length then (match qbm P e with
     |some z=>if qhb (P.cellsOf e) z=true then .ret (.p (.tup []),some (l,.arr e sz g (es.take off++v6u len z++es.drop (off+len)))) else .fail
     |none=>.fail) else .fail
   |_=>.fail)
 |some (.slice _),.nils=>.ret (.p (.tup []),none)
 |_,_=>.fail
def qs3(P:Program)(E:TypeId)(k:PV):List PV->List AV->Option (Option AV)
 |[],_=>some none
 |x::xs,v::vs=>match qnw P E k x with
  |some true=>some (some v)
  |some false=>qs3 P E k xs vs
  |none=>none
 |_::_,[]=>none
def q60(P:Program)(E:TypeId)(k:PV)(v:AV):List PV->List AV->Option (List PV×List AV)
 |[],[]=>some ([k],[v])
 |x::xs,u::us=>match qnw P E k x with
  |some true=>some (x::xs,v::us)
  |some false=>(q60 P E k v xs us).map fun r=>(x::r.1,u::r.2)
  |none=>none
 |_,_=>none
def qzo(P:Program)(E:TypeId)(k:PV):Bool:=match P.underlying E,k with
 |some (.int q),.int q' _=>decide (q'=q)
 |some .string,.str _=>true
 |some .bool,.bool _=>true
 |some (.struct _),.agg xs=>(eqT P 9 E xs xs).isSome
 |some (.array _ _),.agg xs=>(eqT P 9 E xs xs).isSome
 |_,_=>false
def vor(P:Program)(t:TypeId):Option AV:=match P.underlying t with
 |some (.slice _)=>(match qbm P t with|some .nils=>some (.p (.slc []))|_=>none)
 |_=>qbm P t
def qz6(P:Program)(t:TypeId)(m k:AV)(c:Bool):L AV:=match P.underlying t,k with
 | some (.map kt et),.p key=>(match qzo P kt key,vor P et with
  | true,some z=>(qv9 m).bind fun e=>(match qq9 e.1 with
   |some ks=>(match qs3 P kt key ks e.2 with
    |some r=>.ret (if c then ve7 [r.getD z,.p (.bool r.isSome)] else r.getD z)
    |none=>.fail)
   |none=>.fail)
  |_,_=>.fail)
 |_,_=>.fail
def qvh(P:Program)(t:TypeId)(m k v:AV):L (AV×Upd):=match P.underlying t,m,k with
 | some (.map kt _),.mapo l g,.p key=>if qzo P kt key && v.known then .look l fun o=>(match o with
   | .map g' ks vs=>if g=g' then (match qq9 ks with
    |some kxs=>(match q60 P kt key v kxs vs with
     |some r=>.ret (.any,some (l,.map g (r.1.map .p) r.2))
     |none=>.fail)
    |none=>.fail) else .fail
   |_=>.fail) else .fail
 |_,_,_=>.fail
def qwa(P:Program)(k:Nat)(t:TypeId):L (AV×Upd):=match P.underlying t with
 |some (.map _ _)=>viq k fun g=>(.map g [] [],.mapo k g)
 |_=>.fail
def qcu(m:L AV):L (AV×Upd):=m.bind fun v=>.ret (v,none)
def qlo(B:Nat)(o:Oper):Nat:=B+o.dst.getD 0
def qjd:List AV->Option (List UInt8)
 |[]=>some []
 |.p (.int .u8 n)::r=>(qjd r).map (UInt8.ofNat n.toNat :: ·)
 |_::_=>none
def viv(P:Program)(A dst:TypeId):Bool :=
 match P.underlying A,P.underlying dst with
 |some (.slice e),some .string=>(match P.underlying e with|some (.int .u8)=>true|_=>false)
 |_,_=>false
def q61(P:Program)(A dst:TypeId)(x:AV):L AV :=
 match viv P A dst with
 |true=>(qqc x).bind fun E=>.ofOpt ((qjd E).map fun s=>.p (.str s))
 |false=>.ofOpt (voq P A dst x)
def vz8:AV->Option AV
 |.loc l g i off=>some (.loc l g i off)
 |.p (.imm cs)=>some (.p (.imm cs))
 |_=>none
def vos(fn:Fn)(E:List AV):L (AV×Upd):=match qq9 E with|some xs=>.ret (.p (.bfn fn xs),none)|none=>.fail
def aop(P:Program)(B:Nat)(A:Operand->AV)(o:Oper):L (AV×Upd) :=
 match o.op with
 |.move x|.assign x=>.ret (A x,none)
 |.pick c a b=>(match A c with
  |.p (.bool t)=>.ret (if t then A a else A b,none)
  |_=>.fail)
 |.alloc t=>(match qbm P t with
  |some z=>if z.cells.length=P.cellsOf t then vtu P (qlo B o) t z else .fail
  |none=>.fail)
 |.box t x=>vtu P (qlo B o) t (A x)
 |.build t parts=>qcu (.ofOpt (qhc P t (parts.toList.map fun p=>(p.1,A p.2))))
 |.buildSlice t len parts=>qid P (qlo B o) t len (parts.toList.map fun p=>(p.1,A p.2))
 |.load t x=>qcu (qz3 P t (A x))
 |.store t a x=>q27 P t (A a) (A x)
 |.binOp op t x y _=>qcu (.ofOpt (vop P op t (A x) (A y)))
 |.unOp op _ x=>qcu (.ofOpt (unA op (A x)))
 |.convert src dst x=>qcu (q61 P src dst (A x))
 |.makeFunc fn first captured=>if first.size=0 then .ret (q6u fn (captured.toList.map A),none) else if captured.size=0 then vos fn (first.toList.map A) else .fail
 |.makeSlice t l c=>qqf P (qlo B o) t (A l) (A c)
 |.slice t x lo hi none=>(match P.underlying t,qyl (lo.map A),qyl (hi.map A) with
  |some .string,some l,some h=>(match A x with|.p (.str _)=>qcu (qqd (A x) l h)|_=>.fail)
  |some (.slice e),some l,some h=>(match A x with|.p (.str _)=>.fail|_=>if qsc P e=true then qcu (sliceT P e (A x) l h) else .fail)
  |_,_,_=>.fail)
 |.slice t x none (some h) (some m)=>(match P.underlying t,A x,A h,A m with
  |some (.slice e),.p (.slc es),.p (.int _ hi),.p (.int _ mx)=>if mx=hi/\0<=hi/\hi<=es.length/\qsc P e=true then qcu (.ret (.p (.clip (es.take hi.toNat)))) else .fail
  |_,_,_,_=>.fail)
 |.fieldAddr s x f=>qcu (.ofOpt (qk6 P s f (A x)))
 |.indexAddr t x ix=>(match qz4 (A ix) with
  |some i=>qcu (qqe P t (A x) i)
  |none=>.fail)
 |.index t x ix=>(match qz4 (A ix) with
  |some i=>qcu (.ofOpt (q6y P t (A x) i))
  |none=>.fail)
 |.makeMap t none=>qwa P (qlo B o) t
 |.lookup t m k c=>qcu (qz6 P t (A m) (A k) c)
 |.mapUpdate t m k v=>qvh P t (A m) (A k) (A v)
 |.insert t m k v=>qvh P t (A m) (A k) (A v)
 |.field s x f=>qcu (.ofOpt (q6z P s f (A x)))
 |.nilCheck x=>qcu (.ofOpt (vz8 (A x)))
 |.extract x i=>(match A x with
  |.p (.tup vs)=>qcu (.ofOpt ((vs[i]?).map .p))
  |.tup vs=>qcu (.ofOpt (vs[i]?))
  |_=>.fail)
 | .call c=>(match c.callee with
  |.builtin .len=>(match c.args.toList,c.argTypes.toList with
   |[x],[t]=>if(P.underlying t).isSome then qcu (lenT P t (A x)) else .fail
   |_,_=>.fail)
  |.builtin .append=>(match c.args.toList,c.argTypes.toList with
   |[s,x],[t,u]=>if t=u then qdk P (qlo B o) t (A s) (A x) else .fail
   |_,_=>.fail)
  |.builtin .clear=>(match c.args.toList,c.argTypes.toList with
   |[x],[t]=>qu7 P t (A x)
   |_,_=>.fail)
  |.builtin .max=>qcu (.ofOpt (viu vis (c.args.toList.map A)))
  |.builtin .min=>qcu (.ofOpt (viu vit (c.args.toList.map A)))
  |_=>.fail)
 |_=>.fail
where
 sliceT (P:Program) (e:TypeId) (x:AV) (l h:Option Int):L AV:=match x with
  |.own k g off len=>.look k fun o=>match o with
   |.arr _ sz _ _=>if sz=P.cellsOf e then qqd x l h else .fail
   |_=>.fail
  |.p (.slc es)=>if es.all (fun y=>y.cells.length==P.cellsOf e)=true then qqd x l h else .fail
  |_=>qqd x l h
 lenT (P:Program) (t:TypeId) (x:AV):L AV:=match P.underlying t,x with
  |some .string,.p (.str _)=>vac x
  |some (.slice _),.p (.slc _)=>vac x
  |some (.slice _),.nils=>vac x
  |some (.slice _),.own ..=>vac x
  |some (.map _ _),.p .nilm=>vac x
  |some (.map _ _),.p (.mapv ..)=>vac x
  |some (.map _ _),.mapo ..=>vac x
  |_,_=>.fail
end
section
variable {P:Program} {X:Nat->Prop} {inj:Inj} {σ:Nat->AO} {w:World}
variable {t e:TypeId} {A:Value} {op:BinOp} {k:IntKind} {i:Int}
def qp0(P:Program)(t:TypeId)(us:List Value):Value:=if qat P t=some true then .agg us.toArray else us.headD undef
theorem qqg{d:Nat}{A H:List PV}{r:Bool}(h:eqT P d t A H=some r):qat P t=some true\/(qat P t=some false/\(∃x,A=[x])/\∃y,H=[y]):=by
 cases d with
 |zero=>simp[eqT]at h
 | succ d =>
  simp only[eqT]at h;split at h
  ·rename_i E;split at h
   ·exact .inr ⟨by simp[qat,E],⟨_,rfl⟩,⟨_,rfl⟩⟩
   ·cases h
  ·rename_i E;split at h
   ·exact .inr ⟨by simp[qat,E],⟨_,rfl⟩,⟨_,rfl⟩⟩
   ·cases h
  ·rename_i E;split at h
   ·exact .inr ⟨by simp[qat,E],⟨_,rfl⟩,⟨_,rfl⟩⟩
   ·cases h
  ·rename_i E;exact .inl (by simp[qat,E])
  ·rename_i E;exact .inl (by simp[qat,E])
  ·cases h
theorem qud{us:List Value}{off:Nat}{A:List PV}(I:PRs X w A us)
  (h:qat P t=some true\/(qat P t=some false/\∃x,(A.drop off).take (P.cellsOf t)=[x])) :
  (part t us.toArray off).run P w=.ok (qp0 P t ((us.drop off).take (P.cellsOf t))) w:=by
 rcases h with h|⟨h,x,M⟩
 ·obtain⟨U,J,_⟩:=qhi h;simp only[part,v7w,qmf h,v7u,if_true,qo5 J,v7x,qp0,h]
  grind
 ·have hl:=((I.drop off).take (P.cellsOf t)).length;rw[M]at hl;have H:(us.drop off).take (P.cellsOf t)≠[]:=by intro O;rw[O]at hl;simp at hl
  obtain⟨u,r,E⟩:=List.exists_cons_of_ne_nil H;have qav:us[off]?=some u:=by
   have h1:((us.drop off).take (P.cellsOf t))[0]?=some u:=by rw[E];rfl
   grind
  simp only[part,v7w,qmf h,v7u,v5k,if_false,qp0,h,v7s,E];simp[qav]
theorem qxw{d n : Nat}(W : ∀ (t : TypeId) (A E : List PV) (r : Bool) (us vs : List Value), eqT P d t A E = some r → PRs X w A us → PRs X w E vs → qbp us → qbp vs →
      (Op.equalIn (d + n) t (qp0 P t us) (qp0 P t vs)).run P w = .ok r w) :
    ∀ (I : List Field) (A E : List PV) (r : Bool) (us vs : List Value), voo P (eqT P d) I A E = some r → PRs X w A us → PRs X w E vs → qbp us → qbp vs →
      (Op.eqFields (d + n) us.toArray vs.toArray I).run P w = .ok r w
  | [], _, _, r, _, _, h, _, _, _, _ => by simp only [voo, v7s] at h; subst h; rfl
  | f :: I, A, E, r, us, vs, h, hu, hv, ou, ov => by
    simp only [voo] at h
    split at h
    · rename_i hn
      simp only [Op.eqFields, hn, ne_eq, not_true_eq_false, if_false]
      exact qxw W I A E r us vs h hu hv ou ov
    · rename_i hn
      split at h
      case h_2 => cases h
      rename_i a b ha Z
      simp only [v7s] at h
      subst h
      have H := qxw W I A E b us vs Z hu hv ou ov
      have J := qqg ha
      have O := qud (P := P) hu (J.imp id fun q => ⟨q.1, q.2.1⟩)
      have U := qud (P := P) hv (J.imp id fun q => ⟨q.1, q.2.2⟩)
      have M := W f.type _ _ a _ _ ha ((hu.drop f.offset).take _) ((hv.drop f.offset).take _)
        (fun q V => ou q (v6n (v6o V))) (fun q V => ov q (v6n (v6o V)))
      simp only [Op.eqFields, ne_eq, hn, not_false_eq_true, if_true, v7w, O, U, M, v7u]
      cases a
      · simp
      · simpa using H
theorem q29{d n : Nat}{e : TypeId}(W : ∀ (A H : List PV) (r : Bool) (us vs : List Value), eqT P d e A H = some r → PRs X w A us → PRs X w H vs → qbp us → qbp vs →
      (Op.equalIn (d + n) e (qp0 P e us) (qp0 P e vs)).run P w = .ok r w) :
    ∀ (J : List Nat) (A H : List PV) (r : Bool) (us vs : List Value), vse (eqT P d e) (P.cellsOf e) A H J = some r → PRs X w A us → PRs X w H vs → qbp us → qbp vs →
      (Op.eqItems (d + n) e (P.cellsOf e) us.toArray vs.toArray J).run P w = .ok r w
  | [], _, _, r, _, _, h, _, _, _, _ => by simp only [vse, v7s] at h; subst h; rfl
  | i :: J, A, H, r, us, vs, h, hu, hv, ou, ov => by
    simp only [vse] at h
    split at h
    case h_2 => cases h
    rename_i a b ha Z
    simp only [v7s] at h
    subst h
    have E := q29 W J A H b us vs Z hu hv ou ov
    have I := qqg ha
    have O := qud (P := P) hu (I.imp id fun q => ⟨q.1, q.2.1⟩)
    have U := qud (P := P) hv (I.imp id fun q => ⟨q.1, q.2.2⟩)
    have M := W _ _ a _ _ ha ((hu.drop (i * P.cellsOf e)).take _) ((hv.drop (i * P.cellsOf e)).take _)
      (fun q V => ou q (v6n (v6o V))) (fun q V => ov q (v6n (v6o V)))
    simp only [Op.eqItems, v7w, O, U, M, v7u]
    cases a
    · simp
    · simpa using E
theorem qwb(n:Nat):∀(d:Nat) (t:TypeId) (A M:List PV) (r:Bool) (us vs:List Value),eqT P d t A M=some r->PRs X w A us->PRs X w M vs->qbp us->qbp vs ->
  (Op.equalIn (d+n) t (qp0 P t us) (qp0 P t vs)).run P w=.ok r w
 |0,_,_,_,_,_,_,h,_,_,_,_=>by simp[eqT]at h
 | d+1,t,A,M,r,us,vs,h,H,J,ox,oy=>by
  have W:=qqg h;rw[show d+1+n=(d+n)+1 by omega];simp only[eqT]at h;split at h
  ·rename_i E;split at h
   case h_2=>cases h
   simp only[v7s]at h;subst h;simp[PRs,PR]at H J;subst H;subst J;simp only[qp0,qat,E,v7s,v5k,if_false,v6a];exact run_equalIn_bool' w (d+n) t _ _ E
  ·rename_i k E;split at h
   case h_2=>cases h
   split at h
   case isFalse=>cases h
   rename_i V;subst V;simp only[v7s]at h;subst h;simp[PRs,PR]at H J;subst H;subst J;simp only[qp0,qat,E,v7s,v5k,if_false,v6a];exact run_equalIn_int w (d+n) t _ _ _ _ E
  ·rename_i E;split at h
   case h_2=>cases h
   simp only[v7s]at h;subst h;simp[PRs,PR]at H J;subst H;subst J;simp only[qp0,qat,E,v7s,v5k,if_false,v6a];rw[run_equalIn_string w (d+n) t _ _ E];simp
  ·rename_i I E;split at h
   ·cases h
   rename_i U;have O:P.fieldsOf t=I:=by simp[Program.fieldsOf,E]
   simp only[qp0,qat,E,if_true];rw[run_equalIn_struct w (d+n) t _ _ (by rw[O];exact E) (by simpa using U),O];exact qxw (fun t A M r us vs h H J ox oy=>qwb n d t A M r us vs h H J ox oy) I.toList A M r us vs h H J ox oy
  ·rename_i m e E;split at h
   case isFalse=>cases h
   rename_i hi;obtain⟨i,hi⟩:=v7p.1 hi;simp only[qp0,qat,E,if_true];rw[run_equalIn_array w (d+n) _ _ E hi];exact q29 (fun A M r us vs h H J ox oy=>qwb n d e A M r us vs h H J ox oy) (v6s m) A M r us vs h H J ox oy
  ·cases h
theorem qs4(O:Bool)(n:Nat):∀(d:Nat) (t:TypeId) (A W:List PV) (r:Bool) (us:List Value),eqT P d t A W=some r->PRs X w A us->qbp us ->
  (Instr.checkKey O (d+n) t (qp0 P t us)).run P w=.ok () w
 |0,_,_,_,_,_,h,_,_=>by simp[eqT]at h
 | d+1,t,A,W,r,us,h,hx,ox=>by
  have H:=qqg h;rw[show d+1+n=(d+n)+1 by omega];simp only[eqT]at h;split at h
  ·rename_i E;simp[Instr.checkKey,run_underlying E]
  ·rename_i E;simp[Instr.checkKey,run_underlying E]
  ·rename_i E;simp[Instr.checkKey,run_underlying E]
  ·rename_i I E;split at h
   ·cases h
   simp only[qp0,qat,E,if_true,Instr.checkKey,v7w,run_underlying E,v7u];rw[<-Array.forIn_toList];clear H E;generalize I.toList=L at h
   induction L generalizing r with
   |nil=>simp
   | cons f L ih =>
    simp only[voo]at h;split at h
    ·rename_i hn;simp only[v5z,v7w,hn,ne_eq,not_true_eq_false,if_false,v7x,v7u];exact ih r h
    ·rename_i hn;split at h
     case h_2=>cases h
     rename_i a b ha U;have H:=qqg ha;have J:=qud (P:=P) hx (H.imp id fun q=>⟨q.1,q.2.1⟩);have M:=qs4 O n d f.type _ _ a _ ha ((hx.drop f.offset).take _) (fun q V=>ox q (v6n (v6o V)));simp only[v5z,v7w,hn,ne_eq,not_false_eq_true,if_true,J,M,v7x,v7u];exact ih b U
  ·rename_i m e E;split at h
   case isFalse=>cases h
   rename_i hi;obtain⟨i,hi⟩:=v7p.1 hi;simp only[qp0,qat,E,if_true,Instr.checkKey,v7w,run_underlying E,v7u];simp only[Std.Legacy.Range.forIn_eq_forIn_range',Std.Legacy.Range.size,v7k,Nat.add_one_sub_one,Nat.div_one];rw[v6t]at h;clear H E;generalize List.range' 0 m=L at h
   induction L generalizing r with
   |nil=>simp
   |cons j L ih =>
    simp only[vse]at h;split at h
    case h_2=>cases h
    rename_i a b ha U;have H:=qqg ha;have J:=qud (P:=P) hx (H.imp id fun q=>⟨q.1,q.2.1⟩);have M:=qs4 O n d e _ _ a _ ha ((hx.drop (j*P.cellsOf e)).take _) (fun q V=>ox q (v6n (v6o V)));simp only[v5z,v7w,run_sizeOf w hi,J,M,v7x,v7u];exact ih b U
  ·cases h
theorem q3a{a b:Int}{v:AV}(h:vz7 op k a b=some v) :
    ∃val,(match op with
      |.add|.sub|.mul=>Op.intArith op k a b
      |.quo|.rem=>Op.intDiv op k a b
      |.and|.or|.xor|.andNot=>Op.intBits op k a b
      |_=>Op.intCmp op a b:Sem Value).run P w=.ok val w/\AR X inj σ w v val:=by
  cases op<;>simp only[vz7,v7s]at h<;>first
    |(cases h;done)
    |(subst h;exact⟨_,rfl,rfl⟩)
    | (split at h
       · cases h
       · rename_i A
         simp only[v7s]at h;subst h;simp only[Op.intDiv,A,if_false];exact⟨_,rfl,rfl⟩)
theorem ve9{a b:List UInt8}{v:AV}(h:strA op a b=some v):∃val,(Op.stringOp op ⟨a.toArray⟩ ⟨b.toArray⟩).run P w=.ok val w/\AR X inj σ w v val:=by
  cases op <;> simp only [strA,v7s] at h <;> first
    |(cases h;done)
    |(subst h;simp only[Op.stringOp,ByteArray.toList_mk];exact⟨_,rfl,rfl⟩)
    | (split at h
       case isFalse=>cases h
       rename_i H;simp only[v7s]at h;subst h;refine⟨.string (⟨a.toArray⟩++⟨b.toArray⟩),?_,?_⟩
       · simp only[Op.stringOp]
         rw[if_neg]
         · rfl
         · have A:(ByteArray.mk a.toArray).size=a.length:=by rw[v5p]
           have E:(ByteArray.mk b.toArray).size=b.length:=by rw[v5p]
           rw[A,E,IntKind.max_i64];omega
       · show _=_
         congr 1
         )
theorem vcv{P:Program}(A:P.underlying t=some (.pointer e))(d:Nat)(b:Addr)(w:World):(Op.equalIn (d+1) t (.pointer (some b)) (.pointer none)).run P w=.ok false w:=by
 simp[Op.equalIn,run_underlying A]
theorem vcw{P:Program}(A:P.underlying t=some (.pointer e))(d:Nat)(w:World):(Op.equalIn (d+1) t (.pointer none) (.pointer none)).run P w=.ok true w:=by
 simp[Op.equalIn,run_underlying A]
theorem vfa{W:Nat->Prop}{x y:PV}{v:AV}{M:Value}{ox oy:Operand}(H:PR W w x A)(I:PR W w y M)(h:vx6 P op t x y=some v) :
  ∃val,(do eqGuard op t ox oy A M;binOp op t A M:Sem Value).run P w=.ok val w/\AR X inj σ w v val:=by
 unfold vx6 at h;split at h
 ·rename_i k a k' b;simp only[PR]at H I;subst H;subst I;have J:(eqGuard op t ox oy (.int k a) (.int k' b)).run P w=.ok () w:=by cases op<;>simp[eqGuard]
  simp only[v7w,J,v7u];split at h
  ·split at h
   ·cases h
   ·rename_i U;simp only[v7s]at h;subst h;simp only[binOp,Op.shift,U,if_false];exact⟨_,rfl,rfl⟩
  ·split at h
   ·cases h
   ·rename_i U;simp only[v7s]at h;subst h;simp only[binOp,Op.shift,U,if_false];exact⟨_,rfl,rfl⟩
  ·rename_i h1 Z;split at h
   case isFalse=>cases h
   rename_i hk;subst hk;obtain⟨val,V,O⟩:=q3a (P:=P) (X:=X) (inj:=inj) (σ:=σ) (w:=w) h;refine⟨val,?_,O⟩;rw[<-V];cases op<;>first
    |exact(h1 rfl).elim
    |exact(Z rfl).elim
    |simp[binOp]
 ·rename_i a b;simp only[PR]at H I;subst H;subst I;have J:(eqGuard op t ox oy (.string ⟨a.toArray⟩) (.string ⟨b.toArray⟩)).run P w=.ok () w:=by cases op<;>simp[eqGuard]
  simp only[v7w,J,v7u];obtain⟨val,V,O⟩:=ve9 (P:=P) (X:=X) (inj:=inj) (σ:=σ) (w:=w) h;refine⟨val,?_,O⟩;rw[<-V];cases op<;>simp[binOp]
 ·rename_i a b;simp only[PR]at H I;subst H;subst I;have J:(eqGuard op t ox oy (.bool a) (.bool b)).run P w=.ok () w:=by cases op<;>simp[eqGuard]
  simp only[v7w,J,v7u];split at h
  ·rename_i E;simp only[v7s]at h;subst h;have:=run_equalIn_bool' w 9999 t a b E;refine⟨.bool (a==b),?_,rfl⟩;simp[binOp,Op.equal,Op.maxDepth,this]
  ·rename_i E;simp only[v7s]at h;subst h;have:=run_equalIn_bool' w 9999 t a b E;refine⟨.bool (!(a==b)),?_,rfl⟩;simp[binOp,Op.equal,Op.maxDepth,this]
  ·cases h
 ·simp only[PR]at H I;obtain⟨b,o,vs,rfl,_⟩:=H;subst I;have J:(eqGuard op t ox oy (.pointer (some ⟨b,o,none⟩)) (.pointer none)).run P w=.ok () w:=by cases op<;>simp[eqGuard]
  simp only[v7w,J,v7u];split at h
  ·rename_i e E;simp only[v7s]at h;subst h;have:=vcv E 9999 ⟨b,o,none⟩ w;refine⟨.bool false,?_,rfl⟩;simp[binOp,Op.equal,Op.maxDepth,this]
  ·rename_i e E;simp only[v7s]at h;subst h;have:=vcv E 9999 ⟨b,o,none⟩ w;refine⟨.bool true,?_,rfl⟩;simp[binOp,Op.equal,Op.maxDepth,this]
  ·cases h
 ·simp only[PR]at H I;subst H;subst I;have J:(eqGuard op t ox oy (.pointer none) (.pointer none)).run P w=.ok () w:=by cases op<;>simp[eqGuard]
  simp only[v7w,J,v7u];split at h
  ·rename_i e E;simp only[v7s]at h;subst h;have:=vcw E 9999 w;refine⟨.bool true,?_,rfl⟩;simp[binOp,Op.equal,Op.maxDepth,this]
  ·rename_i e E;simp only[v7s]at h;subst h;have:=vcw E 9999 w;refine⟨.bool false,?_,rfl⟩;simp[binOp,Op.equal,Op.maxDepth,this]
  ·cases h
 ·cases h
theorem vfb{x y v:AV}{I:Value}{ox oy:Operand}(V:AR X inj σ w x A)(J:AR X inj σ w y I)(h:vop P op t x y=some v) :
  ∃val,(do eqGuard op t ox oy A I;binOp op t A I:Sem Value).run P w=.ok val w/\AR X inj σ w v val:=by
 unfold vop at h;split at h
 ·rename_i x y;split at h
  ·rename_i H;simp only[v5i]at H;have W:A=.agg A.cells:=by have:=q6w (x:=.p x) H.1 V;simpa using this
   have M:I=.agg I.cells:=by have:=q6w (x:=.p y) H.2 J;simpa using this
   have U:qbp A.cells.toList:=by
    cases x<;>first|(obtain⟨vs,rfl,_,h3⟩:=V;simpa[Value.cells] using h3)|cases H.1
   have O:qbp I.cells.toList:=by
    cases y<;>first|(obtain⟨vs,rfl,_,h3⟩:=J;simpa[Value.cells] using h3)|cases H.2
   have key:∀r,eqT P 9 t x.cells y.cells=some r->qat P t=some true->(Op.equalIn 10000 t A I).run P w=.ok r w:=by
    intro r hr ht;have:=qwb (P:=P) (w:=w) 9991 9 t _ _ r _ _ hr (PR.cells_of V) (PR.cells_of J) U O;simp only[qp0,ht,if_true,Array.toArray_toList]at this
    rwa [<-W,<-M]at this
   split at h
   ·rename_i q1 q2;cases hr:eqT P 9 t x.cells y.cells with
    |none=>rw[hr]at h;cases h
    |some r =>
     rw[hr]at h;simp only[v7r,v7s]at h;subst h;have E:=run_eqGuard_agg (P:=P) w .eql t ox oy A.cells I.cells q1;rw[<-W,<-M]at E;have hk:=key r hr q2;refine⟨.bool r,?_,rfl⟩;simp only[v7w,E,v7u];rw[W,M,run_eql_struct,<-W,<-M,hk];rfl
   ·rename_i q1 q2;cases hr:eqT P 9 t x.cells y.cells with
    |none=>rw[hr]at h;cases h
    |some r =>
     rw[hr]at h;simp only[v7r,v7s]at h;subst h;have E:=run_eqGuard_agg (P:=P) w .neq t ox oy A.cells I.cells q1;rw[<-W,<-M]at E;have hk:=key r hr q2;refine⟨.bool (!r),?_,rfl⟩;simp only[v7w,E,v7u];rw[W,M,run_neq_struct,<-W,<-M,hk];rfl
   ·cases h
  ·exact vfa V J h
 ·rename_i z zs;obtain⟨a,cap,vs,rfl,hc,h1,h2⟩:=V;simp only[AR]at J;subst J;have hne:∃aa,a=some aa:=by
   rcases h2 with h2|⟨b,o,sz,ha,_⟩
   ·subst h2;have:=h1.length;simp at this
   ·grind
  obtain⟨aa,rfl⟩:=hne;have H:(eqGuard op t ox oy (.slice (some aa) (z::zs).length cap) (.slice none 0 0)).run P w=.ok () w:=by cases op<;>simp[eqGuard]
  simp only[v7w,H,v7u];split at h
  ·rename_i e Z;simp only[v7s]at h;subst h;exact⟨.bool false,v5o w t e _ _ _ _ _ Z,rfl⟩
  ·rename_i e Z;simp only[v7s]at h;subst h;exact⟨.bool true,run_neq_slice_nil_any w t e _ _ _ _ _ Z,rfl⟩
  ·cases h
 ·simp only[AR]at V J;subst V;subst J;have H:(eqGuard op t ox oy (.slice none 0 0) (.slice none 0 0)).run P w=.ok () w:=by cases op<;>simp[eqGuard]
  simp only[v7w,H,v7u];split at h
  ·rename_i e Z;simp only[v7s]at h;subst h;exact⟨.bool true,v5o w t e _ _ _ _ _ Z,rfl⟩
  ·rename_i e Z;simp only[v7s]at h;subst h;exact⟨.bool false,run_neq_slice_nil_any w t e _ _ _ _ _ Z,rfl⟩
  ·cases h
 ·cases h
theorem viw{op:UnOp}{x v:AV}(E:AR X inj σ w x A)(h:unA op x=some v):∃val,(Op.unary op A).run P w=.ok val w/\AR X inj σ w v val:=by
 unfold unA at h;split at h
 ·simp only[v7s]at h;subst h;simp only[AR,PR]at E;subst E;exact⟨_,rfl,rfl⟩
 ·simp only[AR,PR]at E;subst E;obtain⟨val,h1,H⟩:=q3a (P:=P) (X:=X) (inj:=inj) (σ:=σ) (w:=w) h;exact⟨val,h1,H⟩
 ·simp only[v7s]at h;subst h;simp only[AR,PR]at E;subst E;exact⟨_,rfl,rfl⟩
 ·cases h
theorem vaf{E dst:TypeId}{x v:AV}(H:AR X inj σ w x A)(h:voq P E dst x=some v):∃val,(convert E dst A).run P w=.ok val w/\AR X inj σ w v val:=by
 unfold voq at h;split at h
 ·rename_i d k J n h1 I;simp only[v7s]at h;subst h;simp only[AR,PR]at H;subst H;refine⟨_,?_,rfl⟩;simp[convert,run_underlying h1,run_underlying I,Conv.intToInt]
 ·rename_i s h1 I;simp only[v7s]at h;subst h;simp only[AR,PR]at H;subst H;refine⟨_,?_,rfl⟩;simp[convert,run_underlying h1,run_underlying I]
 ·cases h
theorem q62{x v:AV}(J:AR X inj σ w x A)(h:q6y P t x i=some v):∃val,(Instr.index t A (.int k i)).run P w=.ok val w/\AR X inj σ w v val:=by
 unfold q6y at h;split at h
 ·rename_i s h1;split at h
  case isFalse=>cases h
  rename_i hi;simp only[AR,PR]at J;subst J;cases E:s[i.toNat]? with
  |none=>rw[E]at h;cases h
  | some b =>
   rw[E]at h;simp only[v7r,v7s]at h;subst h;refine⟨.int .u8 b.toNat,?_,rfl⟩;have I:i.toNat<s.length:=(v56.1 E).1;have M:s[i.toNat]=b:=(v56.1 E).2;have H:(ByteArray.mk s.toArray).size=s.length:=by rw[v5p]
   have qav:(ByteArray.mk s.toArray)[i.toNat]?=some b:=by
    rw[ByteArray.getElem?_lt' _ _ (by rw[H];exact I)];congr 1
   simp[Instr.index,asIntOf,run_underlying h1,hi,qav]
 ·cases h
theorem qsd{s:TypeId}{f:Nat}{x v:AV}(U:AR X inj σ w x A)(h:qk6 P s f x=some v):∃val,(Instr.fieldAt s A f).run P w=.ok val w/\AR X inj σ w v val:=by
 unfold qk6 qau at h;cases E:P.underlying s with
 |none=>simp[E]at h
 | some d =>
  cases d with
  | struct fs =>
   cases O:fs[f]? with
   |none=>simp[E,O]at h
   | some fd =>
    by_cases M:P.cellsOf fd.type=0
    ·grind
    ·simp only[E,O,M,if_false]at h;have J:(sizeOf fd.type).run P w=.ok (P.cellsOf fd.type) w:=by
      unfold Program.cellsOf at M ⊢;cases hi:P.info? fd.type with
      |none=>simp[hi]at M
      |some i=>simp[sizeOf,typeInfo,hi]
     have I:∀b o,(Instr.fieldAt s (.pointer (some ⟨b,o,none⟩)) f).run P w=.ok (.pointer (some ⟨b,o+fd.offset,none⟩)) w:=by
      intro b o;simp[Instr.fieldAt,run_underlying E,O,Instr.sureAddr,fieldPlace,J,M,Addr.add_lit]
     have H:∀a:Addr,(Instr.fieldAt s (.pointer (some a)) f).run P w=.ok (.pointer (some (a.add fd.offset))) w:=by
      intro a;simp[Instr.fieldAt,run_underlying E,O,Instr.sureAddr,fieldPlace,J,M]
     split at h
     ·rename_i l g i off;simp only[v7s]at h;subst h;obtain⟨⟨V,rfl⟩,a2⟩:=U;refine⟨_,H V,⟨_,rfl⟩,fun o ho=>?_⟩
      grind
     ·rename_i cs;simp only[v7s]at h;subst h;obtain⟨b,o,vs,rfl,h1,W,h3,Z,h5⟩:=U;refine⟨_,I b o,b,o+fd.offset,vs.drop fd.offset,rfl,h1.drop _,fun u E=>W u (v6n E),h3,Z,fun j u E=>?_⟩
      grind
     ·cases h
  |_=>simp[E]at h
theorem qz7{A:Type}{l:Nat}{k:AO->L A}{r:A}(h:(L.look l k).run σ=some r):(k (σ l)).run σ=some r:=h
theorem qgn(h:qsc P t=true)(w:World):(sizeOf t).run P w=.ok (P.cellsOf t) w:=by
 obtain⟨i,hi⟩:=v7p.1 h;simp[sizeOf,typeInfo,hi,Program.cellsOf]
theorem qy0{x v:AV}(hx:AR X inj σ w x A)(h:(qqe P t x i).run σ=some v) :
  ∃val,(Instr.indexAt t A (.int k i)).run P w=.ok val w/\AR X inj σ w v val:=by
 unfold qqe at h;split at h
 ·rename_i e es I;split at h
  case isFalse=>simp at h
  rename_i hi;split at h
  case h_2=>simp at h
  rename_i y hy;split at h
  case isFalse=>simp at h
  rename_i J;obtain⟨J,M⟩:=J;simp only[L.run_ret,v7s]at h;subst h;obtain⟨a,cap,vs,rfl,hc,h1,h2⟩:=hx;obtain⟨u,Z,hu2⟩:=h1.get hy;have hlt:i.toNat<es.length:=(v56.1 hy).1;have U:=PR.cells_of hu2;have hul:u.cells.size=P.cellsOf e:=by rw[<-J,U.length,v5f]
  have hui:u∈vs:=v6m Z;rcases h2 with h2|⟨b,o,sz,rfl,W,ho,hr⟩
  ·grind
  ·have O:sz=P.cellsOf e:=by rw[<-W u hui,hul]
   subst O;have E:=qgn M w;have H:i<(es.length:Int):=by omega
   refine⟨.pointer (some ⟨b,o+i.toNat*P.cellsOf e,none⟩),?_,b,o+i.toNat*P.cellsOf e,u.cells.toList,rfl,U,fun c hc=>ho c (v6l.2 ⟨u,hui,hc⟩),hr.1,hr.2.1,fun j c hj=>?_⟩
   ·simp[Instr.indexAt,asIntOf,run_underlying I,hi,H,E,Addr.add_lit]
   ·have hjl:j<P.cellsOf e:=by rw[<-hul,<-v5f];exact(v56.1 hj).1
    have:=hr.2.2 (i.toNat*P.cellsOf e+j) c (by rw[qra W Z hjl];exact hj)
    rwa [<-v61]at this
 ·rename_i e l g off len I;have h:=qz7 h;split at h
  case h_2=>simp at h
  rename_i e' sz g' es ho;split at h
  case isFalse=>simp at h
  rename_i hc;obtain⟨rfl,rfl,hi,H,M⟩:=hc;simp only[L.run_ret,v7s]at h;subst h;obtain⟨_,a2⟩:=hx;obtain⟨_,a3⟩:=a2 _ ho;obtain⟨a4,a5⟩:=a3 rfl e' _ es rfl;rcases a5 with⟨i1,rfl,rfl,rfl⟩|⟨b,c,a,i1,rfl,i2,i3⟩
  ·omega
  ·have i4:a=some ⟨b,off*P.cellsOf e,none⟩:=by
    grind
   subst i4;have E:=qgn M w;refine⟨.pointer (some ⟨b,(off+i.toNat)*P.cellsOf e+0,none⟩),?_,q37 ho i1 _ _⟩;simp[Instr.indexAt,asIntOf,run_underlying I,hi,H,E,Addr.add_lit,v62]
 ·rename_i n e l g j off I;split at h
  case isFalse=>simp at h
  rename_i hi;simp only[L.run_ret,v7s]at h;subst h;obtain⟨⟨V,rfl⟩,a2⟩:=hx;have E:=qgn hi.2.2 w;refine⟨.pointer (some (V.add (i.toNat*P.cellsOf e))),?_,⟨_,rfl⟩,fun o ho=>?_⟩
  ·simp[Instr.indexAt,asIntOf,run_underlying I,Instr.sureAddr,hi.1,hi.2.1,E]
  ·obtain⟨a3,a4⟩:=a2 o ho;refine⟨a3,fun hg e1 sz es he1=>?_⟩;obtain⟨b,c,a5,a6⟩:=a4 hg e1 sz es he1;cases a6;exact⟨b,c,a5,by rw[Addr.add_lit,v61]⟩
 ·rename_i n e cs I;split at h
  case isFalse=>simp at h
  rename_i hi;simp only[L.run_ret,v7s]at h;subst h;obtain⟨b,o,vs,rfl,h1,h2,h3,h4,h5⟩:=hx;have E:=qgn hi.2.2 w;refine⟨.pointer (some ⟨b,o+i.toNat*P.cellsOf e,none⟩),?_,b,o+i.toNat*P.cellsOf e,vs.drop (i.toNat*P.cellsOf e),rfl,h1.drop _,fun u I=>h2 u (v6n I),h3,h4,fun j u I=>?_⟩
  ·simp[Instr.indexAt,asIntOf,run_underlying I,Instr.sureAddr,hi.1,hi.2.1,E,Addr.add_lit]
  ·grind
 ·simp at h
theorem q3b(A:Bool)(len H:Nat)(lo hi:Option Int)(Z E:Option Value)(kl M:IntKind)(hl:Z=lo.map (.int kl))(U:E=hi.map (.int M))
  (h1:0<=lo.getD 0) (I:lo.getD 0<=hi.getD len) (J:hi.getD len<=H) (w:World) :
  (Instr.sliceBounds A len H Z E none).run P w=.ok ((lo.getD 0).toNat,(hi.getD len).toNat,H) w:=by
 subst hl;subst U;cases lo with
 | none =>
  cases hi with
  |none=>simp[Instr.sliceBounds]
  |some h =>
   simp only[v7n,v7o]at h1 I J;simp[Instr.sliceBounds,Instr.sliceBound,asIntOf,I,J]
 | some l =>
  cases hi with
  |none =>
   simp only[v7n,v7o]at h1 I J;simp[Instr.sliceBounds,Instr.sliceBound,asIntOf,h1,I]
  |some h =>
   simp only[v7n,v7o]at h1 I J;have V:0<=h:=by omega
   have O:l<=max h 0:=by omega
   simp[Instr.sliceBounds,Instr.sliceBound,asIntOf,h1,J,V,O]
theorem qo7{o:Option Int}{ops:Option Operand}{H:Operand->AV}{a:Act}(A:qyl (ops.map H)=some o)(hρ:∀x,AR X inj σ w (H x) (a.eval x)) :
  ∃k,ops.map a.eval=o.map (.int k):=by
 cases ops with
 |none=>simp only[Option.map_none,qyl,v7s]at A;subst A;exact⟨.i64,rfl⟩
 | some op =>
  simp only[v7r]at A ⊢;have:=hρ op;unfold qyl at A;split at A
  ·grind
  ·rename_i k n E;simp only[v7s]at E A;subst A;rw[E]at this;simp only[AR,PR]at this
   grind
  ·cases A
theorem q2h{s:List UInt8}{Z E:Option Value}{kl I:IntKind}{lo hi:Option Int}{v:AV}(J:P.underlying t=some .string)
  (hl:Z=lo.map (.int kl)) (M:E=hi.map (.int I)) (h:(qqd (.p (.str s)) lo hi).run σ=some v) :
  ∃val,(Instr.sliceAt t (.string ⟨s.toArray⟩) Z E none).run P w=.ok val w/\AR X inj σ w v val:=by
 simp only[qqd]at h;split at h
 case isFalse=>simp at h
 rename_i A;simp only[L.run_ret,v7s]at h;subst h;have H:(ByteArray.mk s.toArray).size=s.length:=by rw[v5p]
 have O:=q3b (P:=P) false s.length s.length lo hi Z E kl I hl M A.1 A.2.1 A.2.2 w;refine⟨.string ((ByteArray.mk s.toArray).extract (lo.getD 0).toNat (hi.getD s.length).toNat),?_,?_⟩
 ·simp only[Instr.sliceAt,v7w,run_underlying J,v7u,Instr.slice,H];simp[O]
 ·show _=_;rw[Lib.extract_eq]
theorem qz8:∀{E:List AV} {us:List Value} {s:List UInt8},ARs X inj σ w E us->qjd E=some s->∃H:List Int,us=H.map (Value.int .u8)/\s=H.map fun n=>UInt8.ofNat n.toNat
 |[],us,s,h,hb=>by
  simp only[ARs]at h;subst h;simp only[qjd,v7s]at hb;subst hb;exact⟨[],rfl,rfl⟩
 | v :: r,us,s,h,hb=>by
  simp only[ARs]at h;obtain⟨u,J,rfl,h1,I⟩:=h;unfold qjd at hb;split at hb
  ·rename_i A;cases A
  ·rename_i n U A;cases A;cases hr:qjd r with
   |none=>rw[hr]at hb;cases hb
   |some s' =>
    rw[hr]at hb;simp only[v7r,v7s]at hb;subst hb;obtain⟨H,O,M⟩:=qz8 I hr;simp only[AR,PR]at h1;subst h1;exact⟨n::H,by rw[O];rfl,by rw[M];rfl⟩
  ·cases hb
theorem qz9(f:Int->UInt8):∀(A:List Int) (r:ByteArray),A.foldl (fun r n=>r.push (f n)) r=⟨r.data++(A.map f).toArray⟩
 |[],r=>by simp
 |n::A,r=>by
  rw[List.foldl_cons,qz9 f A];simp[ByteArray.push]
theorem q63(h:HR X inj σ w){M dst:TypeId}{x v:AV}(hx:AR X inj σ w x A)(hr:(q61 P M dst x).run σ=some v):∃val,(convert M dst A).run P w=.ok val w/\AR X inj σ w v val:=by
 unfold q61 at hr;split at hr
 ·rename_i Z;simp only[L.run_bind']at hr;cases O:(qqc x).run σ with
  |none=>rw[O]at hr;cases hr
  | some els =>
   rw[O]at hr;simp only[v7m,L.run_ofOpt]at hr;cases I:qjd els with
   |none=>rw[I]at hr;cases hr
   | some s =>
    rw[I]at hr;simp only[v7r,v7s]at hr;subst hr;obtain⟨a,J,us,rfl,_,U,E⟩:=qs2 h hx O;obtain⟨H,rfl,rfl⟩:=qz8 U I;have hl:els.length=H.length:=by have:=U.length;simpa using this
    unfold viv at Z;split at Z
    case h_2=>cases Z
    rename_i e hs hd;split at Z
    case h_2=>cases Z
    rename_i he;refine⟨.string ⟨(H.map fun n:Int=>UInt8.ofNat n.toNat).toArray⟩,?_,by simp only[AR,PR]⟩;rw[run_convert_bytes_string w M dst e a els.length J hs he hd,hl];have hfl:flat (H.map (Value.int .u8))=H.map (Value.int .u8):=by
     clear hl E U I
     induction H with
     |nil=>rfl
     |cons n H ih=>rw[v6i,qkj,ih];simp[Value.cells]
    rw[hfl]at E;have fin:∀V:Addr,(loadCells V H.length).run P w=.ok (H.map (Value.int .u8)).toArray w->(Conv.bytesToString (.slice (some V) H.length J)).run P w=.ok (.string ⟨(H.map fun n=>UInt8.ofNat n.toNat).toArray⟩) w:=by
     intro V W;rw[run_bytesToString w V H.length J H W,qz9 (fun n=>UInt8.ofNat n.toNat)];simp
    cases a with
    | none =>
     rcases E with hm|⟨b,o,sz,ha,_⟩
     ·have:H=[]:=by simpa using hm
      subst this;simp[Conv.bytesToString];rfl
     ·cases ha
    | some V =>
     refine fin V ?_;have W:=run_loadCells_list (P:=P) w V (H.map (Value.int .u8)) (fun j u hj=>by
      rcases E with hm|⟨b,o,sz,ha,_,hc⟩
      ·grind
      ·cases ha;rw[Addr.add_lit];exact hc j u hj)
     simpa using W
 ·rw[L.run_ofOpt]at hr;exact vaf (P:=P) hx hr
theorem q64{es:List PV}{E J:Value}{W k2:IntKind}{hi:Int}(M:P.underlying t=some (.slice e))(V:qsc P e=true)
  (hx:AR X inj σ w (.p (.slc es)) A) (Z:AR X inj σ w (.p (.int W hi)) E) (hm:AR X inj σ w (.p (.int k2 hi)) J) (h0:0<=hi) (h1:hi<=es.length) :
  ∃val,(Instr.sliceAt t A none (some E) (some J)).run P w=.ok val w/\AR X inj σ w (.p (.clip (es.take hi.toNat))) val:=by
 have U:=qgn V w;simp only[AR,PR]at Z hm;subst Z;subst hm;obtain⟨a,I,vs,rfl,hcap,p1,p2⟩:=hx;have H:(es.take hi.toNat).length=hi.toNat:=by rw[v6g];omega
 have hb:(Instr.sliceBounds true es.length I none (some (.int W hi)) (some (.int k2 hi))).run P w=.ok (0,hi.toNat,hi.toNat) w:=by
  have h2:hi<=I:=by omega
  have h3:((hi.toNat:Nat):Int)=hi:=by omega
  simp[Instr.sliceBounds,Instr.sliceBound,asIntOf,h0,h2,h3]
 refine⟨.slice (if hi.toNat=0 then a else a.map (·.add (0*P.cellsOf e))) hi.toNat hi.toNat,?_,_,vs.take hi.toNat,by rw[H],p1.take _,?_⟩
 ·simp only[Instr.sliceAt,v7w,run_underlying M,v7u,Instr.slice,hb,U,v7x,v7k]
 ·by_cases hz:hi.toNat=0
  ·rw[hz];exact .inl rfl
  ·rw[if_neg hz];rcases p2 with rfl|⟨b,o,sz,rfl,O,q2,q3,q4,q5⟩
   ·exact .inl (by simp)
   ·refine .inr ⟨b,o,sz,by simp[Addr.add_lit],fun v hv=>O v (v6o hv),?_,q3,q4,fun j u M=>?_⟩
    ·rw[qm4 _ O];exact fun u M=>q2 u (v6o M)
    ·rw[qm4 _ O,v59]at M
     grind
theorem q65{x v:AV}{Z E:Option Value}{kl kh:IntKind}{lo hi:Option Int}(h0:HR X inj σ w)(O:P.underlying t=some (.slice e))(hok:qsc P e=true)
  (hx:AR X inj σ w x A) (hns:∀s,x≠.p (.str s)) (hl:Z=lo.map (.int kl)) (hh:E=hi.map (.int kh)) (h:(aop.sliceT P e x lo hi).run σ=some v) :
  ∃val,(Instr.sliceAt t A Z E none).run P w=.ok val w/\AR X inj σ w v val:=by
 have hsz:=qgn hok w;have key:∀(a:Option Addr) (len H:Nat),0<=lo.getD 0->lo.getD 0<=hi.getD len->hi.getD len<=H ->
   (Instr.sliceAt t (.slice a len H) Z E none).run P w=.ok (.slice (if H=(lo.getD 0).toNat then a else a.map (·.add ((lo.getD 0).toNat*P.cellsOf e))) ((hi.getD len).toNat-(lo.getD 0).toNat) (H-(lo.getD 0).toNat)) w:=by
  intro a len H h1 h2 h3;have hb:=q3b (P:=P) true len H lo hi Z E kl kh hl hh h1 h2 h3 w;simp only[Instr.sliceAt,v7w,run_underlying O,v7u,Instr.slice,hb,hsz,v7x]
 unfold aop.sliceT at h;split at h
 ·rename_i l g off len;have h:=qz7 h;split at h
  case h_2=>simp at h
  rename_i e' sz g' es ho;split at h
  case isFalse=>simp at h
  rename_i I;subst I;simp only[qqd,L.run,ho]at h;split at h
  case isFalse=>simp at h
  rename_i hg;subst hg;split at h
  case isFalse=>simp at h
  rename_i U;simp only[L.run_ret,v7s]at h;subst h;obtain⟨_,a2⟩:=hx;obtain⟨_,a3⟩:=a2 _ ho;obtain⟨a4,a5⟩:=a3 rfl e' _ es rfl;have own:∀val,(∃a n c,val=Value.slice a n c)->((inj l=none/\val=.slice none 0 0/\off+(lo.getD 0).toNat=0/\(hi.getD len).toNat-(lo.getD 0).toNat=0) \/
    ∃b c a,inj l=some (b,c)/\val=.slice a ((hi.getD len).toNat-(lo.getD 0).toNat) (c-(off+(lo.getD 0).toNat))/\(off+(lo.getD 0).toNat)+((hi.getD len).toNat-(lo.getD 0).toNat)<=c /\
     ((off+(lo.getD 0).toNat≠0/\off+(lo.getD 0).toNat=c)\/a=some ⟨b,(off+(lo.getD 0).toNat)*P.cellsOf e,none⟩)) ->
    AR X inj σ w (.own l g (off+(lo.getD 0).toNat) ((hi.getD len).toNat-(lo.getD 0).toNat)) val:=by
   intro val W hv;refine⟨W,fun o ho'=>?_⟩;rw[ho]at ho';subst ho';refine⟨v7a _,fun _ e2 sz2 es2 he2=>?_⟩;cases he2;exact⟨by omega,hv⟩
  rcases a5 with⟨i1,rfl,rfl,rfl⟩|⟨b,c,a,i1,rfl,i2,V⟩
  ·have hlo:lo.getD 0=0:=by omega
   have hhi:hi.getD ((0:Nat):Int)=0:=by omega
   refine⟨_,key none 0 0 (by omega) (by omega) (by omega),own _ ⟨_,_,_,rfl⟩ (.inl ⟨i1,?_,by omega,by omega⟩)⟩;simp only[hlo,hhi];rfl
  ·refine⟨_,key a len (c-off) U.1 U.2.1 (by omega),own _ ⟨_,_,_,rfl⟩ (.inr ⟨b,c,_,i1,by rw[Nat.sub_sub],by omega,?_⟩)⟩;by_cases J:c-off=(lo.getD 0).toNat
   ·by_cases h00:off+(lo.getD 0).toNat=0
    ·right;rw[if_pos J];rcases V with⟨V,_⟩|V
     ·omega
     ·rw[V];congr 2;have:(lo.getD 0).toNat=0:=by omega
      rw[this,v65]
    ·left;exact⟨h00,by omega⟩
   ·right;rw[if_neg J];rcases V with⟨_,V⟩|V
    ·omega
    ·rw[V];simp[Addr.add_lit,v62]
 ·rename_i es;split at h
  case isFalse=>simp at h
  rename_i hall;simp only[qqd]at h;split at h
  case isFalse=>simp at h
  rename_i U;simp only[L.run_ret,v7s]at h;subst h;obtain⟨a,H,vs,rfl,J,h1,h2⟩:=hx;have hlen:=h1.length;refine⟨_,key a es.length H U.1 U.2.1 (by omega),?_⟩;have hel:((es.drop (lo.getD 0).toNat).take ((hi.getD (es.length:Int)).toNat-(lo.getD 0).toNat)).length=(hi.getD (es.length:Int)).toNat-(lo.getD 0).toNat:=by
   rw[v6g,v6c];omega
  refine⟨_,H-(lo.getD 0).toNat,(vs.drop (lo.getD 0).toNat).take ((hi.getD (es.length:Int)).toNat-(lo.getD 0).toNat),by rw[hel],by rw[hel];omega,(h1.drop _).take _,?_⟩;rcases h2 with rfl|⟨b,o,sz,rfl,W,ho,hr⟩
  ·exact .inl (by simp)
  ·by_cases hn:(hi.getD (es.length:Int)).toNat-(lo.getD 0).toNat=0
   ·rw[hn];exact .inl (by simp)
   ·have hne:H≠(lo.getD 0).toNat:=by omega
    rw[if_neg hne];have I:sz=P.cellsOf e:=by
     have hlt:0<es.length:=by omega
     have he0:es[0]?=some es[0]:=v52 hlt;obtain⟨u,hu1,hu2⟩:=h1.get he0;have M:=List.all_eq_true.1 hall es[0] (List.getElem_mem hlt);simp only[beq_iff_eq]at M;rw[<-W u (v6m hu1),<-M,(PR.cells_of hu2).length,v5f]
    subst I;have hfl:flat ((vs.drop (lo.getD 0).toNat).take ((hi.getD (es.length:Int)).toNat-(lo.getD 0).toNat))=((flat vs).drop ((lo.getD 0).toNat*P.cellsOf e)).take (((hi.getD (es.length:Int)).toNat-(lo.getD 0).toNat)*P.cellsOf e):=by
     rw[qm4 _ fun v hv=>W v (v6n hv),qoc _ W]
    refine .inr ⟨b,o+(lo.getD 0).toNat*P.cellsOf e,P.cellsOf e,by simp[Addr.add_lit],fun v hv=>W v (v6n (v6o hv)),?_,hr.1,hr.2.1,fun j u O=>?_⟩
    ·rw[hfl];exact fun u O=>ho u (v6n (v6o O))
    ·rw[hfl,v59]at O;split at O
     ·rw[v51]at O;have:=hr.2.2 _ u O
      rwa [<-v61]at this
     ·cases O
 ·rename_i h3 h4;cases x with
  |nils =>
   simp only[qqd]at h;split at h
   case isFalse=>simp at h
   rename_i U;simp only[L.run_ret,v7s]at h;subst h;simp only[AR]at hx;subst hx;have e1:=U.1;have e2:hi.getD ((0:Nat):Int)=0:=U.2;refine⟨_,key none 0 0 (by omega) (by omega) (by omega),?_⟩;simp only[e1,e2];rfl
  |own l g off len=>exact(h3 l g off len rfl).elim
  |p x =>
   cases x with
   |str s=>exact(hns s rfl).elim
   |slc es=>exact(h4 es rfl).elim
   |_=>simp[qqd]at h
  |_=>simp[qqd]at h
theorem q3c{x v:AV}{ty:TypeId}(h0:HR X inj σ w)(H:AR X inj σ w x A)(h:(aop.lenT P t x).run σ=some v) :
  ∃val,(Builtin.len_ #[t] ty #[A]).run P w=.ok val w/\AR X inj σ w v val:=by
 unfold aop.lenT at h;split at h
 ·rename_i s E;simp only[vac,L.run_ret,v7s]at h;subst h;simp only[AR,PR]at H;subst H;have V:(ByteArray.mk s.toArray).size=s.length:=by rw[v5p]
  exact⟨.int .i64 s.length,by simp[Builtin.len_,run_underlying E,goInt,V],rfl⟩
 ·rename_i e es E;simp only[vac,L.run_ret,v7s]at h;subst h;obtain⟨a,cap,vs,rfl,_⟩:=H;exact⟨.int .i64 es.length,by simp[Builtin.len_,run_underlying E,goInt],rfl⟩
 ·rename_i e E;simp only[vac,L.run_ret,v7s]at h;subst h;simp only[AR]at H;subst H;exact⟨.int .i64 0,by simp[Builtin.len_,run_underlying E,goInt],rfl⟩
 ·rename_i e l g off len E;simp only[vac]at h;have h:=qz7 h;split at h
  case h_2=>simp at h
  rename_i e' sz g' es ho;split at h
  case isFalse=>simp at h
  rename_i O;subst O;simp only[L.run_ret,v7s]at h;subst h;obtain⟨_,J⟩:=H;obtain⟨_,W⟩:=J _ ho;obtain⟨a4,a5⟩:=W rfl e' _ es rfl;have:∃a c,A=.slice a len c:=by
   grind
  obtain⟨a,c,rfl⟩:=this;exact⟨.int .i64 len,by simp[Builtin.len_,run_underlying E,goInt],rfl⟩
 ·rename_i k e E;simp only[vac,L.run_ret,v7s]at h;subst h;simp only[AR,PR]at H;subst H;exact⟨.int .i64 0,by simp[Builtin.len_,run_underlying E,goInt],rfl⟩
 ·rename_i k e ks vs E;simp only[vac,L.run_ret,v7s]at h;subst h;simp only[AR,PR]at H;rcases H with⟨rfl,rfl,_⟩|⟨r,U,I,rfl,h1,h2,h3,h4,h5⟩
  ·exact⟨.int .i64 0,by simp[Builtin.len_,run_underlying E,goInt],rfl⟩
  have hl:=h4.length;simp only[v6d,v5f]at hl;exact⟨.int .i64 U.size,by simp[Builtin.len_,run_underlying E,goInt,getObj,v7v,h3],by show _=_;rw[hl]⟩
 ·rename_i k e l g E;simp only[vac]at h;have h:=qz7 h;split at h
  case h_2=>simp at h
  rename_i g' ks vs ho;split at h
  case isFalse=>simp at h
  rename_i O;subst O;simp only[L.run_ret,v7s]at h;subst h;obtain⟨_,J⟩:=H;obtain⟨_,W⟩:=J _ ho;obtain⟨b,c,a4,rfl⟩:=W rfl ks vs rfl;obtain⟨M,c',U,I,Z,p2,p3,p4,p5⟩:=(ho▸h0.obj l _ rfl:OR X inj σ w l (.map g ks vs));rw[a4]at Z;cases Z;have hl:=p4.length;simp only[v6d,v5f]at hl;exact⟨.int .i64 U.size,by simp[Builtin.len_,run_underlying E,goInt,getObj,v7v,p3],by show _=_;rw[hl]⟩
 ·simp at h
end
end Go.Ab
namespace Go.Ab
variable {D:Prop}
open Go Go.MapKept
variable {X:Nat->Prop} {inj:Inj} {σ:Nat->AO} {w:World} {P:Program}
variable {E t:TypeId} {vk A J:Value} {Y Z:Nat->Prop} {es:List MapEntry} {d:TypeDesc} {b:Bool}
theorem q0a:∀{l:List AV} {A:List PV},qq9 l=some A->l=A.map .p
 |[],A,h=>by simp only[qq9,v7s]at h;subst h;rfl
 |.p x::r,A,h=>by
  simp only[qq9]at h;split at h
  ·rename_i H E;simp only[v7s]at h;subst h;rw[v6i,q0a E]
  ·cases h
 |.any::_,_,h=>by simp[qq9]at h
 |.nils::_,_,h=>by simp[qq9]at h
 |.loc .. :: _,_,h=>by simp[qq9]at h
 |.own .. :: _,_,h=>by simp[qq9]at h
 |.mapo .. :: _,_,h=>by simp[qq9]at h
 |.func .. :: _,_,h=>by simp[qq9]at h
 |.agg _::_,_,h=>by simp[qq9]at h
 |.tup _::_,_,h=>by simp[qq9]at h
theorem vcx(a b:List UInt8):((⟨a.toArray⟩:ByteArray)==⟨b.toArray⟩)=(a==b):=by
 show(a.toArray==b.toArray)=_;rw[Bool.eq_iff_iff];simp
def vix:PV->Bool
 |.agg _=>false
 |_=>true
theorem que{k x:PV}(h1:vix k=true)(h:qnw P E k x=some b):qyz k x=some b:=by
 cases k<;>simp only[vix,v5k]at h1<;>cases x<;>simp only[qnw]at h<;>first|exact h|(cases h;done)|(simp[qyz]at h)
theorem vfc{k:PV}(I:P.underlying E=some d)(A:qzo P E k=true)(H:vix k=true)(h:PR Y w k vk):IsKey d vk:=by
 unfold qzo at A;rw[I]at A;split at A
 ·rename_i q J n e;simp only[v7s]at e;subst e;simp only[PR]at h;subst h;simpa[IsKey] using A
 ·rename_i s e;simp only[v7s]at e;subst e;simp only[PR]at h;subst h;trivial
 ·rename_i s e;simp only[v7s]at e;subst e;simp only[PR]at h;subst h;trivial
 ·cases H
 ·cases H
 ·cases A
theorem qwc{k x:PV}(O:P.underlying E=some d)(M:qzo P E k=true)(J:vix k=true)(h1:PR Y w k vk)(I:PR Z w x A)(H:qyz k x=some b):Instr.sameNow d vk A=some b:=by
 unfold qzo at M;rw[O]at M;split at M
 ·rename_i q U n e;simp only[v7s]at e;subst e;simp only[PR]at h1;subst h1;cases x<;>simp only[qyz]at H<;>try cases H
  simp only[PR]at I;subst I;simpa[Instr.sameNow] using H
 ·rename_i s e;simp only[v7s]at e;subst e;simp only[PR]at h1;subst h1;cases x<;>simp only[qyz]at H<;>try cases H
  simp only[PR]at I;subst I;rename_i y;simp only[Instr.sameNow,v7s,vcx]
 ·rename_i s e;simp only[v7s]at e;subst e;simp only[PR]at h1;subst h1;cases x<;>simp only[qyz]at H<;>try cases H
  simp only[PR]at I;subst I;rfl
 ·cases J
 ·cases J
 ·cases M
theorem vfd{k x:PV}(h1:PR Y w k vk)(H:PR Z w x A)(E:qyz k x=some true):vk=A/\Instr.sameBits 10000 A vk=true:=by
 cases k<;>cases x<;>simp only[qyz]at E<;>try cases E
 ·rename_i a b c d;split at E
  ·rename_i e;subst e;simp only[v7s,beq_iff_eq]at E;subst E;simp only[PR]at h1 H;subst h1;subst H;exact⟨rfl,by simp[Instr.sameBits]⟩
  ·cases E
 ·simp only[v7s,beq_iff_eq]at E;subst E;simp only[PR]at h1 H;subst h1;subst H;exact⟨rfl,by first|(simp[Instr.sameBits];done)|(simp only[Instr.sameBits,vcx];exact beq_self_eq_true _)⟩
 ·simp only[v7s,beq_iff_eq]at E;subst E;simp only[PR]at h1 H;subst h1;subst H;exact⟨rfl,by show((⟨_⟩:ByteArray)==⟨_⟩)=true;rw[vcx];exact beq_self_eq_true _⟩
theorem q3d{E:TypeId}{k:PV}{d:TypeDesc}{vk:Value}{Y Z:Nat->Prop}(U:P.underlying E=some d)(M:qzo P E k=true)(H:vix k=true)(h1:PR Y w k vk):∀{A:List PV} {vs:List AV} {es:List MapEntry} {i:Nat} {r:Option AV},
  PRs Z w A (es.map (·.key))->ARs X inj σ w vs (es.map (·.val))->qs3 P E k A vs=some r ->
  (r=none/\Instr.findNow d vk es i=some none)\/∃v j val,r=some v/\Instr.findNow d vk es i=some (some (j,val))/\AR X inj σ w v val
 |[],vs,es,i,r,hp,hv,h=>by
  simp only[qs3,v7s]at h;simp only[PRs]at hp;have:es=[]:=by simpa using hp
  subst this;exact .inl ⟨h.symm,rfl⟩
 | x :: A,vs,es,i,r,hp,hv,h=>by
  cases es with
  |nil=>simp[PRs]at hp
  | cons e es =>
   simp only[v6i,PRs,v5t.injEq]at hp;obtain⟨_,_,⟨rfl,rfl⟩,J,O⟩:=hp;cases vs with
   |nil=>simp[ARs]at hv
   | cons v vs =>
    simp only[v6i,ARs,v5t.injEq]at hv;obtain⟨_,_,⟨rfl,rfl⟩,W,V⟩:=hv;simp only[qs3]at h;split at h
    ·rename_i I;replace I:=que H I;have:=qwc U M H h1 J I;simp only[v7s]at h;exact .inr ⟨v,i,e.val,h.symm,by simp[Instr.findNow,this],W⟩
    ·rename_i I;replace I:=que H I;have:=qwc U M H h1 J I;rcases q3d U M H h1 (i:=i+1) O V h with⟨a,b⟩|⟨v',j,val,a,b,c⟩
     ·exact .inl ⟨a,by simp[Instr.findNow,this,b]⟩
     ·exact .inr ⟨v',j,val,a,by simp[Instr.findNow,this,b],c⟩
    ·cases h
theorem q39(h:HR X inj σ w){m:AV}{ks vs:List AV}(O:AR X inj σ w m J)(hr:(qv9 m).run σ=some (ks,vs)) :
  (J=.map none/\ks=[]/\vs=[])\/∃b H E,J=.map (some b)/\w.heap[b]?=some (.map H E)/\ARs X inj σ w ks (H.toList.map (·.key))/\ARs X inj σ w vs (H.toList.map (·.val)):=by
 unfold qv9 at hr;split at hr
 ·rename_i I A;simp only[L.run_ret,v7s,v7t]at hr;obtain⟨rfl,rfl⟩:=hr;simp only[AR,PR]at O;rcases O with⟨rfl,rfl,rfl⟩|⟨r,H,E,rfl,_,_,Z,h4,V⟩
  ·grind
  ·exact .inr ⟨r,H,E,rfl,Z,qby.2 h4,qby.2 V⟩
 ·rename_i l g;simp only[L.run]at hr;split at hr
  case h_2=>simp at hr
  rename_i g' I A ho;split at hr
  case isFalse=>simp at hr
  rename_i W;subst W;simp only[L.run_ret,v7s,v7t]at hr;obtain⟨rfl,rfl⟩:=hr;obtain⟨b,c,H,E,p1,p2,p3,p4,p5⟩:=(ho▸h.obj l _ rfl:OR X inj σ w l (.map g I A));obtain⟨_,U⟩:=O;obtain⟨_,a3⟩:=U _ ho;obtain⟨M,c',a4,rfl⟩:=a3 rfl I A rfl
  grind
 ·simp at hr
theorem q66{E:TypeId}{k:PV}{v:AV}{d:TypeDesc}{vk:Value}{Y Z:Nat->Prop}(W:P.underlying E=some d)(hk:qzo P E k=true)(H:vix k=true)(h1:PR Y w k vk):∀{A:List PV} {vs:List AV} {es:List MapEntry} {i:Nat} {r:List PV×List AV},
  PRs Z w A (es.map (·.key))->ARs X inj σ w vs (es.map (·.val))->q60 P E k v A vs=some r ->
  (Instr.findNow d vk es i=some none/\r=(A++[k],vs++[v]))\/∃j e,Instr.findNow d vk es i=some (some (i+j,e.val))/\es[j]?=some e/\vk=e.key/\Instr.sameBits 10000 e.key vk=true/\r=(A,vs.set j v)
 |[],vs,es,i,r,hp,hv,h=>by
  simp only[PRs]at hp;have:es=[]:=by simpa using hp
  subst this;simp only[v6j]at hv;have U:vs=[]:=by have:=hv.length;simpa using this
  subst U;simp only[q60,v7s]at h;exact .inl ⟨rfl,h.symm⟩
 | x :: A,vs,es,i,r,hp,hv,h=>by
  cases es with
  |nil=>simp[PRs]at hp
  | cons e es =>
   simp only[v6i,PRs,v5t.injEq]at hp;obtain⟨_,_,⟨rfl,rfl⟩,J,V⟩:=hp;cases vs with
   |nil=>simp[ARs]at hv
   | cons u vs =>
    simp only[v6i,ARs,v5t.injEq]at hv;obtain⟨_,_,⟨rfl,rfl⟩,hv1,hv2⟩:=hv;simp only[q60]at h;split at h
    ·rename_i I;replace I:=que H I;have O:=qwc W hk H h1 J I;obtain⟨h4,h5⟩:=vfd h1 J I;simp only[v7s]at h;exact .inr ⟨0,e,by simp[Instr.findNow,O],rfl,h4,h5,h.symm⟩
    ·rename_i I;replace I:=que H I;have O:=qwc W hk H h1 J I;obtain⟨q,hq,rfl⟩:=v7q.1 h;rcases q66 W hk H h1 (i:=i+1) V hv2 hq with⟨a,b⟩|⟨j,e',a,b,c,c',M⟩
     ·exact .inl ⟨by simp[Instr.findNow,O,a],by rw[b];rfl⟩
     ·refine .inr ⟨j+1,e',?_,by simpa using b,c,c',by rw[M];rfl⟩;rw[show i+(j+1)=i+1+j by omega,<-a];simp[Instr.findNow,O]
    ·cases h
theorem PRs.free{A:List PV}{us:List Value}(h:PRs Y w A us):PRs (fun _=>False) w A us:=PRs.keep ⟨v7a _,fun _ _ _=>rfl,fun _ _ _ h=>h⟩ A us h
theorem vfe{ks:List PV}{x:PV}(h:qnw P E (.agg ks) x=some b):∃A,x=.agg A/\eqT P 9 E ks A=some b/\b=eqC ks A:=by
 cases x<;>simp only[qnw]at h<;>try cases h
 rename_i A;obtain⟨r,h1,H⟩:=Option.bind_eq_some_iff.1 h
 grind
theorem qzp:∀{A J:List PV} {us vs:List Value} {Y Z:Nat->Prop},eqC A J=true->PRs Y w A us->PRs Z w J vs->us=vs/\∀n,((us.zip vs).all fun p=>Instr.sameBits n p.1 p.2)=true
 |[],[],us,vs,_,_,_,h1,h2=>by simp only[PRs]at h1 h2;subst h1;subst h2;exact⟨rfl,fun _=>rfl⟩
 |.int k x::A,.int k' y::J,us,vs,_,_,h,h1,h2=>by
  simp only[eqC,v5i,beq_iff_eq]at h;obtain⟨u,r,rfl,H,I⟩:=h1;obtain⟨v,O,rfl,E,M⟩:=h2;obtain⟨e,f⟩:=qzp h.2.2 I M;simp only[PR]at H E;obtain⟨rfl,rfl,_⟩:=h;subst H;subst E;subst e;refine⟨rfl,fun n=>?_⟩;simp only[v60,v5q,f n,v5j];cases n<;>simp[Instr.sameBits]
 |.str x::A,.str y::J,us,vs,_,_,h,h1,h2=>by
  simp only[eqC,v5i,beq_iff_eq]at h;obtain⟨u,r,rfl,H,I⟩:=h1;obtain⟨v,O,rfl,E,M⟩:=h2;obtain⟨e,f⟩:=qzp h.2 I M;simp only[PR]at H E;obtain⟨rfl,_⟩:=h;subst H;subst E;subst e;refine⟨rfl,fun n=>?_⟩;simp only[v60,v5q,f n,v5j];cases n<;>(simp only[Instr.sameBits];rw[vcx];exact beq_self_eq_true _)
 |.bool x::A,.bool y::J,us,vs,_,_,h,h1,h2=>by
  simp only[eqC,v5i,beq_iff_eq]at h;obtain⟨u,r,rfl,H,I⟩:=h1;obtain⟨v,O,rfl,E,M⟩:=h2;obtain⟨e,f⟩:=qzp h.2 I M;simp only[PR]at H E;obtain⟨rfl,_⟩:=h;subst H;subst E;subst e;refine⟨rfl,fun n=>?_⟩;simp only[v60,v5q,f n,v5j];cases n<;>simp[Instr.sameBits]
theorem qwd{ks:List PV}{x:PV}(h:qnw P E (.agg ks) x=some b)(h1:PR Y w (.agg ks) vk)(M:PR Z w x A)(ht:qat P E=some true) :
  (Op.equal E vk A).run P w=.ok b w/\(b=true->vk=A/\Instr.sameBits 10000 A vk=true):=by
 obtain⟨W,rfl,he,V⟩:=vfe h;obtain⟨us,rfl,J,U⟩:=h1;obtain⟨vs,rfl,I,O⟩:=M;have:=qwb (P:=P) (w:=w) 9991 9 E ks W b us vs he J.free I.free U O;simp only[qp0,ht,if_true]at this;refine⟨this,fun H=>?_⟩;subst H;obtain⟨e,f⟩:=qzp V.symm J I;subst e;refine⟨rfl,?_⟩;show Instr.sameBits (9999+1) _ _=true;simp only[Instr.sameBits,beq_self_eq_true,Bool.true_and];exact f 9999
theorem qrb{E:TypeId}{ks:List PV}{vk:Value}{Y Z:Nat->Prop}(U:qat P E=some true)(h1:PR Y w (.agg ks) vk):∀{A:List PV} {vs:List AV} {es:List MapEntry} {i:Nat} {r:Option AV},
  PRs Z w A (es.map (·.key))->ARs X inj σ w vs (es.map (·.val))->qs3 P E (.agg ks) A vs=some r ->
  (r=none/\(Instr.findAsking E vk es i).run P w=.ok none w)\/∃v j val,r=some v/\(Instr.findAsking E vk es i).run P w=.ok (some (j,val)) w/\AR X inj σ w v val
 |[],vs,es,i,r,hp,hv,h=>by
  simp only[qs3,v7s]at h;simp only[PRs]at hp;have:es=[]:=by simpa using hp
  subst this;exact .inl ⟨h.symm,by simp[Instr.findAsking]⟩
 | x :: A,vs,es,i,r,hp,hv,h=>by
  cases es with
  |nil=>simp[PRs]at hp
  | cons e es =>
   simp only[v6i,PRs,v5t.injEq]at hp;obtain⟨_,_,⟨rfl,rfl⟩,H,I⟩:=hp;cases vs with
   |nil=>simp[ARs]at hv
   | cons v vs =>
    simp only[v6i,ARs,v5t.injEq]at hv;obtain⟨_,_,⟨rfl,rfl⟩,O,J⟩:=hv;simp only[qs3]at h;split at h
    ·rename_i M;obtain⟨q,_⟩:=qwd M h1 H U;simp only[v7s]at h;exact .inr ⟨v,i,e.val,h.symm,by simp[Instr.findAsking,q],O⟩
    ·rename_i M;obtain⟨q,_⟩:=qwd M h1 H U;rcases qrb U h1 (i:=i+1) I J h with⟨a,b⟩|⟨v',j,val,a,b,c⟩
     ·exact .inl ⟨a,by simp[Instr.findAsking,q,b]⟩
     ·exact .inr ⟨v',j,val,a,by simp[Instr.findAsking,q,b],c⟩
    ·cases h
theorem qs5{E:TypeId}{ks:List PV}{v:AV}{vk:Value}{Y Z:Nat->Prop}(V:qat P E=some true)(h1:PR Y w (.agg ks) vk):∀{A:List PV} {vs:List AV} {es:List MapEntry} {i:Nat} {r:List PV×List AV},
  PRs Z w A (es.map (·.key))->ARs X inj σ w vs (es.map (·.val))->q60 P E (.agg ks) v A vs=some r ->
  ((Instr.findAsking E vk es i).run P w=.ok none w/\r=(A++[.agg ks],vs++[v]))\/∃j e,(Instr.findAsking E vk es i).run P w=.ok (some (i+j,e.val)) w/\es[j]?=some e/\vk=e.key/\Instr.sameBits 10000 e.key vk=true/\r=(A,vs.set j v)
 |[],vs,es,i,r,hp,hv,h=>by
  simp only[PRs]at hp;have:es=[]:=by simpa using hp
  subst this;simp only[v6j]at hv;have I:vs=[]:=by have:=hv.length;simpa using this
  subst I;simp only[q60,v7s]at h;exact .inl ⟨by simp[Instr.findAsking],h.symm⟩
 | x :: A,vs,es,i,r,hp,hv,h=>by
  cases es with
  |nil=>simp[PRs]at hp
  | cons e es =>
   simp only[v6i,PRs,v5t.injEq]at hp;obtain⟨_,_,⟨rfl,rfl⟩,H,J⟩:=hp;cases vs with
   |nil=>simp[ARs]at hv
   | cons u vs =>
    simp only[v6i,ARs,v5t.injEq]at hv;obtain⟨_,_,⟨rfl,rfl⟩,hv1,O⟩:=hv;simp only[q60]at h;split at h
    ·rename_i U;obtain⟨q,q2⟩:=qwd U h1 H V;obtain⟨h4,W⟩:=q2 rfl;simp only[v7s]at h;exact .inr ⟨0,e,by simp[Instr.findAsking,q],rfl,h4,W,h.symm⟩
    ·rename_i U;obtain⟨q,_⟩:=qwd U h1 H V;obtain⟨z,hz,rfl⟩:=v7q.1 h;rcases qs5 V h1 (i:=i+1) J O hz with⟨a,b⟩|⟨j,e',a,b,c,c',M⟩
     ·exact .inl ⟨by simp[Instr.findAsking,q,a],by rw[b];rfl⟩
     ·refine .inr ⟨j+1,e',?_,by simpa using b,c,c',by rw[M];rfl⟩;rw[show i+(j+1)=i+1+j by omega];simp[Instr.findAsking,q,a]
    ·cases h
theorem q4a{k:PV}(J:qzo P E k=true)(h1:vix k=false):qat P E=some true/\(∃d,P.underlying E=some d/\(∀a b,Instr.sameNow d a b=none))/\∃ks,k=.agg ks/\(eqT P 9 E ks ks).isSome=true:=by
 cases k<;>simp only[vix,v5n]at h1;rename_i ks;unfold qzo at J;split at J<;>try(rename_i e;cases e;done)
 all_goals try(cases J;done)
 ·rename_i I A H e;cases e;exact⟨by simp[qat,H],⟨_,H,fun _ _=>rfl⟩,ks,rfl,J⟩
 ·rename_i n M A H e;cases e;exact⟨by simp[qat,H],⟨_,H,fun _ _=>rfl⟩,ks,rfl,J⟩
theorem qxx{k:PV}(I:qzo P E k=true)(h1:PR Y w k vk)(J:Bool):(Instr.checkKey J 10000 E vk).run P w=.ok () w:=by
 cases A:vix k with
 | true =>
  obtain⟨d,H⟩:∃d,P.underlying E=some d:=by
   cases H:P.underlying E with
   |none=>simp[qzo,H]at I
   |some d=>exact⟨d,rfl⟩
  exact run_checkKey (w:=w) H (vfc H I A h1) J 9999
 |false =>
  obtain⟨V,_,ks,rfl,O⟩:=q4a I A;obtain⟨r,hr⟩:=v7p.1 O;obtain⟨us,rfl,M,U⟩:=h1;have:=qs4 (P:=P) (w:=w) J 9991 9 E ks ks r us hr M U;simpa only[qp0,V,if_true] using this
theorem q0b{k:PV}(H:qzo P E k=true):(Instr.findKey E vk []).run P w=.ok none w:=by
 obtain⟨d,A⟩:∃d,P.underlying E=some d:=by
  cases A:P.underlying E with
  |none=>simp[qzo,A]at H
  |some d=>exact⟨d,rfl⟩
 exact run_findKey (P:=P) (w:=w) A rfl
theorem q67{e:MapEntry}(A:P.underlying E=some d)(hn:∀a b,Instr.sameNow d a b=none):(Instr.findKey E vk (e::es)).run P w=(Instr.findAsking E vk (e::es) 0).run P w:=by
 simp[Instr.findKey,run_underlying A,Instr.findNow,hn]
theorem vag{k:PV}(J:qzo P E k=true)(h1:PR Y w k vk){A:List PV}{vs:List AV}{r:Option AV}
  (O:PRs Z w A (es.map (·.key))) (M:ARs X inj σ w vs (es.map (·.val))) (h:qs3 P E k A vs=some r) :
  (r=none/\(Instr.findKey E vk es).run P w=.ok none w)\/∃v j val,r=some v/\(Instr.findKey E vk es).run P w=.ok (some (j,val)) w/\AR X inj σ w v val:=by
 cases I:vix k with
 | true =>
  obtain⟨d,H⟩:∃d,P.underlying E=some d:=by
   cases H:P.underlying E with
   |none=>simp[qzo,H]at J
   |some d=>exact⟨d,rfl⟩
  rcases q3d H J I h1 (i:=0) O M h with⟨a,b⟩|⟨v,j,val,a,b,c⟩
  ·exact .inl ⟨a,run_findKey (P:=P) (w:=w) H b⟩
  ·exact .inr ⟨v,j,val,a,run_findKey (P:=P) (w:=w) H b,c⟩
 | false =>
  obtain⟨U,⟨d,H,hn⟩,ks,rfl,V⟩:=q4a J I;cases es with
  |nil =>
   rcases qrb (i:=0) U h1 O M h with⟨a,_⟩|⟨v,j,val,a,b,c⟩
   ·exact .inl ⟨a,q0b J⟩
   ·simp[Instr.findAsking]at b
  |cons e es =>
   rw[q67 H hn];exact qrb (i:=0) U h1 O M h
theorem vff{k:PV}{v:AV}(J:qzo P E k=true)(h1:PR Y w k vk){A:List PV}{vs:List AV}{r:List PV×List AV}
  (O:PRs Z w A (es.map (·.key))) (M:ARs X inj σ w vs (es.map (·.val))) (h:q60 P E k v A vs=some r) :
  ((Instr.findKey E vk es).run P w=.ok none w/\r=(A++[k],vs++[v]))\/∃j e,(Instr.findKey E vk es).run P w=.ok (some (j,e.val)) w/\es[j]?=some e/\vk=e.key/\Instr.sameBits 10000 e.key vk=true/\r=(A,vs.set j v):=by
 cases I:vix k with
 | true =>
  obtain⟨d,H⟩:∃d,P.underlying E=some d:=by
   cases H:P.underlying E with
   |none=>simp[qzo,H]at J
   |some d=>exact⟨d,rfl⟩
  rcases q66 H J I h1 (i:=0) O M h with⟨a,b⟩|⟨j,e,a,b⟩
  ·exact .inl ⟨run_findKey (P:=P) (w:=w) H a,b⟩
  ·exact .inr ⟨j,e,run_findKey (P:=P) (w:=w) H (by rw[a,v7l]),b⟩
 | false =>
  obtain⟨U,⟨d,H,hn⟩,ks,rfl,W⟩:=q4a J I;cases es with
  |nil =>
   rcases qs5 (i:=0) U h1 O M h with⟨_,a⟩|⟨j,e,a,b,_⟩
   ·exact .inl ⟨q0b J,a⟩
   ·simp at b
  |cons e es =>
   rw[q67 H hn];rcases qs5 (i:=0) U h1 O M h with⟨a,b⟩|⟨j,V,a,b⟩
   ·grind
   ·grind
theorem vah{z:AV}(h:vor P t=some z):∃val,(zeroValue t).run P w=.ok val w/\AR X inj σ w z val:=by
 have key:∀z,qbm P t=some z->∃val,(zeroValue t).run P w=.ok val w/\AR X inj σ w z val:=by
  intro z A;unfold qbm at A;cases hi:P.info? t with
  |none=>rw[hi]at A;cases A
  | some i =>
   rw[hi]at A;cases E:i.zero with
   |none=>simp[E]at A
   |some v =>
    simp only[v7m,E,v7r,v7s]at A;subst A;exact⟨v,by simp[zeroValue,typeInfo,hi,E],qym v⟩
 unfold vor at h;split at h
 ·split at h
  ·rename_i A;simp only[v7s]at h;subst h;obtain⟨val,h1,H⟩:=key _ A;simp only[AR]at H;subst H;exact⟨_,h1,⟨_,_,[],rfl,v7a _,rfl,.inl rfl⟩⟩
  ·cases h
 ·exact key z h
theorem q4b(h:HR X inj σ w){m k r:AV}{c:Bool}(hm:AR X inj σ w m J)(W:AR X inj σ w k vk)(hr:(qz6 P t m k c).run σ=some r) :
  ∃val,(Instr.lookup t J vk c).run P w=.ok val w/\AR X inj σ w r val:=by
 unfold qz6 at hr;split at hr
 case h_2=>simp at hr
 rename_i E et key hu;split at hr
 case h_2=>simp at hr
 rename_i z H hz;rw[L.run_bind']at hr;cases he:(qv9 m).run σ with
 |none=>rw[he]at hr;cases hr
 | some e =>
  obtain⟨ks,vs⟩:=e;rw[he]at hr;simp only[v7m]at hr;split at hr
  case h_2=>simp at hr
  rename_i kxs M;split at hr
  case h_2=>simp at hr
  rename_i res hf;simp only[L.run_ret,v7s]at hr;subst hr;simp only[AR]at W;obtain⟨zv,U,O⟩:=vah (w:=w) (X:=X) (inj:=inj) (σ:=σ) hz;have fin:∀(v:AV) (val:Value) (ok:Bool),AR X inj σ w v val->AR X inj σ w (if c=true then ve7 [v,.p (.bool ok)] else v) (if c then .tuple #[val,.bool ok] else val):=by
   intro v val ok V;cases c
   ·exact V
   ·exact vct (cs:=[v,.p (.bool ok)]) (vs:=[val,.bool ok]) ⟨_,_,rfl,V,_,_,rfl,rfl,rfl⟩
  rcases q39 h hm he with⟨rfl,rfl,rfl⟩|⟨b,ms,clock,rfl,hb,h4,h5⟩
  ·simp only[qq9,v7s]at M;subst M;simp only[qs3,v7s]at hf;subst hf;refine⟨_,?_,fin _ _ _ O⟩;have I:=qxx (w:=w) H W true;have A:=q0b (w:=w) (vk:=vk) H;simp[Instr.lookup,run_underlying hu,I,A,U]
  ·have Z:=q0a M;subst Z;have I:=qxx (w:=w) H W ms.isEmpty;rcases vag H W (qby.1 h4) h5 hf with⟨rfl,A⟩|⟨v,j,val,rfl,A,V⟩
   ·refine⟨_,?_,fin _ _ _ O⟩;simp[Instr.lookup,run_underlying hu,MapKept.run_getObj_map hb,I,A,U]
   ·refine⟨_,?_,fin _ _ _ V⟩;simp[Instr.lookup,run_underlying hu,MapKept.run_getObj_map hb,I,A]
theorem vai(A:Array MapEntry)(j:Nat)(e:MapEntry)(vk E:Value)(I:A.toList[j]?=some e)(H:vk=e.key) :
  ((A.modify j fun e=>{ e with key:=vk,val:=E }).toList.map (·.key))=A.toList.map (·.key)/\((A.modify j fun e=>{ e with key:=vk,val:=E }).toList.map (·.val))=(A.toList.map (·.val)).set j E:=by
 constructor
 ·apply v5y
  grind
 ·apply v5y
  grind
theorem q4c(w:World)(b:Nat){E A:Array MapEntry}{c H:Nat}(I:w.heap[b]?=some (.map E c))(a:Addr):({ w with heap:=w.heap.setIfInBounds b (.map A H) }:World).frozen? a=w.frozen? a:=by
 unfold World.frozen?
 grind
theorem qwe(h:HR X inj σ w){m k v r:AV}{vv:Value}{I:Upd}(hm:AR X inj σ w m J)(hk:AR X inj σ w k vk)(hv:AR X inj σ w v vv)(hr:(qvh P t m k v).run σ=some (r,I)) :
  ∃w',(Instr.mapUpdate t J vk vv).run P w=.ok () w'/\HR X inj (upd σ I) w'/\Ev D X inj σ w inj (upd σ I) w'/\r=.any:=by
 unfold qvh at hr;split at hr
 case h_2=>simp at hr
 rename_i E et l g key hu;split at hr
 case isFalse=>simp at hr
 rename_i U;simp only[v5i]at U;obtain⟨U,hvk⟩:=U;simp only[L.run]at hr;split at hr
 case h_2=>simp at hr
 rename_i g' ks vs ho;split at hr
 case isFalse=>simp at hr
 rename_i hg;subst hg;split at hr
 case h_2=>simp at hr
 rename_i kxs hks;split at hr
 case h_2=>simp at hr
 rename_i res hup;simp only[L.run_ret,v7s,v7t]at hr;obtain⟨rfl,rfl⟩:=hr;have hke:=q0a hks;subst hke;simp only[AR]at hk;obtain⟨b,c,ms,O,p1,p2,p3,p4,p5⟩:=(ho▸h.obj l _ rfl:OR X inj σ w l (.map g (kxs.map .p) vs));obtain⟨_,a2⟩:=hm;obtain⟨_,a3⟩:=a2 _ ho;obtain⟨M,c',a4,rfl⟩:=a3 rfl _ _ rfl;rw[a4]at p1;cases p1;have hck:=qxx (w:=w) U hk false;have goal:∀(H:Array MapEntry) (A:Nat) (W:List PV) (Z:List AV),(∀{V σ' w'},Ev D X inj σ w V σ' w'->ARs X V σ' w' (W.map .p) (H.toList.map (·.key))/\ARs X V σ' w' Z (H.toList.map (·.val))) ->
   HR X inj (upd σ (some (l,.map g (W.map .p) Z))) { w with heap:=w.heap.setIfInBounds b (.map H A) }/\Ev D X inj σ w inj (upd σ (some (l,.map g (W.map .p) Z))) { w with heap:=w.heap.setIfInBounds b (.map H A) }:=by
  intro H A W Z hars;have hlt:=(v5d.1 p3).1;have hup:=h.update (D:=D) (w':={ w with heap:=w.heap.setIfInBounds b (.map H A) }) (l:=l) (o:=.map g (kxs.map .p) vs) (o':=.map g (W.map .p) Z) (x:=inj l) ho rfl rfl rfl (fun _=>v7a _) (by simp)
   (fun a _=>q4c w b p3 a) (fun q hq hne=>v5e (fun e=>hne rfl c (by rw[<-e];exact a4)))
   (fun b1 c1 h1=>.inr ⟨rfl,c1,h1⟩) ⟨v7a _,fun _ _=>⟨rfl,.inr ⟨_,_,_,_,rfl,rfl⟩⟩⟩
  rw[quc]at hup;obtain⟨hev,hhr⟩:=hup;obtain⟨e1,e2⟩:=hars hev;exact⟨hhr ⟨b,c,H,A,a4,p2,by simp[hlt],e1,e2⟩,hev⟩
 rcases vff (v:=v) U hk (qby.1 p4) p5 hup with⟨hfk,rfl⟩|⟨j,e,hfk,he,hke,hsb,rfl⟩
 ·have:=goal (ms.push { key:=vk,val:=vv,born:=O }) (O+1) (kxs++[key]) (vs++[v]) (fun hev=>⟨by
   simp only[v5h,v6h,v6i,v6j];exact(ARs.ev hev h.xlt _ _ p4).append ⟨_,_,rfl,AR.ev hev h.xlt (.p key) vk hk,rfl⟩,by
   simp only[v5h,v6h,v6i,v6j];exact(ARs.ev hev h.xlt _ _ p5).append ⟨_,_,rfl,AR.ev hev h.xlt v vv hv,rfl⟩⟩)
  refine⟨_,?_,this.1,this.2,rfl⟩;simp[Instr.mapUpdate,run_underlying hu,MapKept.run_getObj_map p3,hck,hfk,run_setObj_map _ p3]
 ·obtain⟨m1,m2⟩:=vai ms j e vk vv he hke;have:=goal (ms.modify j fun e=>{ e with key:=vk,val:=vv }) O kxs (vs.set j v) (fun hev=>⟨by
   rw[m1];exact ARs.ev hev h.xlt _ _ p4,by
   rw[m2];exact(ARs.ev hev h.xlt _ _ p5).set (AR.ev hev h.xlt v vv hv)⟩)
  refine⟨_,?_,this.1,this.2,rfl⟩;have hg:((ms[j]?).map (·.key)).getD vk=e.key:=by
   grind
  simp[Instr.mapUpdate,run_underlying hu,MapKept.run_getObj_map p3,hck,hfk,run_setObj_map _ p3,Instr.keyThatStays,hg,hsb]
theorem q2i(h:HR X inj σ w){k:Nat}{r:AV}{I:Upd}(hr:(qwa P k t).run σ=some (r,I)) :
  ∃val w' A,(Instr.makeMap t none).run P w=.ok val w'/\HR X A (upd σ I) w'/\Ev D X inj σ w A (upd σ I) w'/\AR X A (upd σ I) w' r val:=by
 unfold qwa viq at hr;split at hr
 case h_2=>simp at hr
 simp only[L.run]at hr;split at hr
 case h_2=>simp at hr
 rename_i g ho;simp only[L.run_ret,v7s,v7t]at hr;obtain⟨rfl,rfl⟩:=hr;have H:(w.alloc (.map #[] 0)).heap=w.heap.push (.map #[] 0):=rfl;have E:=h.update (D:=D) (w':=w.alloc (.map #[] 0)) (l:=k) (o:=σ k) (o':=.map (g+1) [] []) (x:=some (w.heap.size,0)) rfl rfl rfl rfl (fun _=>v7a _) (by rw[H];simp)
  (fun a ha=>by
   unfold World.frozen?
   grind)
  (fun q hq _=>by rw[H,Array.getElem?_push,if_neg (by omega)])
  (fun b1 Z h1=>by cases h1;exact .inl (v7a _)) ⟨by rw[ho];exact v7b _,fun _ O=>by rw[ho]at O;simp only[AO.gen]at O;omega⟩
 obtain⟨hev,J⟩:=E;refine⟨.map (some w.heap.size),_,_,rfl,J ⟨w.heap.size,0,#[],0,by simp,fun W=>?_,by rw[H];simp,rfl,rfl⟩,hev,?_⟩
 ·have:=h.xlt _ W;omega
 ·refine⟨⟨_,rfl⟩,fun o M=>?_⟩;have V:upd σ (some (k,.map (g+1) [] [])) k=.map (g+1) [] []:=qc1 _ _ _;rw[V]at M;subst M;refine⟨v7a _,fun _ ks vs U=>?_⟩
  grind
theorem vaj{cs:List AV}{vs:List Value}{off:Nat}{v:AV}(E:ARs X inj σ w cs vs)(h1:qbp vs)(A:q6v P t cs off=some v) :
  ∃val,(part t vs.toArray off).run P w=.ok val w/\AR X inj σ w v val:=by
 unfold q6v at A;split at A
 ·rename_i H;split at A
  ·rename_i M;simp only[v7s]at A;subst A;obtain⟨U,O,_⟩:=qhi H;refine⟨_,?_,qub ((E.drop off).take (P.cellsOf t)) fun u I=>h1 u (v6n (v6o I))⟩;simp only[part,v7w,qmf H,v7u,if_true,qo5 O,v7x]
   grind
  ·cases A
 ·rename_i H;obtain⟨u,I,J⟩:=E.get A;refine⟨u,?_,J⟩;simp only[part,v7w,qmf H,v7u,v5k,if_false];simp[I]
 ·cases A
theorem q68{s:TypeId}{f:Nat}{x v:AV}(M:AR X inj σ w x A)(hr:q6z P s f x=some v):∃val,(Instr.field s A f).run P w=.ok val w/\AR X inj σ w v val:=by
 unfold q6z at hr;split at hr
 case h_2=>cases hr
 rename_i I O;split at hr
 case h_2=>cases hr
 rename_i fd V;split at hr
 case isFalse=>cases hr
 rename_i H;simp only[v5i]at H;obtain⟨J,E⟩:=AR.cells_of H.1 M;obtain⟨val,h1,U⟩:=vaj (P:=P) J E hr;have e:=q6w H.2 M;refine⟨val,?_,U⟩;rw[e];simp only[Instr.field,v7w,run_underlying O,v7u,V,asAgg,v7x];exact h1
end Go.Ab
namespace Go.Ab
open Go
variable {D:Prop} {P:Program} {X:Nat->Prop} {inj:Inj} {σ:Nat->AO} {w:World}
theorem vcy(a b:List Value):flat (a++b)=flat a++flat b:=by simp[flat]
theorem vsf{sz:Nat}:∀{vs:List Value} (k:Nat),(∀v∈vs,v.cells.size=sz)->k<=vs.length->flat (vs.take k)=(flat vs).take (k*sz)
 |[],k,_,hk=>by simp at hk;subst hk;simp[flat]
 |v::vs,0,_,_=>by simp[flat]
 |v::vs,k+1,h,hk=>by
  have h1:v.cells.toList.length=sz:=by rw[v5f];exact h v (by simp)
  have E:=vsf (vs:=vs) k (fun u A=>h u (by simp[A])) (by simpa using hk);show v.cells.toList++flat (vs.take k)=(v.cells.toList++flat vs).take ((k+1)*sz);rw[E,v6w,h1,v6y (l:=v.cells.toList) (by rw[h1,v62];omega),show(k+1)*sz-sz=k*sz by rw[v62];omega]
theorem vsg{sz:Nat}:∀{vs:List Value} (k:Nat),(∀v∈vs,v.cells.size=sz)->k<=vs.length->flat (vs.drop k)=(flat vs).drop (k*sz)
 |[],k,_,hk=>by simp at hk;subst hk;simp[flat]
 |v::vs,0,_,_=>by simp[flat]
 |v::vs,k+1,h,hk=>by
  have h1:v.cells.toList.length=sz:=by rw[v5f];exact h v (by simp)
  have E:=vsg (vs:=vs) k (fun u A=>h u (by simp[A])) (by simpa using hk);show flat (vs.drop k)=(v.cells.toList++flat vs).drop ((k+1)*sz);rw[E,List.drop_append,h1,v5v (l:=v.cells.toList) (by rw[h1,v62];omega),v6r,show(k+1)*sz-sz=k*sz by rw[v62];omega]
theorem viy{z:AV}{A:Value}(h:AR X inj σ w z A):∀n,ARs X inj σ w (v6u n z) (v6u n A)
 |0=>rfl
 |n+1=>⟨A,v6u n A,rfl,h,viy h n⟩
theorem q2j(z:Value)(n:Nat):(Builtin.zeroCells z.cells n).toList=flat (v6u n z):=by
 apply v5y;intro k;have I:(flat (v6u n z)).length=n*z.cells.size:=by
  rw[qb1 (sz:=z.cells.size) (fun v H=>by rw[(v6q.1 H).2])];simp
 by_cases E:k<n*z.cells.size
 ·have A:0<z.cells.size:=v7j fun h=>by rw[h]at E;simp at E
  have U:k/z.cells.size<n:=v68 (by rw[v7g];exact E);have M:k%z.cells.size<z.cells.size:=v7f _ A;have J:k=k/z.cells.size*z.cells.size+k%z.cells.size:=by rw[v7g];exact(v67 k _).symm
  have O:(flat (v6u n z))[k]?=z.cells.toList[k%z.cells.size]?:=by
   conv=>lhs;rw[J]
   exact qra (sz:=z.cells.size) (fun v H=>by rw[(v6q.1 H).2]) (by rw[v58,if_pos U]) M
  rw[O];simp[Builtin.zeroCells,E,M]
 ·rw[v54 (by simp[Builtin.zeroCells];omega),v54 (by rw[I];omega)]
theorem q69(h:HR X inj σ w){t ty:TypeId}{x r:AV}{A:Value}{I:Upd}(hx:AR X inj σ w x A)(hr:(qu7 P t x).run σ=some (r,I)) :
  ∃val w',(Builtin.clear_ #[t] ty #[A]).run P w=.ok val w'/\HR X inj (upd σ I) w'/\Ev D X inj σ w inj (upd σ I) w'/\AR X inj (upd σ I) w' r val:=by
 unfold qu7 at hr;split at hr
 ·rename_i e l g off len H;simp only[L.run]at hr;split at hr
  case h_2=>simp at hr
  rename_i e' sz g' es ho;split at hr
  case isFalse=>simp at hr
  rename_i hc;obtain⟨rfl,rfl,rfl,hle⟩:=hc;split at hr
  case h_2=>simp at hr
  rename_i z hz;split at hr
  case isFalse=>simp at hr
  rename_i hok;simp only[L.run_ret,v7s,v7t]at hr;obtain⟨rfl,rfl⟩:=hr;obtain⟨vs,U,O,o3,o4⟩:=(ho▸h.obj l _ rfl:OR X inj σ w l (.arr e (P.cellsOf e) g es));obtain⟨i,E,hi,hz0,hzl,his,hib⟩:=qxv (by rw[hz];rfl:(qbm P e).isSome=true);have hzz:z=ofV E:=by
   unfold qbm at hz
   grind
  subst hzz;have haz:AR X inj σ w (ofV E) E:=qym E;simp only[qhb,v5i,beq_iff_eq]at hok;obtain⟨hk,hzsz⟩:=hok;obtain⟨_,hoz⟩:=AR.cells_of hk haz;have hzs:E.cells.size=P.cellsOf e:=by rw[qoe hk haz,hzsz]
  obtain⟨_,a2⟩:=hx;obtain⟨_,a3⟩:=a2 _ ho;obtain⟨_,a3⟩:=a3 rfl e (P.cellsOf e) es rfl;have V:es.length=vs.length:=U.length;by_cases hl0:len=0
  ·subst hl0;have hsame:upd σ (some (l,AO.arr e (P.cellsOf e) g (es.take off++v6u 0 (ofV E)++es.drop (off+0))))=σ:=by
    funext k;simp only[upd,qmz];by_cases hk:k=l
    ·subst hk;simp[ho]
    ·simp[hk]
   rw[hsame];refine⟨.tuple #[],w,?_,h,Ev.refl X inj σ w,⟨[],rfl,rfl⟩⟩;rcases a3 with⟨_,rfl,_,_⟩|⟨b,c,a,_,rfl,_,_⟩
   ·simp[Builtin.clear_,run_underlying H]
   ·cases a<;>simp[Builtin.clear_,run_underlying H]
  ·rcases a3 with⟨_,_,_,h4⟩|⟨b,c,a,a4,rfl,a5,a6⟩
   ·grind
   have ha:a=some ⟨b,off*P.cellsOf e,none⟩:=by
    grind
   subst ha;rcases o4 with⟨o4,_⟩|⟨M,c',cur,p1,p2,p3,p4,p5,p6,p7⟩
   ·grind
   rw[a4]at p1;cases p1;have hnews:(Builtin.zeroCells E.cells len).toList=flat (v6u len E):=q2j E len;have hrs:∀v∈v6u len E,v.cells.size=P.cellsOf e:=fun v hv=>by rw[(v6q.1 hv).2];exact hzs
   have W:(flat (v6u len E)).length=len*P.cellsOf e:=by rw[qb1 hrs,List.length_replicate]
   have hmul:(off+len)*P.cellsOf e<=vs.length*P.cellsOf e:=v7h _ (by omega);have hmul2:es.length*P.cellsOf e<=c*P.cellsOf e:=v7h _ p4;rw[V]at hmul2;rw[v62]at hmul;have Z:cur.toList.length=c*P.cellsOf e:=by rw[v5f,p6]
   have hone1:∀v∈flat (v6u len E),v.oneCell'=true:=fun v hv=>by
    obtain⟨u,H,hv⟩:=v6l.1 hv;rw[(v6q.1 H).2]at hv;exact hoz v hv
   have hst:=run_storeCells_at P b (off*P.cellsOf e) e (flat (v6u len E)) 0 cur w p3 (by rw[W,p6];omega) hone1;simp only[v65]at hst;have J:off*P.cellsOf e+(flat (v6u len E)).length<=cur.toList.length:=by rw[W,Z];omega
   have hup:=h.update (D:=D) (w':=w.setRow b (splice cur.toList (off*P.cellsOf e) (flat (v6u len E))).toArray) (l:=l) (o:=.arr e (P.cellsOf e) g es) (o':=.arr e (P.cellsOf e) g (es.take off++v6u len (ofV E)++es.drop (off+len))) (x:=inj l) ho rfl rfl rfl (fun _=>v7a _) (by simp)
    (fun a _=>frozen_setRow w b _ a) (fun k hk hne=>setRow_other w b k _ (fun e=>hne rfl c (by rw[e];exact a4)))
    (fun b1 c1 h1=>.inr ⟨rfl,c1,h1⟩) ⟨v7a _,fun _ _=>⟨rfl,.inl ⟨e,P.cellsOf e,es,_,rfl,rfl,by simp;omega⟩⟩⟩
   rw[quc]at hup;obtain⟨hev,hhr⟩:=hup;have hsz:∀v∈vs.take off++v6u len E++vs.drop (off+len),v.cells.size=P.cellsOf e:=fun v hv=>by
    grind
   refine⟨.tuple #[],_,?_,hhr ?_,hev,⟨[],rfl,rfl⟩⟩
   ·obtain⟨len',rfl⟩:∃m,len=m+1:=⟨len-1,by omega⟩;have hzv:(zeroValue e).run P w=.ok E w:=by simp[zeroValue,typeInfo,hi,hz0]
    have e1:(#[t]:Array TypeId)[0]?=some t:=rfl;have e2:(#[Value.slice (some ⟨b,off*P.cellsOf e,none⟩) (len'+1) (c-off)]:Array Value)[0]?=some (Value.slice (some ⟨b,off*P.cellsOf e,none⟩) (len'+1) (c-off)):=rfl;simp only[Builtin.clear_,e1,e2,v7w,run_underlying H,v7u,hzv,hnews];rw[hst];rfl
   ·refine⟨vs.take off++v6u len E++vs.drop (off+len),?_,hsz,?_,.inr ⟨b,c,_,a4,p2,setRow_heap w b cur _ e _ p3,?_,p5,?_,?_⟩⟩
    ·have e0:=ARs.ev hev h.xlt es vs U;have ez:=AR.ev hev h.xlt (ofV E) E haz;exact((e0.take off).append (viy ez len)).append (e0.drop (off+len))
    ·intro q hq;obtain⟨u,H,hq⟩:=v6l.1 hq;rcases v6k.1 H with H|H
     ·rcases v6k.1 H with H|H
      ·exact o3 q (v6l.2 ⟨u,v6o H,hq⟩)
      ·rw[(v6q.1 H).2]at hq;exact hoz q hq
     ·exact o3 q (v6l.2 ⟨u,v6n H,hq⟩)
    ·grind
    ·rw[v6v,qic _ _ _ J,Z]
    ·have hl2:(es.take off++v6u len (ofV E)++es.drop (off+len)).length=es.length:=by
      grind
     rw[hl2,vcy,vcy,vsf off O (by omega),vsg (off+len) O (by omega),<-p7];show(splice cur.toList (off*P.cellsOf e) (flat (v6u len E))).take (es.length*P.cellsOf e)=_;unfold splice;have h1:(cur.toList.take (off*P.cellsOf e)).length=off*P.cellsOf e:=by rw[v6g,Z];omega
     rw[v6w,v6w,v6b,h1,W];rw[v6y (show(cur.toList.take (off*P.cellsOf e)).length<=es.length*P.cellsOf e by rw[h1,V];omega)];rw[v6y (show(flat (v6u len E)).length<=es.length*P.cellsOf e-off*P.cellsOf e by rw[W,V];omega)];rw[List.take_take,Nat.min_eq_left (by rw[V];omega)];congr 1;rw[List.drop_take,v62]
 ·rename_i e H;simp only[L.run_ret,v7s,v7t]at hr;obtain⟨rfl,rfl⟩:=hr;simp only[AR]at hx;subst hx;exact⟨.tuple #[],w,by simp[Builtin.clear_,run_underlying H],h,Ev.refl X inj σ w,⟨[],rfl,rfl⟩⟩
 ·simp at hr
end Go.Ab
namespace Go.Ab
variable {D:Prop}
open Go
variable {P:Program} {X:Nat->Prop} {inj:Inj} {σ:Nat->AO} {w:World}
variable {Q:Exit->Act->World->Prop} {vparts:Array (Nat×Value)} {next:Act->World->Prop} {t:TypeId} {k:Nat} {w':World} {o:Oper} {a:Act}
theorem q7a(off:Nat)(v:Value)(cells:Array Value)(h:off+v.cells.size<=cells.size) :
  (v.cells.zipIdx.foldl (fun cs (x:Value×Nat)=>cs.setIfInBounds (off+x.2) x.1) cells).toList=splice cells.toList off v.cells.toList:=by
 have e:v.cells.zipIdx.foldl (fun cs (x:Value×Nat)=>cs.setIfInBounds (off+x.2) x.1) cells =
   (v.cells.toList.zipIdx 0).foldl (fun cs (x:Value×Nat)=>cs.setIfInBounds (off+x.2) x.1) cells:=by
  rw[<-Array.foldl_toList,Array.toList_zipIdx]
 rw[e];obtain⟨h1,A⟩:=Great.foldl_set off v.cells.toList 0 cells;apply v5y;intro k;rw[qmg _ _ _ (by simpa using h),Array.getElem?_toList,A k,v5f,v65]
 grind
inductive PartsR (X:Nat->Prop) (inj:Inj) (σ:Nat->AO) (w:World):List (Nat×AV)->List (Nat×Value)->Prop
 |nil:PartsR X inj σ w [] []
 |cons {i v val r rs} (h:AR X inj σ w v val) (t:PartsR X inj σ w r rs):PartsR X inj σ w ((i,v)::r) ((i,val)::rs)
theorem quf{A:Operand->AV}{a:Act}(hρ:∀x,AR X inj σ w (A x) (a.eval x)):∀(l:List (Nat×Operand)),PartsR X inj σ w (l.map fun p=>(p.1,A p.2)) (l.map fun p=>(p.1,a.eval p.2))
 |[]=>.nil
 |p::l=>.cons (hρ p.2) (quf hρ l)
theorem ARs.splice{cs A:List AV}{vs us:List Value}(h:ARs X inj σ w cs vs)(k:ARs X inj σ w A us)(o:Nat):ARs X inj σ w (Ab.splice cs o A) (Ab.splice vs o us):=by
 unfold Ab.splice;rw[<-k.length];exact((h.take o).append k).append (h.drop _)
theorem q4d{vs us:List Value}(h:qbp vs)(k:qbp us)(o:Nat):qbp (Ab.splice vs o us):=by
 intro c A;unfold Ab.splice at A;rcases v6k.1 A with A|A
 ·rcases v6k.1 A with A|A
  ·exact h c (v6o A)
  ·exact k c A
 ·exact h c (v6n A)
theorem qvi{H:Nat->Option (Nat×Nat)}:∀(parts:List (Nat×AV)) (vparts:List (Nat×Value)) (E I:List AV) (cells:Array Value),
  qkk H E parts=some I->PartsR X inj σ w parts vparts->ARs X inj σ w E cells.toList->qbp cells.toList ->
  ∃A,Instr.fill H cells vparts=some A/\ARs X inj σ w I A.toList/\qbp A.toList
 |[],_,E,I,cells,h,hp,hb,ho=>by
  cases hp;simp only[qkk,v7s]at h;subst h;exact⟨cells,rfl,hb,ho⟩
 | (i,v) :: parts,_,E,I,cells,h,hp,hb,ho=>by
  cases hp with
  |@cons _ _ val _ rs hv ht =>
  simp only[qkk]at h;split at h
  case h_2=>cases h
  rename_i off size O;split at h
  case isFalse=>cases h
  rename_i Z;simp only[v5i,beq_iff_eq,decide_eq_true_eq]at Z;obtain⟨⟨W,V⟩,hle⟩:=Z;obtain⟨M,U⟩:=AR.cells_of W hv;have hvs:val.cells.size=size:=by rw[qoe W hv,V]
  have hbl:E.length=cells.size:=by rw[hb.length];exact v5f
  have J:=q7a off val cells (by omega);obtain⟨A,h1,h2,h3⟩:=qvi parts rs _ I (val.cells.zipIdx.foldl (fun cs (x:Value×Nat)=>cs.setIfInBounds (off+x.2) x.1) cells) h ht
   (by rw[J];exact hb.splice M off) (by rw[J];exact q4d ho U off)
  refine⟨A,?_,h2,h3⟩;simp only[Instr.fill,O]
  grind
theorem q7b{parts:List (Nat×AV)}{v:AV}(hp:PartsR X inj σ w parts vparts.toList)(h:qhc P t parts=some v) :
  ∃val,(Instr.build t vparts).run P w=.ok val w/\AR X inj σ w v val:=by
 unfold qhc at h;split at h
 case h_3=>cases h
 case h_2 =>
  rename_i n e z hu H;split at h
  case isFalse=>cases h
  rename_i Z;simp only[v5i]at Z;obtain⟨hk,M⟩:=Z;unfold qbm at H;obtain⟨it,hit⟩:=qln (P:=P) hu;obtain⟨ie,M⟩:=v7p.1 M;rw[hit]at H;cases E:it.zero with
  |none=>simp[E]at H
  | some z0 =>
   simp[E]at H;subst H;have O:AR X inj σ w (ofV z0) z0:=qym z0;obtain⟨U,V⟩:=AR.cells_of hk O;cases W:qkk (fun i=>some (i*P.cellsOf e,P.cellsOf e)) (ofV z0).cells parts with
   |none=>rw[W]at h;cases h
   |some res =>
    rw[W]at h;simp only[v7r,v7s]at h;subst h;obtain⟨A,h1,h2,h3⟩:=qvi _ _ _ _ _ W hp U V;refine⟨.agg A,?_,by simpa using qub h2 h3⟩;refine run_build w t vparts A ?_;unfold Program.built;simp only[hit,hu,E,M];rw[<-h1];congr 1;funext i;simp[Program.cellsOf,M]
 rename_i I z hu H;split at h
 case isFalse=>cases h
 rename_i Z;simp only[v5i]at Z;obtain⟨hk,hall⟩:=Z;unfold qbm at H;obtain⟨it,hit⟩:=qln (P:=P) hu;rw[hit]at H;cases E:it.zero with
 |none=>simp[E]at H
 | some z0 =>
  simp[E]at H;subst H;have O:AR X inj σ w (ofV z0) z0:=qym z0;obtain⟨U,V⟩:=AR.cells_of hk O;cases W:qkk (qvg P I) (ofV z0).cells parts with
  |none=>rw[W]at h;cases h
  | some res =>
   rw[W]at h;simp only[v7r,v7s]at h;subst h;obtain⟨A,h1,h2,h3⟩:=qvi _ _ _ _ _ W hp U V;refine⟨.agg A,?_,by simpa using qub h2 h3⟩;refine run_build w t vparts A ?_;have J:∀l:List Field,(l.all fun f=>(P.info? f.type).isSome)=true->l.mapM (fun f=>(P.info? f.type).map fun i=>(f.offset,i.size))=some (l.map fun f=>(f.offset,P.cellsOf f.type)):=by
    intro l
    induction l with
    |nil=>intro _;rfl
    |cons f l ih =>
     intro hl;simp only[v5q,v5i]at hl;obtain⟨i,hi⟩:=v7p.1 hl.1;simp[List.mapM_cons,hi,ih hl.2,Program.cellsOf]
   unfold Program.built;simp only[hit,hu,E,J I.toList hall];rw[<-h1];congr 1;funext i;simp[qvg]
theorem q4e{mk:Nat->AO×AV}{r:AV}{u:Upd}(h:(viq k mk).run σ=some (r,u)):∃g,σ k=.dead g/\r=(mk (g+1)).2/\u=some (k,(mk (g+1)).1):=by
 unfold viq at h;have h:=qz7 h;split at h
 case h_2=>simp at h
 rename_i g ho;simp only[L.run_ret,v7s,v7t]at h
 grind
theorem q7c{l:List (Nat×Value)}:∀{n:Nat} (k:Nat),l.map (·.1)=List.range' k n->l=((l.map (·.2)).zipIdx k).map fun x=>(x.2,x.1):=by
 induction l with
 |nil=>intro n k _;rfl
 | cons p l ih =>
  intro n k h;cases n with
  |zero=>simp at h
  |succ n =>
   simp only[v6i,List.range'_succ,v5t.injEq]at h;simp only[v6i,List.zipIdx_cons]
   grind
theorem PartsR.fst:∀{ps:List (Nat×AV)} {vs:List (Nat×Value)},PartsR X inj σ w ps vs->ps.map (·.1)=vs.map (·.1)/\ARs X inj σ w (ps.map (·.2)) (vs.map (·.2))
 |_,_,.nil=>⟨rfl,rfl⟩
 |_,_,.cons h t=>⟨by simp[t.fst.1],⟨_,_,rfl,h,t.fst.2⟩⟩
theorem qqh(h:HR X inj σ w){len:Nat}{parts:List (Nat×AV)}{r:AV}{I:Upd}(hp:PartsR X inj σ w parts vparts.toList)
  (hr:(qid P k t len parts).run σ=some (r,I)) :
  ∃val w' H,(Instr.buildSlice t len vparts).run P w=.ok val w'/\HR X H (upd σ I) w'/\Ev D X inj σ w H (upd σ I) w'/\AR X H (upd σ I) w' r val:=by
 unfold qid at hr;split at hr
 case h_2=>simp at hr
 rename_i e hu;split at hr
 case isFalse=>simp at hr
 rename_i hc;obtain⟨O,hall,hsm,hpos,hmx,hzs⟩:=hc;obtain⟨g,ho,rfl,rfl⟩:=q4e hr;obtain⟨i,z,hi,hz,hzl',U,hib⟩:=qxv hzs;obtain⟨hf,J⟩:=hp.fst;obtain⟨V,hone⟩:=qk5 hall J;have A:(vparts.toList.map (·.2)).length=len:=by
  have:=congrArg List.length (hf▸O);simpa using this
 have W:(parts.map (·.2)).length=len:=by rw[J.length,A]
 have M:vparts.toList=((vparts.toList.map (·.2)).zipIdx 0).map fun x=>(x.2,x.1):=q7c 0 (by rw[<-hf,O,v6t])
 have E:(flat (vparts.toList.map (·.2))).length=len*P.cellsOf e:=by rw[qb1 V,A]
 have hrun:(Instr.buildSlice t len vparts).run P w=.ok (.slice (some ⟨w.heap.size,0,none⟩) len len) (w.alloc (.cells (flat (vparts.toList.map (·.2))).toArray e)):=by
  by_cases h0:len*P.cellsOf e=0
  ·have Z:len=0:=by
    rcases Nat.mul_eq_zero.1 h0 with h1|h1
    ·exact h1
    ·omega
   have hfl0:flat (vparts.toList.map (·.2))=[]:=v5x (by rw[E,h0]);have hv0:vparts.toList=[]:=v5x (by rw[Z]at A;simpa using A);have hv1:vparts=#[]:=by apply v5b;simpa using hv0
   subst Z;subst hv1;simp[Instr.buildSlice,run_underlying hu,sizeOf,typeInfo,hi,Instr.fill,newRow,flat]
   grind
  ·have hw:=Great.fill_whole (s:=P.cellsOf e) hpos (vparts.toList.map (·.2)) ((Array.range (len*P.cellsOf e)).map (z.cells[· % z.cells.size]!)) V (by rw[A];simp);rw[<-M]at hw;have:=run_buildSlice (P:=P) w t e len vparts _ i z hu hi hz (by rw[U];omega) (by rw[U];exact h0) (by rw[U];exact hw);rw[this];rfl
 have hal:=h.alloc (D:=D) (l:=k) (g':=g+1) (e:=e) (sz:=P.cellsOf e) (es:=parts.map (·.2)) (vs:=vparts.toList.map (·.2)) (w1:=w) (c:=len) (cur:=(flat (vparts.toList.map (·.2))).toArray) (.inl rfl)
  (by rw[ho];exact v7e _) J V hone (by rw[W];exact v7a _) (by simp only[maxLen];omega) (by simp[E]) (by rw[W,<-E];simp)
 exact⟨_,_,_,hrun,hal.1,hal.2,qo6 (inj:=fun j=>if j=k then some (w.heap.size,len) else inj j) (qc1 _ _ _) (by simp) (by rw[W];exact v7a _) (v7a _)⟩
theorem q2k(z:Value)(n:Nat):(madeCells z.cells (n*z.cells.size)).toList=flat (v6u n z):=by
 apply v5y;intro k;have I:(flat (v6u n z)).length=n*z.cells.size:=by
  rw[qb1 (sz:=z.cells.size) (fun v H=>by rw[(v6q.1 H).2])];simp
 by_cases E:k<n*z.cells.size
 ·have A:0<z.cells.size:=v7j fun h=>by rw[h]at E;simp at E
  have U:k/z.cells.size<n:=v68 (by rw[v7g];exact E);have M:k%z.cells.size<z.cells.size:=v7f _ A;have J:k=k/z.cells.size*z.cells.size+k%z.cells.size:=by rw[v7g];exact(v67 k _).symm
  have O:(flat (v6u n z))[k]?=z.cells.toList[k%z.cells.size]?:=by
   conv=>lhs;rw[J]
   exact qra (sz:=z.cells.size) (fun v H=>by rw[(v6q.1 H).2]) (by rw[v58,if_pos U]) M
  rw[O];simp[madeCells,E,M]
 ·rw[v54 (by simp[size_madeCells];omega),v54 (by rw[I];omega)]
theorem qy1(h:HR X inj σ w){l c r:AV}{Z vc:Value}{I:Upd}(hl:AR X inj σ w l Z)(hc:AR X inj σ w c vc)(hr:(qqf P k t l c).run σ=some (r,I)) :
  ∃val w' A,(Instr.makeSlice t Z vc).run P w=.ok val w'/\HR X A (upd σ I) w'/\Ev D X inj σ w A (upd σ I) w'/\AR X A (upd σ I) w' r val:=by
 unfold qqf at hr;split at hr
 case h_2=>simp at hr
 rename_i e k1 n k2 m hu;split at hr
 case h_2=>simp at hr
 rename_i z hz;split at hr
 case isFalse=>simp at hr
 rename_i hcnd;obtain⟨hn,rfl,E,hok⟩:=hcnd;obtain⟨g,ho,rfl,rfl⟩:=q4e hr;simp only[AR,PR]at hl hc;subst hl;subst hc;simp only[qu6,decide_eq_true_eq]at E;obtain⟨hby,h63⟩:=E;unfold qbm at hz;cases hi:P.info? e with
 |none=>simp[hi]at hz
 | some i =>
  cases J:i.zero with
  |none=>simp[hi,J]at hz
  | some z0 =>
   simp[hi,J]at hz;subst hz;have H:AR X inj σ w (ofV z0) z0:=qym z0;simp only[qhb,v5i,beq_iff_eq]at hok;obtain⟨hk,hsz⟩:=hok;obtain⟨_,hoz⟩:=AR.cells_of hk H;have V:z0.cells.size=P.cellsOf e:=by rw[qoe hk H,hsz]
   have M:i.size=P.cellsOf e:=by simp[Program.cellsOf,hi]
   have hib:i.bytes=P.bytesOf e:=by simp[Program.bytesOf,hi]
   have hnn:(n.toNat:Int)=n:=Int.toNat_of_nonneg hn;have hrun:=run_make (P:=P) w t e i z0 hu hi J k1 k2 n n hn (Int.le_refl _) (by
    grind) (by omega)
   have hars:ARs X inj σ w (v6u n.toNat (ofV z0)) (v6u n.toNat z0):=by
    generalize n.toNat=q
    induction q with
    |zero=>rfl
    |succ q ih=>exact⟨z0,v6u q z0,rfl,H,ih⟩
   have U:∀v∈v6u n.toNat z0,v.cells.size=P.cellsOf e:=fun v hv=>by rw[(v6q.1 hv).2,V]
   have hone:qbp (flat (v6u n.toNat z0)):=fun u hu=>by
    obtain⟨v,hv,O⟩:=v6l.1 hu;rw[(v6q.1 hv).2]at O;exact hoz u O
   have hcur:(madeCells z0.cells (n.toNat*i.size)).toList=flat (v6u n.toNat z0):=by rw[M,<-V];exact q2k z0 n.toNat
   have W:=h.alloc (D:=D) (l:=k) (g':=g+1) (e:=e) (sz:=P.cellsOf e) (es:=v6u n.toNat (ofV z0)) (vs:=v6u n.toNat z0) (w1:=w) (c:=n.toNat) (cur:=madeCells z0.cells (n.toNat*i.size)) (.inl rfl)
    (by rw[ho];exact v7e _) hars U hone (by simp) (by simp only[maxLen];omega) (by rw[size_madeCells,M]) (by
     rw[hcur];apply v6y;rw[qb1 U];simp)
   refine⟨_,_,_,hrun,W.1,W.2,?_⟩;have:=qo6 (inj:=fun j=>if j=k then some (w.heap.size,n.toNat) else inj j) (σ:=qmz σ k (.arr e (P.cellsOf e) (g+1) (v6u n.toNat (ofV z0)))) (len:=n.toNat) (b:=w.heap.size) (c:=n.toNat) (qc1 _ _ _) (by simp) (by simp) (v7a _);simpa[AR,upd] using this
theorem qvj{f:AV->AV->Option AV}{op:Value->Value->Sem Value}(E:∀x y v A H,AR X inj σ w x A->AR X inj σ w y H->f x y=some v->∃val,(op A H).run P w=.ok val w/\AR X inj σ w v val) :
  ∀(rest:List AV) (x v:AV) (A:Value) (vs:List Value),AR X inj σ w x A->ARs X inj σ w rest vs->ve8 f x rest=some v->∃val,(vs.foldlM op A).run P w=.ok val w/\AR X inj σ w v val
 |[],x,v,A,vs,hx,hr,h=>by
  simp only[ARs]at hr;subst hr;simp only[ve8,v7s]at h;subst h;exact⟨A,rfl,hx⟩
 |y::rest,x,v,A,vs,hx,hr,h=>by
  obtain⟨H,r,rfl,U,hr⟩:=hr;simp only[ve8]at h;split at h
  case h_2=>cases h
  rename_i z V;obtain⟨O,h1,I⟩:=E x y z A H hx U V;obtain⟨val,M,J⟩:=qvj E rest z v O r I hr h;exact⟨val,by simp[List.foldlM_cons,h1,M],J⟩
def OpOk(P:Program)(X:Nat->Prop)(o:Oper)(E:Operand->AV)(m:L (AV×Upd)):Prop :=
 ∀{inj:Inj} {σ:Nat->AO} {w:World} {a:Act} {v:AV} {u:Upd} {next:Act->World->Prop} {Q:Exit->Act->World->Prop},
  HR X inj σ w->(∀x,AR X inj σ w (E x) (a.eval x))->m.run σ=some (v,u) ->
  (∀val w' A,HR X A (upd σ u) w'->Ev True X inj σ w A (upd σ u) w'->AR X A (upd σ u) w' v val->next (a.put o.dst val) w')->o.wp P a w next Q
theorem qs6{s:Sem Value}{val:Value}
  (A:execOp a.eval o=(do pure (Next.value (<-s)))) (hr:s.run P w=.ok val w') (hn:next (a.put o.dst val) w'):o.wp P a w next Q:=by
 unfold Oper.wp;rw[A];simp only[v7w,hr,v7u,v7x,Oper.upon];exact hn
theorem vak{s:Sem Unit}
  (A:execOp a.eval o=(do s;pure Next.skip)) (hr:s.run P w=.ok () w') (hn:next (a.put o.dst undef) w'):o.wp P a w next Q:=by
 unfold Oper.wp;rw[A];simp only[v7w,hr,v7u,v7x,Oper.upon];exact hn
theorem q0c(at_:Array TypeId)(ty:TypeId)(cs:Array Bool)(args:Array Value):builtin .len at_ ty cs args=(do pure (Next.value (<-Builtin.len_ at_ ty args))):=rfl
theorem q4f(at_:Array TypeId)(ty:TypeId)(cs:Array Bool)(args:Array Value):builtin .clear at_ ty cs args=(do pure (Next.value (<-Builtin.clear_ at_ ty args))):=rfl
theorem q2l(at_:Array TypeId)(ty:TypeId)(cs:Array Bool)(args:Array Value):builtin .append at_ ty cs args=(do pure (Next.value (<-Builtin.append_ at_ ty args))):=rfl
theorem vam(at_:Array TypeId)(ty:TypeId)(cs:Array Bool)(args:Array Value):builtin .max at_ ty cs args=(do pure (Next.value (<-Builtin.max_ at_ ty args))):=rfl
theorem van(at_:Array TypeId)(ty:TypeId)(cs:Array Bool)(args:Array Value):builtin .min at_ ty cs args=(do pure (Next.value (<-Builtin.min_ at_ ty args))):=rfl
theorem qci{m:L AV}{v:AV}{u:Upd}(h:(qcu m).run σ=some (v,u)):m.run σ=some v/\u=none:=by
 unfold qcu at h;rw[L.run_bind']at h;cases A:m.run σ with
 |none=>rw[A]at h;cases h
 |some x =>
  rw[A]at h;simp only[v7m,L.run_ret,v7s,v7t]at h
  grind
theorem qrc{A:Operand->AV}{a:Act}(hρ:∀x,AR X inj σ w (A x) (a.eval x)):∀l:List Operand,ARs X inj σ w (l.map A) (l.map a.eval)
 |[]=>rfl
 |x::l=>⟨_,_,rfl,hρ x,qrc hρ l⟩
theorem q0d{x:AV}{A:Value}{i:Int}(h:qz4 x=some i)(E:AR X inj σ w x A):∃k,A=.int k i:=by
 unfold qz4 at h;split at h
 ·rename_i k n;simp only[v7s]at h;subst h;exact⟨k,E⟩
 ·cases h
set_option maxHeartbeats 1000000 in
theorem viz (B:Nat) (o:Oper) (ρ:Operand->AV):OpOk P X o ρ (aop P B ρ o):=by
 intro inj σ w a v u next Q h hρ hr hn
 obtain⟨dst,op,type,pos,after,guard⟩:=o
 have quiet:∀{s:Sem Value} {val:Value},execOp a.eval ⟨dst,op,type,pos,after,guard⟩=(do pure (Next.value (<-s)))->s.run P w=.ok val w->u=none->AR X inj σ w v val ->
   (Oper.mk dst op type pos after guard).wp P a w next Q:=by
  intro s val he hs hu ha
  subst hu
  exact qs6 he hs (hn val w inj h (Ev.refl X inj σ w) ha)
 cases op<;>(first|(cases hr;done)|skip)
 all_goals simp only[aop]at hr
 case move x =>
  simp only[L.run_ret,v7s,v7t]at hr
  obtain⟨rfl,rfl⟩:=hr
  unfold Oper.wp
  exact hn _ w inj h (Ev.refl X inj σ w) (hρ x)
 case assign x =>
  simp only[L.run_ret,v7s,v7t]at hr
  obtain⟨rfl,rfl⟩:=hr
  unfold Oper.wp
  exact hn _ w inj h (Ev.refl X inj σ w) (hρ x)
 case pick c x y =>
  split at hr
  case h_2=>simp at hr
  rename_i t hc
  simp only[L.run_ret,v7s,v7t]at hr
  obtain⟨rfl,rfl⟩:=hr
  have h1:=hρ c
  rw[hc]at h1
  simp only[AR,PR]at h1
  have hrun:(execOp a.eval ⟨dst,.pick c x y,type,pos,after,guard⟩).run P w=.ok (.value (if t then a.eval x else a.eval y)) w:=by
   simp[execOp,h1,asBool]
  unfold Oper.wp
  rw[hrun]
  refine hn _ w inj h (Ev.refl X inj σ w) ?_
  cases t
  ·exact hρ y
  ·exact hρ x
 case alloc t =>
  split at hr
  case h_2=>simp at hr
  rename_i z hz
  split at hr
  case isFalse=>simp at hr
  unfold qbm at hz
  cases hi:P.info? t with
  |none=>simp[hi]at hz
  | some i =>
   cases hzz:i.zero with
   |none=>simp[hi,hzz]at hz
   |some z0 =>
    simp[hi,hzz]at hz
    subst hz
    obtain⟨inj',h1,h2,h3⟩:=q28 (P:=P) h (qym z0) hr
    refine qs6 (s:=Instr.alloc t true (.tuple #[])) rfl ?_ (hn _ _ _ h1 h2 h3)
    simp[Instr.alloc,zeroValue,typeInfo,hi,hzz,newVar,newRow]
 case box t x =>
  obtain⟨inj',h1,h2,h3⟩:=q28 (P:=P) h (hρ x) hr
  refine qs6 (s:=Instr.box t (a.eval x)) rfl ?_ (hn _ _ _ h1 h2 h3)
  simp[Instr.box,newVar,newRow]
 case build t parts =>
  obtain⟨hr,hu⟩:=qci hr
  rw[L.run_ofOpt]at hr
  obtain⟨val,h1,h2⟩:=q7b (P:=P) (vparts:=parts.map fun p=>(p.1,a.eval p.2)) (by simpa using quf hρ parts.toList) hr
  have e:(parts.map fun p=>(p.1,a.eval p.2))=(parts.map fun(i,x)=>(i,a.eval x)):=rfl
  rw[e]at h1
  have he:execOp a.eval ⟨dst,.build t parts,type,pos,after,guard⟩=(do pure (Next.value (<-Instr.build t (parts.map fun(i,x)=>(i,a.eval x))))):=by
   simp only[execOp]
  grind
 case buildSlice t len parts =>
  obtain⟨val,w',inj',h1,h2,h3,h4⟩:=qqh (P:=P) h (vparts:=parts.map fun p=>(p.1,a.eval p.2)) (by simpa using quf hρ parts.toList) hr
  have e:(parts.map fun p=>(p.1,a.eval p.2))=(parts.map fun(i,x)=>(i,a.eval x)):=rfl
  rw[e]at h1
  have he:execOp a.eval ⟨dst,.buildSlice t len parts,type,pos,after,guard⟩=(do pure (Next.value (<-Instr.buildSlice t len (parts.map fun(i,x)=>(i,a.eval x))))):=by
   simp only[execOp]
  exact qs6 he h1 (hn _ _ _ h2 h3 h4)
 case load t x =>
  obtain⟨hr,hu⟩:=qci hr
  obtain⟨val,h1,h2⟩:=qvf (P:=P) h (hρ x) hr
  exact quiet (s:=Instr.loadAt t (a.eval x)) rfl h1 hu h2
 case store t x y =>
  obtain⟨w',h1,h2,h3,rfl⟩:=q6x (P:=P) h (hρ x) (hρ y) hr
  exact vak (s:=Instr.storeAt t (a.eval x) (a.eval y)) rfl h1 (hn _ _ _ h2 h3 trivial)
 case binOp op t x y yt =>
  obtain⟨hr,hu⟩:=qci hr
  rw[L.run_ofOpt]at hr
  obtain⟨val,h1,h2⟩:=vfb (P:=P) (ox:=x) (oy:=y) (hρ x) (hρ y) hr
  exact quiet (s:=do eqGuard op t x y (a.eval x) (a.eval y);binOp op t (a.eval x) (a.eval y)) rfl h1 hu h2
 case unOp op t x =>
  obtain⟨hr,hu⟩:=qci hr
  rw[L.run_ofOpt]at hr
  obtain⟨val,h1,h2⟩:=viw (P:=P) (hρ x) hr
  exact quiet (s:=Op.unary op (a.eval x)) rfl h1 hu h2
 case convert s d x =>
  obtain⟨hr,hu⟩:=qci hr
  obtain⟨val,h1,h2⟩:=q63 (P:=P) h (hρ x) hr
  exact quiet (s:=convert s d (a.eval x)) rfl h1 hu h2
 case makeFunc fn first captured =>
  split at hr
  case isFalse =>
   split at hr
   case isFalse=>simp at hr
   rename_i hc
   have hc0:captured=#[]:=v5a hc
   subst hc0
   unfold vos at hr
   split at hr
   case h_2=>simp at hr
   rename_i xs hx
   simp only[L.run_ret,v7s,v7t]at hr
   obtain⟨rfl,rfl⟩:=hr
   have hm:=qrc hρ first.toList
   rw[qve hx]at hm
   refine quiet (s:=Instr.makeFunc fn (first.map a.eval) ((#[]:Array Operand).map a.eval)) rfl (val:=.func fn (first.map a.eval) #[]) ?_ rfl ?_
   ·simp[Instr.makeFunc]
   ·have e:(first.toList.map a.eval).toArray=first.map a.eval:=by apply v5b;simp
    exact⟨first.toList.map a.eval,by rw[e],qby.1 hm⟩
  rename_i hf
  simp only[L.run_ret,v7s,v7t]at hr
  obtain⟨rfl,rfl⟩:=hr
  have hf0:first=#[]:=v5a hf
  subst hf0
  have hm:=vir (fn:=fn) (qrc hρ captured.toList)
  refine quiet (s:=Instr.makeFunc fn ((#[]:Array Operand).map a.eval) (captured.map a.eval)) rfl (val:=.func fn #[] (captured.map a.eval)) ?_ rfl ?_
  ·simp[Instr.makeFunc]
  ·have e:(captured.toList.map a.eval).toArray=captured.map a.eval:=by apply v5b;simp
   grind
 case makeMap t r =>
  cases r with
  |some r=>simp[aop]at hr
  |none =>
   simp only[aop]at hr
   obtain⟨val,w',inj',h1,h2,h3,h4⟩:=q2i (P:=P) h hr
   exact qs6 (s:=Instr.makeMap t none) rfl h1 (hn _ _ _ h2 h3 h4)
 case lookup t m k c =>
  obtain⟨hr,hu⟩:=qci hr
  obtain⟨val,h1,h2⟩:=q4b (P:=P) h (hρ m) (hρ k) hr
  exact quiet (s:=Instr.lookup t (a.eval m) (a.eval k) c) rfl h1 hu h2
 case mapUpdate t m k x =>
  obtain⟨w',h1,h2,h3,rfl⟩:=qwe (P:=P) h (hρ m) (hρ k) (hρ x) hr
  exact vak (s:=Instr.mapUpdate t (a.eval m) (a.eval k) (a.eval x)) rfl h1 (hn _ _ _ h2 h3 trivial)
 case insert t m k x =>
  obtain⟨w',h1,h2,h3,rfl⟩:=qwe (P:=P) h (hρ m) (hρ k) (hρ x) hr
  exact vak (s:=Instr.mapUpdate t (a.eval m) (a.eval k) (a.eval x)) rfl h1 (hn _ _ _ h2 h3 trivial)
 case field s x f =>
  obtain⟨hr,hu⟩:=qci hr
  rw[L.run_ofOpt]at hr
  obtain⟨val,h1,h2⟩:=q68 (P:=P) (hρ x) hr
  exact quiet (s:=Instr.field s (a.eval x) f) rfl h1 hu h2
 case nilCheck x =>
  obtain⟨hr,hu⟩:=qci hr
  rw[L.run_ofOpt]at hr
  have hx:=hρ x
  have hp:∃b,a.eval x=.pointer (some b):=by
   generalize ρ x=y at*
   unfold vz8 at hr
   split at hr
   ·exact hx.1
   ·simp only[AR,PR]at hx
    grind
   ·cases hr
  have hv:v=ρ x:=by
   generalize ρ x=y at*
   unfold vz8 at hr
   grind
  obtain⟨b,hb⟩:=hp
  have hrun:(execOp a.eval ⟨dst,.nilCheck x,type,pos,after,guard⟩).run P w=.ok (.value (a.eval x)) w:=by
   simp[execOp,hb]
  subst hu
  unfold Oper.wp
  rw[hrun]
  refine hn _ w inj h (Ev.refl X inj σ w) ?_
  rw[hv];exact hx
 case makeSlice t l c =>
  obtain⟨val,w',inj',h1,h2,h3,h4⟩:=qy1 (P:=P) h (hρ l) (hρ c) hr
  exact qs6 (s:=Instr.makeSlice t (a.eval l) (a.eval c)) rfl h1 (hn _ _ _ h2 h3 h4)
 case slice t x lo hi mx =>
  cases mx with
  |some m =>
   cases lo with
   |some l=>simp[aop]at hr
   |none =>
   cases hi with
   |none=>simp[aop]at hr
   |some hi =>
   simp only[aop]at hr
   split at hr
   case h_2=>simp at hr
   rename_i e es k1 hh k2 mm hu hxe hhe hme
   split at hr
   case isFalse=>simp at hr
   rename_i hc
   obtain⟨rfl,c2,c3,c4⟩:=hc
   obtain⟨hr,hu2⟩:=qci hr
   simp only[L.run_ret,v7s]at hr
   subst hr
   have hx:=hρ x
   have h1:=hρ hi
   have h2:=hρ m
   rw[hxe]at hx
   rw[hhe]at h1
   rw[hme]at h2
   obtain⟨val,q1,q2⟩:=q64 (P:=P) (w:=w) hu c4 hx h1 h2 c2 c3
   exact quiet (s:=Instr.sliceAt t (a.eval x) none (some (a.eval hi)) (some (a.eval m))) rfl q1 hu2 q2
  | none =>
   simp only[aop]at hr
   split at hr
   ·rename_i l hh hu hl hhi
    split at hr
    case h_2=>simp at hr
    rename_i s hs
    obtain⟨hr,hu2⟩:=qci hr
    obtain⟨kl,el⟩:=qo7 hl hρ
    obtain⟨kh,eh⟩:=qo7 hhi hρ
    have hx:=hρ x
    rw[hs]at hx hr
    simp only[AR,PR]at hx
    obtain⟨val,h1,h2⟩:=q2h (P:=P) (X:=X) (inj:=inj) (w:=w) hu el eh hr
    refine quiet (s:=Instr.sliceAt t (a.eval x) (lo.map a.eval) (hi.map a.eval) none) rfl ?_ hu2 h2
    grind
   ·rename_i e l hh hu hl hhi
    split at hr
    case h_1=>simp at hr
    rename_i hs
    split at hr
    case isFalse=>simp at hr
    rename_i hok
    obtain⟨hr,hu2⟩:=qci hr
    obtain⟨kl,el⟩:=qo7 hl hρ
    obtain⟨kh,eh⟩:=qo7 hhi hρ
    obtain⟨val,h1,h2⟩:=q65 (P:=P) h hu hok (hρ x) (fun s hxs=>hs s hxs) el eh hr
    exact quiet (s:=Instr.sliceAt t (a.eval x) (lo.map a.eval) (hi.map a.eval) none) rfl h1 hu2 h2
   ·simp at hr
 case fieldAddr s x f =>
  obtain⟨hr,hu⟩:=qci hr
  rw[L.run_ofOpt]at hr
  obtain⟨val,h1,h2⟩:=qsd (P:=P) (hρ x) hr
  exact quiet (s:=Instr.fieldAt s (a.eval x) f) rfl h1 hu h2
 case indexAddr t x ix =>
  split at hr
  case h_2=>simp at hr
  rename_i i hi
  obtain⟨k,hk⟩:=q0d hi (hρ ix)
  obtain⟨hr,hu⟩:=qci hr
  obtain⟨val,h1,h2⟩:=qy0 (P:=P) (k:=k) (hρ x) hr
  refine quiet (s:=Instr.indexAt t (a.eval x) (a.eval ix)) rfl ?_ hu h2
  grind
 case index t x ix =>
  split at hr
  case h_2=>simp at hr
  rename_i i hi
  obtain⟨k,hk⟩:=q0d hi (hρ ix)
  obtain⟨hr,hu⟩:=qci hr
  rw[L.run_ofOpt]at hr
  obtain⟨val,h1,h2⟩:=q62 (P:=P) (k:=k) (hρ x) hr
  refine quiet (s:=Instr.index t (a.eval x) (a.eval ix)) rfl ?_ hu h2
  grind
 case extract x i =>
  have hx:=hρ x
  split at hr
  ·rename_i vs hvs
   obtain⟨hr,hu⟩:=qci hr
   rw[L.run_ofOpt]at hr
   rw[hvs]at hx
   obtain⟨us,hus,h1⟩:=hx
   cases hv:vs[i]? with
   |none=>rw[hv]at hr;cases hr
   |some y =>
    rw[hv]at hr
    simp only[v7r,v7s]at hr
    subst hr
    obtain⟨z,hz,hpz⟩:=h1.get hv
    refine quiet (s:=Instr.extract (a.eval x) i) rfl (val:=z) ?_ hu hpz
    rw[hus]
    simp[Instr.extract,hz]
  ·rename_i vs hvs
   obtain⟨hr,hu⟩:=qci hr
   rw[L.run_ofOpt]at hr
   rw[hvs]at hx
   obtain⟨us,hus,h1⟩:=hx
   obtain⟨z,hz,hpz⟩:=h1.get hr
   refine quiet (s:=Instr.extract (a.eval x) i) rfl (val:=z) ?_ hu hpz
   rw[hus]
   simp[Instr.extract,hz]
  ·simp at hr
 case call c =>
  obtain⟨callee,args,argTypes⟩:=c
  cases callee with
  |value f=>simp[aop]at hr
  |invoke r m=>simp[aop]at hr
  | builtin b =>
   have res:∀s:Sem Value,(∀cs,builtin b argTypes type cs (args.map a.eval)=(do pure (Next.value (<-s))))->(execOp a.eval ⟨dst,.call ⟨.builtin b,args,argTypes⟩,type,pos,after,guard⟩).run P w=((do pure (Next.value (<-s)):Sem Next)).run P w:=by
    intro s hs
    simp only[execOp,resolve,v7w,v7x,v7u,invoke]
    rw[hs _]
    simp
   have fin:∀{s:Sem Value} {val:Value} {w':World} {inj':Inj},(∀cs,builtin b argTypes type cs (args.map a.eval)=(do pure (Next.value (<-s))))->s.run P w=.ok val w'->HR X inj' (upd σ u) w'->Ev True X inj σ w inj' (upd σ u) w'->AR X inj' (upd σ u) w' v val ->
     (Oper.mk dst (.call ⟨.builtin b,args,argTypes⟩) type pos after guard).wp P a w next Q:=by
    intro s val w' inj' hb hs h1 h2 h3
    unfold Oper.wp
    rw[res s hb]
    simp only[v7w,hs,v7u,v7x,Oper.upon]
    grind
   cases b<;>(first|(cases hr;done)|skip)
   all_goals simp only[aop]at hr
   case len =>
    split at hr
    case h_2=>simp at hr
    rename_i x t hxs hts
    split at hr
    case isFalse=>simp at hr
    obtain⟨hr,hu⟩:=qci hr
    obtain⟨val,h1,h2⟩:=q3c (P:=P) (ty:=type) h (hρ x) hr
    have e1:args=#[x]:=by apply v5b;simpa using hxs
    have e2:argTypes=#[t]:=by apply v5b;simpa using hts
    subst hu e1 e2
    exact fin (s:=Builtin.len_ #[t] type ((#[x]:Array Operand).map a.eval)) (fun _=>q0c _ _ _ _) (by simpa using h1) h (Ev.refl X inj σ w) h2
   case append =>
    split at hr
    case h_2=>simp at hr
    rename_i s x t t' hxs hts
    split at hr
    case isFalse=>simp at hr
    rename_i htt
    subst htt
    obtain⟨val,w',inj',h1,h2,h3,h4⟩:=q38 (P:=P) (ty:=type) h (hρ s) (hρ x) hr
    have e1:args=#[s,x]:=by apply v5b;simpa using hxs
    have e2:argTypes=#[t,t]:=by apply v5b;simpa using hts
    subst e1 e2
    exact fin (s:=Builtin.append_ #[t,t] type ((#[s,x]:Array Operand).map a.eval)) (fun _=>q2l _ _ _ _) (by simpa using h1) h2 h3 h4
   case clear =>
    split at hr
    case h_2=>simp at hr
    rename_i x t hxs hts
    obtain⟨val,w',h1,h2,h3,h4⟩:=q69 (P:=P) (ty:=type) h (hρ x) hr
    have e1:args=#[x]:=by apply v5b;simpa using hxs
    have e2:argTypes=#[t]:=by apply v5b;simpa using hts
    subst e1 e2
    exact fin (s:=Builtin.clear_ #[t] type ((#[x]:Array Operand).map a.eval)) (fun _=>q4f _ _ _ _) (by simpa using h1) h2 h3 h4
   case max =>
    obtain⟨hr2,hu⟩:=qci hr
    rw[L.run_ofOpt]at hr2
    clear hr
    subst hu
    cases hl:args.toList with
    |nil=>rw[hl]at hr2;cases hr2
    | cons x rest =>
     rw[hl]at hr2
     obtain⟨val,h1,h2⟩:=qvj (P:=P) (w:=w) (f:=vis) (op:=Builtin.max2) (fun x y v vx vy hx hy hf=>by
      unfold vis at hf
      split at hf
      ·simp only[v7s]at hf;subst hf
       simp only[AR,PR]at hx hy;subst hx hy
       exact⟨_,rfl,rfl⟩
      ·cases hf) (rest.map ρ) (ρ x) v (a.eval x) (rest.map a.eval) (hρ x) (qrc hρ rest) hr2
     refine fin (s:=Builtin.max_ argTypes type (args.map a.eval)) (fun _=>vam _ _ _ _) (val:=val) ?_ h (Ev.refl X inj σ w) h2
     simp[Builtin.max_,hl,h1]
   case min =>
    obtain⟨hr2,hu⟩:=qci hr
    rw[L.run_ofOpt]at hr2
    clear hr
    subst hu
    cases hl:args.toList with
    |nil=>rw[hl]at hr2;cases hr2
    | cons x rest =>
     rw[hl]at hr2
     obtain⟨val,h1,h2⟩:=qvj (P:=P) (w:=w) (f:=vit) (op:=Builtin.min2) (fun x y v vx vy hx hy hf=>by
      unfold vit at hf
      split at hf
      ·simp only[v7s]at hf;subst hf
       simp only[AR,PR]at hx hy;subst hx hy
       exact⟨_,rfl,rfl⟩
      ·cases hf) (rest.map ρ) (ρ x) v (a.eval x) (rest.map a.eval) (hρ x) (qrc hρ rest) hr2
     refine fin (s:=Builtin.min_ argTypes type (args.map a.eval)) (fun _=>van _ _ _ _) (val:=val) ?_ h (Ev.refl X inj σ w) h2
     simp[Builtin.min_,hl,h1]
end Go.Ab
namespace Go.Ab
variable {D:Prop}
open Go
variable {ops:Array Oper} {c:Code} {rest:List Oper} {o:Oper} {id:Nat} {fn:Func} {b:Bool}
def qav:List (Nat×AO)->Nat->AO
 |[],_=>.dead 0
 |(k,o)::r,l=>if k=l then o else qav r l
def qo8(h:List (Nat×AO))(k:Nat)(o:AO):List (Nat×AO):=(k,o)::h
structure Cx where
 P:Program
 N:Nat
 B:Nat
 X:Nat->Prop
 H0:List (Nat×AO)
 inj0:Inj
 w0:World
 D:Prop
 tab:TabOk P (fun b=>X b\/F inj0 (qav H0) b) w0
structure St where
 env:Env
 heap:List (Nat×AO)
abbrev St.sig(st:St):Nat->AO:=qav st.heap
structure SR(C:Cx)(st:St)(inj:Inj)(a:Act)(w:World):Prop where
 env:∀t,AR C.X inj st.sig w (st.env.get t) (a.tmps.getD t undef)
 size:a.tmps.size=C.N
 defers:a.defers=[]
 hr:HR C.X inj st.sig w
 ev:Ev C.D C.X C.inj0 (qav C.H0) C.w0 inj st.sig w
def vn7(C:Cx)(Q:Exit->St->Prop):Exit->Act->World->Prop:=fun ex a w=>∃st inj,SR C st inj a w/\Q ex st
def AWp(C:Cx)(c:Code)(Q:Exit->St->Prop)(st:St):Prop:=∀inj a w,SR C st inj a w->c.wp C.P (vn7 C Q) a w
def AL(C:Cx)(ops:Array Oper)(l:List Oper)(Q:Exit->St->Prop)(st:St):Prop:=∀inj a w,SR C st inj a w->wpList C.P ops (vn7 C Q) l a w
variable {C:Cx} {Q:Exit->St->Prop} {st:St} {inj:Inj} {a:Act} {w:World}
theorem qs7(h:List (Nat×AO))(k:Nat)(o:AO):qav (qo8 h k o)=qmz (qav h) k o:=by
 funext l;simp only[qo8,qav,qmz]
 grind
def qfa(env:Env)(d:Option Tmp)(v:AV):Env:=match d with
 |some t=>(t,v)::env
 |none=>env
def qut(h:List (Nat×AO)):Upd->List (Nat×AO)
 |none=>h
 |some (l,o)=>qo8 h l o
theorem qs8(h:List (Nat×AO))(u:Upd):qav (qut h u)=upd (qav h) u:=by
 cases u with
 |none=>rfl
 |some p=>exact qs7 h p.1 p.2
def qb2(N:Nat)(o:Oper):Bool:=match o.dst with
 |some d=>decide (d<N)
 |none=>true
theorem qo9{C:Cx}{σ:Nat->AO}{inj:Inj}{w:World}(ev:Ev C.D C.X C.inj0 (qav C.H0) C.w0 inj σ w):TabOk C.P (fun b=>C.X b\/F inj σ b) w :=
 C.tab.keep ⟨ev.size,fun b H A=>ev.blk b H fun E=>A (.inr E),fun b H A hn=>hn.elim (fun h=>A (.inl h)) fun E=>(ev.fp b E).elim (fun h=>A (.inr h)) fun h=>by omega⟩
theorem SR.eval(h:SR C st inj a w)(x:Operand):AR C.X inj st.sig w (Ab.ev st.env x) (a.eval x):=by
 cases x with
 |tmp t=>exact h.env t
 |const v=>exact qym v
 |global g=>trivial
 |func f=>exact⟨[],rfl,rfl⟩
theorem SR.put(h:SR C st inj a w){o:Oper}(M:qb2 C.N o=true){v:AV}{val:Value}{u:Upd}{A:Inj}{w':World}
  (h1:HR C.X A (upd st.sig u) w') (H:Ev C.D C.X inj st.sig w A (upd st.sig u) w') (O:AR C.X A (upd st.sig u) w' v val) :
  SR C ⟨qfa st.env o.dst v,qut st.heap u⟩ A (a.put o.dst val) w':=by
 have I:(St.mk (qfa st.env o.dst v) (qut st.heap u)).sig=upd st.sig u:=qs8 _ _;refine⟨fun t=>?_,?_,?_,by rw[I];exact h1,by rw[I];exact h.ev.trans H⟩
 ·rw[I];cases E:o.dst with
  |none=>simpa[qfa,Act.put] using AR.ev H h.hr.xlt _ _ (h.env t)
  | some d =>
   simp only[qb2,E,decide_eq_true_eq]at M;simp only[qfa,Act.put,Env.get];by_cases J:d=t
   ·subst J;rw[if_pos rfl];have:(a.tmps.setIfInBounds d val).getD d undef=val:=by simp[h.size,M]
    grind
   ·rw[if_neg J];have:(a.tmps.setIfInBounds d val).getD t undef=a.tmps.getD t undef:=by simp[v5e J]
    rw[this];exact AR.ev H h.hr.xlt _ _ (h.env t)
 ·cases E:o.dst<;>simp[Act.put,h.size]
 ·cases E:o.dst<;>simp[Act.put,h.defers]
def qbh(ops:Array Oper)(env:Env)(o:Oper):Option Bool :=
 match o.guard with
 |none=>some true
 |some (j,want)=>match (ops[j]?).bind (·.dst) with
  |some d=>(match env.get d with|.p (.bool b)=>some (b==want)|.p (.tup [])=>some false|_=>none)
  |none=>none
theorem qb3(h:SR C st inj a w)(A:qbh ops st.env o=some b):Region.wanted o (yielded ops a.tmps)=b:=by
 unfold qbh at A;unfold Region.wanted;split at A
 ·grind
 ·rename_i j I U;rw[U];split at A
  ·rename_i d V;have E:=h.env d;split at A
   ·rename_i M O;simp only[v7s]at A;subst A;rw[O]at E;simp only[AR,PR]at E;have H:a.tmps[d]?=some (.bool M):=by
     cases J:a.tmps[d]? with
     |none=>simp[J,undef]at E
     |some x=>simp[J]at E;rw[E]
    simp only[yielded,V,v7m,H]
    grind
   ·rename_i O;simp only[v7s]at A;subst A;rw[O]at E;obtain⟨vs,E,_⟩:=E;have H:a.tmps[d]?=none\/a.tmps[d]?=some (.tuple vs.toArray):=by
     cases J:a.tmps[d]? with
     |none=>exact .inl rfl
     |some x=>simp[J]at E;exact .inr (by rw[E])
    rcases H with H|H<;>simp only[yielded,V,v7m,H]<;>cases I<;>rfl
   ·cases A
  ·cases A
theorem qwf(h:Q .normal st):AL C ops [] Q st:=fun inj a w A=>⟨st,inj,A,h⟩
theorem vz9{m:L (AV×Upd)}{v:AV}{u:Upd}(J:qbh ops st.env o=some true)(M:qb2 C.N o=true)
  (H:OpOk C.P C.X o (ev st.env) m) (hr:m.run st.sig=some (v,u)) (h:AL C ops rest Q ⟨qfa st.env o.dst v,qut st.heap u⟩):AL C ops (o::rest) Q st:=by
 intro inj a w E;simp only[wpList,qb3 E J,if_true];exact .inl (H E.hr (fun x=>E.eval x) hr fun val w' A h1 I O=>h A _ _ (E.put M h1 I.weak O))
theorem vi0(H:qbh ops st.env o=some false)(E:qb2 C.N o=true)
  (h:AL C ops rest Q ⟨qfa st.env o.dst (.p (.tup [])),st.heap⟩):AL C ops (o::rest) Q st:=by
 intro inj a w A;simp only[wpList,qb3 A H,v5k,if_false];exact h inj _ _ (A.put (u:=none) E A.hr (Ev.refl _ _ _ _) ⟨[],rfl,rfl⟩)
inductive Go1 where
 |on (v:AV) (u:Upd)
 |stop
def go1(P:Program)(N B:Nat)(ops:Array Oper)(o:Oper)(st:St):Go1 :=
 if qb2 N o then
  match qbh ops st.env o with
  |some true=>(match (aop P B (ev st.env) o).run st.sig with
   |some (v,u)=>.on v u
   |none=>.stop)
  |some false=>.on (.p (.tup [])) none
  |none=>.stop
 else .stop
def qse(P:Program)(N B:Nat)(ops:Array Oper):List Oper->St->St×List Oper
 |[],st=>(st,[])
 |o::rest,st =>
  match go1 P N B ops o st with
  |.on v u=>qse P N B ops rest ⟨qfa st.env o.dst v,qut st.heap u⟩
  |.stop=>(st,o::rest)
def vi1(P:Program)(N B:Nat)(ops:Array Oper)(o:Oper)(rest:List Oper)(st:St):Go1->St×List Oper
 |.on v u=>qse P N B ops rest ⟨qfa st.env o.dst v,qut st.heap u⟩
 |.stop=>(st,o::rest)
theorem q0e(P:Program)(N B:Nat)(ops:Array Oper)(o:Oper)(rest:List Oper)(st:St):qse P N B ops (o::rest) st=vi1 P N B ops o rest st (go1 P N B ops o st):=by
 simp only[qse,vi1]
theorem vcz(P:Program)(N B:Nat)(ops:Array Oper)(o:Oper)(rest:List Oper)(st:St)(v:AV)(u:Upd):vi1 P N B ops o rest st (.on v u)=qse P N B ops rest ⟨qfa st.env o.dst v,qut st.heap u⟩:=rfl
theorem vfg(P:Program)(N B:Nat)(ops:Array Oper)(o:Oper)(rest:List Oper)(st:St):vi1 P N B ops o rest st .stop=(st,o::rest):=rfl
theorem AWp.mono{A:Exit->St->Prop}(h:AWp C c Q st)(I:∀e s,Q e s->A e s):AWp C c A st :=
 fun inj a w H=>wp_mono (h inj a w H) fun e a w ⟨s,i,h1,E⟩=>⟨s,i,h1,I e s E⟩
def qy2(K:St->Prop)(Q:Exit->St->Prop):Exit->St->Prop
 |.normal,s=>K s
 |e,s=>Q e s
theorem q7d{K:St->Prop}{E:Act->World->Prop}(H:∀s inj a w,SR C s inj a w->K s->E a w):∀e a w,vn7 C (qy2 K Q) e a w->Exit.then E (vn7 C Q) e a w:=by
 intro e a w ⟨s,i,h1,A⟩;cases e with
 |normal=>exact H s i a w h1 A
 |_=>exact⟨s,i,h1,A⟩
theorem qnq{x y:Code}(h:AWp C x (qy2 (fun s=>AWp C y Q s) Q) st):AWp C (.seq x y) Q st:=fun inj a w E =>
 wp_seq (wp_mono (h inj a w E) (q7d fun s i a w h1 A=>A i a w h1))
theorem q4g(h:Q .normal st):AWp C .skip Q st:=fun inj a w A=>wp_skip ⟨st,inj,A,h⟩
theorem q0f(h:Q .ret st):AWp C .ret Q st:=fun inj a w A=>wp_ret ⟨st,inj,A,h⟩
theorem vot(h:Q (.exit id) st):AWp C (.exit id) Q st:=fun inj a w A=>wp_exit ⟨st,inj,A,h⟩
def qwg(id:Nat)(Q:Exit->St->Prop):Exit->St->Prop
 |.exit id',s=>if id'=id then Q .normal s else Q (.exit id') s
 |e,s=>Q e s
theorem vi2(h:AWp C c (qwg id Q) st):AWp C (.block id c) Q st:=fun inj a w H =>
 wp_block (wp_mono (h inj a w H) fun e a w ⟨s,i,h1,A⟩=>by
  cases e with
  |exit id' =>
   simp only[Exit.inBlock];simp only[qwg]at A;split
   ·rename_i E;rw[if_pos E]at A;exact⟨s,i,h1,A⟩
   ·rename_i E;rw[if_neg E]at A;exact⟨s,i,h1,A⟩
  |_=>exact⟨s,i,h1,A⟩)
theorem vc0{c:Operand}{x y:Code}(H:ev st.env c=.p (.bool b))(J:b=true->AWp C x Q st)(I:b=false->AWp C y Q st):AWp C (.cond c x y) Q st:=by
 intro inj a w A;have E:=A.eval c;rw[H]at E;simp only[AR,PR]at E;exact wp_cond_split E (fun h=>J h inj a w A) (fun h=>I h inj a w A)
theorem qj0{l:List Oper}(h:AL C l.toArray l Q st):AWp C (.region id l.toArray false) Q st:=by
 intro inj a w A;apply wp_region;have:=wpOps_eq_wpList (P:=C.P) (ops:=l.toArray) (Q:=vn7 C Q) l 0 (fun j=>by simp);rw[v6v,v6t,this];exact h inj a w A
theorem vou{G:Type}(I:G->St->Prop)(E:G->Nat)(g0:G)(h0:I g0 st)
  (A:∀g s,I g s->AWp C c (qy2 (fun s'=>∃g',I g' s'/\E g'<E g) Q) s):AWp C (.loop c) Q st:=by
 intro inj a w H;refine wp_loop_ghost (fun n a w=>∃g s i,E g=n/\I g s/\SR C s i a w) (E g0) ⟨g0,st,inj,rfl,h0,H⟩ ?_;rintro n a w ⟨g,s,i,rfl,M,J⟩;refine wp_mono (A g s M i a w J) (q7d fun s' U a' w' h1 O=>?_)
 grind
structure Fr(D:Prop)(w w':World):Prop where
 os:w'.os=w.os
 tape:w'.tape=w.tape
 output:w'.output=w.output
 dr:D->w.drawn<=w'.drawn
 size:w.heap.size<=w'.heap.size
 fz:∀a,a.block<w.heap.size->w'.frozen? a=w.frozen? a
 blk:∀b,b<w.heap.size->w'.heap[b]?=w.heap[b]?
def v0a(D:Prop)(P:Program)(f:FuncId)(args:List PV)(r:PV):Prop :=
 ∀(X:Nat->Prop) (w:World) (vs:List Value),(∀b,X b->b<w.heap.size)->TabOk P X w->PRs X w args vs ->
  Calls P f vs.toArray w fun e w'=>∃v,e=.returned v/\PR X w' r v/\Fr D w w'
def q7e(P:Program)(st:St):ResultVar->Option AV
 |.tmp t=>some (st.env.get t)
 |.cell a t=>(qz3 P t (st.env.get a)).run st.sig
def q0g(P:Program)(st:St):List ResultVar->Option (List AV)
 |[]=>some []
 |x::r=>match q7e P st x,q0g P st r with
  |some v,some vs=>some (v::vs)
  |_,_=>none
def vh3(P:Program)(st:St)(rs:List ResultVar):Option AV:=match q0g P st rs with
 |some [v]=>some v
 |some vs=>some (ve7 vs)
 |none=>none
def vx7(A:Array Value):ResultVar->Sem Value
 |.tmp t=>pure (A.getD t undef)
 |.cell p t=>do loadVar t (<-asAddr (A.getD p undef))
theorem vfh(fn:Func)(A:Array Value):results fn A=(do let vs <-fn.results.mapM (vx7 A);pure (if h:vs.size=1 then vs[0] else .tuple vs)):=by
 unfold results;have:(fun(x:ResultVar)=>(match x with|.tmp t=>pure (A.getD t undef)|.cell a t=>(do loadVar t (<-asAddr (A.getD a undef))):Sem Value))=vx7 A:=by
  funext x;cases x<;>rfl
 rw[<-this];rfl
theorem q7f(h:SR C st inj a w){x:ResultVar}{v:AV}(hr:q7e C.P st x=some v) :
  ∃val,(vx7 a.tmps x).run C.P w=.ok val w/\AR C.X inj st.sig w v val:=by
 cases x with
 |tmp t =>
  simp only[q7e,v7s]at hr;subst hr;exact⟨_,rfl,h.env t⟩
 | cell p t =>
  simp only[q7e]at hr;obtain⟨u,h1,E⟩:=qvf (P:=C.P) h.hr (h.env p) hr;refine⟨u,?_,E⟩;simp only[Instr.loadAt,v7w]at h1;simp only[vx7,v7w];have H:=h.env p;have:(asAddr (a.tmps.getD p undef)).run C.P w=(Instr.sureAddr (a.tmps.getD p undef)).run C.P w:=by
   cases A:a.tmps.getD p undef with
   |pointer q =>
    cases q with
    |some q=>rfl
    |none=>rw[A]at h1;simp[Instr.sureAddr,stuck,v7v,Result.andThen]at h1
   |_=>rw[A]at h1;simp[Instr.sureAddr,stuck,v7v,Result.andThen]at h1
  grind
theorem qs9(h:SR C st inj a w):∀{rs:List ResultVar} {vs:List AV},q0g C.P st rs=some vs ->
  ∃us,(rs.mapM (vx7 a.tmps)).run C.P w=.ok us w/\ARs C.X inj st.sig w vs us
 |[],vs,hr=>by simp only[q0g,v7s]at hr;subst hr;exact⟨[],rfl,rfl⟩
 |x::rs,vs,hr=>by
  simp only[q0g]at hr;split at hr
  ·rename_i v us h1 A;simp only[v7s]at hr;subst hr;obtain⟨val,I,H⟩:=q7f h h1;obtain⟨vals,E,J⟩:=qs9 h A;refine⟨val::vals,?_,val,vals,rfl,H,J⟩;rw[List.mapM_cons];simp only[v7w,I,v7u,E,v7x]
  ·cases hr
theorem qug(h:SR C st inj a w){v:AV}(hr:vh3 C.P st fn.results.toList=some v):∃val,(results fn a.tmps).run C.P w=.ok val w/\AR C.X inj st.sig w v val:=by
 unfold vh3 at hr;have key:∀{vs:List AV} {us:List Value},q0g C.P st fn.results.toList=some vs->(fn.results.toList.mapM (vx7 a.tmps)).run C.P w=.ok us w ->
   (results fn a.tmps).run C.P w=.ok (if h:us.toArray.size=1 then us.toArray[0] else .tuple us.toArray) w:=by
  intro vs us _ M;rw[vfh];simp only[v7w,Array.mapM_eq_mapM_toList,Sem.run_map,M,v7u,v7x]
 split at hr
 ·rename_i v' E;simp only[v7s]at hr;subst hr;obtain⟨us,h1,A⟩:=qs9 h E;obtain⟨u,r,rfl,H,J⟩:=A;simp only[ARs]at J;subst J
  grind
 ·rename_i vs I E;simp only[v7s]at hr;subst hr;obtain⟨us,h1,A⟩:=qs9 h E;refine⟨.tuple us.toArray,?_,vct A⟩;rw[key E h1,dif_neg];intro hl;have H:=A.length;rw[v6v]at hl;rw[hl]at H
  match vs,H with
  |[v],_=>exact I v rfl
 ·cases hr
def argsEnv:Nat->List PV->Env
 |_,[]=>[]
 |k,x::r=>(k,.p x)::argsEnv (k+1) r
theorem q0h:∀(ps:List PV) (vs:List Value) (k t:Nat) {X:Nat->Prop} {inj:Inj} {σ:Nat->AO} {w:World},PRs (fun b=>X b\/F inj σ b) w ps vs ->
  AR X inj σ w ((argsEnv k ps).get t) (if k<=t then vs.getD (t-k) undef else undef)
 |[],_,k,t,_,_,_,_,_=>trivial
 | p :: ps,_,k,t,X,inj,σ,w,h=>by
  obtain⟨v,r,rfl,E,H⟩:=h;simp only[argsEnv,Env.get];by_cases A:k=t
  ·subst A;rw[if_pos rfl,if_pos (v7a _)];simpa[AR] using E
  ·rw[if_neg A];have:=q0h ps r (k+1) t (X:=X) (inj:=inj) H
   grind
def vx8(P:Program)(fn:Func)(r:PV):Exit->St->Prop:=fun ex s=>(ex=.normal\/ex=.ret)/\∃v,vh3 P s fn.results.toList=some v/\(view (fun _=>true) 9 v).run s.sig=some r
theorem qvk{P:Program}{f:FuncId}{args:List PV}{r:PV}{N:Nat}(hf:P.funcs[f]?=some fn)(W:fn.body=some c)(hN:fn.ntmps=N)(hn:args.length<=N)
  (h:∀X w hT,AWp ⟨P,N,0,X,[],fun _=>none,w,D,hT⟩ c (vx8 P fn r) ⟨argsEnv 0 args,[]⟩):v0a D P f args r:=by
 subst hN;intro X w vs hX hTb E;have I:∀inj b,¬F inj (qav []) b:=by
  rintro inj b ⟨l,c,o,h1,V,_⟩;simp only[qav]at h1;subst h1;cases V
 have hpr:PRs (fun b=>X b\/F (fun _=>none) (qav []) b) w args vs:=PRs.keep ⟨v7a _,fun _ _ _=>rfl,fun b _ M hn=>hn.elim M (I _ _)⟩ args vs E;have hT:TabOk P (fun b=>X b\/F (fun _=>none) (qav []) b) w:=hTb.keep ⟨v7a _,fun _ _ _=>rfl,fun b _ M hn=>hn.elim M (I _ _)⟩;have hl:=E.length;refine calls_of_wp hf W (wp_mono (h X w hT (fun _=>none) _ w ⟨fun t=>?_,?_,rfl,⟨fun l o ho=>?_,fun l A o o' b c c' h1 V h3=>?_,hX⟩,Ev.refl _ _ _ _⟩) ?_)
 ·have:=q0h args vs 0 t (X:=X) (inj:=fun _=>none) hpr;simp only[Nat.zero_le,if_true,v7k]at this;have e:(vs.toArray++Array.replicate (fn.ntmps-vs.toArray.size) undef).getD t undef=vs.getD t undef:=by
   by_cases ht:t<vs.length
   ·simp[v5c,ht]
   ·simp only[Array.getD_eq_getD_getElem?,v5c,v6v,ht,if_false,Array.getElem?_replicate]
    grind
  grind
 ·grind
 ·simp only[St.sig,qav]at ho;subst ho;trivial
 ·grind
 ·intro e a w' ⟨s,inj,H,hq⟩;obtain⟨Z,v,hv,J⟩:=hq;obtain⟨val,h1,V⟩:=qug H hv;have hp:=qep H.hr (fun _=>true) 9 v val r V J;have U:PR X w' r val:=PR.keep ⟨v7a _,fun _ _ _=>rfl,fun b _ M hn=>M (.inl hn)⟩ r val hp;have O:Fr D w w':=⟨H.ev.os,H.ev.tape,H.ev.output,H.ev.dr,H.ev.size,H.ev.fz,fun b W=>H.ev.blk b W (I _ _)⟩;rcases Z with rfl|rfl
  ·exact⟨H.defers,val,h1,val,rfl,U,O⟩
  ·exact⟨H.defers,val,h1,val,rfl,U,O⟩
def PV.flat:PV->Bool
 |.int .. |.bool _|.str _|.nilp|.nilf|.nili|.nilm=>true
 |.agg cs=>flatAll cs
 |.tup cs=>flatAll cs
 |_=>false
where flatAll:List PV->Bool
 |[]=>true
 |c::cs=>c.flat&&flatAll cs
mutual
theorem PR.flat{X E:Nat->Prop}{w:World}:∀(x:PV) (v:Value),x.flat=true->PR X w x v->PR E w x v
 |.int _ _,_,_,h=>h
 |.bool _,_,_,h=>h
 |.str _,_,_,h=>h
 |.nilp,_,_,h=>h
 |.nilf,_,_,h=>h
 |.nili,_,_,h=>h
 |.nilm,_,_,h=>h
 |.agg cs,v,hf,h=>by
  obtain⟨vs,h1,A,H⟩:=h
  exact⟨vs,h1,PRs.flat cs vs hf A,H⟩
 |.tup cs,v,hf,h=>by
  obtain⟨vs,h1,A⟩:=h
  exact⟨vs,h1,PRs.flat cs vs hf A⟩
theorem PRs.flat{X H:Nat->Prop}{w:World}:∀(A:List PV) (vs:List Value),PV.flat.flatAll A=true->PRs X w A vs->PRs H w A vs
 |[],_,_,h=>h
 |x::A,vs,hf,h=>by
  simp only[PV.flat.flatAll,v5i]at hf
  obtain⟨v,r,h1,E,I⟩:=h
  exact⟨v,r,h1,PR.flat x v hf.1 E,PRs.flat A r hf.2 I⟩
end
variable {args:Array Operand} {J:Array TypeId} {X:Nat->Prop} {f:Operand} {k:FuncId} {o:Oper}
def qb4(env:Env)(f:Operand)(args:List Operand):Option (FuncId×List AV) :=
 match ev env f with
 |.p (.func (.func k) cs)=>some (k,args.map (ev env)++cs.map .p)
 |.func (.func k) cs=>some (k,args.map (ev env)++cs)
 |.p (.bfn (.func k) bs)=>some (k,bs.map .p++args.map (ev env))
 |_=>none
def HasBody(P:Program)(k:FuncId):Prop:=∀(args:Array Value) (w:World),(callFunc k args).run P w=.ok (.enter k args) w
theorem qm0(h:SR C st inj a w){avs:List AV}(ho:o.op=.call ⟨.value f,args,J⟩)
  (Z:HasBody C.P k) (H:qb4 st.env f args.toList=some (k,avs)) :
  ∃vs,(execOp a.eval o).run C.P w=.ok (.enter k vs.toArray) w/\ARs C.X inj st.sig w avs vs:=by
 have U:=h.eval f;have A:=qrc (fun x=>h.eval x) args.toList;obtain⟨dst,op,V,pos,O,M⟩:=o;simp only at ho;subst ho;unfold qb4 at H;have run:∀I:Array Value,a.eval f=.func (.func k) #[] I->(execOp a.eval ⟨dst,.call ⟨.value f,args,J⟩,V,pos,O,M⟩).run C.P w=.ok (.enter k (args.map a.eval++I)) w:=by
  intro I he;simp only[execOp,resolve,Deferred.ofValue,he,v7w,v7x,v7u,invoke];rw[Z];simp
 split at H
 ·rename_i k' cs hev;simp only[v7s,v7t]at H;obtain⟨rfl,rfl⟩:=H;rw[hev]at U;obtain⟨vs,h1,W⟩:=U;refine⟨args.toList.map a.eval++vs,?_,A.append (qby.2 W)⟩;rw[run vs.toArray h1];congr 2;apply v5b;simp
 ·rename_i k' cs hev;simp only[v7s,v7t]at H;obtain⟨rfl,rfl⟩:=H;rw[hev]at U;obtain⟨vs,h1,W⟩:=U;refine⟨args.toList.map a.eval++vs,?_,A.append W⟩;rw[run vs.toArray h1];congr 2;apply v5b;simp
 ·rename_i k' E hev;simp only[v7s,v7t]at H;obtain⟨rfl,rfl⟩:=H;rw[hev]at U;obtain⟨vs,h1,W⟩:=U;refine⟨vs++args.toList.map a.eval,?_,(qby.2 W).append A⟩;simp only[execOp,resolve,Deferred.ofValue,h1,v7w,v7x,v7u,invoke];rw[Z];congr 2;apply v5b;simp
 ·cases H
theorem Fr.ev{inj:Inj}{σ:Nat->AO}{w w':World}(h:Fr D w w'):Ev D X inj σ w inj σ w' :=
 ⟨h.os,h.tape,h.output,h.dr,h.size,h.fz,fun b E _=>h.blk b E,fun _ A=>.inl A,fun l=>(OEv.refl _).of fun _=>rfl⟩
theorem HR.fr{inj:Inj}{σ:Nat->AO}{w w':World}(h:HR X inj σ w)(H:Fr D w w'):HR X inj σ w':=by
 refine⟨fun l o ho=>?_,h.inj1,fun b Z=>v7d (h.xlt b Z) H.size⟩;have h0:=h.obj l o ho;have hev:Ev D X inj σ w inj σ w':=H.ev;cases o with
 |dead g=>trivial
 |arr e sz g es =>
  obtain⟨vs,h1,U,h3,J⟩:=h0;refine⟨vs,ARs.ev hev h.xlt es vs h1,U,h3,?_⟩;rcases J with J|⟨b,c,cur,I,M,E,O⟩
  ·exact .inl J
  ·exact .inr ⟨b,c,cur,I,M,by rw[H.blk b (v5d.1 E).1];exact E,O⟩
 |map g ks vs =>
  obtain⟨b,c,W,A,I,M,E,O,V⟩:=h0;exact⟨b,c,W,A,I,M,by rw[H.blk b (v5d.1 E).1];exact E,ARs.ev hev h.xlt ks _ O,ARs.ev hev h.xlt vs _ V⟩
theorem vtv{ops:Array Oper}{rest:List Oper}{avs:List AV}{I:List PV}{r:PV}
  (hp:v0a C.D C.P k I r) (ho:o.op=.call ⟨.value f,args,J⟩) (hg:qbh ops st.env o=some true) (hd:qb2 C.N o=true) (hk:HasBody C.P k)
  (hc:qb4 st.env f args.toList=some (k,avs)) (W:(qba (view (fun _=>true) 9) avs).run st.sig=some I) (H:(qq9 avs).isSome=true\/r.flat=true)
  (h:AL C ops rest Q ⟨qfa st.env o.dst (.p r),st.heap⟩):AL C ops (o::rest) Q st:=by
 intro inj a w E;simp only[wpList,qb3 E hg,if_true];refine .inl ?_;obtain⟨vs,U,M⟩:=qm0 E ho hk hc;unfold Oper.wp;rw[U];simp only[Oper.upon];rcases H with H|H
 ·obtain⟨A,hxs⟩:=v7p.1 H;have hav:=qve hxs;subst hav;rw[qlm]at W;simp only[L.run_ret,v7s]at W;subst W;refine(hp (fun b=>C.X b\/F inj st.sig b) w vs (fun b hb=>hb.elim (E.hr.xlt b) fun hf=>(E.hr.flt hf).1) (qo9 E.ev) (qby.1 M)).mono ?_;rintro e w' ⟨v,rfl,h1,O⟩;exact h inj _ _ (E.put (u:=none) hd (E.hr.fr O) O.ev h1)
 ·have hpr:=qeh (qep E.hr (fun _=>true) 9) avs vs I M W;have V:PRs C.X w I vs:=PRs.keep ⟨v7a _,fun _ _ _=>rfl,fun b _ Z hn=>Z (.inl hn)⟩ I vs hpr;refine(hp C.X w vs E.hr.xlt ((qo9 E.ev).keep ⟨v7a _,fun _ _ _=>rfl,fun b _ Z hn=>Z (.inl hn)⟩) V).mono ?_;rintro e w' ⟨v,rfl,h1,O⟩;exact h inj _ _ (E.put (u:=none) hd (E.hr.fr O) O.ev (PR.flat r v H h1))
end Go.Ab
namespace Go.Ab
open Go
mutual
def LeV(σ σ':Nat->AO):AV->AV->Prop
 |_,.any=>True
 |v,.p x=>(view (fun l=>!(σ' l).alive) 9 v).run σ=some x
 |v,.nils=>v=.nils
 |v,.loc l g i off=>v=.loc l (σ l).gen i off/\g=(σ' l).gen/\(σ' l).alive=true/\(σ l).alive=true
 | v,.own l g off len=>(v=.own l (σ l).gen off len∧g=(σ' l).gen∧(σ' l).alive=true∧(σ l).alive=true) ∨
   (v=.nils/\off=0/\len=0/\(σ l).alive=false/\g=(σ' l).gen)
 |v,.mapo l g=>v=.mapo l (σ l).gen/\g=(σ' l).gen/\(σ' l).alive=true/\(σ l).alive=true
 |v,.func fn cs'=>∃cs,v=.func fn cs/\qkv σ σ' cs cs'
 |v,.agg cs'=>v.isAgg=true/\qkv σ σ' v.cells cs'
 |v,.tup cs'=>∃cs,v=.tup cs/\qkv σ σ' cs cs'
def qkv(σ σ':Nat->AO):List AV->List AV->Prop
 |cs,[]=>cs=[]
 |cs,c'::r'=>match cs with
  |c::r=>LeV σ σ' c c'/\qkv σ σ' r r'
  |[]=>False
end
theorem qyn(σ σ':Nat->AO):∀A:List PV,qkv σ σ' (A.map .p) (A.map .p)
 |[]=>rfl
 |x::A=>⟨by simp[LeV,view],qyn σ σ' A⟩
theorem qta(σ σ':Nat->AO)(c E:AV)(r A:List AV):qkv σ σ' (c::r) (E::A)=(LeV σ σ' c E/\qkv σ σ' r A):=rfl
theorem vc1(σ σ':Nat->AO):qkv σ σ' [] []=True:=by simp[qkv]
theorem vi3(σ σ':Nat->AO)(x y:PV):LeV σ σ' (.p x) (.p y)=(x=y):=by simp[LeV,view]
theorem vi4{σ σ':Nat->AO}{cs A:List AV}{E:AV}(h:qkv σ σ' cs (E::A)):∃c r,cs=c::r/\LeV σ σ' c E/\qkv σ σ' r A:=by
 cases cs with
 |nil=>exact h.elim
 |cons c r=>exact⟨c,r,rfl,h.1,h.2⟩
theorem qkv.length{σ σ':Nat->AO}:∀{cs A:List AV},qkv σ σ' cs A->cs.length=A.length
 |_,[],h=>by simp only[qkv]at h;subst h;rfl
 |_,c'::r',h=>by
  obtain⟨c,r,rfl,_,E⟩:=vi4 h;simp[qkv.length E]
def vi5(σ σ':Nat->AO)(keep:Bool)(g0:Nat)(o o':AO):Prop :=
 match o',o with
 |.dead g',o=>keep=true->o.gen<=g'
 |.arr e' sz' g' es',.arr e sz g es=>1<=g'/\e=e'/\sz=sz'/\qkv σ σ' es es'/\(keep=true->g'=g\/g0<g')
 |.arr _ _ g' es',.dead _=>1<=g'/\keep=false/\es'=[]
 |.map g' ks' vs',.map g ks vs=>1<=g'/\qkv σ σ' ks ks'/\qkv σ σ' vs vs'/\(keep=true->g'=g\/g0<g')
 |_,_=>False
def vi6(σ σ':Nat->AO)(keep:Bool)(g0:Nat)(l:Nat):Prop:=vi5 σ σ' keep g0 (σ l) (σ' l)
def LeO(σ σ':Nat->AO)(keep:Bool)(g0:Nat)(l:Nat):Prop :=
 match σ' l with
 |.dead g'=>keep=true->(σ l).gen<=g'
 |.arr e sz g' es'=>1<=g'/\((∃es,σ l=.arr e sz (σ l).gen es/\qkv σ σ' es es'/\(keep=true->g'=(σ l).gen\/g0<g'))\/(keep=false/\(σ l).alive=false/\es'=[]))
 |.map g' ks' vs'=>1<=g'/\∃ks vs,σ l=.map (σ l).gen ks vs/\qkv σ σ' ks ks'/\qkv σ σ' vs vs'/\(keep=true->g'=(σ l).gen\/g0<g')
theorem vi6.to{σ σ':Nat->AO}{keep:Bool}{g0 l:Nat}(h:vi6 σ σ' keep g0 l):LeO σ σ' keep g0 l:=by
 unfold vi6 vi5 at h;unfold LeO;split at h
 ·rename_i g' h1;rw[h1];exact h
 ·rename_i U J g' es' e sz g es h1 A;rw[h1];obtain⟨E,rfl,rfl,H,I⟩:=h;exact⟨E,.inl ⟨es,by rw[A];rfl,H,by rw[A];exact I⟩⟩
 ·rename_i U J g' es' g h1 A;rw[h1];obtain⟨E,H,I⟩:=h;exact⟨E,.inr ⟨H,by rw[A];rfl,I⟩⟩
 ·rename_i g' O V g ks vs h1 A;rw[h1];obtain⟨E,H,I,M⟩:=h;exact⟨E,ks,vs,by rw[A];rfl,H,I,by rw[A];exact M⟩
 ·exact h.elim
section
variable {X:Nat->Prop} {inj:Inj} {σ σ':Nat->AO} {w:World} {keep:Nat->Bool} {g0:Nat->Nat}
abbrev quu(inj:Inj)(σ:Nat->AO):Inj:=fun l=>if(σ l).alive then inj l else none
theorem vsh{b:Nat}(h:F (quu inj σ) σ' b):q2f (fun l=>!(σ' l).alive) inj σ b:=by
 obtain⟨l,c,o,h1,E,_,A⟩:=h;simp only[quu]at A;split at A
 ·rename_i ha;exact⟨l,c,σ l,rfl,ha,by simp[h1,E],A⟩
 ·cases A
mutual
theorem LeV.sound(h:HR X inj σ w)(ho:∀l,LeO σ σ' (keep l) (g0 l) l):∀(v' v:AV) (val:Value),LeV σ σ' v v'->AR X inj σ w v val->AR X (quu inj σ) σ' w v' val
 |.any,_,_,_,_=>trivial
 |.p x,v,val,hl,hv=>by
  have:=qep h (fun l=>!(σ' l).alive) 9 v val x hv hl
  refine PR.keep ⟨v7a _,fun _ _ _=>rfl,fun b _ hx hn=>hx ?_⟩ x val this
  rcases hn with hn|hn
  ·exact .inl hn
  ·exact .inr (vsh hn)
 |.nils,v,val,hl,hv=>by simp only[LeV]at hl;subst hl;exact hv
 | .loc l g i off,v,val,hl,hv=>by
  obtain⟨rfl,rfl,V,ha⟩:=hl
  obtain⟨h1,H⟩:=hv
  refine⟨h1,fun o E=>?_⟩
  subst E
  refine⟨v7a _,fun _ e sz es O=>?_⟩
  have A:=ho l
  unfold LeO at A
  rw[O]at A
  simp only at A
  obtain⟨_,A⟩:=A
  rcases A with⟨J,I,h5,_⟩|⟨_,I,_⟩
  ·obtain⟨b,c,M,U⟩:=(H _ rfl).2 rfl e sz J I
   exact⟨b,c,by simp[quu,ha,M],U⟩
  ·rw[I]at ha;cases ha
 | .own l g off len,v,val,hl,hv=>by
  rcases hl with⟨rfl,rfl,V,ha⟩|⟨rfl,rfl,rfl,ha,rfl⟩
  ·obtain⟨h1,H⟩:=hv
   refine⟨h1,fun o E=>?_⟩
   subst E
   refine⟨v7a _,fun _ e sz es O=>?_⟩
   have A:=ho l
   unfold LeO at A
   rw[O]at A
   simp only at A
   obtain⟨_,A⟩:=A
   rcases A with⟨J,I,h5,_⟩|⟨_,I,_⟩
   ·obtain⟨M,U⟩:=(H _ rfl).2 rfl e sz J I
    rw[h5.length]at M
    refine⟨M,?_⟩
    simp only[quu,ha,if_true]
    exact U
   ·rw[I]at ha;cases ha
  ·simp only[AR]at hv
   subst hv
   refine⟨⟨_,_,_,rfl⟩,fun o E=>?_⟩
   subst E
   refine⟨v7a _,fun _ e sz es O=>⟨by omega,.inl ⟨by simp[quu,ha],rfl,rfl,rfl⟩⟩⟩
 |.mapo l g,v,val,hl,hv=>by
  obtain⟨rfl,rfl,V,ha⟩:=hl
  obtain⟨h1,H⟩:=hv
  refine⟨h1,fun o E=>?_⟩
  subst E
  refine⟨v7a _,fun _ ks vs O=>?_⟩
  have A:=ho l
  unfold LeO at A
  rw[O]at A
  simp only at A
  obtain⟨_,ks0,Z,I,_⟩:=A
  obtain⟨b,c,M,U⟩:=(H _ rfl).2 rfl ks0 Z I
  exact⟨b,c,by simp[quu,ha,M],U⟩
 |.func fn cs',v,val,hl,hv=>by
  obtain⟨cs,rfl,h1⟩:=hl
  obtain⟨vs,H,A⟩:=hv
  exact⟨vs,H,qkv.sound h ho cs' cs vs h1 A⟩
 | .agg cs',v,val,hl,hv=>by
  obtain⟨W,h1⟩:=hl
  have hk:v.known=true:=by
   cases v with
   |p x=>cases x<;>first|rfl|cases W
   |_=>first|rfl|cases W
  obtain⟨H,A⟩:=AR.cells_of hk hv
  exact⟨val.cells.toList,q6w W hv,qkv.sound h ho cs' _ _ h1 H,A⟩
 |.tup cs',v,val,hl,hv=>by
  obtain⟨cs,rfl,h1⟩:=hl
  obtain⟨vs,H,A⟩:=hv
  exact⟨vs,H,qkv.sound h ho cs' cs vs h1 A⟩
theorem qkv.sound(h:HR X inj σ w)(ho:∀l,LeO σ σ' (keep l) (g0 l) l):∀(A vs:List AV) (vals:List Value),qkv σ σ' vs A->ARs X inj σ w vs vals->ARs X (quu inj σ) σ' w A vals
 |[],vs,vals,hl,hv=>by simp only[qkv]at hl;subst hl;exact hv
 |v'::A,vs,vals,hl,hv=>by
  obtain⟨c,r,rfl,h1,E⟩:=vi4 hl
  obtain⟨u,us,rfl,I,H⟩:=hv
  exact⟨u,us,rfl,LeV.sound h ho v' c u h1 I,qkv.sound h ho A r us E H⟩
end
end
variable {C:Cx} {Q:Exit->St->Prop} {st st':St} {inj:Inj} {a:Act} {w:World}
theorem SR.le(H : SR C st inj a w)(hH : ∀ l, (qav C.H0 l).alive = false → (qav C.H0 l).gen = 0)
    (henv : ∀ t, LeV st.sig st'.sig (st.env.get t) (st'.env.get t)) (J : ∀ l, LeO st.sig st'.sig (qav C.H0 l).alive (qav C.H0 l).gen l) : SR C st' (quu inj st.sig) a w := by
  refine⟨fun t => LeV.sound H.hr J _ _ _ (henv t) (H.env t), H.size, H.defers, ⟨fun l o ho => ?_, fun l A o o' b c c' h1 h2 I a2 h3 M => ?_, H.hr.xlt⟩,
    ⟨H.ev.os, H.ev.tape, H.ev.output, H.ev.dr, H.ev.size, H.ev.fz, H.ev.blk, fun b hb => ?_, fun l => ?_⟩⟩
  · have hl := J l
    unfold LeO at hl
    rw [ho] at hl
    cases o with
    | dead g => trivial
    | arr e sz g es' =>
      simp only at hl
      obtain⟨hg1, hl⟩ := hl
      rcases hl with⟨es, M, Z, _⟩|⟨_, M, rfl⟩
      · obtain⟨vs, U, O, o3, o4⟩ := (M ▸ H.hr.obj l _ rfl : OR C.X inj st.sig w l (.arr e sz (st.sig l).gen es))
        refine⟨vs, qkv.sound H.hr J _ _ _ Z U, O, o3, ?_⟩
        have ha : (st.sig l).alive = true := by rw [M]; rfl
        simp only [quu, ha, if_true]
        rw [← Z.length]
        rcases o4 with⟨p1, p2⟩ | o4
        · left
          refine⟨p1, ?_⟩
          subst p2
          exact v5x (by rw [← Z.length]; rfl)
        · exact .inr o4
      · exact⟨[], rfl, by simp, by simp [flat, qbp], .inl ⟨by simp [quu, M], rfl⟩⟩
    | map g ks' vs' =>
      simp only at hl
      obtain⟨hg1, ks, vs, M, Z, E, _⟩ := hl
      obtain⟨b, c, ms, clock, p1, p2, p3, p4, p5⟩ := (M ▸ H.hr.obj l _ rfl : OR C.X inj st.sig w l (.map (st.sig l).gen ks vs))
      have ha : (st.sig l).alive = true := by rw [M]; rfl
      exact⟨b, c, ms, clock, by simp only [quu, ha, if_true]; exact p1, p2, p3, qkv.sound H.hr J _ _ _ Z p4, qkv.sound H.hr J _ _ _ E p5⟩
  · simp only [quu] at h3 M
    split at h3
    · rename_i q1
      split at M
      · rename_i W
        exact H.hr.inj1 l A _ _ b c c' rfl rfl q1 W h3 M
      · cases M
    · cases h3
  · have := vsh hb
    exact H.ev.fp b (this.mono fun _ _ => rfl)
  · have h0 := H.ev.objs l
    have hl := J l
    cases hk : (qav C.H0 l).alive with
    | false =>
      have hg0 := hH l hk
      refine⟨by omega, fun ha V => ?_⟩
      unfold LeO at hl
      exfalso
      cases ho : st'.sig l with
      | dead g => rw [ho] at ha; cases ha
      | arr e sz g es => rw [ho] at hl V; have he' : (qav C.H0 l).gen = g := V; have := hl.1; omega
      | map g ks vs => rw [ho] at hl V; have he' : (qav C.H0 l).gen = g := V; have := hl.1; omega
    | true =>
      unfold LeO at hl
      rw [hk] at hl
      cases ho : st'.sig l with
      | dead g =>
        rw [ho] at hl
        simp only [true_implies] at hl
        exact⟨v7c h0.1 hl, fun ha => by cases ha⟩
      | arr e sz g es' =>
        rw [ho] at hl
        simp only [true_implies, v5n, false_and, or_false] at hl
        obtain⟨hg1, es, M, Z, E⟩ := hl
        have ha : (st.sig l).alive = true := by rw [M]; rfl
        refine ⟨by show _ ≤ g; rcases E with E | E; · rw [E]; exact h0.1
                   · exact v69 E, fun _ V => ?_⟩
        replace V : (qav C.H0 l).gen = g := V
        replace E : g = (st.sig l).gen := by
          rcases E with E | E
          · exact E
          · omega
        obtain⟨h7, h8⟩ := h0.2 ha (by rw [← E]; exact V)
        refine⟨by simp only [quu, ha, if_true]; exact h7, ?_⟩
        rcases h8 with⟨e', sz', es0, es1, q1, W, q3⟩|⟨ks, vs, ks', vs', q1, W⟩
        · rw [M] at W
          simp only [AO.arr.injEq] at W
          obtain⟨rfl, rfl, _, rfl⟩ := W
          exact .inl ⟨e, sz, es0, es', q1, by rw [V], by rw [q3, Z.length]⟩
        · rw [M] at W; cases W
      | map g ks' vs' =>
        rw [ho] at hl
        simp only [true_implies] at hl
        obtain⟨hg1, ks, vs, M, Z, h5', E⟩ := hl
        have ha : (st.sig l).alive = true := by rw [M]; rfl
        refine ⟨by show _ ≤ g; rcases E with E | E; · rw [E]; exact h0.1
                   · exact v69 E, fun _ V => ?_⟩
        replace V : (qav C.H0 l).gen = g := V
        replace E : g = (st.sig l).gen := by
          rcases E with E | E
          · exact E
          · omega
        obtain⟨h7, h8⟩ := h0.2 ha (by rw [← E]; exact V)
        refine⟨by simp only [quu, ha, if_true]; exact h7, ?_⟩
        rcases h8 with⟨e', sz', es0, es1, q1, W, q3⟩|⟨ks0, vs0, ks1, vs1, q1, W⟩
        · rw [M] at W; cases W
        · exact .inr ⟨ks0, vs0, ks', vs', q1, by rw [V]⟩
def vov(σ σ':Nat->AO)(env:Env):List (Nat×AV)->Prop
 |[]=>True
 |(t,v)::r=>LeV σ σ' (env.get t) v/\vov σ σ' env r
def qkf(σ σ':Nat->AO)(H0:List (Nat×AO)):List (Nat×AO)->Prop
 |[]=>True
 |(l,_)::r=>vi6 σ σ' (qav H0 l).alive (qav H0 l).gen l/\qkf σ σ' H0 r
def qsf(h:List (Nat×AO)):List (Nat×AO)->Prop
 |[]=>True
 |(l,o)::r=>(h.any fun x=>x.1==l)=true/\o.alive=true/\qsf h r
theorem q7g{σ σ':Nat->AO}{env:Env}:∀{l:List (Nat×AV)},vov σ σ' env l->∀t,LeV σ σ' (env.get t) (Env.get l t)
 |[],_,t=>trivial
 |(k,v)::r,h,t=>by
  simp only[Env.get];split
  ·rename_i A;subst A;exact h.1
  ·exact q7g h.2 t
theorem qwh:∀{h:List (Nat×AO)} {l:Nat},(h.any fun x=>x.1==l)=false->qav h l=.dead 0
 |[],_,_=>rfl
 |(k,o)::r,l,h=>by
  simp only[List.any_cons,Bool.or_eq_false_iff,beq_eq_false_iff_ne]at h;simp only[qav];rw[if_neg h.1];exact qwh h.2
theorem q3e{σ σ':Nat->AO}{H0:List (Nat×AO)}:∀{h:List (Nat×AO)},qkf σ σ' H0 h->∀l,(h.any fun x=>x.1==l)=true->LeO σ σ' (qav H0 l).alive (qav H0 l).gen l
 |[],_,l,hl=>by simp at hl
 |(k,o)::r,h,l,hl=>by
  simp only[List.any_cons,Bool.or_eq_true,beq_iff_eq]at hl;rcases hl with rfl|hl
  ·exact h.1.to
  ·exact q3e h.2 l hl
theorem qtb{h:List (Nat×AO)}:∀{H0:List (Nat×AO)},qsf h H0->∀l,((h.any fun x=>x.1==l)=false->(qav H0 l).alive=false)/\((qav H0 l).alive=false->(qav H0 l).gen=0)
 |[],_,l=>⟨fun _=>rfl,fun _=>rfl⟩
 |(k,o)::r,hk,l=>by
  simp only[qav];split
  ·rename_i e;subst e;exact⟨(fun h1=>by rw[hk.1]at h1;cases h1),(fun h1=>by rw[hk.2.1]at h1;cases h1)⟩
  ·exact qtb hk.2.2 l
def Le(C:Cx)(st st':St):Prop:=vov st.sig st'.sig st.env st'.env/\qkf st.sig st'.sig C.H0 st'.heap/\qsf st'.heap C.H0
theorem Le.sr(h:Le C st st')(J:SR C st inj a w):SR C st' (quu inj st.sig) a w:=by
 obtain⟨h1,H,E⟩:=h;refine J.le (fun l=>(qtb E l).2) (fun t=>q7g h1 t) fun l=>?_
 cases A:st'.heap.any fun x=>x.1==l with
 |true=>exact q3e H l A
 |false =>
  have M:st'.sig l=.dead 0:=qwh A;have I:=(qtb E l).1 A;unfold LeO;rw[M,I];exact fun h=>by cases h
theorem q0i{c:Code}(h:Le C st st')(k:AWp C c Q st'):AWp C c Q st:=fun inj a w A=>k _ a w (h.sr A)
theorem vow{ops:Array Oper}{l:List Oper}(h:Le C st st')(k:AL C ops l Q st'):AL C ops l Q st:=fun inj a w A=>k _ a w (h.sr A)
theorem qp1{K:St->Prop}{s:St}(h:K s):qy2 K Q .normal s:=h
theorem q7h{K:St->Prop}{s:St}(h:Q .ret s):qy2 K Q .ret s:=h
theorem vao{i:Nat}{s:St}(h:Q .normal s):qwg i Q (.exit i) s:=by simp only[qwg,if_true];exact h
end Go.Ab
