/- -/
import Derived.StillTail
import Derived.Lib.Bytealg
import Derived.Deep.Slices
import Derived.ReadAgain
import Derived.ChangeArms
import Derived.ChangeSame
import Derived.RowKit
import Derived.RowKit3
import Derived.OpenShut
import Derived.JoinedCond
import Derived.KernelRfl
import Derived.Shelf.SlSortCmp.Kit1
import Derived.Sort.AssemblyPlain
import Derived.Laws.AppendOwn
import Derived.Below
import Derived.Shelf.SlicesE.Clone
import Derived.Sort.EncStr
import Derived.Shelf.GgSortFunc.RowK
import Derived.Shelf.SlSortCmp.InsertionK
import Derived.Lib.Repeat
import Derived.Shelf.Strings.Builder1
import Derived.Lib.AppendStr
import Derived.ProofKit
import Derived.Test.YtijpapagpebllaaGreatDoorA1
set_option linter.unusedVariables false
set_option linter.unusedSimpArgs false
open Array renaming ext'->v5b,getElem?_append->v5c,getElem?_eq_some_iff->v5d,getElem?_modify->v7y,getElem?_setIfInBounds_ne->v5e,getElem?_toList->v7z,range->v71,size_range->v73,toList_range->v74
open Bool renaming and_eq_true->v5i,eq_false_iff->v78,false_eq_true->v5k,or_eq_true->v79
open Go.Lib renaming bitLen->v8a,byteCells->v8b,run_eql_slice_nil->v5o,run_unsafeSliceData_row->v8c
open List renaming all_eq_true->v8d,any_cons->v8e,any_eq_true->v8f,append_nil->v5s,cons_append->v8g,eq_nil_of_length_eq_zero->v5x,ext_getElem?->v5y,flatMap_cons->v8h,getD_eq_getElem?_getD->v8i,getElem?_append_left->v8j,getElem?_append_right->v8k,getElem?_cons_succ->v8l,getElem?_cons_zero->v8m,getElem?_eq_getElem->v52,getElem?_eq_none->v54,getElem?_eq_some_iff->v56,getElem?_map->v8n,getElem?_nil->v8o,getElem?_set_ne->v8p,getElem?_set_self->v8q,getElem?_take->v59,length_append->v6b,length_cons->v8r,length_drop->v6c,length_map->v6d,length_nil->v6e,length_set->v6f,length_singleton->v8s,length_take->v6g,map->v8t,map_append->v6h,map_congr_left->v8u,map_cons->v6i,map_drop->v8v,map_nil->v6j,map_replicate->v8w,map_take->v8x,mem_append->v6k,mem_cons_of_mem->v8y,mem_cons_self->v8z,mem_filter->v80,mem_flatMap->v6l,mem_map->v81,mem_mapIdx->v82,mem_of_mem_take->v6o,mem_range->v83,mem_singleton->v84,nil_append->v6r,range->v6s,range'->v85,replicate->v6u,replicate_succ->v86,size_toArray->v6v,take->v87,take_append_drop->v88,take_of_length_le->v6y,toArray->v89
open Nat renaming le_refl->v7a,le_succ->v7b,le_trans->v7c,lt_of_lt_of_le->v7d,lt_trichotomy->v9a,min_eq_left->v9b,mod_eq_of_lt->v9c,mul_le_mul_right->v7h,strongRecOn->v9d,sub_zero->v7k,testBit_shiftLeft->v9e,zero_add->v7l,zero_le->v9f
open Option renaming bind_eq_some_iff->v9g,bind_some->v7m,isSome_iff_exists->v7p,map_none->v9h,map_some->v7r
open Option.some renaming inj->v9i,injEq->v7s
open Prod.mk renaming injEq->v7t
open Go.Result renaming andThen->v9j,andThen_ok->v7u
open Go.Sem renaming run_bind->v7w,run_pure->v7x
noncomputable section
namespace Go.Ab
open Go
section
section
variable (P:Program) (B d':Nat) (ρ:Operand->AV) (d:Option Tmp) (ty:TypeId) (pos:String) (af:Array Edge) (g:Option (Nat×Bool))
theorem vox(x:Operand):aop P B ρ ⟨d,.move x,ty,pos,af,g⟩=.ret (ρ x,none):=rfl
theorem vfi(x:Operand):aop P B ρ ⟨d,.assign x,ty,pos,af,g⟩=.ret (ρ x,none):=rfl
theorem voy(c x y:Operand):aop P B ρ ⟨d,.pick c x y,ty,pos,af,g⟩=(match ρ c with|.p (.bool t)=>.ret (if t then ρ x else ρ y,none)|_=>.fail):=rfl
theorem vi7(t:TypeId):aop P B ρ ⟨some d',.alloc t,ty,pos,af,g⟩=(match qbm P t with
  |some z=>if z.cells.length=P.cellsOf t then vtu P (B+d') t z else .fail
  |none=>.fail):=rfl
theorem vtw(t:TypeId)(x:Operand):aop P B ρ ⟨some d',.box t x,ty,pos,af,g⟩=vtu P (B+d') t (ρ x):=rfl
theorem vi8(t:TypeId)(parts:List (Nat×Operand)):aop P B ρ ⟨d,.build t parts.toArray,ty,pos,af,g⟩=qcu (.ofOpt (qhc P t (parts.map fun p=>(p.1,ρ p.2)))):=rfl
theorem q2m(t:TypeId)(n:Nat)(parts:List (Nat×Operand)):aop P B ρ ⟨some d',.buildSlice t n parts.toArray,ty,pos,af,g⟩=qid P (B+d') t n (parts.map fun p=>(p.1,ρ p.2)):=rfl
theorem voz(t:TypeId)(x:Operand):aop P B ρ ⟨d,.load t x,ty,pos,af,g⟩=qcu (qz3 P t (ρ x)):=rfl
theorem vi9(t:TypeId)(x y:Operand):aop P B ρ ⟨d,.store t x y,ty,pos,af,g⟩=q27 P t (ρ x) (ρ y):=rfl
theorem vja(op:BinOp)(t:TypeId)(x y:Operand)(yt:TypeId):aop P B ρ ⟨d,.binOp op t x y yt,ty,pos,af,g⟩=qcu (.ofOpt (vop P op t (ρ x) (ρ y))):=rfl
theorem vo0(op:UnOp)(t:TypeId)(x:Operand):aop P B ρ ⟨d,.unOp op t x,ty,pos,af,g⟩=qcu (.ofOpt (unA op (ρ x))):=rfl
theorem vap(s t:TypeId)(x:Operand):aop P B ρ ⟨d,.convert s t x,ty,pos,af,g⟩=qcu (q61 P s t (ρ x)):=rfl
theorem q7i(fn:Fn)(A:List Operand):aop P B ρ ⟨d,.makeFunc fn (v89 []) A.toArray,ty,pos,af,g⟩=.ret (q6u fn (A.map ρ),none):=rfl
theorem q4h(fn:Fn)(x:Operand)(A:List Operand):aop P B ρ ⟨d,.makeFunc fn (v89 (x::A)) (v89 []),ty,pos,af,g⟩=vos fn ((x::A).map ρ):=rfl
theorem q4i(t:TypeId)(l c:Operand):aop P B ρ ⟨some d',.makeSlice t l c,ty,pos,af,g⟩=qqf P (B+d') t (ρ l) (ρ c):=rfl
theorem vjb(t:TypeId)(x:Operand)(lo hi:Option Operand):aop P B ρ ⟨d,.slice t x lo hi none,ty,pos,af,g⟩=(match P.underlying t,qyl (lo.map ρ),qyl (hi.map ρ) with
  |some .string,some l,some h=>(match ρ x with|.p (.str _)=>qcu (qqd (ρ x) l h)|_=>.fail)
  |some (.slice e),some l,some h=>(match ρ x with|.p (.str _)=>.fail|_=>if qsc P e=true then qcu (aop.sliceT P e (ρ x) l h) else .fail)
  |_,_,_=>.fail):=rfl
theorem vfj(t:TypeId)(x hi mx:Operand):aop P B ρ ⟨d,.slice t x none (some hi) (some mx),ty,pos,af,g⟩=(match P.underlying t,ρ x,ρ hi,ρ mx with
  |some (.slice e),.p (.slc es),.p (.int _ hi),.p (.int _ mx)=>if mx=hi/\0<=hi/\hi<=es.length/\qsc P e=true then qcu (.ret (.p (.clip (es.take hi.toNat)))) else .fail
  |_,_,_,_=>.fail):=rfl
theorem q4j(s:TypeId)(x:Operand)(f:Nat):aop P B ρ ⟨d,.fieldAddr s x f,ty,pos,af,g⟩=qcu (.ofOpt (qk6 P s f (ρ x))):=rfl
theorem q4k(t:TypeId)(x ix:Operand):aop P B ρ ⟨d,.indexAddr t x ix,ty,pos,af,g⟩=(match qz4 (ρ ix) with
  |some i=>qcu (qqe P t (ρ x) i)
  |none=>.fail):=rfl
theorem vjc(t:TypeId)(x ix:Operand):aop P B ρ ⟨d,.index t x ix,ty,pos,af,g⟩=(match qz4 (ρ ix) with
  |some i=>qcu (.ofOpt (q6y P t (ρ x) i))
  |none=>.fail):=rfl
theorem vaq(t:TypeId):aop P B ρ ⟨some d',.makeMap t none,ty,pos,af,g⟩=qwa P (B+d') t:=rfl
theorem vfk(t:TypeId)(m k:Operand)(c:Bool):aop P B ρ ⟨d,.lookup t m k c,ty,pos,af,g⟩=qcu (qz6 P t (ρ m) (ρ k) c):=rfl
theorem q4l(t:TypeId)(m k v:Operand):aop P B ρ ⟨d,.mapUpdate t m k v,ty,pos,af,g⟩=qvh P t (ρ m) (ρ k) (ρ v):=rfl
theorem vfl(t:TypeId)(m k v:Operand):aop P B ρ ⟨d,.insert t m k v,ty,pos,af,g⟩=qvh P t (ρ m) (ρ k) (ρ v):=rfl
theorem q7j(x:Operand):aop P B ρ ⟨d,.nilCheck x,ty,pos,af,g⟩=qcu (.ofOpt (vz8 (ρ x))):=rfl
theorem vjd(s:TypeId)(x:Operand)(f:Nat):aop P B ρ ⟨d,.field s x f,ty,pos,af,g⟩=qcu (.ofOpt (q6z P s f (ρ x))):=rfl
theorem vas(x:Operand)(i:Nat):aop P B ρ ⟨d,.extract x i,ty,pos,af,g⟩=(match ρ x with
  |.p (.tup vs)=>qcu (.ofOpt ((vs[i]?).map .p))
  |.tup vs=>qcu (.ofOpt (vs[i]?))
  |_=>.fail):=rfl
theorem vtx(x:Operand)(t:TypeId):aop P B ρ ⟨d,.call ⟨.builtin .len,v89 [x],v89 [t]⟩,ty,pos,af,g⟩=if(P.underlying t).isSome then qcu (aop.lenT P t (ρ x)) else .fail:=rfl
theorem vje(x:Operand)(t:TypeId):aop P B ρ ⟨some d',.call ⟨.builtin .clear,v89 [x],v89 [t]⟩,ty,pos,af,g⟩=qu7 P t (ρ x):=rfl
theorem vfm(x:Operand)(t:TypeId):aop P B ρ ⟨none,.call ⟨.builtin .clear,v89 [x],v89 [t]⟩,ty,pos,af,g⟩=qu7 P t (ρ x):=rfl
theorem vfn(s x:Operand)(t u:TypeId):aop P B ρ ⟨some d',.call ⟨.builtin .append,v89 [s,x],v89 [t,u]⟩,ty,pos,af,g⟩=if t=u then qdk P (B+d') t (ρ s) (ρ x) else .fail:=rfl
theorem vty(A:List Operand)(E:Array TypeId):aop P B ρ ⟨d,.call ⟨.builtin .max,A.toArray,E⟩,ty,pos,af,g⟩=qcu (.ofOpt (viu vis (A.map ρ))):=rfl
theorem vtz(A:List Operand)(E:Array TypeId):aop P B ρ ⟨d,.call ⟨.builtin .min,A.toArray,E⟩,ty,pos,af,g⟩=qcu (.ofOpt (viu vit (A.map ρ))):=rfl
theorem vo1(f:Operand)(A:Array Operand)(E:Array TypeId):aop P B ρ ⟨d,.call ⟨.value f,A,E⟩,ty,pos,af,g⟩=.fail:=rfl
end
variable {t:TypeId}
theorem vfo(P:Program)(N B:Nat)(ops:Array Oper)(st:St):qse P N B ops [] st=(st,[]):=rfl
def onR:Option (AV×Upd)->Go1
 |some (v,u)=>.on v u
 |none=>.stop
theorem vo2(v:AV)(u:Upd):onR (some (v,u))=.on v u:=rfl
theorem vo3:onR none=.stop:=rfl
theorem vjf(P:Program)(N B:Nat)(ops:Array Oper)(d:Option Tmp)(op:Op)(ty:TypeId)(pos:String)(af:Array Edge)(st:St) :
  go1 P N B ops ⟨d,op,ty,pos,af,none⟩ st=if qb2 N ⟨d,op,ty,pos,af,none⟩ then onR ((aop P B (ev st.env) ⟨d,op,ty,pos,af,none⟩).run (qav st.heap)) else .stop:=by
 unfold go1 qbh onR;rfl
def onG(r:Option (AV×Upd)):Option Bool->Go1
 |some true=>onR r
 |some false=>.on (.p (.tup [])) none
 |none=>.stop
theorem vo4(r:Option (AV×Upd)):onG r (some true)=onR r:=rfl
theorem vjg(r:Option (AV×Upd)):onG r (some false)=.on (.p (.tup [])) none:=rfl
theorem vfp(N t:Nat)(op:Op)(ty:TypeId)(pos:String)(af:Array Edge)(g:Option (Nat×Bool)):qb2 N ⟨some t,op,ty,pos,af,g⟩=decide (t<N):=rfl
theorem vfq(N:Nat)(op:Op)(ty:TypeId)(pos:String)(af:Array Edge)(g:Option (Nat×Bool)):qb2 N ⟨none,op,ty,pos,af,g⟩=true:=rfl
def eqL(f:TypeId->List PV->List PV->Option Bool):List (Nat×Nat×Nat)->List PV->List PV->Option Bool
 |[],_,_=>some true
 |(t,o,n)::r,xs,ys=>match f t ((xs.drop o).take n) ((ys.drop o).take n),eqL f r xs ys with
  |some a,some b=>some (a&&b)
  |_,_=>none
theorem vsi(P:Program)(f:TypeId->List PV->List PV->Option Bool):∀(I:List Field) (A E:List PV),(I.all fun g=>g.name != "_")=true ->
  voo P f I A E=eqL f (I.map fun g=>(g.type,g.offset,P.cellsOf g.type)) A E
 |[],_,_,_=>rfl
 |g::I,A,E,h=>by
  simp only[List.all_cons,v5i,bne_iff_ne,ne_eq]at h;simp only[voo,h.1,if_false,v6i,eqL,vsi P f I A E h.2]
  all_goals rfl
theorem q3f(P:Program){t:TypeId}{l:List (Nat×Nat×Nat)}(H:P.underlying t=some (.struct (P.fieldsOf t)))(I:P.stoodInHeld t=false)(hn:((P.fieldsOf t).toList.all fun g=>g.name != "_")=true)
  (hl:((P.fieldsOf t).toList.map fun g=>(g.type,g.offset,P.cellsOf g.type))=l) (d:Nat) (A E:List PV):eqT P (d+1) t A E=eqL (eqT P d) l A E:=by
 subst hl;unfold eqT;rw[H];simp only[I,v5k,if_false];exact vsi P _ _ A E hn
theorem vjh(P:Program){q:IntKind}(E:P.underlying t=some (.int q))(d:Nat)(k A:IntKind)(a b:Int):eqT P (d+1) t [.int k a] [.int A b]=if k=A then some (a==b) else none:=by
 unfold eqT;rw[E]
theorem vt0(P:Program)(A:P.underlying t=some .string)(d:Nat)(a b:List UInt8):eqT P (d+1) t [.str a] [.str b]=some (a==b):=by
 unfold eqT;rw[A]
theorem vat(m:L AV)(σ:Nat->AO):(qcu m).run σ=(m.run σ).map fun v=>(v,none):=by
 unfold qcu;rw[L.run_bind'];cases m.run σ<;>rfl
section
variable (k:IntKind) (n:Int) (b:Bool) (l:List UInt8) (ps qs:List PV) (fn:Fn)
theorem v0b:(PV.int k n).cells=[.int k n]:=rfl
theorem vt1:(PV.bool b).cells=[.bool b]:=rfl
theorem v0c:(PV.str l).cells=[.str l]:=rfl
theorem vt2:PV.nilp.cells=[.nilp]:=rfl
theorem vt3:PV.nilf.cells=[.nilf]:=rfl
theorem vt4:PV.nili.cells=[.nili]:=rfl
theorem vt5:PV.nilm.cells=[.nilm]:=rfl
theorem v0d:(PV.slc ps).cells=[.slc ps]:=rfl
theorem vt6:(PV.nnil ps).cells=[.nnil ps]:=rfl
theorem vt7:(PV.clip ps).cells=[.clip ps]:=rfl
theorem v0e:(PV.imm ps).cells=[.imm ps]:=rfl
theorem vt8:(PV.mapv ps qs).cells=[.mapv ps qs]:=rfl
theorem v0f:(PV.bfn fn ps).cells=[.bfn fn ps]:=rfl
theorem vt9:(PV.func fn ps).cells=[.func fn ps]:=rfl
theorem v0g:(PV.agg ps).cells=ps:=rfl
theorem v0h:(PV.int k n).isAgg=false:=rfl
theorem vua:(PV.bool b).isAgg=false:=rfl
theorem v0i:(PV.str l).isAgg=false:=rfl
theorem vub:PV.nilp.isAgg=false:=rfl
theorem vuc:PV.nilf.isAgg=false:=rfl
theorem vud:PV.nili.isAgg=false:=rfl
theorem vue:PV.nilm.isAgg=false:=rfl
theorem v0j:(PV.slc ps).isAgg=false:=rfl
theorem vuf:(PV.nnil ps).isAgg=false:=rfl
theorem vug:(PV.clip ps).isAgg=false:=rfl
theorem v0k:(PV.imm ps).isAgg=false:=rfl
theorem vuh:(PV.mapv ps qs).isAgg=false:=rfl
theorem v0l:(PV.bfn fn ps).isAgg=false:=rfl
theorem vui:(PV.func fn ps).isAgg=false:=rfl
theorem v0m:(PV.agg ps).isAgg=true:=rfl
theorem v0n:(PV.int k n).isTup=false:=rfl
theorem vuj:(PV.bool b).isTup=false:=rfl
theorem v0o:(PV.str l).isTup=false:=rfl
theorem vuk:PV.nilp.isTup=false:=rfl
theorem vul:PV.nilf.isTup=false:=rfl
theorem vum:PV.nili.isTup=false:=rfl
theorem vun:PV.nilm.isTup=false:=rfl
theorem v0p:(PV.slc ps).isTup=false:=rfl
theorem vuo:(PV.nnil ps).isTup=false:=rfl
theorem vup:(PV.clip ps).isTup=false:=rfl
theorem v0q:(PV.imm ps).isTup=false:=rfl
theorem vuq:(PV.mapv ps qs).isTup=false:=rfl
theorem v0r:(PV.bfn fn ps).isTup=false:=rfl
theorem vur:(PV.func fn ps).isTup=false:=rfl
theorem v0s:(PV.agg ps).isTup=false:=rfl
theorem v0t:(PV.tup ps).isTup=true:=rfl
theorem v0u:(PV.int k n).flat=true:=rfl
theorem vus:(PV.bool b).flat=true:=rfl
theorem v0v:(PV.str l).flat=true:=rfl
theorem vut:PV.nilp.flat=true:=rfl
theorem v0w:(PV.slc ps).flat=false:=rfl
theorem v0x:(PV.imm ps).flat=false:=rfl
theorem v0y:(PV.agg ps).flat=PV.flat.flatAll ps:=rfl
theorem v0z:(PV.tup ps).flat=PV.flat.flatAll ps:=rfl
theorem v00:PV.flat.flatAll []=true:=rfl
theorem vuu(x:PV):PV.flat.flatAll (x::ps)=(x.flat&&PV.flat.flatAll ps):=rfl
end
attribute [go_sem] v0b vt1 v0c vt2 vt3 vt4 vt5 v0d vt6 vt7 v0e vt8 v0f v0l vt9 v0g v0h vua v0i vub vuc vud vue v0j vuf vug v0k vuh vui v0m v0n vuj v0o vuk vul vum vun v0p vuo vup v0q vuq v0r vur v0s v0t v0u vus v0v vut v0w v0x v0y v0z v00 vuu
theorem hgetC(k:Nat)(o:AO)(r:List (Nat×AO))(l:Nat):qav ((k,o)::r) l=if k=l then o else qav r l:=rfl
theorem genD(g:Nat):(AO.dead g).gen=g:=rfl
theorem genA(e sz g:Nat)(es:List AV):(AO.arr e sz g es).gen=g:=rfl
theorem genM(g:Nat)(ks vs:List AV):(AO.map g ks vs).gen=g:=rfl
theorem v01(g:Nat):(AO.dead g).alive=false:=rfl
theorem v02(e sz g:Nat)(es:List AV):(AO.arr e sz g es).alive=true:=rfl
theorem v03(g:Nat)(ks vs:List AV):(AO.map g ks vs).alive=true:=rfl
theorem hgetN(l:Nat):qav [] l=.dead 0:=rfl
attribute [go_sem] q7j vz8 vaq vfk q4l vfl vjd qwa qz6 qvh qv9 vor qzo qs3 q60 qyz AV.mapo.injEq q6z vox vfi voy vi7 vtw vi8 q2m voz vi9 vja vo0 vap q7i q4h vos q4i vjb vfj q4j q4k vjc vas vtx vfn vje vfm qu7 vty vtz vo1 vfo q0e vcz vfg vo2 vo3 vjf vo4 vjg vfp vfq vat L.run_ofOpt L.run_ret L.run_fail L.run_look L.run_bind' qbh ev ofV vsd Env.get qfa qut qo8 hgetC hgetN vtu viq qz3 qzm q6v q27 qqb vab qk6 qqe qz4 q6y voq q61 viv qyl qqd aop.sliceT aop.lenT vac qqc qdk qhb qkk qid qqf vop vx6 vz7 strA unA eqL viu ve8 vis vit AV.cells AV.known AV.isAgg AV.one qkz ve7 q6u qq9 splice qvg true_or or_true false_or or_false vh3 q0g q7e qb4 Le vov qkf qsf LeV qta vc1 vi3 vi6 vi5 qyn genD genA genM v01 v02 v03 St.sig PV.flat PV.flat.flatAll Ab.argsEnv qy2 qwg
end
section
theorem qbz(P:Program)(I:Array Field){l:List (Nat×Nat)}(h:(I.toList.map fun f=>(f.offset,P.cellsOf f.type))=l)(j:Nat):qvg P I j=l[j]?:=by
 subst h;simp[qvg]
theorem qcp(P:Program)(t:TypeId){z:AV}(I:qbm P t=some z)(H:z.known=true)(E:P.underlying t=some (.struct (P.fieldsOf t)))
  (A:((P.fieldsOf t).toList.all fun f=>(P.info? f.type).isSome)=true) {pl:Nat->Option (Nat×Nat)} (J:qvg P (P.fieldsOf t)=pl) {parts:List (Nat×AV)} :
  qhc P t parts=(qkk pl z.cells parts).map qkz:=by
 unfold qhc
 grind
theorem vsj(P:Program)(f:TypeId->List PV->List PV->Option Bool)(e c:Nat)(A E:List PV):∀l:List Nat,vse (f e) c A E l=eqL f (l.map fun i=>(e,i*c,c)) A E
 |[]=>rfl
 |i::l=>by
  simp only[vse,v6i,eqL,vsj P f e c A E l];rfl
theorem vji(P:Program){t:TypeId}{n:Nat}{e:TypeId}{l:List (Nat×Nat×Nat)}(H:P.underlying t=some (.array n e))(I:(P.info? e).isSome=true)
  (hl:((v6s n).map fun i=>(e,i*P.cellsOf e,P.cellsOf e))=l) (d:Nat) (A E:List PV):eqT P (d+1) t A E=eqL (eqT P d) l A E:=by
 subst hl;unfold eqT;rw[H];simp only[I,if_true];exact vsj P (eqT P d) e (P.cellsOf e) A E _
theorem qbg{n:Int}(h1:-9223372036854775808<=n)(A:n<=9223372036854775807):IntKind.i64.wrap n=n:=by
 simp only[IntKind.wrap,IntKind.signed,IntKind.bits]
 grind
theorem vuv(D:Nat->Bool)(x:PV):view D 9 (.p x)=.ret x:=rfl
theorem vfr(D:Nat->Bool):view D 9 .nils=.ret (.slc []):=rfl
theorem vjj(D:Nat->Bool)(cs:List AV):view D 9 (.agg cs)=(qba (view D 8) cs).bind fun A=>.ret (.agg A):=rfl
theorem vjk(D:Nat->Bool)(cs:List AV):view D 9 (.tup cs)=(qba (view D 8) cs).bind fun A=>.ret (.tup A):=rfl
theorem vfs(D:Nat->Bool)(fn:Fn)(cs:List AV):view D 9 (.func fn cs)=(qba (view D 8) cs).bind fun A=>.ret (.func fn A):=rfl
theorem vuw(D:Nat->Bool)(x:PV):view D 8 (.p x)=.ret x:=rfl
theorem vft(D:Nat->Bool):view D 8 .nils=.ret (.slc []):=rfl
theorem vjl(D:Nat->Bool)(cs:List AV):view D 8 (.agg cs)=(qba (view D 7) cs).bind fun A=>.ret (.agg A):=rfl
theorem vux(D:Nat->Bool)(x:PV):view D 7 (.p x)=.ret x:=rfl
theorem vfu(D:Nat->Bool):view D 7 .nils=.ret (.slc []):=rfl
theorem vjm(D:Nat->Bool)(cs:List AV):view D 7 (.agg cs)=(qba (view D 6) cs).bind fun A=>.ret (.agg A):=rfl
theorem vuy(D:Nat->Bool)(x:PV):view D 6 (.p x)=.ret x:=rfl
theorem vfv(D:Nat->Bool):view D 6 .nils=.ret (.slc []):=rfl
def qxy(D : Nat → Bool)(n l g off len : Nat) : L PV := if D l then .look l fun o => match o with
      | .arr _ _ g' es => if g = g' ∧ off + len ≤ es.length then (qba (view D n) ((es.drop off).take len)).bind fun A => .ret (.slc A) else .fail
      | _ => .fail
    else .fail
def q4m(D : Nat → Bool)(n l g i off : Nat) : L PV := if D l then .look l fun o => match o with
      | .arr _ _ g' es => if g = g' then (match es[i]? with
        | some x => (qba (view D n) (x.cells.drop off)).bind fun A => .ret (.imm A)
        | none => .fail) else .fail
      | _ => .fail
    else .fail
theorem vjn(D:Nat->Bool)(l g off len:Nat):view D 9 (.own l g off len)=qxy D 8 l g off len:=rfl
theorem vjo(D:Nat->Bool)(l g off len:Nat):view D 8 (.own l g off len)=qxy D 7 l g off len:=rfl
theorem vjp(D:Nat->Bool)(l g off len:Nat):view D 7 (.own l g off len)=qxy D 6 l g off len:=rfl
theorem vjq(D:Nat->Bool)(l g i off:Nat):view D 9 (.loc l g i off)=q4m D 8 l g i off:=rfl
theorem vjr(D:Nat->Bool)(l g i off:Nat):view D 8 (.loc l g i off)=q4m D 7 l g i off:=rfl
theorem vjs(D:Nat->Bool)(l g i off:Nat):view D 7 (.loc l g i off)=q4m D 6 l g i off:=rfl
theorem vfw(D:Nat->Bool)(A:List PV):qba (view D 9) (A.map .p)=.ret A:=qlm D 8 A
theorem vfx(D:Nat->Bool)(A:List PV):qba (view D 8) (A.map .p)=.ret A:=qlm D 7 A
theorem vfy(D:Nat->Bool)(A:List PV):qba (view D 7) (A.map .p)=.ret A:=qlm D 6 A
theorem vfz(D:Nat->Bool)(A:List PV):qba (view D 6) (A.map .p)=.ret A:=qlm D 5 A
theorem vau(f:AV->L PV):qba f []=.ret []:=rfl
theorem q7k(f:AV->L PV)(c:AV)(cs:List AV):qba f (c::cs)=(f c).bind fun x=>(qba f cs).bind fun A=>.ret (x::A):=rfl
attribute [go_sem] vuv vfr vjj vjk vfs vuw vft vjl vux vfu vjm vuy vfv vjn vjo vjp vjq vjr vjs qxy q4m vfw vfx vfy vfz vau q7k if_true if_false ite_true ite_false decide_true decide_false Bool.not_true Bool.not_false Bool.and_true Bool.true_and Bool.and_false Bool.false_and Bool.or_true Bool.true_or Bool.or_false Bool.false_or v6i v6j v8r v6e v6d v7r v9h v7m Option.bind_none v8m v8l v8o v8g v6r v5s List.drop_zero List.drop_succ_cons List.drop_nil List.take_zero List.take_succ_cons List.take_nil List.set_cons_zero List.set_cons_succ and_true true_and and_false false_and or_true true_or or_false false_or beq_self_eq_true v5k Bool.true_eq_false eq_self not_true_eq_false not_false_eq_true List.all_cons List.all_nil Option.isSome_some Option.isSome_none Option.getD_some Option.getD_none Int.toNat_natCast v8e List.any_nil AV.loc.injEq AV.own.injEq AV.p.injEq PV.int.injEq PV.bool.injEq PV.str.injEq PV.slc.injEq PV.agg.injEq PV.tup.injEq v7s v7t List.cons.injEq List.countP_nil Int.natCast_zero implies_true forall_const
end
end Go.Ab
namespace Go.Ab
variable {D:Prop}
open Go
variable {ops:Array Oper} {σ:Nat->AO} {α β:Type} {l:Nat} {inj:Inj} {w:World} {I:Nat->AV} {a:Act}
theorem q7l(P:Program)(B:Nat){ρ A:Operand->AV}(o:Oper)(h:∀x∈o.op.operands,ρ x=A x):aop P B ρ o=aop P B A o:=by
 obtain⟨dst,op,O,pos,J,I⟩:=o;have H:∀ps:Array (Nat×Operand),(∀x∈ps.toList.map (·.2),ρ x=A x)->(ps.toList.map fun p=>(p.1,ρ p.2))=(ps.toList.map fun p=>(p.1,A p.2)):=fun ps W =>
  v8u fun p U=>by rw[W p.2 (v81.2 ⟨p,U,rfl⟩)]
 cases op<;>simp only[Op.operands]at h<;>simp only[aop]
 case move x=>rw[h x (by simp)]
 case assign x=>rw[h x (by simp)]
 case pick c x y=>rw[h c (by simp),h x (by simp),h y (by simp)]
 case box t x=>rw[h x (by simp)]
 case build t ps=>rw[H ps fun x E=>h x (by simpa using E)]
 case buildSlice t n ps=>rw[H ps fun x E=>h x (by simpa using E)]
 case load t x=>rw[h x (by simp)]
 case store t x y=>rw[h x (by simp),h y (by simp)]
 case binOp op t x y yt=>rw[h x (by simp),h y (by simp)]
 case unOp op t x=>rw[h x (by simp)]
 case convert s d x=>rw[h x (by simp)]
 case makeFunc fn first captured =>
  have e:captured.toList.map ρ=captured.toList.map A:=v8u fun x E=>h x (by simp at E ⊢;exact .inr E)
  have M:first.toList.map ρ=first.toList.map A:=v8u fun x E=>h x (by simp at E ⊢;exact .inl E)
  rw[e,M]
 case makeSlice t l c=>rw[h l (by simp),h c (by simp)]
 case slice t x lo hi mx =>
  cases mx with
  |some m =>
   grind
  |none =>
   have V:lo.map ρ=lo.map A:=by cases lo<;>simp;exact h _ (by simp)
   have M:hi.map ρ=hi.map A:=by cases hi<;>simp;exact h _ (by simp)
   simp only[aop];rw[h x (by simp),V,M]
 case fieldAddr s x f=>rw[h x (by simp)]
 case indexAddr t x ix=>rw[h x (by simp),h ix (by simp)]
 case index t x ix=>rw[h x (by simp),h ix (by simp)]
 case makeMap t r=>cases r<;>rfl
 case lookup t m k c=>rw[h m (by simp),h k (by simp)]
 case mapUpdate t m k v=>rw[h m (by simp),h k (by simp),h v (by simp)]
 case insert t m k v=>rw[h m (by simp),h k (by simp),h v (by simp)]
 case field s x f=>rw[h x (by simp)]
 case nilCheck x=>rw[h x (by simp)]
 case extract x i=>rw[h x (by simp)]
 case call c =>
  obtain⟨callee,args,argTypes⟩:=c;cases callee with
  |value f=>rfl
  |invoke r m=>rfl
  | builtin b =>
   have ha:∀x∈args.toList,ρ x=A x:=fun x E=>h x (by simpa[Call.operands] using E)
   have e:args.toList.map ρ=args.toList.map A:=v8u ha;cases b<;>simp only[aop]
   case len =>
    grind
   case append =>
    grind
   case clear =>
    grind
   case max=>rw[e]
   case min=>rw[e]
structure Evt where
 v:AV
 u:Upd
 reads:List Nat
def Evt.wr(e:Evt):Option Nat:=e.u.map (·.1)
def qkl(ρ:Operand->AV)(f:Operand)(args:List Operand):Option (FuncId×List AV) :=
 match ρ f with
 |.p (.func (.func k) cs)=>some (k,args.map ρ++cs.map .p)
 |.func (.func k) cs=>some (k,args.map ρ++cs)
 |.p (.bfn (.func k) bs)=>some (k,bs.map .p++args.map ρ)
 |_=>none
structure Cln(P:Program)(k:FuncId)(e sz by':Nat):Prop where
 body:HasBody P k
 ptr:∀(b off n c:Nat) (news:List Value) (w:World),news.length=n*sz->n<=maxLen->n*by'<=140737488355328->(∀j u,news[j]?=some u->w.cell? ⟨b,off+j,none⟩=some u)->(∀u∈news,u.oneCell'=true) ->
  Calls P k #[.slice (some ⟨b,off,none⟩) n c] w fun e' w'=>∃v,e'=.returned v/\w'.ownsRow w.heap.size e sz v n news/\RowKit.Below w.heap.size w w'
 zero:∀(a:Addr) (c:Nat) (w:World),Calls P k #[.slice (some a) 0 c] w fun e' w'=>∃v,e'=.returned v/\w'.ownsRow w.heap.size e sz v 0 []/\RowKit.Below w.heap.size w w'
 nil:∀(n c:Nat) (w:World),Calls P k #[.slice none n c] w fun e' w'=>e'=.returned (.slice none 0 0)/\w'=w
def OpU(D:Prop)(P:Program)(o:Oper)(ρ:Operand->AV)(σ:Nat->AO)(v:AV)(u:Upd)(rs:List Nat):Prop :=
 ∀(X:Nat->Prop) (A:Operand->AV) (E:Nat->AO),(∀x∈o.op.operands,A x=ρ x)->(∀l∈rs,E l=σ l) ->
  ∀{inj:Inj} {w:World} {a:Act} {next:Act->World->Prop} {Q:Exit->Act->World->Prop},HR X inj E w->TabOk P (fun b=>X b\/F inj E b) w->(∀x,AR X inj E w (A x) (a.eval x)) ->
   (∀val w' H,HR X H (upd E u) w'->Ev D X inj E w H (upd E u) w'->AR X H (upd E u) w' v val->next (a.put o.dst val) w')->o.wp P a w next Q
inductive Does (C:Cx) (o:Oper) (ρ:Operand->AV) (σ:Nat->AO):Evt->Prop
 |op {v u} (h:(aop C.P C.B ρ o).run σ=some (v,u)):Does C o ρ σ ⟨v,u,(aop C.P C.B ρ o).reads σ⟩
 | call {f args ats k avs pargs r} (hp:v0a C.D C.P k pargs r) (ho:o.op=.call ⟨.value f,args,ats⟩) (hk:HasBody C.P k) (hc:qkl ρ f args.toList=some (k,avs))
   (hv:(qba (view (fun _=>true) 9) avs).run σ=some pargs) (hfl:(qq9 avs).isSome=true\/r.flat=true) :
   Does C o ρ σ ⟨.p r,none,(qba (view (fun _=>true) 9) avs).reads σ⟩
 | built {t len parts v u x} (ho:o.op=.buildSlice t len parts) (h:(aop C.P C.B ρ o).run σ=some (v,u)) (hv:(view (fun l=>l == qlo C.B o) 9 v).run (upd σ u)=some x) :
   Does C o ρ σ ⟨.p x,none,(aop C.P C.B ρ o).reads σ++(view (fun l=>l==qlo C.B o) 9 v).reads (upd σ u)⟩
 | cloned {f args ats k e sz by' g xs} (S:Cln C.P k e sz by') (hw:¬C.D) (ho:o.op=.call ⟨.value f,args,ats⟩) (hc:qkl ρ f args.toList=some (k,[.p (.slc xs)]))
   (hel:(xs.map AV.p).all (qhb sz)=true) (hn:xs.length<=maxLen) (hby:xs.length*by'<=140737488355328) (hg:σ (qlo C.B o)=.dead g) :
   Does C o ρ σ ⟨.own (qlo C.B o) (g+1) 0 xs.length,some (qlo C.B o,.arr e sz (g+1) (xs.map AV.p)),[qlo C.B o]⟩
 |ext {v u rs} (h:OpU C.D C.P o ρ σ v u rs):Does C o ρ σ ⟨v,u,rs⟩
theorem q0j{X:Nat->Prop}{P:Program}(h:HR X inj σ w){k:Nat}{t:TypeId}{len:Nat}{parts:List (Nat×AV)}{vparts:Array (Nat×Value)}{r:AV}{I:Upd}(hp:PartsR X inj σ w parts vparts.toList)
  (hr:(qid P k t len parts).run σ=some (r,I)) :
  ∃cs e,(Instr.buildSlice t len vparts).run P w=.ok (.slice (some ⟨w.heap.size,0,none⟩) len len) (w.alloc (.cells cs e)):=by
 unfold qid at hr;split at hr
 case h_2=>simp at hr
 rename_i e hu;split at hr
 case isFalse=>simp at hr
 rename_i hc;obtain⟨H,U,hsm,V,hmx,hzs⟩:=hc;obtain⟨i,z,hi,hz,hzl',J,hib⟩:=qxv hzs;obtain⟨hf,Z⟩:=hp.fst;obtain⟨W,hone⟩:=qk5 U Z;have A:(vparts.toList.map (·.2)).length=len:=by
  have:=congrArg List.length (hf▸H);simpa using this
 have E:vparts.toList=((vparts.toList.map (·.2)).zipIdx 0).map fun x=>(x.2,x.1):=q7c 0 (by rw[<-hf,H,List.range_eq_range'])
 have M:(flat (vparts.toList.map (·.2))).length=len*P.cellsOf e:=by rw[qb1 W,A]
 refine⟨(flat (vparts.toList.map (·.2))).toArray,e,?_⟩;by_cases h0:len*P.cellsOf e=0
 ·have O:len=0:=by
   rcases Nat.mul_eq_zero.1 h0 with h1|h1
   ·exact h1
   ·omega
  have hfl0:flat (vparts.toList.map (·.2))=[]:=v5x (by rw[M,h0]);have hv0:vparts.toList=[]:=v5x (by rw[O]at A;simpa using A);have hv1:vparts=#[]:=by apply v5b;simpa using hv0
  subst O;subst hv1;simp[Instr.buildSlice,run_underlying hu,sizeOf,typeInfo,hi,Instr.fill,newRow,flat]
  grind
 ·have hw:=Great.fill_whole (s:=P.cellsOf e) V (vparts.toList.map (·.2)) ((v71 (len*P.cellsOf e)).map (z.cells[· % z.cells.size]!)) W (by rw[A];simp);rw[<-E]at hw;have:=run_buildSlice (P:=P) w t e len vparts _ i z hu hi hz (by rw[J];omega) (by rw[J];exact h0) (by rw[J];exact hw);rw[this];rfl
theorem Fr.alloc(w:World)(c:Array Value)(t:TypeId):Fr D w (w.alloc (.cells c t)):=by
 have A:(w.alloc (.cells c t)).heap=w.heap.push (.cells c t):=rfl;refine⟨rfl,rfl,rfl,fun _=>v7a _,by rw[A,Array.size_push];omega,fun a _=>qs1 w c t a,fun b E=>?_⟩
 grind
theorem vav{u:Upd}(h:u.map (·.1)≠some l):upd σ u l=σ l:=by
 cases u with
 |none=>rfl
 |some p=>simp only[upd,qmz];rw[if_neg (fun e=>h (by simp[e]))]
theorem vuz{τ:Nat->AO}{u:Upd}(h:u.map (·.1)=some l):upd σ u l=upd τ u l:=by
 cases u with
 |none=>cases h
 |some p=>simp only[v7r,v7s]at h;simp[upd,qmz,h]
theorem Does.frame{C:Cx}{o:Oper}{ρ A:Operand->AV}{σ τ:Nat->AO}{e:Evt}(h:Does C o ρ σ e)(hρ:∀x∈o.op.operands,ρ x=A x)(E:∀l∈e.reads,τ l=σ l):Does C o A τ e:=by
 cases h with
 |@op v u h =>
  rw[q7l C.P C.B o hρ]at h E ⊢;obtain⟨h1,I⟩:=L.frame _ h E;rw[<-I];exact .op h1
 | @call f args ats k avs pargs r hp ho hk hc hv hfl =>
  have hf:ρ f=A f:=hρ f (by rw[ho];simp[Op.operands,Call.operands]);have ha:args.toList.map ρ=args.toList.map A:=v8u fun x H=>hρ x (by rw[ho];simp[Op.operands,Call.operands]at H ⊢;exact .inr H)
  have J:qkl A f args.toList=some (k,avs):=by
   unfold qkl at hc ⊢
   grind
  obtain⟨h1,I⟩:=L.frame _ hv E;rw[<-I];exact .call hp ho hk J h1 hfl
 | @built t len parts v u x ho h hv =>
  rw[q7l C.P C.B o hρ]at h E ⊢;obtain⟨h1,I⟩:=L.frame _ h fun l hl=>E l (v6k.2 (.inl hl))
  have O:∀l∈(view (fun l=>l==qlo C.B o) 9 v).reads (upd σ u),upd τ u l=upd σ u l:=fun l hl=>by
   by_cases M:u.map (·.1)=some l
   ·exact vuz M
   ·rw[vav M,vav M];exact E l (v6k.2 (.inr hl))
  obtain⟨Z,W⟩:=L.frame _ hv O;rw[<-I,<-W];exact .built ho h1 Z
 | @cloned f args ats k e sz by' g xs S M ho hc hel hn hby hg =>
  have hf:ρ f=A f:=hρ f (by rw[ho];simp[Op.operands,Call.operands]);have ha:args.toList.map ρ=args.toList.map A:=v8u fun x H=>hρ x (by rw[ho];simp[Op.operands,Call.operands]at H ⊢;exact .inr H)
  have J:qkl A f args.toList=some (k,[.p (.slc xs)]):=by
   unfold qkl at hc ⊢
   grind
  exact .cloned S M ho J hel hn hby (by rw[E _ (by simp)];exact hg)
 |@ext v u rs h=>exact .ext fun X V U h1 I=>h X V U (fun x H=>(h1 x H).trans (hρ x H).symm) fun l hl=>(I l hl).trans (E l hl)
structure SRf(C:Cx)(ef:Nat->AV)(σ:Nat->AO)(inj:Inj)(a:Act)(w:World):Prop where
 env:∀t,AR C.X inj σ w (ef t) (a.tmps.getD t undef)
 size:a.tmps.size=C.N
 defers:a.defers=[]
 hr:HR C.X inj σ w
 ev:Ev C.D C.X C.inj0 (qav C.H0) C.w0 inj σ w
def evf(I:Nat->AV):Operand->AV
 |.tmp t=>I t
 |.const v=>ofV v
 |.func f=>.p (.func (.func f) [])
 |.global _=>.any
theorem q0k(env:Env):evf env.get=ev env:=by funext x;cases x<;>rfl
theorem SRf.eval{C:Cx}{I:Nat->AV}{σ:Nat->AO}{inj:Inj}{a:Act}{w:World}(h:SRf C I σ inj a w)(x:Operand):AR C.X inj σ w (evf I x) (a.eval x):=by
 cases x with
 |tmp t=>exact h.env t
 |const v=>exact qym v
 |global g=>trivial
 |func f=>exact⟨[],rfl,rfl⟩
def qxs(I:Nat->AV)(d:Option Tmp)(v:AV):Nat->AV:=fun t=>if d=some t then v else I t
theorem SRf.put{C:Cx}{I:Nat->AV}{σ:Nat->AO}{inj:Inj}{a:Act}{w:World}(h:SRf C I σ inj a w){o:Oper}(M:qb2 C.N o=true){v:AV}{val:Value}{u:Upd}{A:Inj}{w':World}
  (h1:HR C.X A (upd σ u) w') (H:Ev C.D C.X inj σ w A (upd σ u) w') (O:AR C.X A (upd σ u) w' v val) :
  SRf C (qxs I o.dst v) (upd σ u) A (a.put o.dst val) w':=by
 refine⟨fun t=>?_,?_,?_,h1,h.ev.trans H⟩
 ·unfold qxs;cases E:o.dst with
  |none=>simpa[Act.put] using AR.ev H h.hr.xlt _ _ (h.env t)
  | some d =>
   simp only[qb2,E,decide_eq_true_eq]at M;simp only[Act.put,v7s];by_cases J:d=t
   ·subst J;rw[if_pos rfl];have:(a.tmps.setIfInBounds d val).getD d undef=val:=by simp[h.size,M]
    grind
   ·rw[if_neg J];have:(a.tmps.setIfInBounds d val).getD t undef=a.tmps.getD t undef:=by simp[v5e J]
    rw[this];exact AR.ev H h.hr.xlt _ _ (h.env t)
 ·cases E:o.dst<;>simp[Act.put,h.size]
 ·cases E:o.dst<;>simp[Act.put,h.defers]
theorem Does.sound{C:Cx}{o:Oper}{e:Evt}{next:Act->World->Prop}{Q:Exit->Act->World->Prop}
  (h:Does C o (evf I) σ e) (O:SRf C I σ inj a w) (hd:qb2 C.N o=true) (hnx:∀a' w' inj',SRf C (qxs I o.dst e.v) (upd σ e.u) inj' a' w'->next a' w'):o.wp C.P a w next Q:=by
 cases h with
 |@op v u h =>
  exact viz C.B o (evf I) O.hr (fun x=>O.eval x) h fun val w' inj' h1 Z h3=>hnx _ _ _ (O.put hd h1 Z.weak.weak h3)
 | @call f args ats k avs pargs r hp ho hk hc hv hfl =>
  have hf:=O.eval f;have W:=qrc (fun x=>O.eval x) args.toList;have hcall:∃vs,(execOp a.eval o).run C.P w=.ok (.enter k vs.toArray) w/\ARs C.X inj σ w avs vs:=by
   obtain⟨dst,op,U,pos,J,H⟩:=o;simp only at ho;subst ho;unfold qkl at hc;have run:∀cap:Array Value,a.eval f=.func (.func k) #[] cap->(execOp a.eval ⟨dst,.call ⟨.value f,args,ats⟩,U,pos,J,H⟩).run C.P w=.ok (.enter k (args.map a.eval++cap)) w:=by
    intro cap he;simp only[execOp,resolve,Deferred.ofValue,he,v7w,v7x,v7u,invoke];rw[hk];simp
   split at hc
   ·rename_i k' cs hev;simp only[v7s,v7t]at hc;obtain⟨rfl,rfl⟩:=hc;rw[hev]at hf;obtain⟨vs,h1,Z⟩:=hf;refine⟨args.toList.map a.eval++vs,?_,W.append (qby.2 Z)⟩;rw[run vs.toArray h1];congr 2
    grind
   ·rename_i k' cs hev;simp only[v7s,v7t]at hc;obtain⟨rfl,rfl⟩:=hc;rw[hev]at hf;obtain⟨vs,h1,Z⟩:=hf;refine⟨args.toList.map a.eval++vs,?_,W.append Z⟩;rw[run vs.toArray h1];congr 2
    grind
   ·rename_i k' E hev;simp only[v7s,v7t]at hc;obtain⟨rfl,rfl⟩:=hc;rw[hev]at hf;obtain⟨vs,h1,Z⟩:=hf;refine⟨vs++args.toList.map a.eval,?_,(qby.2 Z).append W⟩;simp only[execOp,resolve,Deferred.ofValue,h1,v7w,v7x,v7u,invoke];rw[hk];congr 2
    grind
   ·cases hc
  obtain⟨vs,hrun,hars⟩:=hcall;unfold Oper.wp;rw[hrun];simp only[Oper.upon];rcases hfl with hfl|hfl
  ·obtain⟨A,hxs⟩:=v7p.1 hfl;have hav:=qve hxs;subst hav;rw[qlm]at hv;simp only[L.run_ret,v7s]at hv;subst hv;refine(hp (fun b=>C.X b\/F inj σ b) w vs (fun b hb=>hb.elim (O.hr.xlt b) fun hf=>(O.hr.flt hf).1) (qo9 O.ev) (qby.1 hars)).mono ?_;rintro e w' ⟨v,rfl,h1,Z⟩;exact hnx _ _ inj (O.put (u:=none) hd (O.hr.fr Z) Z.ev h1)
  ·have hpr:=qeh (qep O.hr (fun _=>true) 9) avs vs pargs hars hv;have hpr':PRs C.X w pargs vs:=PRs.keep ⟨v7a _,fun _ _ _=>rfl,fun b _ hx hn=>hx (.inl hn)⟩ pargs vs hpr;refine(hp C.X w vs O.hr.xlt ((qo9 O.ev).keep ⟨v7a _,fun _ _ _=>rfl,fun b _ hx hn=>hx (.inl hn)⟩) hpr').mono ?_;rintro e w' ⟨v,rfl,h1,Z⟩;exact hnx _ _ inj (O.put (u:=none) hd (O.hr.fr Z) Z.ev (PR.flat r v hfl h1))
 | @built t len parts v u x ho h hv =>
  obtain⟨dst,op,U,pos,J,H⟩:=o;simp only at ho;subst ho;have hr:(qid C.P (qlo C.B ⟨dst,.buildSlice t len parts,U,pos,J,H⟩) t len (parts.toList.map fun p=>(p.1,evf I p.2))).run σ=some (v,u):=h;have hp:PartsR C.X inj σ w (parts.toList.map fun p=>(p.1,evf I p.2)) (parts.map fun p=>(p.1,a.eval p.2)).toList:=by simpa using quf (fun x=>O.eval x) parts.toList
  obtain⟨val,w',inj',h1,Z,h3,h4⟩:=qqh (P:=C.P) (D:=C.D) O.hr hp hr;obtain⟨cs,e,h5⟩:=q0j (P:=C.P) O.hr hp hr;rw[h5]at h1;simp only[Result.ok.injEq]at h1;obtain⟨rfl,rfl⟩:=h1;have hfr:Fr C.D w (w.alloc (.cells cs e)):=Fr.alloc w _ _;have hx0:=qep Z (fun l=>l==qlo C.B ⟨dst,.buildSlice t len parts,U,pos,J,H⟩) 9 v _ x h4 hv;have hx:AR C.X inj σ (w.alloc (.cells cs e)) (.p x) (Value.slice (some ⟨w.heap.size,0,none⟩) len len):=by
   refine PR.keep ⟨v7a _,fun _ _ _=>rfl,fun b _ hx hn=>hx ?_⟩ x _ hx0;rcases hn with hn|hn
   ·exact .inl hn
   ·refine .inr ?_;obtain⟨l,c,o,g1,g2,g3,g4⟩:=hn;have hw:∃g,σ (qlo C.B ⟨dst,.buildSlice t len parts,U,pos,J,H⟩)=.dead g/\u.map (·.1)=some (qlo C.B ⟨dst,.buildSlice t len parts,U,pos,J,H⟩):=by
     unfold qid at hr;split at hr
     case h_2=>simp at hr
     split at hr
     case isFalse=>simp at hr
     obtain⟨g,q1,_,q3⟩:=q4e hr
     grind
    obtain⟨g,q1,q2⟩:=hw;have hne:l≠qlo C.B ⟨dst,.buildSlice t len parts,U,pos,J,H⟩:=fun he=>by
     subst he;rw[q1]at g1;subst g1;cases g2
    have hu':upd σ u l=σ l:=vav (by rw[q2];intro he;exact hne (by simpa using he.symm));have ho:=(h3.objs l).2;rw[hu',g1]at ho;refine⟨l,c,o,by rw[hu',g1],g2,by simpa using hne,?_⟩
    grind
  have e':(parts.map fun p=>(p.1,a.eval p.2))=(parts.map fun(i,x)=>(i,a.eval x)):=rfl;rw[e']at h5;have he:execOp a.eval ⟨dst,.buildSlice t len parts,U,pos,J,H⟩=(do pure (Next.value (<-Instr.buildSlice t len (parts.map fun(i,x)=>(i,a.eval x))))):=by
   simp only[execOp]
  exact qs6 he h5 (hnx _ _ inj (O.put (u:=none) hd (O.hr.fr hfr) hfr.ev hx))
 | @cloned f args ats k e sz by' g A S hw ho hc hel hn hby hg =>
  have hf:=O.eval f;have W:=qrc (fun x=>O.eval x) args.toList;obtain⟨avs,havs⟩:∃avs,avs=[AV.p (.slc A)]:=⟨_,rfl⟩;rw[<-havs]at hc;have hnext:=hnx;have hk:HasBody C.P k:=S.body;have hcall:∃vs,(execOp a.eval o).run C.P w=.ok (.enter k vs.toArray) w/\ARs C.X inj σ w avs vs:=by
   obtain⟨dst,op,U,pos,J,H⟩:=o;simp only at ho;subst ho;unfold qkl at hc;have run:∀cap:Array Value,a.eval f=.func (.func k) #[] cap->(execOp a.eval ⟨dst,.call ⟨.value f,args,ats⟩,U,pos,J,H⟩).run C.P w=.ok (.enter k (args.map a.eval++cap)) w:=by
    intro cap he;simp only[execOp,resolve,Deferred.ofValue,he,v7w,v7x,v7u,invoke];rw[hk];simp
   split at hc
   ·rename_i k' cs hev;simp only[v7s,v7t]at hc;obtain⟨rfl,rfl⟩:=hc;rw[hev]at hf;obtain⟨vs,h1,Z⟩:=hf;refine⟨args.toList.map a.eval++vs,?_,W.append (qby.2 Z)⟩;rw[run vs.toArray h1];congr 2
    grind
   ·rename_i k' cs hev;simp only[v7s,v7t]at hc;obtain⟨rfl,rfl⟩:=hc;rw[hev]at hf;obtain⟨vs,h1,Z⟩:=hf;refine⟨args.toList.map a.eval++vs,?_,W.append Z⟩;rw[run vs.toArray h1];congr 2
    grind
   ·rename_i k' E hev;simp only[v7s,v7t]at hc;obtain⟨rfl,rfl⟩:=hc;rw[hev]at hf;obtain⟨vs,h1,Z⟩:=hf;refine⟨vs++args.toList.map a.eval,?_,(qby.2 Z).append W⟩;simp only[execOp,resolve,Deferred.ofValue,h1,v7w,v7x,v7u,invoke];rw[hk];congr 2
    grind
   ·cases hc
  obtain⟨vs,hrun,hars⟩:=hcall;rw[havs]at hars;unfold Oper.wp;rw[hrun];simp only[Oper.upon];obtain⟨v1,r1,rfl,ha1,rfl⟩:=hars;have ha2:PR (fun b=>C.X b\/F inj σ b) w (.slc A) v1:=ha1;simp only[PR]at ha2;obtain⟨V,cap,us,rfl,hcap,hus,hat⟩:=ha2;have hus':ARs C.X inj σ w (A.map AV.p) us:=qby.2 hus;obtain⟨hsz,hone⟩:=qk5 hel hus';have hlen:us.length=A.length:=by have:=hus'.length;simpa using this.symm
  have hfl:(flat us).length=A.length*sz:=by rw[qb1 hsz,hlen]
  have fin:∀v w',World.ownsRow w' w.heap.size e sz v A.length (flat us)->RowKit.Below w.heap.size w w'->next (a.put o.dst v) w':=by
   intro v w' hrow M;have hfz:∀a:Addr,a.block<w.heap.size->w'.frozen? a=w.frozen? a:=fun a ha=>by unfold World.frozen?;rw[M.block _ ha]
   obtain⟨_,hrow⟩:=hrow;rcases hrow with⟨rfl,hz⟩|⟨gb,cp,cur,rfl,hbase,hgb,q1,q2,q3,q4⟩
   ·have hxs:A=[]:=List.length_eq_zero_iff.1 hz;have hup:=O.hr.update (D:=C.D) (w':=w') (l:=qlo C.B o) (o:=.dead g) (o':=.arr e sz (g+1) (A.map AV.p)) (x:=none) hg M.os M.tape M.output (fun hd=>absurd hd hw) M.size hfz
     (fun b hb _=>M.block b hb) (fun b1 c1 h1=>by cases h1) ⟨by simp[AO.gen],fun _ he=>by simp[AO.gen]at he⟩
    obtain⟨hev,hhr⟩:=hup;refine hnext _ _ _ (O.put (u:=some (qlo C.B o,.arr e sz (g+1) (A.map AV.p))) hd (hhr ⟨us,ARs.ev hev O.hr.xlt _ us hus',hsz,hone,.inl ⟨by simp,by rw[hxs];rfl⟩⟩) hev ?_);refine⟨⟨_,_,_,rfl⟩,fun oo hoo=>?_⟩;have:oo=.arr e sz (g+1) (A.map AV.p):=by rw[<-hoo];exact qc1 _ _ _
    subst this;exact⟨v7a _,fun _ e1 sz1 es1 he=>by cases he;exact⟨by simp,.inl ⟨by simp,rfl,rfl,hz⟩⟩⟩
   ·have hup:=O.hr.update (D:=C.D) (w':=w') (l:=qlo C.B o) (o:=.dead g) (o':=.arr e sz (g+1) (A.map AV.p)) (x:=some (gb,cp)) hg M.os M.tape M.output (fun hd=>absurd hd hw) M.size hfz
     (fun b hb _=>M.block b hb) (fun b1 c1 h1=>by cases h1;exact .inl hbase) ⟨by simp[AO.gen],fun _ he=>by simp[AO.gen]at he⟩
    obtain⟨hev,hhr⟩:=hup;have hH:=hhr ⟨us,ARs.ev hev O.hr.xlt _ us hus',hsz,hone,.inr ⟨gb,cp,cur,by simp,fun hX=>by have:=O.hr.xlt gb hX;omega,hgb,by simpa using q1,q2,q3,by simpa using q4⟩⟩;refine hnext _ _ _ (O.put (u:=some (qlo C.B o,.arr e sz (g+1) (A.map AV.p))) hd hH hev ?_);have hown:ve6 (fun q=>if q=qlo C.B o then some (gb,cp) else inj q) (qmz σ (qlo C.B o) (.arr e sz (g+1) (A.map AV.p))) (qlo C.B o) (g+1) 0 A.length (.slice (some ⟨gb,0,none⟩) A.length cp):=qo6 (qc1 _ _ _) (if_pos rfl) (by simp) q1;exact hown
  rcases hat with rfl|⟨b,off,sz',rfl,hsz2,hone2,hrow⟩
  ·have hx0:A.length=0:=by rw[<-hlen];rfl
   cases V with
   |none =>
    refine(S.nil _ _ w).mono ?_;rintro e' w' ⟨rfl,rfl⟩;exact fin _ _ (by rw[hx0];exact⟨by simp[flat],.inl ⟨rfl,rfl⟩⟩) (RowKit.Below.refl _ _)
   |some ad =>
    rw[hx0];refine(S.zero ad _ w).mono ?_;rintro e' w' ⟨v,rfl,h1,Z⟩;exact fin _ _ (by rw[hx0];exact h1) Z
  ·obtain⟨_,_,hcell⟩:=hrow;refine(S.ptr b off _ _ (flat us) w hfl hn hby hcell hone).mono ?_
   grind
 |@ext v u rs h=>exact h C.X _ _ (fun _ _=>rfl) (fun _ _=>rfl) O.hr (qo9 O.ev) (fun x=>O.eval x) fun val w' inj' h1 Z h3=>hnx _ _ _ (O.put hd h1 Z h3)
def qqi(ops:Array Oper)(I:Nat->AV)(o:Oper):Option Bool :=
 match o.guard with
 |none=>some true
 |some (j,want)=>match (ops[j]?).bind (·.dst) with
  |some d=>(match I d with|.p (.bool b)=>some (b==want)|.p (.tup [])=>some false|_=>none)
  |none=>none
theorem qqj(ops:Array Oper)(env:Env)(o:Oper):qqi ops env.get o=qbh ops env o:=rfl
theorem qk7{C:Cx}{o:Oper}{b:Bool}(h:SRf C I σ inj a w)(A:qqi ops I o=some b) :
  Region.wanted o (yielded ops a.tmps)=b:=by
 unfold qqi at A;unfold Region.wanted;split at A
 ·grind
 ·rename_i j J V;rw[V];split at A
  ·rename_i d W;have E:=h.env d;split at A
   ·rename_i M U;simp only[v7s]at A;subst A;rw[U]at E;simp only[AR,PR]at E;have H:a.tmps[d]?=some (.bool M):=by
     cases O:a.tmps[d]? with
     |none=>simp[O,undef]at E
     |some x=>simp[O]at E;rw[E]
    simp only[yielded,W,v7m,H]
    grind
   ·rename_i U;simp only[v7s]at A;subst A;rw[U]at E;obtain⟨vs,E,_⟩:=E;have H:a.tmps[d]?=none\/a.tmps[d]?=some (.tuple vs.toArray):=by
     cases O:a.tmps[d]? with
     |none=>exact .inl rfl
     |some x=>simp[O]at E;exact .inr (by rw[E])
    rcases H with H|H<;>simp only[yielded,W,v7m,H]<;>cases J<;>rfl
   ·cases A
  ·cases A
def vaw(C:Cx)(ops:Array Oper)(o:Oper)(I:Nat->AV)(σ:Nat->AO)(e:Evt):Prop :=
 qb2 C.N o=true/\((qqi ops I o=some true/\Does C o (evf I) σ e)\/(qqi ops I o=some false/\e=⟨.p (.tup []),none,[]⟩))
theorem qqk{o:Oper}{t:Tmp}(h:Operand.tmp t∈o.op.operands):t∈o.looksAt ops:=by
 unfold Oper.looksAt;refine v6k.2 (.inl ?_);exact List.mem_filterMap.2 ⟨.tmp t,by simpa using h,rfl⟩
theorem vaw.frame{C:Cx}{ops:Array Oper}{o:Oper}{I A:Nat->AV}{σ τ:Nat->AO}{e:Evt}(h:vaw C ops o I σ e)(M:∀t∈o.looksAt ops,A t=I t)(E:∀l∈e.reads,τ l=σ l) :
  vaw C ops o A τ e:=by
 obtain⟨W,h⟩:=h;have Z:qqi ops A o=qqi ops I o:=by
  unfold qqi;split
  ·rfl
  ·rename_i j O J;split
   ·rename_i d H;rw[M d (by unfold Oper.looksAt;refine v6k.2 (.inr ?_);rw[J];simp[H])]
   ·rfl
 refine⟨W,?_⟩;rw[Z];rcases h with⟨h1,U⟩|h
 ·refine .inl ⟨h1,U.frame (fun x V=>?_) E⟩;cases x with
  |tmp t=>exact(M t (qqk V)).symm
  |_=>rfl
 ·exact .inr h
def apD(ops:Array Oper):List Evt->Nat->(Nat->Bool)->(Nat->AV)×(Nat->AO)->(Nat->AV)×(Nat->AO)
 |[],_,_,s=>s
 |e::es,i,D,s=>apD ops es (i+1) D (if D i then(qxs s.1 ((ops[i]?).bind (·.dst)) e.v,upd s.2 e.u) else s)
def q0l(C:Cx)(ops:Array Oper):List Evt->Nat->(Nat->AV)×(Nat->AO)->Prop
 |[],i,_=>ops.size<=i
 |e::es,i,s=>(∃o,ops[i]?=some o/\vaw C ops o s.1 s.2 e)/\q0l C ops es (i+1) (qxs s.1 ((ops[i]?).bind (·.dst)) e.v,upd s.2 e.u)
theorem qzq(ops:Array Oper)(t:Nat):∀(es:List Evt) (i:Nat) (D A:Nat->Bool) (s s':(Nat->AV)×(Nat->AO)),s.1 t=s'.1 t ->
  (∀j,i<=j->j<i+es.length->(ops[j]?).bind (·.dst)=some t->D j=A j)->(apD ops es i D s).1 t=(apD ops es i A s').1 t
 |[],_,_,_,_,_,h,_=>h
 | e :: es,i,D,A,s,s',h,hD=>by
  simp only[apD];refine qzq ops t es (i+1) D A _ _ ?_ fun j h1 I H=>hD j (by omega) (by simp only[v8r];omega) H
  by_cases E:(ops[i]?).bind (·.dst)=some t
  ·rw[hD i (v7a _) (by simp) E];split
   ·simp[qxs,E]
   ·exact h
  ·split<;>split<;>simp[qxs,E,h]
theorem q3g{u:Upd}(h:u.map (·.1)≠some l):upd σ u l=σ l:=by
 cases u with
 |none=>rfl
 |some p=>simp only[upd,qmz];rw[if_neg (fun e=>h (by simp[e]))]
theorem vjt{τ:Nat->AO}{u:Upd}(h:u.map (·.1)=some l):upd σ u l=upd τ u l:=by
 cases u with
 |none=>cases h
 |some p=>simp only[v7r,v7s]at h;simp[upd,qmz,h]
theorem q4n(ops:Array Oper)(l:Nat):∀(es:List Evt) (i:Nat) (D A:Nat->Bool) (s s':(Nat->AV)×(Nat->AO)),s.2 l=s'.2 l ->
  (∀j e,i<=j->es[j-i]?=some e->e.wr=some l->D j=A j)->(apD ops es i D s).2 l=(apD ops es i A s').2 l
 |[],_,_,_,_,_,h,_=>h
 | e :: es,i,D,A,s,s',h,hD=>by
  simp only[apD];refine q4n ops l es (i+1) D A _ _ ?_ fun j e' h1 I J=>hD j e' (by omega) (by rw[show j-i=(j-(i+1))+1 by omega];simpa using I) J
  by_cases E:e.wr=some l
  ·rw[hD i e (v7a _) (by simp) E];split
   ·exact vjt E
   ·exact h
  ·have H:e.u.map (·.1)≠some l:=E;split<;>split<;>simp only[q3g H,h]
theorem qzr(ops:Array Oper)(i:Nat)(Z:Evt):∀(es:List Evt) (k:Nat) (D:Nat->Bool) (s:(Nat->AV)×(Nat->AO)),k<=i->es[i-k]?=some Z->D i=false ->
  (∀j e,i<j->es[j-k]?=some e->D j=true->((ops[j]?).bind (·.dst)=none\/(ops[j]?).bind (·.dst)≠(ops[i]?).bind (·.dst))/\(e.wr=none\/e.wr≠Z.wr)) ->
  apD ops es k (fun j=>j==i||D j) s=(qxs (apD ops es k D s).1 ((ops[i]?).bind (·.dst)) Z.v,upd (apD ops es k D s).2 Z.u)
 |[],k,D,s,_,h,_,_=>by simp at h
 | e :: es,k,D,s,hk,h,hi,W=>by
  by_cases O:k=i
  ·subst O;simp only[Nat.sub_self,v8m,v7s]at h;subst h;simp only[apD,beq_self_eq_true,Bool.true_or,if_true,hi,v5k,if_false]
   -- the rest commutes
   have U:∀(es':List Evt) (m:Nat) (J E:Nat->Bool) (s:(Nat->AV)×(Nat->AO)),(∀j,m<=j->J j=E j) ->
     (∀j e',m<=j->es'[j-m]?=some e'->E j=true->((ops[j]?).bind (·.dst)=none\/(ops[j]?).bind (·.dst)≠(ops[k]?).bind (·.dst))/\(e'.wr=none\/e'.wr≠e.wr)) ->
     apD ops es' m J (qxs s.1 ((ops[k]?).bind (·.dst)) e.v,upd s.2 e.u)=(qxs (apD ops es' m E s).1 ((ops[k]?).bind (·.dst)) e.v,upd (apD ops es' m E s).2 e.u):=by
    intro es'
    induction es' with
    |nil=>intro m J E s _ _;rfl
    | cons e' es' ih =>
     intro m J E s hD hw;simp only[apD,hD m (v7a _)];cases hm:E m with
     |false =>
      simp only[v5k,if_false];exact ih (m+1) J E s (fun j W=>hD j (by omega)) fun j V h1 H I=>hw j V (by omega) (by rw[show j-m=(j-(m+1))+1 by omega];simpa using H) I
     | true =>
      simp only[if_true];obtain⟨w1,w2⟩:=hw m e' (v7a _) (by simp) hm;have V:qxs (qxs s.1 ((ops[k]?).bind (·.dst)) e.v) ((ops[m]?).bind (·.dst)) e'.v=qxs (qxs s.1 ((ops[m]?).bind (·.dst)) e'.v) ((ops[k]?).bind (·.dst)) e.v:=by
       funext t;simp only[qxs]
       grind
      have e2:upd (upd s.2 e.u) e'.u=upd (upd s.2 e'.u) e.u:=by
       funext l;by_cases c1:e'.wr=some l
       ·by_cases c2:e.wr=some l
        ·grind
        ·have A:e.u.map (·.1)≠some l:=c2;rw[q3g (σ:=upd s.2 e'.u) A];exact vjt c1
       ·have M:e'.u.map (·.1)≠some l:=c1;rw[q3g (σ:=upd s.2 e.u) M];by_cases c2:e.wr=some l
        ·exact vjt c2
        ·have A:e.u.map (·.1)≠some l:=c2;rw[q3g A,q3g A,q3g M]
      rw[V,e2];exact ih (m+1) J E (qxs s.1 ((ops[m]?).bind (·.dst)) e'.v,upd s.2 e'.u) (fun j W=>hD j (by omega)) fun j V h1 H I=>hw j V (by omega) (by rw[show j-m=(j-(m+1))+1 by omega];simpa using H) I
   exact U es (k+1) _ D s (fun j W=>by have:(j==k)=false:=(by simp;omega);simp[this]) fun j e' h1 H I=>W j e' (by omega) (by rw[show j-k=(j-(k+1))+1 by omega];simpa using H) I
  ·have hb:(k==i)=false:=by simpa using O
   simp only[apD,hb,Bool.false_or];exact qzr ops i Z es (k+1) D _ (by omega) (by rw[show i-k=(i-(k+1))+1 by omega]at h;simpa using h) hi fun j e' h1 H I=>W j e' h1 (by rw[show j-k=(j-(k+1))+1 by omega];simpa using H) I
def qc7(ops:Array Oper)(j:Nat):List Nat :=
 match ops[j]? with
 |some o=>(o.after.toList.filter (Region.binds .any)).map (·.on)
 |none=>[]
def ancM(A:Nat)(l:List Nat):Nat:=l.foldl (fun m p=>m|||((1<<<p)|||(A>>>(256*p)))) 0
def vju(ops:Array Oper):Nat->Nat
 |0=>0
 |k+1=>vju ops k|||((ancM (vju ops k) (qc7 ops k)%2^256)<<<(256*k))
def vax(A j i:Nat):Bool:=decide (i<256)&&A.testBit (256*j+i)
inductive Reach (ops:Array Oper):Nat->Nat->Prop
 |one {j i} (h:i∈qc7 ops j):Reach ops j i
 |more {j m i} (h:m∈qc7 ops j) (h2:Reach ops m i):Reach ops j i
theorem vc2(A i:Nat):∀(l:List Nat) (m:Nat),(l.foldl (fun m p=>m|||((1<<<p)|||(A>>>(256*p)))) m).testBit i=true->m.testBit i=true\/∃p∈l,p=i\/A.testBit (256*p+i)=true
 |[],m,h=>.inl h
 | p :: l,m,h=>by
  rw[List.foldl_cons]at h;rcases vc2 A i l _ h with h|⟨q,h1,E⟩
  ·simp only[Nat.testBit_or,v9e,Nat.testBit_shiftRight,v79,v5i,decide_eq_true_eq]at h;rcases h with h|⟨h1,E⟩|h
   ·exact .inl h
   ·refine .inr ⟨p,by simp,.inl ?_⟩;have:i-p=0:=by
     apply Classical.byContradiction;intro hn;have H:Nat.testBit 1 (i-p)=false:=Nat.testBit_lt_two_pow (Nat.one_lt_two_pow hn);rw[H]at E;cases E
    omega
   ·exact .inr ⟨p,by simp,.inr h⟩
  ·exact .inr ⟨q,by simp[h1],E⟩
theorem qxz(ops:Array Oper):∀(k j i:Nat),i<256->(vju ops k).testBit (256*j+i)=true->Reach ops j i
 |0,j,i,_,h=>by simp[vju]at h
 | k+1,j,i,hi,h=>by
  simp only[vju,Nat.testBit_or,v9e,Nat.testBit_mod_two_pow,v79,v5i,decide_eq_true_eq]at h;rcases h with h|⟨h1,J,I⟩
  ·exact qxz ops k j i hi h
  ·have A:j=k:=by omega
   subst A;rw[show 256*j+i-256*j=i by omega]at I;rcases vc2 _ i _ 0 I with h|⟨p,H,E⟩
   ·simp at h
   ·rcases E with rfl|E
    ·exact .one H
    ·exact .more H (qxz ops j p i hi E)
theorem qrd{k j i:Nat}(h:vax (vju ops k) j i=true):Reach ops j i:=by
 simp only[vax,v5i,decide_eq_true_eq]at h;exact qxz ops k j i h.1 h.2
def qyo(ops:Array Oper)(D:Nat->Bool):Prop:=∀j,D j=true->∀i∈qc7 ops j,D i=true
theorem Reach.closed{D:Nat->Bool}(E:qyo ops D){j i:Nat}(h:Reach ops j i):D j=true->D i=true:=by
 induction h with
 |one h=>exact fun A=>E _ A _ h
 |more h _ ih=>exact fun A=>ih (E _ A _ h)
theorem Reach.ready{D:Nat->Bool}(E:qyo ops D){j i:Nat}(A:∀i∈qc7 ops j,D i=true)(h:Reach ops j i):D i=true:=by
 cases h with
 |one h=>exact A _ h
 |more h h2=>exact h2.closed E (A _ h)
def qkh(ops:Array Oper):Bool :=
  let A:=vju ops ops.size
  (v6s ops.size).all fun j=>(qc7 ops j).all (fun m=>decide (m<j))&&(v6s j).all fun i=>vax A j i ||
    (match ops[i]?,ops[j]? with
     |some x,some y=>x.apart ops y
     |_,_=>true)
def evOk(x y:Evt):Prop:=(∀l,x.wr=some l->l ∉ y.reads/\y.wr≠some l)/\(∀l,y.wr=some l->l ∉ x.reads)
def vf0(x y:Evt):Bool :=
  (match x.wr with
   |some l=>!y.reads.contains l&&y.wr != some l
   |none=>true)&&(match y.wr with
   |some l=>!x.reads.contains l
   |none=>true)
theorem vf1{x y:Evt}(h:vf0 x y=true):evOk x y:=by
 constructor
 ·intro l hl;simp[vf0,hl]at h;exact h.1
 ·intro l hl;simp[vf0,hl]at h;exact h.2
def qwi(ops:Array Oper)(es:List Evt):Bool :=
  let A:=vju ops ops.size
  (v6s ops.size).all fun j=>(v6s j).all fun i=>vax A j i ||
    (match es[i]?,es[j]? with
     |some x,some y=>vf0 x y
     |_,_=>true)
theorem qgo(h:qkh ops=true){i j:Nat}{x y:Oper}(A:i<j)(I:ops[i]?=some x)(E:ops[j]?=some y):Reach ops j i\/x.apart ops y=true:=by
 have H:=(v5d.1 E).1;simp only[qkh,v8d,v83,v5i,v79]at h;rcases(h j H).2 i A with h|h
 ·exact .inl (qrd h)
 ·grind
theorem qfc(h:qkh ops=true){j:Nat}(A:j<ops.size):∀m∈qc7 ops j,m<j:=by
 simp only[qkh,v8d,v83,v5i,v79,decide_eq_true_eq]at h;exact(h j A).1
theorem qj1{es:List Evt}(h:qwi ops es=true){i j:Nat}{x y:Evt}(A:i<j)(H:j<ops.size)(I:es[i]?=some x)(E:es[j]?=some y):Reach ops j i\/evOk x y:=by
 simp only[qwi,v8d,v83,v79]at h;rcases h j H i A with h|h
 ·exact .inl (qrd h)
 ·rw[I,E]at h;exact .inr (vf1 h)
theorem q0l.at{C:Cx}{ops:Array Oper}:∀{es:List Evt} {i:Nat} {s:(Nat->AV)×(Nat->AO)},q0l C ops es i s->∀j e,i<=j->es[j-i]?=some e ->
  ∃o,ops[j]?=some o/\vaw C ops o (apD ops es i (fun m=>decide (m<j)) s).1 (apD ops es i (fun m=>decide (m<j)) s).2 e
 |[],i,s,h,j,e,hj,he=>by simp at he
 | e0 :: es,i,s,h,j,e,hj,he=>by
  obtain⟨⟨o,ho,I⟩,A⟩:=h;have E:∀(es':List Evt) (m:Nat) (s':(Nat->AV)×(Nat->AO)),j<=m->apD ops es' m (fun m=>decide (m<j)) s'=s':=by
   intro es'
   induction es' with
   |nil=>intro m s' _;rfl
   |cons x xs ih=>intro m s' M;simp only[apD];rw[if_neg (by simp;omega)];exact ih (m+1) s' (by omega)
  by_cases H:j=i
  ·grind
  ·have J:i<j:=by omega
   have:=q0l.at A j e (by omega) (by rw[show j-i=(j-(i+1))+1 by omega]at he;simpa using he);simp only[apD]
   grind
theorem q0l.len{C:Cx}{ops:Array Oper}:∀{es:List Evt} {i:Nat} {s:(Nat->AV)×(Nat->AO)},q0l C ops es i s->i<=ops.size->i+es.length=ops.size
 |[],i,s,h,hi=>by simp only[q0l]at h;simp only[v6e];omega
 |e0::es,i,s,h,hi=>by
  obtain⟨⟨o,ho,E⟩,A⟩:=h;have:=q0l.len A (v5d.1 ho).1;simp only[v8r];omega
theorem qp2(ops:Array Oper):∀(es:List Evt) (i:Nat) (D A:Nat->Bool) (s:(Nat->AV)×(Nat->AO)),(∀j,i<=j->j<i+es.length->D j=A j)->apD ops es i D s=apD ops es i A s
 |[],_,_,_,_,_=>rfl
 |e::es,i,D,A,s,h=>by
  simp only[apD];rw[h i (v7a _) (by simp)];exact qp2 ops es (i+1) D A _ fun j h1 E=>h j (by omega) (by simp only[v8r];omega)
theorem vo5{C:Cx}{es:List Evt}{s0:(Nat->AV)×(Nat->AO)}{Q:Exit->Act->World->Prop}(hch:q0l C ops es 0 s0)(hsl:qkh ops=true)(hev:qwi ops es=true)
  (hQ:∀a w inj,SRf C (apD ops es 0 (fun _=>true) s0).1 (apD ops es 0 (fun _=>true) s0).2 inj a w->Q .normal a w) :
  ∀(H:Nat) (A:Array Bool) (a:Act) (w:World) (inj:Inj),A.size=ops.size->qyo ops (fun j=>A.getD j false)->(A.toList.filter (! ·)).length<=H ->
   SRf C (apD ops es 0 (fun j=>A.getD j false) s0).1 (apD ops es 0 (fun j=>A.getD j false) s0).2 inj a w->wpAny C.P .any ops Q H A a w:=by
 have hlen:es.length=ops.size:=by have:=hch.len (v9f _);omega
 -- nothing ready means all is A
 have done:∀(A:Array Bool) (a:Act) (w:World) (inj:Inj),A.size=ops.size->Region.ready .any ops A=[] ->
   SRf C (apD ops es 0 (fun j=>A.getD j false) s0).1 (apD ops es 0 (fun j=>A.getD j false) s0).2 inj a w->Q .normal a w:=by
  intro A a w inj O hr hs;have all:∀j,j<ops.size->A.getD j false=true:=by
   intro j
   induction j using v9d with
   | _ j ih =>
    intro hj;by_cases hl:A.getD j false=true
    ·exact hl
    ·have:j∈Region.ready .any ops A:=by
      refine mem_ready.2 ⟨getD_in (by omega) (by simpa using hl),ops[j],by simp[hj],fun e he hb=>?_⟩;have hp:e.on∈qc7 ops j:=by
       unfold qc7
       grind
      have W:=qfc hsl hj _ hp
      grind
     grind
  rw[qp2 ops es 0 _ (fun _=>true) s0 fun j _ h2=>all j (by omega)]at hs
  grind
 intro H
 induction H with
 | zero =>
  intro A a w inj O M hf hs;have hr:Region.ready .any ops A=[]:=by
   cases hrd:Region.ready .any ops A with
   |nil=>rfl
   |cons i _ =>
    exfalso;have hi:i∈Region.ready .any ops A:=by rw[hrd];exact v8z
    obtain⟨h0,o,ho,_⟩:=mem_ready.1 hi;have W:=(v5d.1 ho).1;have hm:A[i]'(by omega)∈A.toList:=by simp
    have h0':A[i]'(by omega)=false:=by simpa[show i<A.size by omega] using h0
    have:A[i]'(by omega)∈A.toList.filter (! ·):=v80.2 ⟨hm,by rw[h0'];rfl⟩
    grind
  exact⟨hr,done A a w inj O hr hs⟩
 | succ H ih =>
  intro A a w inj O M hf hs;refine⟨fun hr=>done A a w inj O hr hs,fun i hi=>?_⟩;obtain⟨h0,o,ho,hpre⟩:=mem_ready.1 hi;have W:=(v5d.1 ho).1;have hoi:ops[i]=o:=(v5d.1 ho).2;have h0f:A.getD i false=false:=getD_both h0;have J:∀m∈qc7 ops i,A.getD m false=true:=by
   intro m hm;unfold qc7 at hm
   grind
  obtain⟨e,he⟩:∃e,es[i]?=some e:=⟨es[i],by simp[hlen,W]⟩;obtain⟨o',ho',hst⟩:=hch.at i e (v9f _) (by simpa using he);have:o'=o:=v9i (ho'.symm.trans ho);subst this
  -- which are A,compared with the text's order
  have U:∀t∈o'.looksAt ops,(apD ops es 0 (fun j=>A.getD j false) s0).1 t=(apD ops es 0 (fun m=>decide (m<i)) s0).1 t:=by
   intro t ht;refine qzq ops t es 0 _ _ s0 s0 rfl fun j _ hj hd=>?_
   obtain⟨oj,hoj⟩:∃oj,ops[j]?=some oj:=⟨ops[j]'(by omega),by simp[show j<ops.size by omega]⟩;rw[hoj]at hd;simp only[v7m]at hd;rcases v9a j i with E|E|E
   ·simp only[E,decide_true];rcases qgo hsl E hoj ho with hr|hr
    ·exact hr.ready (D:=fun j=>A.getD j false) M J
    ·exact absurd ht ((Oper.apart_spec hr).1 t hd)
   ·grind
   ·have:decide (j<i)=false:=by simp;omega
    rw[this];rcases qgo hsl E ho hoj with hr|hr
    ·by_cases hl:A.getD j false=true
     ·have:=hr.closed (D:=fun j=>A.getD j false) M hl
      grind
     ·simpa using hl
    ·exact absurd ht ((Oper.apart_spec hr).2.2 t hd)
  have cmpLoc:∀l∈e.reads,(apD ops es 0 (fun j=>A.getD j false) s0).2 l=(apD ops es 0 (fun m=>decide (m<i)) s0).2 l:=by
   intro l hl;refine q4n ops l es 0 _ _ s0 s0 rfl fun j ej _ I hw=>?_
   simp only[v7k]at I;have hjn:j<ops.size:=by have:=(v56.1 I).1;omega
   rcases v9a j i with E|E|E
   ·simp only[E,decide_true];rcases qj1 hev E W I he with hr|hr
    ·exact hr.ready (D:=fun j=>A.getD j false) M J
    ·exact absurd hl (hr.1 l hw).1
   ·grind
   ·have:decide (j<i)=false:=by simp;omega
    rw[this];rcases qj1 hev E hjn he I with hr|hr
    ·by_cases hl':A.getD j false=true
     ·have:=hr.closed (D:=fun j=>A.getD j false) M hl'
      grind
     ·simpa using hl'
    ·exact absurd hl (hr.2 l hw)
  have Z:=hst.frame U cmpLoc;obtain⟨hdst,Z⟩:=Z;have hjoin:=qzr ops i e es 0 (fun j=>A.getD j false) s0 (v9f _) (by simpa using he) h0f (by
   intro j ej hij I hD;simp only[v7k]at I;have hjn:j<ops.size:=by have:=(v56.1 I).1;omega
   obtain⟨oj,hoj⟩:∃oj,ops[j]?=some oj:=⟨ops[j]'(by omega),by simp[show j<ops.size by omega]⟩;have nr:¬Reach ops j i:=fun hr=>by
    have:=hr.closed (D:=fun j=>A.getD j false) M hD
    grind
   constructor
   ·rcases qgo hsl hij ho hoj with hr|hr
    ·grind
    ·rw[hoj,ho];simp only[v7m];cases hd:oj.dst with
     |none=>exact .inl rfl
     |some d =>
      refine .inr fun hh=>?_
      exact(Oper.apart_spec hr).2.1 d hh.symm hd
   ·rcases qj1 hev hij hjn he I with hr|hr
    ·grind
    ·cases hw:ej.wr with
     |none=>exact .inl rfl
     |some l =>
      refine .inr fun hh=>?_
      exact(hr.1 l hh.symm).2 hw)
  have hD':apD ops es 0 (fun j=>(A.setIfInBounds i true).getD j false) s0=apD ops es 0 (fun j=>j==i||A.getD j false) s0:=by
   refine qp2 ops es 0 _ _ s0 fun j _ hj=>?_
   by_cases E:i=j
   ·subst E;simp[O,W]
   ·rw[getD_set_ne false E]
    grind
  have next:∀a' w' V,SRf C (qxs (apD ops es 0 (fun j=>A.getD j false) s0).1 o'.dst e.v) (upd (apD ops es 0 (fun j=>A.getD j false) s0).2 e.u) V a' w' ->
    wpAny C.P .any ops Q H (A.setIfInBounds i true) a' w':=by
   intro a' w' V hs';refine ih (A.setIfInBounds i true) a' w' V (by simp[O]) ?_ ?_ ?_
   ·intro j hj m hm;by_cases E:i=j
    ·subst E;exact getD_set_true (J m hm)
    ·have hj':(A.setIfInBounds i true).getD j false=true:=hj;rw[getD_set_ne false E]at hj';exact getD_set_true (M j hj' m hm)
   ·have hli:A[i]?=some false:=by
     have:i<A.size:=by omega
     simp[this]at h0f ⊢;exact h0f
    have key:∀(l:List Bool) (i:Nat),l[i]?=some false->((l.set i true).filter (! ·)).length+1=(l.filter (! ·)).length:=by
     intro l
     induction l with
     |nil=>intro i h;simp at h
     | cons b l ihl =>
      intro i h;cases i with
      |zero=>simp at h;subst h;simp
      |succ i =>
       grind
    grind
   ·grind
  unfold wpOp;rw[ho];simp only;rcases Z with⟨hg,hdo⟩|⟨hg,rfl⟩
  ·rw[qk7 hs hg];simp only[if_true];exact .inl (hdo.sound hs hdst next)
  ·rw[qk7 hs hg];simp only[v5k,if_false];exact next _ _ inj (hs.put (u:=none) hdst hs.hr (Ev.refl _ _ _ _) ⟨[],rfl,rfl⟩)
def qwj(f:α->L β)(σ:Nat->AO):Option α->List Nat
 |some a=>(f a).reads σ
 |none=>[]
theorem q2n(f:α->L β)(σ:Nat->AO)(a:α):qwj f σ (some a)=(f a).reads σ:=rfl
theorem q2o(f:α->L β)(σ:Nat->AO):qwj f σ none=[]:=rfl
theorem L.reads_ret(a:α)(σ):(L.ret a).reads σ=[]:=rfl
theorem L.reads_fail(σ):(L.fail:L α).reads σ=[]:=rfl
theorem L.reads_look(l k σ):(L.look l k:L α).reads σ=l::(k (σ l)).reads σ:=rfl
theorem L.reads_bind(m:L α)(f:α->L β)(σ):(m.bind f).reads σ=m.reads σ++qwj f σ (m.run σ):=by
 induction m with
 |ret a=>rfl
 |look l k ih=>simp only[L.bind,L.reads,L.run,ih (σ l),v8g]
 |fail=>rfl
theorem L.reads_ofOpt(o:Option α)(σ):(L.ofOpt o).reads σ=[]:=by cases o<;>rfl
theorem q7m(m:L AV)(σ):(qcu m).reads σ=m.reads σ:=by
 unfold qcu;rw[L.reads_bind];cases m.run σ<;>simp[qwj,L.reads]
variable {C:Cx} {Q:Exit->St->Prop}
inductive DCh (C:Cx) (ops:Array Oper):List Oper->St->List Evt->St->Prop
 |nil {st}:DCh C ops [] st [] st
 | cons {o rest st e es st'} (hd:qb2 C.N o=true) (h:(qbh ops st.env o=some true∧Does C o (ev st.env) st.sig e)∨(qbh ops st.env o=some false∧e=⟨.p (.tup []),none,[]⟩))
   (hr:DCh C ops rest ⟨qfa st.env o.dst e.v,qut st.heap e.u⟩ es st'):DCh C ops (o::rest) st (e::es) st'
theorem qzs(env:Env)(d:Option Tmp)(v:AV):Env.get (qfa env d v)=qxs env.get d v:=by
 funext t;cases d with
 |none=>simp[qfa,qxs]
 |some d=>simp[qfa,qxs,Env.get]
theorem DCh.chain{l:List Oper}{st:St}{es:List Evt}{st':St}(h:DCh C ops l st es st'):∀i,(∀j,ops[i+j]?=l[j]?) ->
  q0l C ops es i (st.env.get,st.sig)/\apD ops es i (fun _=>true) (st.env.get,st.sig)=(st'.env.get,st'.sig):=by
 induction h with
 |nil =>
  intro i hi;refine⟨?_,rfl⟩;have:=hi 0;simp only[Nat.add_zero,v8o]at this;simp only[q0l]
  grind
 | @cons o rest st e es st' hd h hr ih =>
  intro i hi;have h0:ops[i]?=some o:=by have:=hi 0;simpa using this
  obtain⟨h1,A⟩:=ih (i+1) (fun j=>by have:=hi (j+1);rw[show i+1+j=i+(j+1) by omega,this];simp);have E:((qxs st.env.get ((ops[i]?).bind (·.dst)) e.v,upd st.sig e.u):(Nat->AV)×(Nat->AO))=((⟨qfa st.env o.dst e.v,qut st.heap e.u⟩:St).env.get,(⟨qfa st.env o.dst e.v,qut st.heap e.u⟩:St).sig):=by
   rw[h0];simp only[v7m,qzs,St.sig,qs8]
  refine⟨⟨⟨o,h0,hd,?_⟩,?_⟩,?_⟩
  ·rw[q0k,qqj];exact h
  ·grind
  ·simp only[apD,if_true]
   grind
theorem vjv{id:Nat}{l:List Oper}{st st':St}{es:List Evt}(Z:C.P.follows .mixedOrders=true)(M:DCh C l.toArray l st es st')(J:qkh l.toArray=true)(hev:qwi l.toArray es=true)
  (h:Q .normal st'):AWp C (.region id l.toArray true) Q st:=by
 intro inj a w H;obtain⟨h1,W⟩:=M.chain 0 (fun j=>by simp);refine wp_region_any Z ?_;have U:Fr C.D w { w with drawn:=w.drawn+1 }:=⟨rfl,rfl,rfl,fun _=>v7b _,v7a _,fun _ _=>rfl,fun _ _=>rfl⟩;have O:Ev C.D C.X inj st.sig w inj st.sig { w with drawn:=w.drawn+1 }:=U.ev;refine vo5 h1 J hev ?_ _ _ _ _ inj (by simp) ?_ ?_ ?_
 ·intro a' w' I A;rw[W]at A;exact⟨st',I,⟨A.env,A.size,A.defers,A.hr,A.ev⟩,h⟩
 ·intro j V;simp only[getD_replicate_false]at V;cases V
 ·grind
 ·rw[qp2 l.toArray es 0 _ (fun _=>false) _ fun j _ _=>getD_replicate_false _ _];have E:∀(es:List Evt) (i:Nat) (s:(Nat->AV)×(Nat->AO)),apD l.toArray es i (fun _=>false) s=s:=by
   intro es
   induction es with
   |nil=>intro i s;rfl
   |cons e es ih=>intro i s;simp only[apD,v5k,if_false];exact ih (i+1) s
  rw[E];exact⟨fun t=>AR.ev O H.hr.xlt _ _ (H.env t),H.size,H.defers,H.hr.fr U,H.ev.trans O⟩
def q0m(m:L (AV×Upd))(σ:Nat->AO):Option Bool->List Nat
 |some true=>m.reads σ
 |_=>[]
theorem q7n(m:L (AV×Upd))(σ):q0m m σ (some true)=m.reads σ:=rfl
theorem q4o(m:L (AV×Upd))(σ):q0m m σ (some false)=[]:=rfl
def qmh(P:Program)(N B:Nat)(ops:Array Oper):List Oper->St->List Evt->List Evt×St×List Oper
 |[],st,acc=>(acc,st,[])
 |o::rest,st,acc =>
  match go1 P N B ops o st with
  |.on v u=>qmh P N B ops rest ⟨qfa st.env o.dst v,qut st.heap u⟩ (⟨v,u,q0m (aop P B (ev st.env) o) st.sig (qbh ops st.env o)⟩::acc)
  |.stop=>(acc,st,o::rest)
def q3h(P:Program)(N B:Nat)(ops:Array Oper)(o:Oper)(rest:List Oper)(st:St)(E:List Evt):Go1->List Evt×St×List Oper
 |.on v u=>qmh P N B ops rest ⟨qfa st.env o.dst v,qut st.heap u⟩ (⟨v,u,q0m (aop P B (ev st.env) o) st.sig (qbh ops st.env o)⟩::E)
 |.stop=>(E,st,o::rest)
theorem vay(P:Program)(N B:Nat)(ops:Array Oper)(st:St)(E:List Evt):qmh P N B ops [] st E=(E,st,[]):=rfl
theorem qtc(P:Program)(N B:Nat)(ops:Array Oper)(o:Oper)(rest:List Oper)(st:St)(E:List Evt):qmh P N B ops (o::rest) st E=q3h P N B ops o rest st E (go1 P N B ops o st):=by
 simp only[qmh,q3h]
theorem q0n(P:Program)(N B:Nat)(ops:Array Oper)(o:Oper)(rest:List Oper)(st:St)(E:List Evt)(v:AV)(u:Upd):q3h P N B ops o rest st E (.on v u) =
  qmh P N B ops rest ⟨qfa st.env o.dst v,qut st.heap u⟩ (⟨v,u,q0m (aop P B (ev st.env) o) (qav st.heap) (qbh ops st.env o)⟩::E):=rfl
theorem vaz(P:Program)(N B:Nat)(ops:Array Oper)(o:Oper)(rest:List Oper)(st:St)(E:List Evt):q3h P N B ops o rest st E .stop=(E,st,o::rest):=rfl
def DGo(C:Cx)(ops:Array Oper)(l:List Oper)(st:St)(E:List Evt)(K:List Evt->St->Prop):Prop :=
 ∃es st',DCh C ops l st es st'/\K (E.reverse++es) st'
theorem DGo.one{o:Oper}{rest:List Oper}{st:St}{E:List Evt}{K:List Evt->St->Prop}{e:Evt}(H:qb2 C.N o=true)
  (h:(qbh ops st.env o=some true/\Does C o (ev st.env) st.sig e)\/(qbh ops st.env o=some false/\e=⟨.p (.tup []),none,[]⟩))
  (hr:DGo C ops rest ⟨qfa st.env o.dst e.v,qut st.heap e.u⟩ (e::E) K):DGo C ops (o::rest) st E K:=by
 obtain⟨es,st',h1,A⟩:=hr;refine⟨e::es,st',.cons H h h1,?_⟩;simpa using A
theorem DGo.run{ops:Array Oper}{K:List Evt->St->Prop}:∀(l:List Oper) (st:St) (E:List Evt) {I:List Evt} {st':St} {A:List Oper},qmh C.P C.N C.B ops l st E=(I,st',A)->DGo C ops A st' I K->DGo C ops l st E K
 |[],st,E,I,st',A,hr,h=>by
  simp only[qmh,v7t]at hr;obtain⟨rfl,rfl,rfl⟩:=hr;exact h
 | o :: rest,st,E,I,st',A,hr,h=>by
  rw[qtc]at hr;cases J:go1 C.P C.N C.B ops o st with
  |stop =>
   rw[J]at hr;simp only[q3h,v7t]at hr;obtain⟨rfl,rfl,rfl⟩:=hr;exact h
  | on v u =>
   rw[J,q0n]at hr;have H:=DGo.run rest _ _ hr h;unfold go1 at J;split at J
   case isFalse=>cases J
   rename_i U;split at J
   ·rename_i M;split at J
    ·rename_i v' V O;cases J;refine DGo.one U (.inl ⟨M,.op O⟩) ?_;rw[M]at H;exact H
    ·cases J
   ·rename_i M;cases J;refine DGo.one U (.inr ⟨M,rfl⟩) ?_;rw[M]at H;exact H
   ·cases J
theorem qre(env:Env)(f:Operand)(args:List Operand):qkl (ev env) f args=qb4 env f args:=by
 unfold qkl qb4;rfl
theorem DGo.call{ops:Array Oper}{K:List Evt->St->Prop}{d:Option Tmp}{f:Operand}{args:Array Operand}{J:Array TypeId}{ty:TypeId}{pos:String}{af:Array Edge}{rest:List Oper}{st:St}{E:List Evt}
  {k:FuncId} {avs:List AV} {I:List PV} {r:PV} {rs:List Nat}
  (W:v0a C.D C.P k I r) (V:qb2 C.N ⟨d,.call ⟨.value f,args,J⟩,ty,pos,af,none⟩=true) (M:HasBody C.P k)
  (U:qb4 st.env f args.toList=some (k,avs)) (O:(qba (view (fun _=>true) 9) avs).run (qav st.heap)=some I) (A:(qba (view (fun _=>true) 9) avs).reads (qav st.heap)=rs)
  (H:(qq9 avs).isSome=true\/r.flat=true)
  (h:DGo C ops rest ⟨qfa st.env d (.p r),st.heap⟩ (⟨.p r,none,rs⟩::E) K):DGo C ops (⟨d,.call ⟨.value f,args,J⟩,ty,pos,af,none⟩::rest) st E K:=by
 subst A;refine DGo.one V (.inl ⟨rfl,.call W rfl M (by rw[qre];exact U) O H⟩) ?_;exact h
theorem DGo.built{ops:Array Oper}{K:List Evt->St->Prop}{o:Oper}{t:TypeId}{len:Nat}{parts:Array (Nat×Operand)}{rest:List Oper}{st st':St}{E:List Evt}{v:AV}{u:Upd}{x:PV}{k:Nat}{H I:List Nat}
  (ho:o.op=.buildSlice t len parts) (U:qbh ops st.env o=some true) (V:qb2 C.N o=true) (M:qlo C.B o=k)
  (hr:(aop C.P C.B (ev st.env) o).run (qav st.heap)=some (v,u)) (h1:(aop C.P C.B (ev st.env) o).reads (qav st.heap)=H)
  (A:(view (fun l=>l==k) 9 v).run (qav (qut st.heap u))=some x) (J:(view (fun l=>l==k) 9 v).reads (qav (qut st.heap u))=I)
  (O:(⟨qfa st.env o.dst (.p x),st.heap⟩:St)=st') (h:DGo C ops rest st' (⟨.p x,none,H++I⟩::E) K):DGo C ops (o::rest) st E K:=by
 subst M;subst h1;subst J;subst O;rw[qs8]at A;refine DGo.one V (.inl ⟨U,.built ho hr A⟩) ?_;rw[qs8]at h;exact h
theorem DGo.cloned{ops:Array Oper}{K:List Evt->St->Prop}{o:Oper}{f:Operand}{args:Array Operand}{J:Array TypeId}{rest:List Oper}{st st':St}{E:List Evt}{c:FuncId}{e sz H g k n:Nat}{A:List PV}
  (S:Cln C.P c e sz H) (hw:¬C.D) (ho:o.op=.call ⟨.value f,args,J⟩) (O:qbh ops st.env o=some true) (hd:qb2 C.N o=true) (U:qlo C.B o=k)
  (W:qb4 st.env f args.toList=some (c,[.p (.slc A)])) (I:(A.map AV.p).all (qhb sz)=true) (hn:A.length<=maxLen) (M:A.length*H<=140737488355328) (Z:qav st.heap k=.dead g) (hl:A.length=n)
  (V:(⟨qfa st.env o.dst (.own k (g+1) 0 n),qo8 st.heap k (.arr e sz (g+1) (A.map AV.p))⟩:St)=st')
  (h:DGo C ops rest st' (⟨.own k (g+1) 0 n,some (k,.arr e sz (g+1) (A.map AV.p)),[k]⟩::E) K):DGo C ops (o::rest) st E K:=by
 subst U;subst V;subst hl;refine DGo.one hd (.inl ⟨O,.cloned S hw ho (by rw[qre];exact W) I hn M Z⟩) ?_;exact h
theorem DGo.ext{ops:Array Oper}{K:List Evt->St->Prop}{o:Oper}{rest:List Oper}{st st':St}{E:List Evt}{v:AV}{u:Upd}{rs:List Nat}
  (J:OpU C.D C.P o (ev st.env) (qav st.heap) v u rs) (A:qbh ops st.env o=some true) (I:qb2 C.N o=true) (H:(⟨qfa st.env o.dst v,qut st.heap u⟩:St)=st')
  (h:DGo C ops rest st' (⟨v,u,rs⟩::E) K):DGo C ops (o::rest) st E K:=by
 subst H;exact DGo.one I (.inl ⟨A,.ext J⟩) h
theorem DGo.done{K:List Evt->St->Prop}{st:St}{E:List Evt}(h:K E.reverse st):DGo C ops [] st E K:=⟨[],st,.nil,by simpa using h⟩
attribute [go_sem] q2n q2o L.reads_ret L.reads_fail L.reads_look L.reads_bind L.reads_ofOpt q7m q7n q4o vay qtc q0n vaz
end Go.Ab
namespace Go.Ab
variable {D:Prop}
open Go
variable {ops:Array Oper} {rest l:List Oper} {o:Oper} {args:Array Operand} {J:Array TypeId} {st':St} {avs:List AV} {k:FuncId} {f:Operand} {I:List PV} {rs:List Nat} {r:PV} {v:AV} {d:Nat} {P:Program} {u:Upd} {b:Bool}
def v04:Op->Bool
 |.call ⟨.value _,_,_⟩=>true
 |_=>false
def v05:List Oper->List Oper->List Oper×List Oper
 |[],acc=>(acc.reverse,[])
 |o::r,acc=>match o.guard.isNone&&!v04 o.op with
  |true=>v05 r (o::acc)
  |false=>(acc.reverse,o::r)
def spl(l:List Oper):List Oper×List Oper:=v05 l []
theorem q0o:∀l E:List Oper,(v05 l E).1++(v05 l E).2=E.reverse++l
 |[],E=>rfl
 |o::r,E=>by
  simp only[v05];split
  ·rw[q0o r];simp
  ·rfl
theorem q3i(l:List Oper):(spl l).1++(spl l).2=l:=q0o l []
variable {C:Cx} {Q:Exit->St->Prop} {st:St}
theorem qn1{ops:Array Oper}{V:List Oper}{st':St}(h:AL C ops V Q st'):∀(l:List Oper) (st:St),qse C.P C.N C.B ops l st=(st',[])->AL C ops (l++V) Q st
 |[],st,hr=>by
  simp only[qse,v7t,and_true]at hr;subst hr;exact h
 | o :: rest,st,hr=>by
  rw[q0e]at hr;cases A:go1 C.P C.N C.B ops o st with
  |stop=>rw[A]at hr;simp[vi1]at hr
  | on v u =>
   rw[A,vcz]at hr;unfold go1 at A;split at A
   case isFalse=>cases A
   rename_i I;split at A
   ·rename_i E;split at A
    ·rename_i v' J H;cases A;exact vz9 E I (viz C.B o (ev st.env)) H (qn1 h rest _ hr)
    ·cases A
   ·rename_i E;cases A;exact vi0 E I (qn1 h rest _ hr)
   ·cases A
theorem qvl{J V:List Oper}(A:spl l=(o::J,V))(hr:qse C.P C.N C.B ops (o::J) st=(st',[]))(h:AL C ops V Q st'):AL C ops l Q st:=by
 have e:=q3i l;rw[A]at e;rw[<-e];exact qn1 h _ _ hr
theorem AL_gt(E:qbh ops st.env o=some true)(A:qb2 C.N o=true)
  (hr:(aop C.P C.B (ev st.env) o).run (qav st.heap)=some (v,u)) (h:AL C ops rest Q ⟨qfa st.env o.dst v,qut st.heap u⟩):AL C ops (o::rest) Q st :=
 vz9 E A (viz C.B o (ev st.env)) hr h
def q0p(ops:Array Oper)(o:Oper):Option Nat:=o.guard.bind fun g=>(ops[g.1]?).bind (·.dst)
theorem q0q(env:Env)(h:env.get d=v):Env.get ((d,v)::env)=env.get:=by
 funext t;simp only[Env.get];split
 ·rename_i e;subst e;exact h.symm
 ·rfl
theorem SR.known{inj:Inj}{a:Act}{w:World}{env:Env}{E:List (Nat×AO)}(h:env.get d=v)(A:SR C ⟨env,E⟩ inj a w):SR C ⟨(d,v)::env,E⟩ inj a w :=
 ⟨fun t=>by have:=A.env t;rw[q0q env h];exact this,A.size,A.defers,A.hr,A.ev⟩
theorem DGo.append{ops:Array Oper}{K:List Evt->St->Prop}{V:List Oper}{I:List Evt}{st':St}(h:DGo C ops V st' I K):∀(l:List Oper) (st:St) (E:List Evt),qmh C.P C.N C.B ops l st E=(I,st',[])->DGo C ops (l++V) st E K
 |[],st,E,hr=>by
  simp only[qmh,v7t,and_true]at hr;obtain⟨rfl,rfl⟩:=hr;exact h
 | o :: rest,st,E,hr=>by
  rw[qtc]at hr;cases H:go1 C.P C.N C.B ops o st with
  |stop=>rw[H]at hr;simp[q3h]at hr
  | on v u =>
   rw[H,q0n]at hr;have A:=DGo.append h rest _ _ hr;unfold go1 at H;split at H
   case isFalse=>cases H
   rename_i O;split at H
   ·rename_i J;split at H
    ·rename_i v' U M;cases H;refine DGo.one O (.inl ⟨J,.op M⟩) ?_;rw[J]at A;exact A
    ·cases H
   ·rename_i J;cases H;refine DGo.one O (.inr ⟨J,rfl⟩) ?_;rw[J]at A;exact A
   ·cases H
theorem DGo.upto{K:List Evt->St->Prop}{J V:List Oper}{E I:List Evt}(A:spl l=(o::J,V))(hr:qmh C.P C.N C.B ops (o::J) st E=(I,st',[]))
  (h:DGo C ops V st' I K):DGo C ops l st E K:=by
 have e:=q3i l;rw[A]at e;rw[<-e];exact DGo.append h _ _ _ hr
theorem DGo.gt{K:List Evt->St->Prop}{E:List Evt}(I:qbh ops st.env o=some true)(H:qb2 C.N o=true)
  (hr:(aop C.P C.B (ev st.env) o).run (qav st.heap)=some (v,u)) (A:(aop C.P C.B (ev st.env) o).reads (qav st.heap)=rs) (h:DGo C ops rest ⟨qfa st.env o.dst v,qut st.heap u⟩ (⟨v,u,rs⟩::E) K):DGo C ops (o::rest) st E K:=by
 subst A;exact DGo.one H (.inl ⟨I,.op hr⟩) h
theorem DGo.gf{K:List Evt->St->Prop}{E:List Evt}(H:qbh ops st.env o=some false)(A:qb2 C.N o=true)
  (h:DGo C ops rest ⟨qfa st.env o.dst (.p (.tup [])),st.heap⟩ (⟨.p (.tup []),none,[]⟩::E) K):DGo C ops (o::rest) st E K :=
 DGo.one A (.inr ⟨H,rfl⟩) h
theorem Does.env{ρ:Operand->AV}{A:Operand->AV}{σ:Nat->AO}{e:Evt}(h:Does C o ρ σ e)(E:A=ρ):Does C o A σ e:=E▸h
theorem DCh.known{es:List Evt}{st E:St}(h:DCh C ops l E es st')(H:E.env.get=st.env.get)(I:E.heap=st.heap):∃A,DCh C ops l st es A/\st'.env.get=A.env.get/\st'.heap=A.heap:=by
 induction h generalizing st with
 |nil=>exact⟨st,.nil,H,I⟩
 |@cons o rest E e es st' hd h hr ih =>
  obtain⟨A,h1,J⟩:=ih (st:=⟨qfa st.env o.dst e.v,qut st.heap e.u⟩) (by simp only[qzs,H]) (by simp only[I]);have O:ev E.env=ev st.env:=by rw[<-q0k,<-q0k,H]
  have M:qbh ops E.env o=qbh ops st.env o:=by rw[<-qqj,<-qqj,H]
  refine⟨A,.cons hd ?_ h1,J⟩
  grind
def DK(C:Cx)(l:Array Oper)(Q:Exit->St->Prop):List Evt->St->Prop:=fun es st'=>qwi l es=true/\∀inj a w,SR C st' inj a w->vn7 C Q .normal a w
theorem DK.congr{l:Array Oper}(es:List Evt)(s s':St)(h1:s.env.get=s'.env.get)(E:s.heap=s'.heap)(h:DK C l Q es s):DK C l Q es s':=by
 refine⟨h.1,fun inj a w A=>h.2 inj a w ?_⟩;obtain⟨e,I⟩:=s;obtain⟨e',H⟩:=s';simp only at h1 E;subst E;exact⟨fun t=>by show AR _ _ _ _ (e.get t) _;rw[h1];exact A.env t,A.size,A.defers,A.hr,A.ev⟩
theorem q2p{id:Nat}(I:C.P.follows .mixedOrders=true)(A:qkh l.toArray=true)(h:DGo C l.toArray l st [] (DK C l.toArray Q)):AWp C (.region id l.toArray true) Q st:=by
 obtain⟨es,st',h1,E⟩:=h;have M:AWp C (.region id l.toArray true) (fun e s=>e=.normal/\s=st') st:=vjv I h1 A (by simpa using E.1) ⟨rfl,rfl⟩;intro inj a w H;refine wp_mono (M inj a w H) ?_;rintro e a' w' ⟨s,i,J,rfl,rfl⟩;exact E.2 i a' w' J
theorem DGo.fin{l:Array Oper}{E:List Evt}(hev:qwi l E.reverse=true)(h:Q .normal st):DGo C l [] st E (DK C l Q):=DGo.done ⟨hev,fun inj a w A=>⟨st,inj,A,h⟩⟩
structure Con(D:Prop)(P:Program)(k:FuncId)(args:List PV)(r:PV):Prop where
 body:HasBody P k
 pure:v0a D P k args r
theorem Con.of{args:List PV}{A:PV}(h:Con D P k args r)(e:r=A):Con D P k args A:=e▸h
theorem v06
  (ho:o.op=.call ⟨.value f,args,J⟩) (M:qbh ops st.env o=some true) (U:qb2 C.N o=true)
  (O:qb4 st.env f args.toList=some (k,avs)) (H:(qba (view (fun _=>true) 9) avs).run (qav st.heap)=some I) (E:Con C.D C.P k I r) (A:(qq9 avs).isSome=true\/r.flat=true)
  (h:AL C ops rest Q ⟨qfa st.env o.dst (.p r),st.heap⟩):AL C ops (o::rest) Q st :=
 vtv E.pure ho M U E.body O H A h
theorem DGo.con{K:List Evt->St->Prop}{E:List Evt}
  (ho:o.op=.call ⟨.value f,args,J⟩) (U:qbh ops st.env o=some true) (W:qb2 C.N o=true)
  (V:qb4 st.env f args.toList=some (k,avs)) (O:(qba (view (fun _=>true) 9) avs).run (qav st.heap)=some I) (A:(qba (view (fun _=>true) 9) avs).reads (qav st.heap)=rs)
  (M:Con C.D C.P k I r) (H:(qq9 avs).isSome=true\/r.flat=true)
  (h:DGo C ops rest ⟨qfa st.env o.dst (.p r),st.heap⟩ (⟨.p r,none,rs⟩::E) K):DGo C ops (o::rest) st E K:=by
 subst A;exact DGo.one W (.inl ⟨U,.call M.pure ho M.body (by rw[qre];exact V) O H⟩) h
theorem qwk{fn:Func}{s:St}(h1:vh3 P s fn.results.toList=some v)(A:(view (fun _=>true) 9 v).run s.sig=some r):vx8 P fn r .ret s:=⟨.inr rfl,v,h1,A⟩
theorem qao{env:Env}(h:o.guard=none):qbh ops env o=some true:=by
 unfold qbh;rw[h]
theorem vf2{env:Env}{j:Nat}(h:o.guard=some (j,b))(A:q0p ops o=some d)(E:env.get d=.p (.bool b)):qbh ops env o=some true:=by
 unfold q0p at A;unfold qbh
 grind
theorem vjw(I:qbh ops st.env o=some true)(H:qb2 C.N o=true)
  (hr:((aop C.P C.B (ev st.env) o).run (qav st.heap)).map (fun A=>(⟨qfa st.env o.dst A.1,qut st.heap A.2⟩:St))=some st') (h:AL C ops rest Q st'):AL C ops (o::rest) Q st:=by
 cases E:(aop C.P C.B (ev st.env) o).run (qav st.heap) with
 |none=>rw[E]at hr;cases hr
 |some A =>
  rw[E]at hr;simp only[v7r,v7s]at hr;subst hr;exact AL_gt I H E h
theorem DGo.gt'{K:List Evt->St->Prop}{E:List Evt}{e:Evt}(I:qbh ops st.env o=some true)(J:qb2 C.N o=true)
  (hr:((aop C.P C.B (ev st.env) o).run (qav st.heap)).map (fun A=>((⟨A.1,A.2,(aop C.P C.B (ev st.env) o).reads (qav st.heap)⟩:Evt),(⟨qfa st.env o.dst A.1,qut st.heap A.2⟩:St)))=some (e,st'))
  (h:DGo C ops rest st' (e::E) K):DGo C ops (o::rest) st E K:=by
 cases H:(aop C.P C.B (ev st.env) o).run (qav st.heap) with
 |none=>rw[H]at hr;cases hr
 |some A =>
  rw[H]at hr;simp only[v7r,v7s,v7t]at hr;obtain⟨rfl,rfl⟩:=hr;exact DGo.gt I J H rfl h
theorem vu0
  (ho:o.op=.call ⟨.value f,args,J⟩) (M:qbh ops st.env o=some true) (U:qb2 C.N o=true)
  (O:qb4 st.env f args.toList=some (k,avs)) (H:(qba (view (fun _=>true) 9) avs).run (qav st.heap)=some I) (V:Con C.D C.P k I r) (A:(qq9 avs).isSome=true\/r.flat=true)
  (E:(⟨qfa st.env o.dst (.p r),st.heap⟩:St)=st') (h:AL C ops rest Q st'):AL C ops (o::rest) Q st:=by
 subst E;exact v06 ho M U O H V A h
theorem DGo.con'{K:List Evt->St->Prop}{E:List Evt}
  (ho:o.op=.call ⟨.value f,args,J⟩) (U:qbh ops st.env o=some true) (W:qb2 C.N o=true)
  (V:qb4 st.env f args.toList=some (k,avs)) (O:(qba (view (fun _=>true) 9) avs).run (qav st.heap)=some I) (A:(qba (view (fun _=>true) 9) avs).reads (qav st.heap)=rs)
  (Z:Con C.D C.P k I r) (H:(qq9 avs).isSome=true\/r.flat=true)
  (M:(⟨qfa st.env o.dst (.p r),st.heap⟩:St)=st') (h:DGo C ops rest st' (⟨.p r,none,rs⟩::E) K):DGo C ops (o::rest) st E K:=by
 subst M;exact DGo.con ho U W V O A Z H h
theorem qbr{env:Env}{j:Nat}{M:Bool}(h:o.guard=some (j,b))(A:q0p ops o=some d)(E:env.get d=.p (.bool M))(H:M=b):qbh ops env o=some true :=
 vf2 h A (by rw[E,H])
end Go.Ab
namespace Go.Ab
open Go
section
variable {C:Cx} {Q:Exit->St->Prop} {st:St}
theorem vu1{ops:Array Oper}{d:Option Tmp}{k:FuncId}{x y:Operand}{J:Array TypeId}{ty:TypeId}{pos:String}{af:Array Edge}{rest:List Oper}{a b:List UInt8}{r:Int}
  (W:∀w,(callFunc k #[.string ⟨a.toArray⟩,.string ⟨b.toArray⟩]).run C.P w=.ok (.value (.int .i64 r)) w)
  (O:ev st.env x=.p (.str a)) (V:ev st.env y=.p (.str b)) (U:qb2 C.N ⟨d,.call ⟨.value (.func k),#[x,y],J⟩,ty,pos,af,none⟩=true)
  (h:AL C ops rest Q ⟨qfa st.env d (.p (.int .i64 r)),st.heap⟩):AL C ops (⟨d,.call ⟨.value (.func k),#[x,y],J⟩,ty,pos,af,none⟩::rest) Q st:=by
 intro inj H w A;simp only[wpList,qb3 (ops:=ops) (o:=⟨d,.call ⟨.value (.func k),#[x,y],J⟩,ty,pos,af,none⟩) A (qao rfl),if_true];refine .inl ?_;have M:=A.eval x;have I:=A.eval y;rw[O]at M;rw[V]at I;simp only[AR,PR]at M I;have E:(execOp H.eval ⟨d,.call ⟨.value (.func k),#[x,y],J⟩,ty,pos,af,none⟩).run C.P w=.ok (.value (.int .i64 r)) w:=by
  simp only[execOp,resolve,Deferred.ofValue,Act.eval,v7w,v7x,v7u,invoke]
  grind
 unfold Oper.wp;rw[E];simp only[Oper.upon];exact h inj _ _ (A.put (u:=none) U A.hr (Ev.refl _ _ _ _) rfl)
@[go_sem]theorem range0:v6s 0=[]:=rfl
@[go_sem]theorem range1:v6s 1=[0]:=rfl
@[go_sem]theorem range2:v6s 2=[0,1]:=rfl
@[go_sem]theorem range3:v6s 3=[0,1,2]:=rfl
@[go_sem]theorem range4:v6s 4=[0,1,2,3]:=rfl
@[go_sem]theorem range5:v6s 5=[0,1,2,3,4]:=rfl
@[go_sem]theorem range6:v6s 6=[0,1,2,3,4,5]:=rfl
@[go_sem]theorem range7:v6s 7=[0,1,2,3,4,5,6]:=rfl
@[go_sem]theorem range8:v6s 8=[0,1,2,3,4,5,6,7]:=rfl
@[go_sem]theorem range9:v6s 9=[0,1,2,3,4,5,6,7,8]:=rfl
@[go_sem]theorem range10:v6s 10=[0,1,2,3,4,5,6,7,8,9]:=rfl
@[go_sem]theorem range11:v6s 11=[0,1,2,3,4,5,6,7,8,9,10]:=rfl
@[go_sem]theorem range12:v6s 12=[0,1,2,3,4,5,6,7,8,9,10,11]:=rfl
@[go_sem]theorem range13:v6s 13=[0,1,2,3,4,5,6,7,8,9,10,11,12]:=rfl
@[go_sem]theorem range14:v6s 14=[0,1,2,3,4,5,6,7,8,9,10,11,12,13]:=rfl
@[go_sem]theorem range15:v6s 15=[0,1,2,3,4,5,6,7,8,9,10,11,12,13,14]:=rfl
@[go_sem]theorem range16:v6s 16=[0,1,2,3,4,5,6,7,8,9,10,11,12,13,14,15]:=rfl
end
section
inductive LS (σ τ:Type) where
 |next (s:σ)
 |done (t:τ)
section
variable {σ τ:Type}
variable {n:Nat}
def qtd(B:σ->Option (LS σ τ)):Nat->σ->Option τ
 |0,_=>none
 |n+1,s=>match B s with
  |some (.next s')=>qtd B n s'
  |some (.done t)=>some t
  |none=>none
theorem q3j(B:σ->Option (LS σ τ)):∀(n:Nat) (s:σ) (t:τ),qtd B n s=some t->qtd B (n+1) s=some t
 |0,_,_,h=>by cases h
 |n+1,s,t,h=>by
  rw[qtd]at h ⊢;split
  ·rename_i s' A;rw[A]at h;exact q3j B n s' t h
  ·rename_i E A;rw[A]at h;exact h
  ·rename_i A;rw[A]at h;cases h
theorem vc3{B:σ->Option (LS σ τ)}{m:Nat}{s:σ}{t:τ}(h:qtd B n s=some t)(A:n<=m):qtd B m s=some t:=by
 induction A with
 |refl=>exact h
 |step _ ih=>exact q3j B _ s t ih
open Classical in
def qah (B:σ->Option (LS σ τ)) (s:σ):Option τ:=if h:∃t n,qtd B n s=some t then some h.choose else none
theorem q4p{B:σ->Option (LS σ τ)}{s:σ}{t:τ}(h:qtd B n s=some t):qah B s=some t:=by
 have A:∃t n,qtd B n s=some t:=⟨t,n,h⟩;unfold qah;rw[dif_pos A];obtain⟨m,E⟩:=A.choose_spec;have h1:=vc3 h (Nat.le_max_left n m);have H:=vc3 E (Nat.le_max_right n m)
 grind
theorem q0r{B:σ->Option (LS σ τ)}{s:σ}{t:τ}(h:qah B s=some t):∃n,qtd B n s=some t:=by
 unfold qah at h;split at h
 ·grind
 ·cases h
theorem qas{B:σ->Option (LS σ τ)}{s s':σ}(h:B s=some (.next s')):qah B s=qah B s':=by
 cases h1:qah B s' with
 |some t =>
  obtain⟨n,hn⟩:=q0r h1;exact q4p (n:=n+1) (by rw[qtd,h];exact hn)
 | none =>
  cases A:qah B s with
  |none=>rfl
  | some t =>
   obtain⟨n,hn⟩:=q0r A;cases n with
   |zero=>cases hn
   |succ n =>
    rw[qtd,h]at hn;rw[q4p hn]at h1;cases h1
theorem qap{B:σ->Option (LS σ τ)}{s:σ}{t:τ}(h:B s=some (.done t)):qah B s=some t:=q4p (n:=1) (by rw[qtd,h])
theorem qzt{B:σ->Option (LS σ τ)}(I:σ->Prop)(m:σ->Nat)(E:τ->Prop)(A:∀s,I s->(∃s',B s=some (.next s')/\I s'/\m s'<m s)\/∃t,B s=some (.done t)/\E t) :
  ∀(n:Nat) (s:σ),m s<=n->I s->∃t,qah B s=some t/\E t:=by
 intro n
 induction n with
 |zero =>
  intro s M J;rcases A s J with⟨s',_,_,h⟩|⟨t,h1,H⟩
  ·omega
  ·exact⟨t,qap h1,H⟩
 |succ n ih =>
  intro s M J;rcases A s J with⟨s',h1,H,h⟩|⟨t,h1,H⟩
  ·rw[qas h1];exact ih s' (by omega) H
  ·exact⟨t,qap h1,H⟩
end
variable {C:Cx} {Q:Exit->St->Prop} {st:St}
variable {α:Type} {T:Exit->St->Prop} {c:Operand} {e:Exit} {x y:Code} {s:St}
def Wk(C:Cx)(Q:Exit->St->Prop)(e:Exit)(s:St):Prop:=Q e s\/∃s',Le C s s'/\Q e s'
theorem Wk.now(h:Q e s):Wk C Q e s:=.inl h
theorem Wk.to{s':St}(h:Le C s s')(h':Q e s'):Wk C Q e s:=.inr ⟨s',h,h'⟩
theorem qwl{c:Code}(h:AWp C c T st)(J:∀e s,T e s->Wk C Q e s):AWp C c Q st:=fun inj a w H =>
 wp_mono (h inj a w H) fun e a w ⟨s,i,h1,E⟩=>by
  rcases J e s E with A|⟨s',A,I⟩
  ·exact⟨s,i,h1,A⟩
  ·exact⟨s',_,A.sr h1,I⟩
theorem vo6(h:AWp C x T st)(A:∀e s,T e s->Wk C (qy2 (fun s=>AWp C y Q s) Q) e s):AWp C (.seq x y) Q st :=
 qnq (qwl h A)
def LP{σ τ:Type}(C:Cx)(S:σ->St)(T:τ->Exit->St->Prop):LS σ τ->Exit->St->Prop
 |.next s',e,st'=>e=.normal/\Le C st' (S s')
 |.done t,e,st'=>T t e st'
theorem vf3{σ τ:Type}{c:Code}{B:σ->Option (LS σ τ)}{s0:σ}{t:τ}(S:σ->St)(T:τ->Exit->St->Prop)(hn:∀t s,¬T t .normal s)(O:qah B s0=some t)(h0:Le C st (S s0))
  (E:∀s x,B s=some x->AWp C c (LP C S T x) (S s)) (H:∀e s,T t e s->Wk C Q e s):AWp C (.loop c) Q st:=by
 refine qwl (T:=T t) ?_ H;obtain⟨n,W⟩:=q0r O;refine q0i h0 (vou (fun(g:Nat×σ) s=>qtd B g.1 g.2=some t/\s=S g.2) (fun g=>g.1) (n,s0) ⟨W,rfl⟩ ?_);rintro⟨k,s⟩ st' ⟨A,rfl⟩;simp only at A ⊢;cases k with
 |zero=>cases A
 | succ k =>
  rw[qtd]at A;cases J:B s with
  |none=>rw[J]at A;cases A
  | some x =>
   rw[J]at A;intro inj a w V;refine wp_mono (E s x J inj a w V) ?_;rintro e a w ⟨U,i,h1,M⟩;cases x with
   |next s' =>
    obtain⟨rfl,I⟩:=M;exact⟨S s',_,I.sr h1,(k,s'),⟨A,rfl⟩,Nat.lt_succ_self k⟩
   |done t' =>
    simp only[v7s]at A;subst A;cases e with
    |normal=>exact(hn _ _ M).elim
    |_=>exact⟨U,i,h1,M⟩
theorem vc4(A:ev st.env c=.p (.bool true))(h:AWp C x Q st):AWp C (.cond c x y) Q st:=vc0 A (fun _=>h) (fun E=>Bool.noConfusion E)
theorem vc5(A:ev st.env c=.p (.bool false))(h:AWp C y Q st):AWp C (.cond c x y) Q st:=vc0 A (fun E=>Bool.noConfusion E) (fun _=>h)
theorem va0{ops:Array Oper}{l:List Oper}(n:Nat){st':St}(hr:qse C.P C.N C.B ops (l.take n) st=(st',[]))(h:AL C ops (l.drop n) Q st'):AL C ops l Q st:=by
 rw[<-v88 n l];exact qn1 h _ _ hr
def idx(l:List α)(i:Int):Option α:=if 0<=i then l[i.toNat]? else none
theorem vo7{l:List α}{i:Int}{x:α}(h:idx l i=some x):0<=i/\l[i.toNat]?=some x/\i<(l.length:Int):=by
 unfold idx at h
 grind
theorem qvm(l:List α)(k:Nat):idx l (k:Int)=l[k]?:=by simp[idx]
theorem qdc{l:List α}{k:Nat}{x:α}(h:l[k]?=some x):k<l.length:=(v56.1 h).1
def qa8(n b:Nat):Bool:=decide (n*b<=140737488355328/\n<=9223372036854775807)
@[go_sem]theorem roomOk_B(P:Program)(e n:Nat):qu6 P e n=qa8 n (P.bytesOf e):=rfl
theorem vjx(x:PV)(r:List AV):qq9 (.p x::r)=(qq9 r).map (x :: ·):=by
 show(match qq9 r with|some xs=>some (x::xs)|none=>none)=_;cases qq9 r<;>rfl
@[go_sem]theorem allP_map(A:List PV):qq9 (A.map .p)=some A:=by
 induction A with
 |nil=>rfl
 |cons x r ih=>rw[v6i,vjx,ih];rfl
theorem qie(f:α->PV)(sz:Nat)(A:List α)(h:∀x,((f x).isTup=false/\(f x).cells.length=sz)):((A.map f).map AV.p).all (qhb sz)=true:=by
 rw[v8d];intro y E;simp only[List.map_map,v81,Function.comp_apply]at E;obtain⟨x,_,rfl⟩:=E;simp[qhb,AV.known,AV.cells,(h x).1,(h x).2]
@[go_sem]theorem AVs_app(A E:List PV):A.map AV.p++E.map AV.p=(A++E).map AV.p:=by simp
@[go_sem]theorem AVs_app1(A:List PV)(y:PV):A.map AV.p++[AV.p y]=(A++[y]).map AV.p:=by simp
@[go_sem]theorem vu2(σ E:Nat->AO)(A H:List PV):qkv σ E (A.map .p) (H.map .p)=(A=H):=by
 apply propext;constructor
 ·intro h
  induction H generalizing A with
  |nil =>
   simp only[v6j,qkv]at h;exact List.map_eq_nil_iff.1 h
  | cons y H ih =>
   cases A with
   |nil=>exact h.elim
   |cons x A =>
    simp only[v6i,qta,vi3]at h
    grind
 ·rintro rfl;exact qyn σ E A
@[go_sem]theorem LeVs_0p(σ A:Nat->AO)(E:List PV):qkv σ A [] (E.map .p)=([]=E):=vu2 σ A [] E
attribute [go_sem] v7a List.take_length v7l Nat.add_zero v6b v8n Int.le_refl
@[go_sem]theorem take_map{β:Type}(f:α->β)(l:List α)(n:Nat):(l.map f).take n=(l.take n).map f:=by rw[v8x]
@[go_sem] theorem drop_map {α β:Type} (f:α->β) (l:List α) (n:Nat):(l.map f).drop n=(l.drop n).map f:=by rw[v8v]
def qal {α:Type} (f:α->PV) (l:List α):PV:=.slc (l.map f)
@[go_sem]theorem encL_eq(f:α->PV)(l:List α):qal f l=.slc (l.map f):=rfl
theorem qac{c:Prop}[Decidable c]{a:Option α}{r:α}(h:(if c then a else none)=some r):c/\a=some r:=by
 split at h
 ·exact⟨‹c›,h⟩
 ·cases h
theorem qhe{c:Prop}[Decidable c]{a:Option α}{r:α}(h:(if c then none else a)=some r):¬c/\a=some r:=by
 split at h
 ·cases h
 ·exact⟨‹¬c›,h⟩
end
end Go.Ab
namespace Go.Ab
variable {α:Type}
theorem qn2{l:List α}{o n k:Nat}{x:α}(h:((l.drop o).take n)[k]?=some x):l[o+k]?=some x/\k<n:=by
 grind
theorem qrf{n:Nat}{i:Int}(h:i.toNat<n)(h0:0<=i):i<(n:Int):=by omega
def qi4(l:List Int):List UInt8:=l.map fun n=>UInt8.ofNat n.toNat
@[go_sem]theorem vu3(l:List Int):qjd (v8t AV.p (v8t (PV.int .u8) l))=some (qi4 l):=by
 unfold qi4
 induction l with
 |nil=>rfl
 |cons n l ih=>simp only[v6i,qjd,ih,v7r]
@[go_sem]theorem vu4:qjd []=some []:=rfl
@[go_sem]theorem vsk(n:Int)(r:List AV):qjd (.p (.int .u8 n)::r)=(qjd r).map (UInt8.ofNat n.toNat :: ·):=rfl
@[go_sem]theorem vu5(l:List Int)(r:List AV):qjd (v8t AV.p (v8t (PV.int .u8) l)++r)=(qjd r).map (qi4 l++·):=by
 unfold qi4
 induction l with
 |nil=>cases h:qjd r<;>simp[h]
 |cons n l ih=>simp only[v6i,v8g,qjd,ih];cases qjd r<;>rfl
@[go_sem]theorem vu6:qi4 []=[]:=rfl
@[go_sem]theorem vsl(n:Int)(l:List Int):qi4 (n::l)=UInt8.ofNat n.toNat::qi4 l:=rfl
@[go_sem]theorem vu7(l m:List Int):qi4 (l++m)=qi4 l++qi4 m:=by simp[qi4]
@[go_sem] theorem ok_int (k:IntKind) (l:List Int):((l.map (PV.int k)).map AV.p).all (qhb 1)=true:=qie _ _ _ fun _=>⟨rfl,rfl⟩
@[go_sem]theorem ok_str(l:List (List UInt8)):((l.map PV.str).map AV.p).all (qhb 1)=true:=qie _ _ _ fun _=>⟨rfl,rfl⟩
@[go_sem]theorem ok_list(f:α->PV)(l:List (List α)):((l.map (qal f)).map AV.p).all (qhb 1)=true:=qie _ _ _ fun _=>⟨rfl,rfl⟩
@[go_sem]theorem sl_int(k:IntKind)(l:List Int):((l.map (PV.int k)).all fun y=>y.cells.length==1)=true:=by simp[PV.cells]
@[go_sem] theorem sl_bool (l:List Bool):((l.map PV.bool).all fun y=>y.cells.length==1)=true:=by simp[PV.cells]
@[go_sem] theorem sl_str (l:List (List UInt8)):((l.map PV.str).all fun y=>y.cells.length==1)=true:=by simp[PV.cells]
@[go_sem] theorem sl_list {α:Type} (f:α->PV) (l:List (List α)):((l.map (qal f)).all fun y=>y.cells.length==1)=true:=by simp[PV.cells,qal]
attribute [go_sem] v7k
end Go.Ab
namespace Go.Ab
open Go
variable {C:Cx} {Q:Exit->St->Prop} {st:St}
variable {h:List (Nat×AO)} {ops:Array Oper} {l:List Oper} {d:Nat} {v:AV}
theorem qwm{d:Option Tmp}{t:TypeId}{x y:Operand}{yt:TypeId}{ty:TypeId}{pos:String}{af:Array Edge}{rest:List Oper}{l:List PV}{e:TypeId}
  (W:ev st.env x=.p (.slc l)) (hy:ev st.env y=.nils) (U:C.P.underlying t=some (.slice e)) (Z:qb2 C.N ⟨d,.binOp .eql t x y yt,ty,pos,af,none⟩=true)
  (h:∀b,(l≠[]->b=false)->AL C ops rest Q ⟨qfa st.env d (.p (.bool b)),st.heap⟩):AL C ops (⟨d,.binOp .eql t x y yt,ty,pos,af,none⟩::rest) Q st:=by
 intro inj A w E;simp only[wpList,qb3 (ops:=ops) (o:=⟨d,.binOp .eql t x y yt,ty,pos,af,none⟩) E (qao rfl),if_true];refine .inl ?_;have O:=E.eval x;have M:=E.eval y;rw[W]at O;rw[hy]at M;simp only[AR,PR]at O M;obtain⟨a,I,vs,V,hc,h1,H⟩:=O;have hg:(eqGuard .eql t x y (.slice a l.length I) (.slice none 0 0)).run C.P w=.ok () w:=by simp[eqGuard]
 refine qs6 (s:=do eqGuard .eql t x y (A.eval x) (A.eval y);binOp .eql t (A.eval x) (A.eval y)) (val:=.bool a.isNone) (w':=w) rfl ?_ ?_
 ·rw[V,M];simp only[v7w,hg,v7u];exact v5o w t e _ _ _ _ _ U
 ·refine h a.isNone (fun J=>?_) inj _ _ (E.put (u:=none) Z E.hr (Ev.refl _ _ _ _) rfl);rcases H with H|⟨b,o,sz,ha,_⟩
  ·subst H;have:=h1.length;simp at this;exact(J this).elim
  ·rw[ha];rfl
def q0s(N:Nat)(ops:Array Oper):List Oper->Env->List Oper×Env
 |[],env=>([],env)
 | o :: r,env=>match o.guard with
  |none=>(o::r,env)
  |some _=>match qb2 N o,qbh ops env o with
   |true,some false=>q0s N ops r (qfa env o.dst (.p (.tup [])))
   |_,_=>(o::r,env)
theorem vc6{ops:Array Oper}:∀{l A:List Oper} {env J:Env} {h:List (Nat×AO)},q0s C.N ops l env=(A,J)->AL C ops A Q ⟨J,h⟩->AL C ops l Q ⟨env,h⟩
 |[],_,_,_,_,he,k=>by
  simp only[q0s,v7t]at he;obtain⟨rfl,rfl⟩:=he;exact k
 | o :: r,A,env,J,hp,he,k=>by
  simp only[q0s]at he;split at he
  ·simp only[v7t]at he;obtain⟨rfl,rfl⟩:=he;exact k
  ·split at he
   ·rename_i h1 E;exact vi0 E h1 (vc6 he k)
   ·simp only[v7t]at he;obtain⟨rfl,rfl⟩:=he;exact k
theorem vo8{env:Env}(E:env.get d=v)(k:AL C ops l Q ⟨(d,v)::env,h⟩):AL C ops l Q ⟨env,h⟩:=fun inj a w A=>k inj a w (SR.known E A)
def qwn(N:Nat)(ops:Array Oper):List Oper->Env->List Evt->List Oper×Env×List Evt
 |[],env,acc=>([],env,acc)
 | o :: r,env,acc=>match o.guard with
  |none=>(o::r,env,acc)
  |some _=>match qb2 N o,qbh ops env o with
   |true,some false=>qwn N ops r (qfa env o.dst (.p (.tup []))) (⟨.p (.tup []),none,[]⟩::acc)
   |_,_=>(o::r,env,acc)
theorem DGo.skips{M:Array Oper}{K:List Evt->St->Prop}:∀{l A:List Oper} {env J:Env} {E I:List Evt} {h:List (Nat×AO)},qwn C.N M l env E=(A,J,I)->DGo C M A ⟨J,h⟩ I K->DGo C M l ⟨env,h⟩ E K
 |[],_,_,_,_,_,_,he,k=>by
  simp only[qwn,v7t]at he;obtain⟨rfl,rfl,rfl⟩:=he;exact k
 | o :: r,A,env,J,E,I,hp,he,k=>by
  simp only[qwn]at he;split at he
  ·simp only[v7t]at he;obtain⟨rfl,rfl,rfl⟩:=he;exact k
  ·split at he
   ·rename_i h1 H;exact DGo.gf H h1 (DGo.skips he k)
   ·simp only[v7t]at he;obtain⟨rfl,rfl,rfl⟩:=he;exact k
theorem DGo.known'{M:Array Oper}{env:Env}{E:List Evt}(J:env.get d=v)(k:DGo C M l ⟨(d,v)::env,h⟩ E (DK C M Q)):DGo C M l ⟨env,h⟩ E (DK C M Q):=by
 obtain⟨es,st',O,U⟩:=k;obtain⟨A,V,I,H⟩:=O.known (st:=⟨env,h⟩) (q0q env J) rfl;exact⟨es,A,V,DK.congr _ _ _ I H U⟩
end Go.Ab
namespace Go.Ab
variable {D:Prop}
open Go
variable {args:Array Value} {s:ChangeSpec} {E:List MemPlace} {v:Value} {f:Func} {W:World}
structure Bulk(b:(H:Type)->DataW H->Nat):Prop where
 str:∀(H:Type) (s:List UInt8),s.length<=b H (.lit (.string s))
 slen:∀(H:Type) (es sp:List (DataW H)),es.length<=b H (.slice es sp)
 selem:∀(H:Type) (es sp:List (DataW H)) (d:DataW H),d∈es->b H d<=b H (.slice es sp)
 part:∀(H:Type) (ps:List (DataW H)) (d:DataW H),d∈ps->b H d<=b H (.agg ps)
abbrev NoX:Nat->Prop:=fun _=>False
theorem PRs.one{X:Nat->Prop}{w:World}:∀{ps:List PV} {vs:List Value},PRs X w ps vs->(∀y∈ps,y.isAgg=false/\y.isTup=false)->qbp vs
 |[],vs,h,_=>by simp only[PRs]at h;subst h;intro u A;cases A
 |p::ps,vs,h,hp=>by
  obtain⟨v,r,rfl,h1,E⟩:=h;have hr:=PRs.one E fun y H=>hp y (v8y _ H)
  have h0:=hp p (by simp);intro u A;rcases List.mem_cons.1 A with e|e
  ·subst e;cases p<;>simp only[PR]at h1<;>first|(subst h1;rfl)|(rcases h1 with⟨e,_⟩|⟨_,_,_,e,_⟩<;>(subst e;rfl))|(obtain⟨_,_,_,e,_⟩:=h1;subst e;rfl)|(obtain⟨_,_,e,_⟩:=h1;subst e;rfl)|(obtain⟨_,e,_⟩:=h1;subst e;first|rfl|simp[PV.isAgg,PV.isTup]at h0)|simp[PV.isAgg,PV.isTup]at h0
  ·exact hr u e
structure Rd(P:Program)(b:(H:Type)->DataW H->Nat)(t:TypeId){α:Type}(f:α->PV)(ok:α->Prop):Prop where
 cells:∀x,(f x).cells.length=P.cellsOf t
 plain:∀x,∀y∈(f x).cells,y.isAgg=false/\y.isTup=false
 agg:∀x,qat P t=some (f x).isAgg
 read:∀{H:Type} {enc:TypeId×Value->H} {w:World} {sp:Nat->Bool} {n:Nat} {cs:List Value} {x:DataW H×List MemPlace},DataW.trod enc P w 0 sp true n t cs=some x->b H x.1<=1048576->∃a,PRs NoX w (f a).cells cs/\ok a
variable {P:Program} {b:(H:Type)->DataW H->Nat} {t:TypeId}
def ofCells(g:Bool)(cs:List Value):Value:=if g then .agg cs.toArray else cs.headD undef
theorem PR.ofCells{α:Type}{f:α->PV}{ok:α->Prop}(R:Rd P b t f ok){w:World}{cs:List Value}{a:α}(h:PRs NoX w (f a).cells cs) :
  PR NoX w (f a) (ofCells (f a).isAgg cs)/\(ofCells (f a).isAgg cs).cells.toList=cs:=by
 have A:=h.one (R.plain a);unfold Ab.ofCells;cases H:f a with
 |agg ps =>
  rw[H]at h;simp only[PV.isAgg,if_true];exact⟨⟨cs,rfl,h,A⟩,by simp[Value.cells]⟩
 |_ =>
  rw[H]at h;simp only[PV.isAgg,v5k,if_false];simp only[PV.cells]at h;obtain⟨v,r,rfl,h1,E⟩:=h;simp only[PRs]at E;subst E;refine⟨h1,?_⟩;have:=A v (by simp);simp only[List.headD_cons];cases v<;>first|rfl|simp[Value.oneCell']at this
theorem v07{k:IntKind}(A:P.underlying t=some (.int k))(I:P.cellsOf t=1):Rd P b t (PV.int k) (fun n=>(Lit.int k n).wf=true):=by
 refine⟨fun x=>by rw[I];rfl,fun x y E=>?_,fun x=>by simp[qat,A];rfl,fun h _=>?_⟩
 ·simp only[PV.cells,v84]at E;subst E;exact⟨rfl,rfl⟩
 ·obtain⟨n,rfl,_,H⟩:=DataW.trod_int A h;exact⟨n,⟨_,_,rfl,rfl,rfl⟩,H⟩
theorem vf4{w:World}{a:Addr}{n:Nat}{cs:List Value}(h:w.cells? 0 a n=some cs):cs.length=n/\∀i u,cs[i]?=some u->w.cell? (a.add i)=some u:=by
 unfold World.cells? at h;rw[if_pos (v9f _)]at h;have hl:=(mapM_some_length h);simp only[List.length_range]at hl;refine⟨hl,fun i u A=>?_⟩;have hi:i<n:=by have:=qdc A;omega
 have:=mapM_some_get h i i (by simp[hi])
 grind
theorem PRs.app{X:Nat->Prop}{w:World}:∀{ps:List PV} {vs:List Value} {qs:List PV} {us:List Value},PRs X w ps vs->PRs X w qs us->PRs X w (ps++qs) (vs++us)
 |[],_,_,_,h,h'=>by simp only[PRs]at h;subst h;exact h'
 |p::ps,_,_,_,h,h'=>by
  obtain⟨v,r,rfl,h1,A⟩:=h;exact⟨v,r++_,rfl,h1,PRs.app A h'⟩
theorem q4q{e:TypeId}{α:Type}{f:α->PV}{ok:α->Prop}(A:P.underlying t=some (.slice e))(hc:P.cellsOf t=1)(hs:0<P.cellsOf e)(B:Bulk b)(R:Rd P b e f ok) :
  Rd P b t (qal f) (fun l=>l.length<=1048576/\∀x∈l,ok x):=by
 refine⟨fun x=>by rw[hc];rfl,fun x y hy=>?_,fun x=>by simp[qat,A];rfl,fun {H enc w sp n cs x} h hb=>?_⟩
 ·simp only[qal,PV.cells,v84]at hy;subst hy;exact⟨rfl,rfl⟩
 rcases Deep.open_slice A h with⟨rfl,rfl⟩|⟨a,len,cap,m,n',D,Pl,rfl,_,hl,hm,hmm,rfl,M⟩
 ·exact⟨[],⟨_,_,rfl,⟨_,_,_,rfl,v7a _,rfl,.inl rfl⟩,rfl⟩,v9f _,(fun x M=>absurd M (by simp))⟩
 simp only at hb;have hlen:len<=1048576:=by
  have:=B.slen H ((v6s len).map D) ((v6s (m-len)).map fun j=>D (len+j))
  grind
 have hlm:len<=m:=by rw[hmm];split<;>omega
 have key:∀k,k<=len->∃(l:List α) (vs:List Value),l.length=k/\PRs NoX w (l.map f) vs/\(∀v∈vs,v.cells.size=P.cellsOf e)/\qbp (flat vs)/\(flat vs).length=k*P.cellsOf e /\
   (∀j u,(flat vs)[j]?=some u->w.cell? (a.add j)=some u)/\∀x∈l,ok x:=by
  intro k
  induction k with
  |zero =>
   intro _;exact⟨[],[],rfl,rfl,(fun v hv=>absurd hv (by simp)),(fun u A=>absurd A (by simp[flat])),(by simp[flat]),(fun j u A=>absurd A (by simp[flat])),(fun x M=>absurd M (by simp))⟩
  | succ k ih =>
   intro hk;obtain⟨l,vs,h1,V,h3,h4,h5,h6,h7⟩:=ih (by omega);obtain⟨J,h8,h9⟩:=M k (by omega);have Z:b H (D k)<=1048576:=v7c (B.selem H _ _ (D k) (v81.2 ⟨k,v83.2 (by omega),rfl⟩)) hb;obtain⟨y,U,h11⟩:=R.read h9 Z;obtain⟨hl8,W⟩:=vf4 h8;obtain⟨h12,h13⟩:=PR.ofCells R U;have hf:flat (vs++[ofCells (f y).isAgg J])=flat vs++J:=by simp[flat,h13]
   refine⟨l++[y],vs++[ofCells (f y).isAgg J],by simp[h1],?_,?_,?_,?_,?_,?_⟩
   ·rw[v6h];exact V.app ⟨_,_,rfl,h12,rfl⟩
   ·grind
   ·rw[hf];intro u A;rcases v6k.1 A with A|A
    ·exact h4 u A
    ·exact U.one (R.plain y) u A
   ·grind
   ·rw[hf];intro j u A;by_cases hj:j<(flat vs).length
    ·grind
    ·rw[v8k (by omega),h5]at A;have:=W _ _ A;rw[Deep.add_add]at this
     grind
   ·grind
 obtain⟨l,vs,h1,V,h3,h4,h5,h6,h7⟩:=key len (v7a _);refine⟨l,⟨_,_,rfl,⟨some a,cap,vs,by simp[h1],by simp[h1,hl],V,?_⟩,rfl⟩,by omega,h7⟩;by_cases h0:len=0
 ·refine .inl ?_;have:=V.length
  grind
 ·have O:0<(flat vs).length:=by rw[h5];exact Nat.mul_pos (by omega) hs
  have I:=h6 0 _ (v52 O);have e0:a.add 0=a:=rfl;rw[e0]at I;have E:a=⟨a.block,a.off,none⟩/\a.block<w.heap.size:=by
   unfold World.cell? at I;split at I
   ·rename_i c e2 fr hb2;refine⟨?_,(v5d.1 hb2).1⟩;split at I
    ·cases I
    ·rename_i hsp;cases a with
     |mk bl off spot=>cases spot<;>simp_all
   ·cases I
  refine .inr ⟨a.block,a.off,P.cellsOf e,by rw[<-E.1],h3,h4,E.2,fun h=>h,fun j u A=>?_⟩;have:=h6 j u A;rw[E.1]at this;unfold Addr.add at this
  grind
structure RdFs(P:Program)(b:(H:Type)->DataW H->Nat)(fs:List Field){α:Type}(g:α->List PV)(ok:α->Prop):Prop where
 read:∀{H:Type} {enc:TypeId×Value->H} {w:World} {sp:Nat->Bool} {n:Nat} (cs:Field->List Value),(∀fd∈fs,∃y,DataW.trod enc P w 0 sp true n fd.type (cs fd)=some y/\b H y.1<=1048576)->∃a,PRs NoX w (g a) (fs.flatMap cs)/\ok a
theorem RdFs.nil:RdFs P b [] (fun _:Unit=>[]) (fun _=>True):=⟨fun cs h=>⟨(),rfl,trivial⟩⟩
theorem RdFs.cons{fd:Field}{I:List Field}{α β:Type}{f:α->PV}{ok:α->Prop}{g:β->List PV}{A:β->Prop}(R:Rd P b fd.type f ok)(V:RdFs P b I g A) :
  RdFs P b (fd::I) (fun x:α×β=>(f x.1).cells++g x.2) (fun x=>ok x.1/\A x.2):=⟨fun cs h=>by
 obtain⟨y,h1,H⟩:=h fd (by simp);obtain⟨a,O,M⟩:=R.read h1 H;obtain⟨c,J,U⟩:=V.read cs (fun E h'=>h E (by simp[h']));exact⟨(a,c),by rw[v8h];exact O.app J,M,U⟩⟩
def v08(P:Program):Nat->List Field->Option Nat
 |o,[]=>some o
 |o,f::r=>if f.offset=o then v08 P (o+P.cellsOf f.type) r else none
theorem q7o{P:Program}:∀{I:List Field} {o s:Nat} {cs:List Value},v08 P o I=some s->cs.length=s->I.flatMap (fun f=>(cs.drop f.offset).take (P.cellsOf f.type))=cs.drop o/\o<=s
 |[],o,s,cs,h,hl=>by
  simp only[v08,v7s]at h;subst h;refine⟨?_,v7a _⟩;rw[List.flatMap_nil,List.drop_of_length_le (by omega)]
 |f::r,o,s,cs,h,hl=>by
  simp only[v08]at h;split at h
  ·rename_i ho;obtain⟨h1,A⟩:=q7o h hl;refine⟨?_,by omega⟩;rw[v8h,h1,ho,<-List.drop_drop];exact v88 _ _
  ·cases h
theorem q0t{I:Array Field}{α β:Type}{f:α->PV}{ok:α->Prop}{g:β->List PV}{V:β->Prop}(hu:P.underlying t=some (.struct I))(Z:v08 P 0 I.toList=some (P.cellsOf t))(B:Bulk b)(R:RdFs P b I.toList g V)(mk:β->α)
  (J:∀x,(f x).cells.length=P.cellsOf t) (E:∀x,∀y∈(f x).cells,y.isAgg=false/\y.isTup=false) (W:∀x,(f x).isAgg=true) (hmk:∀y,(f (mk y)).cells=g y) (hok:∀y,V y->ok (mk y)):Rd P b t f ok:=by
 refine⟨J,E,fun x=>by rw[W];simp[qat,hu],fun {H enc w sp n cs x} h hb=>?_⟩;obtain⟨A,m,rfl,rfl,hl,hxl,hx⟩:=DataW.trod_struct hu h;have O:∀fd∈I.toList,∃y,DataW.trod enc P w 0 sp true m fd.type ((cs.drop fd.offset).take (P.cellsOf fd.type))=some y/\b H y.1<=1048576:=by
  intro fd hfd;obtain⟨i,hi⟩:=List.mem_iff_getElem?.1 hfd;have M:I[i]?=some fd:=by simpa using hi
  have h1:=hx i fd M;have U:i<A.length:=by rw[hxl];exact(v5d.1 M).1
  rw[v52 U]at h1;exact⟨_,h1,v7c (B.part H _ _ (v81.2 ⟨_,List.getElem_mem U,rfl⟩)) hb⟩
 obtain⟨y,h1,h2⟩:=R.read _ O;refine⟨mk y,?_,hok y h2⟩;rw[hmk];obtain⟨h3,_⟩:=q7o (cs:=cs) Z hl
 grind
theorem Rd.val{α:Type}{f:α->PV}{ok:α->Prop}(R:Rd P b t f ok){H:Type}{enc:TypeId×Value->H}{w:World}{W:Nat->Bool}{E:Nat}{d:DataW H}{ps:List MemPlace}
  (A:Value.okWide P w .any E t v) (h:DataW.Trod enc P w 0 W true t v d ps) (Z:b H d<=1048576):∃a,PR NoX w (f a) v/\ok a:=by
 obtain⟨n,hn⟩:=h;obtain⟨a,h1,V⟩:=R.read hn Z;refine⟨a,?_,V⟩;obtain⟨h3,h4⟩:=PR.ofCells R h1;have I:=R.agg a;have:ofCells (f a).isAgg v.cells.toList=v:=by
  unfold Ab.ofCells;unfold Value.okWide at A;unfold qat at I;cases M:P.underlying t with
  |none=>rw[M]at I;cases I
  | some u =>
   rw[M]at I A;have O:=h1.one (R.plain a);cases U:(f a).isAgg with
   |true =>
    rw[U]at I;simp only[if_true];cases u<;>simp at I A
    ·obtain⟨cs,rfl,_⟩:=A;simp[Value.cells]
    ·obtain⟨cs,rfl,_⟩:=A;simp[Value.cells]
   | false =>
    rw[U]at I;simp only[v5k,if_false];have J:∀cs,v≠.agg cs:=by
     rintro cs rfl;cases u<;>simp[Cell.okWide,Cell.ok,M]at A I
    cases v<;>first|rfl|exact absurd rfl (J _)
 grind
theorem Fr.kept{w w':World}(h:Fr D w w'):w.keptBut w' (fun _=>False):=by
 refine⟨h.os,h.output,fun i hi=>?_⟩;rw[h.blk i hi]
 grind
theorem Fr.same{w w':World}(h:Fr D w w'){p:MemPlace}(A:p.block<w.heap.size):w.sameAt w' p:=by
 cases p with
 |cell c o=>exact World.cell?_of_block (h.blk c A)
 |map c=>exact h.blk c A
theorem qwo{H:Type}{enc:TypeId×Value->H}{w w':World}{E:Nat}{M:Nat->Bool}{I:Bool}:∀{O:List TypeId} {vs:List Value} {A:List (DataW H)} {ps:List MemPlace},
  DataW.TrodAll enc P w E M I O vs A ps->(∀p∈ps,w.sameAt w' p)->DataW.TrodAll enc P w' E M I O vs A ps
 |[],[],[],_,h,_=>h
 |_::_,_::_,_::_,_,⟨p,q,⟨n,h1⟩,h2,e⟩,hs=>⟨p,q,⟨n,DataW.trod_carry n _ _ _ h1 fun x J=>hs x (by rw[e];exact List.mem_append_left _ J)⟩,qwo h2 (fun x J=>hs x (by rw[e];exact List.mem_append_right _ J)),e⟩
theorem vjy{H:Type}{enc:TypeId×Value->H}{J fresh M again:Bool}{Z:World}{A gs:List (DataW H)}{pa pv:List MemPlace}
  (hW:DataW.Whole enc P f.params.toList s.vars J W args.toList A gs E)
  (V:∀(b:Nat) (sp:Nat->Bool) (hd:Bool),DataW.TrodAll enc P Z b sp hd f.resultTypes.toList (v.resultList f.resultTypes.size) (s.fn H (A++gs)).results [])
  (I:∀sp:Nat->Bool,(∀p∈E,sp p.block=true)->DataW.TrodAll enc P Z 0 sp true f.params.toList args.toList (s.fn H (A++gs)).args pa)
  (O:∀sp:Nat->Bool,(∀p∈E,sp p.block=true)->DataW.TrodVars enc P Z sp s.vars (s.fn H (A++gs)).vars pv)
  (hps:E=pa++pv) (hk:W.keptBut Z (·∈E)) (hfz:∀b off,MemPlace.cell b off∈E->Z.frozen? ⟨b,off,none⟩=W.frozen? ⟨b,off,none⟩)
  (hok:∀(j:Nat) (t:TypeId) (r:Value),f.resultTypes[j]?=some t->(v.resultList f.resultTypes.size)[j]?=some r->Value.okWide P Z .any 0 t r) :
  s.post enc P f J fresh M again W args v Z:=by
 have U:∀p∈E,(fun b=>decide (b<W.heap.size)) p.block=true:=fun p hp=>by simpa using hW.lt p hp
 refine⟨A,gs,E,[],pa,pv,hW,V _ _ _,I _ U,O _ U,World.keptBut_mono (fun p hp=>⟨hp,?_⟩) hk,fun _=>?_⟩
 ·grind
 obtain⟨_,_,_,_,_,hz,hn⟩:=hW;refine⟨hok,_,_,([]++pa)++pv,⟨[]++pa,pv,ChangeShapes.trodAll_append (I _ (fun _ _=>rfl)) (V _ _ _),O _ (fun _ _=>rfl),rfl,?_,?_⟩,?_⟩
 ·intro b off hp;have hp':MemPlace.cell b off∈E:=by rw[hps];simpa using hp
  rw[hfz b off hp'];exact hz b off hp'
 ·grind
 ·grind
theorem vo9{H:Type}{enc:TypeId×Value->H}{A gs:List (DataW H)}{k:FuncId}{tb:TypeId}{V:List PV}
  (hW:DataW.Whole enc P f.params.toList s.vars false W args.toList A gs E) (hv:s.vars=[]) (M:s.fn H A={ results:=[.lit (.bool true)],args:=A }) (I:f.resultTypes=#[tb]) (Z:P.underlying tb=some .bool)
  (hl:laidOutB P=true) (hm:mapsRowed P=true) (hz:((v6s P.types.size).all fun t=>match P.underlying t with|some (.slice e)=>decide (0<P.cellsOf e)|_=>true)=true) (hts:∀t∈f.params.toList,t<P.types.size)
  (hcon:Con D P k V (.bool true)) (htab:TabOk P NoX W) (hpr:PRs NoX W V args.toList) :
  Calls P k args W fun e W'=>∃v,e=.returned v/\s.post enc P f false true false false W args v W':=by
 have U:=hW;obtain⟨p,q,hA,hV,rfl,hfz,hnd⟩:=hW;rw[hv]at hV;obtain⟨rfl,rfl⟩:=ChangeShapes.trodVars_none hV;have J:=U.lt;simp only[v5s]at U J;have hc:=hcon.pure NoX W args.toList (fun b hb=>hb.elim) htab hpr;rw[Array.toArray_toList]at hc;refine hc.mono ?_;rintro e W' ⟨v,rfl,hv',O⟩;simp only[PR]at hv';subst hv';refine⟨_,rfl,?_⟩;have K:=kids_rows hl hm;have hss:=slices_full_of P hz;refine vjy (pa:=p) (pv:=[]) U ?_ ?_ ?_ (by simp) (World.keptBut_mono (fun _ h=>h.elim) O.kept) (fun b off hp=>O.fz ⟨b,off,none⟩ (J _ hp)) ?_
 ·intro b0 sp hd;simp only[v5s,M,I];exact trodAll_cons_mk (RowKit.shut_bool Z _) ChangeShapes.trodAll_mk0
 ·intro sp hsp;simp only[v5s,M];exact qwo (DataW.TrodAll.respare K hss hts hA (fun x hx=>hsp x hx)) (fun x hx=>O.same (J x hx))
 ·intro sp _;rw[hv];simp only[v5s,M];rfl
 ·exact RowKit.ok_one I rfl (RowKit.okWide_bool_mk Z _)
end Go.Ab
namespace Go.Ab
open Go
variable {V K:Type}
def qg3{K V:Type}[DecidableEq K]:List (K×V)->K->Option V
 |[],_=>none
 |(a,v)::r,k=>if k=a then some v else qg3 r k
def qnx{K V:Type}[DecidableEq K]:List (K×V)->K->V->List (K×V)
 |[],k,v=>[(k,v)]
 |(a,u)::r,k,v=>if k=a then(a,v)::r else(a,u)::qnx r k v
def qhj(f:K->PV)(m:List (K×V)):List PV:=m.map fun p=>f p.1
def qh8(f:V->PV)(m:List (K×V)):List PV:=m.map fun p=>f p.2
def encM(f:K->PV)(g:V->PV)(m:List (K×V)):PV:=.mapv (qhj f m) (qh8 g m)
@[go_sem]theorem encM_eq(f:K->PV)(g:V->PV)(m:List (K×V)):encM f g m=.mapv (qhj f m) (qh8 g m):=rfl
@[go_sem]theorem encK_len(f:K->PV)(m:List (K×V)):(qhj f m).length=m.length:=by simp[qhj]
theorem q0u {K V:Type} [DecidableEq K] (P:Program) (E:TypeId) (f:K->PV) (A:∀a b,qnw P E (f a) (f b)=some (decide (a=b))) (k:K) (m:List (K×V)) (g:V->PV):qs3 P E (f k) (qhj f m) ((qh8 g m).map AV.p)=some ((qg3 m k).map fun v=>AV.p (g v)):=by
 induction m with
 |nil=>rfl
 |cons p r ih =>
  obtain⟨a,v⟩:=p;simp only[qhj,qh8,v6i,qs3,A,qg3]at ih ⊢;by_cases h:k=a
  ·simp[h]
  ·simp only[decide_eq_false h,if_neg h];exact ih
theorem q4r[DecidableEq K](P:Program)(E:TypeId)(f:K->PV)(A:∀a b,qnw P E (f a) (f b)=some (decide (a=b)))(k:K)(m:List (K×V))(g:V->PV)(v:V):q60 P E (f k) (.p (g v)) (qhj f m) ((qh8 g m).map AV.p)=some (qhj f (qnx m k v),(qh8 g (qnx m k v)).map AV.p):=by
 induction m with
 |nil=>rfl
 |cons p r ih =>
  obtain⟨a,u⟩:=p;simp only[qhj,qh8,v6i,q60,A,qnx]at ih ⊢
  grind
theorem vjz(P:Program)(E:TypeId)(q:IntKind)(a b:Int):qnw P E (.int q a) (.int q b)=some (decide (a=b)):=by
 simp only[qnw,qyz,if_true]
 grind
theorem vj0(P:Program)(E:TypeId)(a b:List UInt8):qnw P E (.str a) (.str b)=some (decide (a=b)):=by
 simp only[qnw,qyz];by_cases h:a=b<;>simp[h]
@[go_sem]theorem v09(P:Program)(E:TypeId)(q:IntKind)(k:Int)(m:List (Int×V))(f:V->PV):qs3 P E (.int q k) (qhj (PV.int q) m) ((qh8 f m).map AV.p)=some ((qg3 m k).map fun v=>AV.p (f v)):=q0u P E _ (vjz P E q) k m f
@[go_sem]theorem v1a(P:Program)(E:TypeId)(k:List UInt8)(m:List (List UInt8×V))(f:V->PV):qs3 P E (.str k) (qhj PV.str m) ((qh8 f m).map AV.p)=some ((qg3 m k).map fun v=>AV.p (f v)):=q0u P E _ (vj0 P E) k m f
@[go_sem]theorem vpa(P:Program)(E:TypeId)(q:IntKind)(k:Int)(m:List (Int×V))(f:V->PV)(v:V):q60 P E (.int q k) (.p (f v)) (qhj (PV.int q) m) ((qh8 f m).map AV.p)=some (qhj (PV.int q) (qnx m k v),(qh8 f (qnx m k v)).map AV.p):=q4r P E _ (vjz P E q) k m f v
@[go_sem]theorem updA_str(P:Program)(E:TypeId)(k:List UInt8)(m:List (List UInt8×V))(f:V->PV)(v:V):q60 P E (.str k) (.p (f v)) (qhj PV.str m) ((qh8 f m).map AV.p)=some (qhj PV.str (qnx m k v),(qh8 f (qnx m k v)).map AV.p):=q4r P E _ (vj0 P E) k m f v
@[go_sem]theorem getD_map{α β:Type}(F:α->β)(o:Option α)(z:α):(o.map F).getD (F z)=F (o.getD z):=by cases o<;>rfl
attribute [go_sem] Option.isSome_map
def q4s(D : Nat → Bool)(n l g : Nat) : L PV := if D l then .look l fun o => match o with
      | .map g' ks vs => if g = g' then (qba (view D n) ks).bind fun A => (qba (view D n) vs).bind fun E => .ret (.mapv A E) else .fail
      | _ => .fail
    else .fail
theorem vf5(D:Nat->Bool)(l g:Nat):view D 9 (.mapo l g)=q4s D 8 l g:=rfl
theorem vf6(D:Nat->Bool)(l g:Nat):view D 8 (.mapo l g)=q4s D 7 l g:=rfl
theorem vf7(D:Nat->Bool)(l g:Nat):view D 7 (.mapo l g)=q4s D 6 l g:=rfl
attribute [go_sem] vf5 vf6 vf7 q4s
end Go.Ab
namespace Go.Ab
variable {D:Prop}
open Go
variable {C:Cx} {Q:Exit->St->Prop} {st:St}
variable {ops M:Array Oper} {rest l:List Oper} {o:Oper} {st' s:St} {h:List (Nat×AO)} {fn:Func} {args:Array Operand} {c x y:Code} {J:Array TypeId} {avs:List AV} {K:St->Prop} {α β τ:Type} {f:Operand} {P:Program} {v:AV} {r:PV} {k:FuncId} {i id:Nat} {I:List PV}
def qrg:Nat->List AV->Env
 |_,[]=>[]
 |k,x::r=>(k,x)::qrg (k+1) r
theorem qpa:∀(ps:List AV) (vs:List Value) (k t:Nat) {X:Nat->Prop} {inj:Inj} {σ:Nat->AO} {w:World},ARs X inj σ w ps vs ->
  AR X inj σ w ((qrg k ps).get t) (if k<=t then vs.getD (t-k) undef else undef)
 |[],_,k,t,_,_,_,_,_=>trivial
 | p :: ps,_,k,t,X,inj,σ,w,h=>by
  obtain⟨v,r,rfl,H,E⟩:=h;simp only[qrg,Env.get];by_cases A:k=t
  ·grind
  ·rw[if_neg A];have:=qpa ps r (k+1) t (X:=X) (inj:=inj) E
   grind
def inlQ(C:Cx)(ops:Array Oper)(o:Oper)(rest:List Oper)(Q:Exit->St->Prop)(st:St)(fn:Func):Exit->St->Prop :=
 fun e s=>(e=.normal\/e=.ret)/\∃v,vh3 C.P s fn.results.toList=some v/\AL C ops rest Q ⟨qfa st.env o.dst v,s.heap⟩
theorem qbb{N':Nat}(B':Nat)
  (ho:o.op=.call ⟨.value f,args,J⟩) (hg:qbh ops st.env o=some true) (Z:qb2 C.N o=true) (hf:C.P.funcs[k]?=some fn) (hb:fn.body=some c) (hk:HasBody C.P k) (hN:fn.ntmps=N') (hn:avs.length<=N')
  (hc:qb4 st.env f args.toList=some (k,avs))
  (h:∀inj w hT,AWp ⟨C.P,N',B',C.X,st.heap,inj,w,C.D,hT⟩ c (inlQ C ops o rest Q st fn) ⟨qrg 0 avs,st.heap⟩):AL C ops (o::rest) Q st:=by
 subst hN;intro inj a w E;simp only[wpList,qb3 E hg,if_true];refine .inl ?_;obtain⟨vs,V,O⟩:=qm0 E ho hk hc;unfold Oper.wp;rw[V];simp only[Oper.upon];have hl:=O.length;refine calls_of_wp hf hb (wp_mono (h inj w (qo9 E.ev) inj _ w ⟨fun t=>?_,?_,rfl,E.hr,Ev.refl _ _ _ _⟩) ?_)
 ·have:=qpa avs vs 0 t O;simp only[v9f,if_true,v7k]at this;have e:(vs.toArray++Array.replicate (fn.ntmps-vs.toArray.size) undef).getD t undef=vs.getD t undef:=by
   by_cases U:t<vs.length
   ·simp[v5c,U]
   ·simp only[Array.getD_eq_getD_getElem?,v5c,v6v,U,if_false,Array.getElem?_replicate]
    grind
  grind
 ·grind
 ·intro e a' w' ⟨s,A,H,hq⟩;obtain⟨hex,v,hv,W⟩:=hq;obtain⟨val,h1,h2⟩:=qug H hv;have hev:Ev C.D C.X inj st.sig w A s.sig w':=H.ev;have M:SR C ⟨qfa st.env o.dst v,s.heap⟩ A (a.put o.dst val) w':=by
   have h3:=E.put (o:=o) (u:=none) Z E.hr (Ev.refl _ _ _ _) (v:=.any) (val:=val) trivial;refine⟨fun t=>?_,h3.size,h3.defers,H.hr,E.ev.trans hev⟩;cases I:o.dst with
   |none =>
    have:=h3.env t;rw[I]at this;simpa[qfa,Act.put] using AR.ev hev E.hr.xlt _ _ (E.env t)
   | some d =>
    simp only[qb2,I,decide_eq_true_eq]at Z;simp only[qfa,Act.put,Env.get];by_cases U:d=t
    ·subst U;rw[if_pos rfl];have:(a.tmps.setIfInBounds d val).getD d undef=val:=by simp[E.size,Z]
     grind
    ·rw[if_neg U];have:(a.tmps.setIfInBounds d val).getD t undef=a.tmps.getD t undef:=by simp[v5e U]
     rw[this];exact AR.ev hev E.hr.xlt _ _ (E.env t)
  rcases hex with rfl|rfl
  ·exact⟨H.defers,val,h1,W A _ _ M⟩
  ·exact⟨H.defers,val,h1,W A _ _ M⟩
theorem qa5(h1:vh3 C.P s fn.results.toList=some v)(A:AL C ops rest Q ⟨qfa st.env o.dst v,s.heap⟩):inlQ C ops o rest Q st fn .ret s:=⟨.inr rfl,v,h1,A⟩
theorem vc7(h1:vh3 C.P s fn.results.toList=some v)(A:AL C ops rest Q ⟨qfa st.env o.dst v,s.heap⟩):inlQ C ops o rest Q st fn .normal s:=⟨.inl rfl,v,h1,A⟩
theorem q4t{e:Exit}(E:e=.normal\/e=.ret)(h1:vh3 C.P s fn.results.toList=some v)(A:AL C ops rest Q ⟨qfa st.env o.dst v,s.heap⟩):inlQ C ops o rest Q st fn e s:=⟨E,v,h1,A⟩
@[go_sem]theorem v1b(f:α->β)(l:List α)(i:Nat)(y:α):(l.map f).set i (f y)=(l.set i y).map f:=by rw[List.map_set]
@[go_sem] theorem vsm {α:Type} (f:α->PV) (l:List (List α)) (i:Nat) (y:List α):(l.map (qal f)).set i (.slc (v8t f y))=(l.set i y).map (qal f):=by rw[List.map_set];rfl
theorem vc8(σ E:Nat->AO):∀(l:List PV) (cs A:List AV),qkv σ E (l.map AV.p++cs) (l.map AV.p++A)=qkv σ E cs A
 |[],_,_=>rfl
 |x::l,cs,A=>by
  simp only[v6i,v8g,qta,vi3,true_and];exact vc8 σ E l cs A
@[go_sem]theorem v1c(σ A:Nat->AO)(f:α->PV)(l:List α)(x:α)(v:AV):qkv σ A ((l.map f).map AV.p++[v]) (((l++[x]).map f).map AV.p)=LeV σ A v (.p (f x)):=by
 rw[v6h,v6h,vc8];simp[qkv]
attribute [go_sem] qrg
theorem zF{P:Prop}(h:P:=by(repeat' refine And.intro ?_ ?_)<;>first|rfl|(simp;done)|(simp;rfl)|(simp[*];done)|(simp[*];rfl)):P:=h
theorem zV{P:Prop}(h:P:=by simp only[go_sem,seval, *];all_goals exact zF):P:=h
theorem zs(h:AWp C x (qy2 (fun s=>AWp C y Q s) Q) st):AWp C (.seq x y) Q st:=qnq h
theorem zr(h:AL C l.toArray l Q st):AWp C (.region id l.toArray false) Q st:=qj0 h
theorem zb(h:AWp C c (qwg id Q) st):AWp C (.block id c) Q st:=vi2 h
theorem zk(h:Q .normal st):AWp C .skip Q st:=q4g h
theorem zq(h:Q .ret st):AWp C .ret Q st:=q0f h
theorem zx(h:Q (.exit id) st):AWp C (.exit id) Q st:=vot h
theorem zl(h:Q .normal st):AL C ops [] Q st:=qwf h
theorem zn(h:K s):qy2 K Q .normal s:=h
theorem zt(h:Q .ret s):qy2 K Q .ret s:=h
theorem ze(h:Q (.exit i) s):qy2 K Q (.exit i) s:=h
theorem yn(h:Q .normal s):qwg i Q .normal s:=h
theorem yr(h:Q .ret s):qwg i Q .ret s:=h
theorem yh(h:Q .normal s):qwg i Q (.exit i) s:=vao h
theorem yd{l:Array Oper}{E:List Evt}(h:Q .normal st)(hev:qwi l E.reverse=true:=by kernel_rfl):DGo C l [] st E (DK C l Q):=DGo.fin hev h
theorem zU{J V:List Oper}(h:AL C ops V Q st')(A:spl l=(o::J,V):=by exact rfl)(hr:qse C.P C.N C.B ops (o::J) st=(st',[]):=by simp only[go_sem,seval, *];exact rfl):AL C ops l Q st:=qvl A hr h
theorem zW(n:Nat)(h:AL C ops (l.drop n) Q st')(hr:qse C.P C.N C.B ops (l.take n) st=(st',[]):=by simp only[go_sem,seval, *];exact rfl):AL C ops l Q st:=va0 n hr h
theorem yU{K:List Evt->St->Prop}{J V:List Oper}{E I:List Evt}(h:DGo C ops V st' I K)(A:spl l=(o::J,V):=by exact rfl)
  (hr:qmh C.P C.N C.B ops (o::J) st E=(I,st',[]):=by simp only[go_sem,seval, *];first|exact⟨rfl,rfl⟩|exact rfl):DGo C ops l st E K:=DGo.upto A hr h
theorem zg(h:AL C ops rest Q st')(H:qbh ops st.env o=some true:=by first|exact qbr rfl rfl (by exact rfl) (by exact rfl)|exact qao rfl)(E:qb2 C.N o=true:=by rfl)
  (hr:((aop C.P C.B (ev st.env) o).run (qav st.heap)).map (fun A=>(⟨qfa st.env o.dst A.1,qut st.heap A.2⟩:St))=some st':=by simp only[go_sem,seval, *];exact rfl):AL C ops (o::rest) Q st:=vjw H E hr h
theorem yg{K:List Evt->St->Prop}{E:List Evt}{e:Evt}(h:DGo C ops rest st' (e::E) K)(I:qbh ops st.env o=some true:=by first|exact qbr rfl rfl (by exact rfl) (by exact rfl)|exact qao rfl)(H:qb2 C.N o=true:=by rfl)
  (hr:((aop C.P C.B (ev st.env) o).run (qav st.heap)).map (fun A=>((⟨A.1,A.2,(aop C.P C.B (ev st.env) o).reads (qav st.heap)⟩:Evt),(⟨qfa st.env o.dst A.1,qut st.heap A.2⟩:St)))=some (e,st'):=by simp only[go_sem,seval, *];first|exact⟨rfl,rfl⟩|exact rfl):DGo C ops (o::rest) st E K:=DGo.gt' I H hr h
theorem zc
  (V:Con C.D C.P k I r) (h:AL C ops rest Q st')
  (ho:o.op=.call ⟨.value f,args,J⟩:=by rfl) (M:qbh ops st.env o=some true:=by first|exact qao rfl|exact qbr rfl rfl (by exact rfl) (by exact rfl)) (U:qb2 C.N o=true:=by rfl)
  (O:qb4 st.env f args.toList=some (k,avs):=by simp only[go_sem,seval, *];exact rfl) (H:(qba (view (fun _=>true) 9) avs).run (qav st.heap)=some I:=by simp only[go_sem,seval, *];all_goals exact zF)
  (A:(qq9 avs).isSome=true\/r.flat=true:=by first|exact .inr rfl|exact .inl rfl|exact .inl (by simp only[go_sem]))
  (E:(⟨qfa st.env o.dst (.p r),st.heap⟩:St)=st':=by rfl):AL C ops (o::rest) Q st:=vu0 ho M U O H V A E h
theorem yc{K:List Evt->St->Prop}{E:List Evt}{rs:List Nat}
  (Z:Con C.D C.P k I r) (h:DGo C ops rest st' (⟨.p r,none,rs⟩::E) K)
  (ho:o.op=.call ⟨.value f,args,J⟩:=by rfl) (U:qbh ops st.env o=some true:=by first|exact qao rfl|exact qbr rfl rfl (by exact rfl) (by exact rfl)) (W:qb2 C.N o=true:=by rfl)
  (V:qb4 st.env f args.toList=some (k,avs):=by simp only[go_sem,seval, *];exact rfl) (O:(qba (view (fun _=>true) 9) avs).run (qav st.heap)=some I:=by simp only[go_sem,seval, *];all_goals exact zF)
  (A:(qba (view (fun _=>true) 9) avs).reads (qav st.heap)=rs:=by simp only[go_sem,seval, *];exact rfl)
  (H:(qq9 avs).isSome=true\/r.flat=true:=by first|exact .inr rfl|exact .inl rfl|exact .inl (by simp only[go_sem]))
  (M:(⟨qfa st.env o.dst (.p r),st.heap⟩:St)=st':=by rfl):DGo C ops (o::rest) st E K:=DGo.con' ho U W V O A Z H M h
theorem yV{K:List Evt->St->Prop}{E I:List Evt}(n:Nat)(h:DGo C ops (l.drop n) st' I K)
  (hr:qmh C.P C.N C.B ops (l.take n) st E=(I,st',[]):=by simp only[go_sem,seval, *];first|exact⟨rfl,rfl⟩|exact rfl):DGo C ops l st E K:=by
 rw[<-v88 n l];exact DGo.append h _ _ _ hr
theorem yS{K:List Evt->St->Prop}{t:TypeId}{len:Nat}{parts:Array (Nat×Operand)}{E:List Evt}{u:Upd}{x:PV}{A H:List Nat}(k:Nat)
  (h:DGo C ops rest st' (⟨.p x,none,A++H⟩::E) K) (ho:o.op=.buildSlice t len parts:=by rfl) (U:qbh ops st.env o=some true:=by first|exact qao rfl|exact qbr rfl rfl (by exact rfl) (by exact rfl)) (V:qb2 C.N o=true:=by rfl) (J:qlo C.B o=k:=by rfl)
  (hr:(aop C.P C.B (ev st.env) o).run (qav st.heap)=some (v,u):=by simp only[go_sem,seval, *];first|exact⟨rfl,rfl⟩|exact rfl) (h1:(aop C.P C.B (ev st.env) o).reads (qav st.heap)=A:=by simp only[go_sem,seval, *];exact rfl)
  (O:(view (fun l=>l==k) 9 v).run (qav (qut st.heap u))=some x:=by simp only[go_sem,seval, *];all_goals exact zF) (I:(view (fun l=>l==k) 9 v).reads (qav (qut st.heap u))=H:=by simp only[go_sem,seval, *];exact rfl)
  (M:(⟨qfa st.env o.dst (.p x),st.heap⟩:St)=st':=by rfl):DGo C ops (o::rest) st E K:=DGo.built ho U V J hr h1 O I M h
theorem zw(d:Nat)(b:Bool){env:Env}(k:AL C ops l Q ⟨(d,.p (.bool b))::env,h⟩)(A:env.get d=.p (.bool b):=by simp only[go_sem,seval, *];all_goals first|assumption|exact Bool.eq_false_iff.2 (by assumption)):AL C ops l Q ⟨env,h⟩:=vo8 A k
theorem yw(d:Nat)(b:Bool){env:Env}{E:List Evt}(k:DGo C M l ⟨(d,.p (.bool b))::env,h⟩ E (DK C M Q))(A:env.get d=.p (.bool b):=by simp only[go_sem,seval, *];all_goals first|assumption|exact Bool.eq_false_iff.2 (by assumption)):DGo C M l ⟨env,h⟩ E (DK C M Q):=DGo.known' A k
theorem zi{c:Operand}(h:AWp C x Q st)(A:ev st.env c=.p (.bool true):=by simp only[go_sem,seval, *];all_goals first|assumption|exact Bool.eq_false_iff.2 (by assumption)):AWp C (.cond c x y) Q st:=vc4 A h
theorem zj{c:Operand}(h:AWp C y Q st)(A:ev st.env c=.p (.bool false):=by simp only[go_sem,seval, *];all_goals first|assumption|exact Bool.eq_false_iff.2 (by assumption)):AWp C (.cond c x y) Q st:=vc5 A h
theorem zh{A:List Oper}{env J:Env}(k:AL C ops A Q ⟨J,h⟩)(E:q0s C.N ops l env=(A,J):=by exact rfl):AL C ops l Q ⟨env,h⟩:=vc6 E k
theorem yk{K:List Evt->St->Prop}{A:List Oper}{env J:Env}{E I:List Evt}(k:DGo C M A ⟨J,h⟩ I K)(H:qwn C.N M l env E=(A,J,I):=by exact rfl):DGo C M l ⟨env,h⟩ E K:=DGo.skips H k
theorem zE{s':St}(h:Le C s s':=by simp only[go_sem,seval, *];all_goals exact zF):Le C s s':=h
theorem zL(st':St)(k:AWp C c Q st')(h:Le C st st':=by simp only[go_sem,seval, *];all_goals exact zF):AWp C c Q st:=q0i h k
theorem zM(st':St)(k:AL C ops l Q st')(h:Le C st st':=by simp only[go_sem,seval, *];all_goals exact zF):AL C ops l Q st:=vow h k
theorem zT{rs:_}(E:fn.results=rs)(h1:vh3 P s rs.toList=some v:=by simp only[go_sem,seval, *];exact rfl)(A:(view (fun _=>true) 9 v).run s.sig=some r:=by simp only[go_sem,seval, *];all_goals exact zF):vx8 P fn r .ret s:=qwk (by rw[E];exact h1) A
theorem va1(k:Nat):argsEnv k []=[]:=rfl
theorem q7p(k:Nat)(x:PV)(r:List PV):argsEnv k (x::r)=(k,.p x)::argsEnv (k+1) r:=rfl
theorem zP{f:FuncId}{args:List PV}{N:Nat}{env:Env}(A:HasBody P f)(J:P.funcs[f]?=some fn)(H:fn.body=some c)(E:fn.ntmps=N)
  (h:∀X w hT,AWp ⟨P,N,0,X,[],fun _=>none,w,D,hT⟩ c (vx8 P fn r) ⟨env,[]⟩) (hn:args.length<=N:=by simp) (I:argsEnv 0 args=env:=by simp only[va1,q7p,Nat.reduceAdd];exact rfl):Con D P f args r :=
 ⟨A,qvk J H E hn (by subst I;exact h)⟩
theorem zB{x:Option α}{f:α->Option β}{r:β}(h:x.bind f=some r):∃a,x=some a/\f a=some r:=v9g.1 h
theorem zI{c:Prop}[Decidable c]{a b:Option α}{r:α}(h:(if c then a else b)=some r):(c/\a=some r)\/(¬c/\b=some r):=by
 grind
theorem zX{l:List α}{i:Int}{f:α->Option β}{r:β}(h:(idx l i).bind f=some r):∃x,l[i.toNat]?=some x/\0<=i/\i<(l.length:Int)/\f x=some r:=by
 obtain⟨x,h1,A⟩:=v9g.1 h;obtain⟨a,b,c⟩:=vo7 h1
 grind
theorem zY{l:List α}{n:Nat}(k:Int){f:α->Option β}{r:β}(h:(l[n]?).bind f=some r)(A:(n:Int)=k:=by rfl):∃x,l[n]?=some x/\n<l.length/\k<(l.length:Int)/\f x=some r:=by
 grind
def tE(C:Cx)(k:Exit)(t:St)(e:Exit)(s:St):Prop:=e=k/\Le C s t
def tR(P:Program)(fn:Func)(r:PV)(e:Exit)(s:St):Prop:=e=.ret/\vx8 P fn r .ret s
theorem zO{σ:Type}{B:σ->Option (LS σ τ)}{s0:σ}{t:τ}(S:σ->St)(T:τ->Exit->St->Prop)(I:qah B s0=some t)
  (E:∀s x,B s=some x->AWp C c (LP C S T x) (S s)) (H:∀e s,T t e s->Wk C Q e s) (h0:Le C st (S s0):=by simp only[go_sem,seval, *];all_goals exact zF)
  (hn:∀t s,¬T t .normal s:=by intro o s hT;first|(have A:=hT.1;cases A;done)|(rcases o with _|_<;>(have A:=hT.1;cases A);done)|(rcases o with _|(_|_)<;>(have A:=hT.1;cases A);done)|(rcases o with _|(_|(_|_))<;>(have A:=hT.1;cases A);done)):AWp C (.loop c) Q st:=vf3 S T hn I h0 E H
abbrev tX(n:Nat)(s:St)(C:Cx):=tE C (.exit n) s
abbrev tZ(s:St)(C:Cx):=tE C .ret s
abbrev tW(e:Exit)(s:St)(C:Cx):=tE C e s
abbrev tY(P:Program)(f:Func)(r:PV)(C:Cx):=tR P f r
theorem zo{σ:Type}{B:σ->Option (LS σ τ)}{s0:σ}{t:τ}(I:qah B s0=some t)(S:σ->St)(T:τ->Cx->Exit->St->Prop)
  (E:∀s x,B s=some x->AWp C c (LP C S (fun o=>T o C) x) (S s)) (H:∀e s,T t C e s->Wk C Q e s) (h0:Le C st (S s0):=by simp only[go_sem,seval, *];all_goals exact zF)
  (hn:∀t s,¬T t C .normal s:=by intro o s hT;first|(have A:=hT.1;cases A;done)|(rcases o with _|_<;>(have A:=hT.1;cases A);done)|(rcases o with _|(_|_)<;>(have A:=hT.1;cases A);done)|(rcases o with _|(_|(_|_))<;>(have A:=hT.1;cases A);done)):AWp C (.loop c) Q st:=zO S (fun o=>T o C) I E H h0 hn
theorem zA{k:Exit}{t:St}(h:Q k t):∀e s,tE C k t e s->Wk C Q e s:=by
 rintro e s ⟨rfl,hl⟩;exact Wk.to hl h
theorem zZ(h:∀s,vx8 P fn r .ret s->Q .ret s):∀e s,tR P fn r e s->Wk C Q e s:=by
 rintro e s ⟨rfl,A⟩;exact Wk.now (h s A)
theorem zJ(T:τ->Exit->St->Prop)(o:τ)(h:AWp C x (T o) st)(A:∀e s,T o e s->Wk C (qy2 (fun s=>AWp C y Q s) Q) e s):AWp C (.seq x y) Q st:=vo6 h A
end Go.Ab
namespace Go.Ab
variable {D:Prop}
open Go
variable {X:Nat->Prop} {inj:Inj} {σ:Nat->AO} {w:World}
variable {α:Type} {args:Array Operand} {ops:Array Oper} {rest:List Oper} {J:Array TypeId} {f:Operand} {o:Oper} {k:FuncId} {os:Array Obj} {E:List PV} {l A:List Int} {e g n:Nat}
theorem q4u(F cur:Array Value)(h:F.size<=cur.size):(Sort.putCells id 0 F cur).toList.take F.size=F.toList/\(Sort.putCells id 0 F cur).size=cur.size:=by
 refine⟨?_,by simp[Sort.putCells]⟩;apply v5y;intro k;simp only[Sort.putCells,v59,v7z,Array.getElem?_mapIdx]
 grind
theorem HR.rows(h:HR X inj σ w){l sz b c m:Nat}{es es':List AV}{A:List Value}(hl:σ l=.arr e sz g es)(hi:inj l=some (b,c))
  (E:es'.length=es.length) (Z:ARs X inj σ w es' A) (hs:∀v∈A,v.cells.size=sz) (W:qbp (flat A)) :
  HR X inj (qmz σ l (.arr e sz g es')) (Sort.grow (Sort.putRow id (Sort.ahead w m) b 0 (flat A).toArray) os) /\
  Ev D X inj σ w inj (qmz σ l (.arr e sz g es')) (Sort.grow (Sort.putRow id (Sort.ahead w m) b 0 (flat A).toArray) os):=by
 obtain⟨vs,h1,h2,h3,h4⟩:=h.obj l _ hl;rcases h4 with⟨h4,_⟩|⟨M,c',cur,h5,h6,h7,h8,h9,O,h11⟩
 ·grind
 rw[hi]at h5;cases h5;have hb:b<w.heap.size:=(v5d.1 h7).1;have I:∀k,k<w.heap.size->k≠b->(Sort.grow (Sort.putRow id (Sort.ahead w m) b 0 (flat A).toArray) os).heap[k]?=w.heap[k]?:=by
  intro k hk H;rw[Sort.heap_grow_old _ _ (by simp[Sort.putRow,Sort.mapBlock,Sort.ahead];exact hk)];simp[Sort.putRow,Sort.mapBlock,Sort.ahead,v7y,Ne.symm H]
 have V:(Sort.grow (Sort.putRow id (Sort.ahead w m) b 0 (flat A).toArray) os).heap[b]?=some (.cells (Sort.putCells id 0 (flat A).toArray cur) e (0,0)):=by
  rw[Sort.heap_grow_old _ _ (by simp[Sort.putRow,Sort.mapBlock,Sort.ahead];exact hb)];simp[Sort.putRow,Sort.mapBlock,Sort.ahead,v7y,h7,Sort.onCells]
 have hup:=h.update (D:=D) (w':=Sort.grow (Sort.putRow id (Sort.ahead w m) b 0 (flat A).toArray) os) (l:=l) (o:=.arr e sz g es) (o':=.arr e sz g es') (x:=inj l) hl rfl rfl rfl
  (fun _=>by simp[Sort.grow,Sort.putRow,Sort.mapBlock,Sort.ahead]) (by simp[Sort.grow,Sort.putRow,Sort.mapBlock,Sort.ahead])
  (fun a ha=>by
   unfold World.frozen?
   grind)
  (fun k hk H=>I k hk (fun e=>H rfl c (by rw[e];exact hi)))
  (fun b1 c1 h1=>.inr ⟨rfl,_,h1⟩) ⟨v7a _,fun _ _=>⟨rfl,.inl ⟨e,sz,es,es',rfl,rfl,E.symm⟩⟩⟩
 obtain⟨hev,J⟩:=hup;have U:(fun k=>if k=l then inj l else inj k)=inj:=by
  funext k
  grind
 rw[U]at hev J;have hvl:A.length=es'.length:=Z.length.symm;have hfl:(flat A).length=es'.length*sz:=by rw[qb1 hs,hvl]
 have hle:(flat A).toArray.size<=cur.size:=by
  rw[v6v,hfl,O,E];exact v7h _ h8
 obtain⟨t1,t2⟩:=q4u (flat A).toArray cur hle;refine⟨J ⟨A,ARs.ev hev h.xlt _ _ Z,hs,W,.inr ⟨b,c,_,hi,h6,V,by omega,h9,by rw[t2];exact O,?_⟩⟩,hev⟩
 grind
theorem Keeps.rows{Y:Nat->Prop}{b m:Nat}{F:Array Value}(A:Y b):Keeps Y Y w (Sort.grow (Sort.putRow id (Sort.ahead w m) b 0 F) os):=by
 refine⟨by simp[Sort.grow,Sort.putRow,Sort.mapBlock,Sort.ahead],fun k E hn=>?_,fun _ _ h=>h⟩;rw[Sort.heap_grow_old _ _ (by simp[Sort.putRow,Sort.mapBlock,Sort.ahead];exact E)];have:b≠k:=fun e=>hn (e▸A)
 simp[Sort.putRow,Sort.mapBlock,Sort.ahead,v7y,this]
theorem Fr.grow{w':World}(h:Fr True w w'):∃q os,w'=Sort.grow (w.drewN q) os:=by
 refine⟨w'.drawn-w.drawn,w'.heap.extract w.heap.size w'.heap.size,?_⟩;have H:w'.heap=w.heap++w'.heap.extract w.heap.size w'.heap.size:=by
  apply Array.ext_getElem?;intro k;rw[v5c];by_cases A:k<w.heap.size
  ·rw[if_pos A,h.blk k A]
  ·rw[if_neg A,Array.getElem?_extract];have O:=h.size;by_cases J:k<w'.heap.size
   ·rw[if_pos (by omega)];congr 1;omega
   ·rw[if_neg (by omega),Array.getElem?_eq_none (by omega)]
 cases w' with
 |mk heap tape drawn os output =>
  have h1:=h.os;have E:=h.tape;have I:=h.output;have M:=h.dr trivial;simp only at h1 E I M H;subst h1 E I;simp only[Sort.grow,World.drewN,World.mk.injEq,and_true,true_and];exact⟨H,by omega⟩
open Go.Proofs Go.Sort in
structure Srt1 (P:Program) (k:FuncId):Prop where
 body:HasBody P k
 rows:∀{α:Type} [Inhabited α] (enc:α->Value) (h1:OneCell enc) (cf:α->α->Int) (hO:SWO (ltOf cf)) (g:Nat) (cb:Array Value) (blk off cap:Nat) (d:Array α) (w:World),
  (∀args w,(callFunc g args).run P w=.ok (.enter g args) w)->CmpLays1 P g cb enc cf blk off d.size w->Holds enc w blk off d->blk<w.heap.size->d.size<4611686018427387904 ->
  Calls P k #[.slice (some ⟨blk,off,none⟩) d.size cap,.func (.func g) #[] cb] w fun e w' =>
   e=.returned (.tuple #[])/\∃n os,w'=sortWorld enc w blk off n (pdq (ltOf cf) d 0 d.size (v8a d.size) true true) os
 none:∀(p:Option Addr) (cap:Nat) (fv:Value) (w:World),Calls P k #[.slice p 0 cap,fv] w fun e w'=>e=.returned (.tuple #[])/\w'=w
def qbs(a:α)(r:List α)(i:Nat):α:=(a::r).getD i a
theorem qm5(a:α)(r:List α)(i:Nat):qbs a r i∈a::r:=by
 unfold qbs
 grind
def srt(c:α->α->Int):List α->List α
 |[]=>[]
 |a::r=>(Sort.pdq (Go.Proofs.ltOf fun i j=>c (qbs a r i) (qbs a r j)) (v71 (r.length+1)) 0 (r.length+1) (v8a (r.length+1)) true true).toList.map (qbs a r)
def q2q(c:α->α->Int)(l:List α):Prop :=
 (∀x∈l,¬c x x<0)/\(∀x∈l,∀y∈l,∀z∈l,c x y<0->c y z<0->c x z<0)/\(∀x∈l,∀y∈l,∀z∈l,¬c x y<0->¬c y z<0->¬c x z<0)
open Classical in
def qxt {α:Type} (c:α->α->Option Int) (l:List α):Option (List α) :=
 if(∀x∈l,∀y∈l,(c x y).isSome=true)/\q2q (fun x y=>(c x y).getD 0) l/\l.length<4611686018427387904 then some (srt (fun x y=>(c x y).getD 0) l) else none
theorem q2q.swo{c:α->α->Int}{a:α}{r:List α}(h:q2q c (a::r)):Sort.SWO (Go.Proofs.ltOf fun i j=>c (qbs a r i) (qbs a r j)):=by
 obtain⟨h1,A,E⟩:=h;have m:=qm5 a r;refine⟨fun x=>?_,fun x y z a b=>?_,fun x y z a b=>?_⟩
 ·simp only[Go.Proofs.ltOf,decide_eq_false_iff_not];exact h1 _ (m x)
 ·simp only[Go.Proofs.ltOf,decide_eq_true_eq]at *;exact A _ (m x) _ (m y) _ (m z) a b
 ·simp only[Go.Proofs.ltOf,decide_eq_false_iff_not]at *;exact E _ (m x) _ (m y) _ (m z) a b
theorem qzu{c:α->α->Int}{a:α}{r:List α}(h:q2q c (a::r)) :
  Sort.PermIn 0 (r.length+1) (v71 (r.length+1)) (Sort.pdq (Go.Proofs.ltOf fun i j=>c (qbs a r i) (qbs a r j)) (v71 (r.length+1)) 0 (r.length+1) (v8a (r.length+1)) true true) /\
  Sort.SortedIn (Go.Proofs.ltOf fun i j=>c (qbs a r i) (qbs a r j)) 0 (r.length+1) (Sort.pdq (Go.Proofs.ltOf fun i j=>c (qbs a r i) (qbs a r j)) (v71 (r.length+1)) 0 (r.length+1) (v8a (r.length+1)) true true):=by
 have:=Sort.pdq_sorts _ h.swo (v71 (r.length+1)) 0 (r.length+1) (v8a (r.length+1)) true true (v9f _) (by simp) (Or.inl rfl)
 grind
theorem q7q(a:α)(r:List α):(v6s (r.length+1)).map (qbs a r)=a::r:=by
 apply v5y;intro i;rw[v8n];by_cases hi:i<r.length+1
 ·rw[List.getElem?_range hi,v52 (by simpa using hi)];simp[qbs,List.getD,v52 (show i<(a::r).length by simpa using hi)]
 ·grind
theorem quh{c:α->α->Int}{l:List α}(h:q2q c l):(srt c l).Perm l:=by
 cases l with
 |nil=>exact List.Perm.refl _
 |cons a r =>
  obtain⟨⟨H,_,A⟩,_⟩:=qzu h;have e:∀d:Array Nat,d.size=r.length+1->d.extract 0 (r.length+1)=d:=fun d E=>by rw[<-E];simp
  rw[e _ (by rw[H];simp),e _ (by simp)]at A;have:=A.map (qbs a r);simp only[v74,q7q]at this;exact this
theorem qui{c:α->α->Int}{l:List α}(h:q2q c l):(srt c l).Pairwise fun x y=>¬c y x<0:=by
 cases l with
 |nil=>exact List.Pairwise.nil
 |cons a r =>
  obtain⟨⟨I,_,J⟩,H⟩:=qzu h;show List.Pairwise _ ((Sort.pdq (Go.Proofs.ltOf fun i j=>c (qbs a r i) (qbs a r j)) (v71 (r.length+1)) 0 (r.length+1) (v8a (r.length+1)) true true).toList.map (qbs a r));generalize Sort.pdq (Go.Proofs.ltOf fun i j=>c (qbs a r i) (qbs a r j)) (v71 (r.length+1)) 0 (r.length+1) (v8a (r.length+1)) true true=d at I H ⊢;rw[List.pairwise_map,List.pairwise_iff_getElem];intro i j hi A E;simp only[Array.length_toList]at hi A;have:=H i j (v9f _) E (by rw[I]at A;simpa using A);rw[getElem!_pos d i hi,getElem!_pos d j A]at this;simpa[Go.Proofs.ltOf] using this
theorem qx0[Inhabited α](enc:α->Value)(w:World)(b:Nat)(d:Array α):Sort.putRow enc w b 0 d=Sort.putRow id w b 0 (d.map enc):=by
 unfold Sort.putRow;refine Sort.mapBlock_congr _ _ _ _ fun c _ _ _=>?_
 unfold Sort.putCells
 grind
theorem qlp:∀{vs:List Value},(∀v∈vs,v.oneCell'=true)->flat vs=vs
 |[],_=>rfl
 | v :: vs,h=>by
  rw[qkj,qlp fun u A=>h u (v8y _ A)];have h1:=h v (v8z);have:v.cells=#[v]:=by
   cases v<;>first|rfl|simp[Value.oneCell']at h1
  rw[this];rfl
variable {C:Cx} {Q:Exit->St->Prop} {st:St}
theorem vu8{Z:FuncId}{fv:AV}{L:Nat}
  (S:Srt1 C.P k) (enc:α->PV) (h1:∀x,(AV.p (enc x)).one=true) (c:α->α->Option Int) {l A:List α} (hl:qxt c l=some A)
  (hc:∀x y r,c x y=some r->Con True C.P Z (enc x::enc y::E) (.int .i64 r))
  (ho:o.op=.call ⟨.value f,args,J⟩) (hg:qbh ops st.env o=some true) (hd:qb2 C.N o=true)
  (hk:qb4 st.env f args.toList=some (k,[.own L g 0 n,fv])) (hfv:(view (fun q=>q != L) 9 fv).run st.sig=some (.func (.func Z) E))
  (hobj:qav st.heap L=.arr e 1 g (v8t AV.p (v8t enc l))) (hn:n=l.length)
  (h:AL C ops rest Q ⟨qfa st.env o.dst (.p (.tup [])),qo8 st.heap L (.arr e 1 g (v8t AV.p (v8t enc A)))⟩):AL C ops (o::rest) Q st:=by
 intro inj a w hs;simp only[wpList,qb3 hs hg,if_true];refine .inl ?_;obtain⟨vs,hrun,hars⟩:=qm0 hs ho S.body hk;unfold Oper.wp;rw[hrun];simp only[Oper.upon];obtain⟨v1,r1,rfl,ha1,v2,r2,rfl,ha2,rfl⟩:=hars;have hp2:=qep hs.hr (fun q=>q != L) 9 fv v2 _ ha2 hfv;obtain⟨cvs,rfl,hcaps⟩:=hp2;obtain⟨⟨sa,sn,sc,rfl⟩,hown⟩:=ha1;obtain⟨_,hown⟩:=hown _ hobj;obtain⟨hle,hcase⟩:=hown rfl e 1 _ rfl;unfold qxt at hl;split at hl
 case isFalse=>cases hl
 rename_i hcond;obtain⟨hdef,hok,hlt⟩:=hcond;obtain rfl:=v9i hl;cases l with
 | nil =>
  subst hn;have hnone:∃p cap,Value.slice sa sn sc=.slice p 0 cap:=by
   rcases hcase with⟨_,h2,_⟩|⟨b,c0,V,_,h2,_⟩
   ·exact⟨none,0,h2⟩
   ·exact⟨_,_,h2⟩
  obtain⟨p,cap,hpc⟩:=hnone;rw[hpc];refine(S.none p cap _ w).mono ?_;rintro e' w' ⟨rfl,rfl⟩;have hsame:upd st.sig (some (L,.arr e 1 g (v8t AV.p (v8t enc []))))=st.sig:=by
   funext q;simp only[upd,qmz];by_cases hq:q=L
   ·rw[if_pos hq,hq];exact hobj.symm
   ·rw[if_neg hq]
  exact h inj _ _ (hs.put (u:=some (L,.arr e 1 g (v8t AV.p (v8t enc [])))) hd (by rw[hsame];exact hs.hr) (by rw[hsame];exact Ev.refl _ _ _ _) (v:=.p (.tup [])) ⟨[],rfl,rfl⟩)
 | cons x0 r =>
  obtain⟨vs,U,O,o3,o4⟩:=hs.hr.obj L _ hobj;have hvl:vs.length=r.length+1:=by rw[<-U.length];simp
  rcases hcase with⟨_,_,_,h4⟩|⟨b,cp,V,hi,h2,h3,h4⟩
  ·rw[hn]at h4;simp at h4
  have ha0:V=some ⟨b,0,none⟩:=by
   rcases h4 with⟨h4,_⟩|h4
   ·exact absurd rfl h4
   ·simpa using h4
  rw[h2,ha0,hn];rcases o4 with⟨o4,_⟩|⟨M,c',cur,i1,i2,i3,i4,i5,i6,i7⟩
  ·rw[hi]at o4;cases o4
  rw[hi]at i1;cases i1;have hb:b<w.heap.size:=(v5d.1 i3).1;have hone:∀v∈vs,v.oneCell'=true:=by
   intro v hv;obtain⟨j,hj,rfl⟩:=List.getElem_of_mem hv;have hj':j<(x0::r).length:=by simp;omega
   obtain⟨u,hu,hr⟩:=U.get (i:=j) (p:=.p (enc ((x0::r)[j]))) (by rw[v8n,v8n,v52 hj'];rfl);rw[v52 hj]at hu;cases hu;exact AR.one_of (h1 _) hr
  obtain⟨v0,H,hv0⟩:∃v0 H,vs=v0::H:=by cases vs with|nil=>simp at hvl|cons v0 H=>exact⟨v0,H,rfl⟩
  have hvr:H.length=r.length:=by rw[hv0]at hvl;simpa using hvl
  -- what lies at i
  have hat:∀i,AR C.X inj st.sig w (.p (enc (qbs x0 r i))) (qbs v0 H i):=by
   intro i;unfold qbs;by_cases hii:i<r.length+1
   ·obtain⟨u,hu,hr⟩:=U.get (i:=i) (p:=.p (enc ((x0::r)[i]'(by simpa using hii)))) (by rw[v8n,v8n,v52 (show i<(x0::r).length by simpa using hii)];rfl);rw[hv0]at hu;rw[v8i,v8i,hu,v52 (show i<(x0::r).length by simpa using hii)];exact hr
   ·obtain⟨u,hu,hr⟩:=U.get (i:=0) (p:=.p (enc x0)) (by simp);rw[hv0]at hu;simp only[v8m,v7s]at hu;subst hu;rw[v8i,v8i,v54 (by simp;omega),v54 (by simp;omega)];exact hr
  have honeAt:∀i,(qbs v0 H i).oneCell'=true:=fun i=>hone _ (by rw[hv0];exact qm5 v0 H i)
  have hfl:flat vs=vs:=qlp hone;have hY:∀q,(C.X q\/q2f (fun q=>q != L) inj st.sig q)->q<w.heap.size:=fun q hq=>hq.elim (hs.hr.xlt q) fun hf=>(hs.hr.flt hf).1
  have hYb:C.X b\/q2f (fun q=>q != L) inj st.sig b:=.inr ⟨L,cp,_,hobj,rfl,by simp,hi⟩;have hK0:Keeps (fun q=>C.X q\/F inj st.sig q) (fun q=>C.X q\/q2f (fun q=>q != L) inj st.sig q) w w :=
   ⟨v7a _,fun _ _ _=>rfl,fun q _ hn hq=>hn (hq.imp id fun⟨l,c,o,I,a2,_,a4⟩=>⟨l,c,o,I,a2,rfl,a4⟩)⟩
  have hsome:∀i j,c (qbs x0 r i) (qbs x0 r j)=some ((c (qbs x0 r i) (qbs x0 r j)).getD 0):=by
   intro i j;obtain⟨z,hz⟩:=v7p.1 (hdef _ (qm5 x0 r i) _ (qm5 x0 r j));rw[hz];rfl
  have hcon0:=hc _ _ _ (hsome 0 0);have hrows:=S.rows (qbs v0 H) honeAt (fun i j=>(c (qbs x0 r i) (qbs x0 r j)).getD 0) hok.swo Z cvs.toArray b 0 (cp-0) (v71 (r.length+1)) w hcon0.body;rw[v73]at hrows;refine(hrows ?_ ?_ hb (by simpa using hlt)).mono ?_
  ·intro m os dk hdk x y;have hW:Go.Proofs.sortWorld (qbs v0 H) w b 0 m dk os=Sort.grow (Sort.putRow id (Sort.ahead w m) b 0 (dk.map (qbs v0 H))) os:=by
    unfold Go.Proofs.sortWorld;rw[qx0]
   rw[hW];have hK:=Keeps.rows (w:=w) (b:=b) (m:=m) (F:=dk.map (qbs v0 H)) (os:=os) (Y:=fun q=>C.X q\/q2f (fun q=>q != L) inj st.sig q) hYb;generalize hWW:Sort.grow (Sort.putRow id (Sort.ahead w m) b 0 (dk.map (qbs v0 H))) os=W at hK;have hcon:=hc _ _ _ (hsome x y);have hcall:=hcon.pure (fun q=>C.X q\/q2f (fun q=>q != L) inj st.sig q) W (qbs v0 H x::qbs v0 H y::cvs) (fun q hq=>v7d (hY q hq) hK.size) (((qo9 hs.ev).keep hK0).keep hK)
    ⟨_,_,rfl,PR.keep hK _ _ (PR.keep hK0 _ _ (hat x)),_,_,rfl,PR.keep hK _ _ (PR.keep hK0 _ _ (hat y)),PRs.keep hK _ _ hcaps⟩
   have hargs:#[qbs v0 H x,qbs v0 H y]++cvs.toArray=(qbs v0 H x::qbs v0 H y::cvs).toArray:=by simp
   rw[hargs];refine hcall.mono ?_;rintro e' w' ⟨v,rfl,hv,hfr⟩;simp only[PR]at hv;subst hv;exact⟨rfl,hfr.grow⟩
  ·intro j hj;have hj':j<r.length+1:=by simpa using hj
   have hcj:cur[j]?=some (qbs v0 H j):=by
    have h5:(cur.toList.take ((v8t AV.p (v8t enc (x0::r))).length*1))[j]?=vs[j]?:=by rw[i7,hfl]
    rw[v59,if_pos (by simpa using hj'),v7z]at h5;rw[h5,hv0];have:j<(v0::H).length:=by simp;omega
    simp[qbs,v52 this,List.getD]
   have hr:(v71 (r.length+1))[j]! = j:=by rw[getElem!_pos _ j (by simpa using hj')];simp
   rw[hr];refine⟨?_,?_⟩
   ·simp only[World.cell?,i3,v7l];simpa using hcj
   ·simp[World.frozen?,i3]
  ·rintro e' w' ⟨rfl,m,os,rfl⟩;have hp:=qzu hok;have hsr:srt (fun x y=>(c x y).getD 0) (x0::r)=(Sort.pdq (Go.Proofs.ltOf fun i j=>(c (qbs x0 r i) (qbs x0 r j)).getD 0) (v71 (r.length+1)) 0 (r.length+1) (v8a (r.length+1)) true true).toList.map (qbs x0 r):=rfl;rw[hsr]at h;generalize Sort.pdq (Go.Proofs.ltOf fun i j=>(c (qbs x0 r i) (qbs x0 r j)).getD 0) (v71 (r.length+1)) 0 (r.length+1) (v8a (r.length+1)) true true=d at h hp ⊢;have hds:d.size=r.length+1:=by have:=hp.1.1;simpa using this
   have hfl':(flat (d.toList.map (qbs v0 H))).toArray=d.map (qbs v0 H):=by
    rw[qlp (fun v hv=>by obtain⟨i,_,rfl⟩:=v81.1 hv;exact honeAt i)];apply v5b;simp
   have hW:Go.Proofs.sortWorld (qbs v0 H) w b 0 m d os=Sort.grow (Sort.putRow id (Sort.ahead w m) b 0 (flat (d.toList.map (qbs v0 H))).toArray) os:=by
    unfold Go.Proofs.sortWorld;rw[qx0,hfl']
   rw[hW];have hars:∀l:List Nat,ARs C.X inj st.sig w (v8t AV.p (v8t enc (l.map (qbs x0 r)))) (l.map (qbs v0 H)):=by
    intro l
    induction l with
    |nil=>rfl
    |cons i l ih=>exact⟨_,_,rfl,hat i,ih⟩
   obtain⟨hH,hE⟩:=HR.rows hs.hr (m:=m) (os:=os) hobj hi (by simp[hds]) (hars d.toList)
    (fun v hv=>by obtain⟨i,_,rfl⟩:=v81.1 hv;exact O _ (by rw[hv0];exact qm5 v0 H i))
    (by rw[qlp (fun v hv=>by obtain⟨i,_,rfl⟩:=v81.1 hv;exact honeAt i)];intro u hu;obtain⟨i,_,rfl⟩:=v81.1 hu;exact honeAt i)
   exact h inj _ _ (hs.put (u:=some (L,_)) hd hH hE (v:=.p (.tup [])) ⟨[],rfl,rfl⟩)
structure SrtI(P:Program)(k:FuncId):Prop where
 body:HasBody P k
 rows:∀(blk off cap:Nat) (zs:List Int) (w:World),Sort.Holds (Value.int .i64) w blk off zs.toArray->blk<w.heap.size->zs.length<4611686018427387904 ->
  Calls P k #[.slice (some ⟨blk,off,none⟩) zs.length cap] w fun e w' =>
   e=.returned (.tuple #[])/\∃n os,w'=Sort.grow (Sort.putRow (Value.int .i64) (Sort.ahead w n) blk off (zs.mergeSort fun x y=>decide (x<=y)).toArray) os
 none:∀(p:Option Addr) (cap:Nat) (w:World),Calls P k #[.slice p 0 cap] w fun e w'=>e=.returned (.tuple #[])/\w'=w
def vj1(l:List Int):List Int:=l.mergeSort fun x y=>decide (x<=y)
def q0v(l:List Int):Option (List Int):=if l.length<4611686018427387904 then some (vj1 l) else none
theorem vc9{X:Nat->Prop}{inj:Inj}{σ:Nat->AO}{w:World}:∀{l:List Int} {vs:List Value},ARs X inj σ w (v8t AV.p (v8t (PV.int .i64) l)) vs->vs=l.map (Value.int .i64)
 |[],vs,h=>h
 |x::l,vs,h=>by
  obtain⟨v,r,rfl,A,E⟩:=h;simp only[AR,PR]at A;rw[A,vc9 E];rfl
theorem q7r{X:Nat->Prop}{inj:Inj}{σ:Nat->AO}{w:World}:∀(l:List Int),ARs X inj σ w (v8t AV.p (v8t (PV.int .i64) l)) (l.map (Value.int .i64))
 |[]=>rfl
 |x::l=>⟨_,_,rfl,rfl,q7r l⟩
theorem vu9{L:Nat}
  (S:SrtI C.P k) (hl:q0v l=some A)
  (ho:o.op=.call ⟨.value f,args,J⟩) (hg:qbh ops st.env o=some true) (hd:qb2 C.N o=true)
  (hk:qb4 st.env f args.toList=some (k,[.own L g 0 n]))
  (H:qav st.heap L=.arr e 1 g (v8t AV.p (v8t (PV.int .i64) l))) (hn:n=l.length)
  (h:AL C ops rest Q ⟨qfa st.env o.dst (.p (.tup [])),qo8 st.heap L (.arr e 1 g (v8t AV.p (v8t (PV.int .i64) A)))⟩):AL C ops (o::rest) Q st:=by
 intro inj a w hs;simp only[wpList,qb3 hs hg,if_true];refine .inl ?_;obtain⟨vs,hrun,hars⟩:=qm0 hs ho S.body hk;unfold Oper.wp;rw[hrun];simp only[Oper.upon];obtain⟨v1,r1,rfl,ha1,rfl⟩:=hars;obtain⟨⟨sa,sn,sc,rfl⟩,W⟩:=ha1;obtain⟨_,W⟩:=W _ H;obtain⟨hle,Z⟩:=W rfl e 1 _ rfl;unfold q0v at hl;split at hl
 case isFalse=>cases hl
 rename_i hlt;obtain rfl:=v9i hl;rcases Z with⟨_,h2,_,hn0⟩|⟨b,cp,V,hi,h2,h3,h4⟩
 ·have hl0:l=[]:=v5x (by omega);subst hl0;have e0:vj1 []=[]:=by simp[vj1]
  rw[e0]at h;rw[h2];refine(S.none none 0 w).mono ?_;rintro e' w' ⟨rfl,rfl⟩;have I:upd st.sig (some (L,.arr e 1 g (v8t AV.p (v8t (PV.int .i64) []))))=st.sig:=by
   funext q;simp only[upd,qmz]
   grind
  exact h inj _ _ (hs.put (u:=some (L,.arr e 1 g (v8t AV.p (v8t (PV.int .i64) [])))) hd (by rw[I];exact hs.hr) (by rw[I];exact Ev.refl _ _ _ _) (v:=.p (.tup [])) ⟨[],rfl,rfl⟩)
 ·obtain⟨vs,U,O,o3,o4⟩:=hs.hr.obj L _ H;have ha0:V=some ⟨b,0,none⟩:=by
   grind
  rw[h2,ha0,hn];rcases o4 with⟨o4,_⟩|⟨M,c',cur,i1,i2,i3,i4,i5,i6,i7⟩
  ·grind
  rw[hi]at i1;cases i1;have hb:b<w.heap.size:=(v5d.1 i3).1;have hvs:=vc9 U;have E:∀l:List Int,∀v∈l.map (Value.int .i64),v.oneCell'=true:=fun l v hv=>by obtain⟨x,_,rfl⟩:=v81.1 hv;rfl
  refine(S.rows b 0 (cp-0) l w ?_ hb hlt).mono ?_
  ·intro j hj;have hj':j<l.length:=by simpa using hj
   have hcj:cur[j]?=some (Value.int .i64 l[j]):=by
    have h5:(cur.toList.take ((v8t AV.p (v8t (PV.int .i64) l)).length*1))[j]?=vs[j]?:=by rw[i7,hvs,qlp (E l)]
    grind
   have hr:l.toArray[j]! = l[j]:=by rw[getElem!_pos _ j (by simpa using hj')];simp
   rw[hr];refine⟨?_,?_⟩
   ·simp only[World.cell?,i3,v7l];simpa using hcj
   ·simp[World.frozen?,i3]
  ·rintro e' w' ⟨rfl,m,os,rfl⟩;have hfl':(flat ((vj1 l).map (Value.int .i64))).toArray=((l.mergeSort fun x y=>decide (x<=y)).toArray).map (Value.int .i64):=by
    rw[qlp (E _)];apply v5b;simp[vj1]
   rw[qx0,<-hfl'];obtain⟨hH,hE⟩:=HR.rows hs.hr (m:=m) (os:=os) H hi (by simp[vj1]) (q7r (vj1 l))
    (fun v hv=>by obtain⟨i,_,rfl⟩:=v81.1 hv;rfl) (by rw[qlp (E _)];exact E _)
   exact h inj _ _ (hs.put (u:=some (L,_)) hd hH hE (v:=.p (.tup [])) ⟨[],rfl,rfl⟩)
theorem qte(l:List Int):(vj1 l).Perm l:=List.mergeSort_perm _ _
theorem q0w(l:List Int):(vj1 l).Pairwise (·<=·):=by
 have:=List.pairwise_mergeSort (le:=fun x y:Int=>decide (x<=y)) (by intro a b c;simp;omega) (by intro a b;simp;omega) l;exact this.imp (by simp)
theorem q7s(h:q0v l=some A):A.length=l.length:=by
 unfold q0v at h;split at h
 ·cases h;exact(qte l).length_eq
 ·cases h
theorem quj{c:α->α->Option Int}{l A:List α}(h:qxt c l=some A):A.length=l.length:=by
 unfold qxt at h;split at h
 ·rename_i E;cases h;exact(quh E.2.1).length_eq
 ·cases h
theorem zSI{L:Nat}
  (S:SrtI C.P k) (hl:q0v l=some A) (h:AL C ops rest Q ⟨qfa st.env o.dst (.p (.tup [])),qo8 st.heap L (.arr e 1 g (v8t AV.p (v8t (PV.int .i64) A)))⟩)
  (ho:o.op=.call ⟨.value f,args,J⟩:=by rfl) (I:qbh ops st.env o=some true:=by first|exact qao rfl|exact qbr rfl rfl (by exact rfl) (by exact rfl)) (M:qb2 C.N o=true:=by rfl)
  (H:qb4 st.env f args.toList=some (k,[.own L g 0 n]):=by simp only[go_sem,seval, *];first|exact⟨rfl,rfl,rfl⟩|exact rfl)
  (E:qav st.heap L=.arr e 1 g (List.map AV.p (List.map (PV.int .i64) l)):=by simp only[go_sem,seval, *];exact rfl) (hn:n=l.length:=by rfl):AL C ops (o::rest) Q st:=vu9 S hl ho I M H E hn h
theorem zSF{Z:FuncId}{M:AV}{L:Nat}
  (S:Srt1 C.P k) (enc:α->PV) (c:α->α->Option Int) {l A:List α} (hl:qxt c l=some A) (U:∀x y r,c x y=some r->Con True C.P Z (enc x::enc y::E) (.int .i64 r))
  (h:AL C ops rest Q ⟨qfa st.env o.dst (.p (.tup [])),qo8 st.heap L (.arr e 1 g (v8t AV.p (v8t enc A)))⟩)
  (h1:∀x,(AV.p (enc x)).one=true:=by intro x;rfl)
  (ho:o.op=.call ⟨.value f,args,J⟩:=by rfl) (W:qbh ops st.env o=some true:=by first|exact qao rfl|exact qbr rfl rfl (by exact rfl) (by exact rfl)) (V:qb2 C.N o=true:=by rfl)
  (O:qb4 st.env f args.toList=some (k,[.own L g 0 n,M]):=by simp only[go_sem,seval, *];first|exact⟨⟨rfl,rfl,rfl⟩,rfl⟩|exact⟨rfl,rfl,rfl,rfl⟩|exact rfl) (I:(view (fun q=>q != L) 9 M).run st.sig=some (.func (.func Z) E):=by simp only[go_sem,seval, *];all_goals exact zF)
  (H:qav st.heap L=.arr e 1 g (List.map AV.p (List.map enc l)):=by simp only[go_sem,seval, *];exact rfl) (hn:n=l.length:=by rfl):AL C ops (o::rest) Q st:=vu8 S enc h1 c hl U ho W V O I H hn h
end Go.Ab
namespace Go.Ab
variable {D:Prop}
open Go
def vj2(E:Nat)(W:World)(J:Value)(zs:List Int):Prop :=
 (∃a A,J=.slice a 0 A/\zs=[])\/∃b off A,J=.slice (some ⟨b,off,none⟩) zs.length A/\b<E/\∀j,j<zs.length->W.cell? ⟨b,off+j,none⟩=some (.int .i64 (zs[j]?.getD 0))
theorem vj2.below{E:Nat}{A B:World}(h:RowKit.Below E A B){J:Value}{zs:List Int}:vj2 E A J zs->vj2 E B J zs
 |.inl e=>.inl e
 |.inr ⟨b,off,cap,e,hb,hc⟩=>.inr ⟨b,off,cap,e,hb,fun j H=>(h.cell (p:=⟨b,off+j,none⟩) hb).trans (hc j H)⟩
theorem vda{X:Nat->Prop}{w:World}:∀{l:List Int} {vs:List Value},PRs X w (v8t (PV.int .i64) l) vs->vs=l.map (Value.int .i64)
 |[],vs,h=>h
 |x::l,vs,h=>by
  obtain⟨v,r,rfl,A,E⟩:=h;simp only[PR]at A;rw[A,vda E];rfl
variable {C:Cx} {Q:Exit->St->Prop} {st:St}
end Go.Ab
namespace Go.Ab
variable {D:Prop}
open Go
variable {ops:Array Oper} {l:List Oper} {n:Nat}
def q0x(C:Cx)(ops:Array Oper):List Evt->Nat->(Nat->AV)×(Nat->AO)->Prop
 |[],_,_=>True
 |e::es,i,s=>(∃o,ops[i]?=some o/\vaw C ops o s.1 s.2 e)/\q0x C ops es (i+1) (qxs s.1 ((ops[i]?).bind (·.dst)) e.v,upd s.2 e.u)
theorem q0x.at{C:Cx}{ops:Array Oper}:∀{es:List Evt} {i:Nat} {s:(Nat->AV)×(Nat->AO)},q0x C ops es i s->∀j e,i<=j->es[j-i]?=some e ->
  ∃o,ops[j]?=some o/\vaw C ops o (apD ops es i (fun m=>decide (m<j)) s).1 (apD ops es i (fun m=>decide (m<j)) s).2 e
 |[],i,s,h,j,e,hj,he=>by simp at he
 | e0 :: es,i,s,h,j,e,hj,he=>by
  obtain⟨⟨o,ho,I⟩,A⟩:=h;have E:∀(es':List Evt) (m:Nat) (s':(Nat->AV)×(Nat->AO)),j<=m->apD ops es' m (fun m=>decide (m<j)) s'=s':=by
   intro es'
   induction es' with
   |nil=>intro m s' _;rfl
   |cons x xs ih=>intro m s' M;simp only[apD];rw[if_neg (by simp;omega)];exact ih (m+1) s' (by omega)
  by_cases H:j=i
  ·grind
  ·have J:i<j:=by omega
   have:=q0x.at A j e (by omega) (by rw[show j-i=(j-(i+1))+1 by omega]at he;simpa using he);simp only[apD]
   grind
theorem DCh.chainP{C:Cx}{st:St}{es:List Evt}{st':St}(h:DCh C ops l st es st'):∀i,(∀j,j<l.length->ops[i+j]?=l[j]?) ->
  es.length=l.length/\q0x C ops es i (st.env.get,st.sig)/\apD ops es i (fun _=>true) (st.env.get,st.sig)=(st'.env.get,st'.sig):=by
 induction h with
 |nil=>intro i hi;exact⟨rfl,trivial,rfl⟩
 | @cons o rest st e es st' hd h hr ih =>
  intro i hi;have h0:ops[i]?=some o:=by have:=hi 0 (by simp);simpa using this
  obtain⟨A,h1,E⟩:=ih (i+1) (fun j I=>by have:=hi (j+1) (by simp;omega);rw[show i+1+j=i+(j+1) by omega,this];simp);have H:((qxs st.env.get ((ops[i]?).bind (·.dst)) e.v,upd st.sig e.u):(Nat->AV)×(Nat->AO))=((⟨qfa st.env o.dst e.v,qut st.heap e.u⟩:St).env.get,(⟨qfa st.env o.dst e.v,qut st.heap e.u⟩:St).sig):=by
   rw[h0];simp only[v7m,qzs,St.sig,qs8]
  refine⟨by simp[A],⟨⟨o,h0,hd,?_⟩,?_⟩,?_⟩
  ·rw[q0k,qqj];exact h
  ·grind
  ·simp only[apD,if_true]
   grind
theorem vf8{P:Program}{Q:Exit->Act->World->Prop}(Z:qkh ops=true)(J:∀j,n<=j->j<ops.size->∀i,i<j->Reach ops j i) :
  ∀(k m E:Nat) (A:Array Bool) (a:Act) (w:World),n<=m->m+k=ops.size->A.size=ops.size->(∀j,j<m->A.getD j false=true)->(∀j,m<=j->j<ops.size->A.getD j false=false)->k<=E ->
   wpOps P ops Q (v85 m k) a w->wpAny P .any ops Q E A a w:=by
 intro k
 induction k with
 | zero =>
  intro m E A a w hnm hm O H M hk hq;have hr:Region.ready .any ops A=[]:=by
   cases hrd:Region.ready .any ops A with
   |nil=>rfl
   |cons i _ =>
    exfalso;have hi:i∈Region.ready .any ops A:=by rw[hrd];exact v8z
    obtain⟨h0,o,ho,_⟩:=mem_ready.1 hi
    grind
  have I:Q .normal a w:=hq;cases E with
  |zero=>exact⟨hr,I⟩
  |succ E=>exact⟨fun _=>I,fun i hi=>by rw[hr]at hi;cases hi⟩
 | succ k ih =>
  intro m E A a w hnm hm O H M hk hq;cases E with
  |zero=>omega
  |succ E =>
  have hcl:qyo ops (fun j=>A.getD j false):=by
   intro j hj p hp;have hjm:j<m:=by
    grind
   by_cases hp':p<m
   ·exact H p hp'
   ·exfalso;obtain⟨oj,hoj⟩:∃oj,ops[j]?=some oj:=⟨ops[j]'(by omega),by simp[show j<ops.size by omega]⟩;have:=qfc Z (by omega:j<ops.size) p hp;omega
  refine⟨fun hr=>?_,fun i hi=>?_⟩
  ·exfalso;have:m∈Region.ready .any ops A:=by
    refine mem_ready.2 ⟨getD_in (by omega) (M m (v7a _) (by omega)),ops[m]'(by omega),by simp[show m<ops.size by omega],fun e he hb=>?_⟩;have hp:e.on∈qc7 ops m:=by
     unfold qc7
     grind
    exact H _ (qfc Z (by omega) _ hp)
   grind
  ·obtain⟨h0,o,ho,hpre⟩:=mem_ready.1 hi;have W:=(v5d.1 ho).1;have him:i=m:=by
    rcases v9a i m with h|h|h
    ·grind
    ·exact h
    ·exfalso;have U:∀m∈qc7 ops i,A.getD m false=true:=by
      intro m hm;unfold qc7 at hm
      grind
     have:=(J i (by omega) W m h).ready (D:=fun j=>A.getD j false) hcl U
     grind
   subst him;rw[List.range'_succ,wpOps_cons]at hq;refine wpOp_mono (fun a' w' I=>ih (i+1) E _ a' w' (by omega) (by omega) (by simp[O]) (fun j hj=>?_) (fun j hj hjs=>?_) (by omega) I) hq
   ·by_cases V:i=j
    ·subst V;simp[O,W]
    ·rw[getD_set_ne false V];exact H j (by omega)
   ·rw[getD_set_ne false (by omega)];exact M j (by omega) hjs
theorem vf9{C:Cx}{es:List Evt}{s0:(Nat->AV)×(Nat->AO)}{Q:Exit->Act->World->Prop}(hn:n<ops.size)(hlen:es.length=n)(hch:q0x C ops es 0 s0)(hsl:qkh ops=true)(hev:qwi ops es=true)
  (hlast:∀j,n<=j->j<ops.size->∀i,i<j->Reach ops j i) (hQ:∀a w inj,SRf C (apD ops es 0 (fun _=>true) s0).1 (apD ops es 0 (fun _=>true) s0).2 inj a w->wpOps C.P ops Q (v85 n (ops.size-n)) a w) :
  ∀(J:Nat) (A:Array Bool) (a:Act) (w:World) (inj:Inj),A.size=ops.size->qyo ops (fun j=>A.getD j false)->(∀j,n<=j->j<ops.size->A.getD j false=false)->(A.toList.filter (! ·)).length<=J ->
   SRf C (apD ops es 0 (fun j=>A.getD j false) s0).1 (apD ops es 0 (fun j=>A.getD j false) s0).2 inj a w->wpAny C.P .any ops Q J A a w:=by
 have W:∀(A:Array Bool),A.size=ops.size->A.getD n false=false->Region.ready .any ops A≠[]:=by
  intro A hsz U hr;have all:∀j,j<ops.size->A.getD j false=true:=by
   intro j
   induction j using v9d with
   | _ j ih =>
    intro hj;by_cases hl:A.getD j false=true
    ·exact hl
    ·have:j∈Region.ready .any ops A:=by
      refine mem_ready.2 ⟨getD_in (by omega) (by simpa using hl),ops[j],by simp[hj],fun e he hb=>?_⟩;have hp:e.on∈qc7 ops j:=by
       unfold qc7;simp only[hj,getElem?_pos];exact v81.2 ⟨e,v80.2 ⟨by simpa using he,hb⟩,rfl⟩
      have I:=qfc hsl hj _ hp;exact ih _ I (by omega)
     rw[hr]at this;cases this
  have:=all n hn;rw[U]at this;cases this
 have count:∀(k:Nat) (l:List Bool) (m:Nat),m+k=l.length->(∀j,m<=j->j<l.length->l[j]?=some false)->k<=(l.filter (! ·)).length:=by
  intro k l m hm h;have h1:(l.drop m).length=k:=by rw[v6c];omega
  have h2:((l.drop m).filter (! ·))=l.drop m:=by
   rw[List.filter_eq_self];intro b hb;obtain⟨j,hj,rfl⟩:=List.mem_iff_getElem.1 hb;have:=h (m+j) (by omega) (by rw[v6c]at hj;omega);rw[List.getElem_drop];obtain⟨_,h3⟩:=v56.1 this;rw[h3];rfl
  have h3:((l.drop m).filter (! ·)).length<=(l.filter (! ·)).length:=by
   conv=>rhs;rw[<-v88 m l,List.filter_append,v6b]
   omega
  rw[h2,h1]at h3;exact h3
 intro J
 induction J with
 |zero =>
  intro A a w inj hsz M U hf hs;exfalso;have I:n<A.size:=by omega
  have hm:A[n]'I∈A.toList:=by simp
  have h0':A[n]'I=false:=by simpa[I] using U n (v7a _) hn
  have:A[n]'I∈A.toList.filter (! ·):=v80.2 ⟨hm,by rw[h0'];rfl⟩;have:0<(A.toList.filter (! ·)).length:=List.length_pos_of_mem this;omega
 | succ J ih =>
  intro A a w inj hsz M U hf hs;by_cases Z:∀j,j<n->A.getD j false=true
  ·rw[qp2 ops es 0 _ (fun _=>true) s0 fun j _ h2=>Z j (by omega)]at hs;refine vf8 hsl hlast (ops.size-n) n _ A a w (v7a _) (by omega) hsz Z U ?_ (hQ a w inj hs);refine v7c (count _ A.toList n (by simp;omega) (fun j h1 h2=>?_)) hf;have:=U j h1 (by simp at h2;omega);have h3:j<A.size:=by simpa using h2
   rw[v7z];simpa[h3] using this
  refine⟨fun hr=>absurd hr (W A hsz (U n (v7a _) hn)),fun i hi=>?_⟩;obtain⟨h0,o,ho,hpre⟩:=mem_ready.1 hi;have I:=(v5d.1 ho).1;have hltn:i<n:=by
   by_cases hltn:i<n
   ·exact hltn
   ·exfalso;apply Z;intro j hj;have H:∀m∈qc7 ops i,A.getD m false=true:=by
     intro m hm;unfold qc7 at hm;rw[ho]at hm;obtain⟨e,he,rfl⟩:=v81.1 hm;obtain⟨he1,he2⟩:=v80.1 he;exact hpre e (by simpa using he1) he2
    exact(hlast i (by omega) I j (by omega)).ready (D:=fun j=>A.getD j false) M H
  have V:A.getD i false=false:=getD_both h0;have H:∀m∈qc7 ops i,A.getD m false=true:=by
   intro m hm;unfold qc7 at hm;rw[ho]at hm;obtain⟨e,he,rfl⟩:=v81.1 hm;obtain⟨he1,he2⟩:=v80.1 he;exact hpre e (by simpa using he1) he2
  obtain⟨e,he⟩:∃e,es[i]?=some e:=⟨es[i]'(by omega),v52 (by omega)⟩;obtain⟨o',ho',hst⟩:=hch.at i e (v9f _) (by simpa using he);have:o'=o:=v9i (ho'.symm.trans ho);subst this
  -- which are A,compared with the text's order
  have cmpSlot:∀t∈o'.looksAt ops,(apD ops es 0 (fun j=>A.getD j false) s0).1 t=(apD ops es 0 (fun m=>decide (m<i)) s0).1 t:=by
   intro t ht;refine qzq ops t es 0 _ _ s0 s0 rfl fun j _ hj hd=>?_
   obtain⟨oj,hoj⟩:∃oj,ops[j]?=some oj:=⟨ops[j]'(by omega),by simp[show j<ops.size by omega]⟩;rw[hoj]at hd;simp only[v7m]at hd;rcases v9a j i with E|E|E
   ·simp only[E,decide_true];rcases qgo hsl E hoj ho with hr|hr
    ·exact hr.ready (D:=fun j=>A.getD j false) M H
    ·exact absurd ht ((Oper.apart_spec hr).1 t hd)
   ·subst E;simpa using V
   ·have:decide (j<i)=false:=by simp;omega
    rw[this];rcases qgo hsl E ho hoj with hr|hr
    ·by_cases hl:A.getD j false=true
     ·have:=hr.closed (D:=fun j=>A.getD j false) M hl;simp only[V]at this;cases this
     ·simpa using hl
    ·exact absurd ht ((Oper.apart_spec hr).2.2 t hd)
  have cmpLoc:∀l∈e.reads,(apD ops es 0 (fun j=>A.getD j false) s0).2 l=(apD ops es 0 (fun m=>decide (m<i)) s0).2 l:=by
   intro l hl;refine q4n ops l es 0 _ _ s0 s0 rfl fun j ej _ O hw=>?_
   simp only[v7k]at O;have hjn:j<ops.size:=by have:=(v56.1 O).1;omega
   rcases v9a j i with E|E|E
   ·simp only[E,decide_true];rcases qj1 hev E I O he with hr|hr
    ·exact hr.ready (D:=fun j=>A.getD j false) M H
    ·exact absurd hl (hr.1 l hw).1
   ·subst E;simpa using V
   ·have:decide (j<i)=false:=by simp;omega
    rw[this];rcases qj1 hev E hjn he O with hr|hr
    ·by_cases hl':A.getD j false=true
     ·have:=hr.closed (D:=fun j=>A.getD j false) M hl';simp only[V]at this;cases this
     ·simpa using hl'
    ·exact absurd hl (hr.2 l hw)
  have hst':=hst.frame cmpSlot cmpLoc;obtain⟨hdst,hst'⟩:=hst';have hjoin:=qzr ops i e es 0 (fun j=>A.getD j false) s0 (v9f _) (by simpa using he) V (by
   intro j ej hij O hD;simp only[v7k]at O;have hjn:j<ops.size:=by have:=(v56.1 O).1;omega
   obtain⟨oj,hoj⟩:∃oj,ops[j]?=some oj:=⟨ops[j]'(by omega),by simp[show j<ops.size by omega]⟩;have nr:¬Reach ops j i:=fun hr=>by
    have:=hr.closed (D:=fun j=>A.getD j false) M hD;simp only[V]at this;cases this
   constructor
   ·rcases qgo hsl hij ho hoj with hr|hr
    ·exact(nr hr).elim
    ·rw[hoj,ho];simp only[v7m];cases hd:oj.dst with
     |none=>exact .inl rfl
     |some d =>
      refine .inr fun hh=>?_
      exact(Oper.apart_spec hr).2.1 d hh.symm hd
   ·rcases qj1 hev hij hjn he O with hr|hr
    ·exact(nr hr).elim
    ·cases hw:ej.wr with
     |none=>exact .inl rfl
     |some l =>
      refine .inr fun hh=>?_
      exact(hr.1 l hh.symm).2 hw)
  have hD':apD ops es 0 (fun j=>(A.setIfInBounds i true).getD j false) s0=apD ops es 0 (fun j=>j==i||A.getD j false) s0:=by
   refine qp2 ops es 0 _ _ s0 fun j _ hj=>?_
   by_cases E:i=j
   ·subst E;simp[hsz,I]
   ·rw[getD_set_ne false E];have:(j==i)=false:=by simp;omega
    simp[this]
  have next:∀a' w' inj',SRf C (qxs (apD ops es 0 (fun j=>A.getD j false) s0).1 o'.dst e.v) (upd (apD ops es 0 (fun j=>A.getD j false) s0).2 e.u) inj' a' w' ->
    wpAny C.P .any ops Q J (A.setIfInBounds i true) a' w':=by
   intro a' w' inj' hs';refine ih (A.setIfInBounds i true) a' w' inj' (by simp[hsz]) ?_ (fun j hj hjs=>by rw[getD_set_ne false (by omega)];exact U j hj hjs) ?_ ?_
   ·intro j hj m hm;by_cases E:i=j
    ·subst E;exact getD_set_true (H m hm)
    ·have hj':(A.setIfInBounds i true).getD j false=true:=hj;rw[getD_set_ne false E]at hj';exact getD_set_true (M j hj' m hm)
   ·have hli:A[i]?=some false:=by
     have:i<A.size:=by omega
     simp[this]at V ⊢;exact V
    have key:∀(l:List Bool) (i:Nat),l[i]?=some false->((l.set i true).filter (! ·)).length+1=(l.filter (! ·)).length:=by
     intro l
     induction l with
     |nil=>intro i h;simp at h
     | cons b l ihl =>
      intro i h;cases i with
      |zero=>simp at h;subst h;simp
      |succ i =>
       simp only[v8l]at h;have:=ihl i h;cases b<;>simp[this]<;>omega
    have:=key A.toList i (by simpa using hli);rw[Array.toList_setIfInBounds];omega
   ·rw[hD',hjoin,ho];exact hs'
  unfold wpOp;rw[ho];simp only;rcases hst' with⟨hg,hdo⟩|⟨hg,rfl⟩
  ·rw[qk7 hs hg];simp only[if_true];exact .inl (hdo.sound hs hdst next)
  ·rw[qk7 hs hg];simp only[v5k,if_false];exact next _ _ inj (hs.put (u:=none) hdst hs.hr (Ev.refl _ _ _ _) ⟨[],rfl,rfl⟩)
def vdb(ops:Array Oper)(n:Nat):Bool:=decide (n<ops.size)&&(v85 n (ops.size-n)).all fun j=>(v6s j).all fun i=>vax (vju ops ops.size) j i
theorem va2(h:vdb ops n=true):n<ops.size/\∀j,n<=j->j<ops.size->∀i,i<j->Reach ops j i:=by
 simp only[vdb,v5i,decide_eq_true_eq,v8d,v83,List.mem_range'_1]at h;exact⟨h.1,fun j h1 A i hi=>qrd (h.2 j ⟨h1,by omega⟩ i hi)⟩
variable {C:Cx} {Q:Exit->St->Prop} {st:St}
def DKL(C:Cx)(l:Array Oper)(r:List Oper)(Q:Exit->St->Prop):List Evt->St->Prop:=fun es st'=>qwi l es=true/\AL C l r Q st'
theorem q2r(n:Nat){id:Nat}(hm:C.P.follows .mixedOrders=true)(hsl:qkh l.toArray=true)(hls:vdb l.toArray n=true)(h:DGo C l.toArray (l.take n) st [] (DKL C l.toArray (l.drop n) Q)):AWp C (.region id l.toArray true) Q st:=by
 obtain⟨es,st',h1,h2,h3⟩:=h;obtain⟨E,H⟩:=va2 hls;have hsz:n<l.length:=by simpa using E
 obtain⟨hel,V,W⟩:=h1.chainP 0 (fun j hj=>by
  grind)
 have M:es.length=n:=by rw[hel,v6g];omega
 simp only[List.reverse_nil,v6r]at h2;intro inj a w J;refine wp_region_any hm ?_;have hf:Fr C.D w { w with drawn:=w.drawn+1 }:=⟨rfl,rfl,rfl,fun _=>v7b _,v7a _,fun _ _=>rfl,fun _ _=>rfl⟩;have hE:Ev C.D C.X inj st.sig w inj st.sig { w with drawn:=w.drawn+1 }:=hf.ev;refine vf9 E M V hsl h2 H ?_ _ _ _ _ inj (by simp) ?_ ?_ ?_ ?_
 ·intro a' w' O A;rw[W]at A;have Z:=h3 O a' w' ⟨A.env,A.size,A.defers,A.hr,A.ev⟩;have U:=wpOps_eq_wpList (P:=C.P) (ops:=l.toArray) (Q:=vn7 C Q) (l.drop n) n (fun j=>by rw[List.getElem?_drop];simp);rw[v6c]at U;rw[v6v,U];exact Z
 ·intro j hj;simp only[getD_replicate_false]at hj;cases hj
 ·intro j _ _;exact getD_replicate_false _ _
 ·grind
 ·rw[qp2 l.toArray es 0 _ (fun _=>false) _ fun j _ _=>getD_replicate_false _ _];have I:∀(es:List Evt) (i:Nat) (s:(Nat->AV)×(Nat->AO)),apD l.toArray es i (fun _=>false) s=s:=by
   intro es
   induction es with
   |nil=>intro i s;rfl
   |cons e es ih=>intro i s;simp only[apD,v5k,if_false];exact ih (i+1) s
  rw[I];exact⟨fun t=>AR.ev hE J.hr.xlt _ _ (J.env t),J.size,J.defers,J.hr.fr hf,J.ev.trans hE⟩
theorem ydl{l:Array Oper}{r:List Oper}{E:List Evt}(h:AL C l r Q st)(hev:qwi l E.reverse=true:=by rfl):DGo C l [] st E (DKL C l r Q):=DGo.done ⟨hev,h⟩
@[go_sem]theorem ex_func(σ A:Nat->AO)(f f':Fn)(H E:List AV):(∃cs,AV.func f H=AV.func f' cs/\qkv σ A cs E)=(f=f'/\qkv σ A H E):=by
 grind
end Go.Ab
namespace Go.Ab
variable {D:Prop}
open Go
variable {args:Array Operand} {ops:Array Oper} {rest:List Oper} {J:Array TypeId} {f:Operand} {k:FuncId} {o:Oper} {n:Int}
structure Grw(P:Program)(k:FuncId)(e sz:TypeId):Prop where
 body:HasBody P k
 rows:∀(n:Int) (w:World),0<=n->n<=1000000000000->Calls P k #[.slice none 0 0,.int .i64 n] w fun e' w'=>∃v,e'=.returned v/\w'.ownsRow w.heap.size e sz v 0 []/\RowKit.Below w.heap.size w w'/\w.drawn<=w'.drawn
variable {C:Cx} {Q:Exit->St->Prop} {st:St}
theorem vva{e sz K g:Nat}
  (S:Grw C.P k e sz) (h0:0<=n) (hn:n<=1000000000000)
  (ho:o.op=.call ⟨.value f,args,J⟩) (hg:qbh ops st.env o=some true) (hd:qb2 C.N o=true)
  (hk:qb4 st.env f args.toList=some (k,[.nils,.p (.int .i64 n)]))
  (I:qav st.heap K=.dead g)
  (h:AL C ops rest Q ⟨qfa st.env o.dst (.own K (g+1) 0 0),qo8 st.heap K (.arr e sz (g+1) [])⟩):AL C ops (o::rest) Q st:=by
 intro inj a w O;simp only[wpList,qb3 O hg,if_true];refine .inl ?_;obtain⟨vs,W,E⟩:=qm0 O ho S.body hk;unfold Oper.wp;rw[W];simp only[Oper.upon];obtain⟨v1,r1,rfl,ha1,E⟩:=E;obtain⟨v2,r2,rfl,ha2,rfl⟩:=E;have hv1:v1=.slice none 0 0:=ha1;have hv2:v2=Value.int .i64 n:=ha2;subst hv1;subst hv2;refine(S.rows n w h0 hn).mono ?_;rintro e' w' ⟨v,rfl,H,A,hdr⟩;have hfz:∀a:Addr,a.block<w.heap.size->w'.frozen? a=w.frozen? a:=fun a ha=>by unfold World.frozen?;rw[A.block _ ha]
 obtain⟨_,H⟩:=H;rcases H with⟨rfl,_⟩|⟨gb,cp,cur,rfl,V,hgb,q1,q2,q3,q4⟩
 ·have U:=O.hr.update (D:=C.D) (w':=w') (l:=K) (o:=.dead g) (o':=.arr e sz (g+1) []) (x:=none) I A.os A.tape A.output (fun _=>hdr) A.size hfz
   (fun b hb _=>A.block b hb) (fun b1 c1 h1=>by cases h1) ⟨by simp[AO.gen],fun _ Z=>by simp[AO.gen]at Z⟩
  obtain⟨hev,M⟩:=U;refine h _ _ _ (O.put (u:=some (K,.arr e sz (g+1) [])) hd (M ⟨[],rfl,by simp,by simp[flat,qbp],.inl ⟨by simp,rfl⟩⟩) hev ?_);refine⟨⟨_,_,_,rfl⟩,fun oo hoo=>?_⟩;have:oo=.arr e sz (g+1) []:=by rw[<-hoo];exact qc1 _ _ _
  subst this;exact⟨v7a _,fun _ e1 sz1 es1 Z=>by cases Z;exact⟨by simp,.inl ⟨by simp,rfl,rfl,rfl⟩⟩⟩
 ·have U:=O.hr.update (D:=C.D) (w':=w') (l:=K) (o:=.dead g) (o':=.arr e sz (g+1) []) (x:=some (gb,cp)) I A.os A.tape A.output (fun _=>hdr) A.size hfz
   (fun b hb _=>A.block b hb) (fun b1 c1 h1=>by cases h1;exact .inl V) ⟨by simp[AO.gen],fun _ Z=>by simp[AO.gen]at Z⟩
  obtain⟨hev,M⟩:=U;have hH:=M ⟨[],rfl,by simp,by simp[flat,qbp],.inr ⟨gb,cp,cur,by simp,fun hX=>by have:=O.hr.xlt gb hX;omega,hgb,by simp,q2,q3,by simp[flat]⟩⟩;refine h _ _ _ (O.put (u:=some (K,.arr e sz (g+1) [])) hd hH hev ?_);have hown:ve6 (fun q=>if q=K then some (gb,cp) else inj q) (qmz st.sig K (.arr e sz (g+1) [])) K (g+1) 0 0 (.slice (some ⟨gb,0,none⟩) 0 cp):=qo6 (qc1 _ _ _) (if_pos rfl) (v7a _) q1;exact hown
theorem zN{e sz g:Nat}
  (S:Grw C.P k e sz) (K:Nat) (h0:0<=n) (hn:n<=1000000000000)
  (h:AL C ops rest Q ⟨qfa st.env o.dst (.own K (g+1) 0 0),qo8 st.heap K (.arr e sz (g+1) [])⟩)
  (ho:o.op=.call ⟨.value f,args,J⟩:=by rfl) (H:qbh ops st.env o=some true:=by first|exact qao rfl|exact qbr rfl rfl (by exact rfl) (by exact rfl)) (I:qb2 C.N o=true:=by rfl)
  (E:qb4 st.env f args.toList=some (k,[.nils,.p (.int .i64 n)]):=by simp only[go_sem,seval, *];all_goals first|exact rfl|exact⟨rfl,rfl⟩)
  (A:qav st.heap K=.dead g:=by simp only[go_sem,seval, *];all_goals first|exact rfl|exact qwh rfl):AL C ops (o::rest) Q st:=vva S h0 hn ho H I E A h
end Go.Ab
namespace Go.Ab
open Go
section
theorem q4v{n:Int}(h1:0<=n)(A:n<=4294967295):IntKind.u32.wrap n=n:=by
 simp only[IntKind.wrap,IntKind.signed,IntKind.bits]
 grind
theorem vj3(b:BitVec 32):IntKind.u32.wrap ((b.toNat:Nat):Int)=((b.toNat:Nat):Int):=by
 have:=b.isLt;exact q4v (by omega) (by omega)
theorem qwp{a:Nat}(h:a<4294967296):(BitVec.ofInt 32 (a:Int)).toNat=a:=by
 rw[BitVec.ofInt_natCast,BitVec.toNat_ofNat];exact v9c h
theorem qwq(a i:Nat):Int.fdiv (a:Int) (2^i)=((a/2^i:Nat):Int):=by
 grind
def pop8(i:Nat):Nat:=((v6s 8).filter fun k=>i.testBit k).length
def vdc(n:Nat):Nat:=pop8 (n/16777216)+pop8 (n/65536%256)+pop8 (n/256%256)+pop8 (n%256)
end
section
variable {C:Cx} {Q:Exit->St->Prop} {st:St}
theorem zCl{α:Type}(f:α->PV)(l:List α)(z:α)(K off len:Nat)(I:off+len<=l.length){ops:Array Oper}{o:Oper}{rest:List Oper}{g e sz:Nat}{t:TypeId}{x:Operand}{st':St}
  (h:AL C ops rest Q st') (ho:o.op=.call ⟨.builtin .clear,#[x],#[t]⟩:=by rfl) (W:qbh ops st.env o=some true:=by first|exact qao rfl|exact qbr rfl rfl (by exact rfl) (by exact rfl)) (Z:qb2 C.N o=true:=by rfl)
  (U:C.P.underlying t=some (.slice e):=by simp only[go_sem,seval];all_goals exact rfl) (hx:ev st.env x=.own K g off len:=by simp only[go_sem,seval, *];all_goals exact zF)
  (V:qav st.heap K=.arr e sz g ((l.map f).map .p):=by simp only[go_sem,seval, *];all_goals exact zF) (M:sz=C.P.cellsOf e:=by simp only[go_sem,seval];all_goals rfl) (hz:qbm C.P e=some (.p (f z)):=by simp only[go_sem,seval];all_goals rfl)
  (J:qhb sz (.p (f z))=true:=by rfl)
  (O:(⟨qfa st.env o.dst (.p (.tup [])),qut st.heap (some (K,.arr e sz g (((l.take off++List.replicate len z++l.drop (off+len)).map f).map .p)))⟩:St)=st':=by exact rfl):AL C ops (o::rest) Q st:=by
 obtain⟨dst,op,H,pos,E,A⟩:=o;simp only at ho;subst ho;subst M;have hr:(aop C.P C.B (ev st.env) ⟨dst,.call ⟨.builtin .clear,#[x],#[t]⟩,H,pos,E,A⟩).run (qav st.heap)=some (.p (.tup []),some (K,.arr e (C.P.cellsOf e) g (((l.take off++v6u len z++l.drop (off+len)).map f).map .p))):=by
  show(qu7 C.P t (ev st.env x)).run (qav st.heap)=_;unfold qu7;rw[U,hx];simp only[L.run,V];rw[if_pos ⟨trivial,trivial,trivial,by simpa using I⟩,hz];simp only[J,if_true,L.run_ret];simp only[v6h,v8x,v8v,v8w]
 subst O;refine vjw W Z ?_ h;rw[hr];rfl
end
end Go.Ab
namespace Go.Proofs
open Go.Shelf Go.RowKit Go.Lib
variable {P:Program} {ρ:Ren}
set_option maxHeartbeats 2000000 in
set_option maxRecDepth 100000 in
theorem AbE.clone_zero (L:SlLaysE0.n41 P ρ) (i0:TypeInfo) (z:Value) (size bytes:Nat) (hi:P.info? (ρ.t 23)=some i0) (hz0:i0.zero=some z) (hz1:i0.size=size) (hz2:i0.bytes=bytes) (hzs:z.cells.size=size) (hsz:0<size)
  (z23:∀w,(Go.sizeOf (ρ.t 23)).run P w=.ok size w) (a:Addr) (c:Nat) (w:World) :
  Calls P (ρ.f 41) #[.slice (some a) 0 c] w fun e w'=>∃v',e=.returned v'/\w'.ownsRow w.heap.size (ρ.t 23) size v' 0 []/\Below w.heap.size w w':=by
 have mixed:=L.mixed;have t4:=L.t4;have a4:=L.a4;have z4:=L.z4;have v4:=L.v4;have t22:=L.t22;have a22:=L.a22;have z22:=L.z22;have v22:=L.v22
 have q22:∀(w:World) (a:Option Addr) (n c n' c':Nat),(binOp .eql (ρ.t 22) (.slice a n c) (.slice none n' c')).run P w=.ok (.bool a.isNone) w:=fun w a n c n' c'=>v5o w _ _ a n c n' c' L.t22
 have u22:∀w,Sem.run P (underlying (ρ.t 22)) w=.ok (TypeDesc.slice (ρ.t 23)) w:=run_underlying t22
 obtain⟨_,_,FG⟩:=L.f41
 go_enter FG,SlBodyN.n41_ntmps ρ
 go_wp2_with (at_builtin;refine wpList_append_own _ rfl _ _ (ρ.t 22) rfl w.heap.size (ρ.t 23) i0 z size bytes t22 hi hz0 hz1 hz2 hzs hsz _ _ _ rfl (World.ownsRow_made w #[] 0 (v7a _) (v9f _) (by simp)) a 0 c [] rfl (by simp) (by intro j u hj;simp at hj) (by intro u hu;cases hu) (by unfold maxLen;omega) (by omega) (by simp) ?_)
 intro v' w1 hown hgrow hnil
 go_wp2
 go_ret
 refine⟨v',rfl,by simpa using hown,?_⟩
 exact((Below.refl _ w).alloc (v7a _) _).grown hgrow (by simp) (by intro k hk;simp[Value.ownBlock]at hk;omega)
theorem AbE.cln(L:SlLaysE0.n41 P ρ)(hb:Ab.HasBody P (ρ.f 41))(H:TypeInfo)(z:Value)(size A:Nat)(hi:P.info? (ρ.t 23)=some H)(U:H.zero=some z)(E:H.size=size)(V:H.bytes=A)(I:z.cells.size=size)(O:0<size):Ab.Cln P (ρ.f 41) (ρ.t 23) size A :=
 have M:∀w,(Go.sizeOf (ρ.t 23)).run P w=.ok size w:=fun w=>by subst E;simp[Go.sizeOf,typeInfo,hi]
 ⟨hb,fun b off n c J w h1 W h3 h4 Z=>(AnyE.slices_Clone L H z size A hi U E V I O M b off n c J w h1 W h3 h4 Z).mono fun e w' ⟨v,p1,p2,_,p4⟩=>⟨v,p1,p2,p4⟩,
  fun a c w=>AbE.clone_zero L H z size A hi U E V I O M a c w,fun n c w=>AnyE.slices_Clone_nil L n c w⟩
end Go.Proofs
namespace Go.Ab
variable {D:Prop}
open Go
@[go_sem]theorem vdd{α:Type}(i n j:Nat)(l:List α):v87 (i+(n-j)) (v87 i l++v87 (n-j) (List.drop j l))=v87 i l++v87 (n-j) (List.drop j l) :=
 v6y (by rw[v6b,v6g,v6g];omega)
variable {C:Cx} {Q:Exit->St->Prop} {st:St}
theorem yK{ops:Array Oper}{K:List Evt->St->Prop}{o:Oper}{f:Operand}{args:Array Operand}{J:Array TypeId}{rest:List Oper}{E:List Evt}{c:FuncId}{e sz A g:Nat}{α:Type}
  (S:Cln C.P c e sz A) (k:Nat) (enc:α->PV) (l:List α) (n:Nat) (hl:l.length=n) (hn:n<=maxLen/\n*A<=140737488355328)
  (h:DGo C ops rest ⟨qfa st.env o.dst (.own k (g+1) 0 n),qo8 st.heap k (.arr e sz (g+1) ((l.map enc).map AV.p))⟩ (⟨.own k (g+1) 0 n,some (k,.arr e sz (g+1) ((l.map enc).map AV.p)),[k]⟩::E) K)
  (W:¬C.D:=by exact id) (ho:o.op=.call ⟨.value f,args,J⟩:=by rfl) (I:qbh ops st.env o=some true:=by first|exact qao rfl|exact qbr rfl rfl (by exact rfl) (by exact rfl)) (U:qb2 C.N o=true:=by rfl) (M:qlo C.B o=k:=by rfl)
  (O:qb4 st.env f args.toList=some (c,[.p (.slc (l.map enc))]):=by simp only[go_sem,seval, *];all_goals first|exact rfl|exact⟨rfl,rfl⟩)
  (H:((l.map enc).map AV.p).all (qhb sz)=true:=by exact qie _ _ _ fun _=>⟨rfl,rfl⟩)
  (V:qav st.heap k=.dead g:=by simp only[go_sem,seval, *];all_goals first|exact rfl|exact qwh rfl):DGo C ops (o::rest) st E K :=
 DGo.cloned S W ho I U M O H (by rw[v6d,hl];exact hn.1) (by rw[v6d,hl];exact hn.2) V (by rw[v6d,hl]) rfl h
end Go.Ab
namespace Go.Ab
variable {D:Prop}
open Go
variable {X:Nat->Prop} {inj:Inj} {σ:Nat->AO} {w:World}
variable {C:Cx} {Q:Exit->St->Prop} {st:St}
open Go.Proofs Go.Sort in
structure SrtQ (P:Program) (k:FuncId) (sz:Nat):Prop where
 body:HasBody P k
 rows:∀{α:Type} [Inhabited α] (enc:α->List Value) (hk:∀x,(enc x).length=sz) (h1:∀x,∀v∈enc x,v.oneCell'=true) (cf:α->α->Int) (hO:SWO (ltOf cf)) (g:Nat) (cb:Array Value) (blk off cap:Nat) (d:Array α) (w:World),
  (∀args w,(callFunc g args).run P w=.ok (.enter g args) w)->CmpLays P g cb enc sz cf blk off d.size w->HoldsK enc sz w blk off d->blk<w.heap.size->d.size<4611686018427387904 ->
  Calls P k #[.slice (some ⟨blk,off,none⟩) d.size cap,.func (.func g) #[] cb] w fun e w' =>
   e=.returned (.tuple #[])/\∃n os,w'=sortWorldK enc sz w blk off n (pdq (ltOf cf) d 0 d.size (v8a d.size) true true) os
 none:∀(p:Option Addr) (cap:Nat) (fv:Value) (w:World),Calls P k #[.slice p 0 cap,fv] w fun e w'=>e=.returned (.tuple #[])/\w'=w
variable {args:Array Operand} {ops:Array Oper} {rest:List Oper} {J:Array TypeId} {α:Type} {f:Operand} {E:List PV} {o:Oper}
theorem q7t[Inhabited α](enc:α->List Value)(k:Nat)(H:∀x,(enc x).length=k)(d:Array α):(Sort.flatK enc k d).toList=d.toList.flatMap enc:=by
 have key:∀l:List α,∀t,t<l.length*k->(l.flatMap enc)[t]?=some ((enc (l.toArray[t/k]!))[t%k]!):=by
  intro l
  induction l with
  |nil=>intro t E;simp at E
  | cons x l ih =>
   intro t E;have I:0<k:=by
    grind
   rw[v8h,List.getElem?_append];by_cases A:t<k
   ·rw[if_pos (by rw[H];exact A),Nat.div_eq_of_lt A,v9c A]
    grind
   ·rw[if_neg (by rw[H];exact A),H,ih (t-k) (by simp only[v8r,Nat.add_mul,Nat.one_mul]at E;omega)];obtain⟨u,rfl⟩:∃u,t=u+k:=⟨t-k,by omega⟩;rw[Nat.add_sub_cancel,Nat.add_div_right _ I,Nat.add_mod_right]
    grind
 apply v5y;intro t;by_cases E:t<d.size*k
 ·rw[key d.toList t (by simpa using E)];rw[v7z,Array.getElem?_eq_getElem (by simpa using E)];simp[Sort.flatK]
 ·rw[v54 (by simpa using E),v54];have:(d.toList.flatMap enc).length=d.size*k:=by
   rw[List.length_flatMap];have:d.toList.map (fun a=>(enc a).length)=v6u d.size k:=by
    apply List.ext_getElem (by simp)
    grind
   rw[this];simp
  omega
theorem vvb{k Z:FuncId}{fv:AV}{e sz g n L:Nat}
  (S:SrtQ C.P k sz) (enc:α->PV) (h1:∀x,(enc x).isAgg=true) (c:α->α->Option Int) {l A:List α} (hl:qxt c l=some A)
  (hc:∀x y r,c x y=some r->Con True C.P Z (enc x::enc y::E) (.int .i64 r))
  (ho:o.op=.call ⟨.value f,args,J⟩) (hg:qbh ops st.env o=some true) (hd:qb2 C.N o=true)
  (hk:qb4 st.env f args.toList=some (k,[.own L g 0 n,fv])) (hfv:(view (fun q=>q != L) 9 fv).run st.sig=some (.func (.func Z) E))
  (hobj:qav st.heap L=.arr e sz g (v8t AV.p (v8t enc l))) (hn:n=l.length)
  (h:AL C ops rest Q ⟨qfa st.env o.dst (.p (.tup [])),qo8 st.heap L (.arr e sz g (v8t AV.p (v8t enc A)))⟩):AL C ops (o::rest) Q st:=by
 intro inj a w hs;simp only[wpList,qb3 hs hg,if_true];refine .inl ?_;obtain⟨vs,hrun,hars⟩:=qm0 hs ho S.body hk;unfold Oper.wp;rw[hrun];simp only[Oper.upon];obtain⟨v1,r1,rfl,ha1,v2,r2,rfl,ha2,rfl⟩:=hars;have hp2:=qep hs.hr (fun q=>q != L) 9 fv v2 _ ha2 hfv;obtain⟨cvs,rfl,hcaps⟩:=hp2;obtain⟨⟨sa,sn,sc,rfl⟩,hown⟩:=ha1;obtain⟨_,hown⟩:=hown _ hobj;obtain⟨hle,hcase⟩:=hown rfl e sz _ rfl;unfold qxt at hl;split at hl
 case isFalse=>cases hl
 rename_i hcond;obtain⟨hdef,hok,hlt⟩:=hcond;obtain rfl:=v9i hl;cases l with
 | nil =>
  subst hn;have hnone:∃p cap,Value.slice sa sn sc=.slice p 0 cap:=by
   grind
  obtain⟨p,cap,hpc⟩:=hnone;rw[hpc];refine(S.none p cap _ w).mono ?_;rintro e' w' ⟨rfl,rfl⟩;have hsame:upd st.sig (some (L,.arr e sz g (v8t AV.p (v8t enc []))))=st.sig:=by
   funext q;simp only[upd,qmz]
   grind
  exact h inj _ _ (hs.put (u:=some (L,.arr e sz g (v8t AV.p (v8t enc [])))) hd (by rw[hsame];exact hs.hr) (by rw[hsame];exact Ev.refl _ _ _ _) (v:=.p (.tup [])) ⟨[],rfl,rfl⟩)
 | cons x0 r =>
  obtain⟨vs,U,O,o3,o4⟩:=hs.hr.obj L _ hobj;have hvl:vs.length=r.length+1:=by rw[<-U.length];simp
  rcases hcase with⟨_,_,_,h4⟩|⟨b,cp,V,hi,h2,h3,h4⟩
  ·grind
  have ha0:V=some ⟨b,0,none⟩:=by
   grind
  rw[h2,ha0,hn];rcases o4 with⟨o4,_⟩|⟨M,c',cur,i1,i2,i3,i4,i5,i6,i7⟩
  ·grind
  rw[hi]at i1;cases i1;have hb:b<w.heap.size:=(v5d.1 i3).1;obtain⟨v0,H,hv0⟩:∃v0 H,vs=v0::H:=by cases vs with|nil=>simp at hvl|cons v0 H=>exact⟨v0,H,rfl⟩
  have hvr:H.length=r.length:=by rw[hv0]at hvl;simpa using hvl
  have hat:∀i,AR C.X inj st.sig w (.p (enc (qbs x0 r i))) (qbs v0 H i):=by
   intro i;unfold qbs;by_cases hii:i<r.length+1
   ·obtain⟨u,hu,hr⟩:=U.get (i:=i) (p:=.p (enc ((x0::r)[i]'(by simpa using hii)))) (by rw[v8n,v8n,v52 (show i<(x0::r).length by simpa using hii)];rfl)
    grind
   ·obtain⟨u,hu,hr⟩:=U.get (i:=0) (p:=.p (enc x0)) (by simp)
    grind
  have hmem:∀i,qbs v0 H i∈vs:=fun i=>by rw[hv0];exact qm5 v0 H i
  -- the values are aggregates of sz cells
  let ec:Nat->List Value:=fun i=>(qbs v0 H i).cells.toList
  have hagg:∀i,Value.agg (ec i).toArray=qbs v0 H i:=by
   intro i;have h2:=h1 (qbs x0 r i);have h3:=hat i;show Value.agg ((qbs v0 H i).cells.toList).toArray=_;generalize qbs v0 H i=v at h3 ⊢;generalize enc (qbs x0 r i)=p at h2 h3;cases p with
   |agg cs =>
    simp only[AR,PR]at h3;obtain⟨us,rfl,_,_⟩:=h3;simp[Value.cells]
   |_=>simp[PV.isAgg]at h2
  have hlen:∀i,(ec i).length=sz:=fun i=>by
   grind
  have hone1:∀i,∀v∈ec i,v.oneCell'=true:=fun i v hv=>o3 v (v6l.2 ⟨_,hmem i,hv⟩)
  have hfe:∀l:List Nat,flat (l.map (qbs v0 H))=l.flatMap ec:=fun l=>by
   unfold flat;rw[List.flatMap_map]
  have hY:∀q,(C.X q\/q2f (fun q=>q != L) inj st.sig q)->q<w.heap.size:=fun q hq=>hq.elim (hs.hr.xlt q) fun hf=>(hs.hr.flt hf).1
  have hYb:C.X b\/q2f (fun q=>q != L) inj st.sig b:=.inr ⟨L,cp,_,hobj,rfl,by simp,hi⟩;have hK0:Keeps (fun q=>C.X q\/F inj st.sig q) (fun q=>C.X q\/q2f (fun q=>q != L) inj st.sig q) w w :=
   ⟨v7a _,fun _ _ _=>rfl,fun q _ hn hq=>hn (hq.imp id fun⟨l,c,o,I,a2,_,a4⟩=>⟨l,c,o,I,a2,rfl,a4⟩)⟩
  have hsome:∀i j,c (qbs x0 r i) (qbs x0 r j)=some ((c (qbs x0 r i) (qbs x0 r j)).getD 0):=by
   intro i j;obtain⟨z,hz⟩:=v7p.1 (hdef _ (qm5 x0 r i) _ (qm5 x0 r j));rw[hz];rfl
  have hcon0:=hc _ _ _ (hsome 0 0);have hrows:=S.rows ec hlen hone1 (fun i j=>(c (qbs x0 r i) (qbs x0 r j)).getD 0) hok.swo Z cvs.toArray b 0 (cp-0) (v71 (r.length+1)) w hcon0.body;rw[v73]at hrows;have hflw:∀d:Array Nat,Sort.flatK ec sz d=(flat (d.toList.map (qbs v0 H))).toArray:=fun d=>by
   apply v5b;rw[q7t ec sz hlen,hfe]
  refine(hrows ?_ ?_ hb (by simpa using hlt)).mono ?_
  ·intro m os dk hdk x y;have hW:Go.Proofs.sortWorldK ec sz w b 0 m dk os=Sort.grow (Sort.putRow id (Sort.ahead w m) b 0 (flat (dk.toList.map (qbs v0 H))).toArray) os:=by
    unfold Go.Proofs.sortWorldK Sort.putRowK;rw[hflw]
   rw[hW];have hK:=Keeps.rows (w:=w) (b:=b) (m:=m) (F:=(flat (dk.toList.map (qbs v0 H))).toArray) (os:=os) (Y:=fun q=>C.X q\/q2f (fun q=>q != L) inj st.sig q) hYb;generalize hWW:Sort.grow (Sort.putRow id (Sort.ahead w m) b 0 (flat (dk.toList.map (qbs v0 H))).toArray) os=W at hK;have hcon:=hc _ _ _ (hsome x y);have hcall:=hcon.pure (fun q=>C.X q\/q2f (fun q=>q != L) inj st.sig q) W (qbs v0 H x::qbs v0 H y::cvs) (fun q hq=>v7d (hY q hq) hK.size) (((qo9 hs.ev).keep hK0).keep hK)
    ⟨_,_,rfl,PR.keep hK _ _ (PR.keep hK0 _ _ (hat x)),_,_,rfl,PR.keep hK _ _ (PR.keep hK0 _ _ (hat y)),PRs.keep hK _ _ hcaps⟩
   rw[hagg,hagg];have hargs:#[qbs v0 H x,qbs v0 H y]++cvs.toArray=(qbs v0 H x::qbs v0 H y::cvs).toArray:=by simp
   rw[hargs];refine hcall.mono ?_;rintro e' w' ⟨v,rfl,hv,hfr⟩;simp only[PR]at hv;subst hv;exact⟨rfl,hfr.grow⟩
  ·intro j hj;have hpl:(v71 (r.length+1)).toList.map (qbs v0 H)=vs:=by
    rw[hv0,<-hvr,v74,q7q]
   rw[hflw,hpl]at hj ⊢;have hj':j<(flat vs).length:=by simpa using hj
   have hcj:cur[j]?=some (flat vs)[j]:=by
    grind
   have hr:(flat vs).toArray[j]! = (flat vs)[j]:=by rw[getElem!_pos _ j hj];simp
   rw[hr];refine⟨?_,?_⟩
   ·simp only[World.cell?,i3,v7l];simpa using hcj
   ·simp[World.frozen?,i3]
  ·rintro e' w' ⟨rfl,m,os,rfl⟩;have hp:=qzu hok;have hsr:srt (fun x y=>(c x y).getD 0) (x0::r)=(Sort.pdq (Go.Proofs.ltOf fun i j=>(c (qbs x0 r i) (qbs x0 r j)).getD 0) (v71 (r.length+1)) 0 (r.length+1) (v8a (r.length+1)) true true).toList.map (qbs x0 r):=rfl;rw[hsr]at h;generalize Sort.pdq (Go.Proofs.ltOf fun i j=>(c (qbs x0 r i) (qbs x0 r j)).getD 0) (v71 (r.length+1)) 0 (r.length+1) (v8a (r.length+1)) true true=d at h hp ⊢;have hds:d.size=r.length+1:=by have:=hp.1.1;simpa using this
   have hW:Go.Proofs.sortWorldK ec sz w b 0 m d os=Sort.grow (Sort.putRow id (Sort.ahead w m) b 0 (flat (d.toList.map (qbs v0 H))).toArray) os:=by
    unfold Go.Proofs.sortWorldK Sort.putRowK;rw[hflw]
   rw[hW];have hars:∀l:List Nat,ARs C.X inj st.sig w (v8t AV.p (v8t enc (l.map (qbs x0 r)))) (l.map (qbs v0 H)):=by
    intro l
    induction l with
    |nil=>rfl
    |cons i l ih=>exact⟨_,_,rfl,hat i,ih⟩
   obtain⟨hH,hE⟩:=HR.rows hs.hr (m:=m) (os:=os) hobj hi (by simp[hds]) (hars d.toList)
    (fun v hv=>by obtain⟨i,_,rfl⟩:=v81.1 hv;exact O _ (hmem i))
    (by intro u hu;obtain⟨v,hv,hu⟩:=v6l.1 hu;obtain⟨i,_,rfl⟩:=v81.1 hv;exact hone1 i u hu)
   exact h inj _ _ (hs.put (u:=some (L,_)) hd hH hE (v:=.p (.tup [])) ⟨[],rfl,rfl⟩)
theorem zSQ{k Z:FuncId}{M:AV}{e sz g n L:Nat}
  (S:SrtQ C.P k sz) (enc:α->PV) (c:α->α->Option Int) {l A:List α} (hl:qxt c l=some A) (U:∀x y r,c x y=some r->Con True C.P Z (enc x::enc y::E) (.int .i64 r))
  (h:AL C ops rest Q ⟨qfa st.env o.dst (.p (.tup [])),qo8 st.heap L (.arr e sz g (v8t AV.p (v8t enc A)))⟩)
  (h1:∀x,(enc x).isAgg=true:=by intro x;rfl)
  (ho:o.op=.call ⟨.value f,args,J⟩:=by rfl) (W:qbh ops st.env o=some true:=by first|exact qao rfl|exact qbr rfl rfl (by exact rfl) (by exact rfl)) (V:qb2 C.N o=true:=by rfl)
  (O:qb4 st.env f args.toList=some (k,[.own L g 0 n,M]):=by simp only[go_sem,seval, *];first|exact⟨⟨rfl,rfl,rfl⟩,rfl⟩|exact⟨rfl,rfl,rfl,rfl⟩|exact rfl) (I:(view (fun q=>q != L) 9 M).run st.sig=some (.func (.func Z) E):=by simp only[go_sem,seval, *];first|(all_goals exact zF)|exact rfl)
  (H:qav st.heap L=.arr e sz g (List.map AV.p (List.map enc l)):=by simp only[go_sem,seval, *];exact rfl) (hn:n=l.length:=by rfl):AL C ops (o::rest) Q st:=vvb S enc h1 c hl U ho W V O I H hn h
end Go.Ab
namespace Go.Ab
open Go
section
variable {C:Cx} {Q:Exit->St->Prop} {st:St} {inj:Inj} {a:Act} {w:World}
variable {es:List AV}
attribute [go_sem] v8w
@[go_sem,simp]theorem LeVs_rep(σ A:Nat->AO)(n:Nat)(x:PV):qkv σ A (v6u n (.p x)) (v6u n (.p x)):=by
 have:=qyn σ A (v6u n x);simpa only[v8w] using this
@[go_sem,simp]theorem vj4(σ A:Nat->AO)(n:Nat):qkv σ A (v6u n .nils) (v6u n (.p (.slc []))):=by
 induction n with
 |zero=>rfl
 |succ n ih =>
  rw[v86,v86,qta];exact⟨by simp[LeV,view],ih⟩
theorem SR.shrink(h:SR C st inj a w){t l g m e sz:Nat}(A:qav st.heap l=.arr e sz g es)(ht:st.env.get t=.own l g 0 m) :
  SR C ⟨qfa st.env (some t) (.own l (g+1) 0 m),qo8 st.heap l (.arr e sz (g+1) (es.take m))⟩ inj a w:=by
 have W:=h.hr.update (D:=C.D) (w':=w) (l:=l) (o:=.arr e sz g es) (o':=.arr e sz (g+1) (es.take m)) (x:=inj l) A rfl rfl rfl
  (fun _=>v7a _) (v7a _) (fun _ _=>rfl) (fun _ _ _=>rfl) (fun b c h1=>.inr ⟨rfl,_,h1⟩)
  ⟨v7b _,fun _ hg=>absurd hg (by simp[AO.gen])⟩
 obtain⟨hev,I⟩:=W;have J:(fun k=>if k=l then inj l else inj k)=inj:=by
  funext k
  grind
 rw[J]at hev I;obtain⟨vs,h1,M,h3,h4⟩:=h.hr.obj l _ A;have U:(St.mk (qfa st.env (some t) (.own l (g+1) 0 m)) (qo8 st.heap l (.arr e sz (g+1) (es.take m)))).sig=qmz st.sig l (.arr e sz (g+1) (es.take m)):=qs7 _ _ _;have H:=h.env t;rw[ht]at H;obtain⟨q1,q2⟩:=H;obtain⟨q3,q4⟩:=q2 _ A;obtain⟨Z,q6⟩:=q4 rfl e sz es rfl;rw[v7l]at Z;have hvl:vs.length=es.length:=h1.length.symm;have V:OR C.X inj (qmz st.sig l (.arr e sz (g+1) (es.take m))) w l (.arr e sz (g+1) (es.take m)):=by
  refine⟨vs.take m,ARs.ev hev h.hr.xlt _ _ (h1.take m),fun v hv=>M v (v6o hv),fun u hu=>?_,?_⟩
  ·rw[qm4 m M]at hu;exact h3 u (v6o hu)
  ·rcases h4 with⟨h4,h5⟩|⟨b,c,cur,i1,i2,i3,i4,i5,i6,i7⟩
   ·grind
   ·refine .inr ⟨b,c,cur,i1,i2,i3,by rw[v6g];omega,i5,i6,?_⟩;rw[qm4 m M,<-i7,List.take_take,v6g];congr 1;rw[v9b Z,v9b (v7h _ Z)]
 have O:=I V;refine⟨fun t'=>?_,h.size,h.defers,by rw[U];exact O,by rw[U];exact h.ev.trans hev⟩;rw[U];simp only[qfa,Env.get];by_cases E:t=t'
 ·rw[if_pos E,<-E];refine⟨q1,fun o ho=>?_⟩;have ho':o=.arr e sz (g+1) (es.take m):=by rw[<-ho];simp[qmz]
  subst ho';refine⟨v7a _,fun _ e' sz' es' heq=>?_⟩
  grind
 ·rw[if_neg E];exact AR.ev hev h.hr.xlt _ _ (h.env t')
theorem quk{c:Code}(t l g m e sz:Nat){es':List AV}{st':St}(A:qav st.heap l=.arr e sz g es)(I:st.env.get t=.own l g 0 m)(H:es.take m=es')
  (E:(⟨qfa st.env (some t) (.own l (g+1) 0 m),qo8 st.heap l (.arr e sz (g+1) es')⟩:St)=st') (h:AWp C c Q st'):AWp C c Q st:=by
 subst H;subst E;exact fun inj a w E=>h inj a w (E.shrink A I)
end
section
variable {a:List (Nat×AO)} {l f i:Nat} {β:Type}
theorem vvc{α:Type}{l:List α}{n:Nat}{x:α}(h:l[((n:Nat):Int).toNat]?=some x):l[n]?=some x:=h
theorem qwr:∃g:Nat->Nat->Nat,(∀f i k,k<1048576->k≠g f i)/\(∀f i j,g f i=g f j->i=j)/\∀f f' i j,f<1048576->f'<1048576->f≠f'->g f i≠g f' j :=
 ⟨fun f i=>1048576*(i+1)+f,fun f i k h=>by show k≠1048576*(i+1)+f;omega,fun f i j h=>by simp only at h;omega,fun f f' i j h h' hn=>by show 1048576*(i+1)+f≠1048576*(j+1)+f';omega⟩
def fx:Nat->Nat->Nat:=Classical.choose qwr
theorem vde{k:Nat}(h:k<1048576):k≠fx f i:=(Classical.choose_spec qwr).1 f i k h
theorem q7u{k:Nat}(h:k<1048576):(k=fx f i)=False:=eq_false (vde h)
theorem q7v{k:Nat}(h:k<1048576):(fx f i=k)=False:=eq_false fun e=>vde h e.symm
theorem q3k{j:Nat}:(fx f i=fx f j)=(i=j):=propext ⟨(Classical.choose_spec qwr).2.1 f i j,fun h=>by rw[h]⟩
theorem fx_ne{f' j:Nat}(h:f<1048576)(h':f'<1048576)(hn:f≠f'):(fx f i=fx f' j)=False:=eq_false ((Classical.choose_spec qwr).2.2 f f' i j h h' hn)
variable {α:Type}
def qk8(f e sz G:Nat)(enc:α->PV)(ll:List (List α)):List AV:=ll.mapIdx fun i x=>.own (fx f i) G 0 x.length
def qhd(f e sz G:Nat)(enc:α->PV)(ll:List (List α))(rest:List (Nat×AO)):List (Nat×AO) :=
 (ll.mapIdx fun i x=>(fx f i,AO.arr e sz G (v8t AV.p (v8t enc x))))++rest
theorem qpb(f e sz G:Nat)(enc:α->PV)(ll:List (List α))(i:Nat):(qk8 f e sz G enc ll)[i]?=(ll[i]?).map fun x=>AV.own (fx f i) G 0 x.length:=by
 simp[qk8,List.getElem?_mapIdx]
theorem qkw(f e sz G:Nat)(enc:α->PV)(ll:List (List α)):(qk8 f e sz G enc ll).length=ll.length:=by simp[qk8]
theorem vpb(f e sz G:Nat)(enc:α->PV):qk8 f e sz G enc []=[]:=rfl
theorem vpc(f e sz G:Nat)(enc:α->PV)(rest:List (Nat×AO)):qhd f e sz G enc [] rest=rest:=rfl
theorem vvd{b:List (Nat×AO)}(h:(a.any fun x=>x.1==l)=true):qav (a++b) l=qav a l:=by
 induction a with
 |nil=>simp at h
 |cons x a ih =>
  obtain⟨k,o⟩:=x;simp only[v8g,qav]
  grind
theorem vdf{b:List (Nat×AO)}(h:¬(a.any fun x=>x.1==l)=true):qav (a++b) l=qav b l:=by
 induction a with
 |nil=>rfl
 |cons x a ih =>
  obtain⟨k,o⟩:=x;rw[v8e,v79,not_or]at h;have A:¬k=l:=by simpa using h.1
  simp only[v8g,qav]
  grind
theorem vpd{o:AO}(A:(l,o)∈a)(E:∀o',(l,o')∈a->o'=o):qav a l=o:=by
 induction a with
 |nil=>cases A
 |cons x a ih =>
  obtain⟨k,U⟩:=x;simp only[qav]
  grind
theorem vpe{e sz G:Nat}{enc:α->PV}{ll:List (List α)}{rest:List (Nat×AO)}(h:l<1048576):qav (qhd f e sz G enc ll rest) l=qav rest l:=by
 unfold qhd;rw[vdf];simp only[v8f,not_exists,not_and,v82];rintro x ⟨i,hi,rfl⟩;simp only[beq_iff_eq,q7v h];exact fun h=>h
theorem q4w(f e sz G:Nat)(enc:α->PV)(ll:List (List α))(rest:List (Nat×AO))(i:Nat) :
  qav (qhd f e sz G enc ll rest) (fx f i)=(ll[i]?).elim (qav rest (fx f i)) fun x=>.arr e sz G (v8t AV.p (v8t enc x)):=by
 unfold qhd;by_cases hi:i<ll.length
 ·have A:ll[i]?=some ll[i]:=v52 hi;rw[vvd,A]
  ·refine vpd (v82.2 ⟨i,hi,rfl⟩) fun o' ho=>?_
   obtain⟨j,E,e⟩:=v82.1 ho;simp only[v7t]at e;have:j=i:=by have:=e.1;rw[q3k]at this;exact this
   grind
  ·simp only[v8f];exact⟨_,v82.2 ⟨i,hi,rfl⟩,by simp⟩
 ·have A:ll[i]?=none:=v54 (by omega);rw[vdf,A]
  ·rfl
  ·simp only[v8f,not_exists,not_and,v82];rintro x ⟨j,E,rfl⟩;simp only[beq_iff_eq,q3k];omega
theorem vga(l:List β):l[l.length]?=none:=v54 (v7a _)
def qft(h:List (Nat×AO))(f e sz G:Nat)(enc:α->PV)(ll:List (List α)):Prop:=∀i x,ll[i]?=some x->qav h (fx f i)=.arr e sz G (v8t AV.p (v8t enc x))
def qnr(h:List (Nat×AO))(f i e sz G:Nat)(enc:α->PV)(ll:List (List α)):Prop:=∀j x,j≠i->ll[j]?=some x->qav h (fx f j)=.arr e sz G (v8t AV.p (v8t enc x))
def qlq(h:List (Nat×AO))(f:Nat):Prop:=∀i,(qav h (fx f i)).alive=false
def qrh(h:List (Nat×AO))(f G:Nat):Prop:=∀i,(qav h (fx f i)).alive=true->(qav h (fx f i)).gen<G
def qri(h:List (Nat×AO))(f n:Nat):Prop:=∀i,i<n->(h.any fun x=>x.1==fx f i)=true
def q7w(m:Nat)(y:List β):Prop:=m=y.length
def vve(h:List (Nat×AO))(l:Nat):Prop:=(qav h l).alive=false
def va3(es:List AV)(enc:α->PV)(y:List α):Prop:=es=v8t AV.p (v8t enc y)
def vvf(o:AO)(e sz:Nat)(enc:α->PV)(y:List α):Prop:=match o with
 |.arr e' sz' _ es=>e'=e/\sz'=sz/\va3 es enc y
 |_=>False
section
variable {h h' H0 rest:List (Nat×AO)} {f f' i k e sz G G' e' sz':Nat} {o:AO} {enc enc':α->PV} {ll ll':List (List α)}
variable {a:List (Nat×AO)} {σ A:Nat->AO} {n g l g' m:Nat} {keep:Bool} {es:List AV}
theorem vj5:vve [] l=True:=by simp[vve,qav,AO.alive]
theorem vj6{y:List α}:vvf (.arr e' sz' g es) e sz enc y=(e'=e/\sz'=sz/\va3 es enc y):=propext Iff.rfl
theorem vpf{β:Type}{y:List β}(h:y.length=m):q7w m y=True:=by simp[q7w,h]
theorem va4{x:List α}{v:PV}{y:α}(A:v=enc y):va3 (v8t AV.p (v8t enc x++[v])) enc (x++[y])=True:=by simp[va3,A]
theorem qrj(A:k<1048576):qav ((k,o)::h) (fx f i)=qav h (fx f i):=by simp only[qav,q7u A,if_false]
theorem q3l(A:k<1048576):qft ((k,o)::h) f e sz G enc ll=qft h f e sz G enc ll:=by simp only[qft,qrj A]
theorem q0y:qft (qhd f e sz G enc ll rest) f e sz G enc ll=True:=by
 simp only[qft,q4w,eq_iff_iff,iff_true];intro i x A;rw[A];rfl
theorem va5(A:k<1048576):qnr ((k,o)::h) f i e sz G enc ll=qnr h f i e sz G enc ll:=by simp only[qnr,qrj A]
theorem q7x:qnr ((fx f i,o)::h) f i e sz G enc ll=qnr h f i e sz G enc ll:=by
 simp only[qnr,eq_iff_iff];constructor<;>intro H j x A E
 ·have:=H j x A E;simp only[qav,q3k]at this
  rwa [if_neg (fun e=>A e.symm)]at this
 ·simp only[qav,q3k]
  grind
theorem q7y:qnr (qhd f e sz G enc ll rest) f i e sz G enc ll=True:=by
 simp only[qnr,q4w,eq_iff_iff,iff_true];intro j x _ A;rw[A];rfl
theorem va6(A:k<1048576):qlq ((k,o)::h) f=qlq h f:=by simp only[qlq,qrj A]
theorem va7:qlq [] f=True:=by simp[qlq,qav,AO.alive]
theorem q7z:qlq (qhd f e sz G enc [] rest) f=qlq rest f:=rfl
theorem va8(A:k<1048576):qrh ((k,o)::h) f G=qrh h f G:=by simp only[qrh,qrj A]
theorem va9:qrh [] f G=True:=by simp[qrh,qav,AO.alive]
theorem q70(A:G'<G):qrh (qhd f e sz G' enc ll rest) f G=((∀i,ll.length<=i->(qav rest (fx f i)).alive=true->(qav rest (fx f i)).gen<G)):=by
 simp only[qrh,q4w,eq_iff_iff];constructor
 ·grind
 ·intro H i;cases E:ll[i]? with
  |none=>exact H i (List.getElem?_eq_none_iff.1 E)
  |some x=>intro _;exact A
theorem vba(A:k<1048576):qri ((k,o)::h) f n=qri h f n:=by
 simp only[qri,eq_iff_iff];have e:∀i,(((k,o)::h).any fun x=>x.1==fx f i)=h.any fun x=>x.1==fx f i:=fun i=>by
  rw[v8e];have:((k,o).1==fx f i)=false:=by simp only[beq_eq_false_iff_ne];exact vde A
  grind
 simp only[e]
theorem qtf:qri (qhd f e sz G enc ll rest) f ll.length=True:=by
 simp only[qri,eq_iff_iff,iff_true,qhd];intro i hi;rw[List.any_append,v79];left;rw[v8f];exact⟨_,v82.2 ⟨i,hi,rfl⟩,by simp⟩
theorem vgb{b:List (Nat×AO)}:qsf h (a++b)↔qsf h a/\qsf h b:=by
 induction a with
 |nil=>simp[qsf]
 |cons x a ih =>
  obtain⟨l,o⟩:=x;simp only[v8g,qsf,ih,and_assoc]
theorem q4x(H:∀l o,(l,o)∈a->(h.any fun x=>x.1==l)=true/\o.alive=true):qsf h a:=by
 induction a with
 |nil=>trivial
 |cons x a ih =>
  obtain⟨l,o⟩:=x;obtain⟨h1,A⟩:=H l o v8z;exact⟨h1,A,ih fun l o E=>H l o (v8y _ E)⟩
theorem vbb(A:qri h f ll.length):qsf h (qhd f e sz G enc ll rest)=qsf h rest:=by
 unfold qhd;rw[eq_iff_iff,vgb];refine⟨fun h=>h.2,fun hr=>⟨q4x fun l o E=>?_,hr⟩⟩;obtain⟨i,hi,e⟩:=v82.1 E;simp only[v7t]at e;obtain⟨rfl,rfl⟩:=e;exact⟨A i hi,rfl⟩
theorem vgc{b:List (Nat×AO)}:qkf σ A H0 (a++b)↔qkf σ A H0 a/\qkf σ A H0 b:=by
 induction a with
 |nil=>simp[qkf]
 |cons x a ih =>
  obtain⟨l,o⟩:=x;simp only[v8g,qkf,ih,and_assoc]
theorem q4y(H:∀l o,(l,o)∈a->vi6 σ A (qav H0 l).alive (qav H0 l).gen l):qkf σ A H0 a:=by
 induction a with
 |nil=>trivial
 |cons x a ih =>
  obtain⟨l,o⟩:=x;exact⟨H l o v8z,ih fun l o E=>H l o (v8y _ E)⟩
theorem qog(H:∀i x,ll[i]?=some x->vi6 σ A (qav H0 (fx f i)).alive (qav H0 (fx f i)).gen (fx f i)):qkf σ A H0 (qhd f e sz G enc ll rest)=qkf σ A H0 rest:=by
 unfold qhd;rw[eq_iff_iff,vgc];refine⟨fun h=>h.2,fun hr=>⟨q4y fun l o I=>?_,hr⟩⟩;obtain⟨i,hi,E⟩:=v82.1 I;simp only[v7t]at E;obtain⟨rfl,rfl⟩:=E;exact H i _ (v52 hi)
theorem q0z{E:Nat->AO}{H:Nat}{A:List PV}(h1:σ l=.arr e sz g (A.map .p))(I:E l=.arr e sz g' (A.map .p))(M:1<=g')(J:keep=true->g'=g\/H<g'):vi6 σ E keep H l:=by
 unfold vi6 vi5;rw[h1,I];exact⟨M,rfl,rfl,qyn _ _ _,J⟩
theorem vj7{E:Nat}(h1:σ l=.dead g)(H:A l=.arr e sz g' [])(J:1<=g')(I:keep=false):vi6 σ A keep E l:=by
 unfold vi6 vi5
 grind
theorem q4z(h1:qft h f e sz G enc ll)(E:qft h' f e sz G enc ll)(H:1<=G):qkf (qav h) (qav h') H0 (qhd f e sz G enc ll rest)=qkf (qav h) (qav h') H0 rest :=
 qog fun i x A=>q0z (h1 i x A) (E i x A) H fun _=>.inl rfl
theorem q2s{y:List α}(h1:qnr h f i e sz G enc ll)(V:qft h' f e sz G enc (ll.set i y))(H:vvf (qav h (fx f i)) e sz enc y)(O:1<=G)(A:(qav h (fx f i)).gen=G\/qrh H0 f G) :
  qkf (qav h) (qav h') H0 (qhd f e sz G enc (ll.set i y) rest)=qkf (qav h) (qav h') H0 rest:=by
 refine qog fun j x I=>?_
 have U:=V j x I;by_cases M:j=i
 ·subst M;unfold vvf at H;split at H
  ·rename_i e' sz' g es ho;obtain⟨rfl,rfl,E⟩:=H;unfold va3 at E;subst E;have J:x=y:=by
    grind
   subst J;exact q0z ho U O fun ha=>by
    rcases A with A|A
    ·rw[ho]at A;exact .inl A.symm
    ·exact .inr (A j ha)
  ·exact H.elim
 ·rw[v8p (fun e=>M e.symm)]at I;exact q0z (h1 j x M I) U O fun _=>.inl rfl
theorem vj8{o:AO}(h:o.alive=false):∃g,o=.dead g:=by
 cases o with
 |dead g=>exact⟨g,rfl⟩
 |arr _ _ _ _=>cases h
 |map _ _ _=>cases h
theorem q00(h1:qft h f e sz G enc ll)(U:qft h' f e sz G enc (ll++[[]]))(V:(qav h (fx f ll.length)).alive=false)(H:vve H0 (fx f ll.length))(M:1<=G) :
  qkf (qav h) (qav h') H0 (qhd f e sz G enc (ll++[[]]) rest)=qkf (qav h) (qav h') H0 rest:=by
 refine qog fun j x A=>?_
 have O:=U j x A;by_cases W:j<ll.length
 ·rw[v8j W]at A;exact q0z (h1 j x A) O M fun _=>.inl rfl
 ·have I:=(v56.1 A).1;simp only[v6b,v8s]at I;have:j=ll.length:=by omega
  subst this;have J:x=[]:=by
   grind
  subst J;obtain⟨g,E⟩:=vj8 V;exact vj7 E O M H
theorem q01(M:qlq h f)(I:qft h' f e sz G enc (v6u n []))(E:qlq H0 f)(J:1<=G) :
  qkf (qav h) (qav h') H0 (qhd f e sz G enc (v6u n []) rest)=qkf (qav h) (qav h') H0 rest:=by
 refine qog fun j x O=>?_
 have U:=I j x O;have H:x=[]:=by
  grind
 subst H;obtain⟨g,A⟩:=vj8 (M j);exact vj7 A U J (E j)
theorem qjb{σ E:Nat->AO}:∀{cs A:List AV},cs.length=A.length->(∀(j:Nat) c c',cs[j]?=some c->A[j]?=some c'->LeV σ E c c')->qkv σ E cs A
 |[],[],_,_=>rfl
 |[],_::_,h,_=>by simp at h
 |_::_,[],h,_=>by simp at h
 |c::cs,c'::A,h,H=>⟨H 0 c c' rfl rfl,qjb (by simpa using h) fun j d d' h1 I=>H (j+1) d d' (by simpa using h1) (by simpa using I)⟩
theorem qtg{off:Nat}{es':List AV}{e sz e' sz':Nat}(h1:σ l=.arr e sz g es)(E:A l=.arr e' sz' g' es'):LeV σ A (.own l g off n) (.own l g' off n):=by
 refine .inl ⟨by rw[h1];rfl,by rw[E];rfl,by rw[E];rfl,by rw[h1];rfl⟩
theorem vbc(h1:qft h f e sz G enc ll)(I:qft h' f e sz G' enc ll):qkv (qav h) (qav h') (qk8 f e sz G enc ll) (qk8 f e sz G' enc ll)=True:=by
 rw[eq_iff_iff,iff_true];refine qjb (by rw[qkw,qkw]) fun j c J E A=>?_
 rw[qpb]at E A;cases H:ll[j]? with
 |none=>rw[H]at E;cases E
 |some x =>
  rw[H]at E A;cases E;cases A;exact qtg (h1 j x H) (I j x H)
theorem q71{y:List α}(h1:qnr h f i e sz G enc ll)(U:qft h' f e sz G enc (ll.set i y))(V:(qav h (fx f i)).gen=g)(ha:(qav h (fx f i)).alive=true)(O:q7w m y) :
  qkv (qav h) (qav h') ((qk8 f e sz G enc ll).set i (.own (fx f i) g 0 m)) (qk8 f e sz G enc (ll.set i y))=True:=by
 rw[eq_iff_iff,iff_true];unfold q7w at O;subst O;refine qjb (by rw[v6f,qkw,qkw,v6f]) fun j c W H A=>?_
 rw[qpb]at A;cases E:(ll.set i y)[j]? with
 |none=>rw[E]at A;cases A
 |some x =>
  rw[E]at A;cases A;have M:=U j x E;have I:j<ll.length:=by have:=(v56.1 E).1;simpa using this
  by_cases J:j=i
  ·subst J;rw[v8q (by rw[qkw];exact I)]at H;cases H;rw[v8q I]at E;cases E;exact .inl ⟨by rw[V],by rw[M];rfl,by rw[M];rfl,ha⟩
  ·rw[v8p (fun e=>J e.symm),qpb]at H;rw[v8p (fun e=>J e.symm)]at E;rw[E]at H;cases H;exact qtg (h1 j x J E) M
theorem q40(h1:qft h f e sz G enc ll)(U:qft h' f e sz G enc (ll++[[]]))(V:(qav h (fx f ll.length)).alive=false) :
  qkv (qav h) (qav h') (qk8 f e sz G enc ll++[.nils]) (qk8 f e sz G enc (ll++[[]]))=True:=by
 rw[eq_iff_iff,iff_true];refine qjb (by simp[qkw]) fun j c W H A=>?_
 rw[qpb]at A;cases E:(ll++[[]])[j]? with
 |none=>rw[E]at A;cases A
 | some x =>
  rw[E]at A;cases A;have M:=U j x E;by_cases O:j<ll.length
  ·rw[v8j (by rw[qkw];exact O),qpb]at H;rw[v8j O]at E;rw[E]at H;cases H;exact qtg (h1 j x E) M
  ·have I:=(v56.1 E).1;simp only[v6b,v8s]at I;have:j=ll.length:=by omega
   subst this;rw[v8k (by rw[qkw];exact v7a _),qkw,Nat.sub_self]at H;cases H;have J:x=[]:=by
    grind
   subst J;exact .inr ⟨rfl,rfl,rfl,V,by rw[M];rfl⟩
theorem q41(M:qlq h f)(J:qft h' f e sz G enc (v6u n [])):qkv (qav h) (qav h') (v6u n .nils) (qk8 f e sz G enc (v6u n []))=True:=by
 rw[eq_iff_iff,iff_true];refine qjb (by simp[qkw]) fun j c V U A=>?_
 rw[qpb]at A;cases E:(v6u n ([]:List α))[j]? with
 |none=>rw[E]at A;cases A
 | some x =>
  rw[E]at A;cases A;have O:=J j x E;have I:x=[]:=by
   grind
  subst I;have H:c=.nils:=by
   grind
  subst H;exact .inr ⟨rfl,rfl,rfl,M j,by rw[O];rfl⟩
end
end
section
mutual
def vsn(π:Nat->Nat):AV->AV
 |.any=>.any
 |.p x=>.p x
 |.nils=>.nils
 |.loc l g i off=>.loc (π l) g i off
 |.own l g off n=>.own (π l) g off n
 |.mapo l g=>.mapo (π l) g
 |.func fn cs=>.func fn (qth π cs)
 |.agg cs=>.agg (qth π cs)
 |.tup cs=>.tup (qth π cs)
def qth(π:Nat->Nat):List AV->List AV
 |[]=>[]
 |c::r=>vsn π c::qth π r
end
def qy3(π:Nat->Nat):AO->AO
 |.dead g=>.dead g
 |.arr e sz g es=>.arr e sz g (qth π es)
 |.map g ks vs=>.map g (qth π ks) (qth π vs)
theorem q02(π:Nat->Nat):∀l:List AV,qth π l=l.map (vsn π)
 |[]=>rfl
 |c::r=>by simp only[qth,v6i,q02 π r]
theorem vj9(π:Nat->Nat)(A:List PV):qth π (v8t AV.p A)=v8t AV.p A:=by
 rw[q02,List.map_map];rfl
theorem q03(π:Nat->Nat)(l:List AV):(qth π l).length=l.length:=by rw[q02,v6d]
theorem qrk(π:Nat->Nat)(o:AO):(qy3 π o).gen=o.gen:=by cases o<;>rfl
theorem qn7(π:Nat->Nat)(o:AO):(qy3 π o).alive=o.alive:=by cases o<;>rfl
section
variable {X:Nat->Prop} {inj:Inj} {σ:Nat->AO} {w:World} {π:Nat->Nat}
variable {o:AO}
abbrev vvg(π:Nat->Nat)(σ:Nat->AO):Nat->AO:=fun l=>qy3 π (σ (π l))
abbrev vh4(π:Nat->Nat)(inj:Inj):Inj:=fun l=>inj (π l)
theorem renF(A:∀l,π (π l)=l)(D:Nat->Bool)(I:∀l,D l=false)(b:Nat):F (vh4 π inj) (vvg π σ) b↔F inj σ b:=by
 constructor
 ·rintro⟨l,c,o,h1,E,_,H⟩;refine⟨π l,c,σ (π l),rfl,?_,rfl,H⟩;rw[<-h1,qn7]at E;exact E
 ·rintro⟨l,c,o,h1,E,_,H⟩;refine⟨π l,c,qy3 π o,?_,by rw[qn7];exact E,rfl,?_⟩
  ·show qy3 π (σ (π (π l)))=qy3 π o;rw[A,h1]
  ·show inj (π (π l))=some (b,c);rw[A];exact H
theorem vdg{e sz g:Nat}{es:List AV}(h:qy3 π o=.arr e sz g es):∃A,o=.arr e sz g A/\es=qth π A:=by
 cases o with
 |dead _=>cases h
 |arr e' sz' g' A =>
  simp only[qy3,AO.arr.injEq]at h;obtain⟨rfl,rfl,rfl,rfl⟩:=h;exact⟨A,rfl,rfl⟩
 |map _ _ _=>cases h
theorem vpg{g:Nat}{ks vs:List AV}(h:qy3 π o=.map g ks vs):∃A E,o=.map g A E:=by
 cases o with
 |dead _=>cases h
 |arr _ _ _ _=>cases h
 |map g' A E =>
  simp only[qy3,AO.map.injEq]at h;obtain⟨rfl,rfl,rfl⟩:=h;exact⟨A,E,rfl⟩
mutual
theorem AR.ren(A:∀l,π (π l)=l):∀(v:AV) (val:Value),AR X inj σ w v val->AR X (vh4 π inj) (vvg π σ) w (vsn π v) val
 |.any,_,_=>trivial
 | .p x,val,h=>by
  have e:(fun b=>X b\/F inj σ b)=fun b=>X b\/F (vh4 π inj) (vvg π σ) b:=by
   funext b
   rw[renF (inj:=inj) (σ:=σ) A (fun _=>false) (fun _=>rfl) b]
  simp only[vsn,AR]at *
  rw[<-e];exact h
 |.nils,_,h=>h
 |.loc l g i off,val,h=>by
  obtain⟨h1,E⟩:=h
  refine⟨h1,fun o ho=>?_⟩
  have ho:qy3 π (σ l)=o:=by rw[<-ho];show _=qy3 π (σ (π (π l)));rw[A]
  obtain⟨J,O⟩:=E _ rfl
  rw[<-ho,qrk]
  refine⟨J,fun M e sz es U=>?_⟩
  obtain⟨I,H,_⟩:=vdg U
  obtain⟨b,c,V,Z⟩:=O M e sz I H
  exact⟨b,c,by show inj (π (π l))=_;rw[A];exact V,Z⟩
 |.own l g off n,val,h=>by
  obtain⟨h1,E⟩:=h
  refine⟨h1,fun o ho=>?_⟩
  have ho:qy3 π (σ l)=o:=by rw[<-ho];show _=qy3 π (σ (π (π l)));rw[A]
  obtain⟨J,O⟩:=E _ rfl
  rw[<-ho,qrk]
  refine⟨J,fun M e sz es U=>?_⟩
  obtain⟨I,H,W⟩:=vdg U
  have hi:vh4 π inj (π l)=inj l:=by show inj (π (π l))=_;rw[A]
  rw[W,q03,hi]
  exact O M e sz I H
 |.mapo l g,val,h=>by
  obtain⟨h1,E⟩:=h
  refine⟨h1,fun o ho=>?_⟩
  have ho:qy3 π (σ l)=o:=by rw[<-ho];show _=qy3 π (σ (π (π l)));rw[A]
  obtain⟨J,O⟩:=E _ rfl
  rw[<-ho,qrk]
  refine⟨J,fun M ks vs U=>?_⟩
  obtain⟨ks0,vs0,H⟩:=vpg U
  obtain⟨b,c,V,Z⟩:=O M ks0 vs0 H
  exact⟨b,c,by show inj (π (π l))=_;rw[A];exact V,Z⟩
 |.func fn cs,val,h=>by
  obtain⟨vs,h1,E⟩:=h
  exact⟨vs,h1,ARs.ren A cs vs E⟩
 |.agg cs,val,h=>by
  obtain⟨vs,h1,E,J⟩:=h
  exact⟨vs,h1,ARs.ren A cs vs E,J⟩
 |.tup cs,val,h=>by
  obtain⟨vs,h1,E⟩:=h
  exact⟨vs,h1,ARs.ren A cs vs E⟩
theorem ARs.ren(A:∀l,π (π l)=l):∀(vs:List AV) (vals:List Value),ARs X inj σ w vs vals->ARs X (vh4 π inj) (vvg π σ) w (qth π vs) vals
 |[],_,h=>h
 |c::r,_,h=>by
  obtain⟨v,rs,h1,E,H⟩:=h
  exact⟨v,rs,h1,AR.ren A c v E,ARs.ren A r rs H⟩
end
theorem HR.ren(E:∀l,π (π l)=l)(h:HR X inj σ w):HR X (vh4 π inj) (vvg π σ) w:=by
 refine⟨fun l o ho=>?_,fun l A o o' b c c' h1 h2 I W h3 h4=>?_,h.xlt⟩
 ·have h1:=h.obj (π l) _ rfl;subst ho;show OR X (vh4 π inj) (vvg π σ) w l (qy3 π (σ (π l)));cases Z:σ (π l) with
  |dead g=>trivial
  |arr e sz g es =>
   rw[Z]at h1;obtain⟨vs,M,U,V,H⟩:=h1;refine⟨vs,ARs.ren E es vs M,U,V,?_⟩;rw[q03];rcases H with⟨H,O⟩|H
   ·exact .inl ⟨H,by rw[O];rfl⟩
   ·exact .inr H
  |map g ks vs =>
   rw[Z]at h1;obtain⟨b,c,ms,J,M,U,V,H,O⟩:=h1;exact⟨b,c,ms,J,M,U,V,ARs.ren E ks _ H,ARs.ren E vs _ O⟩
 ·have:=h.inj1 (π l) (π A) _ _ b c c' rfl rfl (by rw[<-h1,qn7]at I;exact I) (by rw[<-h2,qn7]at W;exact W) h3 h4;have:=congrArg π this
  rwa [E,E]at this
end
def vgd(π:Nat->Nat)(h:List (Nat×AO)):List (Nat×AO):=h.map fun x=>(π x.1,qy3 π x.2)
def vh5(π:Nat->Nat)(env:Env):Env:=env.map fun x=>(x.1,vsn π x.2)
theorem q72{π:Nat->Nat}(A:∀l,π (π l)=l)(h:List (Nat×AO))(l:Nat):qav (vgd π h) l=qy3 π (qav h (π l)):=by
 induction h with
 |nil=>rfl
 | cons x h ih =>
  obtain⟨k,o⟩:=x;simp only[vgd,v6i,qav];by_cases E:π k=l
  ·have:k=π l:=by rw[<-E,A]
   rw[if_pos E,if_pos this]
  ·have:¬k=π l:=fun e=>E (by rw[e,A])
   rw[if_neg E,if_neg this];exact ih
theorem vph(π:Nat->Nat)(env:Env)(t:Nat):(vh5 π env).get t=vsn π (env.get t):=by
 induction env with
 |nil=>rfl
 |cons x env ih =>
  obtain⟨k,v⟩:=x;simp only[vh5,v6i,Env.get];split
  ·rfl
  ·exact ih
def qy4(A o:AO):Prop:=A.gen<=o.gen/\(o.alive=true->A.gen<o.gen)
variable {C:Cx} {Q:Exit->St->Prop} {st:St} {inj:Inj} {a:Act} {w:World}
theorem SR.ren{π:Nat->Nat}(H:∀l,π (π l)=l)(A:SR C st inj a w)(hm:∀l,π l≠l->qy4 (qav C.H0 l) (qav st.heap (π l))) :
  SR C ⟨vh5 π st.env,vgd π st.heap⟩ (vh4 π inj) a w:=by
 have E:(qav (vgd π st.heap))=vvg π (qav st.heap):=by funext l;exact q72 H _ l
 refine⟨fun t=>?_,A.size,A.defers,?_,?_⟩
 ·show AR C.X (vh4 π inj) (qav (vgd π st.heap)) w ((vh5 π st.env).get t) _;rw[E,vph];exact AR.ren H _ _ (A.env t)
 ·show HR C.X (vh4 π inj) (qav (vgd π st.heap)) w;rw[E];exact HR.ren H A.hr
 ·show Ev C.D C.X C.inj0 (qav C.H0) C.w0 (vh4 π inj) (qav (vgd π st.heap)) w;rw[E];refine⟨A.ev.os,A.ev.tape,A.ev.output,A.ev.dr,A.ev.size,A.ev.fz,A.ev.blk,fun b hb=>A.ev.fp b ((renF H (fun _=>false) (fun _=>rfl) b).1 hb),fun l=>?_⟩;by_cases hl:π l=l
  ·have h0:=A.ev.objs l;show OEv (qav C.H0 l) (qy3 π (qav st.heap (π l))) (inj (π l)=C.inj0 l);rw[hl];refine⟨by rw[qrk];exact h0.1,fun ha J=>?_⟩;rw[qn7]at ha;rw[qrk]at J;obtain⟨h1,M⟩:=h0.2 ha J;refine⟨h1,?_⟩;rcases M with⟨e,sz,es,es',O,I,q3⟩|⟨ks,vs,V,W,O,I⟩
   ·exact .inl ⟨e,sz,es,qth π es',O,by rw[show st.sig l=qav st.heap l from rfl]at I;rw[I];rfl,by rw[q03];exact q3⟩
   ·exact .inr ⟨ks,vs,qth π V,qth π W,O,by rw[show st.sig l=qav st.heap l from rfl]at I;rw[I];rfl⟩
  ·obtain⟨h1,M⟩:=hm l hl;refine⟨by show _<=(qy3 π (qav st.heap (π l))).gen;rw[qrk];exact h1,fun ha J=>?_⟩;have U:(qav st.heap (π l)).alive=true:=by
    have:(qy3 π (qav st.heap (π l))).alive=true:=ha
    rwa [qn7]at this
   have Z:(qav C.H0 l).gen=(qav st.heap (π l)).gen:=by
    have:(qav C.H0 l).gen=(qy3 π (qav st.heap (π l))).gen:=J
    rwa [qrk]at this
   have:=M U;omega
def swp(a b l:Nat):Nat:=if l=a then b else if l=b then a else l
theorem vka(a b l:Nat):swp a b (swp a b l)=l:=by
 unfold swp;by_cases h1:l=a
 ·subst h1;by_cases A:b=l
  ·subst A;simp
  ·simp[A]
 ·by_cases A:l=b
  ·subst A;simp[h1]
  ·simp[h1,A]
theorem SR.swp{x y:Nat}(J:SR C st inj a w)(h1:qy4 (qav C.H0 x) (qav st.heap y))(I:qy4 (qav C.H0 y) (qav st.heap x)):SR C ⟨vh5 (swp x y) st.env,vgd (swp x y) st.heap⟩ (vh4 (swp x y) inj) a w:=by
 refine J.ren (vka x y) fun l hl=>?_
 unfold Ab.swp at hl ⊢;by_cases A:l=x
 ·subst A;simpa using h1
 ·by_cases H:l=y
  ·subst H;by_cases E:l=x
   ·exact absurd E A
   ·simpa[E] using I
  ·simp[A,H]at hl
theorem v1d{ops:Array Oper}{l:List Oper}(x y:Nat)(h1:qy4 (qav C.H0 x) (qav st.heap y))(A:qy4 (qav C.H0 y) (qav st.heap x))(h:AL C ops l Q ⟨vh5 (swp x y) st.env,vgd (swp x y) st.heap⟩):AL C ops l Q st :=
 fun inj a w E=>h _ a w (E.swp h1 A)
theorem vvh{c:Code}(x y:Nat)(h1:qy4 (qav C.H0 x) (qav st.heap y))(A:qy4 (qav C.H0 y) (qav st.heap x))(h:AWp C c Q ⟨vh5 (swp x y) st.env,vgd (swp x y) st.heap⟩):AWp C c Q st :=
 fun inj a w E=>h _ a w (E.swp h1 A)
section
variable {α:Type} {h:List (Nat×AO)} {f i d e sz G:Nat} {enc:α->PV} {ll:List (List α)}
theorem vpi(x y:Nat)(h:List (Nat×AO))(l:Nat):qav (vgd (swp x y) h) l=qy3 (swp x y) (qav h (swp x y l)):=q72 (vka x y) h l
end
end
section
section
variable {α:Type} {h:List (Nat×AO)} {f e sz G:Nat} {enc:α->PV} {ll:List (List α)}
theorem vkb(c:Prop)[Decidable c](a b:AO):(if c then a else b).alive=if c then a.alive else b.alive:=by split<;>rfl
end
variable {β:Type}
theorem vkc(π:Nat->Nat)(t:Nat)(v:AV)(r:Env):vh5 π ((t,v)::r)=(t,vsn π v)::vh5 π r:=rfl
theorem vpj(π:Nat->Nat):vh5 π []=[]:=rfl
theorem vbd{l:List β}{n:Nat}(h:l.length=n):l.take n=l:=v6y (by omega)
theorem vdh(l:List PV)(f:β->PV)(x:List β):(PV.slc l=qal f x)=(l=v8t f x):=by simp[qal]
attribute [simp] vdh
attribute [go_sem] vbd vdh q7u q7v q3k qpb qkw vpb vpc vpe q4w vga Option.elim_some Option.elim_none q3l q0y va5 q7x q7y va6 va7 q7z va8 va9 q70 vba qtf vj5 vj6 vpf va4 vbb q4z q2s q00 q01 vbc q71 q40 q41 vkb vpi vsn qth qy3 vj9 vkc vpj qy4
variable {C:Cx} {Q:Exit->St->Prop} {st:St}
end
section
section
variable {α:Type} {h h' H0 rest:List (Nat×AO)} {f e sz G:Nat} {enc:α->PV} {ll:List (List α)}
theorem q42(h1:qft h f e sz G enc ll)(I:qlq h' f):qkv (qav h) (qav h') (qk8 f e sz G enc ll) (v8t AV.p (v8t (qal enc) ll))=True:=by
 rw[eq_iff_iff,iff_true];refine qjb (by simp[qkw]) fun j c M E A=>?_
 rw[qpb]at E;cases H:ll[j]? with
 |none=>rw[H]at E;cases E
 |some x =>
  rw[H]at E;cases E;rw[v8n,v8n,H]at A;cases A;show(view (fun l=>!(qav h' l).alive) 9 (.own (fx f j) G 0 x.length)).run (qav h)=some (qal enc x);have J:(!(qav h' (fx f j)).alive)=true:=by rw[I j];rfl
  simp only[view,J,if_true,L.run_look,h1 j x H];rw[if_pos ⟨trivial,by simp⟩];rw[L.run_bind',List.drop_zero,v6y (by simp),qlm];rfl
end
attribute [go_sem] q42
end
section
section
variable {C:Cx} {Q:Exit->St->Prop} {st:St}
variable {α:Type}
theorem zCn(f:α->PV)(l:List α)(K off len:Nat)(I:off+len<=l.length){ops:Array Oper}{o:Oper}{rest:List Oper}{g e sz:Nat}{t:TypeId}{x:Operand}{st':St}
  (h:AL C ops rest Q st') (ho:o.op=.call ⟨.builtin .clear,#[x],#[t]⟩:=by rfl) (W:qbh ops st.env o=some true:=by first|exact qao rfl|exact qbr rfl rfl (by exact rfl) (by exact rfl)) (Z:qb2 C.N o=true:=by rfl)
  (U:C.P.underlying t=some (.slice e):=by simp only[go_sem,seval];all_goals exact rfl) (hx:ev st.env x=.own K g off len:=by simp only[go_sem,seval, *];all_goals exact zF)
  (V:qav st.heap K=.arr e sz g ((l.map f).map .p):=by simp only[go_sem,seval, *];all_goals exact zF) (M:sz=C.P.cellsOf e:=by simp only[go_sem,seval];all_goals rfl) (hz:qbm C.P e=some .nils:=by simp only[go_sem,seval];all_goals rfl)
  (J:qhb sz .nils=true:=by rfl)
  (O:(⟨qfa st.env o.dst (.p (.tup [])),qut st.heap (some (K,.arr e sz g (List.map AV.p (List.map f (l.take off))++List.replicate len .nils++List.map AV.p (List.map f (l.drop (off+len))))))⟩:St)=st':=by exact rfl):AL C ops (o::rest) Q st:=by
 obtain⟨dst,op,H,pos,E,A⟩:=o;simp only at ho;subst ho;subst M;have hr:(aop C.P C.B (ev st.env) ⟨dst,.call ⟨.builtin .clear,#[x],#[t]⟩,H,pos,E,A⟩).run (qav st.heap)=some (.p (.tup []),some (K,.arr e (C.P.cellsOf e) g (v8t AV.p (v8t f (l.take off))++v6u len .nils++v8t AV.p (v8t f (l.drop (off+len)))))):=by
  show(qu7 C.P t (ev st.env x)).run (qav st.heap)=_;unfold qu7;rw[U,hx];simp only[L.run,V];rw[if_pos ⟨trivial,trivial,trivial,by simpa using I⟩,hz];simp only[J,if_true,L.run_ret];simp only[v8x,v8v]
 subst O;refine vjw W Z ?_ h;rw[hr];rfl
theorem q04{σ A:Nat->AO}:∀{a a' b M:List AV},qkv σ A a a'->qkv σ A b M->qkv σ A (a++b) (a'++M)
 |[],[],_,_,_,h=>h
 |[],_::_,_,_,h,_=>h.elim
 |_::_,[],_,_,h,_=>by simp[qkv]at h
 |c::a,c'::a',b,M,h,k=>⟨h.1,q04 h.2 k⟩
theorem vpk{σ A:Nat->AO}{f:α->PV}{a b:List α}{n:Nat}{z:α}(E:f z=.slc []) :
  qkv σ A (v8t AV.p (v8t f a)++v6u n .nils++v8t AV.p (v8t f b)) (v8t AV.p (v8t f (a++v6u n z++b)))=True:=by
 rw[eq_iff_iff,iff_true];simp only[v6h,v8w,E];exact q04 (q04 (qyn _ _ _) (vj4 _ _ _)) (qyn _ _ _)
end
attribute [go_sem] vpk
end
section
variable {A:List (Option Nat×List Nat)} {ops l:Array Oper} {p:Nat->Nat}
theorem qx1:∃p:Nat->Nat,(∀k,k<1048576->p k=k)/\∀f i,f<1048576->p (fx f i)=1048576+f:=by
 refine⟨fun l=>open Classical in if l<1048576 then l else if h:∃f i,f<1048576/\l=fx f i then 1048576+h.choose else 0,fun k J=>if_pos J,fun f i I=>?_⟩;have h1:¬fx f i<1048576:=fun h=>vde h rfl
 have A:∃f' H,f'<1048576/\fx f i=fx f' H:=⟨f,i,I,rfl⟩;simp only[h1,if_false];rw[dif_pos A];obtain⟨H,M,E⟩:=A.choose_spec;by_cases hn:f=A.choose
 ·rw[<-hn]
 ·rw[fx_ne I M hn]at E;exact E.elim
def plc:Nat->Nat:=Classical.choose qx1
theorem vkd{k:Nat}(h:k<1048576):plc k=k:=(Classical.choose_spec qx1).1 k h
theorem vso{f i:Nat}(h:f<1048576):plc (fx f i)=1048576+f:=(Classical.choose_spec qx1).2 f i h
def vpl(p:Nat->Nat)(e:Evt):Option Nat×List Nat:=(e.wr.map p,e.reads.map p)
def vvi(x y:Option Nat×List Nat):Bool :=
  (match x.1 with
   |some l=>!y.2.contains l&&y.1 != some l
   |none=>true)&&(match y.1 with
   |some l=>!x.2.contains l
   |none=>true)
def vke(ops:Array Oper)(es:List (Option Nat×List Nat)):Bool :=
  let A:=vju ops ops.size
  (v6s ops.size).all fun j=>(v6s j).all fun i=>vax A j i ||
    (match es[i]?,es[j]? with
     |some x,some y=>vvi x y
     |_,_=>true)
theorem vpm{x y:Evt}(h:vvi (vpl p x) (vpl p y)=true):vf0 x y=true:=by
 unfold vvi vpl at h;unfold vf0
 grind
theorem vpn{es:List Evt}(h:vke ops (es.map (vpl p))=true):qwi ops es=true:=by
 simp only[vke,qwi,v8d,v83,v79]at h ⊢;intro j E i hi;rcases h j E i hi with h1|h1
 ·exact .inl h1
 ·right;rw[v8n,v8n]at h1;cases H:es[i]? with
  |none=>rfl
  | some x =>
   cases A:es[j]? with
   |none=>rfl
   |some y =>
    rw[H,A]at h1;exact vpm h1
theorem q73{E:List Evt}(H:E.map (vpl plc)=A)(hev:vke ops A.reverse=true):qwi ops E.reverse=true:=by
 subst H;rw[<-List.map_reverse]at hev;exact vpn hev
variable {C:Cx} {Q:Exit->St->Prop} {st:St}
theorem ydS{E:List Evt}(h:Q .normal st)(H:E.map (vpl plc)=A:=by simp only[List.map_cons,List.map_nil,vpl,Evt.wr,Option.map_some,Option.map_none,vkd,vso,seval,go_sem];exact rfl)(hev:vke l A.reverse=true:=by kernel_rfl):DGo C l [] st E (DK C l Q):=DGo.fin (q73 H hev) h
theorem ydlS{r:List Oper}{E:List Evt}(h:AL C l r Q st)(H:E.map (vpl plc)=A:=by simp only[List.map_cons,List.map_nil,vpl,Evt.wr,Option.map_some,Option.map_none,vkd,vso,seval,go_sem];exact rfl)(hev:vke l A.reverse=true:=by kernel_rfl):DGo C l [] st E (DKL C l r Q):=DGo.done ⟨q73 H hev,h⟩
end
end Go.Ab
namespace Go.Ab
variable {D:Prop}
open Go
def vbe(E:Nat)(W:World)(J:Value)(n:Nat)(H:List Value):Prop :=
 (∃a A,J=.slice a 0 A/\n=0)\/∃b off A,J=.slice (some ⟨b,off,none⟩) n A/\b<E/\∀j u,H[j]?=some u->W.cell? ⟨b,off+j,none⟩=some u
theorem vbe.below{E n:Nat}{A B:World}(h:RowKit.Below E A B){J:Value}{H:List Value}:vbe E A J n H->vbe E B J n H
 |.inl e=>.inl e
 |.inr ⟨b,off,cap,e,hb,hc⟩=>.inr ⟨b,off,cap,e,hb,fun j u I=>(h.cell (p:=⟨b,off+j,none⟩) hb).trans (hc j u I)⟩
variable {C:Cx} {Q:Exit->St->Prop} {st:St}
end Go.Ab
namespace Go.Lib
open Go.RowKit
structure FzK(w w':World):Prop where
 fz:∀a:Addr,a.block<w.heap.size->w'.frozen? a=w.frozen? a
section
variable {P:Program} (w:World)
theorem qrl(t u ty e:TypeId)(i:TypeInfo)(ht:P.underlying t=some (.slice e))(hu:P.underlying u=some .string)(hi:P.info? e=some i)(hz:i.zero=some (.int .u8 0))
  (E:i.size=1) (V:i.bytes=1) (v:Value) (n:Nat) (A:List Value) (I:w.ownsRow 0 e 1 v n A) (s:ByteArray) (H:n+s.size<=140737488355328) :
  ∃v' w',(Builtin.append_ #[t,u] ty #[v,.string s]).run P w=.ok v' w'/\w'.ownsRow 0 e 1 v' (n+s.size) (A++strCells s)/\w.grownBy w' v.ownBlock /\
   (∀g,v'.ownBlock=some g->v.ownBlock=some g\/w.heap.size<=g)/\FzK w w':=by
 have h63:n+s.size<=maxLen:=by unfold maxLen;omega
 have W:A.length=n:=by simpa using I.1
 obtain⟨v',w',hr,h2,h3,_⟩:=run_append_own_string (P:=P) w 0 t u ty e i ht hu hi hz E V v n A I s h63 H (v9f _);refine⟨v',w',hr,h2,h3,?_⟩;rcases I.2 with⟨rfl,rfl⟩|⟨g,M,cur,rfl,hbg,hg,hnc,hcm,hcs,htake⟩
 ·have hx:A=[]:=v5x W;subst hx;obtain⟨v1,w1,J,k2,k3,_⟩:=run_append_own_string (P:=P) w w.heap.size t u ty e i ht hu hi hz E V _ 0 [] (World.ownsRow_nil w w.heap.size e 1) s h63 H (v7a _);have Z:=hr.symm.trans J;cases Z;exact⟨fun g hg=>.inr (k2.lt g hg).1,⟨fun a ha=>World.frozen?_of_block (k3.block _ ha (by simp[Value.ownBlock]))⟩⟩
 ·by_cases O:n+s.size<=M
  ·have hcs':cur.size=M:=by simpa using hcs
   have J:=run_append_room_string (P:=P) w t u ty e i ht hu hi E g n M cur hg s O (by omega);have Z:=hr.symm.trans J;cases Z;exact⟨fun k hk=>.inl hk,⟨fun a _=>Ab.frozen_setRow w g _ a⟩⟩
  ·have U:∀j u,A[j]?=some u->w.cell? ((⟨g,0,none⟩:Addr).add j)=some u:=I.cells (g:=g) rfl;have J:=run_append_grow_string (P:=P) w t u ty e i (.int .u8 0) ht hu hi hz ⟨g,0,none⟩ n M A (by rw[E];simpa using W) U s (by omega) (by omega) (by rw[V];exact growslice_fits (by omega) (by omega));have Z:=hr.symm.trans J;cases Z;refine⟨fun k hk=>.inr ?_,⟨fun a ha=>World.frozen?_of_block (heap_alloc_old w.drew _ ha)⟩⟩;simp only[Value.ownBlock,v7s]at hk;omega
theorem wpList_append_own_string_x{ops:Array Oper}{rest:List Oper}{o:Oper}{a:Act}{Q:Exit->Act->World->Prop}(M:o.guard=none)(O x:Operand)(t u:TypeId)
  (ho:o.op=.call { callee:=.builtin .append,args:=#[O,x],argTypes:=#[t,u] })
  (e:TypeId) (i:TypeInfo) (ht:P.underlying t=some (.slice e)) (V:P.underlying u=some .string) (hi:P.info? e=some i) (hz:i.zero=some (.int .u8 0))
  (H:i.size=1) (J:i.bytes=1)
  (v:Value) (n:Nat) (A:List Value) (Z:a.eval O=v) (I:w.ownsRow 0 e 1 v n A) (s:ByteArray) (hx:a.eval x=.string s)
  (E:n+s.size<=140737488355328)
  (h:∀v' w',w'.ownsRow 0 e 1 v' (n+s.size) (A++strCells s)->w.grownBy w' v.ownBlock->(∀g,v'.ownBlock=some g->v.ownBlock=some g\/w.heap.size<=g)->FzK w w'->wpList P ops Q rest (a.put o.dst v') w'):wpList P ops Q (o::rest) a w:=by
 refine wpList_plain M fun K hK=>?_
 obtain⟨v',w',hr,U,h3,h4,W⟩:=qrl (P:=P) w t u o.type e i ht V hi hz H J v n A I s E;unfold Oper.wp execOp;simp only[ho,resolve,invoke,builtin,v7w,v7x,v7u,List.map_toArray,v6i,v6j,Z,hx,hr];exact hK _ _ (h v' w' U h3 h4 W)
end
structure PairAt(T b:Nat)(p v:Value)(n:Nat)(w:World):Prop where
 ex:∃cur,w.heap[b]?=some (.cells cur T (0,0))/\cur.size=n/\cur.toList.take 2=[p,v]
theorem PairAt.pos{T b p v n w}(h:PairAt T b p v n w):2<=n:=by
 obtain⟨cur,_,E,A⟩:=h.ex;have:=congrArg List.length A
 grind
theorem PairAt.lt{T b p v n w}(h:PairAt T b p v n w):b<w.heap.size:=by
 obtain⟨cur,h1,_⟩:=h.ex;exact(v5d.1 h1).1
theorem PairAt.cell0{T b p v n w}(h:PairAt T b p v n w):w.cell? ⟨b,0,none⟩=some p:=by
 obtain⟨cur,h1,E,A⟩:=h.ex;have:=congrArg (·[0]?) A;simp only[v59,Nat.zero_lt_succ,if_true]at this;rw[cell_of_heap h1];simpa using this
theorem PairAt.cell1{T b p v n w}(h:PairAt T b p v n w):w.cell? ⟨b,1,none⟩=some v:=by
 obtain⟨cur,h1,E,A⟩:=h.ex;have:=congrArg (·[1]?) A;simp only[v59]at this;rw[cell_of_heap h1];simpa using this
theorem PairAt.shape{T b p v n w}(h:PairAt T b p v n w):w.shape? b=some (T,n):=by
 obtain⟨cur,h1,A,_⟩:=h.ex;simp[World.shape?,h1,A]
theorem PairAt.frozen{T b p v n w}(h:PairAt T b p v n w)(j:Nat):w.frozen? ⟨b,j,none⟩=false:=by
 obtain⟨cur,h1,_⟩:=h.ex;exact frozen_of_heap h1 j
theorem PairAt.of_block{T b p v n w w'}(h:PairAt T b p v n w)(E:w'.heap[b]?=w.heap[b]?):PairAt T b p v n w':=by
 obtain⟨cur,h1,A⟩:=h.ex;exact⟨cur,by rw[E];exact h1,A⟩
theorem PairAt.set0{T b p v n w}(h:PairAt T b p v n w)(q:Value):PairAt T b q v n (w.setCell ⟨b,0,none⟩ q):=by
 obtain⟨cur,h1,E,A⟩:=h.ex;refine⟨cur.setIfInBounds 0 q,by simp[World.setCell,v7y,h1],by simp[E],?_⟩;have H:=h.pos;obtain⟨l⟩:=cur
 match l,A with
 |x::y::r,A=>simp at A ⊢;exact A.2
theorem PairAt.set1{T b p v n w}(h:PairAt T b p v n w)(q:Value):PairAt T b p q n (w.setCell ⟨b,1,none⟩ q):=by
 obtain⟨cur,h1,E,A⟩:=h.ex;refine⟨cur.setIfInBounds 1 q,by simp[World.setCell,v7y,h1],by simp[E],?_⟩;obtain⟨l⟩:=cur
 match l,A with
 |x::y::r,A=>simp at A ⊢;exact A.1
structure OnlyAt(b:Nat)(row:Option Nat)(w w':World):Prop where
 os:w'.os=w.os
 tape:w'.tape=w.tape
 output:w'.output=w.output
 size:w.heap.size<=w'.heap.size
 block:∀k,k<w.heap.size->k≠b->some k≠row->w'.heap[k]?=w.heap[k]?
 fz:∀a:Addr,a.block<w.heap.size->w'.frozen? a=w.frozen? a
end Go.Lib
namespace Go.Proofs
open Go.Shelf Go.RowKit
variable {P:Program} {ρ:Ren}
set_option maxHeartbeats 1000000 in
set_option maxRecDepth 100000 in
theorem BldX.copyCheck_fresh (L:Lays.n240 P ρ) (X:Builder.X72 P ρ) (b n:Nat) (w:World) (h0:w.cell? ⟨b,0,none⟩=some (.pointer none)) (hsh:w.shape? b=some ((ρ.t 72),n)) (hn:0<n)
  (hlies:liesAt P P.depth (ρ.t 72) (n/P.cellsOf (ρ.t 72)) 0 (ρ.t 72) 1=true) (hfz:w.frozen? ⟨b,0,none⟩=false) :
  Calls P (ρ.f 240) #[.pointer (some ⟨b,0,none⟩)] w fun e w'=>e=.returned (.tuple #[])/\w'=w.setCell ⟨b,0,none⟩ (.pointer (some ⟨b,0,none⟩)):=by
 obtain⟨j,hj,hjs⟩:=Option.map_eq_some_iff.1 X.sizeBuilder
 have mixed:=L.mixed
 have t72:=L.t72;have a72:=L.a72;have z72:=L.z72;have v72:=L.v72;have u72:=run_underlying L.t72
 have t70:=L.t70;have a70:=L.a70;have z70:=L.z70;have v70:=L.v70;have u70:=run_underlying L.t70
 have t9:=L.t9;have a9:=L.a9;have z9:=L.z9;have v9:=L.v9;have u9:=run_underlying L.t9
 have t4:=L.t4;have a4:=L.a4;have z4:=L.z4;have v4:=L.v4;have u4:=run_underlying L.t4
 have t164:=L.t164;have a164:=L.a164;have z164:=L.z164;have v164:=L.v164;have u164:=run_underlying L.t164
 go_enter L.f240,Body.n240_ntmps ρ
 go_wp2
 rw[Lib.run_to_unsafe w ⟨b,0,none⟩ L.t70 L.t164 hj (by rw[hjs];decide) hsh hn]
 simp only[v9j]
 rw[Oper.upon_value]
 go_wp2
 rw[run_callFunc_extern L.f276 (by kernel_rfl) (by kernel_rfl) (by kernel_rfl) (e:=Extern.AbiNoEscape.same) (by kernel_rfl)]
 rw[Lib.run_noEscape]
 simp only[v9j]
 rw[Oper.upon_value]
 go_wp2
 rw[Lib.run_from_unsafe w ⟨b,0,none⟩ L.t164 L.t70 hj hsh hlies]
 simp only[v9j]
 rw[Oper.upon_value]
 go_wp2
 go_end0
 grind
theorem BldX.copyCheck(L:Lays.n240 P ρ)(X:Builder.X72 P ρ)(b n:Nat)(p v:Value)(w:World)(h:Lib.PairAt (ρ.t 72) b p v n w)(H:p=.pointer none\/p=.pointer (some ⟨b,0,none⟩))
  (A:liesAt P P.depth (ρ.t 72) (n/P.cellsOf (ρ.t 72)) 0 (ρ.t 72) 1=true) :
  Calls P (ρ.f 240) #[.pointer (some ⟨b,0,none⟩)] w fun e w'=>e=.returned (.tuple #[])/\Lib.PairAt (ρ.t 72) b (.pointer (some ⟨b,0,none⟩)) v n w'/\Lib.OnlyAt b none w w':=by
 rcases H with rfl|rfl
 ·refine(BldX.copyCheck_fresh L X b n w h.cell0 h.shape (by have:=h.pos;omega) A (h.frozen 0)).mono ?_;rintro e w' ⟨rfl,rfl⟩;refine⟨rfl,h.set0 _,rfl,rfl,rfl,by simp[World.setCell],fun k _ E _=>Below.heap_setCell _ _ _ _ (fun e=>E (by simpa using e)),fun a _=>?_⟩;exact World.frozen?_setCell _ _ _ _
 ·refine(Any.Builder_copyCheck_used L X b w h.cell0).mono ?_;rintro e w' ⟨rfl,rfl⟩;exact⟨rfl,h,rfl,rfl,rfl,v7a _,fun _ _ _ _=>rfl,fun _ _=>rfl⟩
set_option maxHeartbeats 2000000 in
set_option maxRecDepth 100000 in
theorem BldX.writeString (L:Lays.n166 P ρ) (X:Builder.Extra P ρ) (b n:Nat) (p v:Value) (bs:List Value) (s:ByteArray) (w:World) (h:Lib.PairAt (ρ.t 72) b p v n w) (hp:p=.pointer none\/p=.pointer (some ⟨b,0,none⟩))
  (hlies:liesAt P P.depth (ρ.t 72) (n/P.cellsOf (ρ.t 72)) 0 (ρ.t 72) 1=true) (hown:w.ownsRow 0 (ρ.t 5) 1 v bs.length bs) (hne:v.ownBlock≠some b) (hlen:bs.length+s.size<=140737488355328) :
  Calls P (ρ.f 166) #[.pointer (some ⟨b,0,none⟩),.string s] w fun e w'=>e=.returned (.tuple #[.int .i64 s.size,.nilIface]) /\
   ∃v',Lib.PairAt (ρ.t 72) b (.pointer (some ⟨b,0,none⟩)) v' n w'/\w'.ownsRow 0 (ρ.t 5) 1 v' (bs.length+s.size) (bs++Lib.strCells s)/\v'.ownBlock≠some b /\
    (∀g,v'.ownBlock=some g->v.ownBlock=some g\/w.heap.size<=g)/\Lib.OnlyAt b v.ownBlock w w':=by
 obtain⟨i0,hi,hz0,hz1,hz2⟩:=info_parts X.infoByte
 have mixed:=L.mixed
 have t72:=L.t72;have a72:=L.a72;have z72:=L.z72;have v72:=L.v72;have u72:=run_underlying L.t72
 have t70:=L.t70;have a70:=L.a70;have z70:=L.z70;have v70:=L.v70;have u70:=run_underlying L.t70
 have t37:=L.t37;have a37:=L.a37;have z37:=L.z37;have v37:=L.v37;have u37:=run_underlying L.t37
 have t3:=L.t3;have a3:=L.a3;have z3:=L.z3;have v3:=L.v3;have u3:=run_underlying L.t3
 have t9:=L.t9;have a9:=L.a9;have z9:=L.z9;have v9:=L.v9;have u9:=run_underlying L.t9
 have t4:=L.t4;have a4:=L.a4;have z4:=L.z4;have v4:=L.v4;have u4:=run_underlying L.t4
 have t164:=L.t164;have a164:=L.a164;have z164:=L.z164;have v164:=L.v164;have u164:=run_underlying L.t164
 have t5:=X.t5;have a5:=X.a5;have z5:=X.z5;have v5:=X.v5;have u5:=run_underlying X.t5
 have e240:∀args w,(callFunc (ρ.f 240) args).run P w=.ok (.enter (ρ.f 240) args) w:=enters_of L.f240 (by kernel_rfl) rfl
 go_enter L.f166,Body.n166_ntmps ρ
 go_wp2_with (go_at_fn (ρ.f 240);refine(BldX.copyCheck { L with } X.toX72 b n p v w h hp hlies).mono ?_)
 rintro e w1 ⟨rfl,h1,hb1⟩
 have c0:=h1.cell0
 have c1:=h1.cell1
 have hown1:w1.ownsRow 0 (ρ.t 5) 1 v bs.length bs:=by
  refine⟨hown.1,?_⟩
  rcases hown.2 with hv|⟨g,cap,cur,hv,q1,q2,q3⟩
  ·exact .inl hv
  ·refine .inr ⟨g,cap,cur,hv,q1,?_,q3⟩
   rw[hb1.block g (v5d.1 q2).1 (fun e=>hne (by rw[hv,<-e];rfl)) (by simp)]
   exact q2
 go_wp2_with (at_builtin;refine Lib.wpList_append_own_string_x _ rfl _ _ (ρ.t 37) (ρ.t 9) rfl (ρ.t 5) i0 L.t37 L.t9 hi hz0 hz1 hz2 _ _ _ rfl hown1 s rfl ?c4 ?_)
 case c4=>omega
 intro v' w2 hown' hgrow hfr hfz
 have hlt:b<w1.heap.size:=h1.lt
 have h2:Lib.PairAt (ρ.t 72) b (.pointer (some ⟨b,0,none⟩)) v n w2:=h1.of_block (hgrow.block b hlt (fun e=>hne e.symm))
 have d0:=h2.cell0
 have d1:=h2.cell1
 have f1:=h2.frozen 1
 have hne':v'.ownBlock≠some b:=fun e=>by
  grind
 obtain⟨ao,n',cap,rfl⟩:∃ao n' cap,v'=.slice ao n' cap:=by
  rcases hown'.2 with⟨hv,_⟩|⟨g,cap,cur,hv,_⟩
  ·grind
  ·grind
 go_wp2
 go_ret2
 refine⟨rfl,_,h2.set1 _,?_,hne',fun g hg=>?_,?_,?_,?_,?_,?_,?_⟩
 ·refine⟨hown'.1,?_⟩
  rcases hown'.2 with hv|⟨g,cap',cur,hv,q1,q2,q3⟩
  ·exact .inl hv
  ·refine .inr ⟨g,cap',cur,hv,q1,?_,q3⟩
   rw[Below.heap_setCell _ _ _ _ (fun e=>hne' (by rw[hv];simp only[Value.ownBlock];rw[show g=b from e]))]
   exact q2
 ·rcases hfr g hg with e|e
  ·exact .inl e
  ·have:=hb1.size;exact .inr (by omega)
 ·exact hgrow.os.trans hb1.os
 ·exact hgrow.tape.trans hb1.tape
 ·exact hgrow.output.trans hb1.output
 ·have:=hb1.size;have:=hgrow.size;simp[World.setCell];omega
 ·intro k hk hkb hkr
  rw[Below.heap_setCell _ _ _ _ (fun e=>hkb (by simpa using e)),hgrow.block k (by have:=hb1.size;omega) hkr]
  exact hb1.block k hk hkb (by simp)
 ·intro a ha
  rw[World.frozen?_setCell,hfz.fz a (by have:=hb1.size;omega)]
  exact hb1.fz a ha
end Go.Proofs
namespace Go.Lib
structure OnlyRow(row:Option Nat)(w w':World):Prop where
 os:w'.os=w.os
 tape:w'.tape=w.tape
 output:w'.output=w.output
 size:w.heap.size<=w'.heap.size
 block:∀k,k<w.heap.size->some k≠row->w'.heap[k]?=w.heap[k]?
end Go.Lib
namespace Go.Proofs
open Go.Shelf Go.RowKit
variable {P:Program} {ρ:Ren}
set_option maxHeartbeats 1000000 in
set_option maxRecDepth 100000 in
theorem BldX.string_some (L:Lays.n169 P ρ) (X:Builder.Extra P ρ) (b n:Nat) (p v:Value) (l:List UInt8) (w:World) (h:Lib.PairAt (ρ.t 72) b p v n w) (hown:w.ownsRow 0 (ρ.t 5) 1 v l.length (v8b l)) (h0:l≠[]) :
  Calls P (ρ.f 169) #[.pointer (some ⟨b,0,none⟩)] w fun e w'=>e=.returned (.string ⟨l.toArray⟩)/\Lib.OnlyRow v.ownBlock w w':=by
 have hl0:l.length≠0:=by simpa using h0
 obtain⟨g,cap,cur,rfl,hbg,hg,hnc,hcm,hcs,htake⟩:∃g cap cur,v=.slice (some ⟨g,0,none⟩) l.length cap/\0<=g/\w.heap[g]?=some (.cells cur (ρ.t 5) (0,0))/\l.length<=cap/\cap<=maxLen/\cur.size=cap*1/\cur.toList.take (l.length*1)=v8b l:=by
  rcases hown.2 with⟨_,hz⟩|⟨g,cap,cur,hv,r⟩
  ·grind
  ·grind
 have c1:w.drew.cell? ⟨b,1,none⟩=some (.slice (some ⟨g,0,none⟩) l.length cap):=h.cell1
 have hSD:(Builtin.unsafeSliceData_ #[(ρ.t 37)] (ρ.t 127) #[.slice (some ⟨g,0,none⟩) l.length cap]).run P w.drew=.ok (.pointer (some ⟨g,0,none⟩)) w.drew :=
  v8c _ _ _ _ _ _ (by omega)
 have hUS:(Builtin.unsafeString_ #[(ρ.t 127),(ρ.t 3)] (ρ.t 9) #[.pointer (some ⟨g,0,none⟩),.int .i64 l.length]).run P w.drew=.ok (.string ⟨l.toArray⟩) (w.drew.freeze ⟨g,0,none⟩ l.length):=by
  refine Lib.run_unsafeString_row w.drew (ρ.t 127) (ρ.t 3) (ρ.t 9) (ρ.t 5) L.t127 X.cellsByte g cur.size (by have hg':w.drew.heap[g]?=some (.cells cur (ρ.t 5) (0,0)):=hg;simp[World.shape?,hg']) l h0 (by omega) (by unfold maxLen at hcm;omega) ?_
  intro j x hx
  have:=hown.cells (g:=g) rfl j (.int .u8 x.toNat) (by simp[v8b,hx])
  exact this
 have mixed:=L.mixed
 have t72:=L.t72;have a72:=L.a72;have z72:=L.z72;have v72:=L.v72;have u72:=run_underlying L.t72
 have t70:=L.t70;have a70:=L.a70;have z70:=L.z70;have v70:=L.v70;have u70:=run_underlying L.t70
 have t37:=L.t37;have a37:=L.a37;have z37:=L.z37;have v37:=L.v37;have u37:=run_underlying L.t37
 have t127:=L.t127;have a127:=L.a127;have z127:=L.z127;have v127:=L.v127;have u127:=run_underlying L.t127
 have t3:=L.t3;have a3:=L.a3;have z3:=L.z3;have v3:=L.v3;have u3:=run_underlying L.t3
 have t9:=L.t9;have a9:=L.a9;have z9:=L.z9;have v9:=L.v9;have u9:=run_underlying L.t9
 have t5:=X.t5;have a5:=X.a5;have z5:=X.z5;have v5:=X.v5;have u5:=run_underlying X.t5
 have fin:Lib.OnlyRow (Value.ownBlock (.slice (some ⟨g,0,none⟩) l.length cap)) w (w.drew.freeze ⟨g,0,none⟩ l.length):=by
  unfold World.freeze
  rw[if_neg hl0]
  refine⟨rfl,rfl,rfl,by simp,fun k _ hk=>?_⟩
  simp only[v7y]
  rw[if_neg (fun e=>hk (by rw[<-e];rfl))]
  rfl
 go_enter L.f169,Body.n169_ntmps ρ
 go_wp2
 go_region_o
 all_goals(go_wp2;go_ret;exact⟨rfl,fin⟩)
set_option maxHeartbeats 2000000 in
set_option maxRecDepth 100000 in
theorem BldX.string_none (L:Lays.n169 P ρ) (X:Builder.Extra P ρ) (b n:Nat) (p v:Value) (w:World) (h:Lib.PairAt (ρ.t 72) b p v n w) (hown:w.ownsRow 0 (ρ.t 5) 1 v 0 []) :
  Calls P (ρ.f 169) #[.pointer (some ⟨b,0,none⟩)] w fun e w'=>e=.returned (.string ⟨#[]⟩)/\Lib.OnlyRow v.ownBlock w w':=by
 have hUS:=Any.unsafeString_none L X
 have hlt:=h.lt
 have mixed:=L.mixed
 have t72:=L.t72;have a72:=L.a72;have z72:=L.z72;have v72:=L.v72;have u72:=run_underlying L.t72
 have t70:=L.t70;have a70:=L.a70;have z70:=L.z70;have v70:=L.v70;have u70:=run_underlying L.t70
 have t37:=L.t37;have a37:=L.a37;have z37:=L.z37;have v37:=L.v37;have u37:=run_underlying L.t37
 have t127:=L.t127;have a127:=L.a127;have z127:=L.z127;have v127:=L.v127;have u127:=run_underlying L.t127
 have t3:=L.t3;have a3:=L.a3;have z3:=L.z3;have v3:=L.v3;have u3:=run_underlying L.t3
 have t9:=L.t9;have a9:=L.a9;have z9:=L.z9;have v9:=L.v9;have u9:=run_underlying L.t9
 have t5:=X.t5;have a5:=X.a5;have z5:=X.z5;have v5:=X.v5;have u5:=run_underlying X.t5
 have fin1:∀row,Lib.OnlyRow row w w.drew:=fun row=>⟨rfl,rfl,rfl,v7a _,fun _ _ _=>rfl⟩
 rcases hown.2 with⟨rfl,_⟩|⟨g,cap,cur,rfl,hbg,hg,_,_,_,_⟩
 ·have c1:w.drew.cell? ⟨b,1,none⟩=some (.slice none 0 0):=h.cell1
  have hSD:(Builtin.unsafeSliceData_ #[(ρ.t 37)] (ρ.t 127) #[.slice none 0 0]).run P w.drew=.ok (.pointer none) w.drew:=rfl
  go_enter L.f169,Body.n169_ntmps ρ
  go_wp2
  go_region_o
  all_goals(go_wp2;go_ret;exact⟨rfl,fin1 _⟩)
 ·by_cases hc0:cap=0
  ·subst hc0
   have c1:w.drew.cell? ⟨b,1,none⟩=some (.slice (some ⟨g,0,none⟩) 0 0):=h.cell1
   have hSD:(Builtin.unsafeSliceData_ #[(ρ.t 37)] (ρ.t 127) #[.slice (some ⟨g,0,none⟩) 0 0]).run P w.drew=.ok (.pointer (some ⟨w.drew.heap.size,0,none⟩)) (w.drew.alloc (.view ⟨g,0,none⟩ (ρ.t 5))) :=
    Lib.run_unsafeSliceData_zero w.drew _ _ (ρ.t 5) L.t127 ⟨g,0,none⟩ 0 ((ρ.t 5),cur.size) (by have hg':w.drew.heap[g]?=some (.cells cur (ρ.t 5) (0,0)):=hg;simp[World.shape?,hg'])
   have h2:Lib.PairAt (ρ.t 72) b p (.slice (some ⟨g,0,none⟩) 0 0) n (w.drew.alloc (.view ⟨g,0,none⟩ (ρ.t 5))):=h.of_block (Lib.alloc_old w.drew _ b hlt)
   have c2:(w.drew.alloc (.view ⟨g,0,none⟩ (ρ.t 5))).cell? ⟨b,1,none⟩=some (.slice (some ⟨g,0,none⟩) 0 0):=h2.cell1
   have c3:(w.alloc (.view ⟨g,0,none⟩ (ρ.t 5))).drew.cell? ⟨b,1,none⟩=some (.slice (some ⟨g,0,none⟩) 0 0):=c2
   have c0:w.cell? ⟨b,1,none⟩=some (.slice (some ⟨g,0,none⟩) 0 0):=c1
   have fin2:Lib.OnlyRow (Value.ownBlock (.slice (some ⟨g,0,none⟩) 0 0)) w (w.drew.alloc (.view ⟨g,0,none⟩ (ρ.t 5))):=⟨rfl,rfl,rfl,by simp,fun k hk _=>Lib.alloc_old w.drew _ k hk⟩
   go_enter L.f169,Body.n169_ntmps ρ
   go_wp2
   go_region_o
   all_goals(go_wp2;go_ret;exact⟨rfl,fin2⟩)
  ·have c1:w.drew.cell? ⟨b,1,none⟩=some (.slice (some ⟨g,0,none⟩) 0 cap):=h.cell1
   have hSD:(Builtin.unsafeSliceData_ #[(ρ.t 37)] (ρ.t 127) #[.slice (some ⟨g,0,none⟩) 0 cap]).run P w.drew=.ok (.pointer (some ⟨g,0,none⟩)) w.drew :=
    v8c _ _ _ _ _ _ hc0
   clear hc0
   go_enter L.f169,Body.n169_ntmps ρ
   go_wp2
   go_region_o
   all_goals(go_wp2;go_ret;exact⟨rfl,fin1 _⟩)
theorem BldX.string(L:Lays.n169 P ρ)(X:Builder.Extra P ρ)(b n:Nat)(p v:Value)(l:List UInt8)(w:World)(h:Lib.PairAt (ρ.t 72) b p v n w)(A:w.ownsRow 0 (ρ.t 5) 1 v l.length (v8b l)) :
  Calls P (ρ.f 169) #[.pointer (some ⟨b,0,none⟩)] w fun e w'=>e=.returned (.string ⟨l.toArray⟩)/\Lib.OnlyRow v.ownBlock w w':=by
 cases l with
 |nil=>exact BldX.string_none L X b n p v w h A
 |cons x r=>exact BldX.string_some L X b n p v (x::r) w h A (by simp)
end Go.Proofs
