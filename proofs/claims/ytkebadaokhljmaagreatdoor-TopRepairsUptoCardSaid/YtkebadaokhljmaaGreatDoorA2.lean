/- -/
import Derived.StillTail
import Derived.Lib.Bytealg
import Derived.Deep.Slices
import Derived.ReadAgain
import Derived.ChangeArms
import Derived.ChangeSame
import Derived.RowKit
import Derived.RowKit3
import Derived.OpenShut
import Derived.JoinedCond
import Derived.KernelRfl
import Derived.Shelf.SlSortCmp.Kit1
import Derived.Sort.AssemblyPlain
import Derived.Laws.AppendOwn
import Derived.Below
import Derived.LoopN
import Derived.Lib.AppendZeros
import Derived.Shelf.SlicesE.Clone
import Derived.Sort.EncStr
import Derived.Shelf.GgSortFunc.RowK
import Derived.Shelf.SlSortCmp.InsertionK
import Derived.Lib.Repeat
import Derived.Test.YtkebadaokhljmaaGreatDoorA1
set_option linter.unusedVariables false
set_option linter.unusedSimpArgs false
open Array renaming ext'→v19,ext_getElem?→v5g,getElem?_append→v2a,getElem?_eq_some_iff→v2b,getElem?_mapIdx→v5h,getElem?_modify→v5i,getElem?_setIfInBounds_ne→v2d,getElem?_toList→v2e,length_toList→v2f,range→v2g,toList_setIfInBounds→v5j
open Bool renaming and_eq_true→v2m,eq_false_iff→v5k,false_eq_true→v2o,not_eq_true'→v2q,or_eq_true→v2r
open Go.Lib renaming bitLen→v5l,run_eql_slice_nil→v2t
open List renaming all_eq_true→v5m,any_cons→v5n,any_eq_true→v5o,append_nil→v2x,cons_append→v5p,contains_iff_mem→v5q,eq_nil_of_length_eq_zero→v26,ext_getElem?→v27,flatMap_cons→v5r,getD_eq_getElem?_getD→v5s,getElem?_append_left→v3a,getElem?_append_right→v3b,getElem?_cons_succ→v5t,getElem?_cons_zero→v5u,getElem?_drop→v3c,getElem?_eq_getElem→v3d,getElem?_eq_none→v3e,getElem?_eq_some_iff→v3f,getElem?_map→v3g,getElem?_nil→v5v,getElem?_set_ne→v5w,getElem?_set_self→v5x,getElem?_take→v3j,length_append→v3l,length_cons→v5y,length_drop→v3m,length_eq_zero_iff→v5z,length_filter_le→v51,length_map→v3n,length_nil→v3o,length_pos_of_mem→v52,length_range→v54,length_replicate→v3p,length_set→v3q,length_singleton→v56,length_take→v3r,map→v58,map_append→v3s,map_congr_left→v59,map_cons→v3t,map_nil→v3u,map_replicate→v6a,mem_append→v3v,mem_append_left→v6b,mem_append_right→v6c,mem_cons→v6d,mem_cons_of_mem→v6e,mem_cons_self→v6f,mem_filter→v6g,mem_map→v6h,mem_mapIdx→v6i,mem_of_mem_take→v3z,mem_range→v6j,mem_replicate→v31,mem_singleton→v6k,nil_append→v33,range→v34,range'→v6l,replicate→v4a,replicate_succ→v6m,size_toArray→v4b,take→v6n,take_append_drop→v6o,take_of_length_le→v4e,toArray→v6p
open Nat renaming beq→v6q,le_refl→v4o,le_succ→v4p,le_trans→v4q,lt_succ_self→v4s,lt_trichotomy→v6r,min_eq_left→v6s,mul_le_mul_right→v4v,strongRecOn→v6t,sub_self→v6u,sub_zero→v4y,testBit_shiftLeft→v6v,zero_add→v4z,zero_le→v6w
open Option renaming bind_eq_some_iff→v6x,bind_some→v40,isSome_iff_exists→v47,map_none→v6y,map_some→v49
open Option.some renaming inj→v6z,injEq→v5a
open Prod.mk renaming injEq→v5b
open Go.Result renaming andThen_ok→v5c
open Go.Sem renaming run_bind→v5e,run_pure→v5f
noncomputable section
namespace Go.Ab
open Go
section
variable (P:Program) (B d':Nat) (ρ:Operand→AV) (d:Option Tmp) (ty:TypeId) (pos:String) (af:Array Edge) (g:Option (Nat×Bool))
theorem vk9 (x:Operand):aop P B ρ ⟨d,.move x,ty,pos,af,g⟩=.ret (ρ x,none):=rfl
theorem vc9 (x:Operand):aop P B ρ ⟨d,.assign x,ty,pos,af,g⟩=.ret (ρ x,none):=rfl
theorem vla (c x y:Operand):aop P B ρ ⟨d,.pick c x y,ty,pos,af,g⟩=(match ρ c with | .p (.bool t)=>.ret (if t then ρ x else ρ y,none) | _=>.fail):=rfl
theorem vga (t:TypeId):aop P B ρ ⟨some d',.alloc t,ty,pos,af,g⟩=(match qa9 P t with
  | some z=>if z.cells.length=P.cellsOf t then vk1 P (B+d') t z else .fail
  | none=>.fail):=rfl
theorem vqf (t:TypeId) (x:Operand):aop P B ρ ⟨some d',.box t x,ty,pos,af,g⟩=vk1 P (B+d') t (ρ x):=rfl
theorem vgb (t:TypeId) (qas:List (Nat×Operand)):aop P B ρ ⟨d,.build t qas.toArray,ty,pos,af,g⟩=qbf (.ofOpt (qh0 P t (qas.map fun p=>(p.1,ρ p.2)))):=rfl
theorem q0m (t:TypeId) (n:Nat) (qas:List (Nat×Operand)):aop P B ρ ⟨some d',.buildSlice t n qas.toArray,ty,pos,af,g⟩=qg6 P (B+d') t n (qas.map fun p=>(p.1,ρ p.2)):=rfl
theorem vlb (t:TypeId) (x:Operand):aop P B ρ ⟨d,.load t x,ty,pos,af,g⟩=qbf (qvo P t (ρ x)):=rfl
theorem vgc (t:TypeId) (x y:Operand):aop P B ρ ⟨d,.store t x y,ty,pos,af,g⟩=qxy P t (ρ x) (ρ y):=rfl
theorem vgd (op:BinOp) (t:TypeId) (x y:Operand) (yt:TypeId):aop P B ρ ⟨d,.binOp op t x y yt,ty,pos,af,g⟩=qbf (.ofOpt (vox P op t (ρ x) (ρ y))):=rfl
theorem vlc (op:UnOp) (t:TypeId) (x:Operand):aop P B ρ ⟨d,.unOp op t x,ty,pos,af,g⟩=qbf (.ofOpt (unA op (ρ x))):=rfl
theorem q8j (s t:TypeId) (x:Operand):aop P B ρ ⟨d,.convert s t x,ty,pos,af,g⟩=qbf (q1e P s t (ρ x)):=rfl
theorem q5h (fn:Fn) (cap:List Operand):aop P B ρ ⟨d,.makeFunc fn (v6p []) cap.toArray,ty,pos,af,g⟩=.ret (q4z fn (cap.map ρ),none):=rfl
theorem q21 (t:TypeId) (l c:Operand):aop P B ρ ⟨some d',.makeSlice t l c,ty,pos,af,g⟩=qoh P (B+d') t (ρ l) (ρ c):=rfl
theorem vge (t:TypeId) (x:Operand) (lo hi:Option Operand):aop P B ρ ⟨d,.slice t x lo hi none,ty,pos,af,g⟩=(match P.underlying t,qsq (lo.map ρ),qsq (hi.map ρ) with
  | some .string,some l,some h=>(match ρ x with | .p (.str _)=>qbf (qnk (ρ x) l h) | _=>.fail)
  | some (.slice e),some l,some h=>(match ρ x with | .p (.str _)=>.fail | _=>if qog P e=true then qbf (aop.sliceT P e (ρ x) l h) else .fail)
  | _,_,_=>.fail):=rfl
theorem vda (t:TypeId) (x hi mx:Operand):aop P B ρ ⟨d,.slice t x none (some hi) (some mx),ty,pos,af,g⟩=(match P.underlying t,ρ x,ρ hi,ρ mx with
  | some (.slice e),.p (.slc es),.p (.int _ hi),.p (.int _ mx)=>if mx=hi∧0≤hi∧hi≤es.length∧qog P e=true then qbf (.ret (.p (.clip (es.take hi.toNat)))) else .fail
  | _,_,_,_=>.fail):=rfl
theorem q23 (s:TypeId) (x:Operand) (f:Nat):aop P B ρ ⟨d,.fieldAddr s x f,ty,pos,af,g⟩=qbf (.ofOpt (qmc P s f (ρ x))):=rfl
theorem q24 (t:TypeId) (x ix:Operand):aop P B ρ ⟨d,.indexAddr t x ix,ty,pos,af,g⟩=(match qsp (ρ ix) with
  | some i=>qbf (qkt P t (ρ x) i)
  | none=>.fail):=rfl
theorem vgf (t:TypeId) (x ix:Operand):aop P B ρ ⟨d,.index t x ix,ty,pos,af,g⟩=(match qsp (ρ ix) with
  | some i=>qbf (.ofOpt (q1d P t (ρ x) i))
  | none=>.fail):=rfl
theorem q8k (t:TypeId):aop P B ρ ⟨some d',.makeMap t none,ty,pos,af,g⟩=qt2 P (B+d') t:=rfl
theorem vdb (t:TypeId) (m k:Operand) (c:Bool):aop P B ρ ⟨d,.lookup t m k c,ty,pos,af,g⟩=qbf (qvp P t (ρ m) (ρ k) c):=rfl
theorem q25 (t:TypeId) (m k v:Operand):aop P B ρ ⟨d,.mapUpdate t m k v,ty,pos,af,g⟩=qqn P t (ρ m) (ρ k) (ρ v):=rfl
theorem vdc (t:TypeId) (m k v:Operand):aop P B ρ ⟨d,.insert t m k v,ty,pos,af,g⟩=qqn P t (ρ m) (ρ k) (ρ v):=rfl
theorem q5i (x:Operand):aop P B ρ ⟨d,.nilCheck x,ty,pos,af,g⟩=qbf (.ofOpt (vu9 (ρ x))):=rfl
theorem vgg (s:TypeId) (x:Operand) (f:Nat):aop P B ρ ⟨d,.field s x f,ty,pos,af,g⟩=qbf (.ofOpt (q42 P s f (ρ x))):=rfl
theorem q8l (x:Operand) (i:Nat):aop P B ρ ⟨d,.extract x i,ty,pos,af,g⟩=(match ρ x with
  | .p (.tup vs)=>qbf (.ofOpt ((vs[i]?).map .p))
  | .tup vs=>qbf (.ofOpt (vs[i]?))
  | _=>.fail):=rfl
theorem vqg (x:Operand) (t:TypeId):aop P B ρ ⟨d,.call ⟨.builtin .len,v6p [x],v6p [t]⟩,ty,pos,af,g⟩=if (P.underlying t).isSome then qbf (aop.lenT P t (ρ x)) else .fail:=rfl
theorem vgh (x:Operand) (t:TypeId):aop P B ρ ⟨some d',.call ⟨.builtin .clear,v6p [x],v6p [t]⟩,ty,pos,af,g⟩=qwl P t (ρ x):=rfl
theorem vdd (x:Operand) (t:TypeId):aop P B ρ ⟨none,.call ⟨.builtin .clear,v6p [x],v6p [t]⟩,ty,pos,af,g⟩=qwl P t (ρ x):=rfl
theorem vde (s x:Operand) (t u:TypeId):aop P B ρ ⟨some d',.call ⟨.builtin .append,v6p [s,x],v6p [t,u]⟩,ty,pos,af,g⟩=if t=u then qct P (B+d') t (ρ s) (ρ x) else .fail:=rfl
theorem vqh (xs:List Operand) (ts:Array TypeId):aop P B ρ ⟨d,.call ⟨.builtin .max,xs.toArray,ts⟩,ty,pos,af,g⟩=qbf (.ofOpt (vfy vfw (xs.map ρ))):=rfl
theorem vqi (xs:List Operand) (ts:Array TypeId):aop P B ρ ⟨d,.call ⟨.builtin .min,xs.toArray,ts⟩,ty,pos,af,g⟩=qbf (.ofOpt (vfy vfx (xs.map ρ))):=rfl
theorem vld (f:Operand) (xs:Array Operand) (ts:Array TypeId):aop P B ρ ⟨d,.call ⟨.value f,xs,ts⟩,ty,pos,af,g⟩=.fail:=rfl
end
theorem vdf (P:Program) (N B:Nat) (ops:Array Oper) (st:St):qp6 P N B ops [] st=(st,[]):=rfl
def onR:Option (AV×Upd)→Go1
 | some (v,u)=>.on v u
 | none=>.stop
theorem vle (v:AV) (u:Upd):onR (some (v,u))=.on v u:=rfl
theorem vlf:onR none=.stop:=rfl
theorem vgi (P:Program) (N B:Nat) (ops:Array Oper) (d:Option Tmp) (op:Op) (ty:TypeId) (pos:String) (af:Array Edge) (st:St) :
  go1 P N B ops ⟨d,op,ty,pos,af,none⟩ st=if qbb N ⟨d,op,ty,pos,af,none⟩ then onR ((aop P B (ev st.env) ⟨d,op,ty,pos,af,none⟩).run (qar st.heap)) else .stop:=by
 unfold go1 qax onR;rfl
def onG (r:Option (AV×Upd)):Option Bool→Go1
 | some true=>onR r
 | some false=>.on (.p (.tup [])) none
 | none=>.stop
theorem vlg (r:Option (AV×Upd)):onG r (some true)=onR r:=rfl
theorem vgj (r:Option (AV×Upd)):onG r (some false)=.on (.p (.tup [])) none:=rfl
theorem vdg (N t:Nat) (op:Op) (ty:TypeId) (pos:String) (af:Array Edge) (g:Option (Nat×Bool)):qbb N ⟨some t,op,ty,pos,af,g⟩=decide (t < N):=rfl
theorem vdh (N:Nat) (op:Op) (ty:TypeId) (pos:String) (af:Array Edge) (g:Option (Nat×Bool)):qbb N ⟨none,op,ty,pos,af,g⟩=true:=rfl
def eqL (f:TypeId→List PV→List PV→Option Bool):List (Nat×Nat×Nat)→List PV→List PV→Option Bool
 | [],_,_=>some true
 | (t,o,n) :: r,xs,ys=>match f t ((xs.drop o).take n) ((ys.drop o).take n),eqL f r xs ys with
  | some a,some b=>some (a && b)
  | _,_=>none
theorem vo1 (P : Program) (f : TypeId → List PV → List PV → Option Bool) : ∀ (fs : List Field) (xs ys : List PV), (fs.all fun g => g.name != "_") = true →
  vk0 P f fs xs ys=eqL f (fs.map fun g=>(g.type,g.offset,P.cellsOf g.type)) xs ys
 | [],_,_,_=>rfl
 | g :: fs,xs,ys,h=>by
  simp only [List.all_cons,v2m,bne_iff_ne,ne_eq] at h;simp only [vk0,h.1,if_false,v3t,eqL,vo1 P f fs xs ys h.2]
  all_goals rfl
theorem vdi (P : Program) {t : TypeId} {l : List (Nat × Nat × Nat)} (hu : P.underlying t = some (.struct (P.fieldsOf t))) (hs : P.stoodInHeld t = false) (hn : ((P.fieldsOf t).toList.all fun g => g.name != "_") = true)
  (hl:((P.fieldsOf t).toList.map fun g=>(g.type,g.offset,P.cellsOf g.type))=l) (d:Nat) (xs ys:List PV):eqT P (d+1) t xs ys=eqL (eqT P d) l xs ys:=by
 subst hl;unfold eqT;rw [hu];simp only [hs,v2o,if_false];exact vo1 P _ _ xs ys hn
theorem vgk (P:Program) {t:TypeId} {q:IntKind} (hu:P.underlying t=some (.int q)) (d:Nat) (k k':IntKind) (a b:Int):eqT P (d+1) t [.int k a] [.int k' b]=if k=k' then some (a == b) else none:=by
 unfold eqT;rw [hu]
theorem vqj (P:Program) {t:TypeId} (hu:P.underlying t=some .string) (d:Nat) (a b:List UInt8):eqT P (d+1) t [.str a] [.str b]=some (a == b):=by
 unfold eqT;rw [hu]
theorem q8m (m:L AV) (σ:Nat→AO):(qbf m).run σ=(m.run σ).map fun v=>(v,none):=by
 unfold qbf;rw [L.run_bind'];cases m.run σ <;> rfl
section
variable (k:IntKind) (n:Int) (b:Bool) (l:List UInt8) (ps qs:List PV) (fn:Fn)
theorem vwx:(PV.int k n).cells=[.int k n]:=rfl
theorem vqk:(PV.bool b).cells=[.bool b]:=rfl
theorem vwy:(PV.str l).cells=[.str l]:=rfl
theorem vql:PV.nilp.cells=[.nilp]:=rfl
theorem vqm:PV.nilf.cells=[.nilf]:=rfl
theorem vqn:PV.nili.cells=[.nili]:=rfl
theorem vqo:PV.nilm.cells=[.nilm]:=rfl
theorem vwz:(PV.slc ps).cells=[.slc ps]:=rfl
theorem vqp:(PV.nnil ps).cells=[.nnil ps]:=rfl
theorem vqq:(PV.clip ps).cells=[.clip ps]:=rfl
theorem vw0:(PV.imm ps).cells=[.imm ps]:=rfl
theorem vqr:(PV.mapv ps qs).cells=[.mapv ps qs]:=rfl
theorem vqs:(PV.func fn ps).cells=[.func fn ps]:=rfl
theorem vw1:(PV.agg ps).cells=ps:=rfl
theorem vw2:(PV.int k n).isAgg=false:=rfl
theorem vqt:(PV.bool b).isAgg=false:=rfl
theorem vw3:(PV.str l).isAgg=false:=rfl
theorem vqu:PV.nilp.isAgg=false:=rfl
theorem vqv:PV.nilf.isAgg=false:=rfl
theorem vqw:PV.nili.isAgg=false:=rfl
theorem vqx:PV.nilm.isAgg=false:=rfl
theorem vw4:(PV.slc ps).isAgg=false:=rfl
theorem vqy:(PV.nnil ps).isAgg=false:=rfl
theorem vqz:(PV.clip ps).isAgg=false:=rfl
theorem vw5:(PV.imm ps).isAgg=false:=rfl
theorem vq0:(PV.mapv ps qs).isAgg=false:=rfl
theorem vq1:(PV.func fn ps).isAgg=false:=rfl
theorem vw6:(PV.agg ps).isAgg=true:=rfl
theorem vw7:(PV.int k n).isTup=false:=rfl
theorem vq2:(PV.bool b).isTup=false:=rfl
theorem vw8:(PV.str l).isTup=false:=rfl
theorem vq3:PV.nilp.isTup=false:=rfl
theorem vq4:PV.nilf.isTup=false:=rfl
theorem vq5:PV.nili.isTup=false:=rfl
theorem vq6:PV.nilm.isTup=false:=rfl
theorem vw9:(PV.slc ps).isTup=false:=rfl
theorem vq7:(PV.nnil ps).isTup=false:=rfl
theorem vq8:(PV.clip ps).isTup=false:=rfl
theorem vxa:(PV.imm ps).isTup=false:=rfl
theorem vq9:(PV.mapv ps qs).isTup=false:=rfl
theorem vra:(PV.func fn ps).isTup=false:=rfl
theorem vxb:(PV.agg ps).isTup=false:=rfl
theorem vxc:(PV.tup ps).isTup=true:=rfl
theorem vxd:(PV.int k n).flat=true:=rfl
theorem vrb:(PV.bool b).flat=true:=rfl
theorem vxe:(PV.str l).flat=true:=rfl
theorem vrc:PV.nilp.flat=true:=rfl
theorem vxf:(PV.slc ps).flat=false:=rfl
theorem vxg:(PV.imm ps).flat=false:=rfl
theorem vxh:(PV.agg ps).flat=PV.flat.flatAll ps:=rfl
theorem vxi:(PV.tup ps).flat=PV.flat.flatAll ps:=rfl
theorem vxj:PV.flat.flatAll []=true:=rfl
theorem vrd (x:PV):PV.flat.flatAll (x :: ps)=(x.flat && PV.flat.flatAll ps):=rfl
end
attribute [go_sem] vwx vqk vwy vql vqm vqn vqo vwz vqp vqq vw0 vqr vqs vw1 vw2 vqt vw3 vqu vqv vqw vqx vw4 vqy vqz vw5 vq0 vq1 vw6 vw7 vq2 vw8 vq3 vq4 vq5 vq6 vw9 vq7 vq8 vxa vq9 vra vxb vxc vxd vrb vxe vrc vxf vxg vxh vxi vxj vrd
theorem hgetC (k:Nat) (o:AO) (r:List (Nat×AO)) (l:Nat):qar ((k,o) :: r) l=if k=l then o else qar r l:=rfl
theorem genD (g:Nat):(AO.dead g).gen=g:=rfl
theorem genA (e sz g:Nat) (es:List AV):(AO.arr e sz g es).gen=g:=rfl
theorem genM (g:Nat) (ks vs:List AV):(AO.map g ks vs).gen=g:=rfl
theorem vxk (g:Nat):(AO.dead g).alive=false:=rfl
theorem vxl (e sz g:Nat) (es:List AV):(AO.arr e sz g es).alive=true:=rfl
theorem vxm (g:Nat) (ks vs:List AV):(AO.map g ks vs).alive=true:=rfl
theorem hgetN (l:Nat):qar [] l=.dead 0:=rfl
attribute [go_sem] q5i vu9 q8k vdb q25 vdc vgg qt2 qvp qqn qt1 vk3 qxg qsb q77 qxz AV.mapo.injEq q42 vk9 vc9 vla vga vqf vgb q0m vlb vgc vgd vlc q8j q5h q21 vge vda q23 q24 vgf q8l vqg vde vgh vdd qwl vqh vqi vld vdf qx9 vao vc7 vle vlf vgi vlg vgj vdg vdh q8m L.run_ofOpt L.run_ret L.run_fail L.run_look L.run_bind' qax ev ofV vou Env.get qel qrx qph hgetC hgetN vk1 vfi qvo qrs q0h qxy qml q74 qmc qkt qsp q1d vk2 q1e vfz qsq qnk aop.sliceT aop.lenT q7v qmm qct qer qk3 qg6 qoh vox vow vu8 strA unA eqL vfy vcy vfw vfx AV.cells AV.known AV.isAgg AV.one qks q73 q4z qpd splice qsz true_or or_true false_or or_false vf4 qt7 qwm qb0 Le vk7 qkm vas LeV qqu vaq vf5 vf8 vf7 qwn genD genA genM vxk vxl vxm St.sig PV.flat PV.flat.flatAll Ab.argsEnv qwy qqs
end Go.Ab
namespace Go.Ab
open Go
theorem qdw (P:Program) (fs:Array Field) {l:List (Nat×Nat)} (h:(fs.toList.map fun f=>(f.offset,P.cellsOf f.type))=l) (j:Nat):qsz P fs j=l[j]?:=by
 subst h;simp [qsz]
theorem qes (P:Program) (t:TypeId) {z:AV} (hz:qa9 P t=some z) (hk:z.known=true) (hu:P.underlying t=some (.struct (P.fieldsOf t)))
  (hall:((P.fieldsOf t).toList.all fun f=>(P.info? f.type).isSome)=true) {pl:Nat→Option (Nat×Nat)} (hp:qsz P (P.fieldsOf t)=pl) {qas:List (Nat×AV)} :
  qh0 P t qas=(qk3 pl z.cells qas).map qks:=by
 unfold qh0;rw [hu,hz];simp only [hk,hall,Bool.and_self,if_true,hp]
theorem vo2 (P:Program) (f:TypeId→List PV→List PV→Option Bool) (e c:Nat) (xs ys:List PV):∀l:List Nat,vov (f e) c xs ys l=eqL f (l.map fun i=>(e,i * c,c)) xs ys
 | []=>rfl
 | i :: l=>by
  simp only [vov,v3t,eqL,vo2 P f e c xs ys l];rfl
theorem vgl (P:Program) {t:TypeId} {n:Nat} {e:TypeId} {l:List (Nat×Nat×Nat)} (hu:P.underlying t=some (.array n e)) (he:(P.info? e).isSome=true)
  (hl:((v34 n).map fun i=>(e,i * P.cellsOf e,P.cellsOf e))=l) (d:Nat) (xs ys:List PV):eqT P (d+1) t xs ys=eqL (eqT P d) l xs ys:=by
 subst hl;unfold eqT;rw [hu];simp only [he,if_true];exact vo2 P (eqT P d) e (P.cellsOf e) xs ys _
theorem qbx {n:Int} (h1:-9223372036854775808≤n) (h2:n≤9223372036854775807):IntKind.i64.wrap n=n:=by
 simp only [IntKind.wrap,IntKind.signed,IntKind.bits];simp only [Bool.true_and,decide_eq_true_eq,ge_iff_le];rw [show ((2:Int) ^ (64 - 1))=9223372036854775808 from rfl,show ((2:Int) ^ 64)=18446744073709551616 from rfl];split <;> omega
theorem vre (D:Nat→Bool) (x:PV):view D 9 (.p x)=.ret x:=rfl
theorem vdj (D:Nat→Bool):view D 9 .nils=.ret (.slc []):=rfl
theorem vgm (D:Nat→Bool) (cs:List AV):view D 9 (.agg cs)=(qaz (view D 8) cs).bind fun xs=>.ret (.agg xs):=rfl
theorem vgn (D:Nat→Bool) (cs:List AV):view D 9 (.tup cs)=(qaz (view D 8) cs).bind fun xs=>.ret (.tup xs):=rfl
theorem vdk (D:Nat→Bool) (fn:Fn) (cs:List AV):view D 9 (.func fn cs)=(qaz (view D 8) cs).bind fun xs=>.ret (.func fn xs):=rfl
theorem vrf (D:Nat→Bool) (x:PV):view D 8 (.p x)=.ret x:=rfl
theorem vdl (D:Nat→Bool):view D 8 .nils=.ret (.slc []):=rfl
theorem vgo (D:Nat→Bool) (cs:List AV):view D 8 (.agg cs)=(qaz (view D 7) cs).bind fun xs=>.ret (.agg xs):=rfl
theorem vrg (D:Nat→Bool) (x:PV):view D 7 (.p x)=.ret x:=rfl
theorem vdm (D:Nat→Bool):view D 7 .nils=.ret (.slc []):=rfl
theorem vgp (D:Nat→Bool) (cs:List AV):view D 7 (.agg cs)=(qaz (view D 6) cs).bind fun xs=>.ret (.agg xs):=rfl
theorem vrh (D:Nat→Bool) (x:PV):view D 6 (.p x)=.ret x:=rfl
theorem vdn (D:Nat→Bool):view D 6 .nils=.ret (.slc []):=rfl
def qvs (D : Nat → Bool) (n l g off len : Nat) : L PV := if D l then .look l fun o => match o with
      | .arr _ _ g' es => if g = g' ∧ off + len ≤ es.length then (qaz (view D n) ((es.drop off).take len)).bind fun xs => .ret (.slc xs) else .fail
      | _ => .fail
    else .fail
def q26 (D : Nat → Bool) (n l g i off : Nat) : L PV := if D l then .look l fun o => match o with
      | .arr _ _ g' es => if g = g' then (match es[i]? with
        | some x => (qaz (view D n) (x.cells.drop off)).bind fun ys => .ret (.imm ys)
        | none => .fail) else .fail
      | _ => .fail
    else .fail
theorem vgq (D:Nat→Bool) (l g off len:Nat):view D 9 (.own l g off len)=qvs D 8 l g off len:=rfl
theorem vgr (D:Nat→Bool) (l g off len:Nat):view D 8 (.own l g off len)=qvs D 7 l g off len:=rfl
theorem vgs (D:Nat→Bool) (l g off len:Nat):view D 7 (.own l g off len)=qvs D 6 l g off len:=rfl
theorem vgt (D:Nat→Bool) (l g i off:Nat):view D 9 (.loc l g i off)=q26 D 8 l g i off:=rfl
theorem vgu (D:Nat→Bool) (l g i off:Nat):view D 8 (.loc l g i off)=q26 D 7 l g i off:=rfl
theorem vgv (D:Nat→Bool) (l g i off:Nat):view D 7 (.loc l g i off)=q26 D 6 l g i off:=rfl
theorem vdo (D:Nat→Bool) (xs:List PV):qaz (view D 9) (xs.map .p)=.ret xs:=qmi D 8 xs
theorem vdp (D:Nat→Bool) (xs:List PV):qaz (view D 8) (xs.map .p)=.ret xs:=qmi D 7 xs
theorem vdq (D:Nat→Bool) (xs:List PV):qaz (view D 7) (xs.map .p)=.ret xs:=qmi D 6 xs
theorem vdr (D:Nat→Bool) (xs:List PV):qaz (view D 6) (xs.map .p)=.ret xs:=qmi D 5 xs
theorem q8n (f:AV→L PV):qaz f []=.ret []:=rfl
theorem q5j (f:AV→L PV) (c:AV) (cs:List AV):qaz f (c :: cs)=(f c).bind fun x=>(qaz f cs).bind fun xs=>.ret (x :: xs):=rfl
attribute [go_sem] vre vdj vgm vgn vdk vrf vdl vgo vrg vdm vgp vrh vdn vgq vgr vgs vgt vgu vgv qvs q26 vdo vdp vdq vdr q8n q5j if_true if_false ite_true ite_false decide_true decide_false Bool.not_true Bool.not_false Bool.and_true Bool.true_and Bool.and_false Bool.false_and Bool.or_true Bool.true_or Bool.or_false Bool.false_or v3t v3u v5y v3o v3n v49 v6y v40 Option.bind_none v5u v5t v5v v5p v33 v2x List.drop_zero List.drop_succ_cons List.drop_nil List.take_zero List.take_succ_cons List.take_nil List.set_cons_zero List.set_cons_succ and_true true_and and_false false_and or_true true_or or_false false_or beq_self_eq_true v2o Bool.true_eq_false eq_self not_true_eq_false not_false_eq_true List.all_cons List.all_nil Option.isSome_some Option.isSome_none Option.getD_some Option.getD_none Int.toNat_natCast v5n List.any_nil AV.loc.injEq AV.own.injEq AV.p.injEq PV.int.injEq PV.bool.injEq PV.str.injEq PV.slc.injEq PV.agg.injEq PV.tup.injEq v5a v5b List.cons.injEq List.countP_nil Int.natCast_zero implies_true forall_const
end Go.Ab
namespace Go.Ab
variable {D:Prop}
open Go
theorem qye (P:Program) (B:Nat) {ρ ρ':Operand→AV} (o:Oper) (h:∀x∈o.op.operands,ρ x=ρ' x):aop P B ρ o=aop P B ρ' o:=by
 obtain ⟨dst,op,type,pos,after,guard⟩:=o;have pairs:∀ps:Array (Nat×Operand),(∀x∈ps.toList.map (·.2),ρ x=ρ' x)→(ps.toList.map fun p=>(p.1,ρ p.2))=(ps.toList.map fun p=>(p.1,ρ' p.2)):=fun ps hp =>
  v59 fun p hm=>by rw [hp p.2 (v6h.2 ⟨p,hm,rfl⟩)]
 cases op <;> simp only [Op.operands] at h <;> simp only [aop]
 case move x=>rw [h x (by simp)]
 case assign x=>rw [h x (by simp)]
 case pick c x y=>rw [h c (by simp),h x (by simp),h y (by simp)]
 case box t x=>rw [h x (by simp)]
 case build t ps=>rw [pairs ps fun x hx=>h x (by simpa using hx)]
 case buildSlice t n ps=>rw [pairs ps fun x hx=>h x (by simpa using hx)]
 case load t x=>rw [h x (by simp)]
 case store t x y=>rw [h x (by simp),h y (by simp)]
 case binOp op t x y yt=>rw [h x (by simp),h y (by simp)]
 case unOp op t x=>rw [h x (by simp)]
 case convert s d x=>rw [h x (by simp)]
 case makeFunc fn first captured =>
  have e:captured.toList.map ρ=captured.toList.map ρ':=v59 fun x hx=>h x (by simp at hx ⊢;exact .inr hx)
  rw [e]
 case makeSlice t l c=>rw [h l (by simp),h c (by simp)]
 case slice t x lo hi mx =>
  cases mx with
  | some m =>
   cases lo with
   | some l=>rfl
   | none=>cases hi with
    | none=>rfl
    | some hi=>simp only [aop];rw [h x (by simp),h hi (by simp),h m (by simp)]
  | none =>
   have e1:lo.map ρ=lo.map ρ':=by cases lo <;> simp;exact h _ (by simp)
   have e2:hi.map ρ=hi.map ρ':=by cases hi <;> simp;exact h _ (by simp)
   simp only [aop];rw [h x (by simp),e1,e2]
 case fieldAddr s x f=>rw [h x (by simp)]
 case indexAddr t x ix=>rw [h x (by simp),h ix (by simp)]
 case index t x ix=>rw [h x (by simp),h ix (by simp)]
 case makeMap t r=>cases r <;> rfl
 case lookup t m k c=>rw [h m (by simp),h k (by simp)]
 case mapUpdate t m k v=>rw [h m (by simp),h k (by simp),h v (by simp)]
 case insert t m k v=>rw [h m (by simp),h k (by simp),h v (by simp)]
 case field s x f=>rw [h x (by simp)]
 case nilCheck x=>rw [h x (by simp)]
 case extract x i=>rw [h x (by simp)]
 case call c =>
  obtain ⟨callee,args,argTypes⟩:=c;cases callee with
  | value f=>rfl
  | invoke r m=>rfl
  | builtin b =>
   have ha:∀x∈args.toList,ρ x=ρ' x:=fun x hx=>h x (by simpa [Call.operands] using hx)
   have e:args.toList.map ρ=args.toList.map ρ':=v59 ha;cases b <;> simp only [aop]
   case len =>
    split
    ·rename_i x t hxs hts;rw [ha x (by rw [hxs];simp)]
    ·rfl
   case append =>
    split
    ·rename_i s x t u hxs hts;rw [ha s (by rw [hxs];simp),ha x (by rw [hxs];simp)]
    ·rfl
   case clear =>
    split
    ·rename_i x t hxs hts;rw [ha x (by rw [hxs];simp)]
    ·rfl
   case max=>rw [e]
   case min=>rw [e]
structure Evt where
 v:AV
 u:Upd
 reads:List Nat
def Evt.wr (e:Evt):Option Nat:=e.u.map (·.1)
def qi0 (ρ:Operand→AV) (f:Operand) (args:List Operand):Option (FuncId×List AV) :=
 match ρ f with
 | .p (.func (.func k) cs)=>some (k,args.map ρ++cs.map .p)
 | .func (.func k) cs=>some (k,args.map ρ++cs)
 | _=>none
structure Cln (P:Program) (k:FuncId) (e sz by':Nat):Prop where
 body:HasBody P k
 ptr:∀(b off n c:Nat) (news:List Value) (w:World),news.length=n * sz→n≤maxLen→n * by'≤140737488355328→(∀j u,news[j]?=some u→w.cell? ⟨b,off+j,none⟩=some u)→(∀u∈news,u.oneCell'=true) →
  Calls P k #[.slice (some ⟨b,off,none⟩) n c] w fun e' w'=>∃v,e'=.returned v∧w'.ownsRow w.heap.size e sz v n news∧RowKit.Below w.heap.size w w'
 zero:∀(a:Addr) (c:Nat) (w:World),Calls P k #[.slice (some a) 0 c] w fun e' w'=>∃v,e'=.returned v∧w'.ownsRow w.heap.size e sz v 0 []∧RowKit.Below w.heap.size w w'
 nil:∀(n c:Nat) (w:World),Calls P k #[.slice none n c] w fun e' w'=>e'=.returned (.slice none 0 0)∧w'=w
def OpU (D:Prop) (P:Program) (o:Oper) (ρ:Operand→AV) (σ:Nat→AO) (v:AV) (u:Upd) (rs:List Nat):Prop :=
 ∀(X:Nat→Prop) (ρ':Operand→AV) (σ':Nat→AO),(∀x∈o.op.operands,ρ' x=ρ x)→(∀l∈rs,σ' l=σ l) →
  ∀{inj:Inj} {w:World} {a:Act} {next:Act→World→Prop} {Q:Exit→Act→World→Prop},HR X inj σ' w→TabOk P (fun b=>X b∨F inj σ' b) w→(∀x,AR X inj σ' w (ρ' x) (a.eval x)) →
   (∀val w' inj',HR X inj' (upd σ' u) w'→Ev D X inj σ' w inj' (upd σ' u) w'→AR X inj' (upd σ' u) w' v val→next (a.put o.dst val) w')→o.wp P a w next Q
inductive Does (C:Cx) (o:Oper) (ρ:Operand→AV) (σ:Nat→AO):Evt→Prop
 | op {v u} (h:(aop C.P C.B ρ o).run σ=some (v,u)):Does C o ρ σ ⟨v,u,(aop C.P C.B ρ o).reads σ⟩
 | call {f args ats k avs pargs r} (hp:vk6 C.D C.P k pargs r) (ho:o.op=.call ⟨.value f,args,ats⟩) (hk:HasBody C.P k) (hc:qi0 ρ f args.toList=some (k,avs))
   (hv:(qaz (view (fun _=>true) 9) avs).run σ=some pargs) (hfl:(qpd avs).isSome=true∨r.flat=true) :
   Does C o ρ σ ⟨.p r,none,(qaz (view (fun _=>true) 9) avs).reads σ⟩
 | built {t len qas v u x} (ho:o.op=.buildSlice t len qas) (h:(aop C.P C.B ρ o).run σ=some (v,u)) (hv:(view (fun l=>l == qjh C.B o) 9 v).run (upd σ u)=some x) :
   Does C o ρ σ ⟨.p x,none,(aop C.P C.B ρ o).reads σ++(view (fun l=>l == qjh C.B o) 9 v).reads (upd σ u)⟩
 | cloned {f args ats k e sz by' g xs} (S:Cln C.P k e sz by') (hw:¬C.D) (ho:o.op=.call ⟨.value f,args,ats⟩) (hc:qi0 ρ f args.toList=some (k,[.p (.slc xs)]))
   (hel:(xs.map AV.p).all (qer sz)=true) (hn:xs.length≤maxLen) (hby:xs.length * by'≤140737488355328) (hg:σ (qjh C.B o)=.dead g) :
   Does C o ρ σ ⟨.own (qjh C.B o) (g+1) 0 xs.length,some (qjh C.B o,.arr e sz (g+1) (xs.map AV.p)),[qjh C.B o]⟩
 | ext {v u rs} (h:OpU C.D C.P o ρ σ v u rs):Does C o ρ σ ⟨v,u,rs⟩
theorem qyf {X:Nat→Prop} {inj:Inj} {P:Program} {σ:Nat→AO} {w:World} (h:HR X inj σ w) {k:Nat} {t:TypeId} {len:Nat} {qas:List (Nat×AV)} {vparts:Array (Nat×Value)} {r:AV} {up:Upd} (hp:PartsR X inj σ w qas vparts.toList)
  (hr:(qg6 P k t len qas).run σ=some (r,up)) :
  ∃cs e,(Instr.buildSlice t len vparts).run P w=.ok (.slice (some ⟨w.heap.size,0,none⟩) len len) (w.alloc (.cells cs e)):=by
 unfold qg6 at hr;split at hr
 case h_2=>simp at hr
 rename_i e hu;split at hr
 case isFalse=>simp at hr
 rename_i hc;obtain ⟨hfst,hall,hsm,hpos,hmx,hzs⟩:=hc;obtain ⟨i,z,hi,hz,hzl',his,hib⟩:=qsy hzs;obtain ⟨hf,hars⟩:=hp.fst;obtain ⟨hsz,hone⟩:=qjn hall hars;have hlen:(vparts.toList.map (·.2)).length=len:=by
  have:=congrArg List.length (hf ▸ hfst);simpa using this
 have hdense:vparts.toList=((vparts.toList.map (·.2)).zipIdx 0).map fun x=>(x.2,x.1):=q5d 0 (by rw [←hf,hfst,List.range_eq_range'])
 have hflen:(flat (vparts.toList.map (·.2))).length=len * P.cellsOf e:=by rw [qbp hsz,hlen]
 refine ⟨(flat (vparts.toList.map (·.2))).toArray,e,?_⟩;by_cases h0:len * P.cellsOf e=0
 ·have hl0:len=0:=by
   rcases Nat.mul_eq_zero.1 h0 with h1 | h1
   ·exact h1
   ·omega
  have hfl0:flat (vparts.toList.map (·.2))=[]:=v26 (by rw [hflen,h0]);have hv0:vparts.toList=[]:=v26 (by rw [hl0] at hlen;simpa using hlen);have hv1:vparts=#[]:=by apply v19;simpa using hv0
  subst hl0;subst hv1;simp [Instr.buildSlice,run_underlying hu,sizeOf,typeInfo,hi,Instr.fill,newRow,flat];rw [show v2g 0=#[] from by simp [v2g]];simp
 ·have hw:=Great.fill_whole (s:=P.cellsOf e) hpos (vparts.toList.map (·.2)) ((v2g (len * P.cellsOf e)).map (z.cells[· % z.cells.size]!)) hsz (by rw [hlen];simp);rw [←hdense] at hw;have:=run_buildSlice (P:=P) w t e len vparts _ i z hu hi hz (by rw [his];omega) (by rw [his];exact h0) (by rw [his];exact hw);rw [this];rfl
theorem Fr.alloc (w:World) (c:Array Value) (t:TypeId):Fr D w (w.alloc (.cells c t)):=by
 have hh:(w.alloc (.cells c t)).heap=w.heap.push (.cells c t):=rfl;refine ⟨rfl,rfl,rfl,fun _=>v4o _,by rw [hh,Array.size_push];omega,fun a _=>qqm w c t a,fun b hb=>?_⟩;rw [hh,Array.getElem?_push,if_neg (Nat.ne_of_lt hb)]
theorem q8o {σ:Nat→AO} {u:Upd} {l:Nat} (h:u.map (·.1)≠some l):upd σ u l=σ l:=by
 cases u with
 | none=>rfl
 | some p=>simp only [upd,qhz];rw [if_neg (fun e=>h (by simp [e]))]
theorem vri {σ τ:Nat→AO} {u:Upd} {l:Nat} (h:u.map (·.1)=some l):upd σ u l=upd τ u l:=by
 cases u with
 | none=>cases h
 | some p=>simp only [v49,v5a] at h;simp [upd,qhz,h]
theorem Does.frame {C:Cx} {o:Oper} {ρ ρ':Operand→AV} {σ τ:Nat→AO} {e:Evt} (h:Does C o ρ σ e) (hρ:∀x∈o.op.operands,ρ x=ρ' x) (hσ:∀l∈e.reads,τ l=σ l):Does C o ρ' τ e:=by
 cases h with
 | @op v u h =>
  rw [qye C.P C.B o hρ] at h hσ ⊢;obtain ⟨h1,h2⟩:=L.frame _ h hσ;rw [←h2];exact .op h1
 | @call f args ats k avs pargs r hp ho hk hc hv hfl =>
  have hf:ρ f=ρ' f:=hρ f (by rw [ho];simp [Op.operands,Call.operands]);have ha:args.toList.map ρ=args.toList.map ρ':=v59 fun x hx=>hρ x (by rw [ho];simp [Op.operands,Call.operands] at hx ⊢;exact .inr hx)
  have hc':qi0 ρ' f args.toList=some (k,avs):=by
   unfold qi0 at hc ⊢;rw [←hf,←ha];exact hc
  obtain ⟨h1,h2⟩:=L.frame _ hv hσ;rw [←h2];exact .call hp ho hk hc' h1 hfl
 | @built t len qas v u x ho h hv =>
  rw [qye C.P C.B o hρ] at h hσ ⊢;obtain ⟨h1,h2⟩:=L.frame _ h fun l hl=>hσ l (v3v.2 (.inl hl))
  have hσ2:∀l∈(view (fun l=>l == qjh C.B o) 9 v).reads (upd σ u),upd τ u l=upd σ u l:=fun l hl=>by
   by_cases hw:u.map (·.1)=some l
   ·exact vri hw
   ·rw [q8o hw,q8o hw];exact hσ l (v3v.2 (.inr hl))
  obtain ⟨h3,h4⟩:=L.frame _ hv hσ2;rw [←h2,←h4];exact .built ho h1 h3
 | @cloned f args ats k e sz by' g xs S hw ho hc hel hn hby hg =>
  have hf:ρ f=ρ' f:=hρ f (by rw [ho];simp [Op.operands,Call.operands]);have ha:args.toList.map ρ=args.toList.map ρ':=v59 fun x hx=>hρ x (by rw [ho];simp [Op.operands,Call.operands] at hx ⊢;exact .inr hx)
  have hc':qi0 ρ' f args.toList=some (k,[.p (.slc xs)]):=by
   unfold qi0 at hc ⊢;rw [←hf,←ha];exact hc
  exact .cloned S hw ho hc' hel hn hby (by rw [hσ _ (by simp)];exact hg)
 | @ext v u rs h=>exact .ext fun X ρ2 σ2 h1 h2=>h X ρ2 σ2 (fun x hx=>(h1 x hx).trans (hρ x hx).symm) fun l hl=>(h2 l hl).trans (hσ l hl)
structure SRf (C:Cx) (ef:Nat→AV) (σ:Nat→AO) (inj:Inj) (a:Act) (w:World):Prop where
 env:∀t,AR C.X inj σ w (ef t) (a.tmps.getD t undef)
 size:a.tmps.size=C.N
 defers:a.defers=[]
 hr:HR C.X inj σ w
 ev:Ev C.D C.X C.inj0 (qar C.H0) C.w0 inj σ w
theorem SR.f {C:Cx} {st:St} {inj:Inj} {a:Act} {w:World} (h:SR C st inj a w):SRf C st.env.get st.sig inj a w:=⟨h.env,h.size,h.defers,h.hr,h.ev⟩
def evf (ef:Nat→AV):Operand→AV
 | .tmp t=>ef t
 | .const v=>ofV v
 | .func f=>.p (.func (.func f) [])
 | .global _=>.any
theorem qvt (env:Env):evf env.get=ev env:=by funext x;cases x <;> rfl
theorem SRf.eval {C:Cx} {ef:Nat→AV} {σ:Nat→AO} {inj:Inj} {a:Act} {w:World} (h:SRf C ef σ inj a w) (x:Operand):AR C.X inj σ w (evf ef x) (a.eval x):=by
 cases x with
 | tmp t=>exact h.env t
 | const v=>exact qtz v
 | global g=>trivial
 | func f=>exact ⟨[],rfl,rfl⟩
def qm7 (ef:Nat→AV) (d:Option Tmp) (v:AV):Nat→AV:=fun t=>if d=some t then v else ef t
theorem SRf.put {C:Cx} {ef:Nat→AV} {σ:Nat→AO} {inj:Inj} {a:Act} {w:World} (h:SRf C ef σ inj a w) {o:Oper} (hd:qbb C.N o=true) {v:AV} {val:Value} {u:Upd} {inj':Inj} {w':World}
  (h1:HR C.X inj' (upd σ u) w') (h2:Ev C.D C.X inj σ w inj' (upd σ u) w') (h3:AR C.X inj' (upd σ u) w' v val) :
  SRf C (qm7 ef o.dst v) (upd σ u) inj' (a.put o.dst val) w':=by
 refine ⟨fun t=>?_,?_,?_,h1,h.ev.trans h2⟩
 ·unfold qm7;cases hdst:o.dst with
  | none=>simpa [Act.put] using AR.ev h2 h.hr.xlt _ _ (h.env t)
  | some d =>
   simp only [qbb,hdst,decide_eq_true_eq] at hd;simp only [Act.put,v5a];by_cases ht:d=t
   ·subst ht;rw [if_pos rfl];have:(a.tmps.setIfInBounds d val).getD d undef=val:=by simp [h.size,hd]
    rw [this];exact h3
   ·rw [if_neg ht];have:(a.tmps.setIfInBounds d val).getD t undef=a.tmps.getD t undef:=by simp [v2d ht]
    rw [this];exact AR.ev h2 h.hr.xlt _ _ (h.env t)
 ·cases hdst:o.dst <;> simp [Act.put,h.size]
 ·cases hdst:o.dst <;> simp [Act.put,h.defers]
theorem Does.sound {C:Cx} {ef:Nat→AV} {σ:Nat→AO} {inj:Inj} {a:Act} {w:World} {o:Oper} {e:Evt} {next:Act→World→Prop} {Q:Exit→Act→World→Prop}
  (h:Does C o (evf ef) σ e) (hs:SRf C ef σ inj a w) (hd:qbb C.N o=true) (hnx:∀a' w' inj',SRf C (qm7 ef o.dst e.v) (upd σ e.u) inj' a' w'→next a' w'):o.wp C.P a w next Q:=by
 cases h with
 | @op v u h =>
  exact van C.B o (evf ef) hs.hr (fun x=>hs.eval x) h fun val w' inj' h1 h2 h3=>hnx _ _ _ (hs.put hd h1 h2.weak.weak h3)
 | @call f args ats k avs pargs r hp ho hk hc hv hfl =>
  have hf:=hs.eval f;have hargs:=qqq (fun x=>hs.eval x) args.toList;have hcall:∃vs,(execOp a.eval o).run C.P w=.ok (.enter k vs.toArray) w∧ARs C.X inj σ w avs vs:=by
   obtain ⟨dst,op,type,pos,after,guard⟩:=o;simp only at ho;subst ho;unfold qi0 at hc;have run:∀cap:Array Value,a.eval f=.func (.func k) #[] cap→(execOp a.eval ⟨dst,.call ⟨.value f,args,ats⟩,type,pos,after,guard⟩).run C.P w=.ok (.enter k (args.map a.eval++cap)) w:=by
    intro cap he;simp only [execOp,resolve,Deferred.ofValue,he,v5e,v5f,v5c,invoke];rw [hk];simp
   split at hc
   ·rename_i k' cs hev;simp only [v5a,v5b] at hc;obtain ⟨rfl,rfl⟩:=hc;rw [hev] at hf;obtain ⟨vs,h1,h2⟩:=hf;refine ⟨args.toList.map a.eval++vs,?_,hargs.append (qbt.2 h2)⟩;rw [run vs.toArray h1];congr 2;apply v19;simp
   ·rename_i k' cs hev;simp only [v5a,v5b] at hc;obtain ⟨rfl,rfl⟩:=hc;rw [hev] at hf;obtain ⟨vs,h1,h2⟩:=hf;refine ⟨args.toList.map a.eval++vs,?_,hargs.append h2⟩;rw [run vs.toArray h1];congr 2;apply v19;simp
   ·cases hc
  obtain ⟨vs,hrun,hars⟩:=hcall;unfold Oper.wp;rw [hrun];simp only [Oper.upon];rcases hfl with hfl | hfl
  ·obtain ⟨xs,hxs⟩:=v47.1 hfl;have hav:=qsx hxs;subst hav;rw [qmi] at hv;simp only [L.run_ret,v5a] at hv;subst hv;refine (hp (fun b=>C.X b∨F inj σ b) w vs (fun b hb=>hb.elim (hs.hr.xlt b) fun hf=>(hs.hr.flt hf).1) (qol hs.ev) (qbt.1 hars)).mono ?_;rintro e w' ⟨v,rfl,h1,h2⟩;exact hnx _ _ inj (hs.put (u:=none) hd (hs.hr.fr h2) h2.ev h1)
  ·have hpr:=qeg (qd4 hs.hr (fun _=>true) 9) avs vs pargs hars hv;have hpr':PRs C.X w pargs vs:=PRs.keep ⟨v4o _,fun _ _ _=>rfl,fun b _ hx hn=>hx (.inl hn)⟩ pargs vs hpr;refine (hp C.X w vs hs.hr.xlt ((qol hs.ev).keep ⟨v4o _,fun _ _ _=>rfl,fun b _ hx hn=>hx (.inl hn)⟩) hpr').mono ?_;rintro e w' ⟨v,rfl,h1,h2⟩;exact hnx _ _ inj (hs.put (u:=none) hd (hs.hr.fr h2) h2.ev (PR.flat r v hfl h1))
 | @built t len qas v u x ho h hv =>
  obtain ⟨dst,op,type,pos,after,guard⟩:=o;simp only at ho;subst ho;have hr:(qg6 C.P (qjh C.B ⟨dst,.buildSlice t len qas,type,pos,after,guard⟩) t len (qas.toList.map fun p=>(p.1,evf ef p.2))).run σ=some (v,u):=h;have hp:PartsR C.X inj σ w (qas.toList.map fun p=>(p.1,evf ef p.2)) (qas.map fun p=>(p.1,a.eval p.2)).toList:=by simpa using qrw (fun x=>hs.eval x) qas.toList
  obtain ⟨val,w',inj',h1,h2,h3,h4⟩:=qoj (P:=C.P) (D:=C.D) hs.hr hp hr;obtain ⟨cs,e,h5⟩:=qyf (P:=C.P) hs.hr hp hr;rw [h5] at h1;simp only [Result.ok.injEq] at h1;obtain ⟨rfl,rfl⟩:=h1;have hfr:Fr C.D w (w.alloc (.cells cs e)):=Fr.alloc w _ _;have hx0:=qd4 h2 (fun l=>l == qjh C.B ⟨dst,.buildSlice t len qas,type,pos,after,guard⟩) 9 v _ x h4 hv;have hx:AR C.X inj σ (w.alloc (.cells cs e)) (.p x) (Value.slice (some ⟨w.heap.size,0,none⟩) len len):=by
   refine PR.keep ⟨v4o _,fun _ _ _=>rfl,fun b _ hx hn=>hx ?_⟩ x _ hx0;rcases hn with hn | hn
   ·exact .inl hn
   ·refine .inr ?_;obtain ⟨l,c,o,g1,g2,g3,g4⟩:=hn;have hw:∃g,σ (qjh C.B ⟨dst,.buildSlice t len qas,type,pos,after,guard⟩)=.dead g∧u.map (·.1)=some (qjh C.B ⟨dst,.buildSlice t len qas,type,pos,after,guard⟩):=by
     unfold qg6 at hr;split at hr
     case h_2=>simp at hr
     split at hr
     case isFalse=>simp at hr
     obtain ⟨g,q1,_,q3⟩:=q2w hr;exact ⟨g,q1,by rw [q3];rfl⟩
    obtain ⟨g,q1,q2⟩:=hw;have hne:l≠qjh C.B ⟨dst,.buildSlice t len qas,type,pos,after,guard⟩:=fun he=>by
     subst he;rw [q1] at g1;subst g1;cases g2
    have hu':upd σ u l=σ l:=q8o (by rw [q2];intro he;exact hne (by simpa using he.symm));have ho:=(h3.objs l).2;rw [hu',g1] at ho;refine ⟨l,c,o,by rw [hu',g1],g2,by simpa using hne,?_⟩;rw [(ho g2 rfl).1];exact g4
  have e':(qas.map fun p=>(p.1,a.eval p.2))=(qas.map fun (i,x)=>(i,a.eval x)):=rfl;rw [e'] at h5;have he:execOp a.eval ⟨dst,.buildSlice t len qas,type,pos,after,guard⟩=(do pure (Next.value (←Instr.buildSlice t len (qas.map fun (i,x)=>(i,a.eval x))))):=by
   simp only [execOp]
  exact qok he h5 (hnx _ _ inj (hs.put (u:=none) hd (hs.hr.fr hfr) hfr.ev hx))
 | @cloned f args ats k e sz by' g xs S hw ho hc hel hn hby hg =>
  have hf:=hs.eval f;have hargs:=qqq (fun x=>hs.eval x) args.toList;obtain ⟨avs,havs⟩:∃avs,avs=[AV.p (.slc xs)]:=⟨_,rfl⟩;rw [←havs] at hc;have hnext:=hnx;have hk:HasBody C.P k:=S.body;have hcall:∃vs,(execOp a.eval o).run C.P w=.ok (.enter k vs.toArray) w∧ARs C.X inj σ w avs vs:=by
   obtain ⟨dst,op,type,pos,after,guard⟩:=o;simp only at ho;subst ho;unfold qi0 at hc;have run:∀cap:Array Value,a.eval f=.func (.func k) #[] cap→(execOp a.eval ⟨dst,.call ⟨.value f,args,ats⟩,type,pos,after,guard⟩).run C.P w=.ok (.enter k (args.map a.eval++cap)) w:=by
    intro cap he;simp only [execOp,resolve,Deferred.ofValue,he,v5e,v5f,v5c,invoke];rw [hk];simp
   split at hc
   ·rename_i k' cs hev;simp only [v5a,v5b] at hc;obtain ⟨rfl,rfl⟩:=hc;rw [hev] at hf;obtain ⟨vs,h1,h2⟩:=hf;refine ⟨args.toList.map a.eval++vs,?_,hargs.append (qbt.2 h2)⟩;rw [run vs.toArray h1];congr 2;apply v19;simp
   ·rename_i k' cs hev;simp only [v5a,v5b] at hc;obtain ⟨rfl,rfl⟩:=hc;rw [hev] at hf;obtain ⟨vs,h1,h2⟩:=hf;refine ⟨args.toList.map a.eval++vs,?_,hargs.append h2⟩;rw [run vs.toArray h1];congr 2;apply v19;simp
   ·cases hc
  obtain ⟨vs,hrun,hars⟩:=hcall;rw [havs] at hars;unfold Oper.wp;rw [hrun];simp only [Oper.upon];obtain ⟨v1,r1,rfl,ha1,rfl⟩:=hars;have ha2:PR (fun b=>C.X b∨F inj σ b) w (.slc xs) v1:=ha1;simp only [PR] at ha2;obtain ⟨a0,cap,us,rfl,hcap,hus,hat⟩:=ha2;have hus':ARs C.X inj σ w (xs.map AV.p) us:=qbt.2 hus;obtain ⟨hsz,hone⟩:=qjn hel hus';have hlen:us.length=xs.length:=by have:=hus'.length;simpa using this.symm
  have hfl:(flat us).length=xs.length * sz:=by rw [qbp hsz,hlen]
  have fin:∀v w',World.ownsRow w' w.heap.size e sz v xs.length (flat us)→RowKit.Below w.heap.size w w'→next (a.put o.dst v) w':=by
   intro v w' hrow hbel;have hfz:∀a:Addr,a.block < w.heap.size→w'.frozen? a=w.frozen? a:=fun a ha=>by unfold World.frozen?;rw [hbel.block _ ha]
   obtain ⟨_,hrow⟩:=hrow;rcases hrow with ⟨rfl,hz⟩ | ⟨gb,cp,cur,rfl,hbase,hgb,q1,q2,q3,q4⟩
   ·have hxs:xs=[]:=v5z.1 hz;have hup:=hs.hr.update (D:=C.D) (w':=w') (l:=qjh C.B o) (o:=.dead g) (o':=.arr e sz (g+1) (xs.map AV.p)) (x:=none) hg hbel.os hbel.tape hbel.output (fun hd=>absurd hd hw) hbel.size hfz
     (fun b hb _=>hbel.block b hb) (fun b1 c1 h1=>by cases h1) ⟨by simp [AO.gen],fun _ he=>by simp [AO.gen] at he⟩
    obtain ⟨hev,hhr⟩:=hup;refine hnext _ _ _ (hs.put (u:=some (qjh C.B o,.arr e sz (g+1) (xs.map AV.p))) hd (hhr ⟨us,ARs.ev hev hs.hr.xlt _ us hus',hsz,hone,.inl ⟨by simp,by rw [hxs];rfl⟩⟩) hev ?_);refine ⟨⟨_,_,_,rfl⟩,fun oo hoo=>?_⟩;have:oo=.arr e sz (g+1) (xs.map AV.p):=by rw [←hoo];exact qce _ _ _
    subst this;exact ⟨v4o _,fun _ e1 sz1 es1 he=>by cases he;exact ⟨by simp,.inl ⟨by simp,rfl,rfl,hz⟩⟩⟩
   ·have hup:=hs.hr.update (D:=C.D) (w':=w') (l:=qjh C.B o) (o:=.dead g) (o':=.arr e sz (g+1) (xs.map AV.p)) (x:=some (gb,cp)) hg hbel.os hbel.tape hbel.output (fun hd=>absurd hd hw) hbel.size hfz
     (fun b hb _=>hbel.block b hb) (fun b1 c1 h1=>by cases h1;exact .inl hbase) ⟨by simp [AO.gen],fun _ he=>by simp [AO.gen] at he⟩
    obtain ⟨hev,hhr⟩:=hup;have hH:=hhr ⟨us,ARs.ev hev hs.hr.xlt _ us hus',hsz,hone,.inr ⟨gb,cp,cur,by simp,fun hX=>by have:=hs.hr.xlt gb hX;omega,hgb,by simpa using q1,q2,q3,by simpa using q4⟩⟩;refine hnext _ _ _ (hs.put (u:=some (qjh C.B o,.arr e sz (g+1) (xs.map AV.p))) hd hH hev ?_);have hown:vcx (fun q=>if q=qjh C.B o then some (gb,cp) else inj q) (qhz σ (qjh C.B o) (.arr e sz (g+1) (xs.map AV.p))) (qjh C.B o) (g+1) 0 xs.length (.slice (some ⟨gb,0,none⟩) xs.length cp):=ql2 (qce _ _ _) (if_pos rfl) (by simp) q1;exact hown
  rcases hat with rfl | ⟨b,off,sz',rfl,hsz2,hone2,hrow⟩
  ·have hx0:xs.length=0:=by rw [←hlen];rfl
   cases a0 with
   | none =>
    refine (S.nil _ _ w).mono ?_;rintro e' w' ⟨rfl,rfl⟩;exact fin _ _ (by rw [hx0];exact ⟨by simp [flat],.inl ⟨rfl,rfl⟩⟩) (RowKit.Below.refl _ _)
   | some ad =>
    rw [hx0];refine (S.zero ad _ w).mono ?_;rintro e' w' ⟨v,rfl,h1,h2⟩;exact fin _ _ (by rw [hx0];exact h1) h2
  ·obtain ⟨_,_,hcell⟩:=hrow;refine (S.ptr b off _ _ (flat us) w hfl hn hby hcell hone).mono ?_;rintro e' w' ⟨v,rfl,h1,h2⟩;exact fin _ _ h1 h2
 | @ext v u rs h=>exact h C.X _ _ (fun _ _=>rfl) (fun _ _=>rfl) hs.hr (qol hs.ev) (fun x=>hs.eval x) fun val w' inj' h1 h2 h3=>hnx _ _ _ (hs.put hd h1 h2 h3)
def qom (ops:Array Oper) (ef:Nat→AV) (o:Oper):Option Bool :=
 match o.guard with
 | none=>some true
 | some (j,want)=>match (ops[j]?).bind (·.dst) with
  | some d=>(match ef d with | .p (.bool b)=>some (b == want) | .p (.tup [])=>some false | _=>none)
  | none=>none
theorem qon (ops:Array Oper) (env:Env) (o:Oper):qom ops env.get o=qax ops env o:=rfl
theorem qjo {C:Cx} {ef:Nat→AV} {σ:Nat→AO} {inj:Inj} {a:Act} {w:World} {ops:Array Oper} {o:Oper} {b:Bool} (h:SRf C ef σ inj a w) (hg:qom ops ef o=some b) :
  Region.wanted o (yielded ops a.tmps)=b:=by
 unfold qom at hg;unfold Region.wanted;split at hg
 ·rename_i hgd;simp only [v5a] at hg;subst hg;rw [hgd]
 ·rename_i j want hgd;rw [hgd];split at hg
  ·rename_i d hd;have he:=h.env d;split at hg
   ·rename_i b' hb;simp only [v5a] at hg;subst hg;rw [hb] at he;simp only [AR,PR] at he;have ht:a.tmps[d]?=some (.bool b'):=by
     cases hx:a.tmps[d]? with
     | none=>simp [hx,undef] at he
     | some x=>simp [hx] at he;rw [he]
    simp only [yielded,hd,v40,ht];cases b' <;> cases want <;> rfl
   ·rename_i hb;simp only [v5a] at hg;subst hg;rw [hb] at he;obtain ⟨vs,he,_⟩:=he;have ht:a.tmps[d]?=none∨a.tmps[d]?=some (.tuple vs.toArray):=by
     cases hx:a.tmps[d]? with
     | none=>exact .inl rfl
     | some x=>simp [hx] at he;exact .inr (by rw [he])
    rcases ht with ht | ht <;> simp only [yielded,hd,v40,ht] <;> cases want <;> rfl
   ·cases hg
  ·cases hg
def q8p (C:Cx) (ops:Array Oper) (o:Oper) (ef:Nat→AV) (σ:Nat→AO) (e:Evt):Prop :=
 qbb C.N o=true∧((qom ops ef o=some true∧Does C o (evf ef) σ e)∨(qom ops ef o=some false∧e=⟨.p (.tup []),none,[]⟩))
theorem qoo {ops:Array Oper} {o:Oper} {t:Tmp} (h:Operand.tmp t∈o.op.operands):t∈o.looksAt ops:=by
 unfold Oper.looksAt;refine v3v.2 (.inl ?_);exact List.mem_filterMap.2 ⟨.tmp t,by simpa using h,rfl⟩
theorem q8p.frame {C:Cx} {ops:Array Oper} {o:Oper} {ef ef':Nat→AV} {σ τ:Nat→AO} {e:Evt} (h:q8p C ops o ef σ e) (hs:∀t∈o.looksAt ops,ef' t=ef t) (hσ:∀l∈e.reads,τ l=σ l) :
  q8p C ops o ef' τ e:=by
 obtain ⟨hd,h⟩:=h;have hg:qom ops ef' o=qom ops ef o:=by
  unfold qom;split
  ·rfl
  ·rename_i j want hgd;split
   ·rename_i d hdd;rw [hs d (by unfold Oper.looksAt;refine v3v.2 (.inr ?_);rw [hgd];simp [hdd])]
   ·rfl
 refine ⟨hd,?_⟩;rw [hg];rcases h with ⟨h1,h2⟩ | h
 ·refine .inl ⟨h1,h2.frame (fun x hx=>?_) hσ⟩;cases x with
  | tmp t=>exact (hs t (qoo hx)).symm
  | _=>rfl
 ·exact .inr h
def apD (ops:Array Oper):List Evt→Nat→(Nat→Bool)→(Nat→AV)×(Nat→AO)→(Nat→AV)×(Nat→AO)
 | [],_,_,s=>s
 | e :: es,i,D,s=>apD ops es (i+1) D (if D i then (qm7 s.1 ((ops[i]?).bind (·.dst)) e.v,upd s.2 e.u) else s)
def qyg (C:Cx) (ops:Array Oper):List Evt→Nat→(Nat→AV)×(Nat→AO)→Prop
 | [],i,_=>ops.size≤i
 | e :: es,i,s=>(∃o,ops[i]?=some o∧q8p C ops o s.1 s.2 e)∧qyg C ops es (i+1) (qm7 s.1 ((ops[i]?).bind (·.dst)) e.v,upd s.2 e.u)
theorem q27 (ops:Array Oper) (t:Nat):∀(es:List Evt) (i:Nat) (D D':Nat→Bool) (s s':(Nat→AV)×(Nat→AO)),s.1 t=s'.1 t →
  (∀j,i≤j→j < i+es.length→(ops[j]?).bind (·.dst)=some t→D j=D' j)→(apD ops es i D s).1 t=(apD ops es i D' s').1 t
 | [],_,_,_,_,_,h,_=>h
 | e :: es,i,D,D',s,s',h,hD=>by
  simp only [apD];refine q27 ops t es (i+1) D D' _ _ ?_ fun j h1 h2 h3=>hD j (by omega) (by simp only [v5y];omega) h3
  by_cases hd:(ops[i]?).bind (·.dst)=some t
  ·rw [hD i (v4o _) (by simp) hd];split
   ·simp [qm7,hd]
   ·exact h
  ·split <;> split <;> simp [qm7,hd,h]
theorem q1m {σ:Nat→AO} {u:Upd} {l:Nat} (h:u.map (·.1)≠some l):upd σ u l=σ l:=by
 cases u with
 | none=>rfl
 | some p=>simp only [upd,qhz];rw [if_neg (fun e=>h (by simp [e]))]
theorem vgw {σ τ:Nat→AO} {u:Upd} {l:Nat} (h:u.map (·.1)=some l):upd σ u l=upd τ u l:=by
 cases u with
 | none=>cases h
 | some p=>simp only [v49,v5a] at h;simp [upd,qhz,h]
theorem q8q (ops:Array Oper) (l:Nat):∀(es:List Evt) (i:Nat) (D D':Nat→Bool) (s s':(Nat→AV)×(Nat→AO)),s.2 l=s'.2 l →
  (∀j e,i≤j→es[j - i]?=some e→e.wr=some l→D j=D' j)→(apD ops es i D s).2 l=(apD ops es i D' s').2 l
 | [],_,_,_,_,_,h,_=>h
 | e :: es,i,D,D',s,s',h,hD=>by
  simp only [apD];refine q8q ops l es (i+1) D D' _ _ ?_ fun j e' h1 h2 h3=>hD j e' (by omega) (by rw [show j - i=(j - (i+1))+1 by omega];simpa using h2) h3
  by_cases hd:e.wr=some l
  ·rw [hD i e (v4o _) (by simp) hd];split
   ·exact vgw hd
   ·exact h
  ·have hd':e.u.map (·.1)≠some l:=hd;split <;> split <;> simp only [q1m hd',h]
theorem q28 (ops:Array Oper) (i:Nat) (ei:Evt):∀(es:List Evt) (k:Nat) (D:Nat→Bool) (s:(Nat→AV)×(Nat→AO)),k≤i→es[i - k]?=some ei→D i=false →
  (∀j e,i < j→es[j - k]?=some e→D j=true→((ops[j]?).bind (·.dst)=none∨(ops[j]?).bind (·.dst)≠(ops[i]?).bind (·.dst))∧(e.wr=none∨e.wr≠ei.wr)) →
  apD ops es k (fun j=>j == i || D j) s=(qm7 (apD ops es k D s).1 ((ops[i]?).bind (·.dst)) ei.v,upd (apD ops es k D s).2 ei.u)
 | [],k,D,s,_,h,_,_=>by simp at h
 | e :: es,k,D,s,hk,h,hi,hj=>by
  by_cases hki:k=i
  ·subst hki;simp only [v6u,v5u,v5a] at h;subst h;simp only [apD,beq_self_eq_true,Bool.true_or,if_true,hi,v2o,if_false]
   -- the rest commutes
   have comm:∀(es':List Evt) (m:Nat) (D1 D2:Nat→Bool) (s:(Nat→AV)×(Nat→AO)),(∀j,m≤j→D1 j=D2 j) →
     (∀j e',m≤j→es'[j - m]?=some e'→D2 j=true→((ops[j]?).bind (·.dst)=none∨(ops[j]?).bind (·.dst)≠(ops[k]?).bind (·.dst))∧(e'.wr=none∨e'.wr≠e.wr)) →
     apD ops es' m D1 (qm7 s.1 ((ops[k]?).bind (·.dst)) e.v,upd s.2 e.u)=(qm7 (apD ops es' m D2 s).1 ((ops[k]?).bind (·.dst)) e.v,upd (apD ops es' m D2 s).2 e.u):=by
    intro es'
    induction es' with
    | nil=>intro m D1 D2 s _ _;rfl
    | cons e' es' ih =>
     intro m D1 D2 s hD hw;simp only [apD,hD m (v4o _)];cases hm:D2 m with
     | false =>
      simp only [v2o,if_false];exact ih (m+1) D1 D2 s (fun j hj=>hD j (by omega)) fun j e1 h1 h2 h3=>hw j e1 (by omega) (by rw [show j - m=(j - (m+1))+1 by omega];simpa using h2) h3
     | true =>
      simp only [if_true];obtain ⟨w1,w2⟩:=hw m e' (v4o _) (by simp) hm;have e1:qm7 (qm7 s.1 ((ops[k]?).bind (·.dst)) e.v) ((ops[m]?).bind (·.dst)) e'.v=qm7 (qm7 s.1 ((ops[m]?).bind (·.dst)) e'.v) ((ops[k]?).bind (·.dst)) e.v:=by
       funext t;simp only [qm7];by_cases c1:(ops[m]?).bind (·.dst)=some t
       ·by_cases c2:(ops[k]?).bind (·.dst)=some t
        ·rcases w1 with w1 | w1
         ·rw [c1] at w1;cases w1
         ·rw [c1,c2] at w1;exact (w1 rfl).elim
        ·simp [c1,c2]
       ·simp [c1]
      have e2:upd (upd s.2 e.u) e'.u=upd (upd s.2 e'.u) e.u:=by
       funext l;by_cases c1:e'.wr=some l
       ·by_cases c2:e.wr=some l
        ·rcases w2 with w2 | w2
         ·rw [c1] at w2;cases w2
         ·rw [c1,c2] at w2;exact (w2 rfl).elim
        ·have c2':e.u.map (·.1)≠some l:=c2;rw [q1m (σ:=upd s.2 e'.u) c2'];exact vgw c1
       ·have c1':e'.u.map (·.1)≠some l:=c1;rw [q1m (σ:=upd s.2 e.u) c1'];by_cases c2:e.wr=some l
        ·exact vgw c2
        ·have c2':e.u.map (·.1)≠some l:=c2;rw [q1m c2',q1m c2',q1m c1']
      rw [e1,e2];exact ih (m+1) D1 D2 (qm7 s.1 ((ops[m]?).bind (·.dst)) e'.v,upd s.2 e'.u) (fun j hj=>hD j (by omega)) fun j e1 h1 h2 h3=>hw j e1 (by omega) (by rw [show j - m=(j - (m+1))+1 by omega];simpa using h2) h3
   exact comm es (k+1) _ D s (fun j hj=>by have:(j == k)=false:=(by simp;omega);simp [this]) fun j e' h1 h2 h3=>hj j e' (by omega) (by rw [show j - k=(j - (k+1))+1 by omega];simpa using h2) h3
  ·have hb:(k == i)=false:=by simpa using hki
   simp only [apD,hb,Bool.false_or];exact q28 ops i ei es (k+1) D _ (by omega) (by rw [show i - k=(i - (k+1))+1 by omega] at h;simpa using h) hi fun j e' h1 h2 h3=>hj j e' h1 (by rw [show j - k=(j - (k+1))+1 by omega];simpa using h2) h3
def qd5 (ops:Array Oper) (j:Nat):List Nat :=
 match ops[j]? with
 | some o=>(o.after.toList.filter (Region.binds .any)).map (·.on)
 | none=>[]
def ancM (A:Nat) (l:List Nat):Nat:=l.foldl (fun m p=>m ||| ((1 <<< p) ||| (A >>> (256 * p)))) 0
def vat (ops:Array Oper):Nat→Nat
 | 0=>0
 | k+1=>vat ops k ||| ((ancM (vat ops k) (qd5 ops k) % 2 ^ 256) <<< (256 * k))
def q0n (A j i:Nat):Bool:=decide (i < 256) && A.testBit (256 * j+i)
inductive Reach (ops:Array Oper):Nat→Nat→Prop
 | one {j i} (h:i∈qd5 ops j):Reach ops j i
 | more {j m i} (h:m∈qd5 ops j) (h2:Reach ops m i):Reach ops j i
theorem vau (A i:Nat):∀(l:List Nat) (m:Nat),(l.foldl (fun m p=>m ||| ((1 <<< p) ||| (A >>> (256 * p)))) m).testBit i=true→m.testBit i=true∨∃p∈l,p=i∨A.testBit (256 * p+i)=true
 | [],m,h=>.inl h
 | p :: l,m,h=>by
  rw [List.foldl_cons] at h;rcases vau A i l _ h with h | ⟨q,h1,h2⟩
  ·simp only [Nat.testBit_or,v6v,Nat.testBit_shiftRight,v2r,v2m,decide_eq_true_eq] at h;rcases h with h | ⟨h1,h2⟩ | h
   ·exact .inl h
   ·refine .inr ⟨p,by simp,.inl ?_⟩;have:i - p=0:=by
     apply Classical.byContradiction;intro hn;have hz:Nat.testBit 1 (i - p)=false:=Nat.testBit_lt_two_pow (Nat.one_lt_two_pow hn);rw [hz] at h2;cases h2
    omega
   ·exact .inr ⟨p,by simp,.inr h⟩
  ·exact .inr ⟨q,by simp [h1],h2⟩
theorem qvu (ops:Array Oper):∀(k j i:Nat),i < 256→(vat ops k).testBit (256 * j+i)=true→Reach ops j i
 | 0,j,i,_,h=>by simp [vat] at h
 | k+1,j,i,hi,h=>by
  simp only [vat,Nat.testBit_or,v6v,Nat.testBit_mod_two_pow,v2r,v2m,decide_eq_true_eq] at h;rcases h with h | ⟨h1,h2,h3⟩
  ·exact qvu ops k j i hi h
  ·have hjk:j=k:=by omega
   subst hjk;rw [show 256 * j+i - 256 * j=i by omega] at h3;rcases vau _ i _ 0 h3 with h | ⟨p,q1,q2⟩
   ·simp at h
   ·rcases q2 with rfl | q2
    ·exact .one q1
    ·exact .more q1 (qvu ops j p i hi q2)
theorem qmp {ops:Array Oper} {k j i:Nat} (h:q0n (vat ops k) j i=true):Reach ops j i:=by
 simp only [q0n,v2m,decide_eq_true_eq] at h;exact qvu ops k j i h.1 h.2
def q1n (ops:Array Oper) (D:Nat→Bool):Prop:=∀j,D j=true→∀i∈qd5 ops j,D i=true
theorem Reach.closed {ops:Array Oper} {D:Nat→Bool} (hc:q1n ops D) {j i:Nat} (h:Reach ops j i):D j=true→D i=true:=by
 induction h with
 | one h=>exact fun hj=>hc _ hj _ h
 | more h _ ih=>exact fun hj=>ih (hc _ hj _ h)
theorem Reach.ready {ops:Array Oper} {D:Nat→Bool} (hc:q1n ops D) {j i:Nat} (hp:∀i∈qd5 ops j,D i=true) (h:Reach ops j i):D i=true:=by
 cases h with
 | one h=>exact hp _ h
 | more h h2=>exact h2.closed hc (hp _ h)
def qh2 (ops:Array Oper):Bool :=
  let A:=vat ops ops.size
  (v34 ops.size).all fun j=>(qd5 ops j).all (fun m=>decide (m < j)) && (v34 j).all fun i=>q0n A j i ||
    (match ops[i]?,ops[j]? with
     | some x,some y=>x.apart ops y
     | _,_=>true)
def evOk (x y:Evt):Prop:=(∀l,x.wr=some l→l ∉ y.reads∧y.wr≠some l)∧(∀l,y.wr=some l→l ∉ x.reads)
def vds (x y:Evt):Bool :=
  (match x.wr with
   | some l=>!y.reads.contains l && y.wr != some l
   | none=>true) && (match y.wr with
   | some l=>!x.reads.contains l
   | none=>true)
theorem vdt {x y:Evt} (h:vds x y=true):evOk x y:=by
 constructor
 ·intro l hl;simp [vds,hl] at h;exact h.1
 ·intro l hl;simp [vds,hl] at h;exact h.2
def qvv (ops:Array Oper) (es:List Evt):Bool :=
  let A:=vat ops ops.size
  (v34 ops.size).all fun j=>(v34 j).all fun i=>q0n A j i ||
    (match es[i]?,es[j]? with
     | some x,some y=>vds x y
     | _,_=>true)
theorem qfu {ops:Array Oper} (h:qh2 ops=true) {i j:Nat} {x y:Oper} (hij:i < j) (hx:ops[i]?=some x) (hy:ops[j]?=some y):Reach ops j i∨x.apart ops y=true:=by
 have hj:=(v2b.1 hy).1;simp only [qh2,v5m,v6j,v2m,v2r] at h;rcases (h j hj).2 i hij with h | h
 ·exact .inl (qmp h)
 ·rw [hx,hy] at h;exact .inr h
theorem qjv {ops:Array Oper} (h:qh2 ops=true) {j:Nat} (hj:j < ops.size):∀m∈qd5 ops j,m < j:=by
 simp only [qh2,v5m,v6j,v2m,v2r,decide_eq_true_eq] at h;exact (h j hj).1
theorem qme {ops:Array Oper} {es:List Evt} (h:qvv ops es=true) {i j:Nat} {x y:Evt} (hij:i < j) (hj:j < ops.size) (hx:es[i]?=some x) (hy:es[j]?=some y):Reach ops j i∨evOk x y:=by
 simp only [qvv,v5m,v6j,v2r] at h;rcases h j hj i hij with h | h
 ·exact .inl (qmp h)
 ·rw [hx,hy] at h;exact .inr (vdt h)
theorem qyg.at {C:Cx} {ops:Array Oper}:∀{es:List Evt} {i:Nat} {s:(Nat→AV)×(Nat→AO)},qyg C ops es i s→∀j e,i≤j→es[j - i]?=some e →
  ∃o,ops[j]?=some o∧q8p C ops o (apD ops es i (fun m=>decide (m < j)) s).1 (apD ops es i (fun m=>decide (m < j)) s).2 e
 | [],i,s,h,j,e,hj,he=>by simp at he
 | e0 :: es,i,s,h,j,e,hj,he=>by
  obtain ⟨⟨o,ho,hst⟩,hrest⟩:=h;have skip:∀(es':List Evt) (m:Nat) (s':(Nat→AV)×(Nat→AO)),j≤m→apD ops es' m (fun m=>decide (m < j)) s'=s':=by
   intro es'
   induction es' with
   | nil=>intro m s' _;rfl
   | cons x xs ih=>intro m s' hm;simp only [apD];rw [if_neg (by simp;omega)];exact ih (m+1) s' (by omega)
  by_cases hji:j=i
  ·subst hji;simp only [v6u,v5u,v5a] at he;subst he;rw [skip _ _ _ (v4o _)];exact ⟨o,ho,hst⟩
  ·have hlt:i < j:=by omega
   have:=qyg.at hrest j e (by omega) (by rw [show j - i=(j - (i+1))+1 by omega] at he;simpa using he);simp only [apD];rw [if_pos (by simpa using hlt)];exact this
theorem qyg.len {C:Cx} {ops:Array Oper}:∀{es:List Evt} {i:Nat} {s:(Nat→AV)×(Nat→AO)},qyg C ops es i s→i≤ops.size→i+es.length=ops.size
 | [],i,s,h,hi=>by simp only [qyg] at h;simp only [v3o];omega
 | e0 :: es,i,s,h,hi=>by
  obtain ⟨⟨o,ho,hst⟩,hrest⟩:=h;have:=qyg.len hrest (v2b.1 ho).1;simp only [v5y];omega
theorem qs2 (ops:Array Oper):∀(es:List Evt) (i:Nat) (D D':Nat→Bool) (s:(Nat→AV)×(Nat→AO)),(∀j,i≤j→j < i+es.length→D j=D' j)→apD ops es i D s=apD ops es i D' s
 | [],_,_,_,_,_=>rfl
 | e :: es,i,D,D',s,h=>by
  simp only [apD];rw [h i (v4o _) (by simp)];exact qs2 ops es (i+1) D D' _ fun j h1 h2=>h j (by omega) (by simp only [v5y];omega)
theorem vlh {C:Cx} {ops:Array Oper} {es:List Evt} {s0:(Nat→AV)×(Nat→AO)} {Q:Exit→Act→World→Prop} (hch:qyg C ops es 0 s0) (hsl:qh2 ops=true) (hev:qvv ops es=true)
  (hQ:∀a w inj,SRf C (apD ops es 0 (fun _=>true) s0).1 (apD ops es 0 (fun _=>true) s0).2 inj a w→Q .normal a w) :
  ∀(fuel:Nat) (listed:Array Bool) (a:Act) (w:World) (inj:Inj),listed.size=ops.size→q1n ops (fun j=>listed.getD j false)→(listed.toList.filter (! ·)).length≤fuel →
   SRf C (apD ops es 0 (fun j=>listed.getD j false) s0).1 (apD ops es 0 (fun j=>listed.getD j false) s0).2 inj a w→wpAny C.P .any ops Q fuel listed a w:=by
 have hlen:es.length=ops.size:=by have:=hch.len (v6w _);omega
 -- nothing ready means all is listed
 have done:∀(listed:Array Bool) (a:Act) (w:World) (inj:Inj),listed.size=ops.size→Region.ready .any ops listed=[] →
   SRf C (apD ops es 0 (fun j=>listed.getD j false) s0).1 (apD ops es 0 (fun j=>listed.getD j false) s0).2 inj a w→Q .normal a w:=by
  intro listed a w inj hsz hr hs;have all:∀j,j < ops.size→listed.getD j false=true:=by
   intro j
   induction j using v6t with
   | _ j ih =>
    intro hj;by_cases hl:listed.getD j false=true
    ·exact hl
    ·have:j∈Region.ready .any ops listed:=by
      refine mem_ready.2 ⟨getD_in (by omega) (by simpa using hl),ops[j],by simp [hj],fun e he hb=>?_⟩;have hp:e.on∈qd5 ops j:=by
       unfold qd5;simp only [hj,getElem?_pos];exact v6h.2 ⟨e,v6g.2 ⟨by simpa using he,hb⟩,rfl⟩
      have hlt:=qjv hsl hj _ hp;exact ih _ hlt (by omega)
     rw [hr] at this;cases this
  rw [qs2 ops es 0 _ (fun _=>true) s0 fun j _ h2=>all j (by omega)] at hs;exact hQ a w inj hs
 intro fuel
 induction fuel with
 | zero =>
  intro listed a w inj hsz hcl hf hs;have hr:Region.ready .any ops listed=[]:=by
   cases hrd:Region.ready .any ops listed with
   | nil=>rfl
   | cons i _ =>
    exfalso;have hi:i∈Region.ready .any ops listed:=by rw [hrd];exact v6f
    obtain ⟨h0,o,ho,_⟩:=mem_ready.1 hi;have hlt:=(v2b.1 ho).1;have hm:listed[i]'(by omega)∈listed.toList:=by simp
    have h0':listed[i]'(by omega)=false:=by simpa [show i < listed.size by omega] using h0
    have:listed[i]'(by omega)∈listed.toList.filter (! ·):=v6g.2 ⟨hm,by rw [h0'];rfl⟩;have:0 < (listed.toList.filter (! ·)).length:=v52 this;omega
  exact ⟨hr,done listed a w inj hsz hr hs⟩
 | succ fuel ih =>
  intro listed a w inj hsz hcl hf hs;refine ⟨fun hr=>done listed a w inj hsz hr hs,fun i hi=>?_⟩;obtain ⟨h0,o,ho,hpre⟩:=mem_ready.1 hi;have hlt:=(v2b.1 ho).1;have hoi:ops[i]=o:=(v2b.1 ho).2;have h0f:listed.getD i false=false:=getD_both h0;have hpre':∀m∈qd5 ops i,listed.getD m false=true:=by
   intro m hm;unfold qd5 at hm;rw [ho] at hm;obtain ⟨e,he,rfl⟩:=v6h.1 hm;obtain ⟨he1,he2⟩:=v6g.1 he;exact hpre e (by simpa using he1) he2
  obtain ⟨e,he⟩:∃e,es[i]?=some e:=⟨es[i],by simp [hlen,hlt]⟩;obtain ⟨o',ho',hst⟩:=hch.at i e (v6w _) (by simpa using he);have:o'=o:=v6z (ho'.symm.trans ho);subst this
  -- which are listed,compared with the text's order
  have cmpSlot:∀t∈o'.looksAt ops,(apD ops es 0 (fun j=>listed.getD j false) s0).1 t=(apD ops es 0 (fun m=>decide (m < i)) s0).1 t:=by
   intro t ht;refine q27 ops t es 0 _ _ s0 s0 rfl fun j _ hj hd=>?_
   obtain ⟨oj,hoj⟩:∃oj,ops[j]?=some oj:=⟨ops[j]'(by omega),by simp [show j < ops.size by omega]⟩;rw [hoj] at hd;simp only [v40] at hd;rcases v6r j i with hji | hji | hji
   ·simp only [hji,decide_true];rcases qfu hsl hji hoj ho with hr | hr
    ·exact hr.ready (D:=fun j=>listed.getD j false) hcl hpre'
    ·exact absurd ht ((Oper.apart_spec hr).1 t hd)
   ·subst hji;simpa using h0f
   ·have:decide (j < i)=false:=by simp;omega
    rw [this];rcases qfu hsl hji ho hoj with hr | hr
    ·by_cases hl:listed.getD j false=true
     ·have:=hr.closed (D:=fun j=>listed.getD j false) hcl hl;simp only [h0f] at this;cases this
     ·simpa using hl
    ·exact absurd ht ((Oper.apart_spec hr).2.2 t hd)
  have cmpLoc:∀l∈e.reads,(apD ops es 0 (fun j=>listed.getD j false) s0).2 l=(apD ops es 0 (fun m=>decide (m < i)) s0).2 l:=by
   intro l hl;refine q8q ops l es 0 _ _ s0 s0 rfl fun j ej _ hej hw=>?_
   simp only [v4y] at hej;have hjn:j < ops.size:=by have:=(v3f.1 hej).1;omega
   rcases v6r j i with hji | hji | hji
   ·simp only [hji,decide_true];rcases qme hev hji hlt hej he with hr | hr
    ·exact hr.ready (D:=fun j=>listed.getD j false) hcl hpre'
    ·exact absurd hl (hr.1 l hw).1
   ·subst hji;simpa using h0f
   ·have:decide (j < i)=false:=by simp;omega
    rw [this];rcases qme hev hji hjn he hej with hr | hr
    ·by_cases hl':listed.getD j false=true
     ·have:=hr.closed (D:=fun j=>listed.getD j false) hcl hl';simp only [h0f] at this;cases this
     ·simpa using hl'
    ·exact absurd hl (hr.2 l hw)
  have hst':=hst.frame cmpSlot cmpLoc;obtain ⟨hdst,hst'⟩:=hst';have hjoin:=q28 ops i e es 0 (fun j=>listed.getD j false) s0 (v6w _) (by simpa using he) h0f (by
   intro j ej hij hej hD;simp only [v4y] at hej;have hjn:j < ops.size:=by have:=(v3f.1 hej).1;omega
   obtain ⟨oj,hoj⟩:∃oj,ops[j]?=some oj:=⟨ops[j]'(by omega),by simp [show j < ops.size by omega]⟩;have nr:¬Reach ops j i:=fun hr=>by
    have:=hr.closed (D:=fun j=>listed.getD j false) hcl hD;simp only [h0f] at this;cases this
   constructor
   ·rcases qfu hsl hij ho hoj with hr | hr
    ·exact (nr hr).elim
    ·rw [hoj,ho];simp only [v40];cases hd:oj.dst with
     | none=>exact .inl rfl
     | some d =>
      refine .inr fun hh=>?_
      exact (Oper.apart_spec hr).2.1 d hh.symm hd
   ·rcases qme hev hij hjn he hej with hr | hr
    ·exact (nr hr).elim
    ·cases hw:ej.wr with
     | none=>exact .inl rfl
     | some l =>
      refine .inr fun hh=>?_
      exact (hr.1 l hh.symm).2 hw)
  have hD':apD ops es 0 (fun j=>(listed.setIfInBounds i true).getD j false) s0=apD ops es 0 (fun j=>j == i || listed.getD j false) s0:=by
   refine qs2 ops es 0 _ _ s0 fun j _ hj=>?_
   by_cases hji:i=j
   ·subst hji;simp [hsz,hlt]
   ·rw [getD_set_ne false hji];have:(j == i)=false:=by simp;omega
    simp [this]
  have next:∀a' w' inj',SRf C (qm7 (apD ops es 0 (fun j=>listed.getD j false) s0).1 o'.dst e.v) (upd (apD ops es 0 (fun j=>listed.getD j false) s0).2 e.u) inj' a' w' →
    wpAny C.P .any ops Q fuel (listed.setIfInBounds i true) a' w':=by
   intro a' w' inj' hs';refine ih (listed.setIfInBounds i true) a' w' inj' (by simp [hsz]) ?_ ?_ ?_
   ·intro j hj m hm;by_cases hji:i=j
    ·subst hji;exact getD_set_true (hpre' m hm)
    ·have hj':(listed.setIfInBounds i true).getD j false=true:=hj;rw [getD_set_ne false hji] at hj';exact getD_set_true (hcl j hj' m hm)
   ·have hli:listed[i]?=some false:=by
     have:i < listed.size:=by omega
     simp [this] at h0f ⊢;exact h0f
    have key:∀(l:List Bool) (i:Nat),l[i]?=some false→((l.set i true).filter (! ·)).length+1=(l.filter (! ·)).length:=by
     intro l
     induction l with
     | nil=>intro i h;simp at h
     | cons b l ihl =>
      intro i h;cases i with
      | zero=>simp at h;subst h;simp
      | succ i =>
       simp only [v5t] at h;have:=ihl i h;cases b <;> simp [this] <;> omega
    have:=key listed.toList i (by simpa using hli);rw [v5j];omega
   ·rw [hD',hjoin,ho];exact hs'
  unfold wpOp;rw [ho];simp only;rcases hst' with ⟨hg,hdo⟩ | ⟨hg,rfl⟩
  ·rw [qjo hs hg];simp only [if_true];exact .inl (hdo.sound hs hdst next)
  ·rw [qjo hs hg];simp only [v2o,if_false];exact next _ _ inj (hs.put (u:=none) hdst hs.hr (Ev.refl _ _ _ _) ⟨[],rfl,rfl⟩)
def qt9 {α β:Type} (f:α→L β) (σ:Nat→AO):Option α→List Nat
 | some a=>(f a).reads σ
 | none=>[]
theorem q0o {α β:Type} (f:α→L β) (σ:Nat→AO) (a:α):qt9 f σ (some a)=(f a).reads σ:=rfl
theorem q0p {α β:Type} (f:α→L β) (σ:Nat→AO):qt9 f σ none=[]:=rfl
theorem L.reads_ret {α:Type} (a:α) (σ):(L.ret a).reads σ=[]:=rfl
theorem L.reads_fail {α:Type} (σ):(L.fail:L α).reads σ=[]:=rfl
theorem L.reads_look {α:Type} (l k σ):(L.look l k:L α).reads σ=l :: (k (σ l)).reads σ:=rfl
theorem L.reads_bind {α β:Type} (m:L α) (f:α→L β) (σ):(m.bind f).reads σ=m.reads σ++qt9 f σ (m.run σ):=by
 induction m with
 | ret a=>rfl
 | look l k ih=>simp only [L.bind,L.reads,L.run,ih (σ l),v5p]
 | fail=>rfl
theorem L.reads_ofOpt {α:Type} (o:Option α) (σ):(L.ofOpt o).reads σ=[]:=by cases o <;> rfl
theorem q5k (m:L AV) (σ):(qbf m).reads σ=m.reads σ:=by
 unfold qbf;rw [L.reads_bind];cases m.run σ <;> simp [qt9,L.reads]
variable {C:Cx} {Q:Exit→St→Prop}
inductive DCh (C:Cx) (ops:Array Oper):List Oper→St→List Evt→St→Prop
 | nil {st}:DCh C ops [] st [] st
 | cons {o rest st e es st'} (hd:qbb C.N o=true) (h:(qax ops st.env o=some true∧Does C o (ev st.env) st.sig e)∨(qax ops st.env o=some false∧e=⟨.p (.tup []),none,[]⟩))
   (hr:DCh C ops rest ⟨qel st.env o.dst e.v,qrx st.heap e.u⟩ es st'):DCh C ops (o :: rest) st (e :: es) st'
theorem ql4 (env:Env) (d:Option Tmp) (v:AV):Env.get (qel env d v)=qm7 env.get d v:=by
 funext t;cases d with
 | none=>simp [qel,qm7]
 | some d=>simp [qel,qm7,Env.get]
theorem DCh.chain {ops:Array Oper} {l:List Oper} {st:St} {es:List Evt} {st':St} (h:DCh C ops l st es st'):∀i,(∀j,ops[i+j]?=l[j]?) →
  qyg C ops es i (st.env.get,st.sig)∧apD ops es i (fun _=>true) (st.env.get,st.sig)=(st'.env.get,st'.sig):=by
 induction h with
 | nil =>
  intro i hi;refine ⟨?_,rfl⟩;have:=hi 0;simp only [Nat.add_zero,v5v] at this;simp only [qyg];exact Array.getElem?_eq_none_iff.1 this
 | @cons o rest st e es st' hd h hr ih =>
  intro i hi;have h0:ops[i]?=some o:=by have:=hi 0;simpa using this
  obtain ⟨h1,h2⟩:=ih (i+1) (fun j=>by have:=hi (j+1);rw [show i+1+j=i+(j+1) by omega,this];simp);have e1:((qm7 st.env.get ((ops[i]?).bind (·.dst)) e.v,upd st.sig e.u):(Nat→AV)×(Nat→AO))=((⟨qel st.env o.dst e.v,qrx st.heap e.u⟩:St).env.get,(⟨qel st.env o.dst e.v,qrx st.heap e.u⟩:St).sig):=by
   rw [h0];simp only [v40,ql4,St.sig,qqr]
  refine ⟨⟨⟨o,h0,hd,?_⟩,?_⟩,?_⟩
  ·rw [qvt,qon];exact h
  ·rw [e1];exact h1
  ·simp only [apD,if_true];rw [e1];exact h2
theorem vgx {id:Nat} {l:List Oper} {st st':St} {es:List Evt} (hm:C.P.follows .mixedOrders=true) (hch:DCh C l.toArray l st es st') (hsl:qh2 l.toArray=true) (hev:qvv l.toArray es=true)
  (h:Q .normal st'):AWp C (.region id l.toArray true) Q st:=by
 intro inj a w hs;obtain ⟨h1,h2⟩:=hch.chain 0 (fun j=>by simp);refine wp_region_any hm ?_;have hf:Fr C.D w { w with drawn:=w.drawn+1 }:=⟨rfl,rfl,rfl,fun _=>v4p _,v4o _,fun _ _=>rfl,fun _ _=>rfl⟩;have hE:Ev C.D C.X inj st.sig w inj st.sig { w with drawn:=w.drawn+1 }:=hf.ev;refine vlh h1 hsl hev ?_ _ _ _ _ inj (by simp) ?_ ?_ ?_
 ·intro a' w' inj' hs';rw [h2] at hs';exact ⟨st',inj',⟨hs'.env,hs'.size,hs'.defers,hs'.hr,hs'.ev⟩,h⟩
 ·intro j hj;simp only [getD_replicate_false] at hj;cases hj
 ·refine v4q (v51 _ _) (by simp)
 ·rw [qs2 l.toArray es 0 _ (fun _=>false) _ fun j _ _=>getD_replicate_false _ _];have hnone:∀(es:List Evt) (i:Nat) (s:(Nat→AV)×(Nat→AO)),apD l.toArray es i (fun _=>false) s=s:=by
   intro es
   induction es with
   | nil=>intro i s;rfl
   | cons e es ih=>intro i s;simp only [apD,v2o,if_false];exact ih (i+1) s
  rw [hnone];exact ⟨fun t=>AR.ev hE hs.hr.xlt _ _ (hs.env t),hs.size,hs.defers,hs.hr.fr hf,hs.ev.trans hE⟩
def qyh (m:L (AV×Upd)) (σ:Nat→AO):Option Bool→List Nat
 | some true=>m.reads σ
 | _=>[]
theorem q5l (m:L (AV×Upd)) (σ):qyh m σ (some true)=m.reads σ:=rfl
theorem q29 (m:L (AV×Upd)) (σ):qyh m σ (some false)=[]:=rfl
def qkw (P:Program) (N B:Nat) (ops:Array Oper):List Oper→St→List Evt→List Evt×St×List Oper
 | [],st,acc=>(acc,st,[])
 | o :: rest,st,acc =>
  match go1 P N B ops o st with
  | .on v u=>qkw P N B ops rest ⟨qel st.env o.dst v,qrx st.heap u⟩ (⟨v,u,qyh (aop P B (ev st.env) o) st.sig (qax ops st.env o)⟩ :: acc)
  | .stop=>(acc,st,o :: rest)
def q1o (P:Program) (N B:Nat) (ops:Array Oper) (o:Oper) (rest:List Oper) (st:St) (acc:List Evt):Go1→List Evt×St×List Oper
 | .on v u=>qkw P N B ops rest ⟨qel st.env o.dst v,qrx st.heap u⟩ (⟨v,u,qyh (aop P B (ev st.env) o) st.sig (qax ops st.env o)⟩ :: acc)
 | .stop=>(acc,st,o :: rest)
theorem q8r (P:Program) (N B:Nat) (ops:Array Oper) (st:St) (acc:List Evt):qkw P N B ops [] st acc=(acc,st,[]):=rfl
theorem qqw (P:Program) (N B:Nat) (ops:Array Oper) (o:Oper) (rest:List Oper) (st:St) (acc:List Evt):qkw P N B ops (o :: rest) st acc=q1o P N B ops o rest st acc (go1 P N B ops o st):=by
 simp only [qkw,q1o]
theorem qyi (P:Program) (N B:Nat) (ops:Array Oper) (o:Oper) (rest:List Oper) (st:St) (acc:List Evt) (v:AV) (u:Upd):q1o P N B ops o rest st acc (.on v u) =
  qkw P N B ops rest ⟨qel st.env o.dst v,qrx st.heap u⟩ (⟨v,u,qyh (aop P B (ev st.env) o) (qar st.heap) (qax ops st.env o)⟩ :: acc):=rfl
theorem q8s (P:Program) (N B:Nat) (ops:Array Oper) (o:Oper) (rest:List Oper) (st:St) (acc:List Evt):q1o P N B ops o rest st acc .stop=(acc,st,o :: rest):=rfl
def DGo (C:Cx) (ops:Array Oper) (l:List Oper) (st:St) (acc:List Evt) (K:List Evt→St→Prop):Prop :=
 ∃es st',DCh C ops l st es st'∧K (acc.reverse++es) st'
theorem DGo.one {ops:Array Oper} {o:Oper} {rest:List Oper} {st:St} {acc:List Evt} {K:List Evt→St→Prop} {e:Evt} (hd:qbb C.N o=true)
  (h:(qax ops st.env o=some true∧Does C o (ev st.env) st.sig e)∨(qax ops st.env o=some false∧e=⟨.p (.tup []),none,[]⟩))
  (hr:DGo C ops rest ⟨qel st.env o.dst e.v,qrx st.heap e.u⟩ (e :: acc) K):DGo C ops (o :: rest) st acc K:=by
 obtain ⟨es,st',h1,h2⟩:=hr;refine ⟨e :: es,st',.cons hd h h1,?_⟩;simpa using h2
theorem DGo.run {ops:Array Oper} {K:List Evt→St→Prop}:∀(l:List Oper) (st:St) (acc:List Evt) {acc':List Evt} {st':St} {l':List Oper},qkw C.P C.N C.B ops l st acc=(acc',st',l')→DGo C ops l' st' acc' K→DGo C ops l st acc K
 | [],st,acc,acc',st',l',hr,h=>by
  simp only [qkw,v5b] at hr;obtain ⟨rfl,rfl,rfl⟩:=hr;exact h
 | o :: rest,st,acc,acc',st',l',hr,h=>by
  rw [qqw] at hr;cases hg:go1 C.P C.N C.B ops o st with
  | stop =>
   rw [hg] at hr;simp only [q1o,v5b] at hr;obtain ⟨rfl,rfl,rfl⟩:=hr;exact h
  | on v u =>
   rw [hg,qyi] at hr;have hrec:=DGo.run rest _ _ hr h;unfold go1 at hg;split at hg
   case isFalse=>cases hg
   rename_i hd;split at hg
   ·rename_i hgd;split at hg
    ·rename_i v' u' hrun;cases hg;refine DGo.one hd (.inl ⟨hgd,.op hrun⟩) ?_;rw [hgd] at hrec;exact hrec
    ·cases hg
   ·rename_i hgd;cases hg;refine DGo.one hd (.inr ⟨hgd,rfl⟩) ?_;rw [hgd] at hrec;exact hrec
   ·cases hg
theorem qpj (env:Env) (f:Operand) (args:List Operand):qi0 (ev env) f args=qb0 env f args:=by
 unfold qi0 qb0;rfl
theorem DGo.call {ops:Array Oper} {K:List Evt→St→Prop} {d:Option Tmp} {f:Operand} {args:Array Operand} {ats:Array TypeId} {ty:TypeId} {pos:String} {af:Array Edge} {rest:List Oper} {st:St} {acc:List Evt}
  {k:FuncId} {avs:List AV} {pargs:List PV} {r:PV} {rs:List Nat}
  (hp:vk6 C.D C.P k pargs r) (hd:qbb C.N ⟨d,.call ⟨.value f,args,ats⟩,ty,pos,af,none⟩=true) (hk:HasBody C.P k)
  (hc:qb0 st.env f args.toList=some (k,avs)) (hv:(qaz (view (fun _=>true) 9) avs).run (qar st.heap)=some pargs) (hrs:(qaz (view (fun _=>true) 9) avs).reads (qar st.heap)=rs)
  (hfl:(qpd avs).isSome=true∨r.flat=true)
  (h:DGo C ops rest ⟨qel st.env d (.p r),st.heap⟩ (⟨.p r,none,rs⟩ :: acc) K):DGo C ops (⟨d,.call ⟨.value f,args,ats⟩,ty,pos,af,none⟩ :: rest) st acc K:=by
 subst hrs;refine DGo.one hd (.inl ⟨rfl,.call hp rfl hk (by rw [qpj];exact hc) hv hfl⟩) ?_;exact h
theorem DGo.built {ops:Array Oper} {K:List Evt→St→Prop} {o:Oper} {t:TypeId} {len:Nat} {qas:Array (Nat×Operand)} {rest:List Oper} {st st':St} {acc:List Evt} {v:AV} {u:Upd} {x:PV} {k:Nat} {r1 r2:List Nat}
  (ho:o.op=.buildSlice t len qas) (hg:qax ops st.env o=some true) (hd:qbb C.N o=true) (hk:qjh C.B o=k)
  (hr:(aop C.P C.B (ev st.env) o).run (qar st.heap)=some (v,u)) (h1:(aop C.P C.B (ev st.env) o).reads (qar st.heap)=r1)
  (hv:(view (fun l=>l == k) 9 v).run (qar (qrx st.heap u))=some x) (h2:(view (fun l=>l == k) 9 v).reads (qar (qrx st.heap u))=r2)
  (hs:(⟨qel st.env o.dst (.p x),st.heap⟩:St)=st') (h:DGo C ops rest st' (⟨.p x,none,r1++r2⟩ :: acc) K):DGo C ops (o :: rest) st acc K:=by
 subst hk;subst h1;subst h2;subst hs;rw [qqr] at hv;refine DGo.one hd (.inl ⟨hg,.built ho hr hv⟩) ?_;rw [qqr] at h;exact h
theorem DGo.cloned {ops:Array Oper} {K:List Evt→St→Prop} {o:Oper} {f:Operand} {args:Array Operand} {ats:Array TypeId} {rest:List Oper} {st st':St} {acc:List Evt} {c:FuncId} {e sz by' g k n:Nat} {xs:List PV}
  (S:Cln C.P c e sz by') (hw:¬C.D) (ho:o.op=.call ⟨.value f,args,ats⟩) (hgd:qax ops st.env o=some true) (hd:qbb C.N o=true) (hk:qjh C.B o=k)
  (hc:qb0 st.env f args.toList=some (c,[.p (.slc xs)])) (hel:(xs.map AV.p).all (qer sz)=true) (hn:xs.length≤maxLen) (hby:xs.length * by'≤140737488355328) (hg:qar st.heap k=.dead g) (hl:xs.length=n)
  (hs:(⟨qel st.env o.dst (.own k (g+1) 0 n),qph st.heap k (.arr e sz (g+1) (xs.map AV.p))⟩:St)=st')
  (h:DGo C ops rest st' (⟨.own k (g+1) 0 n,some (k,.arr e sz (g+1) (xs.map AV.p)),[k]⟩ :: acc) K):DGo C ops (o :: rest) st acc K:=by
 subst hk;subst hs;subst hl;refine DGo.one hd (.inl ⟨hgd,.cloned S hw ho (by rw [qpj];exact hc) hel hn hby hg⟩) ?_;exact h
theorem DGo.ext {ops:Array Oper} {K:List Evt→St→Prop} {o:Oper} {rest:List Oper} {st st':St} {acc:List Evt} {v:AV} {u:Upd} {rs:List Nat}
  (hO:OpU C.D C.P o (ev st.env) (qar st.heap) v u rs) (hgd:qax ops st.env o=some true) (hd:qbb C.N o=true) (hs:(⟨qel st.env o.dst v,qrx st.heap u⟩:St)=st')
  (h:DGo C ops rest st' (⟨v,u,rs⟩ :: acc) K):DGo C ops (o :: rest) st acc K:=by
 subst hs;exact DGo.one hd (.inl ⟨hgd,.ext hO⟩) h
theorem DGo.done {ops:Array Oper} {K:List Evt→St→Prop} {st:St} {acc:List Evt} (h:K acc.reverse st):DGo C ops [] st acc K:=⟨[],st,.nil,by simpa using h⟩
attribute [go_sem] q0o q0p L.reads_ret L.reads_fail L.reads_look L.reads_bind L.reads_ofOpt q5k q5l q29 q8r qqw qyi q8s
end Go.Ab
namespace Go.Ab
variable {D:Prop}
open Go
def vxn:Op→Bool
 | .call ⟨.value _,_,_⟩=>true
 | _=>false
def vxo:List Oper→List Oper→List Oper×List Oper
 | [],acc=>(acc.reverse,[])
 | o :: r,acc=>match o.guard.isNone && !vxn o.op with
  | true=>vxo r (o :: acc)
  | false=>(acc.reverse,o :: r)
def spl (l:List Oper):List Oper×List Oper:=vxo l []
theorem qyj:∀l acc:List Oper,(vxo l acc).1++(vxo l acc).2=acc.reverse++l
 | [],acc=>rfl
 | o :: r,acc=>by
  simp only [vxo];split
  ·rw [qyj r];simp
  ·rfl
theorem q1p (l:List Oper):(spl l).1++(spl l).2=l:=qyj l []
variable {C:Cx} {Q:Exit→St→Prop} {st:St}
theorem ql5 {ops:Array Oper} {l2:List Oper} {st':St} (h:AL C ops l2 Q st'):∀(l:List Oper) (st:St),qp6 C.P C.N C.B ops l st=(st',[])→AL C ops (l++l2) Q st
 | [],st,hr=>by
  simp only [qp6,v5b,and_true] at hr;subst hr;exact h
 | o :: rest,st,hr=>by
  rw [qx9] at hr;cases hg:go1 C.P C.N C.B ops o st with
  | stop=>rw [hg] at hr;simp [vf3] at hr
  | on v u =>
   rw [hg,vao] at hr;unfold go1 at hg;split at hg
   case isFalse=>cases hg
   rename_i hd;split at hg
   ·rename_i hgd;split at hg
    ·rename_i v' u' hrun;cases hg;exact vww hgd hd (van C.B o (ev st.env)) hrun (ql5 h rest _ hr)
    ·cases hg
   ·rename_i hgd;cases hg;exact q8h hgd hd (ql5 h rest _ hr)
   ·cases hg
theorem q3a {ops:Array Oper} {o:Oper} {l l1 l2:List Oper} {st':St} (hs:spl l=(o :: l1,l2)) (hr:qp6 C.P C.N C.B ops (o :: l1) st=(st',[])) (h:AL C ops l2 Q st'):AL C ops l Q st:=by
 have e:=q1p l;rw [hs] at e;rw [←e];exact ql5 h _ _ hr
theorem AL_gt {ops:Array Oper} {o:Oper} {rest:List Oper} {v:AV} {u:Upd} (hg:qax ops st.env o=some true) (hd:qbb C.N o=true)
  (hr:(aop C.P C.B (ev st.env) o).run (qar st.heap)=some (v,u)) (h:AL C ops rest Q ⟨qel st.env o.dst v,qrx st.heap u⟩):AL C ops (o :: rest) Q st :=
 vww hg hd (van C.B o (ev st.env)) hr h
def qyk (ops:Array Oper) (o:Oper):Option Nat:=o.guard.bind fun g=>(ops[g.1]?).bind (·.dst)
theorem q5m (env:Env) {d:Nat} {v:AV} (h:env.get d=v):Env.get ((d,v) :: env)=env.get:=by
 funext t;simp only [Env.get];split
 ·rename_i e;subst e;exact h.symm
 ·rfl
theorem SR.known {inj:Inj} {a:Act} {w:World} {env:Env} {hp:List (Nat×AO)} {d:Nat} {v:AV} (h:env.get d=v) (hs:SR C ⟨env,hp⟩ inj a w):SR C ⟨(d,v) :: env,hp⟩ inj a w :=
 ⟨fun t=>by have:=hs.env t;rw [q5m env h];exact this,hs.size,hs.defers,hs.hr,hs.ev⟩
theorem DGo.append {ops:Array Oper} {K:List Evt→St→Prop} {l2:List Oper} {acc':List Evt} {st':St} (h:DGo C ops l2 st' acc' K):∀(l:List Oper) (st:St) (acc:List Evt),qkw C.P C.N C.B ops l st acc=(acc',st',[])→DGo C ops (l++l2) st acc K
 | [],st,acc,hr=>by
  simp only [qkw,v5b,and_true] at hr;obtain ⟨rfl,rfl⟩:=hr;exact h
 | o :: rest,st,acc,hr=>by
  rw [qqw] at hr;cases hg:go1 C.P C.N C.B ops o st with
  | stop=>rw [hg] at hr;simp [q1o] at hr
  | on v u =>
   rw [hg,qyi] at hr;have hrec:=DGo.append h rest _ _ hr;unfold go1 at hg;split at hg
   case isFalse=>cases hg
   rename_i hd;split at hg
   ·rename_i hgd;split at hg
    ·rename_i v' u' hrun;cases hg;refine DGo.one hd (.inl ⟨hgd,.op hrun⟩) ?_;rw [hgd] at hrec;exact hrec
    ·cases hg
   ·rename_i hgd;cases hg;refine DGo.one hd (.inr ⟨hgd,rfl⟩) ?_;rw [hgd] at hrec;exact hrec
   ·cases hg
theorem DGo.upto {ops:Array Oper} {K:List Evt→St→Prop} {o:Oper} {l l1 l2:List Oper} {acc acc':List Evt} {st':St} (hs:spl l=(o :: l1,l2)) (hr:qkw C.P C.N C.B ops (o :: l1) st acc=(acc',st',[]))
  (h:DGo C ops l2 st' acc' K):DGo C ops l st acc K:=by
 have e:=q1p l;rw [hs] at e;rw [←e];exact DGo.append h _ _ _ hr
theorem DGo.gt {ops:Array Oper} {K:List Evt→St→Prop} {o:Oper} {rest:List Oper} {acc:List Evt} {v:AV} {u:Upd} {rs:List Nat} (hg:qax ops st.env o=some true) (hd:qbb C.N o=true)
  (hr:(aop C.P C.B (ev st.env) o).run (qar st.heap)=some (v,u)) (hrs:(aop C.P C.B (ev st.env) o).reads (qar st.heap)=rs) (h:DGo C ops rest ⟨qel st.env o.dst v,qrx st.heap u⟩ (⟨v,u,rs⟩ :: acc) K):DGo C ops (o :: rest) st acc K:=by
 subst hrs;exact DGo.one hd (.inl ⟨hg,.op hr⟩) h
theorem DGo.gf {ops:Array Oper} {K:List Evt→St→Prop} {o:Oper} {rest:List Oper} {acc:List Evt} (hg:qax ops st.env o=some false) (hd:qbb C.N o=true)
  (h:DGo C ops rest ⟨qel st.env o.dst (.p (.tup [])),st.heap⟩ (⟨.p (.tup []),none,[]⟩ :: acc) K):DGo C ops (o :: rest) st acc K :=
 DGo.one hd (.inr ⟨hg,rfl⟩) h
theorem Does.env {o:Oper} {ρ:Operand→AV} {ρ':Operand→AV} {σ:Nat→AO} {e:Evt} (h:Does C o ρ σ e) (he:ρ'=ρ):Does C o ρ' σ e:=he ▸ h
theorem DCh.known {ops:Array Oper} {l:List Oper} {es:List Evt} {st st' st1:St} (h:DCh C ops l st1 es st') (hg:st1.env.get=st.env.get) (hh:st1.heap=st.heap):∃st'',DCh C ops l st es st''∧st'.env.get=st''.env.get∧st'.heap=st''.heap:=by
 induction h generalizing st with
 | nil=>exact ⟨st,.nil,hg,hh⟩
 | @cons o rest st1 e es st' hd h hr ih =>
  obtain ⟨st'',h1,h2⟩:=ih (st:=⟨qel st.env o.dst e.v,qrx st.heap e.u⟩) (by simp only [ql4,hg]) (by simp only [hh]);have e1:ev st1.env=ev st.env:=by rw [←qvt,←qvt,hg]
  have e2:qax ops st1.env o=qax ops st.env o:=by rw [←qon,←qon,hg]
  refine ⟨st'',.cons hd ?_ h1,h2⟩;rw [e1,e2,show st1.sig=st.sig from congrArg qar hh] at h;exact h
def DK (C:Cx) (l:Array Oper) (Q:Exit→St→Prop):List Evt→St→Prop:=fun es st'=>qvv l es=true∧∀inj a w,SR C st' inj a w→vk4 C Q .normal a w
theorem DK.congr {l:Array Oper} (es:List Evt) (s s':St) (h1:s.env.get=s'.env.get) (h2:s.heap=s'.heap) (h:DK C l Q es s):DK C l Q es s':=by
 refine ⟨h.1,fun inj a w hs=>h.2 inj a w ?_⟩;obtain ⟨e,hp⟩:=s;obtain ⟨e',hp'⟩:=s';simp only at h1 h2;subst h2;exact ⟨fun t=>by show AR _ _ _ _ (e.get t) _;rw [h1];exact hs.env t,hs.size,hs.defers,hs.hr,hs.ev⟩
theorem q0q {id:Nat} {l:List Oper} (hm:C.P.follows .mixedOrders=true) (hsl:qh2 l.toArray=true) (h:DGo C l.toArray l st [] (DK C l.toArray Q)):AWp C (.region id l.toArray true) Q st:=by
 obtain ⟨es,st',h1,h2⟩:=h;have h3:AWp C (.region id l.toArray true) (fun e s=>e=.normal∧s=st') st:=vgx hm h1 hsl (by simpa using h2.1) ⟨rfl,rfl⟩;intro inj a w hs;refine wp_mono (h3 inj a w hs) ?_;rintro e a' w' ⟨s,i,k1,rfl,rfl⟩;exact h2.2 i a' w' k1
theorem DGo.fin {l:Array Oper} {acc:List Evt} (hev:qvv l acc.reverse=true) (h:Q .normal st):DGo C l [] st acc (DK C l Q):=DGo.done ⟨hev,fun inj a w hs=>⟨st,inj,hs,h⟩⟩
structure Con (D:Prop) (P:Program) (k:FuncId) (args:List PV) (r:PV):Prop where
 body:HasBody P k
 pure:vk6 D P k args r
theorem Con.of {P:Program} {k:FuncId} {args:List PV} {r r':PV} (h:Con D P k args r) (e:r=r'):Con D P k args r':=e ▸ h
theorem vxp {ops:Array Oper} {o:Oper} {rest:List Oper} {f:Operand} {args:Array Operand} {ats:Array TypeId} {k:FuncId} {avs:List AV} {pargs:List PV} {r:PV}
  (ho:o.op=.call ⟨.value f,args,ats⟩) (hg:qax ops st.env o=some true) (hd:qbb C.N o=true)
  (hc:qb0 st.env f args.toList=some (k,avs)) (hv:(qaz (view (fun _=>true) 9) avs).run (qar st.heap)=some pargs) (hp:Con C.D C.P k pargs r) (hfl:(qpd avs).isSome=true∨r.flat=true)
  (h:AL C ops rest Q ⟨qel st.env o.dst (.p r),st.heap⟩):AL C ops (o :: rest) Q st :=
 vqe hp.pure ho hg hd hp.body hc hv hfl h
theorem DGo.con {ops:Array Oper} {K:List Evt→St→Prop} {o:Oper} {f:Operand} {args:Array Operand} {ats:Array TypeId} {rest:List Oper} {acc:List Evt}
  {k:FuncId} {avs:List AV} {pargs:List PV} {r:PV} {rs:List Nat}
  (ho:o.op=.call ⟨.value f,args,ats⟩) (hg:qax ops st.env o=some true) (hd:qbb C.N o=true)
  (hc:qb0 st.env f args.toList=some (k,avs)) (hv:(qaz (view (fun _=>true) 9) avs).run (qar st.heap)=some pargs) (hrs:(qaz (view (fun _=>true) 9) avs).reads (qar st.heap)=rs)
  (hp:Con C.D C.P k pargs r) (hfl:(qpd avs).isSome=true∨r.flat=true)
  (h:DGo C ops rest ⟨qel st.env o.dst (.p r),st.heap⟩ (⟨.p r,none,rs⟩ :: acc) K):DGo C ops (o :: rest) st acc K:=by
 subst hrs;exact DGo.one hd (.inl ⟨hg,.call hp.pure ho hp.body (by rw [qpj];exact hc) hv hfl⟩) h
theorem q3b {P:Program} {fn:Func} {r:PV} {s:St} {v:AV} (h1:vf4 P s fn.results.toList=some v) (h2:(view (fun _=>true) 9 v).run s.sig=some r):vvb P fn r .ret s:=⟨.inr rfl,v,h1,h2⟩
theorem qa6 {ops:Array Oper} {env:Env} {o:Oper} (h:o.guard=none):qax ops env o=some true:=by
 unfold qax;rw [h]
theorem vdu {ops:Array Oper} {env:Env} {o:Oper} {j d:Nat} {b:Bool} (h:o.guard=some (j,b)) (hd:qyk ops o=some d) (hv:env.get d=.p (.bool b)):qax ops env o=some true:=by
 unfold qyk at hd;unfold qax;rw [h] at hd ⊢;simp only [v40] at hd;simp only [hd,hv,beq_self_eq_true]
theorem vo3 {ops:Array Oper} {o:Oper} {rest:List Oper} {st':St} (hg:qax ops st.env o=some true) (hd:qbb C.N o=true)
  (hr:((aop C.P C.B (ev st.env) o).run (qar st.heap)).map (fun vu=>(⟨qel st.env o.dst vu.1,qrx st.heap vu.2⟩:St))=some st') (h:AL C ops rest Q st'):AL C ops (o :: rest) Q st:=by
 cases hx:(aop C.P C.B (ev st.env) o).run (qar st.heap) with
 | none=>rw [hx] at hr;cases hr
 | some vu =>
  rw [hx] at hr;simp only [v49,v5a] at hr;subst hr;exact AL_gt hg hd hx h
theorem DGo.gt' {ops:Array Oper} {K:List Evt→St→Prop} {o:Oper} {rest:List Oper} {acc:List Evt} {st':St} {e:Evt} (hg:qax ops st.env o=some true) (hd:qbb C.N o=true)
  (hr:((aop C.P C.B (ev st.env) o).run (qar st.heap)).map (fun vu=>((⟨vu.1,vu.2,(aop C.P C.B (ev st.env) o).reads (qar st.heap)⟩:Evt),(⟨qel st.env o.dst vu.1,qrx st.heap vu.2⟩:St)))=some (e,st'))
  (h:DGo C ops rest st' (e :: acc) K):DGo C ops (o :: rest) st acc K:=by
 cases hx:(aop C.P C.B (ev st.env) o).run (qar st.heap) with
 | none=>rw [hx] at hr;cases hr
 | some vu =>
  rw [hx] at hr;simp only [v49,v5a,v5b] at hr;obtain ⟨rfl,rfl⟩:=hr;exact DGo.gt hg hd hx rfl h
theorem vrj {ops:Array Oper} {o:Oper} {rest:List Oper} {f:Operand} {args:Array Operand} {ats:Array TypeId} {k:FuncId} {avs:List AV} {pargs:List PV} {r:PV} {st':St}
  (ho:o.op=.call ⟨.value f,args,ats⟩) (hg:qax ops st.env o=some true) (hd:qbb C.N o=true)
  (hc:qb0 st.env f args.toList=some (k,avs)) (hv:(qaz (view (fun _=>true) 9) avs).run (qar st.heap)=some pargs) (hp:Con C.D C.P k pargs r) (hfl:(qpd avs).isSome=true∨r.flat=true)
  (hs:(⟨qel st.env o.dst (.p r),st.heap⟩:St)=st') (h:AL C ops rest Q st'):AL C ops (o :: rest) Q st:=by
 subst hs;exact vxp ho hg hd hc hv hp hfl h
theorem DGo.con' {ops:Array Oper} {K:List Evt→St→Prop} {o:Oper} {f:Operand} {args:Array Operand} {ats:Array TypeId} {rest:List Oper} {acc:List Evt}
  {k:FuncId} {avs:List AV} {pargs:List PV} {r:PV} {rs:List Nat} {st':St}
  (ho:o.op=.call ⟨.value f,args,ats⟩) (hg:qax ops st.env o=some true) (hd:qbb C.N o=true)
  (hc:qb0 st.env f args.toList=some (k,avs)) (hv:(qaz (view (fun _=>true) 9) avs).run (qar st.heap)=some pargs) (hrs:(qaz (view (fun _=>true) 9) avs).reads (qar st.heap)=rs)
  (hp:Con C.D C.P k pargs r) (hfl:(qpd avs).isSome=true∨r.flat=true)
  (hs:(⟨qel st.env o.dst (.p r),st.heap⟩:St)=st') (h:DGo C ops rest st' (⟨.p r,none,rs⟩ :: acc) K):DGo C ops (o :: rest) st acc K:=by
 subst hs;exact DGo.con ho hg hd hc hv hrs hp hfl h
theorem qby {ops:Array Oper} {env:Env} {o:Oper} {j d:Nat} {b b':Bool} (h:o.guard=some (j,b)) (hd:qyk ops o=some d) (hv:env.get d=.p (.bool b')) (hx:b'=b):qax ops env o=some true :=
 vdu h hd (by rw [hv,hx])
end Go.Ab
namespace Go.Ab
open Go
variable {C:Cx} {Q:Exit→St→Prop} {st:St}
theorem vrk {ops:Array Oper} {d:Option Tmp} {k:FuncId} {x y:Operand} {ats:Array TypeId} {ty:TypeId} {pos:String} {af:Array Edge} {rest:List Oper} {a b:List UInt8} {r:Int}
  (hk:∀w,(callFunc k #[.string ⟨a.toArray⟩,.string ⟨b.toArray⟩]).run C.P w=.ok (.value (.int .i64 r)) w)
  (hx:ev st.env x=.p (.str a)) (hy:ev st.env y=.p (.str b)) (hd:qbb C.N ⟨d,.call ⟨.value (.func k),#[x,y],ats⟩,ty,pos,af,none⟩=true)
  (h:AL C ops rest Q ⟨qel st.env d (.p (.int .i64 r)),st.heap⟩):AL C ops (⟨d,.call ⟨.value (.func k),#[x,y],ats⟩,ty,pos,af,none⟩ :: rest) Q st:=by
 intro inj act w hs;simp only [wpList,qbc (ops:=ops) (o:=⟨d,.call ⟨.value (.func k),#[x,y],ats⟩,ty,pos,af,none⟩) hs (qa6 rfl),if_true];refine .inl ?_;have e1:=hs.eval x;have e2:=hs.eval y;rw [hx] at e1;rw [hy] at e2;simp only [AR,PR] at e1 e2;have hrun:(execOp act.eval ⟨d,.call ⟨.value (.func k),#[x,y],ats⟩,ty,pos,af,none⟩).run C.P w=.ok (.value (.int .i64 r)) w:=by
  simp only [execOp,resolve,Deferred.ofValue,Act.eval,v5e,v5f,v5c,invoke];have:(#[]++#[x,y].map act.eval++#[]:Array Value)=#[.string ⟨a.toArray⟩,.string ⟨b.toArray⟩]:=by simp [e1,e2]
  rw [show (#[]++#[x,y].map act.eval++#[]:Array Value)=#[.string ⟨a.toArray⟩,.string ⟨b.toArray⟩] from this,hk]
 unfold Oper.wp;rw [hrun];simp only [Oper.upon];exact h inj _ _ (hs.put (u:=none) hd hs.hr (Ev.refl _ _ _ _) rfl)
@[go_sem] theorem range0:v34 0=[]:=rfl
@[go_sem] theorem range1:v34 1=[0]:=rfl
@[go_sem] theorem range2:v34 2=[0,1]:=rfl
@[go_sem] theorem range3:v34 3=[0,1,2]:=rfl
@[go_sem] theorem range4:v34 4=[0,1,2,3]:=rfl
@[go_sem] theorem range5:v34 5=[0,1,2,3,4]:=rfl
@[go_sem] theorem range6:v34 6=[0,1,2,3,4,5]:=rfl
@[go_sem] theorem range7:v34 7=[0,1,2,3,4,5,6]:=rfl
@[go_sem] theorem range8:v34 8=[0,1,2,3,4,5,6,7]:=rfl
@[go_sem] theorem range9:v34 9=[0,1,2,3,4,5,6,7,8]:=rfl
@[go_sem] theorem range10:v34 10=[0,1,2,3,4,5,6,7,8,9]:=rfl
@[go_sem] theorem range11:v34 11=[0,1,2,3,4,5,6,7,8,9,10]:=rfl
@[go_sem] theorem range12:v34 12=[0,1,2,3,4,5,6,7,8,9,10,11]:=rfl
@[go_sem] theorem range13:v34 13=[0,1,2,3,4,5,6,7,8,9,10,11,12]:=rfl
@[go_sem] theorem range14:v34 14=[0,1,2,3,4,5,6,7,8,9,10,11,12,13]:=rfl
@[go_sem] theorem range15:v34 15=[0,1,2,3,4,5,6,7,8,9,10,11,12,13,14]:=rfl
@[go_sem] theorem range16:v34 16=[0,1,2,3,4,5,6,7,8,9,10,11,12,13,14,15]:=rfl
end Go.Ab
namespace Go.Ab
open Go
inductive LS (σ τ:Type) where
 | next (s:σ)
 | done (t:τ)
section
variable {σ τ:Type}
def qs3 (B:σ→Option (LS σ τ)):Nat→σ→Option τ
 | 0,_=>none
 | n+1,s=>match B s with
  | some (.next s')=>qs3 B n s'
  | some (.done t)=>some t
  | none=>none
theorem q1q (B:σ→Option (LS σ τ)):∀(n:Nat) (s:σ) (t:τ),qs3 B n s=some t→qs3 B (n+1) s=some t
 | 0,_,_,h=>by cases h
 | n+1,s,t,h=>by
  rw [qs3] at h ⊢;split
  ·rename_i s' hs;rw [hs] at h;exact q1q B n s' t h
  ·rename_i t' hs;rw [hs] at h;exact h
  ·rename_i hs;rw [hs] at h;cases h
theorem vav {B:σ→Option (LS σ τ)} {n m:Nat} {s:σ} {t:τ} (h:qs3 B n s=some t) (hm:n≤m):qs3 B m s=some t:=by
 induction hm with
 | refl=>exact h
 | step _ ih=>exact q1q B _ s t ih
open Classical in
def qaj (B:σ→Option (LS σ τ)) (s:σ):Option τ:=if h:∃t n,qs3 B n s=some t then some h.choose else none
theorem q8t {B:σ→Option (LS σ τ)} {n:Nat} {s:σ} {t:τ} (h:qs3 B n s=some t):qaj B s=some t:=by
 have hx:∃t n,qs3 B n s=some t:=⟨t,n,h⟩;unfold qaj;rw [dif_pos hx];obtain ⟨m,hm⟩:=hx.choose_spec;have h1:=vav h (Nat.le_max_left n m);have h2:=vav hm (Nat.le_max_right n m);rw [h1] at h2;exact h2.symm
theorem qyl {B:σ→Option (LS σ τ)} {s:σ} {t:τ} (h:qaj B s=some t):∃n,qs3 B n s=some t:=by
 unfold qaj at h;split at h
 ·rename_i hx;obtain ⟨m,hm⟩:=hx.choose_spec;simp only [v5a] at h;exact ⟨m,by rw [←h];exact hm⟩
 ·cases h
theorem qaq {B:σ→Option (LS σ τ)} {s s':σ} (h:B s=some (.next s')):qaj B s=qaj B s':=by
 cases h1:qaj B s' with
 | some t =>
  obtain ⟨n,hn⟩:=qyl h1;exact q8t (n:=n+1) (by rw [qs3,h];exact hn)
 | none =>
  cases h2:qaj B s with
  | none=>rfl
  | some t =>
   obtain ⟨n,hn⟩:=qyl h2;cases n with
   | zero=>cases hn
   | succ n =>
    rw [qs3,h] at hn;rw [q8t hn] at h1;cases h1
theorem qao {B:σ→Option (LS σ τ)} {s:σ} {t:τ} (h:B s=some (.done t)):qaj B s=some t:=q8t (n:=1) (by rw [qs3,h])
end
variable {C:Cx} {Q:Exit→St→Prop} {st:St}
def Wk (C:Cx) (Q:Exit→St→Prop) (e:Exit) (s:St):Prop:=Q e s∨∃s',Le C s s'∧Q e s'
theorem Wk.now {e:Exit} {s:St} (h:Q e s):Wk C Q e s:=.inl h
theorem Wk.to {e:Exit} {s s':St} (h:Le C s s') (h':Q e s'):Wk C Q e s:=.inr ⟨s',h,h'⟩
theorem vaw {c:Code} {T:Exit→St→Prop} (h:AWp C c T st) (hq:∀e s,T e s→Wk C Q e s):AWp C c Q st:=fun inj a w hs =>
 wp_mono (h inj a w hs) fun e a w ⟨s,i,h1,h2⟩=>by
  rcases hq e s h2 with h3 | ⟨s',h3,h4⟩
  ·exact ⟨s,i,h1,h3⟩
  ·exact ⟨s',_,h3.sr h1,h4⟩
theorem vli {x y:Code} {T:Exit→St→Prop} (h:AWp C x T st) (hq:∀e s,T e s→Wk C (qwy (fun s=>AWp C y Q s) Q) e s):AWp C (.seq x y) Q st :=
 qpi (vaw h hq)
def LP {σ τ:Type} (C:Cx) (S:σ→St) (T:τ→Exit→St→Prop):LS σ τ→Exit→St→Prop
 | .next s',e,st'=>e=.normal∧Le C st' (S s')
 | .done t,e,st'=>T t e st'
theorem vdv {σ τ:Type} {c:Code} {B:σ→Option (LS σ τ)} {s0:σ} {t:τ} (S:σ→St) (T:τ→Exit→St→Prop) (hn:∀t s,¬T t .normal s) (hL:qaj B s0=some t) (h0:Le C st (S s0))
  (round:∀s x,B s=some x→AWp C c (LP C S T x) (S s)) (post:∀e s,T t e s→Wk C Q e s):AWp C (.loop c) Q st:=by
 refine vaw (T:=T t) ?_ post;obtain ⟨n,hN⟩:=qyl hL;refine q1l h0 (vk5 (fun (g:Nat×σ) s=>qs3 B g.1 g.2=some t∧s=S g.2) (fun g=>g.1) (n,s0) ⟨hN,rfl⟩ ?_);rintro ⟨k,s⟩ st' ⟨hk,rfl⟩;simp only at hk ⊢;cases k with
 | zero=>cases hk
 | succ k =>
  rw [qs3] at hk;cases hB:B s with
  | none=>rw [hB] at hk;cases hk
  | some x =>
   rw [hB] at hk;intro inj a w hs;refine wp_mono (round s x hB inj a w hs) ?_;rintro e a w ⟨s1,i,h1,hq⟩;cases x with
   | next s' =>
    obtain ⟨rfl,hle⟩:=hq;exact ⟨S s',_,hle.sr h1,(k,s'),⟨hk,rfl⟩,v4s k⟩
   | done t' =>
    simp only [v5a] at hk;subst hk;cases e with
    | normal=>exact (hn _ _ hq).elim
    | _=>exact ⟨s1,i,h1,hq⟩
theorem vgy {c:Operand} {x y:Code} (hc:ev st.env c=.p (.bool true)) (h:AWp C x Q st):AWp C (.cond c x y) Q st:=q20 hc (fun _=>h) (fun hb=>Bool.noConfusion hb)
theorem vgz {c:Operand} {x y:Code} (hc:ev st.env c=.p (.bool false)) (h:AWp C y Q st):AWp C (.cond c x y) Q st:=q20 hc (fun hb=>Bool.noConfusion hb) (fun _=>h)
theorem vg0 {ops:Array Oper} {l:List Oper} (n:Nat) {st':St} (hr:qp6 C.P C.N C.B ops (l.take n) st=(st',[])) (h:AL C ops (l.drop n) Q st'):AL C ops l Q st:=by
 rw [←v6o n l];exact ql5 h _ _ hr
def idx {α:Type} (l:List α) (i:Int):Option α:=if 0≤i then l[i.toNat]? else none
theorem vlj {α:Type} {l:List α} {i:Int} {x:α} (h:idx l i=some x):0≤i∧l[i.toNat]?=some x∧i < (l.length:Int):=by
 unfold idx at h;split at h
 ·rename_i h0;refine ⟨h0,h,?_⟩;have:=(v3f.1 h).1;omega
 ·cases h
theorem qym {α:Type} (l:List α) (k:Nat):idx l (k:Int)=l[k]?:=by simp [idx]
theorem qdf {α:Type} {l:List α} {k:Nat} {x:α} (h:l[k]?=some x):k < l.length:=(v3f.1 h).1
def qbi (n b:Nat):Bool:=decide (n * b≤140737488355328∧n≤9223372036854775807)
@[go_sem] theorem roomOk_B (P:Program) (e n:Nat):qnm P e n=qbi n (P.bytesOf e):=rfl
theorem vg1 (x:PV) (r:List AV):qpd (.p x :: r)=(qpd r).map (x :: ·):=by
 show (match qpd r with | some xs=>some (x :: xs) | none=>none)=_;cases qpd r <;> rfl
@[go_sem] theorem allP_map (xs:List PV):qpd (xs.map .p)=some xs:=by
 induction xs with
 | nil=>rfl
 | cons x r ih=>rw [v3t,vg1,ih];rfl
theorem qfv {α:Type} (f:α→PV) (sz:Nat) (xs:List α) (h:∀x,((f x).isTup=false∧(f x).cells.length=sz)):((xs.map f).map AV.p).all (qer sz)=true:=by
 rw [v5m];intro y hy;simp only [List.map_map,v6h,Function.comp_apply] at hy;obtain ⟨x,_,rfl⟩:=hy;simp [qer,AV.known,AV.cells,(h x).1,(h x).2]
@[go_sem] theorem AVs_app (xs ys:List PV):xs.map AV.p++ys.map AV.p=(xs++ys).map AV.p:=by simp
@[go_sem] theorem AVs_app1 (xs:List PV) (y:PV):xs.map AV.p++[AV.p y]=(xs++[y]).map AV.p:=by simp
@[go_sem] theorem vrl (σ σ':Nat→AO) (xs ys:List PV):qk4 σ σ' (xs.map .p) (ys.map .p)=(xs=ys):=by
 apply propext;constructor
 ·intro h
  induction ys generalizing xs with
  | nil =>
   simp only [v3u,qk4] at h;exact List.map_eq_nil_iff.1 h
  | cons y ys ih =>
   cases xs with
   | nil=>exact h.elim
   | cons x xs =>
    simp only [v3t,qqu,vf5] at h;rw [h.1,ih xs h.2]
 ·rintro rfl;exact qwn σ σ' xs
@[go_sem] theorem LeVs_0p (σ σ':Nat→AO) (ys:List PV):qk4 σ σ' [] (ys.map .p)=([]=ys):=vrl σ σ' [] ys
attribute [go_sem] v4o List.take_length v4z Nat.add_zero v3l v3g Int.le_refl
@[go_sem] theorem take_map {α β:Type} (f:α→β) (l:List α) (n:Nat):(l.map f).take n=(l.take n).map f:=by rw [List.map_take]
@[go_sem] theorem drop_map {α β:Type} (f:α→β) (l:List α) (n:Nat):(l.map f).drop n=(l.drop n).map f:=by rw [List.map_drop]
def qav {α:Type} (f:α→PV) (l:List α):PV:=.slc (l.map f)
@[go_sem] theorem encL_eq {α:Type} (f:α→PV) (l:List α):qav f l=.slc (l.map f):=rfl
theorem qae {c:Prop} [Decidable c] {α:Type} {a:Option α} {r:α} (h:(if c then a else none)=some r):c∧a=some r:=by
 split at h
 ·exact ⟨‹c›,h⟩
 ·cases h
theorem qdm {c:Prop} [Decidable c] {α:Type} {a:Option α} {r:α} (h:(if c then none else a)=some r):¬c∧a=some r:=by
 split at h
 ·cases h
 ·exact ⟨‹¬c›,h⟩
end Go.Ab
namespace Go.Ab
theorem qua {α:Type} {l:List α} {o n k:Nat} {x:α} (h:((l.drop o).take n)[k]?=some x):l[o+k]?=some x∧k < n:=by
 have h1:=(v3f.1 h).1;simp only [v3r,v3m] at h1;rw [List.getElem?_take_of_lt (by omega),v3c] at h;exact ⟨h,by omega⟩
theorem qyn {n:Nat} {i:Int} (h:i.toNat < n) (h0:0≤i):i < (n:Int):=by omega
def qhp (l:List Int):List UInt8:=l.map fun n=>UInt8.ofNat n.toNat
@[go_sem] theorem vrm (l:List Int):qh1 (v58 AV.p (v58 (PV.int .u8) l))=some (qhp l):=by
 unfold qhp
 induction l with
 | nil=>rfl
 | cons n l ih=>simp only [v3t,qh1,ih,v49]
@[go_sem] theorem vrn:qh1 []=some []:=rfl
@[go_sem] theorem vo4 (n:Int) (r:List AV):qh1 (.p (.int .u8 n) :: r)=(qh1 r).map (UInt8.ofNat n.toNat :: ·):=rfl
@[go_sem] theorem vro (l:List Int) (r:List AV):qh1 (v58 AV.p (v58 (PV.int .u8) l)++r)=(qh1 r).map (qhp l++·):=by
 unfold qhp
 induction l with
 | nil=>cases h:qh1 r <;> simp [h]
 | cons n l ih=>simp only [v3t,v5p,qh1,ih];cases qh1 r <;> rfl
@[go_sem] theorem vrp:qhp []=[]:=rfl
@[go_sem] theorem vo5 (n:Int) (l:List Int):qhp (n :: l)=UInt8.ofNat n.toNat :: qhp l:=rfl
@[go_sem] theorem vrq (l m:List Int):qhp (l++m)=qhp l++qhp m:=by simp [qhp]
@[go_sem] theorem ok_int (k:IntKind) (l:List Int):((l.map (PV.int k)).map AV.p).all (qer 1)=true:=qfv _ _ _ fun _=>⟨rfl,rfl⟩
@[go_sem] theorem ok_str (l:List (List UInt8)):((l.map PV.str).map AV.p).all (qer 1)=true:=qfv _ _ _ fun _=>⟨rfl,rfl⟩
@[go_sem] theorem ok_list {α:Type} (f:α→PV) (l:List (List α)):((l.map (qav f)).map AV.p).all (qer 1)=true:=qfv _ _ _ fun _=>⟨rfl,rfl⟩
@[go_sem] theorem sl_int (k:IntKind) (l:List Int):((l.map (PV.int k)).all fun y=>y.cells.length == 1)=true:=by simp [PV.cells]
@[go_sem] theorem sl_bool (l:List Bool):((l.map PV.bool).all fun y=>y.cells.length == 1)=true:=by simp [PV.cells]
@[go_sem] theorem sl_str (l:List (List UInt8)):((l.map PV.str).all fun y=>y.cells.length == 1)=true:=by simp [PV.cells]
@[go_sem] theorem sl_list {α:Type} (f:α→PV) (l:List (List α)):((l.map (qav f)).all fun y=>y.cells.length == 1)=true:=by simp [PV.cells,qav]
attribute [go_sem] v4y
end Go.Ab
namespace Go.Ab
open Go
variable {C:Cx} {Q:Exit→St→Prop} {st:St}
theorem vlk {ops:Array Oper} {d:Option Tmp} {t:TypeId} {x y:Operand} {yt:TypeId} {ty:TypeId} {pos:String} {af:Array Edge} {rest:List Oper} {l:List PV} {e:TypeId}
  (hx:ev st.env x=.p (.slc l)) (hy:ev st.env y=.nils) (hu:C.P.underlying t=some (.slice e)) (hd:qbb C.N ⟨d,.binOp .eql t x y yt,ty,pos,af,none⟩=true)
  (h:∀b,(l≠[]→b=false)→AL C ops rest Q ⟨qel st.env d (.p (.bool b)),st.heap⟩):AL C ops (⟨d,.binOp .eql t x y yt,ty,pos,af,none⟩ :: rest) Q st:=by
 intro inj act w hs;simp only [wpList,qbc (ops:=ops) (o:=⟨d,.binOp .eql t x y yt,ty,pos,af,none⟩) hs (qa6 rfl),if_true];refine .inl ?_;have e1:=hs.eval x;have e2:=hs.eval y;rw [hx] at e1;rw [hy] at e2;simp only [AR,PR] at e1 e2;obtain ⟨a,cap,vs,hv,hc,h1,h2⟩:=e1;have hg:(eqGuard .eql t x y (.slice a l.length cap) (.slice none 0 0)).run C.P w=.ok () w:=by simp [eqGuard]
 refine qok (s:=do eqGuard .eql t x y (act.eval x) (act.eval y);binOp .eql t (act.eval x) (act.eval y)) (val:=.bool a.isNone) (w':=w) rfl ?_ ?_
 ·rw [hv,e2];simp only [v5e,hg,v5c];exact v2t w t e _ _ _ _ _ hu
 ·refine h a.isNone (fun hne=>?_) inj _ _ (hs.put (u:=none) hd hs.hr (Ev.refl _ _ _ _) rfl);rcases h2 with h2 | ⟨b,o,sz,ha,_⟩
  ·subst h2;have:=h1.length;simp at this;exact (hne this).elim
  ·rw [ha];rfl
def qyo (N:Nat) (ops:Array Oper):List Oper→Env→List Oper×Env
 | [],env=>([],env)
 | o :: r,env=>match o.guard with
  | none=>(o :: r,env)
  | some _=>match qbb N o,qax ops env o with
   | true,some false=>qyo N ops r (qel env o.dst (.p (.tup [])))
   | _,_=>(o :: r,env)
theorem vax {ops:Array Oper}:∀{l l':List Oper} {env env':Env} {h:List (Nat×AO)},qyo C.N ops l env=(l',env')→AL C ops l' Q ⟨env',h⟩→AL C ops l Q ⟨env,h⟩
 | [],_,_,_,_,he,k=>by
  simp only [qyo,v5b] at he;obtain ⟨rfl,rfl⟩:=he;exact k
 | o :: r,l',env,env',hp,he,k=>by
  simp only [qyo] at he;split at he
  ·simp only [v5b] at he;obtain ⟨rfl,rfl⟩:=he;exact k
  ·split at he
   ·rename_i h1 h2;exact q8h h2 h1 (vax he k)
   ·simp only [v5b] at he;obtain ⟨rfl,rfl⟩:=he;exact k
theorem vll {ops:Array Oper} {l:List Oper} {d:Nat} {v:AV} {h:List (Nat×AO)} {env:Env} (hv:env.get d=v) (k:AL C ops l Q ⟨(d,v) :: env,h⟩):AL C ops l Q ⟨env,h⟩:=fun inj a w hs=>k inj a w (SR.known hv hs)
def qub (N:Nat) (ops:Array Oper):List Oper→Env→List Evt→List Oper×Env×List Evt
 | [],env,acc=>([],env,acc)
 | o :: r,env,acc=>match o.guard with
  | none=>(o :: r,env,acc)
  | some _=>match qbb N o,qax ops env o with
   | true,some false=>qub N ops r (qel env o.dst (.p (.tup []))) (⟨.p (.tup []),none,[]⟩ :: acc)
   | _,_=>(o :: r,env,acc)
theorem DGo.skips {l0:Array Oper} {K:List Evt→St→Prop}:∀{l l':List Oper} {env env':Env} {acc acc':List Evt} {h:List (Nat×AO)},qub C.N l0 l env acc=(l',env',acc')→DGo C l0 l' ⟨env',h⟩ acc' K→DGo C l0 l ⟨env,h⟩ acc K
 | [],_,_,_,_,_,_,he,k=>by
  simp only [qub,v5b] at he;obtain ⟨rfl,rfl,rfl⟩:=he;exact k
 | o :: r,l',env,env',acc,acc',hp,he,k=>by
  simp only [qub] at he;split at he
  ·simp only [v5b] at he;obtain ⟨rfl,rfl,rfl⟩:=he;exact k
  ·split at he
   ·rename_i h1 h2;exact DGo.gf h2 h1 (DGo.skips he k)
   ·simp only [v5b] at he;obtain ⟨rfl,rfl,rfl⟩:=he;exact k
theorem DGo.known' {l0:Array Oper} {l:List Oper} {d:Nat} {v:AV} {h:List (Nat×AO)} {env:Env} {acc:List Evt} (hv:env.get d=v) (k:DGo C l0 l ⟨(d,v) :: env,h⟩ acc (DK C l0 Q)):DGo C l0 l ⟨env,h⟩ acc (DK C l0 Q):=by
 obtain ⟨es,st',k1,k2⟩:=k;obtain ⟨st'',k3,k4,k5⟩:=k1.known (st:=⟨env,h⟩) (q5m env hv) rfl;exact ⟨es,st'',k3,DK.congr _ _ _ k4 k5 k2⟩
end Go.Ab
namespace Go.Ab
variable {D:Prop}
open Go
structure Bulk (b:(H:Type)→DataW H→Nat):Prop where
 str:∀(H:Type) (s:List UInt8),s.length≤b H (.lit (.string s))
 slen:∀(H:Type) (es sp:List (DataW H)),es.length≤b H (.slice es sp)
 selem:∀(H:Type) (es sp:List (DataW H)) (d:DataW H),d∈es→b H d≤b H (.slice es sp)
 part:∀(H:Type) (ps:List (DataW H)) (d:DataW H),d∈ps→b H d≤b H (.agg ps)
abbrev NoX:Nat→Prop:=fun _=>False
theorem PRs.one {X:Nat→Prop} {w:World}:∀{ps:List PV} {vs:List Value},PRs X w ps vs→(∀y∈ps,y.isAgg=false∧y.isTup=false)→qba vs
 | [],vs,h,_=>by simp only [PRs] at h;subst h;intro u hu;cases hu
 | p :: ps,vs,h,hp=>by
  obtain ⟨v,r,rfl,h1,h2⟩:=h;have hr:=PRs.one h2 fun y hy=>hp y (v6e _ hy)
  have h0:=hp p (by simp);intro u hu;rcases v6d.1 hu with e | e
  ·subst e;cases p <;> simp only [PR] at h1 <;> first | (subst h1;rfl) | (rcases h1 with ⟨e,_⟩ | ⟨_,_,_,e,_⟩ <;> (subst e;rfl)) | (obtain ⟨_,_,_,e,_⟩:=h1;subst e;rfl) | (obtain ⟨_,_,e,_⟩:=h1;subst e;rfl) | (obtain ⟨_,e,_⟩:=h1;subst e;first | rfl | simp [PV.isAgg,PV.isTup] at h0) | simp [PV.isAgg,PV.isTup] at h0
  ·exact hr u e
structure Rd (P:Program) (b:(H:Type)→DataW H→Nat) (t:TypeId) {α:Type} (f:α→PV) (ok:α→Prop):Prop where
 cells:∀x,(f x).cells.length=P.cellsOf t
 plain:∀x,∀y∈(f x).cells,y.isAgg=false∧y.isTup=false
 agg:∀x,qan P t=some (f x).isAgg
 read:∀{H:Type} {enc:TypeId×Value→H} {w:World} {sp:Nat→Bool} {n:Nat} {cs:List Value} {x:DataW H×List MemPlace},DataW.trod enc P w 0 sp true n t cs=some x→b H x.1≤1048576→∃a,PRs NoX w (f a).cells cs∧ok a
variable {P:Program} {b:(H:Type)→DataW H→Nat} {t:TypeId}
def ofCells (g:Bool) (cs:List Value):Value:=if g then .agg cs.toArray else cs.headD undef
theorem PR.ofCells {α:Type} {f:α→PV} {ok:α→Prop} (R:Rd P b t f ok) {w:World} {cs:List Value} {a:α} (h:PRs NoX w (f a).cells cs) :
  PR NoX w (f a) (ofCells (f a).isAgg cs)∧(ofCells (f a).isAgg cs).cells.toList=cs:=by
 have hone:=h.one (R.plain a);unfold Ab.ofCells;cases hf:f a with
 | agg ps =>
  rw [hf] at h;simp only [PV.isAgg,if_true];exact ⟨⟨cs,rfl,h,hone⟩,by simp [Value.cells]⟩
 | _ =>
  rw [hf] at h;simp only [PV.isAgg,v2o,if_false];simp only [PV.cells] at h;obtain ⟨v,r,rfl,h1,h2⟩:=h;simp only [PRs] at h2;subst h2;refine ⟨h1,?_⟩;have:=hone v (by simp);simp only [List.headD_cons];cases v <;> first | rfl | simp [Value.oneCell'] at this
theorem vxq {k:IntKind} (hu:P.underlying t=some (.int k)) (hc:P.cellsOf t=1):Rd P b t (PV.int k) (fun n=>(Lit.int k n).wf=true):=by
 refine ⟨fun x=>by rw [hc];rfl,fun x y hy=>?_,fun x=>by simp [qan,hu];rfl,fun h _=>?_⟩
 ·simp only [PV.cells,v6k] at hy;subst hy;exact ⟨rfl,rfl⟩
 ·obtain ⟨n,rfl,_,hw⟩:=DataW.trod_int hu h;exact ⟨n,⟨_,_,rfl,rfl,rfl⟩,hw⟩
theorem vdw {w:World} {a:Addr} {n:Nat} {cs:List Value} (h:w.cells? 0 a n=some cs):cs.length=n∧∀i u,cs[i]?=some u→w.cell? (a.add i)=some u:=by
 unfold World.cells? at h;rw [if_pos (v6w _)] at h;have hl:=(mapM_some_length h);simp only [v54] at hl;refine ⟨hl,fun i u hu=>?_⟩;have hi:i < n:=by have:=qdf hu;omega
 have:=mapM_some_get h i i (by simp [hi]);rw [this];exact hu
theorem PRs.app {X:Nat→Prop} {w:World}:∀{ps:List PV} {vs:List Value} {qs:List PV} {us:List Value},PRs X w ps vs→PRs X w qs us→PRs X w (ps++qs) (vs++us)
 | [],_,_,_,h,h'=>by simp only [PRs] at h;subst h;exact h'
 | p :: ps,_,_,_,h,h'=>by
  obtain ⟨v,r,rfl,h1,h2⟩:=h;exact ⟨v,r++_,rfl,h1,PRs.app h2 h'⟩
theorem qxi {e:TypeId} {α:Type} {f:α→PV} {ok:α→Prop} (hu:P.underlying t=some (.slice e)) (hc:P.cellsOf t=1) (hs:0 < P.cellsOf e) (B:Bulk b) (R:Rd P b e f ok) :
  Rd P b t (qav f) (fun l=>l.length≤1048576∧∀x∈l,ok x):=by
 refine ⟨fun x=>by rw [hc];rfl,fun x y hy=>?_,fun x=>by simp [qan,hu];rfl,fun {H enc w sp n cs x} h hb=>?_⟩
 ·simp only [qav,PV.cells,v6k] at hy;subst hy;exact ⟨rfl,rfl⟩
 rcases Deep.open_slice hu h with ⟨rfl,rfl⟩ | ⟨a,len,cap,m,n',D,Pl,rfl,_,hl,hm,hmm,rfl,hx⟩
 ·exact ⟨[],⟨_,_,rfl,⟨_,_,_,rfl,v4o _,rfl,.inl rfl⟩,rfl⟩,v6w _,(fun x hx=>absurd hx (by simp))⟩
 simp only at hb;have hlen:len≤1048576:=by
  have:=B.slen H ((v34 len).map D) ((v34 (m - len)).map fun j=>D (len+j));simp only [v3n,v54] at this;omega
 have hlm:len≤m:=by rw [hmm];split <;> omega
 have key:∀k,k≤len→∃(l:List α) (vs:List Value),l.length=k∧PRs NoX w (l.map f) vs∧(∀v∈vs,v.cells.size=P.cellsOf e)∧qba (flat vs)∧(flat vs).length=k * P.cellsOf e ∧
   (∀j u,(flat vs)[j]?=some u→w.cell? (a.add j)=some u)∧∀x∈l,ok x:=by
  intro k
  induction k with
  | zero =>
   intro _;exact ⟨[],[],rfl,rfl,(fun v hv=>absurd hv (by simp)),(fun u hu=>absurd hu (by simp [flat])),(by simp [flat]),(fun j u hu=>absurd hu (by simp [flat])),(fun x hx=>absurd hx (by simp))⟩
  | succ k ih =>
   intro hk;obtain ⟨l,vs,h1,h2,h3,h4,h5,h6,h7⟩:=ih (by omega);obtain ⟨cs',h8,h9⟩:=hx k (by omega);have hbk:b H (D k)≤1048576:=v4q (B.selem H _ _ (D k) (v6h.2 ⟨k,v6j.2 (by omega),rfl⟩)) hb;obtain ⟨y,h10,h11⟩:=R.read h9 hbk;obtain ⟨hl8,hg8⟩:=vdw h8;obtain ⟨h12,h13⟩:=PR.ofCells R h10;have hf:flat (vs++[ofCells (f y).isAgg cs'])=flat vs++cs':=by simp [flat,h13]
   refine ⟨l++[y],vs++[ofCells (f y).isAgg cs'],by simp [h1],?_,?_,?_,?_,?_,?_⟩
   ·rw [v3s];exact h2.app ⟨_,_,rfl,h12,rfl⟩
   ·intro v hv;rcases v3v.1 hv with hv | hv
    ·exact h3 v hv
    ·simp only [v6k] at hv;subst hv;rw [←v2f,h13,hl8]
   ·rw [hf];intro u hu;rcases v3v.1 hu with hu | hu
    ·exact h4 u hu
    ·exact h10.one (R.plain y) u hu
   ·rw [hf,v3l,h5,hl8,Nat.succ_mul]
   ·rw [hf];intro j u hu;by_cases hj:j < (flat vs).length
    ·rw [v3a hj] at hu;exact h6 j u hu
    ·rw [v3b (by omega),h5] at hu;have:=hg8 _ _ hu;rw [Deep.add_add] at this;have e1:k * P.cellsOf e+(j - k * P.cellsOf e)=j:=by omega
     rwa [e1] at this
   ·intro x hx;rcases v3v.1 hx with hx | hx
    ·exact h7 x hx
    ·simp only [v6k] at hx;subst hx;exact h11
 obtain ⟨l,vs,h1,h2,h3,h4,h5,h6,h7⟩:=key len (v4o _);refine ⟨l,⟨_,_,rfl,⟨some a,cap,vs,by simp [h1],by simp [h1,hl],h2,?_⟩,rfl⟩,by omega,h7⟩;by_cases h0:len=0
 ·refine .inl ?_;have:=h2.length;simp only [v3n,h1,h0] at this;exact v5z.1 this.symm
 ·have hpos:0 < (flat vs).length:=by rw [h5];exact Nat.mul_pos (by omega) hs
  have hc0:=h6 0 _ (v3d hpos);have e0:a.add 0=a:=rfl;rw [e0] at hc0;have hspot:a=⟨a.block,a.off,none⟩∧a.block < w.heap.size:=by
   unfold World.cell? at hc0;split at hc0
   ·rename_i c e2 fr hb2;refine ⟨?_,(v2b.1 hb2).1⟩;split at hc0
    ·cases hc0
    ·rename_i hsp;cases a with
     | mk bl off spot=>cases spot <;> simp_all
   ·cases hc0
  refine .inr ⟨a.block,a.off,P.cellsOf e,by rw [←hspot.1],h3,h4,hspot.2,fun h=>h,fun j u hu=>?_⟩;have:=h6 j u hu;rw [hspot.1] at this;unfold Addr.add at this;by_cases hj:j=0
  ·subst hj;exact this
  ·rw [if_neg hj] at this;exact this
structure RdFs (P:Program) (b:(H:Type)→DataW H→Nat) (fs:List Field) {α:Type} (g:α→List PV) (ok:α→Prop):Prop where
 read:∀{H:Type} {enc:TypeId×Value→H} {w:World} {sp:Nat→Bool} {n:Nat} (cs:Field→List Value),(∀fd∈fs,∃y,DataW.trod enc P w 0 sp true n fd.type (cs fd)=some y∧b H y.1≤1048576)→∃a,PRs NoX w (g a) (fs.flatMap cs)∧ok a
theorem RdFs.nil:RdFs P b [] (fun _:Unit=>[]) (fun _=>True):=⟨fun cs h=>⟨(),rfl,trivial⟩⟩
theorem RdFs.cons {fd:Field} {fs:List Field} {α β:Type} {f:α→PV} {ok:α→Prop} {g:β→List PV} {ok':β→Prop} (R:Rd P b fd.type f ok) (R':RdFs P b fs g ok') :
  RdFs P b (fd :: fs) (fun x:α×β=>(f x.1).cells++g x.2) (fun x=>ok x.1∧ok' x.2):=⟨fun cs h=>by
 obtain ⟨y,h1,h2⟩:=h fd (by simp);obtain ⟨a,h3,h4⟩:=R.read h1 h2;obtain ⟨c,h5,h6⟩:=R'.read cs (fun fd' h'=>h fd' (by simp [h']));exact ⟨(a,c),by rw [v5r];exact h3.app h5,h4,h6⟩⟩
def vxr (P:Program):Nat→List Field→Option Nat
 | o,[]=>some o
 | o,f :: r=>if f.offset=o then vxr P (o+P.cellsOf f.type) r else none
theorem q5n {P:Program}:∀{fs:List Field} {o s:Nat} {cs:List Value},vxr P o fs=some s→cs.length=s→fs.flatMap (fun f=>(cs.drop f.offset).take (P.cellsOf f.type))=cs.drop o∧o≤s
 | [],o,s,cs,h,hl=>by
  simp only [vxr,v5a] at h;subst h;refine ⟨?_,v4o _⟩;rw [List.flatMap_nil,List.drop_of_length_le (by omega)]
 | f :: r,o,s,cs,h,hl=>by
  simp only [vxr] at h;split at h
  ·rename_i ho;obtain ⟨h1,h2⟩:=q5n h hl;refine ⟨?_,by omega⟩;rw [v5r,h1,ho,←List.drop_drop];exact v6o _ _
  ·cases h
theorem qk5 {fs:Array Field} {α β:Type} {f:α→PV} {ok:α→Prop} {g:β→List PV} {ok':β→Prop} (hu:P.underlying t=some (.struct fs)) (hlay:vxr P 0 fs.toList=some (P.cellsOf t)) (B:Bulk b) (R:RdFs P b fs.toList g ok') (mk:β→α)
  (hcells:∀x,(f x).cells.length=P.cellsOf t) (hplain:∀x,∀y∈(f x).cells,y.isAgg=false∧y.isTup=false) (hagg:∀x,(f x).isAgg=true) (hmk:∀y,(f (mk y)).cells=g y) (hok:∀y,ok' y→ok (mk y)):Rd P b t f ok:=by
 refine ⟨hcells,hplain,fun x=>by rw [hagg];simp [qan,hu],fun {H enc w sp n cs x} h hb=>?_⟩;obtain ⟨xs,m,rfl,rfl,hl,hxl,hx⟩:=DataW.trod_struct hu h;have hall:∀fd∈fs.toList,∃y,DataW.trod enc P w 0 sp true m fd.type ((cs.drop fd.offset).take (P.cellsOf fd.type))=some y∧b H y.1≤1048576:=by
  intro fd hfd;obtain ⟨i,hi⟩:=List.mem_iff_getElem?.1 hfd;have hi':fs[i]?=some fd:=by simpa using hi
  have h1:=hx i fd hi';have hlt:i < xs.length:=by rw [hxl];exact (v2b.1 hi').1
  rw [v3d hlt] at h1;exact ⟨_,h1,v4q (B.part H _ _ (v6h.2 ⟨_,List.getElem_mem hlt,rfl⟩)) hb⟩
 obtain ⟨y,h1,h2⟩:=R.read _ hall;refine ⟨mk y,?_,hok y h2⟩;rw [hmk];obtain ⟨h3,_⟩:=q5n (cs:=cs) hlay hl;rw [h3] at h1;exact h1
theorem Rd.val {α:Type} {f:α→PV} {ok:α→Prop} (R:Rd P b t f ok) {H:Type} {enc:TypeId×Value→H} {w:World} {sp:Nat→Bool} {base:Nat} {v:Value} {d:DataW H} {ps:List MemPlace}
  (hval:Value.okWide P w .any base t v) (h:DataW.Trod enc P w 0 sp true t v d ps) (hb:b H d≤1048576):∃a,PR NoX w (f a) v∧ok a:=by
 obtain ⟨n,hn⟩:=h;obtain ⟨a,h1,h2⟩:=R.read hn hb;refine ⟨a,?_,h2⟩;obtain ⟨h3,h4⟩:=PR.ofCells R h1;have hag:=R.agg a;have:ofCells (f a).isAgg v.cells.toList=v:=by
  unfold Ab.ofCells;unfold Value.okWide at hval;unfold qan at hag;cases hu:P.underlying t with
  | none=>rw [hu] at hag;cases hag
  | some u =>
   rw [hu] at hag hval;have hone:=h1.one (R.plain a);cases hf:(f a).isAgg with
   | true =>
    rw [hf] at hag;simp only [if_true];cases u <;> simp at hag hval
    ·obtain ⟨cs,rfl,_⟩:=hval;simp [Value.cells]
    ·obtain ⟨cs,rfl,_⟩:=hval;simp [Value.cells]
   | false =>
    rw [hf] at hag;simp only [v2o,if_false];have hnag:∀cs,v≠.agg cs:=by
     rintro cs rfl;cases u <;> simp [Cell.okWide,Cell.ok,hu] at hval hag
    cases v <;> first | rfl | exact absurd rfl (hnag _)
 rw [this] at h3;exact h3
theorem Fr.kept {w w':World} (h:Fr D w w'):w.keptBut w' (fun _=>False):=by
 refine ⟨h.os,h.output,fun i hi=>?_⟩;rw [h.blk i hi];cases hx:w.heap[i]? with
 | none=>trivial
 | some o=>cases o <;> first | exact ⟨rfl,rfl,rfl,fun _ _=>rfl⟩ | exact .inr ⟨rfl,rfl⟩ | rfl
theorem Fr.same {w w':World} (h:Fr D w w') {p:MemPlace} (hp:p.block < w.heap.size):w.sameAt w' p:=by
 cases p with
 | cell c o=>exact World.cell?_of_block (h.blk c hp)
 | map c=>exact h.blk c hp
theorem quc {H:Type} {enc:TypeId×Value→H} {w w':World} {base:Nat} {sp:Nat→Bool} {held:Bool}:∀{ts:List TypeId} {vs:List Value} {ds:List (DataW H)} {ps:List MemPlace},
  DataW.TrodAll enc P w base sp held ts vs ds ps→(∀p∈ps,w.sameAt w' p)→DataW.TrodAll enc P w' base sp held ts vs ds ps
 | [],[],[],_,h,_=>h
 | _ :: _,_ :: _,_ :: _,_,⟨p,q,⟨n,h1⟩,h2,e⟩,hs=>⟨p,q,⟨n,DataW.trod_carry n _ _ _ h1 fun x hx=>hs x (by rw [e];exact v6b _ hx)⟩,quc h2 (fun x hx=>hs x (by rw [e];exact v6c _ hx)),e⟩
theorem vg2 {H:Type} {enc:TypeId×Value→H} {f:Func} {s:ChangeSpec} {apart fresh handsOn again:Bool} {W W':World} {args:Array Value} {v:Value} {ds gs:List (DataW H)} {qlv pa pv:List MemPlace}
  (hW:DataW.Whole enc P f.params.toList s.vars apart W args.toList ds gs qlv)
  (hres:∀(b:Nat) (sp:Nat→Bool) (hd:Bool),DataW.TrodAll enc P W' b sp hd f.resultTypes.toList (v.resultList f.resultTypes.size) (s.fn H (ds++gs)).results [])
  (hargs:∀sp:Nat→Bool,(∀p∈qlv,sp p.block=true)→DataW.TrodAll enc P W' 0 sp true f.params.toList args.toList (s.fn H (ds++gs)).args pa)
  (hvars:∀sp:Nat→Bool,(∀p∈qlv,sp p.block=true)→DataW.TrodVars enc P W' sp s.vars (s.fn H (ds++gs)).vars pv)
  (hps:qlv=pa++pv) (hk:W.keptBut W' (·∈qlv)) (hfz:∀b off,MemPlace.cell b off∈qlv→W'.frozen? ⟨b,off,none⟩=W.frozen? ⟨b,off,none⟩)
  (hok:∀(j:Nat) (t:TypeId) (r:Value),f.resultTypes[j]?=some t→(v.resultList f.resultTypes.size)[j]?=some r→Value.okWide P W' .any 0 t r) :
  s.post enc P f apart fresh handsOn again W args v W':=by
 have hold:∀p∈qlv,(fun b=>decide (b < W.heap.size)) p.block=true:=fun p hp=>by simpa using hW.lt p hp
 refine ⟨ds,gs,qlv,[],pa,pv,hW,hres _ _ _,hargs _ hold,hvars _ hold,World.keptBut_mono (fun p hp=>⟨hp,?_⟩) hk,fun _=>?_⟩
 ·rw [hps,v3v] at hp;exact Or.inr hp
 obtain ⟨_,_,_,_,_,hz,hn⟩:=hW;refine ⟨hok,_,_,([]++pa)++pv,⟨[]++pa,pv,ChangeShapes.trodAll_append (hargs _ (fun _ _=>rfl)) (hres _ _ _),hvars _ (fun _ _=>rfl),rfl,?_,?_⟩,?_⟩
 ·intro b off hp;have hp':MemPlace.cell b off∈qlv:=by rw [hps];simpa using hp
  rw [hfz b off hp'];exact hz b off hp'
 ·intro ha;have:=hn ha;rw [hps] at this;simpa using this
 ·intro p hp _;rw [hps];simpa using hp
theorem vlm {H:Type} {enc:TypeId×Value→H} {f:Func} {s:ChangeSpec} {W:World} {args:Array Value} {ds gs:List (DataW H)} {qlv:List MemPlace} {k:FuncId} {tb:TypeId} {pvs:List PV}
  (hW:DataW.Whole enc P f.params.toList s.vars false W args.toList ds gs qlv) (hv:s.vars=[]) (hfn:s.fn H ds={ results:=[.lit (.bool true)],args:=ds }) (hres:f.resultTypes=#[tb]) (htb:P.underlying tb=some .bool)
  (hl:laidOutB P=true) (hm:mapsRowed P=true) (hz:((v34 P.types.size).all fun t=>match P.underlying t with | some (.slice e)=>decide (0 < P.cellsOf e) | _=>true)=true) (hts:∀t∈f.params.toList,t < P.types.size)
  (hcon:Con D P k pvs (.bool true)) (htab:TabOk P NoX W) (hpr:PRs NoX W pvs args.toList) :
  Calls P k args W fun e W'=>∃v,e=.returned v∧s.post enc P f false true false false W args v W':=by
 have hW':=hW;obtain ⟨p,q,hA,hV,rfl,hfz,hnd⟩:=hW;rw [hv] at hV;obtain ⟨rfl,rfl⟩:=ChangeShapes.trodVars_none hV;have hlt:=hW'.lt;simp only [v2x] at hW' hlt;have hc:=hcon.pure NoX W args.toList (fun b hb=>hb.elim) htab hpr;rw [Array.toArray_toList] at hc;refine hc.mono ?_;rintro e W' ⟨v,rfl,hv',hfr⟩;simp only [PR] at hv';subst hv';refine ⟨_,rfl,?_⟩;have K:=kids_rows hl hm;have hss:=slices_full_of P hz;refine vg2 (pa:=p) (pv:=[]) hW' ?_ ?_ ?_ (by simp) (World.keptBut_mono (fun _ h=>h.elim) hfr.kept) (fun b off hp=>hfr.fz ⟨b,off,none⟩ (hlt _ hp)) ?_
 ·intro b0 sp hd;simp only [v2x,hfn,hres];exact trodAll_cons_mk (RowKit.shut_bool htb _) ChangeShapes.trodAll_mk0
 ·intro sp hsp;simp only [v2x,hfn];exact quc (DataW.TrodAll.respare K hss hts hA (fun x hx=>hsp x hx)) (fun x hx=>hfr.same (hlt x hx))
 ·intro sp _;rw [hv];simp only [v2x,hfn];rfl
 ·exact RowKit.ok_one hres rfl (RowKit.okWide_bool_mk htb _)
end Go.Ab
namespace Go.Ab
open Go
def qnq {K V:Type} [DecidableEq K]:List (K×V)→K→Option V
 | [],_=>none
 | (a,v) :: r,k=>if k=a then some v else qnq r k
def qrz {K V:Type} [DecidableEq K]:List (K×V)→K→V→List (K×V)
 | [],k,v=>[(k,v)]
 | (a,u) :: r,k,v=>if k=a then (a,v) :: r else (a,u) :: qrz r k v
def qfj {K V:Type} (f:K→PV) (m:List (K×V)):List PV:=m.map fun p=>f p.1
def qfw {K V:Type} (f:V→PV) (m:List (K×V)):List PV:=m.map fun p=>f p.2
def encM {K V:Type} (f:K→PV) (g:V→PV) (m:List (K×V)):PV:=.mapv (qfj f m) (qfw g m)
@[go_sem] theorem encM_eq {K V:Type} (f:K→PV) (g:V→PV) (m:List (K×V)):encM f g m=.mapv (qfj f m) (qfw g m):=rfl
@[go_sem] theorem encK_len {K V:Type} (f:K→PV) (m:List (K×V)):(qfj f m).length=m.length:=by simp [qfj]
theorem q5o {K V:Type} [DecidableEq K] (P:Program) (kt:TypeId) (f:K→PV) (hk:∀a b,qnl P kt (f a) (f b)=some (decide (a=b))) (k:K) (m:List (K×V)) (g:V→PV):qsb P kt (f k) (qfj f m) ((qfw g m).map AV.p)=some ((qnq m k).map fun v=>AV.p (g v)):=by
 induction m with
 | nil=>rfl
 | cons p r ih =>
  obtain ⟨a,v⟩:=p;simp only [qfj,qfw,v3t,qsb,hk,qnq] at ih ⊢;by_cases h:k=a
  ·simp [h]
  ·simp only [decide_eq_false h,if_neg h];exact ih
theorem vay {K V:Type} [DecidableEq K] (P:Program) (kt:TypeId) (f:K→PV) (hk:∀a b,qnl P kt (f a) (f b)=some (decide (a=b))) (k:K) (m:List (K×V)) (g:V→PV) (v:V):q77 P kt (f k) (.p (g v)) (qfj f m) ((qfw g m).map AV.p)=some (qfj f (qrz m k v),(qfw g (qrz m k v)).map AV.p):=by
 induction m with
 | nil=>rfl
 | cons p r ih =>
  obtain ⟨a,u⟩:=p;simp only [qfj,qfw,v3t,q77,hk,qrz] at ih ⊢;by_cases h:k=a
  ·simp [h]
  ·simp only [decide_eq_false h,if_neg h,ih];rfl
theorem vg3 (P:Program) (kt:TypeId) (a b:List UInt8):qnl P kt (.str a) (.str b)=some (decide (a=b)):=by
 simp only [qnl,qxz];by_cases h:a=b <;> simp [h]
@[go_sem] theorem vxs {V:Type} (P:Program) (kt:TypeId) (k:List UInt8) (m:List (List UInt8×V)) (f:V→PV):qsb P kt (.str k) (qfj PV.str m) ((qfw f m).map AV.p)=some ((qnq m k).map fun v=>AV.p (f v)):=q5o P kt _ (vg3 P kt) k m f
@[go_sem] theorem updA_str {V:Type} (P:Program) (kt:TypeId) (k:List UInt8) (m:List (List UInt8×V)) (f:V→PV) (v:V):q77 P kt (.str k) (.p (f v)) (qfj PV.str m) ((qfw f m).map AV.p)=some (qfj PV.str (qrz m k v),(qfw f (qrz m k v)).map AV.p):=vay P kt _ (vg3 P kt) k m f v
@[go_sem] theorem getD_map {α β:Type} (F:α→β) (o:Option α) (z:α):(o.map F).getD (F z)=F (o.getD z):=by cases o <;> rfl
attribute [go_sem] Option.isSome_map
def q3c (D : Nat → Bool) (n l g : Nat) : L PV := if D l then .look l fun o => match o with
      | .map g' ks vs => if g = g' then (qaz (view D n) ks).bind fun xs => (qaz (view D n) vs).bind fun ys => .ret (.mapv xs ys) else .fail
      | _ => .fail
    else .fail
theorem vdx (D:Nat→Bool) (l g:Nat):view D 9 (.mapo l g)=q3c D 8 l g:=rfl
theorem vdy (D:Nat→Bool) (l g:Nat):view D 8 (.mapo l g)=q3c D 7 l g:=rfl
theorem vdz (D:Nat→Bool) (l g:Nat):view D 7 (.mapo l g)=q3c D 6 l g:=rfl
attribute [go_sem] vdx vdy vdz q3c
end Go.Ab
namespace Go.Ab
variable {D:Prop}
open Go
variable {C:Cx} {Q:Exit→St→Prop} {st:St}
def qjc:Nat→List AV→Env
 | _,[]=>[]
 | k,x :: r=>(k,x) :: qjc (k+1) r
theorem qnr:∀(ps:List AV) (vs:List Value) (k t:Nat) {X:Nat→Prop} {inj:Inj} {σ:Nat→AO} {w:World},ARs X inj σ w ps vs →
  AR X inj σ w ((qjc k ps).get t) (if k≤t then vs.getD (t - k) undef else undef)
 | [],_,k,t,_,_,_,_,_=>trivial
 | p :: ps,_,k,t,X,inj,σ,w,h=>by
  obtain ⟨v,r,rfl,h2,h3⟩:=h;simp only [qjc,Env.get];by_cases hk:k=t
  ·subst hk;rw [if_pos rfl,if_pos (v4o _)];simpa using h2
  ·rw [if_neg hk];have:=qnr ps r (k+1) t (X:=X) (inj:=inj) h3;by_cases hle:k≤t
   ·rw [if_pos hle];rw [if_pos (by omega)] at this;have e:t - k=(t - (k+1))+1:=by omega
    rw [e];simpa using this
   ·rw [if_neg hle];rw [if_neg (by omega)] at this;exact this
def inlQ (C:Cx) (ops:Array Oper) (o:Oper) (rest:List Oper) (Q:Exit→St→Prop) (st:St) (fn:Func):Exit→St→Prop :=
 fun e s=>(e=.normal∨e=.ret)∧∃v,vf4 C.P s fn.results.toList=some v∧AL C ops rest Q ⟨qel st.env o.dst v,s.heap⟩
theorem qfa {ops:Array Oper} {o:Oper} {rest:List Oper} {f:Operand} {args:Array Operand} {ats:Array TypeId} {k:FuncId} {avs:List AV} {fn:Func} {c:Code} {N':Nat} (B':Nat)
  (ho:o.op=.call ⟨.value f,args,ats⟩) (hg:qax ops st.env o=some true) (hd:qbb C.N o=true) (hf:C.P.funcs[k]?=some fn) (hb:fn.body=some c) (hk:HasBody C.P k) (hN:fn.ntmps=N') (hn:avs.length≤N')
  (hc:qb0 st.env f args.toList=some (k,avs))
  (h:∀inj w hT,AWp ⟨C.P,N',B',C.X,st.heap,inj,w,C.D,hT⟩ c (inlQ C ops o rest Q st fn) ⟨qjc 0 avs,st.heap⟩):AL C ops (o :: rest) Q st:=by
 subst hN;intro inj a w hs;simp only [wpList,qbc hs hg,if_true];refine .inl ?_;obtain ⟨vs,hrun,hars⟩:=ql3 hs ho hk hc;unfold Oper.wp;rw [hrun];simp only [Oper.upon];have hl:=hars.length;refine calls_of_wp hf hb (wp_mono (h inj w (qol hs.ev) inj _ w ⟨fun t=>?_,?_,rfl,hs.hr,Ev.refl _ _ _ _⟩) ?_)
 ·have:=qnr avs vs 0 t hars;simp only [v6w,if_true,v4y] at this;have e:(vs.toArray++Array.replicate (fn.ntmps - vs.toArray.size) undef).getD t undef=vs.getD t undef:=by
   by_cases ht:t < vs.length
   ·simp [v2a,ht]
   ·simp only [Array.getD_eq_getD_getElem?,v2a,v4b,ht,if_false,Array.getElem?_replicate];rw [v5s,v3e (by omega)];split <;> rfl
  rw [e];exact this
 ·simp [←hl];omega
 ·intro e a' w' ⟨s,inj',hs',hq⟩;obtain ⟨hex,v,hv,hal⟩:=hq;obtain ⟨val,h1,h2⟩:=qry hs' hv;have hev:Ev C.D C.X inj st.sig w inj' s.sig w':=hs'.ev;have hput:SR C ⟨qel st.env o.dst v,s.heap⟩ inj' (a.put o.dst val) w':=by
   have h3:=hs.put (o:=o) (u:=none) hd hs.hr (Ev.refl _ _ _ _) (v:=.any) (val:=val) trivial;refine ⟨fun t=>?_,h3.size,h3.defers,hs'.hr,hs.ev.trans hev⟩;cases hdst:o.dst with
   | none =>
    have:=h3.env t;rw [hdst] at this;simpa [qel,Act.put] using AR.ev hev hs.hr.xlt _ _ (hs.env t)
   | some d =>
    simp only [qbb,hdst,decide_eq_true_eq] at hd;simp only [qel,Act.put,Env.get];by_cases ht:d=t
    ·subst ht;rw [if_pos rfl];have:(a.tmps.setIfInBounds d val).getD d undef=val:=by simp [hs.size,hd]
     rw [this];exact h2
    ·rw [if_neg ht];have:(a.tmps.setIfInBounds d val).getD t undef=a.tmps.getD t undef:=by simp [v2d ht]
     rw [this];exact AR.ev hev hs.hr.xlt _ _ (hs.env t)
  rcases hex with rfl | rfl
  ·exact ⟨hs'.defers,val,h1,hal inj' _ _ hput⟩
  ·exact ⟨hs'.defers,val,h1,hal inj' _ _ hput⟩
theorem qa8 {ops:Array Oper} {o:Oper} {rest:List Oper} {fn:Func} {s:St} {v:AV} (h1:vf4 C.P s fn.results.toList=some v) (h2:AL C ops rest Q ⟨qel st.env o.dst v,s.heap⟩):inlQ C ops o rest Q st fn .ret s:=⟨.inr rfl,v,h1,h2⟩
@[go_sem] theorem vxt {α β:Type} (f:α→β) (l:List α) (i:Nat) (y:α):(l.map f).set i (f y)=(l.set i y).map f:=by rw [List.map_set]
@[go_sem] theorem vo6 {α:Type} (f:α→PV) (l:List (List α)) (i:Nat) (y:List α):(l.map (qav f)).set i (.slc (v58 f y))=(l.set i y).map (qav f):=by rw [List.map_set];rfl
theorem vaz (σ σ':Nat→AO):∀(l:List PV) (cs ds:List AV),qk4 σ σ' (l.map AV.p++cs) (l.map AV.p++ds)=qk4 σ σ' cs ds
 | [],_,_=>rfl
 | x :: l,cs,ds=>by
  simp only [v3t,v5p,qqu,vf5,true_and];exact vaz σ σ' l cs ds
@[go_sem] theorem vxu {α:Type} (σ σ':Nat→AO) (f:α→PV) (l:List α) (x:α) (v:AV):qk4 σ σ' ((l.map f).map AV.p++[v]) (((l++[x]).map f).map AV.p)=LeV σ σ' v (.p (f x)):=by
 rw [v3s,v3s,vaz];simp [qk4]
attribute [go_sem] qjc
theorem zF {P:Prop} (h:P:=by (repeat' refine And.intro ?_ ?_) <;> first | rfl | (simp;done) | (simp;rfl) | (simp [*];done) | (simp [*];rfl)):P:=h
theorem zs {x y:Code} (h:AWp C x (qwy (fun s=>AWp C y Q s) Q) st):AWp C (.seq x y) Q st:=qpi h
theorem zr {id:Nat} {l:List Oper} (h:AL C l.toArray l Q st):AWp C (.region id l.toArray false) Q st:=qmd h
theorem zb {id:Nat} {c:Code} (h:AWp C c (qqs id Q) st):AWp C (.block id c) Q st:=qya h
theorem zk (h:Q .normal st):AWp C .skip Q st:=q2y h
theorem zq (h:Q .ret st):AWp C .ret Q st:=q2z h
theorem zx {id:Nat} (h:Q (.exit id) st):AWp C (.exit id) Q st:=vap h
theorem zl {ops:Array Oper} (h:Q .normal st):AL C ops [] Q st:=q1j h
theorem zn {K:St→Prop} {s:St} (h:K s):qwy K Q .normal s:=h
theorem zt {K:St→Prop} {s:St} (h:Q .ret s):qwy K Q .ret s:=h
theorem ze {K:St→Prop} {s:St} {i:Nat} (h:Q (.exit i) s):qwy K Q (.exit i) s:=h
theorem yn {i:Nat} {s:St} (h:Q .normal s):qqs i Q .normal s:=h
theorem yr {i:Nat} {s:St} (h:Q .ret s):qqs i Q .ret s:=h
theorem yh {i:Nat} {s:St} (h:Q .normal s):qqs i Q (.exit i) s:=q8i h
theorem yd {l:Array Oper} {acc:List Evt} (h:Q .normal st) (hev:qvv l acc.reverse=true:=by kernel_rfl):DGo C l [] st acc (DK C l Q):=DGo.fin hev h
theorem zU {ops:Array Oper} {o:Oper} {l l1 l2:List Oper} {st':St} (h:AL C ops l2 Q st') (hs:spl l=(o :: l1,l2):=by exact rfl) (hr:qp6 C.P C.N C.B ops (o :: l1) st=(st',[]):=by simp only [go_sem,seval, *];exact rfl):AL C ops l Q st:=q3a hs hr h
theorem zW {ops:Array Oper} {l:List Oper} (n:Nat) {st':St} (h:AL C ops (l.drop n) Q st') (hr:qp6 C.P C.N C.B ops (l.take n) st=(st',[]):=by simp only [go_sem,seval, *];exact rfl):AL C ops l Q st:=vg0 n hr h
theorem yU {ops:Array Oper} {K:List Evt→St→Prop} {o:Oper} {l l1 l2:List Oper} {acc acc':List Evt} {st':St} (h:DGo C ops l2 st' acc' K) (hs:spl l=(o :: l1,l2):=by exact rfl)
  (hr:qkw C.P C.N C.B ops (o :: l1) st acc=(acc',st',[]):=by simp only [go_sem,seval, *];first | exact ⟨rfl,rfl⟩ | exact rfl):DGo C ops l st acc K:=DGo.upto hs hr h
theorem zg {ops:Array Oper} {o:Oper} {rest:List Oper} {st':St} (h:AL C ops rest Q st') (hg:qax ops st.env o=some true:=by first | exact qby rfl rfl (by exact rfl) (by exact rfl) | exact qa6 rfl) (hd:qbb C.N o=true:=by rfl)
  (hr:((aop C.P C.B (ev st.env) o).run (qar st.heap)).map (fun vu=>(⟨qel st.env o.dst vu.1,qrx st.heap vu.2⟩:St))=some st':=by simp only [go_sem,seval, *];exact rfl):AL C ops (o :: rest) Q st:=vo3 hg hd hr h
theorem yg {ops:Array Oper} {K:List Evt→St→Prop} {o:Oper} {rest:List Oper} {acc:List Evt} {st':St} {e:Evt} (h:DGo C ops rest st' (e :: acc) K) (hg:qax ops st.env o=some true:=by first | exact qby rfl rfl (by exact rfl) (by exact rfl) | exact qa6 rfl) (hd:qbb C.N o=true:=by rfl)
  (hr:((aop C.P C.B (ev st.env) o).run (qar st.heap)).map (fun vu=>((⟨vu.1,vu.2,(aop C.P C.B (ev st.env) o).reads (qar st.heap)⟩:Evt),(⟨qel st.env o.dst vu.1,qrx st.heap vu.2⟩:St)))=some (e,st'):=by simp only [go_sem,seval, *];first | exact ⟨rfl,rfl⟩ | exact rfl):DGo C ops (o :: rest) st acc K:=DGo.gt' hg hd hr h
theorem zc {ops:Array Oper} {o:Oper} {rest:List Oper} {f:Operand} {args:Array Operand} {ats:Array TypeId} {k:FuncId} {avs:List AV} {pargs:List PV} {r:PV} {st':St}
  (hp:Con C.D C.P k pargs r) (h:AL C ops rest Q st')
  (ho:o.op=.call ⟨.value f,args,ats⟩:=by rfl) (hg:qax ops st.env o=some true:=by first | exact qa6 rfl | exact qby rfl rfl (by exact rfl) (by exact rfl)) (hd:qbb C.N o=true:=by rfl)
  (hc:qb0 st.env f args.toList=some (k,avs):=by simp only [go_sem,seval, *];exact rfl) (hv:(qaz (view (fun _=>true) 9) avs).run (qar st.heap)=some pargs:=by simp only [go_sem,seval, *];all_goals exact zF)
  (hfl:(qpd avs).isSome=true∨r.flat=true:=by first | exact .inr rfl | exact .inl rfl | exact .inl (by simp only [go_sem]))
  (hs:(⟨qel st.env o.dst (.p r),st.heap⟩:St)=st':=by rfl):AL C ops (o :: rest) Q st:=vrj ho hg hd hc hv hp hfl hs h
theorem yc {ops:Array Oper} {K:List Evt→St→Prop} {o:Oper} {f:Operand} {args:Array Operand} {ats:Array TypeId} {rest:List Oper} {acc:List Evt}
  {k:FuncId} {avs:List AV} {pargs:List PV} {r:PV} {rs:List Nat} {st':St}
  (hp:Con C.D C.P k pargs r) (h:DGo C ops rest st' (⟨.p r,none,rs⟩ :: acc) K)
  (ho:o.op=.call ⟨.value f,args,ats⟩:=by rfl) (hg:qax ops st.env o=some true:=by first | exact qa6 rfl | exact qby rfl rfl (by exact rfl) (by exact rfl)) (hd:qbb C.N o=true:=by rfl)
  (hc:qb0 st.env f args.toList=some (k,avs):=by simp only [go_sem,seval, *];exact rfl) (hv:(qaz (view (fun _=>true) 9) avs).run (qar st.heap)=some pargs:=by simp only [go_sem,seval, *];all_goals exact zF)
  (hrs:(qaz (view (fun _=>true) 9) avs).reads (qar st.heap)=rs:=by simp only [go_sem,seval, *];exact rfl)
  (hfl:(qpd avs).isSome=true∨r.flat=true:=by first | exact .inr rfl | exact .inl rfl | exact .inl (by simp only [go_sem]))
  (hs:(⟨qel st.env o.dst (.p r),st.heap⟩:St)=st':=by rfl):DGo C ops (o :: rest) st acc K:=DGo.con' ho hg hd hc hv hrs hp hfl hs h
theorem yV {ops:Array Oper} {K:List Evt→St→Prop} {l:List Oper} {acc acc':List Evt} (n:Nat) {st':St} (h:DGo C ops (l.drop n) st' acc' K)
  (hr:qkw C.P C.N C.B ops (l.take n) st acc=(acc',st',[]):=by simp only [go_sem,seval, *];first | exact ⟨rfl,rfl⟩ | exact rfl):DGo C ops l st acc K:=by
 rw [←v6o n l];exact DGo.append h _ _ _ hr
theorem yS {ops:Array Oper} {K:List Evt→St→Prop} {o:Oper} {t:TypeId} {len:Nat} {qas:Array (Nat×Operand)} {rest:List Oper} {st':St} {acc:List Evt} {v:AV} {u:Upd} {x:PV} {r1 r2:List Nat} (k:Nat)
  (h:DGo C ops rest st' (⟨.p x,none,r1++r2⟩ :: acc) K) (ho:o.op=.buildSlice t len qas:=by rfl) (hg:qax ops st.env o=some true:=by first | exact qa6 rfl | exact qby rfl rfl (by exact rfl) (by exact rfl)) (hd:qbb C.N o=true:=by rfl) (hk:qjh C.B o=k:=by rfl)
  (hr:(aop C.P C.B (ev st.env) o).run (qar st.heap)=some (v,u):=by simp only [go_sem,seval, *];first | exact ⟨rfl,rfl⟩ | exact rfl) (h1:(aop C.P C.B (ev st.env) o).reads (qar st.heap)=r1:=by simp only [go_sem,seval, *];exact rfl)
  (hv:(view (fun l=>l == k) 9 v).run (qar (qrx st.heap u))=some x:=by simp only [go_sem,seval, *];all_goals exact zF) (h2:(view (fun l=>l == k) 9 v).reads (qar (qrx st.heap u))=r2:=by simp only [go_sem,seval, *];exact rfl)
  (hs:(⟨qel st.env o.dst (.p x),st.heap⟩:St)=st':=by rfl):DGo C ops (o :: rest) st acc K:=DGo.built ho hg hd hk hr h1 hv h2 hs h
theorem zw {ops:Array Oper} {l:List Oper} (d:Nat) (b:Bool) {h:List (Nat×AO)} {env:Env} (k:AL C ops l Q ⟨(d,.p (.bool b)) :: env,h⟩) (hv:env.get d=.p (.bool b):=by simp only [go_sem,seval, *];all_goals first | assumption | exact Bool.eq_false_iff.2 (by assumption)):AL C ops l Q ⟨env,h⟩:=vll hv k
theorem yw {l0:Array Oper} {l:List Oper} (d:Nat) (b:Bool) {h:List (Nat×AO)} {env:Env} {acc:List Evt} (k:DGo C l0 l ⟨(d,.p (.bool b)) :: env,h⟩ acc (DK C l0 Q)) (hv:env.get d=.p (.bool b):=by simp only [go_sem,seval, *];all_goals first | assumption | exact Bool.eq_false_iff.2 (by assumption)):DGo C l0 l ⟨env,h⟩ acc (DK C l0 Q):=DGo.known' hv k
theorem zi {c:Operand} {x y:Code} (h:AWp C x Q st) (hc:ev st.env c=.p (.bool true):=by simp only [go_sem,seval, *];all_goals first | assumption | exact Bool.eq_false_iff.2 (by assumption)):AWp C (.cond c x y) Q st:=vgy hc h
theorem zj {c:Operand} {x y:Code} (h:AWp C y Q st) (hc:ev st.env c=.p (.bool false):=by simp only [go_sem,seval, *];all_goals first | assumption | exact Bool.eq_false_iff.2 (by assumption)):AWp C (.cond c x y) Q st:=vgz hc h
theorem zh {ops:Array Oper} {l l':List Oper} {env env':Env} {h:List (Nat×AO)} (k:AL C ops l' Q ⟨env',h⟩) (he:qyo C.N ops l env=(l',env'):=by exact rfl):AL C ops l Q ⟨env,h⟩:=vax he k
theorem yk {l0:Array Oper} {K:List Evt→St→Prop} {l l':List Oper} {env env':Env} {acc acc':List Evt} {h:List (Nat×AO)} (k:DGo C l0 l' ⟨env',h⟩ acc' K) (he:qub C.N l0 l env acc=(l',env',acc'):=by exact rfl):DGo C l0 l ⟨env,h⟩ acc K:=DGo.skips he k
theorem zE {s s':St} (h:Le C s s':=by simp only [go_sem,seval, *];all_goals exact zF):Le C s s':=h
theorem zL {c:Code} (st':St) (k:AWp C c Q st') (h:Le C st st':=by simp only [go_sem,seval, *];all_goals exact zF):AWp C c Q st:=q1l h k
theorem zM {ops:Array Oper} {l:List Oper} (st':St) (k:AL C ops l Q st') (h:Le C st st':=by simp only [go_sem,seval, *];all_goals exact zF):AL C ops l Q st:=vk8 h k
theorem zT {P:Program} {fn:Func} {r:PV} {s:St} {v:AV} {rs:_} (he:fn.results=rs) (h1:vf4 P s rs.toList=some v:=by simp only [go_sem,seval, *];exact rfl) (h2:(view (fun _=>true) 9 v).run s.sig=some r:=by simp only [go_sem,seval, *];all_goals exact zF):vvb P fn r .ret s:=q3b (by rw [he];exact h1) h2
theorem q8u (k:Nat):argsEnv k []=[]:=rfl
theorem q5p (k:Nat) (x:PV) (r:List PV):argsEnv k (x :: r)=(k,.p x) :: argsEnv (k+1) r:=rfl
theorem zP {P:Program} {f:FuncId} {fn:Func} {c:Code} {args:List PV} {r:PV} {N:Nat} {env:Env} (hk:HasBody P f) (hf:P.funcs[f]?=some fn) (hb:fn.body=some c) (hN:fn.ntmps=N)
  (h:∀X w hT,AWp ⟨P,N,0,X,[],fun _=>none,w,D,hT⟩ c (vvb P fn r) ⟨env,[]⟩) (hn:args.length≤N:=by simp) (he:argsEnv 0 args=env:=by simp only [q8u,q5p,Nat.reduceAdd];exact rfl):Con D P f args r :=
 ⟨hk,qyc hf hb hN hn (by subst he;exact h)⟩
theorem zB {α β:Type} {x:Option α} {f:α→Option β} {r:β} (h:x.bind f=some r):∃a,x=some a∧f a=some r:=v6x.1 h
theorem zI {c:Prop} [Decidable c] {α:Type} {a b:Option α} {r:α} (h:(if c then a else b)=some r):(c∧a=some r)∨(¬c∧b=some r):=by
 split at h
 ·exact .inl ⟨‹c›,h⟩
 ·exact .inr ⟨‹_›,h⟩
theorem zX {α β:Type} {l:List α} {i:Int} {f:α→Option β} {r:β} (h:(idx l i).bind f=some r):∃x,l[i.toNat]?=some x∧0≤i∧i < (l.length:Int)∧f x=some r:=by
 obtain ⟨x,h1,h2⟩:=v6x.1 h;obtain ⟨a,b,c⟩:=vlj h1;exact ⟨x,b,a,c,h2⟩
theorem zY {α β:Type} {l:List α} {n:Nat} (k:Int) {f:α→Option β} {r:β} (h:(l[n]?).bind f=some r) (hk:(n:Int)=k:=by rfl):∃x,l[n]?=some x∧n < l.length∧k < (l.length:Int)∧f x=some r:=by
 obtain ⟨x,h1,h2⟩:=v6x.1 h;have:=qdf h1;exact ⟨x,h1,this,by omega,h2⟩
def tE (C:Cx) (k:Exit) (t:St) (e:Exit) (s:St):Prop:=e=k∧Le C s t
def tR (P:Program) (fn:Func) (r:PV) (e:Exit) (s:St):Prop:=e=.ret∧vvb P fn r .ret s
theorem zO {σ τ:Type} {c:Code} {B:σ→Option (LS σ τ)} {s0:σ} {t:τ} (S:σ→St) (T:τ→Exit→St→Prop) (hL:qaj B s0=some t)
  (round:∀s x,B s=some x→AWp C c (LP C S T x) (S s)) (post:∀e s,T t e s→Wk C Q e s) (h0:Le C st (S s0):=by simp only [go_sem,seval, *];all_goals exact zF)
  (hn:∀t s,¬T t .normal s:=by intro o s hT;first | (have hh:=hT.1;cases hh;done) | (rcases o with _ | _ <;> (have hh:=hT.1;cases hh);done) | (rcases o with _ | (_ | _) <;> (have hh:=hT.1;cases hh);done) | (rcases o with _ | (_ | (_ | _)) <;> (have hh:=hT.1;cases hh);done)):AWp C (.loop c) Q st:=vdv S T hn hL h0 round post
theorem zA {k:Exit} {t:St} (h:Q k t):∀e s,tE C k t e s→Wk C Q e s:=by
 rintro e s ⟨rfl,hl⟩;exact Wk.to hl h
theorem zZ {P:Program} {fn:Func} {r:PV} (h:∀s,vvb P fn r .ret s→Q .ret s):∀e s,tR P fn r e s→Wk C Q e s:=by
 rintro e s ⟨rfl,hq⟩;exact Wk.now (h s hq)
theorem zJ {τ:Type} {x y:Code} (T:τ→Exit→St→Prop) (o:τ) (h:AWp C x (T o) st) (hq:∀e s,T o e s→Wk C (qwy (fun s=>AWp C y Q s) Q) e s):AWp C (.seq x y) Q st:=vli h hq
end Go.Ab
namespace Go.Ab
variable {D:Prop}
open Go
variable {X:Nat→Prop} {inj:Inj} {σ:Nat→AO} {w:World}
theorem q3d (F cur:Array Value) (h:F.size≤cur.size):(Sort.putCells id 0 F cur).toList.take F.size=F.toList∧(Sort.putCells id 0 F cur).size=cur.size:=by
 refine ⟨?_,by simp [Sort.putCells]⟩;apply v27;intro k;simp only [Sort.putCells,v3j,v2e,v5h];by_cases hk:k < F.size
 ·have hc:k < cur.size:=by omega
  simp [hk,hc]
 ·simp [hk]
theorem HR.rows (h:HR X inj σ w) {l e sz g b c m:Nat} {es es':List AV} {vs':List Value} {os:Array Obj} (hl:σ l=.arr e sz g es) (hi:inj l=some (b,c))
  (hlen:es'.length=es.length) (hes:ARs X inj σ w es' vs') (hs:∀v∈vs',v.cells.size=sz) (hone:qba (flat vs')) :
  HR X inj (qhz σ l (.arr e sz g es')) (Sort.grow (Sort.putRow id (Sort.ahead w m) b 0 (flat vs').toArray) os) ∧
  Ev D X inj σ w inj (qhz σ l (.arr e sz g es')) (Sort.grow (Sort.putRow id (Sort.ahead w m) b 0 (flat vs').toArray) os):=by
 obtain ⟨vs,h1,h2,h3,h4⟩:=h.obj l _ hl;rcases h4 with ⟨h4,_⟩ | ⟨b',c',cur,h5,h6,h7,h8,h9,h10,h11⟩
 ·rw [hi] at h4;cases h4
 rw [hi] at h5;cases h5;have hb:b < w.heap.size:=(v2b.1 h7).1;have hold:∀k,k < w.heap.size→k≠b→(Sort.grow (Sort.putRow id (Sort.ahead w m) b 0 (flat vs').toArray) os).heap[k]?=w.heap[k]?:=by
  intro k hk hne;rw [Sort.heap_grow_old _ _ (by simp [Sort.putRow,Sort.mapBlock,Sort.ahead];exact hk)];simp [Sort.putRow,Sort.mapBlock,Sort.ahead,v5i,Ne.symm hne]
 have hnew:(Sort.grow (Sort.putRow id (Sort.ahead w m) b 0 (flat vs').toArray) os).heap[b]?=some (.cells (Sort.putCells id 0 (flat vs').toArray cur) e (0,0)):=by
  rw [Sort.heap_grow_old _ _ (by simp [Sort.putRow,Sort.mapBlock,Sort.ahead];exact hb)];simp [Sort.putRow,Sort.mapBlock,Sort.ahead,v5i,h7,Sort.onCells]
 have hup:=h.update (D:=D) (w':=Sort.grow (Sort.putRow id (Sort.ahead w m) b 0 (flat vs').toArray) os) (l:=l) (o:=.arr e sz g es) (o':=.arr e sz g es') (x:=inj l) hl rfl rfl rfl
  (fun _=>by simp [Sort.grow,Sort.putRow,Sort.mapBlock,Sort.ahead]) (by simp [Sort.grow,Sort.putRow,Sort.mapBlock,Sort.ahead])
  (fun a ha=>by
   unfold World.frozen?;by_cases hab:a.block=b
   ·rw [hab,hnew,h7]
   ·rw [hold _ ha hab])
  (fun k hk hne=>hold k hk (fun e=>hne rfl c (by rw [e];exact hi)))
  (fun b1 c1 h1=>.inr ⟨rfl,_,h1⟩) ⟨v4o _,fun _ _=>⟨rfl,.inl ⟨e,sz,es,es',rfl,rfl,hlen.symm⟩⟩⟩
 obtain ⟨hev,hhr⟩:=hup;have hinj:(fun k=>if k=l then inj l else inj k)=inj:=by
  funext k;by_cases hk:k=l
  ·rw [if_pos hk,hk]
  ·rw [if_neg hk]
 rw [hinj] at hev hhr;have hvl:vs'.length=es'.length:=hes.length.symm;have hfl:(flat vs').length=es'.length * sz:=by rw [qbp hs,hvl]
 have hle:(flat vs').toArray.size≤cur.size:=by
  rw [v4b,hfl,h10,hlen];exact v4v _ h8
 obtain ⟨t1,t2⟩:=q3d (flat vs').toArray cur hle;refine ⟨hhr ⟨vs',ARs.ev hev h.xlt _ _ hes,hs,hone,.inr ⟨b,c,_,hi,h6,hnew,by omega,h9,by rw [t2];exact h10,?_⟩⟩,hev⟩;rw [v4b,hfl] at t1;exact t1
theorem Keeps.rows {Y:Nat→Prop} {b m:Nat} {F:Array Value} {os:Array Obj} (hY:Y b):Keeps Y Y w (Sort.grow (Sort.putRow id (Sort.ahead w m) b 0 F) os):=by
 refine ⟨by simp [Sort.grow,Sort.putRow,Sort.mapBlock,Sort.ahead],fun k hk hn=>?_,fun _ _ h=>h⟩;rw [Sort.heap_grow_old _ _ (by simp [Sort.putRow,Sort.mapBlock,Sort.ahead];exact hk)];have:b≠k:=fun e=>hn (e ▸ hY)
 simp [Sort.putRow,Sort.mapBlock,Sort.ahead,v5i,this]
theorem Fr.grow {w':World} (h:Fr True w w'):∃q os,w'=Sort.grow (w.drewN q) os:=by
 refine ⟨w'.drawn - w.drawn,w'.heap.extract w.heap.size w'.heap.size,?_⟩;have hh:w'.heap=w.heap++w'.heap.extract w.heap.size w'.heap.size:=by
  apply v5g;intro k;rw [v2a];by_cases hk:k < w.heap.size
  ·rw [if_pos hk,h.blk k hk]
  ·rw [if_neg hk,Array.getElem?_extract];have hsz:=h.size;by_cases hk':k < w'.heap.size
   ·rw [if_pos (by omega)];congr 1;omega
   ·rw [if_neg (by omega),Array.getElem?_eq_none (by omega)]
 cases w' with
 | mk heap tape drawn os output =>
  have h1:=h.os;have h2:=h.tape;have h3:=h.output;have h4:=h.dr trivial;simp only at h1 h2 h3 h4 hh;subst h1 h2 h3;simp only [Sort.grow,World.drewN,World.mk.injEq,and_true,true_and];exact ⟨hh,by omega⟩
open Go.Proofs Go.Sort in
structure Srt1 (P:Program) (k:FuncId):Prop where
 body:HasBody P k
 rows:∀{α:Type} [Inhabited α] (enc:α→Value) (h1:OneCell enc) (cf:α→α→Int) (hO:SWO (ltOf cf)) (g:Nat) (cb:Array Value) (blk off cap:Nat) (d:Array α) (w:World),
  (∀args w,(callFunc g args).run P w=.ok (.enter g args) w)→CmpLays1 P g cb enc cf blk off d.size w→Holds enc w blk off d→blk < w.heap.size→d.size < 4611686018427387904 →
  Calls P k #[.slice (some ⟨blk,off,none⟩) d.size cap,.func (.func g) #[] cb] w fun e w' =>
   e=.returned (.tuple #[])∧∃n os,w'=sortWorld enc w blk off n (pdq (ltOf cf) d 0 d.size (v5l d.size) true true) os
 none:∀(p:Option Addr) (cap:Nat) (fv:Value) (w:World),Calls P k #[.slice p 0 cap,fv] w fun e w'=>e=.returned (.tuple #[])∧w'=w
def qd6 {α:Type} (a:α) (r:List α) (i:Nat):α:=(a :: r).getD i a
theorem qqx {α:Type} (a:α) (r:List α) (i:Nat):qd6 a r i∈a :: r:=by
 unfold qd6;rw [v5s];cases h:(a :: r)[i]? with
 | none=>simp
 | some x=>exact List.mem_of_getElem? h
def srt {α:Type} (c:α→α→Int):List α→List α
 | []=>[]
 | a :: r=>(Sort.pdq (Go.Proofs.ltOf fun i j=>c (qd6 a r i) (qd6 a r j)) (v2g (r.length+1)) 0 (r.length+1) (v5l (r.length+1)) true true).toList.map (qd6 a r)
def q5q {α:Type} (c:α→α→Int) (l:List α):Prop :=
 (∀x∈l,¬c x x < 0)∧(∀x∈l,∀y∈l,∀z∈l,c x y < 0→c y z < 0→c x z < 0)∧(∀x∈l,∀y∈l,∀z∈l,¬c x y < 0→¬c y z < 0→¬c x z < 0)
open Classical in
def q3e {α:Type} (c:α→α→Option Int) (l:List α):Option (List α) :=
 if (∀x∈l,∀y∈l,(c x y).isSome=true)∧q5q (fun x y=>(c x y).getD 0) l∧l.length < 4611686018427387904 then some (srt (fun x y=>(c x y).getD 0) l) else none
theorem q5q.swo {α:Type} {c:α→α→Int} {a:α} {r:List α} (h:q5q c (a :: r)):Sort.SWO (Go.Proofs.ltOf fun i j=>c (qd6 a r i) (qd6 a r j)):=by
 obtain ⟨h1,h2,h3⟩:=h;have m:=qqx a r;refine ⟨fun x=>?_,fun x y z a b=>?_,fun x y z a b=>?_⟩
 ·simp only [Go.Proofs.ltOf,decide_eq_false_iff_not];exact h1 _ (m x)
 ·simp only [Go.Proofs.ltOf,decide_eq_true_eq] at *;exact h2 _ (m x) _ (m y) _ (m z) a b
 ·simp only [Go.Proofs.ltOf,decide_eq_false_iff_not] at *;exact h3 _ (m x) _ (m y) _ (m z) a b
theorem q3f {α:Type} {c:α→α→Int} {a:α} {r:List α} (h:q5q c (a :: r)) :
  Sort.PermIn 0 (r.length+1) (v2g (r.length+1)) (Sort.pdq (Go.Proofs.ltOf fun i j=>c (qd6 a r i) (qd6 a r j)) (v2g (r.length+1)) 0 (r.length+1) (v5l (r.length+1)) true true) ∧
  Sort.SortedIn (Go.Proofs.ltOf fun i j=>c (qd6 a r i) (qd6 a r j)) 0 (r.length+1) (Sort.pdq (Go.Proofs.ltOf fun i j=>c (qd6 a r i) (qd6 a r j)) (v2g (r.length+1)) 0 (r.length+1) (v5l (r.length+1)) true true):=by
 have:=Sort.pdq_sorts _ h.swo (v2g (r.length+1)) 0 (r.length+1) (v5l (r.length+1)) true true (v6w _) (by simp) (Or.inl rfl);exact ⟨this.1,this.2⟩
theorem vg4 {α:Type} (a:α) (r:List α):(v34 (r.length+1)).map (qd6 a r)=a :: r:=by
 apply v27;intro i;rw [v3g];by_cases hi:i < r.length+1
 ·rw [List.getElem?_range hi,v3d (by simpa using hi)];simp [qd6,List.getD,v3d (show i < (a :: r).length by simpa using hi)]
 ·rw [v3e (by simpa using hi),v3e (by simpa using hi)];rfl
theorem q3g {α:Type} {c:α→α→Int} {l:List α} (h:q5q c l):(srt c l).Perm l:=by
 cases l with
 | nil=>exact List.Perm.refl _
 | cons a r =>
  obtain ⟨⟨p1,_,p3⟩,_⟩:=q3f h;have e:∀d:Array Nat,d.size=r.length+1→d.extract 0 (r.length+1)=d:=fun d hd=>by rw [←hd];simp
  rw [e _ (by rw [p1];simp),e _ (by simp)] at p3;have:=p3.map (qd6 a r);simp only [Array.toList_range,vg4] at this;exact this
theorem q1r {α:Type} {c:α→α→Int} {l:List α} (h:q5q c l):(srt c l).Pairwise fun x y=>¬c y x < 0:=by
 cases l with
 | nil=>exact List.Pairwise.nil
 | cons a r =>
  obtain ⟨⟨p1,_,p3⟩,hs⟩:=q3f h;show List.Pairwise _ ((Sort.pdq (Go.Proofs.ltOf fun i j=>c (qd6 a r i) (qd6 a r j)) (v2g (r.length+1)) 0 (r.length+1) (v5l (r.length+1)) true true).toList.map (qd6 a r));generalize Sort.pdq (Go.Proofs.ltOf fun i j=>c (qd6 a r i) (qd6 a r j)) (v2g (r.length+1)) 0 (r.length+1) (v5l (r.length+1)) true true=d at p1 hs ⊢;rw [List.pairwise_map,List.pairwise_iff_getElem];intro i j hi hj hij;simp only [v2f] at hi hj;have:=hs i j (v6w _) hij (by rw [p1] at hj;simpa using hj);rw [getElem!_pos d i hi,getElem!_pos d j hj] at this;simpa [Go.Proofs.ltOf] using this
theorem qvw {α:Type} [Inhabited α] (enc:α→Value) (w:World) (b:Nat) (d:Array α):Sort.putRow enc w b 0 d=Sort.putRow id w b 0 (d.map enc):=by
 unfold Sort.putRow;refine Sort.mapBlock_congr _ _ _ _ fun c _ _ _=>?_
 unfold Sort.putCells;apply v5g;intro k;simp only [v5h,Array.size_map,v4y,v4z,v6w,true_and];cases c[k]? with
 | none=>rfl
 | some x =>
  simp only [v49];by_cases hk:k < d.size
  ·rw [if_pos hk,if_pos hk,getElem!_pos d k hk,getElem!_pos (d.map enc) k (by simpa using hk)];simp
  ·rw [if_neg hk,if_neg hk]
theorem qjw:∀{vs:List Value},(∀v∈vs,v.oneCell'=true)→flat vs=vs
 | [],_=>rfl
 | v :: vs,h=>by
  rw [qix,qjw fun u hu=>h u (v6e _ hu)];have h1:=h v (v6f);have:v.cells=#[v]:=by
   cases v <;> first | rfl | simp [Value.oneCell'] at h1
  rw [this];rfl
variable {C:Cx} {Q:Exit→St→Prop} {st:St}
theorem vrr {α:Type} {ops:Array Oper} {o:Oper} {rest:List Oper} {f:Operand} {args:Array Operand} {ats:Array TypeId} {k kc:FuncId} {caps:List PV} {fv:AV} {e g n L:Nat}
  (S:Srt1 C.P k) (enc:α→PV) (h1:∀x,(AV.p (enc x)).one=true) (c:α→α→Option Int) {l l':List α} (hl:q3e c l=some l')
  (hc:∀x y r,c x y=some r→Con True C.P kc (enc x :: enc y :: caps) (.int .i64 r))
  (ho:o.op=.call ⟨.value f,args,ats⟩) (hg:qax ops st.env o=some true) (hd:qbb C.N o=true)
  (hk:qb0 st.env f args.toList=some (k,[.own L g 0 n,fv])) (hfv:(view (fun q=>q != L) 9 fv).run st.sig=some (.func (.func kc) caps))
  (hobj:qar st.heap L=.arr e 1 g (v58 AV.p (v58 enc l))) (hn:n=l.length)
  (h:AL C ops rest Q ⟨qel st.env o.dst (.p (.tup [])),qph st.heap L (.arr e 1 g (v58 AV.p (v58 enc l')))⟩):AL C ops (o :: rest) Q st:=by
 intro inj a w hs;simp only [wpList,qbc hs hg,if_true];refine .inl ?_;obtain ⟨vs,hrun,hars⟩:=ql3 hs ho S.body hk;unfold Oper.wp;rw [hrun];simp only [Oper.upon];obtain ⟨v1,r1,rfl,ha1,v2,r2,rfl,ha2,rfl⟩:=hars;have hp2:=qd4 hs.hr (fun q=>q != L) 9 fv v2 _ ha2 hfv;obtain ⟨cvs,rfl,hcaps⟩:=hp2;obtain ⟨⟨sa,sn,sc,rfl⟩,hown⟩:=ha1;obtain ⟨_,hown⟩:=hown _ hobj;obtain ⟨hle,hcase⟩:=hown rfl e 1 _ rfl;unfold q3e at hl;split at hl
 case isFalse=>cases hl
 rename_i hcond;obtain ⟨hdef,hok,hlt⟩:=hcond;obtain rfl:=v6z hl;cases l with
 | nil =>
  subst hn;have hnone:∃p cap,Value.slice sa sn sc=.slice p 0 cap:=by
   rcases hcase with ⟨_,h2,_⟩ | ⟨b,c0,a0,_,h2,_⟩
   ·exact ⟨none,0,h2⟩
   ·exact ⟨_,_,h2⟩
  obtain ⟨p,cap,hpc⟩:=hnone;rw [hpc];refine (S.none p cap _ w).mono ?_;rintro e' w' ⟨rfl,rfl⟩;have hsame:upd st.sig (some (L,.arr e 1 g (v58 AV.p (v58 enc []))))=st.sig:=by
   funext q;simp only [upd,qhz];by_cases hq:q=L
   ·rw [if_pos hq,hq];exact hobj.symm
   ·rw [if_neg hq]
  exact h inj _ _ (hs.put (u:=some (L,.arr e 1 g (v58 AV.p (v58 enc [])))) hd (by rw [hsame];exact hs.hr) (by rw [hsame];exact Ev.refl _ _ _ _) (v:=.p (.tup [])) ⟨[],rfl,rfl⟩)
 | cons x0 r =>
  obtain ⟨vs,o1,o2,o3,o4⟩:=hs.hr.obj L _ hobj;have hvl:vs.length=r.length+1:=by rw [←o1.length];simp
  rcases hcase with ⟨_,_,_,h4⟩ | ⟨b,cp,a0,hi,h2,h3,h4⟩
  ·rw [hn] at h4;simp at h4
  have ha0:a0=some ⟨b,0,none⟩:=by
   rcases h4 with ⟨h4,_⟩ | h4
   ·exact absurd rfl h4
   ·simpa using h4
  rw [h2,ha0,hn];rcases o4 with ⟨o4,_⟩ | ⟨b',c',cur,i1,i2,i3,i4,i5,i6,i7⟩
  ·rw [hi] at o4;cases o4
  rw [hi] at i1;cases i1;have hb:b < w.heap.size:=(v2b.1 i3).1;have hone:∀v∈vs,v.oneCell'=true:=by
   intro v hv;obtain ⟨j,hj,rfl⟩:=List.getElem_of_mem hv;have hj':j < (x0 :: r).length:=by simp;omega
   obtain ⟨u,hu,hr⟩:=o1.get (i:=j) (p:=.p (enc ((x0 :: r)[j]))) (by rw [v3g,v3g,v3d hj'];rfl);rw [v3d hj] at hu;cases hu;exact AR.one_of (h1 _) hr
  obtain ⟨v0,vr,hv0⟩:∃v0 vr,vs=v0 :: vr:=by cases vs with | nil=>simp at hvl | cons v0 vr=>exact ⟨v0,vr,rfl⟩
  have hvr:vr.length=r.length:=by rw [hv0] at hvl;simpa using hvl
  -- what lies at i
  have hat:∀i,AR C.X inj st.sig w (.p (enc (qd6 x0 r i))) (qd6 v0 vr i):=by
   intro i;unfold qd6;by_cases hii:i < r.length+1
   ·obtain ⟨u,hu,hr⟩:=o1.get (i:=i) (p:=.p (enc ((x0 :: r)[i]'(by simpa using hii)))) (by rw [v3g,v3g,v3d (show i < (x0 :: r).length by simpa using hii)];rfl);rw [hv0] at hu;rw [v5s,v5s,hu,v3d (show i < (x0 :: r).length by simpa using hii)];exact hr
   ·obtain ⟨u,hu,hr⟩:=o1.get (i:=0) (p:=.p (enc x0)) (by simp);rw [hv0] at hu;simp only [v5u,v5a] at hu;subst hu;rw [v5s,v5s,v3e (by simp;omega),v3e (by simp;omega)];exact hr
  have honeAt:∀i,(qd6 v0 vr i).oneCell'=true:=fun i=>hone _ (by rw [hv0];exact qqx v0 vr i)
  have hfl:flat vs=vs:=qjw hone;have hY:∀q,(C.X q∨q7u (fun q=>q != L) inj st.sig q)→q < w.heap.size:=fun q hq=>hq.elim (hs.hr.xlt q) fun hf=>(hs.hr.flt hf).1
  have hYb:C.X b∨q7u (fun q=>q != L) inj st.sig b:=.inr ⟨L,cp,_,hobj,rfl,by simp,hi⟩;have hK0:Keeps (fun q=>C.X q∨F inj st.sig q) (fun q=>C.X q∨q7u (fun q=>q != L) inj st.sig q) w w :=
   ⟨v4o _,fun _ _ _=>rfl,fun q _ hn hq=>hn (hq.imp id fun ⟨l,c,o,a1,a2,_,a4⟩=>⟨l,c,o,a1,a2,rfl,a4⟩)⟩
  have hsome:∀i j,c (qd6 x0 r i) (qd6 x0 r j)=some ((c (qd6 x0 r i) (qd6 x0 r j)).getD 0):=by
   intro i j;obtain ⟨z,hz⟩:=v47.1 (hdef _ (qqx x0 r i) _ (qqx x0 r j));rw [hz];rfl
  have hcon0:=hc _ _ _ (hsome 0 0);have hrows:=S.rows (qd6 v0 vr) honeAt (fun i j=>(c (qd6 x0 r i) (qd6 x0 r j)).getD 0) hok.swo kc cvs.toArray b 0 (cp - 0) (v2g (r.length+1)) w hcon0.body;rw [Array.size_range] at hrows;refine (hrows ?_ ?_ hb (by simpa using hlt)).mono ?_
  ·intro m os dk hdk x y;have hW:Go.Proofs.sortWorld (qd6 v0 vr) w b 0 m dk os=Sort.grow (Sort.putRow id (Sort.ahead w m) b 0 (dk.map (qd6 v0 vr))) os:=by
    unfold Go.Proofs.sortWorld;rw [qvw]
   rw [hW];have hK:=Keeps.rows (w:=w) (b:=b) (m:=m) (F:=dk.map (qd6 v0 vr)) (os:=os) (Y:=fun q=>C.X q∨q7u (fun q=>q != L) inj st.sig q) hYb;generalize hWW:Sort.grow (Sort.putRow id (Sort.ahead w m) b 0 (dk.map (qd6 v0 vr))) os=W at hK;have hcon:=hc _ _ _ (hsome x y);have hcall:=hcon.pure (fun q=>C.X q∨q7u (fun q=>q != L) inj st.sig q) W (qd6 v0 vr x :: qd6 v0 vr y :: cvs) (fun q hq=>Nat.lt_of_lt_of_le (hY q hq) hK.size) (((qol hs.ev).keep hK0).keep hK)
    ⟨_,_,rfl,PR.keep hK _ _ (PR.keep hK0 _ _ (hat x)),_,_,rfl,PR.keep hK _ _ (PR.keep hK0 _ _ (hat y)),PRs.keep hK _ _ hcaps⟩
   have hargs:#[qd6 v0 vr x,qd6 v0 vr y]++cvs.toArray=(qd6 v0 vr x :: qd6 v0 vr y :: cvs).toArray:=by simp
   rw [hargs];refine hcall.mono ?_;rintro e' w' ⟨v,rfl,hv,hfr⟩;simp only [PR] at hv;subst hv;exact ⟨rfl,hfr.grow⟩
  ·intro j hj;have hj':j < r.length+1:=by simpa using hj
   have hcj:cur[j]?=some (qd6 v0 vr j):=by
    have h5:(cur.toList.take ((v58 AV.p (v58 enc (x0 :: r))).length * 1))[j]?=vs[j]?:=by rw [i7,hfl]
    rw [v3j,if_pos (by simpa using hj'),v2e] at h5;rw [h5,hv0];have:j < (v0 :: vr).length:=by simp;omega
    simp [qd6,v3d this,List.getD]
   have hr:(v2g (r.length+1))[j]! = j:=by rw [getElem!_pos _ j (by simpa using hj')];simp
   rw [hr];refine ⟨?_,?_⟩
   ·simp only [World.cell?,i3,v4z];simpa using hcj
   ·simp [World.frozen?,i3]
  ·rintro e' w' ⟨rfl,m,os,rfl⟩;have hp:=q3f hok;have hsr:srt (fun x y=>(c x y).getD 0) (x0 :: r)=(Sort.pdq (Go.Proofs.ltOf fun i j=>(c (qd6 x0 r i) (qd6 x0 r j)).getD 0) (v2g (r.length+1)) 0 (r.length+1) (v5l (r.length+1)) true true).toList.map (qd6 x0 r):=rfl;rw [hsr] at h;generalize Sort.pdq (Go.Proofs.ltOf fun i j=>(c (qd6 x0 r i) (qd6 x0 r j)).getD 0) (v2g (r.length+1)) 0 (r.length+1) (v5l (r.length+1)) true true=d at h hp ⊢;have hds:d.size=r.length+1:=by have:=hp.1.1;simpa using this
   have hfl':(flat (d.toList.map (qd6 v0 vr))).toArray=d.map (qd6 v0 vr):=by
    rw [qjw (fun v hv=>by obtain ⟨i,_,rfl⟩:=v6h.1 hv;exact honeAt i)];apply v19;simp
   have hW:Go.Proofs.sortWorld (qd6 v0 vr) w b 0 m d os=Sort.grow (Sort.putRow id (Sort.ahead w m) b 0 (flat (d.toList.map (qd6 v0 vr))).toArray) os:=by
    unfold Go.Proofs.sortWorld;rw [qvw,hfl']
   rw [hW];have hars:∀l:List Nat,ARs C.X inj st.sig w (v58 AV.p (v58 enc (l.map (qd6 x0 r)))) (l.map (qd6 v0 vr)):=by
    intro l
    induction l with
    | nil=>rfl
    | cons i l ih=>exact ⟨_,_,rfl,hat i,ih⟩
   obtain ⟨hH,hE⟩:=HR.rows hs.hr (m:=m) (os:=os) hobj hi (by simp [hds]) (hars d.toList)
    (fun v hv=>by obtain ⟨i,_,rfl⟩:=v6h.1 hv;exact o2 _ (by rw [hv0];exact qqx v0 vr i))
    (by rw [qjw (fun v hv=>by obtain ⟨i,_,rfl⟩:=v6h.1 hv;exact honeAt i)];intro u hu;obtain ⟨i,_,rfl⟩:=v6h.1 hu;exact honeAt i)
   exact h inj _ _ (hs.put (u:=some (L,_)) hd hH hE (v:=.p (.tup [])) ⟨[],rfl,rfl⟩)
structure SrtI (P:Program) (k:FuncId):Prop where
 body:HasBody P k
 rows:∀(blk off cap:Nat) (zs:List Int) (w:World),Sort.Holds (Value.int .i64) w blk off zs.toArray→blk < w.heap.size→zs.length < 4611686018427387904 →
  Calls P k #[.slice (some ⟨blk,off,none⟩) zs.length cap] w fun e w' =>
   e=.returned (.tuple #[])∧∃n os,w'=Sort.grow (Sort.putRow (Value.int .i64) (Sort.ahead w n) blk off (zs.mergeSort fun x y=>decide (x≤y)).toArray) os
 none:∀(p:Option Addr) (cap:Nat) (w:World),Calls P k #[.slice p 0 cap] w fun e w'=>e=.returned (.tuple #[])∧w'=w
def vkn (l:List Int):List Int:=l.mergeSort fun x y=>decide (x≤y)
def qyp (l:List Int):Option (List Int):=if l.length < 4611686018427387904 then some (vkn l) else none
theorem va0 {X:Nat→Prop} {inj:Inj} {σ:Nat→AO} {w:World}:∀{l:List Int} {vs:List Value},ARs X inj σ w (v58 AV.p (v58 (PV.int .i64) l)) vs→vs=l.map (Value.int .i64)
 | [],vs,h=>h
 | x :: l,vs,h=>by
  obtain ⟨v,r,rfl,h2,h3⟩:=h;simp only [AR,PR] at h2;rw [h2,va0 h3];rfl
theorem q5r {X:Nat→Prop} {inj:Inj} {σ:Nat→AO} {w:World}:∀(l:List Int),ARs X inj σ w (v58 AV.p (v58 (PV.int .i64) l)) (l.map (Value.int .i64))
 | []=>rfl
 | x :: l=>⟨_,_,rfl,rfl,q5r l⟩
theorem vrs {ops:Array Oper} {o:Oper} {rest:List Oper} {f:Operand} {args:Array Operand} {ats:Array TypeId} {k:FuncId} {e g n L:Nat}
  (S:SrtI C.P k) {l l':List Int} (hl:qyp l=some l')
  (ho:o.op=.call ⟨.value f,args,ats⟩) (hg:qax ops st.env o=some true) (hd:qbb C.N o=true)
  (hk:qb0 st.env f args.toList=some (k,[.own L g 0 n]))
  (hobj:qar st.heap L=.arr e 1 g (v58 AV.p (v58 (PV.int .i64) l))) (hn:n=l.length)
  (h:AL C ops rest Q ⟨qel st.env o.dst (.p (.tup [])),qph st.heap L (.arr e 1 g (v58 AV.p (v58 (PV.int .i64) l')))⟩):AL C ops (o :: rest) Q st:=by
 intro inj a w hs;simp only [wpList,qbc hs hg,if_true];refine .inl ?_;obtain ⟨vs,hrun,hars⟩:=ql3 hs ho S.body hk;unfold Oper.wp;rw [hrun];simp only [Oper.upon];obtain ⟨v1,r1,rfl,ha1,rfl⟩:=hars;obtain ⟨⟨sa,sn,sc,rfl⟩,hown⟩:=ha1;obtain ⟨_,hown⟩:=hown _ hobj;obtain ⟨hle,hcase⟩:=hown rfl e 1 _ rfl;unfold qyp at hl;split at hl
 case isFalse=>cases hl
 rename_i hlt;obtain rfl:=v6z hl;rcases hcase with ⟨_,h2,_,hn0⟩ | ⟨b,cp,a0,hi,h2,h3,h4⟩
 ·have hl0:l=[]:=v26 (by omega);subst hl0;have e0:vkn []=[]:=by simp [vkn]
  rw [e0] at h;rw [h2];refine (S.none none 0 w).mono ?_;rintro e' w' ⟨rfl,rfl⟩;have hsame:upd st.sig (some (L,.arr e 1 g (v58 AV.p (v58 (PV.int .i64) []))))=st.sig:=by
   funext q;simp only [upd,qhz];by_cases hq:q=L
   ·rw [if_pos hq,hq];exact hobj.symm
   ·rw [if_neg hq]
  exact h inj _ _ (hs.put (u:=some (L,.arr e 1 g (v58 AV.p (v58 (PV.int .i64) [])))) hd (by rw [hsame];exact hs.hr) (by rw [hsame];exact Ev.refl _ _ _ _) (v:=.p (.tup [])) ⟨[],rfl,rfl⟩)
 ·obtain ⟨vs,o1,o2,o3,o4⟩:=hs.hr.obj L _ hobj;have ha0:a0=some ⟨b,0,none⟩:=by
   rcases h4 with ⟨h4,_⟩ | h4
   ·exact absurd rfl h4
   ·simpa using h4
  rw [h2,ha0,hn];rcases o4 with ⟨o4,_⟩ | ⟨b',c',cur,i1,i2,i3,i4,i5,i6,i7⟩
  ·rw [hi] at o4;cases o4
  rw [hi] at i1;cases i1;have hb:b < w.heap.size:=(v2b.1 i3).1;have hvs:=va0 o1;have hone:∀l:List Int,∀v∈l.map (Value.int .i64),v.oneCell'=true:=fun l v hv=>by obtain ⟨x,_,rfl⟩:=v6h.1 hv;rfl
  refine (S.rows b 0 (cp - 0) l w ?_ hb hlt).mono ?_
  ·intro j hj;have hj':j < l.length:=by simpa using hj
   have hcj:cur[j]?=some (Value.int .i64 l[j]):=by
    have h5:(cur.toList.take ((v58 AV.p (v58 (PV.int .i64) l)).length * 1))[j]?=vs[j]?:=by rw [i7,hvs,qjw (hone l)]
    rw [v3j,if_pos (by simpa using hj'),v2e] at h5;rw [h5,hvs,v3g,v3d hj'];rfl
   have hr:l.toArray[j]! = l[j]:=by rw [getElem!_pos _ j (by simpa using hj')];simp
   rw [hr];refine ⟨?_,?_⟩
   ·simp only [World.cell?,i3,v4z];simpa using hcj
   ·simp [World.frozen?,i3]
  ·rintro e' w' ⟨rfl,m,os,rfl⟩;have hfl':(flat ((vkn l).map (Value.int .i64))).toArray=((l.mergeSort fun x y=>decide (x≤y)).toArray).map (Value.int .i64):=by
    rw [qjw (hone _)];apply v19;simp [vkn]
   rw [qvw,←hfl'];obtain ⟨hH,hE⟩:=HR.rows hs.hr (m:=m) (os:=os) hobj hi (by simp [vkn]) (q5r (vkn l))
    (fun v hv=>by obtain ⟨i,_,rfl⟩:=v6h.1 hv;rfl) (by rw [qjw (hone _)];exact hone _)
   exact h inj _ _ (hs.put (u:=some (L,_)) hd hH hE (v:=.p (.tup [])) ⟨[],rfl,rfl⟩)
theorem qop (l:List Int):(vkn l).Perm l:=List.mergeSort_perm _ _
theorem qyq (l:List Int):(vkn l).Pairwise (·≤·):=by
 have:=List.pairwise_mergeSort (le:=fun x y:Int=>decide (x≤y)) (by intro a b c;simp;omega) (by intro a b;simp;omega) l;exact this.imp (by simp)
theorem qud {l l':List Int} (h:qyp l=some l'):l'.length=l.length:=by
 unfold qyp at h;split at h
 ·cases h;exact (qop l).length_eq
 ·cases h
theorem qns {α:Type} {c:α→α→Option Int} {l l':List α} (h:q3e c l=some l'):l'.length=l.length:=by
 unfold q3e at h;split at h
 ·rename_i hc;cases h;exact (q3g hc.2.1).length_eq
 ·cases h
theorem zSI {ops:Array Oper} {o:Oper} {rest:List Oper} {f:Operand} {args:Array Operand} {ats:Array TypeId} {k:FuncId} {e g n L:Nat}
  (S:SrtI C.P k) {l l':List Int} (hl:qyp l=some l') (h:AL C ops rest Q ⟨qel st.env o.dst (.p (.tup [])),qph st.heap L (.arr e 1 g (v58 AV.p (v58 (PV.int .i64) l')))⟩)
  (ho:o.op=.call ⟨.value f,args,ats⟩:=by rfl) (hg:qax ops st.env o=some true:=by first | exact qa6 rfl | exact qby rfl rfl (by exact rfl) (by exact rfl)) (hd:qbb C.N o=true:=by rfl)
  (hk:qb0 st.env f args.toList=some (k,[.own L g 0 n]):=by simp only [go_sem,seval, *];first | exact ⟨rfl,rfl,rfl⟩ | exact rfl)
  (hobj:qar st.heap L=.arr e 1 g (List.map AV.p (List.map (PV.int .i64) l)):=by simp only [go_sem,seval, *];exact rfl) (hn:n=l.length:=by rfl):AL C ops (o :: rest) Q st:=vrs S hl ho hg hd hk hobj hn h
theorem zSF {α:Type} {ops:Array Oper} {o:Oper} {rest:List Oper} {f:Operand} {args:Array Operand} {ats:Array TypeId} {k kc:FuncId} {caps:List PV} {fv:AV} {e g n L:Nat}
  (S:Srt1 C.P k) (enc:α→PV) (c:α→α→Option Int) {l l':List α} (hl:q3e c l=some l') (hc:∀x y r,c x y=some r→Con True C.P kc (enc x :: enc y :: caps) (.int .i64 r))
  (h:AL C ops rest Q ⟨qel st.env o.dst (.p (.tup [])),qph st.heap L (.arr e 1 g (v58 AV.p (v58 enc l')))⟩)
  (h1:∀x,(AV.p (enc x)).one=true:=by intro x;rfl)
  (ho:o.op=.call ⟨.value f,args,ats⟩:=by rfl) (hg:qax ops st.env o=some true:=by first | exact qa6 rfl | exact qby rfl rfl (by exact rfl) (by exact rfl)) (hd:qbb C.N o=true:=by rfl)
  (hk:qb0 st.env f args.toList=some (k,[.own L g 0 n,fv]):=by simp only [go_sem,seval, *];first | exact ⟨⟨rfl,rfl,rfl⟩,rfl⟩ | exact ⟨rfl,rfl,rfl,rfl⟩ | exact rfl) (hfv:(view (fun q=>q != L) 9 fv).run st.sig=some (.func (.func kc) caps):=by simp only [go_sem,seval, *];all_goals exact zF)
  (hobj:qar st.heap L=.arr e 1 g (List.map AV.p (List.map enc l)):=by simp only [go_sem,seval, *];exact rfl) (hn:n=l.length:=by rfl):AL C ops (o :: rest) Q st:=vrr S enc h1 c hl hc ho hg hd hk hfv hobj hn h
end Go.Ab
namespace Go.Ab
variable {D:Prop}
open Go
def vg5 (n₀:Nat) (W:World) (sv:Value) (zs:List Int):Prop :=
 (∃a cap,sv=.slice a 0 cap∧zs=[])∨∃b off cap,sv=.slice (some ⟨b,off,none⟩) zs.length cap∧b < n₀∧∀j,j < zs.length→W.cell? ⟨b,off+j,none⟩=some (.int .i64 (zs[j]?.getD 0))
theorem vg5.below {n₀:Nat} {A B:World} (h:RowKit.Below n₀ A B) {sv:Value} {zs:List Int}:vg5 n₀ A sv zs→vg5 n₀ B sv zs
 | .inl e=>.inl e
 | .inr ⟨b,off,cap,e,hb,hc⟩=>.inr ⟨b,off,cap,e,hb,fun j hj=>(h.cell (p:=⟨b,off+j,none⟩) hb).trans (hc j hj)⟩
theorem va1 {X:Nat→Prop} {w:World}:∀{l:List Int} {vs:List Value},PRs X w (v58 (PV.int .i64) l) vs→vs=l.map (Value.int .i64)
 | [],vs,h=>h
 | x :: l,vs,h=>by
  obtain ⟨v,r,rfl,h2,h3⟩:=h;simp only [PR] at h2;rw [h2,va1 h3];rfl
variable {C:Cx} {Q:Exit→St→Prop} {st:St}
end Go.Ab
namespace Go.Ab
variable {D:Prop}
open Go
def q1s (C:Cx) (ops:Array Oper):List Evt→Nat→(Nat→AV)×(Nat→AO)→Prop
 | [],_,_=>True
 | e :: es,i,s=>(∃o,ops[i]?=some o∧q8p C ops o s.1 s.2 e)∧q1s C ops es (i+1) (qm7 s.1 ((ops[i]?).bind (·.dst)) e.v,upd s.2 e.u)
theorem q1s.at {C:Cx} {ops:Array Oper}:∀{es:List Evt} {i:Nat} {s:(Nat→AV)×(Nat→AO)},q1s C ops es i s→∀j e,i≤j→es[j - i]?=some e →
  ∃o,ops[j]?=some o∧q8p C ops o (apD ops es i (fun m=>decide (m < j)) s).1 (apD ops es i (fun m=>decide (m < j)) s).2 e
 | [],i,s,h,j,e,hj,he=>by simp at he
 | e0 :: es,i,s,h,j,e,hj,he=>by
  obtain ⟨⟨o,ho,hst⟩,hrest⟩:=h;have skip:∀(es':List Evt) (m:Nat) (s':(Nat→AV)×(Nat→AO)),j≤m→apD ops es' m (fun m=>decide (m < j)) s'=s':=by
   intro es'
   induction es' with
   | nil=>intro m s' _;rfl
   | cons x xs ih=>intro m s' hm;simp only [apD];rw [if_neg (by simp;omega)];exact ih (m+1) s' (by omega)
  by_cases hji:j=i
  ·subst hji;simp only [v6u,v5u,v5a] at he;subst he;rw [skip _ _ _ (v4o _)];exact ⟨o,ho,hst⟩
  ·have hlt:i < j:=by omega
   have:=q1s.at hrest j e (by omega) (by rw [show j - i=(j - (i+1))+1 by omega] at he;simpa using he);simp only [apD];rw [if_pos (by simpa using hlt)];exact this
theorem DCh.chainP {C:Cx} {ops:Array Oper} {l:List Oper} {st:St} {es:List Evt} {st':St} (h:DCh C ops l st es st'):∀i,(∀j,j < l.length→ops[i+j]?=l[j]?) →
  es.length=l.length∧q1s C ops es i (st.env.get,st.sig)∧apD ops es i (fun _=>true) (st.env.get,st.sig)=(st'.env.get,st'.sig):=by
 induction h with
 | nil=>intro i hi;exact ⟨rfl,trivial,rfl⟩
 | @cons o rest st e es st' hd h hr ih =>
  intro i hi;have h0:ops[i]?=some o:=by have:=hi 0 (by simp);simpa using this
  obtain ⟨h3,h1,h2⟩:=ih (i+1) (fun j hj=>by have:=hi (j+1) (by simp;omega);rw [show i+1+j=i+(j+1) by omega,this];simp);have e1:((qm7 st.env.get ((ops[i]?).bind (·.dst)) e.v,upd st.sig e.u):(Nat→AV)×(Nat→AO))=((⟨qel st.env o.dst e.v,qrx st.heap e.u⟩:St).env.get,(⟨qel st.env o.dst e.v,qrx st.heap e.u⟩:St).sig):=by
   rw [h0];simp only [v40,ql4,St.sig,qqr]
  refine ⟨by simp [h3],⟨⟨o,h0,hd,?_⟩,?_⟩,?_⟩
  ·rw [qvt,qon];exact h
  ·rw [e1];exact h1
  ·simp only [apD,if_true];rw [e1];exact h2
theorem q1t {P:Program} {ops:Array Oper} {Q:Exit→Act→World→Prop} (hsl:qh2 ops=true) {n:Nat} (hlast:∀j,n≤j→j < ops.size→∀i,i < j→Reach ops j i) :
  ∀(k m fuel:Nat) (listed:Array Bool) (a:Act) (w:World),n≤m→m+k=ops.size→listed.size=ops.size→(∀j,j < m→listed.getD j false=true)→(∀j,m≤j→j < ops.size→listed.getD j false=false)→k≤fuel →
   wpOps P ops Q (v6l m k) a w→wpAny P .any ops Q fuel listed a w:=by
 intro k
 induction k with
 | zero =>
  intro m fuel listed a w hnm hm hsz hall hno hk hq;have hr:Region.ready .any ops listed=[]:=by
   cases hrd:Region.ready .any ops listed with
   | nil=>rfl
   | cons i _ =>
    exfalso;have hi:i∈Region.ready .any ops listed:=by rw [hrd];exact v6f
    obtain ⟨h0,o,ho,_⟩:=mem_ready.1 hi;have hlt:=(v2b.1 ho).1;have:=hall i (by omega);rw [getD_both h0] at this;cases this
  have hq':Q .normal a w:=hq;cases fuel with
  | zero=>exact ⟨hr,hq'⟩
  | succ fuel=>exact ⟨fun _=>hq',fun i hi=>by rw [hr] at hi;cases hi⟩
 | succ k ih =>
  intro m fuel listed a w hnm hm hsz hall hno hk hq;cases fuel with
  | zero=>omega
  | succ fuel =>
  have hcl:q1n ops (fun j=>listed.getD j false):=by
   intro j hj p hp;have hjm:j < m:=by
    by_cases hjm:j < m
    ·exact hjm
    ·have hjs:j < ops.size:=by
      by_cases hjs:j < ops.size
      ·exact hjs
      ·have:listed.getD j false=false:=by simp [show ¬j < listed.size by omega]
       simp only [this] at hj;cases hj
     have:=hno j (by omega) hjs;simp only [this] at hj;cases hj
   by_cases hp':p < m
   ·exact hall p hp'
   ·exfalso;obtain ⟨oj,hoj⟩:∃oj,ops[j]?=some oj:=⟨ops[j]'(by omega),by simp [show j < ops.size by omega]⟩;have:=qjv hsl (by omega:j < ops.size) p hp;omega
  refine ⟨fun hr=>?_,fun i hi=>?_⟩
  ·exfalso;have:m∈Region.ready .any ops listed:=by
    refine mem_ready.2 ⟨getD_in (by omega) (hno m (v4o _) (by omega)),ops[m]'(by omega),by simp [show m < ops.size by omega],fun e he hb=>?_⟩;have hp:e.on∈qd5 ops m:=by
     unfold qd5;simp only [show m < ops.size by omega,getElem?_pos];exact v6h.2 ⟨e,v6g.2 ⟨by simpa using he,hb⟩,rfl⟩
    exact hall _ (qjv hsl (by omega) _ hp)
   rw [hr] at this;cases this
  ·obtain ⟨h0,o,ho,hpre⟩:=mem_ready.1 hi;have hlt:=(v2b.1 ho).1;have him:i=m:=by
    rcases v6r i m with h | h | h
    ·have:=hall i h;rw [getD_both h0] at this;cases this
    ·exact h
    ·exfalso;have hpre':∀m∈qd5 ops i,listed.getD m false=true:=by
      intro m hm;unfold qd5 at hm;rw [ho] at hm;obtain ⟨e,he,rfl⟩:=v6h.1 hm;obtain ⟨he1,he2⟩:=v6g.1 he;exact hpre e (by simpa using he1) he2
     have:=(hlast i (by omega) hlt m h).ready (D:=fun j=>listed.getD j false) hcl hpre';simp only [hno m (v4o _) (by omega)] at this;cases this
   subst him;rw [List.range'_succ,wpOps_cons] at hq;refine wpOp_mono (fun a' w' hq'=>ih (i+1) fuel _ a' w' (by omega) (by omega) (by simp [hsz]) (fun j hj=>?_) (fun j hj hjs=>?_) (by omega) hq') hq
   ·by_cases hji:i=j
    ·subst hji;simp [hsz,hlt]
    ·rw [getD_set_ne false hji];exact hall j (by omega)
   ·rw [getD_set_ne false (by omega)];exact hno j (by omega) hjs
theorem vd0 {C:Cx} {ops:Array Oper} {es:List Evt} {s0:(Nat→AV)×(Nat→AO)} {Q:Exit→Act→World→Prop} {n:Nat} (hn:n < ops.size) (hlen:es.length=n) (hch:q1s C ops es 0 s0) (hsl:qh2 ops=true) (hev:qvv ops es=true)
  (hlast:∀j,n≤j→j < ops.size→∀i,i < j→Reach ops j i) (hQ:∀a w inj,SRf C (apD ops es 0 (fun _=>true) s0).1 (apD ops es 0 (fun _=>true) s0).2 inj a w→wpOps C.P ops Q (v6l n (ops.size - n)) a w) :
  ∀(fuel:Nat) (listed:Array Bool) (a:Act) (w:World) (inj:Inj),listed.size=ops.size→q1n ops (fun j=>listed.getD j false)→(∀j,n≤j→j < ops.size→listed.getD j false=false)→(listed.toList.filter (! ·)).length≤fuel →
   SRf C (apD ops es 0 (fun j=>listed.getD j false) s0).1 (apD ops es 0 (fun j=>listed.getD j false) s0).2 inj a w→wpAny C.P .any ops Q fuel listed a w:=by
 have some_ready:∀(listed:Array Bool),listed.size=ops.size→listed.getD n false=false→Region.ready .any ops listed≠[]:=by
  intro listed hsz hnl hr;have all:∀j,j < ops.size→listed.getD j false=true:=by
   intro j
   induction j using v6t with
   | _ j ih =>
    intro hj;by_cases hl:listed.getD j false=true
    ·exact hl
    ·have:j∈Region.ready .any ops listed:=by
      refine mem_ready.2 ⟨getD_in (by omega) (by simpa using hl),ops[j],by simp [hj],fun e he hb=>?_⟩;have hp:e.on∈qd5 ops j:=by
       unfold qd5;simp only [hj,getElem?_pos];exact v6h.2 ⟨e,v6g.2 ⟨by simpa using he,hb⟩,rfl⟩
      have hlt:=qjv hsl hj _ hp;exact ih _ hlt (by omega)
     rw [hr] at this;cases this
  have:=all n hn;rw [hnl] at this;cases this
 have count:∀(k:Nat) (l:List Bool) (m:Nat),m+k=l.length→(∀j,m≤j→j < l.length→l[j]?=some false)→k≤(l.filter (! ·)).length:=by
  intro k l m hm h;have h1:(l.drop m).length=k:=by rw [v3m];omega
  have h2:((l.drop m).filter (! ·))=l.drop m:=by
   rw [List.filter_eq_self];intro b hb;obtain ⟨j,hj,rfl⟩:=List.mem_iff_getElem.1 hb;have:=h (m+j) (by omega) (by rw [v3m] at hj;omega);rw [List.getElem_drop];obtain ⟨_,h3⟩:=v3f.1 this;rw [h3];rfl
  have h3:((l.drop m).filter (! ·)).length≤(l.filter (! ·)).length:=by
   conv=>rhs;rw [←v6o m l,List.filter_append,v3l]
   omega
  rw [h2,h1] at h3;exact h3
 intro fuel
 induction fuel with
 | zero =>
  intro listed a w inj hsz hcl hnl hf hs;exfalso;have hlt:n < listed.size:=by omega
  have hm:listed[n]'hlt∈listed.toList:=by simp
  have h0':listed[n]'hlt=false:=by simpa [hlt] using hnl n (v4o _) hn
  have:listed[n]'hlt∈listed.toList.filter (! ·):=v6g.2 ⟨hm,by rw [h0'];rfl⟩;have:0 < (listed.toList.filter (! ·)).length:=v52 this;omega
 | succ fuel ih =>
  intro listed a w inj hsz hcl hnl hf hs;by_cases hfull:∀j,j < n→listed.getD j false=true
  ·rw [qs2 ops es 0 _ (fun _=>true) s0 fun j _ h2=>hfull j (by omega)] at hs;refine q1t hsl hlast (ops.size - n) n _ listed a w (v4o _) (by omega) hsz hfull hnl ?_ (hQ a w inj hs);refine v4q (count _ listed.toList n (by simp;omega) (fun j h1 h2=>?_)) hf;have:=hnl j h1 (by simp at h2;omega);have h3:j < listed.size:=by simpa using h2
   rw [v2e];simpa [h3] using this
  refine ⟨fun hr=>absurd hr (some_ready listed hsz (hnl n (v4o _) hn)),fun i hi=>?_⟩;obtain ⟨h0,o,ho,hpre⟩:=mem_ready.1 hi;have hlt:=(v2b.1 ho).1;have hltn:i < n:=by
   by_cases hltn:i < n
   ·exact hltn
   ·exfalso;apply hfull;intro j hj;have hpre':∀m∈qd5 ops i,listed.getD m false=true:=by
     intro m hm;unfold qd5 at hm;rw [ho] at hm;obtain ⟨e,he,rfl⟩:=v6h.1 hm;obtain ⟨he1,he2⟩:=v6g.1 he;exact hpre e (by simpa using he1) he2
    exact (hlast i (by omega) hlt j (by omega)).ready (D:=fun j=>listed.getD j false) hcl hpre'
  have h0f:listed.getD i false=false:=getD_both h0;have hpre':∀m∈qd5 ops i,listed.getD m false=true:=by
   intro m hm;unfold qd5 at hm;rw [ho] at hm;obtain ⟨e,he,rfl⟩:=v6h.1 hm;obtain ⟨he1,he2⟩:=v6g.1 he;exact hpre e (by simpa using he1) he2
  obtain ⟨e,he⟩:∃e,es[i]?=some e:=⟨es[i]'(by omega),v3d (by omega)⟩;obtain ⟨o',ho',hst⟩:=hch.at i e (v6w _) (by simpa using he);have:o'=o:=v6z (ho'.symm.trans ho);subst this
  -- which are listed,compared with the text's order
  have cmpSlot:∀t∈o'.looksAt ops,(apD ops es 0 (fun j=>listed.getD j false) s0).1 t=(apD ops es 0 (fun m=>decide (m < i)) s0).1 t:=by
   intro t ht;refine q27 ops t es 0 _ _ s0 s0 rfl fun j _ hj hd=>?_
   obtain ⟨oj,hoj⟩:∃oj,ops[j]?=some oj:=⟨ops[j]'(by omega),by simp [show j < ops.size by omega]⟩;rw [hoj] at hd;simp only [v40] at hd;rcases v6r j i with hji | hji | hji
   ·simp only [hji,decide_true];rcases qfu hsl hji hoj ho with hr | hr
    ·exact hr.ready (D:=fun j=>listed.getD j false) hcl hpre'
    ·exact absurd ht ((Oper.apart_spec hr).1 t hd)
   ·subst hji;simpa using h0f
   ·have:decide (j < i)=false:=by simp;omega
    rw [this];rcases qfu hsl hji ho hoj with hr | hr
    ·by_cases hl:listed.getD j false=true
     ·have:=hr.closed (D:=fun j=>listed.getD j false) hcl hl;simp only [h0f] at this;cases this
     ·simpa using hl
    ·exact absurd ht ((Oper.apart_spec hr).2.2 t hd)
  have cmpLoc:∀l∈e.reads,(apD ops es 0 (fun j=>listed.getD j false) s0).2 l=(apD ops es 0 (fun m=>decide (m < i)) s0).2 l:=by
   intro l hl;refine q8q ops l es 0 _ _ s0 s0 rfl fun j ej _ hej hw=>?_
   simp only [v4y] at hej;have hjn:j < ops.size:=by have:=(v3f.1 hej).1;omega
   rcases v6r j i with hji | hji | hji
   ·simp only [hji,decide_true];rcases qme hev hji hlt hej he with hr | hr
    ·exact hr.ready (D:=fun j=>listed.getD j false) hcl hpre'
    ·exact absurd hl (hr.1 l hw).1
   ·subst hji;simpa using h0f
   ·have:decide (j < i)=false:=by simp;omega
    rw [this];rcases qme hev hji hjn he hej with hr | hr
    ·by_cases hl':listed.getD j false=true
     ·have:=hr.closed (D:=fun j=>listed.getD j false) hcl hl';simp only [h0f] at this;cases this
     ·simpa using hl'
    ·exact absurd hl (hr.2 l hw)
  have hst':=hst.frame cmpSlot cmpLoc;obtain ⟨hdst,hst'⟩:=hst';have hjoin:=q28 ops i e es 0 (fun j=>listed.getD j false) s0 (v6w _) (by simpa using he) h0f (by
   intro j ej hij hej hD;simp only [v4y] at hej;have hjn:j < ops.size:=by have:=(v3f.1 hej).1;omega
   obtain ⟨oj,hoj⟩:∃oj,ops[j]?=some oj:=⟨ops[j]'(by omega),by simp [show j < ops.size by omega]⟩;have nr:¬Reach ops j i:=fun hr=>by
    have:=hr.closed (D:=fun j=>listed.getD j false) hcl hD;simp only [h0f] at this;cases this
   constructor
   ·rcases qfu hsl hij ho hoj with hr | hr
    ·exact (nr hr).elim
    ·rw [hoj,ho];simp only [v40];cases hd:oj.dst with
     | none=>exact .inl rfl
     | some d =>
      refine .inr fun hh=>?_
      exact (Oper.apart_spec hr).2.1 d hh.symm hd
   ·rcases qme hev hij hjn he hej with hr | hr
    ·exact (nr hr).elim
    ·cases hw:ej.wr with
     | none=>exact .inl rfl
     | some l =>
      refine .inr fun hh=>?_
      exact (hr.1 l hh.symm).2 hw)
  have hD':apD ops es 0 (fun j=>(listed.setIfInBounds i true).getD j false) s0=apD ops es 0 (fun j=>j == i || listed.getD j false) s0:=by
   refine qs2 ops es 0 _ _ s0 fun j _ hj=>?_
   by_cases hji:i=j
   ·subst hji;simp [hsz,hlt]
   ·rw [getD_set_ne false hji];have:(j == i)=false:=by simp;omega
    simp [this]
  have next:∀a' w' inj',SRf C (qm7 (apD ops es 0 (fun j=>listed.getD j false) s0).1 o'.dst e.v) (upd (apD ops es 0 (fun j=>listed.getD j false) s0).2 e.u) inj' a' w' →
    wpAny C.P .any ops Q fuel (listed.setIfInBounds i true) a' w':=by
   intro a' w' inj' hs';refine ih (listed.setIfInBounds i true) a' w' inj' (by simp [hsz]) ?_ (fun j hj hjs=>by rw [getD_set_ne false (by omega)];exact hnl j hj hjs) ?_ ?_
   ·intro j hj m hm;by_cases hji:i=j
    ·subst hji;exact getD_set_true (hpre' m hm)
    ·have hj':(listed.setIfInBounds i true).getD j false=true:=hj;rw [getD_set_ne false hji] at hj';exact getD_set_true (hcl j hj' m hm)
   ·have hli:listed[i]?=some false:=by
     have:i < listed.size:=by omega
     simp [this] at h0f ⊢;exact h0f
    have key:∀(l:List Bool) (i:Nat),l[i]?=some false→((l.set i true).filter (! ·)).length+1=(l.filter (! ·)).length:=by
     intro l
     induction l with
     | nil=>intro i h;simp at h
     | cons b l ihl =>
      intro i h;cases i with
      | zero=>simp at h;subst h;simp
      | succ i =>
       simp only [v5t] at h;have:=ihl i h;cases b <;> simp [this] <;> omega
    have:=key listed.toList i (by simpa using hli);rw [v5j];omega
   ·rw [hD',hjoin,ho];exact hs'
  unfold wpOp;rw [ho];simp only;rcases hst' with ⟨hg,hdo⟩ | ⟨hg,rfl⟩
  ·rw [qjo hs hg];simp only [if_true];exact .inl (hdo.sound hs hdst next)
  ·rw [qjo hs hg];simp only [v2o,if_false];exact next _ _ inj (hs.put (u:=none) hdst hs.hr (Ev.refl _ _ _ _) ⟨[],rfl,rfl⟩)
def va2 (ops:Array Oper) (n:Nat):Bool:=decide (n < ops.size) && (v6l n (ops.size - n)).all fun j=>(v34 j).all fun i=>q0n (vat ops ops.size) j i
theorem q8v {ops:Array Oper} {n:Nat} (h:va2 ops n=true):n < ops.size∧∀j,n≤j→j < ops.size→∀i,i < j→Reach ops j i:=by
 simp only [va2,v2m,decide_eq_true_eq,v5m,v6j,List.mem_range'_1] at h;exact ⟨h.1,fun j h1 h2 i hi=>qmp (h.2 j ⟨h1,by omega⟩ i hi)⟩
variable {C:Cx} {Q:Exit→St→Prop} {st:St}
def DKL (C:Cx) (l:Array Oper) (r:List Oper) (Q:Exit→St→Prop):List Evt→St→Prop:=fun es st'=>qvv l es=true∧AL C l r Q st'
theorem q0r (n:Nat) {id:Nat} {l:List Oper} (hm:C.P.follows .mixedOrders=true) (hsl:qh2 l.toArray=true) (hls:va2 l.toArray n=true) (h:DGo C l.toArray (l.take n) st [] (DKL C l.toArray (l.drop n) Q)):AWp C (.region id l.toArray true) Q st:=by
 obtain ⟨es,st',h1,h2,h3⟩:=h;obtain ⟨hsize,hreach⟩:=q8v hls;have hsz:n < l.length:=by simpa using hsize
 obtain ⟨hel,hcp,hap⟩:=h1.chainP 0 (fun j hj=>by
  rw [v3r] at hj;rw [v3j,if_pos (by omega)];simp)
 have hel':es.length=n:=by rw [hel,v3r];omega
 simp only [List.reverse_nil,v33] at h2;intro inj a w hs;refine wp_region_any hm ?_;have hf:Fr C.D w { w with drawn:=w.drawn+1 }:=⟨rfl,rfl,rfl,fun _=>v4p _,v4o _,fun _ _=>rfl,fun _ _=>rfl⟩;have hE:Ev C.D C.X inj st.sig w inj st.sig { w with drawn:=w.drawn+1 }:=hf.ev;refine vd0 hsize hel' hcp hsl h2 hreach ?_ _ _ _ _ inj (by simp) ?_ ?_ ?_ ?_
 ·intro a' w' inj' hs';rw [hap] at hs';have hal:=h3 inj' a' w' ⟨hs'.env,hs'.size,hs'.defers,hs'.hr,hs'.ev⟩;have heq:=wpOps_eq_wpList (P:=C.P) (ops:=l.toArray) (Q:=vk4 C Q) (l.drop n) n (fun j=>by rw [v3c];simp);rw [v3m] at heq;rw [v4b,heq];exact hal
 ·intro j hj;simp only [getD_replicate_false] at hj;cases hj
 ·intro j _ _;exact getD_replicate_false _ _
 ·refine v4q (v51 _ _) (by simp)
 ·rw [qs2 l.toArray es 0 _ (fun _=>false) _ fun j _ _=>getD_replicate_false _ _];have hnone:∀(es:List Evt) (i:Nat) (s:(Nat→AV)×(Nat→AO)),apD l.toArray es i (fun _=>false) s=s:=by
   intro es
   induction es with
   | nil=>intro i s;rfl
   | cons e es ih=>intro i s;simp only [apD,v2o,if_false];exact ih (i+1) s
  rw [hnone];exact ⟨fun t=>AR.ev hE hs.hr.xlt _ _ (hs.env t),hs.size,hs.defers,hs.hr.fr hf,hs.ev.trans hE⟩
theorem ydl {l:Array Oper} {r:List Oper} {acc:List Evt} (h:AL C l r Q st) (hev:qvv l acc.reverse=true:=by rfl):DGo C l [] st acc (DKL C l r Q):=DGo.done ⟨hev,h⟩
@[go_sem] theorem ex_func (σ σ':Nat→AO) (f f':Fn) (cs0 cs':List AV):(∃cs,AV.func f cs0=AV.func f' cs∧qk4 σ σ' cs cs')=(f=f'∧qk4 σ σ' cs0 cs'):=by
 refine propext ⟨?_,?_⟩
 ·rintro ⟨cs,h,h2⟩;cases h;exact ⟨rfl,h2⟩
 ·rintro ⟨rfl,h⟩;exact ⟨_,rfl,h⟩
end Go.Ab
namespace Go.Ab
open Go
set_option linter.constructorNameAsVariable false
theorem q0c (a b:Nat):v6q a b=decide (a=b):=by
 by_cases h:a=b
 ·subst h;simp [Nat.beq_eq]
 ·simp only [h,decide_false];exact v5k.2 fun e=>h (Nat.eq_of_beq_eq_true e)
theorem nmod (a b:Nat):Nat.mod a b=a % b:=rfl
theorem ndiv (a b:Nat):Nat.div a b=a / b:=rfl
inductive Ps where
 | z | o (p:Ps) | i (p:Ps)
 deriving DecidableEq
def Ps.of:Nat→Nat→Ps
 | 0,_=>.z
 | f+1,k=>bif v6q k 0 then .z else bif v6q (Nat.mod k 2) 1 then .o (Ps.of f (Nat.div k 2)) else .i (Ps.of f (Nat.pred (Nat.div k 2)))
abbrev pth (k:Nat):Ps:=Ps.of (Nat.succ k) k
def Ps.num:Ps→Nat
 | .z=>0
 | .o p=>2 * p.num+1
 | .i p=>2 * p.num+2
theorem Ps.num_of:∀(f k:Nat),k < f→(Ps.of f k).num=k
 | 0,k,h=>by omega
 | f+1,k,h=>by
  simp only [Ps.of,q0c,nmod,ndiv,Nat.pred_eq_sub_one,cond_eq_ite,decide_eq_true_eq];by_cases hk:k=0
  ·subst hk;rfl
  ·simp only [hk,if_false];by_cases hm:k % 2=1
   ·simp only [hm,if_true,Ps.num];rw [Ps.num_of f (k / 2) (by omega)];omega
   ·simp only [hm,if_false,Ps.num];rw [Ps.num_of f (k / 2 - 1) (by omega)];omega
theorem vg6 {j k:Nat} (h:pth j=pth k):j=k:=by
 have h1:=Ps.num_of (j+1) j (by omega);have h2:=Ps.num_of (k+1) k (by omega);unfold pth at h;rw [←h1,←h2];exact congrArg Ps.num h
inductive Ty (α:Type) where
 | e
 | n (v:α) (l r:Ty α)
def Ty.get {α:Type} (d:α) (t:Ty α) (p:Ps):α :=
 @Ps.rec (fun _=>Ty α→α) (fun t=>@Ty.rec α (fun _=>α) d (fun v _ _ _ _=>v) t) (fun _ ih t=>@Ty.rec α (fun _=>α) d (fun _ l _ _ _=>ih l) t) (fun _ ih t=>@Ty.rec α (fun _=>α) d (fun _ _ r _ _=>ih r) t) p t
def Ty.set {α:Type} (d:α) (v:α) (t:Ty α) (p:Ps):Ty α :=
 @Ps.rec (fun _=>Ty α→Ty α) (fun t=>@Ty.rec α (fun _=>Ty α) (.n v .e .e) (fun _ l r _ _=>.n v l r) t) (fun _ ih t=>@Ty.rec α (fun _=>Ty α) (.n d (ih .e) .e) (fun w l r _ _=>.n w (ih l) r) t)
  (fun _ ih t=>@Ty.rec α (fun _=>Ty α) (.n d .e (ih .e)) (fun w l r _ _=>.n w l (ih r)) t) p t
theorem Ty.get_e {α:Type} (d:α) (p:Ps):Ty.get d .e p=d:=by cases p <;> rfl
theorem Ty.get_set {α:Type} (d v:α):∀(p:Ps) (t:Ty α) (q:Ps),Ty.get d (Ty.set d v t p) q=if p=q then v else Ty.get d t q
 | .z,t,q=>by
  cases t <;> cases q <;> simp <;> first | rfl | (rw [Ty.get_e];exact Ty.get_e d _)
 | .o p,t,q=>by
  have ih:=Ty.get_set d v p;cases t with
  | e=>cases q with
   | o q=>simp only [Ps.o.injEq,Ty.get_e];have:=ih .e q;rw [Ty.get_e] at this;exact this
   | z=>simp;rfl
   | i q=>simp only [reduceCtorEq,if_false,Ty.get_e];exact Ty.get_e d q
  | n w l r=>cases q with
   | o q=>simp only [Ps.o.injEq];exact ih l q
   | z=>simp;rfl
   | i q=>simp;rfl
 | .i p,t,q=>by
  have ih:=Ty.get_set d v p;cases t with
  | e=>cases q with
   | i q=>simp only [Ps.i.injEq,Ty.get_e];have:=ih .e q;rw [Ty.get_e] at this;exact this
   | z=>simp;rfl
   | o q=>simp only [reduceCtorEq,if_false,Ty.get_e];exact Ty.get_e d q
  | n w l r=>cases q with
   | i q=>simp only [Ps.i.injEq];exact ih r q
   | z=>simp;rfl
   | o q=>simp;rfl
def ho (h:Ty AO) (l:Nat):AO:=Ty.get (.dead 0) h (pth l)
def q3h (h:Ty AO) (l:Nat) (o:AO):Ty AO:=Ty.set (.dead 0) o h (pth l)
theorem qqy (h:Ty AO) (l:Nat) (o:AO):ho (q3h h l o)=qhz (ho h) l o:=by
 funext k;unfold ho q3h qhz;rw [Ty.get_set];by_cases hk:l=k
 ·subst hk;simp
 ·rw [if_neg (fun h=>hk (vg6 h)),if_neg (Ne.symm hk)]
theorem vvc:ho .e=qar []:=by funext l;exact Ty.get_e _ _
def eo (e:Ty AV) (t:Nat):AV:=Ty.get .any e (pth t)
theorem vo7 (e:Ty AV) (t:Nat) (v:AV):eo (Ty.set .any v e (pth t))=qm7 (eo e) (some t) v:=by
 funext k;unfold eo qm7;rw [Ty.get_set];by_cases hk:t=k
 ·subst hk;simp
 ·rw [if_neg (fun h=>hk (vg6 h)),if_neg (fun h=>hk (v6z h))]
mutual
def qqd:AV→List Nat
 | .own l _ _ _=>[l]
 | .loc l _ _ _=>[l]
 | .mapo l _=>[l]
 | .func _ cs=>qh3 cs
 | .agg cs=>qh3 cs
 | .tup cs=>qh3 cs
 | _=>[]
def qh3:List AV→List Nat
 | []=>[]
 | v :: r=>qqd v++qh3 r
end
def qs4:AO→List Nat
 | .arr _ _ _ es=>qh3 es
 | .map _ ks vs=>qh3 ks++qh3 vs
 | .dead _=>[]
def qyr (l:Nat):List Nat→Bool
 | []=>false
 | k :: r=>bif v6q k l then true else qyr l r
theorem qmq {l:Nat}:∀{s:List Nat},qyr l s=decide (l∈s)
 | []=>by simp [qyr]
 | k :: r=>by
  simp only [qyr,q0c,qmq (s:=r),v6d];by_cases h:k=l
  ·subst h;simp
  ·simp [h,Ne.symm h]
def qna (σ:Nat→AO):Nat→List Nat→List Nat→Option (List Nat)
 | _,[],seen=>some seen
 | 0,_,_=>none
 | n+1,l :: todo,seen=>bif qyr l seen then qna σ n todo seen else qna σ n (qs4 (σ l)++todo) (l :: seen)
theorem qr0 {σ:Nat→AO}:∀{n:Nat} {todo seen S:List Nat},qna σ n todo seen=some S→(∀l∈seen,∀k∈qs4 (σ l),k∈seen∨k∈todo) →
  (∀l∈seen,l∈S)∧(∀l∈todo,l∈S)∧∀l∈S,∀k∈qs4 (σ l),k∈S
 | n,[],seen,S,h,hi=>by
  have:seen=S:=by cases n <;> simpa [qna] using h
  subst this;exact ⟨fun _ h=>h,by simp,fun l hl k hk=>(hi l hl k hk).elim id (by simp)⟩
 | 0,_ :: _,_,_,h,_=>by cases h
 | n+1,l :: todo,seen,S,h,hi=>by
  simp only [qna,qmq] at h;by_cases hl:l∈seen
  ·simp only [hl,decide_true,cond_true] at h;obtain ⟨h1,h2,h3⟩:=qr0 h fun j hj k hk=>(hi j hj k hk).elim .inl fun h=>by
    rcases v6d.1 h with rfl | h
    ·exact .inl hl
    ·exact .inr h
   exact ⟨h1,fun j hj=>by
    rcases v6d.1 hj with rfl | hj
    ·exact h1 _ hl
    ·exact h2 _ hj,h3⟩
  ·simp only [hl,decide_false,cond_false] at h;obtain ⟨h1,h2,h3⟩:=qr0 h fun j hj k hk=>by
    rcases v6d.1 hj with rfl | hj
    ·exact .inr (v6b _ hk)
    ·rcases hi j hj k hk with h | h
     ·exact .inl (v6e _ h)
     ·rcases v6d.1 h with rfl | h
      ·exact .inl v6f
      ·exact .inr (v6c _ h)
   exact ⟨fun j hj=>h1 j (v6e _ hj),fun j hj=>by
    rcases v6d.1 hj with rfl | hj
    ·exact h1 _ v6f
    ·exact h2 _ (v6c _ hj),h3⟩
def va3:Fn→Fn→Bool
 | .func f,.func f'=>v6q f f'
 | _,_=>false
theorem q5s {f f':Fn} (h:va3 f f'=true):f=f':=by
 cases f <;> cases f' <;> simp only [va3,q0c,decide_eq_true_eq] at h <;> first | (rw [h];done) | cases h
mutual
def PV.same:PV→PV→Bool
 | .int k n,.int k' n'=>decide (k=k') && decide (n=n')
 | .bool a,.bool b=>a == b
 | .str s,.str s'=>decide (s=s')
 | .nilp,.nilp=>true
 | .nilf,.nilf=>true
 | .nili,.nili=>true
 | .nilm,.nilm=>true
 | .slc es,.slc es'=>PV.sames es es'
 | .nnil es,.nnil es'=>PV.sames es es'
 | .clip es,.clip es'=>PV.sames es es'
 | .imm es,.imm es'=>PV.sames es es'
 | .func f es,.func f' es'=>va3 f f' && PV.sames es es'
 | .agg es,.agg es'=>PV.sames es es'
 | .tup es,.tup es'=>PV.sames es es'
 | _,_=>false
def PV.sames:List PV→List PV→Bool
 | [],[]=>true
 | x :: xs,y :: ys=>PV.same x y && PV.sames xs ys
 | _,_=>false
end
mutual
theorem PV.same_eq:∀(x y:PV),PV.same x y=true→x=y
 | .int k n,y,h=>by cases y <;> simp_all [PV.same]
 | .bool a,y,h=>by cases y <;> simp_all [PV.same]
 | .str s,y,h=>by cases y <;> simp_all [PV.same]
 | .nilp,y,h=>by cases y <;> simp_all [PV.same]
 | .nilf,y,h=>by cases y <;> simp_all [PV.same]
 | .nili,y,h=>by cases y <;> simp_all [PV.same]
 | .nilm,y,h=>by cases y <;> simp_all [PV.same]
 | .slc es,y,h=>by cases y <;> simp only [PV.same] at h <;> first | (rw [PV.sames_eq _ _ h]) | cases h
 | .nnil es,y,h=>by cases y <;> simp only [PV.same] at h <;> first | (rw [PV.sames_eq _ _ h]) | cases h
 | .clip es,y,h=>by cases y <;> simp only [PV.same] at h <;> first | (rw [PV.sames_eq _ _ h]) | cases h
 | .imm es,y,h=>by cases y <;> simp only [PV.same] at h <;> first | (rw [PV.sames_eq _ _ h]) | cases h
 | .mapv ks vs,y,h=>by cases y <;> simp [PV.same] at h
 | .func f es,y,h=>by
  cases y <;> simp only [PV.same,v2m] at h <;> first | (rw [q5s h.1,PV.sames_eq _ _ h.2]) | cases h
 | .agg es,y,h=>by cases y <;> simp only [PV.same] at h <;> first | (rw [PV.sames_eq _ _ h]) | cases h
 | .tup es,y,h=>by cases y <;> simp only [PV.same] at h <;> first | (rw [PV.sames_eq _ _ h]) | cases h
theorem PV.sames_eq:∀(x y:List PV),PV.sames x y=true→x=y
 | [],[],_=>rfl
 | [],_ :: _,h=>by simp [PV.sames] at h
 | _ :: _,[],h=>by simp [PV.sames] at h
 | x :: xs,y :: ys,h=>by
  simp only [PV.sames,v2m] at h
  rw [PV.same_eq x y h.1,PV.sames_eq xs ys h.2]
end
mutual
def AV.same:AV→AV→Bool
 | .any,.any=>true
 | .p x,.p y=>PV.same x y
 | .nils,.nils=>true
 | .loc l g i o,.loc l' g' i' o'=>v6q l l' && (v6q g g' && (v6q i i' && v6q o o'))
 | .own l g i o,.own l' g' i' o'=>v6q l l' && (v6q g g' && (v6q i i' && v6q o o'))
 | .mapo l g,.mapo l' g'=>v6q l l' && v6q g g'
 | .func f es,.func f' es'=>va3 f f' && AV.sames es es'
 | .agg es,.agg es'=>AV.sames es es'
 | .tup es,.tup es'=>AV.sames es es'
 | _,_=>false
def AV.sames:List AV→List AV→Bool
 | [],[]=>true
 | x :: xs,y :: ys=>AV.same x y && AV.sames xs ys
 | _,_=>false
end
mutual
theorem AV.same_eq:∀(x y:AV),AV.same x y=true→x=y
 | .any,y,h=>by cases y <;> simp_all [AV.same]
 | .p x,y,h=>by cases y <;> simp only [AV.same] at h <;> first | (rw [PV.same_eq _ _ h]) | cases h
 | .nils,y,h=>by cases y <;> simp_all [AV.same]
 | .loc ..,y,h=>by cases y <;> simp_all [AV.same,q0c]
 | .own ..,y,h=>by cases y <;> simp_all [AV.same,q0c]
 | .mapo ..,y,h=>by cases y <;> simp_all [AV.same,q0c]
 | .func f es,y,h=>by
  cases y <;> simp only [AV.same,v2m] at h <;> first | (rw [q5s h.1,AV.sames_eq _ _ h.2]) | cases h
 | .agg es,y,h=>by cases y <;> simp only [AV.same] at h <;> first | (rw [AV.sames_eq _ _ h]) | cases h
 | .tup es,y,h=>by cases y <;> simp only [AV.same] at h <;> first | (rw [AV.sames_eq _ _ h]) | cases h
theorem AV.sames_eq:∀(x y:List AV),AV.sames x y=true→x=y
 | [],[],_=>rfl
 | [],_ :: _,h=>by simp [AV.sames] at h
 | _ :: _,[],h=>by simp [AV.sames] at h
 | x :: xs,y :: ys,h=>by
  simp only [AV.sames,v2m] at h
  rw [AV.same_eq x y h.1,AV.sames_eq xs ys h.2]
end
def AO.same:AO→AO→Bool
 | .dead g,.dead g'=>v6q g g'
 | .arr e sz g es,.arr e' sz' g' es'=>(v6q e e' && v6q sz sz') && (v6q g g' && AV.sames es es')
 | .map g ks vs,.map g' ks' vs'=>v6q g g' && (AV.sames ks ks' && AV.sames vs vs')
 | _,_=>false
theorem AO.same_eq {x y:AO} (h:AO.same x y=true):x=y:=by
 cases x <;> cases y <;> simp only [AO.same,v2m,q0c,decide_eq_true_eq] at h <;> first | (cases h;done) | skip
 ·rw [h]
 ·rw [h.1.1,h.1.2,h.2.1,AV.sames_eq _ _ h.2.2]
 ·rw [h.1,AV.sames_eq _ _ h.2.1,AV.sames_eq _ _ h.2.2]
end Go.Ab
namespace Go.Ab
open Go
def ovr:List (Nat×AO)→(Nat→AO)→Nat→AO
 | [],σ,l=>σ l
 | (k,o) :: r,σ,l=>if k=l then o else ovr r σ l
def Upd.list:Upd→List (Nat×AO)
 | none=>[]
 | some p=>[p]
theorem qys (u:Upd) (σ:Nat→AO):ovr (Upd.list u) σ=upd σ u:=by
 cases u with
 | none=>rfl
 | some p =>
  funext l;simp only [Upd.list,ovr,upd,qhz];by_cases h:p.1=l
  ·rw [if_pos h,if_pos h.symm]
  ·rw [if_neg h,if_neg (Ne.symm h)]
theorem qxj (us:List (Nat×AO)) (h:List (Nat×AO)):qar (us++h)=ovr us (qar h):=by
 funext l
 induction us with
 | nil=>rfl
 | cons p r ih =>
  obtain ⟨k,o⟩:=p;simp only [v5p,qar,ovr,ih]
theorem que {us:List (Nat×AO)} {σ:Nat→AO} {l:Nat} (h:l ∉ us.map (·.1)):ovr us σ l=σ l:=by
 induction us with
 | nil=>rfl
 | cons p r ih =>
  obtain ⟨k,o⟩:=p;simp only [v3t,v6d,not_or] at h;simp only [ovr];rw [if_neg (Ne.symm h.1),ih h.2]
theorem vg7 {us:List (Nat×AO)} {σ τ:Nat→AO} {l:Nat} (h:l∈us.map (·.1)):ovr us σ l=ovr us τ l:=by
 induction us with
 | nil=>cases h
 | cons p r ih =>
  obtain ⟨k,o⟩:=p;simp only [ovr];by_cases hk:k=l
  ·rw [if_pos hk,if_pos hk]
  ·rw [if_neg hk,if_neg hk];rcases v6d.1 h with h | h
   ·exact absurd h.symm hk
   ·exact ih h
def OpM (P:Program) (o:Oper) (ρ:Operand→AV) (σ:Nat→AO) (v:AV) (us:List (Nat×AO)) (rs:List Nat):Prop :=
 ∀(D:Prop) (X:Nat→Prop) (ρ':Operand→AV) (σ':Nat→AO),(∀x∈o.op.operands,ρ' x=ρ x)→(∀l∈rs,σ' l=σ l) →
  ∀{inj:Inj} {w:World} {a:Act} {next:Act→World→Prop} {Q:Exit→Act→World→Prop},HR X inj σ' w→TabOk P (fun b=>X b∨F inj σ' b) w→(∀x,AR X inj σ' w (ρ' x) (a.eval x)) →
   (∀val w' inj',HR X inj' (ovr us σ') w'→Ev D X inj σ' w inj' (ovr us σ') w'→AR X inj' (ovr us σ') w' v val→next (a.put o.dst val) w')→o.wp P a w next Q
def vvd (D:Prop) (P:Program) (o:Oper) (ρ:Operand→AV) (σ:Nat→AO) (v:AV) (us:List (Nat×AO)) (rs:List Nat):Prop :=
 ∀(X:Nat→Prop) (ρ':Operand→AV) (σ':Nat→AO),(∀x∈o.op.operands,ρ' x=ρ x)→(∀l∈rs,σ' l=σ l) →
  ∀{inj:Inj} {w:World} {a:Act} {next:Act→World→Prop} {Q:Exit→Act→World→Prop},HR X inj σ' w→TabOk P (fun b=>X b∨F inj σ' b) w→(∀x,AR X inj σ' w (ρ' x) (a.eval x)) →
   (∀val w' inj',HR X inj' (ovr us σ') w'→Ev D X inj σ' w inj' (ovr us σ') w'→AR X inj' (ovr us σ') w' v val→next (a.put o.dst val) w')→o.wp P a w next Q
theorem OpM.md {D:Prop} {P:Program} {o:Oper} {ρ:Operand→AV} {σ:Nat→AO} {v:AV} {us:List (Nat×AO)} {rs:List Nat} (h:OpM P o ρ σ v us rs):vvd D P o ρ σ v us rs:=h D
theorem qyt {P:Program} {B:Nat} {o:Oper} {ρ:Operand→AV} {σ:Nat→AO} {v:AV} {u:Upd} (h:(aop P B ρ o).run σ=some (v,u)):OpM P o ρ σ v (Upd.list u) ((aop P B ρ o).reads σ):=by
 intro D X ρ' σ' hρ hσ inj w a next Q hr hT ha hn
 have hc:aop P B ρ' o=aop P B ρ o:=qye P B o hρ;obtain ⟨h1,_⟩:=L.frame _ h hσ;rw [←hc] at h1;refine van B o ρ' hr ha h1 fun val w' inj' k1 k2 k3=>?_
 rw [qys] at hn;exact hn val w' inj' k1 k2.weak k3
theorem qyu {P:Program} {o:Oper} {ρ:Operand→AV} {σ:Nat→AO} {v:AV}
  (h:∀(X:Nat→Prop) (ρ':Operand→AV) (σ':Nat→AO) (inj:Inj) (w:World) (a:Act),(∀x∈o.op.operands,ρ' x=ρ x)→(∀x,AR X inj σ' w (ρ' x) (a.eval x))→∃val,(execOp a.eval o).run P w=.ok (.value val) w∧AR X inj σ' w v val):OpM P o ρ σ v [] []:=by
 intro D X ρ' σ' hρ _ inj w a next Q hr hT ha hn
 obtain ⟨val,h1,h2⟩:=h X ρ' σ' inj w a hρ ha;unfold Oper.wp;rw [h1];exact hn val w inj hr (Ev.refl _ _ _ _) h2
variable {C:Cx} {Q:Exit→St→Prop} {st:St}
theorem vg8 {ops:Array Oper} {o:Oper} {rest:List Oper} {v:AV} {us:List (Nat×AO)} {rs:List Nat} (hg:qax ops st.env o=some true) (hd:qbb C.N o=true)
  (hop:OpM C.P o (ev st.env) st.sig v us rs) (h:AL C ops rest Q ⟨qel st.env o.dst v,us++st.heap⟩):AL C ops (o :: rest) Q st:=by
 intro inj a w hs;simp only [wpList,qbc hs hg,if_true];refine .inl (hop C.D C.X (ev st.env) st.sig (fun _ _=>rfl) (fun _ _=>rfl) hs.hr (qol hs.ev) (fun x=>hs.eval x) fun val w' inj' h1 h2 h3=>?_);refine h inj' _ _ ?_;have hput:=hs.put (o:=o) (u:=none) hd hs.hr (Ev.refl _ _ _ _) (v:=.any) (val:=val) trivial;have hsg:(St.mk (qel st.env o.dst v) (us++st.heap)).sig=ovr us st.sig:=qxj _ _;refine ⟨fun t=>?_,hput.size,hput.defers,by rw [hsg];exact h1,by rw [hsg];exact hs.ev.trans h2⟩;rw [hsg];cases hdst:o.dst with
 | none=>simpa [qel,Act.put] using AR.ev h2 hs.hr.xlt _ _ (hs.env t)
 | some d =>
  simp only [qbb,hdst,decide_eq_true_eq] at hd;simp only [qel,Act.put,Env.get];by_cases ht:d=t
  ·subst ht;rw [if_pos rfl];have:(a.tmps.setIfInBounds d val).getD d undef=val:=by simp [hs.size,hd]
   rw [this];exact h3
  ·rw [if_neg ht];have:(a.tmps.setIfInBounds d val).getD t undef=a.tmps.getD t undef:=by simp [v2d ht]
   rw [this];exact AR.ev h2 hs.hr.xlt _ _ (hs.env t)
def vd1 (op:BinOp) (t:Bool):Option AV:=match op with
 | .eql=>some (.p (.bool t))
 | .neq=>some (.p (.bool (!t)))
 | _=>none
def vg9 (x y:AV):Option Bool:=match x,y with
 | .loc ..,.p .nilp=>some false
 | .p .nilp,.p .nilp=>some true
 | _,_=>none
def q5t (P:Program) (t:TypeId):Bool:=match P.underlying t with
 | some (.pointer _)=>true
 | _=>false
def qoq (P:Program) (t:TypeId):Bool:=match P.underlying t with
 | some (.slice _)=>true
 | _=>false
theorem qyv {P:Program} {w:World} {op:BinOp} {t:TypeId} {x y:Value} {r:Bool} {v:AV} {ox oy:Operand} (hg:∀op:BinOp,(eqGuard op t ox oy x y).run P w=.ok () w)
  (he:(binOp .eql t x y).run P w=.ok (.bool r) w) (hn:(binOp .neq t x y).run P w=.ok (.bool (!r)) w) (h:vd1 op r=some v) :
  ∃val,(do eqGuard op t ox oy x y;binOp op t x y:Sem Value).run P w=.ok val w∧∀X inj σ,AR X inj σ w v val:=by
 simp only [v5e,hg,v5c];unfold vd1 at h;split at h
 ·cases h;exact ⟨_,he,fun _ _ _=>rfl⟩
 ·cases h;exact ⟨_,hn,fun _ _ _=>rfl⟩
 ·cases h
theorem vha {P:Program} {t e:TypeId} (hu:P.underlying t=some (.pointer e)) (d:Nat) (b:Addr) (w:World):(Op.equalIn (d+1) t (.pointer (some b)) (.pointer none)).run P w=.ok false w:=by
 simp [Op.equalIn,run_underlying hu]
theorem vhb {P:Program} {t e:TypeId} (hu:P.underlying t=some (.pointer e)) (d:Nat) (w:World):(Op.equalIn (d+1) t (.pointer none) (.pointer none)).run P w=.ok true w:=by
 simp [Op.equalIn,run_underlying hu]
theorem vrt {P:Program} {dst:Option Tmp} {op:BinOp} {t yt ty:TypeId} {x y:Operand} {pos:String} {af:Array Edge} {gd:Option (Nat×Bool)} {ρ:Operand→AV} {σ:Nat→AO} {v:AV} {r:Bool}
  (ht:q5t P t=true) (hr:vg9 (ρ x) (ρ y)=some r) (hv:vd1 op r=some v):OpM P ⟨dst,.binOp op t x y yt,ty,pos,af,gd⟩ ρ σ v [] []:=by
 refine qyu fun X ρ' σ' inj w a hρ ha=>?_
 have hx:=ha x;have hy:=ha y;rw [hρ x (by simp [Op.operands])] at hx;rw [hρ y (by simp [Op.operands])] at hy;unfold q5t at ht;split at ht
 case h_2=>cases ht
 rename_i e hu;have key:∃val,(do eqGuard op t x y (a.eval x) (a.eval y);binOp op t (a.eval x) (a.eval y):Sem Value).run P w=.ok val w∧∀X inj σ,AR X inj σ w v val:=by
  unfold vg9 at hr;split at hr
  ·rename_i l g i off h1 h2;rw [h1] at hx;rw [h2] at hy;obtain ⟨⟨b,hb⟩,_⟩:=hx;simp only [AR,PR] at hy;rw [hb,hy];cases hr;have hk:(Op.equal t (.pointer (some b)) (.pointer none)).run P w=.ok false w:=vha hu 9999 b w;refine qyv (fun op=>by cases op <;> simp [eqGuard]) ?_ ?_ hv
   ·simp [binOp,hk]
   ·simp [binOp,hk]
  ·rename_i h1 h2;rw [h1] at hx;rw [h2] at hy;simp only [AR,PR] at hx hy;rw [hx,hy];cases hr;have hk:(Op.equal t (.pointer none) (.pointer none)).run P w=.ok true w:=vhb hu 9999 w;refine qyv (fun op=>by cases op <;> simp [eqGuard]) ?_ ?_ hv
   ·simp [binOp,hk]
   ·simp [binOp,hk]
  ·cases hr
 obtain ⟨val,h1,h2⟩:=key;refine ⟨val,?_,h2 _ _ _⟩;simp only [execOp,v5e];simp only [v5e] at h1;rw [h1];rfl
theorem vru {P:Program} {dst:Option Tmp} {op:BinOp} {t yt ty:TypeId} {x y:Operand} {pos:String} {af:Array Edge} {gd:Option (Nat×Bool)} {ρ:Operand→AV} {σ:Nat→AO} {v:AV} {l g off len e sz:Nat} {es:List AV}
  (ht:qoq P t=true) (hx0:ρ x=.own l g off (len+1)) (hy0:ρ y=.nils) (ho:σ l=.arr e sz g es) (hv:vd1 op false=some v):OpM P ⟨dst,.binOp op t x y yt,ty,pos,af,gd⟩ ρ σ v [] [l]:=by
 intro D X ρ' σ' hρ hσ inj w a next Q hr hT ha hn
 have hx:=ha x;have hy:=ha y;rw [hρ x (by simp [Op.operands]),hx0] at hx;rw [hρ y (by simp [Op.operands]),hy0] at hy;unfold qoq at ht;split at ht
 case h_2=>cases ht
 rename_i et hu;simp only [AR] at hy;obtain ⟨_,a2⟩:=hx;obtain ⟨_,a3⟩:=a2 _ ((hσ l (by simp)).trans ho);obtain ⟨a4,a5⟩:=a3 rfl _ _ _ rfl;have hval:∃aa n c,a.eval x=.slice (some aa) n c:=by
  rcases a5 with ⟨_,_,_,h0⟩ | ⟨b,c,aa,_,h1,h2,h3⟩
  ·omega
  ·rcases h3 with ⟨_,h3⟩ | h3
   ·omega
   ·exact ⟨_,_,_,by rw [h1,h3]⟩
 obtain ⟨aa,n,c,hval⟩:=hval;have key:∃val,(do eqGuard op t x y (a.eval x) (a.eval y);binOp op t (a.eval x) (a.eval y):Sem Value).run P w=.ok val w∧∀X inj σ,AR X inj σ w v val:=by
  rw [hval,hy];exact qyv (fun op=>by cases op <;> simp [eqGuard]) (v2t w t et _ _ _ _ _ hu) (run_neq_slice_nil_any w t et _ _ _ _ _ hu) hv
 obtain ⟨val,h1,h2⟩:=key;have hrun:(execOp a.eval ⟨dst,.binOp op t x y yt,ty,pos,af,gd⟩).run P w=.ok (.value val) w:=by
  simp only [execOp,v5e];simp only [v5e] at h1;rw [h1];rfl
 unfold Oper.wp;rw [hrun];exact hn val w inj hr (Ev.refl _ _ _ _) (h2 _ _ _)
theorem vrv {P:Program} {dst:Option Tmp} {ty:TypeId} {x:Operand} {t:TypeId} {pos:String} {af:Array Edge} {gd:Option (Nat×Bool)} {ρ:Operand→AV} {σ:Nat→AO}
  (ht:qoq P t=true) (hx0:ρ x=.nils):OpM P ⟨dst,.call ⟨.builtin .cap,#[x],#[t]⟩,ty,pos,af,gd⟩ ρ σ (.p (.int .i64 0)) [] []:=by
 refine qyu fun X ρ' σ' inj w a hρ ha=>?_
 have hx:=ha x;rw [hρ x (by simp [Op.operands,Call.operands]),hx0] at hx;simp only [AR] at hx;unfold qoq at ht;split at ht
 case h_2=>cases ht
 rename_i et hu;refine ⟨.int .i64 0,?_,rfl⟩;simp [execOp,resolve,invoke,builtin,hx,Builtin.cap_,goInt,run_underlying hu]
theorem vrw {P:Program} {dst:Option Tmp} {ty s d:TypeId} {x:Operand} {pos:String} {af:Array Edge} {gd:Option (Nat×Bool)} {ρ:Operand→AV} {σ:Nat→AO} {k kk:IntKind} {n:Nat}
  (hs:P.underlying s=some (.int kk)) (hd:P.underlying d=some .string) (hx0:ρ x=.p (.int k n)) (hn:n < 128):OpM P ⟨dst,.convert s d x,ty,pos,af,gd⟩ ρ σ (.p (.str [UInt8.ofNat n])) [] []:=by
 refine qyu fun X ρ' σ' inj w a hρ ha=>?_
 have hx:=ha x;rw [hρ x (by simp [Op.operands]),hx0] at hx;simp only [AR,PR] at hx;refine ⟨.string ⟨#[UInt8.ofNat n]⟩,?_,rfl⟩;have h128:∀m:Fin 128,(Utf8.encode (m.val:Int)).data=#[UInt8.ofNat m.val]:=by decide +kernel
 have he:Utf8.encode (n:Int)=⟨#[UInt8.ofNat n]⟩:=by
  have:=h128 ⟨n,hn⟩;cases hb:Utf8.encode (n:Int) with
  | mk d=>rw [hb] at this;exact congrArg ByteArray.mk this
 simp [execOp,convert,run_underlying hs,run_underlying hd,hx,Conv.intToString,he]
end Go.Ab
namespace Go.Ab
open Go
theorem vd2 {z:Value} (n:Nat):(Builtin.zeroCells z.cells n).toList=flat (v4a n z):=qsr z n
theorem vhc {P:Program} {dst:Option Tmp} {ty t tn e:TypeId} {s x:Operand} {pos:String} {af:Array Edge} {gd:Option (Nat×Bool)} {ρ:Operand→AV} {σ:Nat→AO} {k:IntKind} {kn:IntKind} {n B:Nat} {z:AV}
  (ht:P.underlying t=some (.slice e)) (htn:P.underlying tn=some (.int kn)) (hs0:ρ s=.nils) (hx0:ρ x=.p (.int k n)) (hz:qa9 P e=some z) (hel:qer (P.cellsOf e) z=true) (hpos:0 < n) (hc:0 < P.cellsOf e)
  (hroom:qnm P e n=true) (hl:qct.zeroLen P e=P.cellsOf e) (hB:σ B=.dead 0) :
  OpM P ⟨dst,.call ⟨.builtin .append,#[s,x],#[t,tn]⟩,ty,pos,af,gd⟩ ρ σ (.own B 1 0 n) [(B,.arr e (P.cellsOf e) 1 (v4a n z))] [B]:=by
 intro D X ρ' σ' hρ hσ inj w a next Q hr hT ha hn
 have hs:=ha s;have hx:=ha x;rw [hρ s (by simp [Op.operands,Call.operands]),hs0] at hs;rw [hρ x (by simp [Op.operands,Call.operands]),hx0] at hx;have ho:=(hσ B (by simp)).trans hB;simp only [AR,PR] at hs hx;simp only [qnm,decide_eq_true_eq] at hroom;obtain ⟨hby,h63⟩:=hroom;obtain ⟨i,z0,hi,hz0,hzl',his,hib⟩:=qsy (P:=P) (e:=e) (by rw [hz];rfl);have hzv:z=ofV z0:=by
  unfold qa9 at hz;rw [hi] at hz;simpa [hz0] using hz.symm
 have hzr:∀X inj σ w,AR X inj σ w z z0:=fun X inj σ w=>by rw [hzv];exact qtz z0
 have hrun:=Lib.run_append_nil_zeros (P:=P) w t tn ty e i z0 k kn ht htn hi hz0 n hpos (by omega) (by omega) (by rw [hib];omega);have hge:=grownCap_ge w n 0 e;have hz1:z0.cells.size=P.cellsOf e:=by rw [←hzl'];exact hl
 have hars:∀m,ARs X inj σ' w (v4a m z) (v4a m z0):=fun m=>by
  induction m with
  | zero=>rfl
  | succ m ih=>exact ⟨z0,_,rfl,hzr _ _ _ _,ih⟩
 obtain ⟨_,hone⟩:=AR.cells_of (X:=X) (inj:=inj) (σ:=σ') (w:=w) (by
  have:=hel;unfold qer at this;simp only [v2m] at this;exact this.1) (hzr X inj σ' w)
 have hone2:qba (flat (v4a n z0)):=by
  intro u hu;unfold flat at hu;obtain ⟨v,hv,hu⟩:=List.mem_flatMap.1 hu;rw [(v31.1 hv).2] at hu;exact hone u hu
 have hall:=hr.alloc (D:=D) (l:=B) (g':=1) (e:=e) (sz:=P.cellsOf e) (es:=v4a n z) (vs:=v4a n z0) (w1:=w.drew) (c:=grownCap w n 0 e)
  (cur:=Builtin.zeroCells z0.cells n++Builtin.zeroCells z0.cells (grownCap w n 0 e - n)) (.inr rfl) (by rw [ho];exact v4s 0) (hars n) (fun v hv=>by rw [(v31.1 hv).2];exact hz1) hone2
  (by simpa using hge) (grownCap_le_maxLen w _ 0 e (by simp only [maxLen];omega))
  (by
   simp only [Array.size_append,size_zeroCells];rw [hz1,←Nat.add_mul];congr 1;omega)
  (by
   simp only [Array.toList_append,v3p];rw [vd2];refine List.take_left' ?_;rw [qbp (sz:=P.cellsOf e) (fun v hv=>by rw [(v31.1 hv).2];exact hz1),v3p])
 have hexec:(execOp a.eval ⟨dst,.call ⟨.builtin .append,#[s,x],#[t,tn]⟩,ty,pos,af,gd⟩).run P w=.ok (.value (.slice (some ⟨w.heap.size,0,none⟩) n (grownCap w n 0 e))) (w.drew.alloc (.cells (Builtin.zeroCells z0.cells n++Builtin.zeroCells z0.cells (grownCap w n 0 e - n)) e)):=by
  simp only [execOp,resolve,v5e,v5f,v5c,invoke,qn4];have:(#[s,x]:Array Operand).map a.eval=#[.slice none 0 0,.int k n]:=by simp [hs,hx]
  rw [this,hrun];simp
 unfold Oper.wp;rw [hexec];have hov:ovr [(B,.arr e (P.cellsOf e) 1 (v4a n z))] σ'=qhz σ' B (.arr e (P.cellsOf e) 1 (v4a n z)):=by
  have:=qys (some (B,.arr e (P.cellsOf e) 1 (v4a n z))) σ';exact this
 rw [hov] at hn;refine hn _ _ _ hall.1 hall.2 ?_;exact ql2 (inj:=fun j=>if j=B then some (w.heap.size,grownCap w n 0 e) else inj j) (qce _ _ _) (by simp) (by simp) hge
theorem HR.head {D:Prop} {X:Nat→Prop} {inj:Inj} {σ:Nat→AO} {w:World} {l e sz g len:Nat} {es:List AV} (h:HR X inj σ w) (ho:σ l=.arr e sz g es) (hl:len≤es.length) :
  HR X inj (qhz σ l (.arr e sz (g+1) (es.take len))) w∧Ev D X inj σ w inj (qhz σ l (.arr e sz (g+1) (es.take len))) w:=by
 have hup:=h.update (D:=D) (w':=w) (l:=l) (o:=.arr e sz g es) (o':=.arr e sz (g+1) (es.take len)) (x:=inj l) ho rfl rfl rfl (fun _=>v4o _) (v4o _) (fun _ _=>rfl) (fun _ _ _=>rfl)
  (fun b c hb=>.inr ⟨rfl,c,hb⟩) ⟨v4p _,fun _ he=>by simp [AO.gen] at he⟩
 rw [qpf] at hup;obtain ⟨hev,hhr⟩:=hup;refine ⟨hhr ?_,hev⟩;obtain ⟨vs,o1,o2,o3,o4⟩:=(ho ▸ h.obj l _ rfl:OR X inj σ w l (.arr e sz g es));have hvl:=o1.length;refine ⟨vs.take len,ARs.ev hev h.xlt _ _ (o1.take len),fun v hv=>o2 v (v3z hv),?_,?_⟩
 ·rw [qiy len o2];intro v hv;exact o3 v (v3z hv)
 ·rcases o4 with ⟨p1,p2⟩ | ⟨b,c,cur,p1,p2,p3,p4,p5,p6,p7⟩
  ·exact .inl ⟨p1,by rw [p2];simp⟩
  ·refine .inr ⟨b,c,cur,p1,p2,p3,by rw [v3r];omega,p5,p6,?_⟩;rw [v3r,v6s hl,qiy len o2,←p7,List.take_take,v6s (v4v _ hl)]
theorem q8w {P:Program} {dst:Option Tmp} {ty t e sz:TypeId} {s x:Operand} {pos:String} {af:Array Edge} {gd:Option (Nat×Bool)} {ρ:Operand→AV} {σ:Nat→AO} {l g len B:Nat} {es:List AV} {r:AV} {up:Upd} {rs:List Nat}
  (hs0:ρ s=.own l g 0 len) (ho:σ l=.arr e sz g es) (hl:len≤es.length)
  (hr0:(qct P B t (.own l (g+1) 0 len) (ρ x)).run (qhz σ l (.arr e sz (g+1) (es.take len)))=some (r,up)) (hrs:(qct P B t (.own l (g+1) 0 len) (ρ x)).reads (qhz σ l (.arr e sz (g+1) (es.take len)))=rs) :
  OpM P ⟨dst,.call ⟨.builtin .append,#[s,x],#[t,t]⟩,ty,pos,af,gd⟩ ρ σ r (Upd.list up++[(l,.arr e sz (g+1) (es.take len))]) (l :: rs):=by
 intro D X ρ' σ' hρ hσ inj w a next Q hr hT ha hn
 have hs:=ha s;have hx:=ha x;rw [hρ s (by simp [Op.operands,Call.operands]),hs0] at hs;rw [hρ x (by simp [Op.operands,Call.operands])] at hx;have ho':=(hσ l (by simp)).trans ho;obtain ⟨h1,h2⟩:=hr.head (D:=D) ho' hl;have hs':AR X inj (qhz σ' l (.arr e sz (g+1) (es.take len))) w (.own l (g+1) 0 len) (a.eval s):=by
  obtain ⟨a1,a2⟩:=hs;obtain ⟨_,a3⟩:=a2 _ ho';obtain ⟨a4,a5⟩:=a3 rfl _ _ _ rfl;refine ⟨a1,fun o hoo=>?_⟩;rw [qce] at hoo;subst hoo;refine ⟨v4o _,fun _ e2 sz2 es2 he=>?_⟩;cases he;exact ⟨by rw [v3r];omega,a5⟩
 have hx':=AR.ev h2 hr.xlt _ _ hx;have hfr:(qct P B t (.own l (g+1) 0 len) (ρ x)).run (qhz σ' l (.arr e sz (g+1) (es.take len)))=some (r,up):=by
  refine (L.frame _ hr0 fun k hk=>?_).1;rw [hrs] at hk;unfold qhz;by_cases hkl:k=l
  ·rw [if_pos hkl,if_pos hkl]
  ·rw [if_neg hkl,if_neg hkl];exact hσ k (by simp [hk])
 obtain ⟨val,w',inj',q1,q2,q3,q4⟩:=qt0 (D:=D) (ty:=ty) h1 hs' hx' hfr;have hov:ovr (Upd.list up++[(l,.arr e sz (g+1) (es.take len))]) σ'=upd (qhz σ' l (.arr e sz (g+1) (es.take len))) up:=by
  rw [←qys];funext k;cases up with
  | none =>
   have:=congrFun (qys (some (l,.arr e sz (g+1) (es.take len))) σ') k;exact this
  | some p =>
   have:=congrFun (qys (some (l,.arr e sz (g+1) (es.take len))) σ') k;simp only [Upd.list,v5p,v33,ovr] at this ⊢;split
   ·rfl
   ·exact this
 have hexec:(execOp a.eval ⟨dst,.call ⟨.builtin .append,#[s,x],#[t,t]⟩,ty,pos,af,gd⟩).run P w=.ok (.value val) w':=by
  simp only [execOp,resolve,v5e,v5f,v5c,invoke,qn4];have:(#[s,x]:Array Operand).map a.eval=#[a.eval s,a.eval x]:=by simp
  rw [this,q1];simp
 unfold Oper.wp;rw [hexec];rw [hov] at hn;exact hn val w' inj' q2 (h2.trans q3) q4
end Go.Ab
namespace Go.Ab
variable {D:Prop}
open Go
structure Grw (P:Program) (k:FuncId) (e sz:TypeId):Prop where
 body:HasBody P k
 rows:∀(n:Int) (w:World),0≤n→n≤1000000000000→Calls P k #[.slice none 0 0,.int .i64 n] w fun e' w'=>∃v,e'=.returned v∧w'.ownsRow w.heap.size e sz v 0 []∧RowKit.Below w.heap.size w w'∧w.drawn≤w'.drawn
variable {C:Cx} {Q:Exit→St→Prop} {st:St}
theorem vrx {ops:Array Oper} {o:Oper} {rest:List Oper} {f:Operand} {args:Array Operand} {ats:Array TypeId} {k:FuncId} {e sz K g:Nat} {n:Int}
  (S:Grw C.P k e sz) (h0:0≤n) (hn:n≤1000000000000)
  (ho:o.op=.call ⟨.value f,args,ats⟩) (hg:qax ops st.env o=some true) (hd:qbb C.N o=true)
  (hk:qb0 st.env f args.toList=some (k,[.nils,.p (.int .i64 n)]))
  (hobj:qar st.heap K=.dead g)
  (h:AL C ops rest Q ⟨qel st.env o.dst (.own K (g+1) 0 0),qph st.heap K (.arr e sz (g+1) [])⟩):AL C ops (o :: rest) Q st:=by
 intro inj a w hs;simp only [wpList,qbc hs hg,if_true];refine .inl ?_;obtain ⟨vs,hrun,hars⟩:=ql3 hs ho S.body hk;unfold Oper.wp;rw [hrun];simp only [Oper.upon];obtain ⟨v1,r1,rfl,ha1,hars⟩:=hars;obtain ⟨v2,r2,rfl,ha2,rfl⟩:=hars;have hv1:v1=.slice none 0 0:=ha1;have hv2:v2=Value.int .i64 n:=ha2;subst hv1;subst hv2;refine (S.rows n w h0 hn).mono ?_;rintro e' w' ⟨v,rfl,hrow,hbel,hdr⟩;have hfz:∀a:Addr,a.block < w.heap.size→w'.frozen? a=w.frozen? a:=fun a ha=>by unfold World.frozen?;rw [hbel.block _ ha]
 obtain ⟨_,hrow⟩:=hrow;rcases hrow with ⟨rfl,_⟩ | ⟨gb,cp,cur,rfl,hbase,hgb,q1,q2,q3,q4⟩
 ·have hup:=hs.hr.update (D:=C.D) (w':=w') (l:=K) (o:=.dead g) (o':=.arr e sz (g+1) []) (x:=none) hobj hbel.os hbel.tape hbel.output (fun _=>hdr) hbel.size hfz
   (fun b hb _=>hbel.block b hb) (fun b1 c1 h1=>by cases h1) ⟨by simp [AO.gen],fun _ he=>by simp [AO.gen] at he⟩
  obtain ⟨hev,hhr⟩:=hup;refine h _ _ _ (hs.put (u:=some (K,.arr e sz (g+1) [])) hd (hhr ⟨[],rfl,by simp,by simp [flat,qba],.inl ⟨by simp,rfl⟩⟩) hev ?_);refine ⟨⟨_,_,_,rfl⟩,fun oo hoo=>?_⟩;have:oo=.arr e sz (g+1) []:=by rw [←hoo];exact qce _ _ _
  subst this;exact ⟨v4o _,fun _ e1 sz1 es1 he=>by cases he;exact ⟨by simp,.inl ⟨by simp,rfl,rfl,rfl⟩⟩⟩
 ·have hup:=hs.hr.update (D:=C.D) (w':=w') (l:=K) (o:=.dead g) (o':=.arr e sz (g+1) []) (x:=some (gb,cp)) hobj hbel.os hbel.tape hbel.output (fun _=>hdr) hbel.size hfz
   (fun b hb _=>hbel.block b hb) (fun b1 c1 h1=>by cases h1;exact .inl hbase) ⟨by simp [AO.gen],fun _ he=>by simp [AO.gen] at he⟩
  obtain ⟨hev,hhr⟩:=hup;have hH:=hhr ⟨[],rfl,by simp,by simp [flat,qba],.inr ⟨gb,cp,cur,by simp,fun hX=>by have:=hs.hr.xlt gb hX;omega,hgb,by simp,q2,q3,by simp [flat]⟩⟩;refine h _ _ _ (hs.put (u:=some (K,.arr e sz (g+1) [])) hd hH hev ?_);have hown:vcx (fun q=>if q=K then some (gb,cp) else inj q) (qhz st.sig K (.arr e sz (g+1) [])) K (g+1) 0 0 (.slice (some ⟨gb,0,none⟩) 0 cp):=ql2 (qce _ _ _) (if_pos rfl) (v4o _) q1;exact hown
theorem zN {ops:Array Oper} {o:Oper} {rest:List Oper} {f:Operand} {args:Array Operand} {ats:Array TypeId} {k:FuncId} {e sz g:Nat} {n:Int}
  (S:Grw C.P k e sz) (K:Nat) (h0:0≤n) (hn:n≤1000000000000)
  (h:AL C ops rest Q ⟨qel st.env o.dst (.own K (g+1) 0 0),qph st.heap K (.arr e sz (g+1) [])⟩)
  (ho:o.op=.call ⟨.value f,args,ats⟩:=by rfl) (hg:qax ops st.env o=some true:=by first | exact qa6 rfl | exact qby rfl rfl (by exact rfl) (by exact rfl)) (hd:qbb C.N o=true:=by rfl)
  (hk:qb0 st.env f args.toList=some (k,[.nils,.p (.int .i64 n)]):=by simp only [go_sem,seval, *];all_goals first | exact rfl | exact ⟨rfl,rfl⟩)
  (hobj:qar st.heap K=.dead g:=by simp only [go_sem,seval, *];all_goals first | exact rfl | exact qt8 rfl):AL C ops (o :: rest) Q st:=vrx S h0 hn ho hg hd hk hobj h
end Go.Ab
namespace Go.Ab
open Go
theorem qxk {n:Int} (h1:0≤n) (h2:n≤4294967295):IntKind.u32.wrap n=n:=by
 simp only [IntKind.wrap,IntKind.signed,IntKind.bits];simp only [Bool.false_and,v2o,if_false];rw [show ((2:Int) ^ 32)=4294967296 from rfl];omega
theorem vhd (b:BitVec 32):IntKind.u32.wrap ((b.toNat:Nat):Int)=((b.toNat:Nat):Int):=by
 have:=b.isLt;exact qxk (by omega) (by omega)
theorem quf {a:Nat} (h:a < 4294967296):(BitVec.ofInt 32 (a:Int)).toNat=a:=by
 rw [BitVec.ofInt_natCast,BitVec.toNat_ofNat];exact Nat.mod_eq_of_lt h
theorem qnt (a i:Nat):Int.fdiv (a:Int) (2 ^ i)=((a / 2 ^ i:Nat):Int):=by
 have:((2:Int) ^ i)=((2 ^ i:Nat):Int):=by simp
 rw [this];generalize 2 ^ i=p;rw [Int.fdiv_eq_ediv_of_nonneg _ (by omega)];exact (Int.natCast_ediv a p).symm
def pop8 (i:Nat):Nat:=((v34 8).filter fun k=>i.testBit k).length
theorem vxv (n:Nat) (k:Nat) (hk:k≤32):Int.fdiv (n:Int) (2 ^ (min k 32))=((n / 2 ^ k:Nat):Int):=by rw [v6s hk,qnt]
def va4 (n:Nat):Nat:=pop8 (n / 16777216)+pop8 (n / 65536 % 256)+pop8 (n / 256 % 256)+pop8 (n % 256)
end Go.Ab
namespace Go.Ab
open Go
variable {C:Cx} {Q:Exit→St→Prop} {st:St}
end Go.Ab
namespace Go.Proofs
open Go.Shelf Go.RowKit Go.Lib
variable {P:Program} {ρ:Ren}
set_option maxHeartbeats 2000000 in
set_option maxRecDepth 100000 in
theorem AbE.clone_zero (L:SlLaysE0.n41 P ρ) (i0:TypeInfo) (z:Value) (size bytes:Nat) (hi:P.info? (ρ.t 23)=some i0) (hz0:i0.zero=some z) (hz1:i0.size=size) (hz2:i0.bytes=bytes) (hzs:z.cells.size=size) (hsz:0 < size)
  (z23:∀w,(Go.sizeOf (ρ.t 23)).run P w=.ok size w) (a:Addr) (c:Nat) (w:World) :
  Calls P (ρ.f 41) #[.slice (some a) 0 c] w fun e w'=>∃v',e=.returned v'∧w'.ownsRow w.heap.size (ρ.t 23) size v' 0 []∧Below w.heap.size w w':=by
 have mixed:=L.mixed;have t4:=L.t4;have a4:=L.a4;have z4:=L.z4;have v4:=L.v4;have t22:=L.t22;have a22:=L.a22;have z22:=L.z22;have v22:=L.v22
 have q22:∀(w:World) (a:Option Addr) (n c n' c':Nat),(binOp .eql (ρ.t 22) (.slice a n c) (.slice none n' c')).run P w=.ok (.bool a.isNone) w:=fun w a n c n' c'=>v2t w _ _ a n c n' c' L.t22
 have u22:∀w,Sem.run P (underlying (ρ.t 22)) w=.ok (TypeDesc.slice (ρ.t 23)) w:=run_underlying t22
 obtain ⟨_,_,FG⟩:=L.f41
 go_enter FG,SlBodyN.n41_ntmps ρ
 go_wp2_with (at_builtin;refine wpList_append_own _ rfl _ _ (ρ.t 22) rfl w.heap.size (ρ.t 23) i0 z size bytes t22 hi hz0 hz1 hz2 hzs hsz _ _ _ rfl (World.ownsRow_made w #[] 0 (v4o _) (v6w _) (by simp)) a 0 c [] rfl (by simp) (by intro j u hj;simp at hj) (by intro u hu;cases hu) (by unfold maxLen;omega) (by omega) (by simp) ?_)
 intro v' w1 hown hgrow hnil
 go_wp2
 go_ret
 refine ⟨v',rfl,by simpa using hown,?_⟩
 exact ((Below.refl _ w).alloc (v4o _) _).grown hgrow (by simp) (by intro k hk;simp [Value.ownBlock] at hk;omega)
theorem AbE.cln (L:SlLaysE0.n41 P ρ) (hb:Ab.HasBody P (ρ.f 41)) (i0:TypeInfo) (z:Value) (size bytes:Nat) (hi:P.info? (ρ.t 23)=some i0) (hz0:i0.zero=some z) (hz1:i0.size=size) (hz2:i0.bytes=bytes) (hzs:z.cells.size=size) (hsz:0 < size):Ab.Cln P (ρ.f 41) (ρ.t 23) size bytes :=
 have z23:∀w,(Go.sizeOf (ρ.t 23)).run P w=.ok size w:=fun w=>by subst hz1;simp [Go.sizeOf,typeInfo,hi]
 ⟨hb,fun b off n c news w h1 h2 h3 h4 h5=>(AnyE.slices_Clone L i0 z size bytes hi hz0 hz1 hz2 hzs hsz z23 b off n c news w h1 h2 h3 h4 h5).mono fun e w' ⟨v,p1,p2,_,p4⟩=>⟨v,p1,p2,p4⟩,
  fun a c w=>AbE.clone_zero L i0 z size bytes hi hz0 hz1 hz2 hzs hsz z23 a c w,fun n c w=>AnyE.slices_Clone_nil L n c w⟩
end Go.Proofs
namespace Go.Ab
variable {D:Prop}
open Go
@[go_sem] theorem q3i {α:Type} (i n j:Nat) (l:List α):v6n (i+(n - j)) (v6n i l++v6n (n - j) (List.drop j l))=v6n i l++v6n (n - j) (List.drop j l) :=
 v4e (by rw [v3l,v3r,v3r];omega)
variable {C:Cx} {Q:Exit→St→Prop} {st:St}
theorem yK {ops:Array Oper} {K:List Evt→St→Prop} {o:Oper} {f:Operand} {args:Array Operand} {ats:Array TypeId} {rest:List Oper} {acc:List Evt} {c:FuncId} {e sz by' g:Nat} {α:Type}
  (S:Cln C.P c e sz by') (k:Nat) (enc:α→PV) (l:List α) (n:Nat) (hl:l.length=n) (hn:n≤maxLen∧n * by'≤140737488355328)
  (h:DGo C ops rest ⟨qel st.env o.dst (.own k (g+1) 0 n),qph st.heap k (.arr e sz (g+1) ((l.map enc).map AV.p))⟩ (⟨.own k (g+1) 0 n,some (k,.arr e sz (g+1) ((l.map enc).map AV.p)),[k]⟩ :: acc) K)
  (hw:¬C.D:=by exact id) (ho:o.op=.call ⟨.value f,args,ats⟩:=by rfl) (hgd:qax ops st.env o=some true:=by first | exact qa6 rfl | exact qby rfl rfl (by exact rfl) (by exact rfl)) (hd:qbb C.N o=true:=by rfl) (hk:qjh C.B o=k:=by rfl)
  (hc:qb0 st.env f args.toList=some (c,[.p (.slc (l.map enc))]):=by simp only [go_sem,seval, *];all_goals first | exact rfl | exact ⟨rfl,rfl⟩)
  (hel:((l.map enc).map AV.p).all (qer sz)=true:=by exact qfv _ _ _ fun _=>⟨rfl,rfl⟩)
  (hg:qar st.heap k=.dead g:=by simp only [go_sem,seval, *];all_goals first | exact rfl | exact qt8 rfl):DGo C ops (o :: rest) st acc K :=
 DGo.cloned S hw ho hgd hd hk hc hel (by rw [v3n,hl];exact hn.1) (by rw [v3n,hl];exact hn.2) hg (by rw [v3n,hl]) rfl h
end Go.Ab
namespace Go.Ab
variable {D:Prop}
open Go
variable {X:Nat→Prop} {inj:Inj} {σ:Nat→AO} {w:World}
variable {C:Cx} {Q:Exit→St→Prop} {st:St}
end Go.Ab
namespace Go.Ab
open Go
variable {C:Cx} {Q:Exit→St→Prop} {st:St}
end Go.Ab
namespace Go.Ab
open Go
variable {C:Cx} {Q:Exit→St→Prop} {st:St} {inj:Inj} {a:Act} {w:World}
attribute [go_sem] v6a
@[go_sem,simp] theorem LeVs_rep (σ σ':Nat→AO) (n:Nat) (x:PV):qk4 σ σ' (v4a n (.p x)) (v4a n (.p x)):=by
 have:=qwn σ σ' (v4a n x);simpa only [v6a] using this
@[go_sem,simp] theorem vhe (σ σ':Nat→AO) (n:Nat):qk4 σ σ' (v4a n .nils) (v4a n (.p (.slc []))):=by
 induction n with
 | zero=>rfl
 | succ n ih =>
  rw [v6m,v6m,qqu];exact ⟨by simp [LeV,view],ih⟩
theorem SR.shrink (h:SR C st inj a w) {t l g m e sz:Nat} {es:List AV} (hobj:qar st.heap l=.arr e sz g es) (ht:st.env.get t=.own l g 0 m) :
  SR C ⟨qel st.env (some t) (.own l (g+1) 0 m),qph st.heap l (.arr e sz (g+1) (es.take m))⟩ inj a w:=by
 have hup:=h.hr.update (D:=C.D) (w':=w) (l:=l) (o:=.arr e sz g es) (o':=.arr e sz (g+1) (es.take m)) (x:=inj l) hobj rfl rfl rfl
  (fun _=>v4o _) (v4o _) (fun _ _=>rfl) (fun _ _ _=>rfl) (fun b c h1=>.inr ⟨rfl,_,h1⟩)
  ⟨v4p _,fun _ hg=>absurd hg (by simp [AO.gen])⟩
 obtain ⟨hev,hhr⟩:=hup;have hinj:(fun k=>if k=l then inj l else inj k)=inj:=by
  funext k;by_cases hk:k=l
  ·rw [if_pos hk,hk]
  ·rw [if_neg hk]
 rw [hinj] at hev hhr;obtain ⟨vs,h1,h2,h3,h4⟩:=h.hr.obj l _ hobj;have hs:(St.mk (qel st.env (some t) (.own l (g+1) 0 m)) (qph st.heap l (.arr e sz (g+1) (es.take m)))).sig=qhz st.sig l (.arr e sz (g+1) (es.take m)):=qiz _ _ _;have hob:=h.env t;rw [ht] at hob;obtain ⟨q1,q2⟩:=hob;obtain ⟨q3,q4⟩:=q2 _ hobj;obtain ⟨q5,q6⟩:=q4 rfl e sz es rfl;rw [v4z] at q5;have hvl:vs.length=es.length:=h1.length.symm;have hor:OR C.X inj (qhz st.sig l (.arr e sz (g+1) (es.take m))) w l (.arr e sz (g+1) (es.take m)):=by
  refine ⟨vs.take m,ARs.ev hev h.hr.xlt _ _ (h1.take m),fun v hv=>h2 v (v3z hv),fun u hu=>?_,?_⟩
  ·rw [qiy m h2] at hu;exact h3 u (v3z hu)
  ·rcases h4 with ⟨h4,h5⟩ | ⟨b,c,cur,i1,i2,i3,i4,i5,i6,i7⟩
   ·exact .inl ⟨h4,by rw [h5,List.take_nil]⟩
   ·refine .inr ⟨b,c,cur,i1,i2,i3,by rw [v3r];omega,i5,i6,?_⟩;rw [qiy m h2,←i7,List.take_take,v3r];congr 1;rw [v6s q5,v6s (v4v _ q5)]
 have hHR:=hhr hor;refine ⟨fun t'=>?_,h.size,h.defers,by rw [hs];exact hHR,by rw [hs];exact h.ev.trans hev⟩;rw [hs];simp only [qel,Env.get];by_cases hte:t=t'
 ·rw [if_pos hte,←hte];refine ⟨q1,fun o ho=>?_⟩;have ho':o=.arr e sz (g+1) (es.take m):=by rw [←ho];simp [qhz]
  subst ho';refine ⟨v4o _,fun _ e' sz' es' heq=>?_⟩;cases heq;refine ⟨by rw [v3r];omega,?_⟩;rcases q6 with ⟨q7,q8,q9,q10⟩ | ⟨b,c,a0,q7,q8,q9,q10⟩
  ·exact .inl ⟨q7,q8,rfl,q10⟩
  ·exact .inr ⟨b,c,a0,q7,q8,q9,q10⟩
 ·rw [if_neg hte];exact AR.ev hev h.hr.xlt _ _ (h.env t')
theorem q1u {c:Code} (t l g m e sz:Nat) {es es':List AV} {st':St} (hobj:qar st.heap l=.arr e sz g es) (ht:st.env.get t=.own l g 0 m) (he:es.take m=es')
  (hs:(⟨qel st.env (some t) (.own l (g+1) 0 m),qph st.heap l (.arr e sz (g+1) es')⟩:St)=st') (h:AWp C c Q st'):AWp C c Q st:=by
 subst he;subst hs;exact fun inj a w hs=>h inj a w (hs.shrink hobj ht)
end Go.Ab
namespace Go.Ab
open Go
theorem vhf {α:Type} {l:List α} {n:Nat} {x:α} (h:l[((n:Nat):Int).toNat]?=some x):l[n]?=some x:=h
theorem qug:∃g:Nat→Nat→Nat,(∀f i k,k < 1048576→k≠g f i)∧(∀f i j,g f i=g f j→i=j)∧∀f f' i j,f < 1048576→f' < 1048576→f≠f'→g f i≠g f' j :=
 ⟨fun f i=>1048576 * (i+1)+f,fun f i k h=>by show k≠1048576 * (i+1)+f;omega,fun f i j h=>by simp only at h;omega,fun f f' i j h h' hn=>by show 1048576 * (i+1)+f≠1048576 * (j+1)+f';omega⟩
def fx:Nat→Nat→Nat:=Classical.choose qug
theorem vhg {f i k:Nat} (h:k < 1048576):k≠fx f i:=(Classical.choose_spec qug).1 f i k h
theorem q5u {k f i:Nat} (h:k < 1048576):(k=fx f i)=False:=eq_false (vhg h)
theorem q5v {k f i:Nat} (h:k < 1048576):(fx f i=k)=False:=eq_false fun e=>vhg h e.symm
theorem q5w {f i j:Nat}:(fx f i=fx f j)=(i=j):=propext ⟨(Classical.choose_spec qug).2.1 f i j,fun h=>by rw [h]⟩
theorem fx_ne {f f' i j:Nat} (h:f < 1048576) (h':f' < 1048576) (hn:f≠f'):(fx f i=fx f' j)=False:=eq_false ((Classical.choose_spec qug).2.2 f f' i j h h' hn)
variable {α:Type}
def q5x (f e sz G:Nat) (enc:α→PV) (ll:List (List α)):List AV:=ll.mapIdx fun i x=>.own (fx f i) G 0 x.length
def q4r (f e sz G:Nat) (enc:α→PV) (ll:List (List α)) (rest:List (Nat×AO)):List (Nat×AO) :=
 (ll.mapIdx fun i x=>(fx f i,AO.arr e sz G (v58 AV.p (v58 enc x))))++rest
theorem qpk (f e sz G:Nat) (enc:α→PV) (ll:List (List α)) (i:Nat):(q5x f e sz G enc ll)[i]?=(ll[i]?).map fun x=>AV.own (fx f i) G 0 x.length:=by
 simp [q5x,List.getElem?_mapIdx]
theorem qjx (f e sz G:Nat) (enc:α→PV) (ll:List (List α)):(q5x f e sz G enc ll).length=ll.length:=by simp [q5x]
theorem vln (f e sz G:Nat) (enc:α→PV):q5x f e sz G enc []=[]:=rfl
theorem vlo (f e sz G:Nat) (enc:α→PV) (rest:List (Nat×AO)):q4r f e sz G enc [] rest=rest:=rfl
theorem vry {a b:List (Nat×AO)} {l:Nat} (h:(a.any fun x=>x.1 == l)=true):qar (a++b) l=qar a l:=by
 induction a with
 | nil=>simp at h
 | cons x a ih =>
  obtain ⟨k,o⟩:=x;simp only [v5p,qar];by_cases hk:k=l
  ·rw [if_pos hk,if_pos hk]
  ·rw [if_neg hk,if_neg hk];rw [v5n,v2r] at h;rcases h with h | h
   ·exact absurd (by simpa using h) hk
   ·exact ih h
theorem va5 {a b:List (Nat×AO)} {l:Nat} (h:¬(a.any fun x=>x.1 == l)=true):qar (a++b) l=qar b l:=by
 induction a with
 | nil=>rfl
 | cons x a ih =>
  obtain ⟨k,o⟩:=x;rw [v5n,v2r,not_or] at h;have hk:¬k=l:=by simpa using h.1
  simp only [v5p,qar];rw [if_neg hk];exact ih h.2
theorem vlp {a:List (Nat×AO)} {l:Nat} {o:AO} (hm:(l,o)∈a) (hu:∀o',(l,o')∈a→o'=o):qar a l=o:=by
 induction a with
 | nil=>cases hm
 | cons x a ih =>
  obtain ⟨k,o1⟩:=x;simp only [qar];by_cases h:k=l
  ·subst h;rw [if_pos rfl];exact hu o1 v6f
  ·rw [if_neg h];rcases v6d.1 hm with e | e
   ·cases e;exact absurd rfl h
   ·exact ih e fun o' ho=>hu o' (v6e _ ho)
theorem vlq {f e sz G:Nat} {enc:α→PV} {ll:List (List α)} {rest:List (Nat×AO)} {l:Nat} (h:l < 1048576):qar (q4r f e sz G enc ll rest) l=qar rest l:=by
 unfold q4r;rw [va5];simp only [v5o,not_exists,not_and,v6i];rintro x ⟨i,hi,rfl⟩;simp only [beq_iff_eq,q5v h];exact fun h=>h
theorem q8x (f e sz G:Nat) (enc:α→PV) (ll:List (List α)) (rest:List (Nat×AO)) (i:Nat) :
  qar (q4r f e sz G enc ll rest) (fx f i)=(ll[i]?).elim (qar rest (fx f i)) fun x=>.arr e sz G (v58 AV.p (v58 enc x)):=by
 unfold q4r;by_cases hi:i < ll.length
 ·have hx:ll[i]?=some ll[i]:=v3d hi;rw [vry,hx]
  ·refine vlp (v6i.2 ⟨i,hi,rfl⟩) fun o' ho=>?_
   obtain ⟨j,hj,e⟩:=v6i.1 ho;simp only [v5b] at e;have:j=i:=by have:=e.1;rw [q5w] at this;exact this
   subst this;exact e.2.symm
  ·simp only [v5o];exact ⟨_,v6i.2 ⟨i,hi,rfl⟩,by simp⟩
 ·have hx:ll[i]?=none:=v3e (by omega);rw [va5,hx]
  ·rfl
  ·simp only [v5o,not_exists,not_and,v6i];rintro x ⟨j,hj,rfl⟩;simp only [beq_iff_eq,q5w];omega
theorem vd3 {β:Type} (l:List β):l[l.length]?=none:=v3e (v4o _)
def qlr (h:List (Nat×AO)) (f e sz G:Nat) (enc:α→PV) (ll:List (List α)):Prop:=∀i x,ll[i]?=some x→qar h (fx f i)=.arr e sz G (v58 AV.p (v58 enc x))
def qn5 (h:List (Nat×AO)) (f i e sz G:Nat) (enc:α→PV) (ll:List (List α)):Prop:=∀j x,j≠i→ll[j]?=some x→qar h (fx f j)=.arr e sz G (v58 AV.p (v58 enc x))
def qqz (h:List (Nat×AO)) (f:Nat):Prop:=∀i,(qar h (fx f i)).alive=false
def q8y (h:List (Nat×AO)) (f G:Nat):Prop:=∀i,(qar h (fx f i)).alive=true→(qar h (fx f i)).gen < G
def vlr {β:Type} (m:Nat) (y:List β):Prop:=m=y.length
def vrz (h:List (Nat×AO)) (l:Nat):Prop:=(qar h l).alive=false
def vhh (es:List AV) (enc:α→PV) (y:List α):Prop:=es=v58 AV.p (v58 enc y)
def vr0 (o:AO) (e sz:Nat) (enc:α→PV) (y:List α):Prop:=match o with
 | .arr e' sz' _ es=>e'=e∧sz'=sz∧vhh es enc y
 | _=>False
section
variable {h h' H0 rest:List (Nat×AO)} {f f' i k e sz G G' e' sz':Nat} {o:AO} {enc enc':α→PV} {ll ll':List (List α)}
theorem vhi {l:Nat}:vrz [] l=True:=by simp [vrz,qar,AO.alive]
theorem vhj {g:Nat} {es:List AV} {y:List α}:vr0 (.arr e' sz' g es) e sz enc y=(e'=e∧sz'=sz∧vhh es enc y):=propext Iff.rfl
theorem vls {β:Type} {m:Nat} {y:List β} (h:y.length=m):vlr m y=True:=by simp [vlr,h]
theorem q8z {x:List α} {v:PV} {y:α} (hv:v=enc y):vhh (v58 AV.p (v58 enc x++[v])) enc (x++[y])=True:=by simp [vhh,hv]
theorem qs5 (hk:k < 1048576):qar ((k,o) :: h) (fx f i)=qar h (fx f i):=by simp only [qar,q5u hk,if_false]
theorem vd4 (hk:k < 1048576):qlr ((k,o) :: h) f e sz G enc ll=qlr h f e sz G enc ll:=by simp only [qlr,qs5 hk]
theorem q80:qlr (q4r f e sz G enc ll rest) f e sz G enc ll=True:=by
 simp only [qlr,q8x,eq_iff_iff,iff_true];intro i x hx;rw [hx];rfl
theorem q81 (hk:k < 1048576):qn5 ((k,o) :: h) f i e sz G enc ll=qn5 h f i e sz G enc ll:=by simp only [qn5,qs5 hk]
theorem q5y:qn5 ((fx f i,o) :: h) f i e sz G enc ll=qn5 h f i e sz G enc ll:=by
 simp only [qn5,eq_iff_iff];constructor <;> intro H j x hj hx
 ·have:=H j x hj hx;simp only [qar,q5w] at this
  rwa [if_neg (fun e=>hj e.symm)] at this
 ·simp only [qar,q5w];rw [if_neg (fun e=>hj e.symm)];exact H j x hj hx
theorem q5z:qn5 (q4r f e sz G enc ll rest) f i e sz G enc ll=True:=by
 simp only [qn5,q8x,eq_iff_iff,iff_true];intro j x _ hx;rw [hx];rfl
theorem q82 (hk:k < 1048576):qqz ((k,o) :: h) f=qqz h f:=by simp only [qqz,qs5 hk]
theorem q83:qqz [] f=True:=by simp [qqz,qar,AO.alive]
theorem q50:qqz (q4r f e sz G enc [] rest) f=qqz rest f:=rfl
theorem q84:q8y [] f G=True:=by simp [q8y,qar,AO.alive]
theorem vd5 {σ σ':Nat→AO} {a b:List (Nat×AO)}:qkm σ σ' H0 (a++b)↔qkm σ σ' H0 a∧qkm σ σ' H0 b:=by
 induction a with
 | nil=>simp [qkm]
 | cons x a ih =>
  obtain ⟨l,o⟩:=x;simp only [v5p,qkm,ih,and_assoc]
theorem q3j {σ σ':Nat→AO} {a:List (Nat×AO)} (H:∀l o,(l,o)∈a→vf8 σ σ' (qar H0 l).alive (qar H0 l).gen l):qkm σ σ' H0 a:=by
 induction a with
 | nil=>trivial
 | cons x a ih =>
  obtain ⟨l,o⟩:=x;exact ⟨H l o v6f,ih fun l o hm=>H l o (v6e _ hm)⟩
theorem qs6 {σ σ':Nat→AO} (H:∀i x,ll[i]?=some x→vf8 σ σ' (qar H0 (fx f i)).alive (qar H0 (fx f i)).gen (fx f i)):qkm σ σ' H0 (q4r f e sz G enc ll rest)=qkm σ σ' H0 rest:=by
 unfold q4r;rw [eq_iff_iff,vd5];refine ⟨fun h=>h.2,fun hr=>⟨q3j fun l o hm=>?_,hr⟩⟩;obtain ⟨i,hi,ee⟩:=v6i.1 hm;simp only [v5b] at ee;obtain ⟨rfl,rfl⟩:=ee;exact H i _ (v3d hi)
theorem q3k {σ σ':Nat→AO} {keep:Bool} {g0 l g g':Nat} {xs:List PV} (h1:σ l=.arr e sz g (xs.map .p)) (h2:σ' l=.arr e sz g' (xs.map .p)) (hg:1≤g') (hk:keep=true→g'=g∨g0 < g'):vf8 σ σ' keep g0 l:=by
 unfold vf8 vf7;rw [h1,h2];exact ⟨hg,rfl,rfl,qwn _ _ _,hk⟩
theorem vr1 {σ σ':Nat→AO} {keep:Bool} {g0 l g g':Nat} (h1:σ l=.dead g) (h2:σ' l=.arr e sz g' []) (hg:1≤g') (hk:keep=false):vf8 σ σ' keep g0 l:=by
 unfold vf8 vf7;rw [h1,h2];exact ⟨hg,hk,rfl⟩
theorem q3l (h1:qlr h f e sz G enc ll) (h2:qlr h' f e sz G enc ll) (hg:1≤G):qkm (qar h) (qar h') H0 (q4r f e sz G enc ll rest)=qkm (qar h) (qar h') H0 rest :=
 qs6 fun i x hx=>q3k (h1 i x hx) (h2 i x hx) hg fun _=>.inl rfl
theorem q0s {y:List α} (h1:qn5 h f i e sz G enc ll) (h2:qlr h' f e sz G enc (ll.set i y)) (hm:vr0 (qar h (fx f i)) e sz enc y) (hg:1≤G) (hk:(qar h (fx f i)).gen=G∨q8y H0 f G) :
  qkm (qar h) (qar h') H0 (q4r f e sz G enc (ll.set i y) rest)=qkm (qar h) (qar h') H0 rest:=by
 refine qs6 fun j x hx=>?_
 have h3:=h2 j x hx;by_cases hj:j=i
 ·subst hj;unfold vr0 at hm;split at hm
  ·rename_i e' sz' g es ho;obtain ⟨rfl,rfl,hme⟩:=hm;unfold vhh at hme;subst hme;have hxy:x=y:=by
    have hlt:j < ll.length:=by have:=(v3f.1 hx).1;simpa using this
    rw [v5x hlt] at hx;exact (v6z hx).symm
   subst hxy;exact q3k ho h3 hg fun ha=>by
    rcases hk with hk | hk
    ·rw [ho] at hk;exact .inl hk.symm
    ·exact .inr (hk j ha)
  ·exact hm.elim
 ·rw [v5w (fun e=>hj e.symm)] at hx;exact q3k (h1 j x hj hx) h3 hg fun _=>.inl rfl
theorem vr2 {o:AO} (h:o.alive=false):∃g,o=.dead g:=by
 cases o with
 | dead g=>exact ⟨g,rfl⟩
 | arr _ _ _ _=>cases h
 | map _ _ _=>cases h
theorem qyw (h1:qlr h f e sz G enc ll) (h2:qlr h' f e sz G enc (ll++[[]])) (hd:(qar h (fx f ll.length)).alive=false) (hd0:vrz H0 (fx f ll.length)) (hg:1≤G) :
  qkm (qar h) (qar h') H0 (q4r f e sz G enc (ll++[[]]) rest)=qkm (qar h) (qar h') H0 rest:=by
 refine qs6 fun j x hx=>?_
 have h3:=h2 j x hx;by_cases hj:j < ll.length
 ·rw [v3a hj] at hx;exact q3k (h1 j x hx) h3 hg fun _=>.inl rfl
 ·have hjl:=(v3f.1 hx).1;simp only [v3l,v56] at hjl;have:j=ll.length:=by omega
  subst this;have hx':x=[]:=by
   rw [v3b (v4o _),v6u] at hx;exact (v6z hx).symm
  subst hx';obtain ⟨g,hg'⟩:=vr2 hd;exact vr1 hg' h3 hg hd0
theorem quh {σ σ':Nat→AO}:∀{cs cs':List AV},cs.length=cs'.length→(∀(j:Nat) c c',cs[j]?=some c→cs'[j]?=some c'→LeV σ σ' c c')→qk4 σ σ' cs cs'
 | [],[],_,_=>rfl
 | [],_ :: _,h,_=>by simp at h
 | _ :: _,[],h,_=>by simp at h
 | c :: cs,c' :: cs',h,H=>⟨H 0 c c' rfl rfl,quh (by simpa using h) fun j d d' h1 h2=>H (j+1) d d' (by simpa using h1) (by simpa using h2)⟩
theorem q85 {σ σ':Nat→AO} {l g g' off n:Nat} {es es':List AV} {e sz e' sz':Nat} (h1:σ l=.arr e sz g es) (h2:σ' l=.arr e' sz' g' es'):LeV σ σ' (.own l g off n) (.own l g' off n):=by
 refine .inl ⟨by rw [h1];rfl,by rw [h2];rfl,by rw [h2];rfl,by rw [h1];rfl⟩
theorem q86 (h1:qlr h f e sz G enc ll) (h2:qlr h' f e sz G' enc ll):qk4 (qar h) (qar h') (q5x f e sz G enc ll) (q5x f e sz G' enc ll)=True:=by
 rw [eq_iff_iff,iff_true];refine quh (by rw [qjx,qjx]) fun j c c' hc hc'=>?_
 rw [qpk] at hc hc';cases hx:ll[j]? with
 | none=>rw [hx] at hc;cases hc
 | some x =>
  rw [hx] at hc hc';cases hc;cases hc';exact q85 (h1 j x hx) (h2 j x hx)
theorem q51 {y:List α} {g m:Nat} (h1:qn5 h f i e sz G enc ll) (h2:qlr h' f e sz G enc (ll.set i y)) (hg:(qar h (fx f i)).gen=g) (ha:(qar h (fx f i)).alive=true) (hm:vlr m y) :
  qk4 (qar h) (qar h') ((q5x f e sz G enc ll).set i (.own (fx f i) g 0 m)) (q5x f e sz G enc (ll.set i y))=True:=by
 rw [eq_iff_iff,iff_true];unfold vlr at hm;subst hm;refine quh (by rw [v3q,qjx,qjx,v3q]) fun j c c' hc hc'=>?_
 rw [qpk] at hc';cases hx:(ll.set i y)[j]? with
 | none=>rw [hx] at hc';cases hc'
 | some x =>
  rw [hx] at hc';cases hc';have h3:=h2 j x hx;have hlt:j < ll.length:=by have:=(v3f.1 hx).1;simpa using this
  by_cases hj:j=i
  ·subst hj;rw [v5x (by rw [qjx];exact hlt)] at hc;cases hc;rw [v5x hlt] at hx;cases hx;exact .inl ⟨by rw [hg],by rw [h3];rfl,by rw [h3];rfl,ha⟩
  ·rw [v5w (fun e=>hj e.symm),qpk] at hc;rw [v5w (fun e=>hj e.symm)] at hx;rw [hx] at hc;cases hc;exact q85 (h1 j x hj hx) h3
theorem q3m (h1:qlr h f e sz G enc ll) (h2:qlr h' f e sz G enc (ll++[[]])) (hd:(qar h (fx f ll.length)).alive=false) :
  qk4 (qar h) (qar h') (q5x f e sz G enc ll++[.nils]) (q5x f e sz G enc (ll++[[]]))=True:=by
 rw [eq_iff_iff,iff_true];refine quh (by simp [qjx]) fun j c c' hc hc'=>?_
 rw [qpk] at hc';cases hx:(ll++[[]])[j]? with
 | none=>rw [hx] at hc';cases hc'
 | some x =>
  rw [hx] at hc';cases hc';have h3:=h2 j x hx;by_cases hj:j < ll.length
  ·rw [v3a (by rw [qjx];exact hj),qpk] at hc;rw [v3a hj] at hx;rw [hx] at hc;cases hc;exact q85 (h1 j x hx) h3
  ·have hjl:=(v3f.1 hx).1;simp only [v3l,v56] at hjl;have:j=ll.length:=by omega
   subst this;rw [v3b (by rw [qjx];exact v4o _),qjx,v6u] at hc;cases hc;have hx':x=[]:=by
    rw [v3b (v4o _),v6u] at hx;exact (v6z hx).symm
   subst hx';exact .inr ⟨rfl,rfl,rfl,hd,by rw [h3];rfl⟩
end
end Go.Ab
namespace Go.Ab
open Go
mutual
def vo8 (π:Nat→Nat):AV→AV
 | .any=>.any
 | .p x=>.p x
 | .nils=>.nils
 | .loc l g i off=>.loc (π l) g i off
 | .own l g off n=>.own (π l) g off n
 | .mapo l g=>.mapo (π l) g
 | .func fn cs=>.func fn (qq0 π cs)
 | .agg cs=>.agg (qq0 π cs)
 | .tup cs=>.tup (qq0 π cs)
def qq0 (π:Nat→Nat):List AV→List AV
 | []=>[]
 | c :: r=>vo8 π c :: qq0 π r
end
def qwz (π:Nat→Nat):AO→AO
 | .dead g=>.dead g
 | .arr e sz g es=>.arr e sz g (qq0 π es)
 | .map g ks vs=>.map g (qq0 π ks) (qq0 π vs)
theorem qyx (π:Nat→Nat):∀l:List AV,qq0 π l=l.map (vo8 π)
 | []=>rfl
 | c :: r=>by simp only [qq0,v3t,qyx π r]
theorem vhk (π:Nat→Nat) (xs:List PV):qq0 π (v58 AV.p xs)=v58 AV.p xs:=by
 rw [qyx,List.map_map];rfl
theorem qyy (π:Nat→Nat) (l:List AV):(qq0 π l).length=l.length:=by rw [qyx,v3n]
theorem qpl (π:Nat→Nat) (o:AO):(qwz π o).gen=o.gen:=by cases o <;> rfl
theorem qmf (π:Nat→Nat) (o:AO):(qwz π o).alive=o.alive:=by cases o <;> rfl
section
variable {X:Nat→Prop} {inj:Inj} {σ:Nat→AO} {w:World} {π:Nat→Nat}
abbrev vr3 (π:Nat→Nat) (σ:Nat→AO):Nat→AO:=fun l=>qwz π (σ (π l))
abbrev vfj (π:Nat→Nat) (inj:Inj):Inj:=fun l=>inj (π l)
theorem renF (hπ:∀l,π (π l)=l) (D:Nat→Bool) (hD:∀l,D l=false) (b:Nat):F (vfj π inj) (vr3 π σ) b↔F inj σ b:=by
 constructor
 ·rintro ⟨l,c,o,h1,h2,_,h3⟩;refine ⟨π l,c,σ (π l),rfl,?_,rfl,h3⟩;rw [←h1,qmf] at h2;exact h2
 ·rintro ⟨l,c,o,h1,h2,_,h3⟩;refine ⟨π l,c,qwz π o,?_,by rw [qmf];exact h2,rfl,?_⟩
  ·show qwz π (σ (π (π l)))=qwz π o;rw [hπ,h1]
  ·show inj (π (π l))=some (b,c);rw [hπ];exact h3
theorem va6 {o:AO} {e sz g:Nat} {es:List AV} (h:qwz π o=.arr e sz g es):∃es0,o=.arr e sz g es0∧es=qq0 π es0:=by
 cases o with
 | dead _=>cases h
 | arr e' sz' g' es0 =>
  simp only [qwz,AO.arr.injEq] at h;obtain ⟨rfl,rfl,rfl,rfl⟩:=h;exact ⟨es0,rfl,rfl⟩
 | map _ _ _=>cases h
theorem vlt {o:AO} {g:Nat} {ks vs:List AV} (h:qwz π o=.map g ks vs):∃ks0 vs0,o=.map g ks0 vs0:=by
 cases o with
 | dead _=>cases h
 | arr _ _ _ _=>cases h
 | map g' ks0 vs0 =>
  simp only [qwz,AO.map.injEq] at h;obtain ⟨rfl,rfl,rfl⟩:=h;exact ⟨ks0,vs0,rfl⟩
mutual
theorem AR.ren (hπ:∀l,π (π l)=l):∀(v:AV) (val:Value),AR X inj σ w v val→AR X (vfj π inj) (vr3 π σ) w (vo8 π v) val
 | .any,_,_=>trivial
 | .p x,val,h=>by
  have e:(fun b=>X b∨F inj σ b)=fun b=>X b∨F (vfj π inj) (vr3 π σ) b:=by
   funext b
   rw [renF (inj:=inj) (σ:=σ) hπ (fun _=>false) (fun _=>rfl) b]
  simp only [vo8,AR] at *
  rw [←e];exact h
 | .nils,_,h=>h
 | .loc l g i off,val,h=>by
  obtain ⟨h1,h2⟩:=h
  refine ⟨h1,fun o ho=>?_⟩
  have ho:qwz π (σ l)=o:=by rw [←ho];show _=qwz π (σ (π (π l)));rw [hπ]
  obtain ⟨h3,h4⟩:=h2 _ rfl
  rw [←ho,qpl]
  refine ⟨h3,fun hg e sz es he=>?_⟩
  obtain ⟨es0,he0,_⟩:=va6 he
  obtain ⟨b,c,h5,h6⟩:=h4 hg e sz es0 he0
  exact ⟨b,c,by show inj (π (π l))=_;rw [hπ];exact h5,h6⟩
 | .own l g off n,val,h=>by
  obtain ⟨h1,h2⟩:=h
  refine ⟨h1,fun o ho=>?_⟩
  have ho:qwz π (σ l)=o:=by rw [←ho];show _=qwz π (σ (π (π l)));rw [hπ]
  obtain ⟨h3,h4⟩:=h2 _ rfl
  rw [←ho,qpl]
  refine ⟨h3,fun hg e sz es he=>?_⟩
  obtain ⟨es0,he0,he1⟩:=va6 he
  have hi:vfj π inj (π l)=inj l:=by show inj (π (π l))=_;rw [hπ]
  rw [he1,qyy,hi]
  exact h4 hg e sz es0 he0
 | .mapo l g,val,h=>by
  obtain ⟨h1,h2⟩:=h
  refine ⟨h1,fun o ho=>?_⟩
  have ho:qwz π (σ l)=o:=by rw [←ho];show _=qwz π (σ (π (π l)));rw [hπ]
  obtain ⟨h3,h4⟩:=h2 _ rfl
  rw [←ho,qpl]
  refine ⟨h3,fun hg ks vs he=>?_⟩
  obtain ⟨ks0,vs0,he0⟩:=vlt he
  obtain ⟨b,c,h5,h6⟩:=h4 hg ks0 vs0 he0
  exact ⟨b,c,by show inj (π (π l))=_;rw [hπ];exact h5,h6⟩
 | .func fn cs,val,h=>by
  obtain ⟨vs,h1,h2⟩:=h
  exact ⟨vs,h1,ARs.ren hπ cs vs h2⟩
 | .agg cs,val,h=>by
  obtain ⟨vs,h1,h2,h3⟩:=h
  exact ⟨vs,h1,ARs.ren hπ cs vs h2,h3⟩
 | .tup cs,val,h=>by
  obtain ⟨vs,h1,h2⟩:=h
  exact ⟨vs,h1,ARs.ren hπ cs vs h2⟩
theorem ARs.ren (hπ:∀l,π (π l)=l):∀(vs:List AV) (vals:List Value),ARs X inj σ w vs vals→ARs X (vfj π inj) (vr3 π σ) w (qq0 π vs) vals
 | [],_,h=>h
 | c :: r,_,h=>by
  obtain ⟨v,rs,h1,h2,h3⟩:=h
  exact ⟨v,rs,h1,AR.ren hπ c v h2,ARs.ren hπ r rs h3⟩
end
theorem HR.ren (hπ:∀l,π (π l)=l) (h:HR X inj σ w):HR X (vfj π inj) (vr3 π σ) w:=by
 refine ⟨fun l o ho=>?_,fun l l' o o' b c c' h1 h2 a1 a2 h3 h4=>?_,h.xlt⟩
 ·have h1:=h.obj (π l) _ rfl;subst ho;show OR X (vfj π inj) (vr3 π σ) w l (qwz π (σ (π l)));cases hs:σ (π l) with
  | dead g=>trivial
  | arr e sz g es =>
   rw [hs] at h1;obtain ⟨vs,q1,q2,q3,q4⟩:=h1;refine ⟨vs,ARs.ren hπ es vs q1,q2,q3,?_⟩;rw [qyy];rcases q4 with ⟨q4,q5⟩ | q4
   ·exact .inl ⟨q4,by rw [q5];rfl⟩
   ·exact .inr q4
  | map g ks vs =>
   rw [hs] at h1;obtain ⟨b,c,ms,clock,q1,q2,q3,q4,q5⟩:=h1;exact ⟨b,c,ms,clock,q1,q2,q3,ARs.ren hπ ks _ q4,ARs.ren hπ vs _ q5⟩
 ·have:=h.inj1 (π l) (π l') _ _ b c c' rfl rfl (by rw [←h1,qmf] at a1;exact a1) (by rw [←h2,qmf] at a2;exact a2) h3 h4;have:=congrArg π this
  rwa [hπ,hπ] at this
end
def vd6 (π:Nat→Nat) (h:List (Nat×AO)):List (Nat×AO):=h.map fun x=>(π x.1,qwz π x.2)
def vfk (π:Nat→Nat) (env:Env):Env:=env.map fun x=>(x.1,vo8 π x.2)
theorem q52 {π:Nat→Nat} (hπ:∀l,π (π l)=l) (h:List (Nat×AO)) (l:Nat):qar (vd6 π h) l=qwz π (qar h (π l)):=by
 induction h with
 | nil=>rfl
 | cons x h ih =>
  obtain ⟨k,o⟩:=x;simp only [vd6,v3t,qar];by_cases hk:π k=l
  ·have:k=π l:=by rw [←hk,hπ]
   rw [if_pos hk,if_pos this]
  ·have:¬k=π l:=fun e=>hk (by rw [e,hπ])
   rw [if_neg hk,if_neg this];exact ih
theorem vlu (π:Nat→Nat) (env:Env) (t:Nat):(vfk π env).get t=vo8 π (env.get t):=by
 induction env with
 | nil=>rfl
 | cons x env ih =>
  obtain ⟨k,v⟩:=x;simp only [vfk,v3t,Env.get];split
  ·rfl
  ·exact ih
def qw0 (o0 o:AO):Prop:=o0.gen≤o.gen∧(o.alive=true→o0.gen < o.gen)
variable {C:Cx} {Q:Exit→St→Prop} {st:St} {inj:Inj} {a:Act} {w:World}
theorem SR.ren {π:Nat→Nat} (hπ:∀l,π (π l)=l) (hs:SR C st inj a w) (hm:∀l,π l≠l→qw0 (qar C.H0 l) (qar st.heap (π l))) :
  SR C ⟨vfk π st.env,vd6 π st.heap⟩ (vfj π inj) a w:=by
 have hsig:(qar (vd6 π st.heap))=vr3 π (qar st.heap):=by funext l;exact q52 hπ _ l
 refine ⟨fun t=>?_,hs.size,hs.defers,?_,?_⟩
 ·show AR C.X (vfj π inj) (qar (vd6 π st.heap)) w ((vfk π st.env).get t) _;rw [hsig,vlu];exact AR.ren hπ _ _ (hs.env t)
 ·show HR C.X (vfj π inj) (qar (vd6 π st.heap)) w;rw [hsig];exact HR.ren hπ hs.hr
 ·show Ev C.D C.X C.inj0 (qar C.H0) C.w0 (vfj π inj) (qar (vd6 π st.heap)) w;rw [hsig];refine ⟨hs.ev.os,hs.ev.tape,hs.ev.output,hs.ev.dr,hs.ev.size,hs.ev.fz,hs.ev.blk,fun b hb=>hs.ev.fp b ((renF hπ (fun _=>false) (fun _=>rfl) b).1 hb),fun l=>?_⟩;by_cases hl:π l=l
  ·have h0:=hs.ev.objs l;show OEv (qar C.H0 l) (qwz π (qar st.heap (π l))) (inj (π l)=C.inj0 l);rw [hl];refine ⟨by rw [qpl];exact h0.1,fun ha hg=>?_⟩;rw [qmf] at ha;rw [qpl] at hg;obtain ⟨h1,h2⟩:=h0.2 ha hg;refine ⟨h1,?_⟩;rcases h2 with ⟨e,sz,es,es',q1,q2,q3⟩ | ⟨ks,vs,ks',vs',q1,q2⟩
   ·exact .inl ⟨e,sz,es,qq0 π es',q1,by rw [show st.sig l=qar st.heap l from rfl] at q2;rw [q2];rfl,by rw [qyy];exact q3⟩
   ·exact .inr ⟨ks,vs,qq0 π ks',qq0 π vs',q1,by rw [show st.sig l=qar st.heap l from rfl] at q2;rw [q2];rfl⟩
  ·obtain ⟨h1,h2⟩:=hm l hl;refine ⟨by show _≤(qwz π (qar st.heap (π l))).gen;rw [qpl];exact h1,fun ha hg=>?_⟩;have ha':(qar st.heap (π l)).alive=true:=by
    have:(qwz π (qar st.heap (π l))).alive=true:=ha
    rwa [qmf] at this
   have hg':(qar C.H0 l).gen=(qar st.heap (π l)).gen:=by
    have:(qar C.H0 l).gen=(qwz π (qar st.heap (π l))).gen:=hg
    rwa [qpl] at this
   have:=h2 ha';omega
def swp (a b l:Nat):Nat:=if l=a then b else if l=b then a else l
theorem vhl (a b l:Nat):swp a b (swp a b l)=l:=by
 unfold swp;by_cases h1:l=a
 ·subst h1;by_cases h2:b=l
  ·subst h2;simp
  ·simp [h2]
 ·by_cases h2:l=b
  ·subst h2;simp [h1]
  ·simp [h1,h2]
theorem SR.swp {x y:Nat} (hs:SR C st inj a w) (h1:qw0 (qar C.H0 x) (qar st.heap y)) (h2:qw0 (qar C.H0 y) (qar st.heap x)):SR C ⟨vfk (swp x y) st.env,vd6 (swp x y) st.heap⟩ (vfj (swp x y) inj) a w:=by
 refine hs.ren (vhl x y) fun l hl=>?_
 unfold Ab.swp at hl ⊢;by_cases e1:l=x
 ·subst e1;simpa using h1
 ·by_cases e2:l=y
  ·subst e2;by_cases e3:l=x
   ·exact absurd e3 e1
   ·simpa [e3] using h2
  ·simp [e1,e2] at hl
theorem vxw {ops:Array Oper} {l:List Oper} (x y:Nat) (h1:qw0 (qar C.H0 x) (qar st.heap y)) (h2:qw0 (qar C.H0 y) (qar st.heap x)) (h:AL C ops l Q ⟨vfk (swp x y) st.env,vd6 (swp x y) st.heap⟩):AL C ops l Q st :=
 fun inj a w hs=>h _ a w (hs.swp h1 h2)
theorem vr4 {c:Code} (x y:Nat) (h1:qw0 (qar C.H0 x) (qar st.heap y)) (h2:qw0 (qar C.H0 y) (qar st.heap x)) (h:AWp C c Q ⟨vfk (swp x y) st.env,vd6 (swp x y) st.heap⟩):AWp C c Q st :=
 fun inj a w hs=>h _ a w (hs.swp h1 h2)
section
variable {α:Type} {h:List (Nat×AO)} {f i d e sz G:Nat} {enc:α→PV} {ll:List (List α)}
theorem vlv (x y:Nat) (h:List (Nat×AO)) (l:Nat):qar (vd6 (swp x y) h) l=qwz (swp x y) (qar h (swp x y l)):=q52 (vhl x y) h l
end
end Go.Ab
namespace Go.Ab
open Go
section
variable {α:Type} {h:List (Nat×AO)} {f e sz G:Nat} {enc:α→PV} {ll:List (List α)}
theorem vhm (c:Prop) [Decidable c] (a b:AO):(if c then a else b).alive=if c then a.alive else b.alive:=by split <;> rfl
end
theorem vhn (π:Nat→Nat) (t:Nat) (v:AV) (r:Env):vfk π ((t,v) :: r)=(t,vo8 π v) :: vfk π r:=rfl
theorem vlw (π:Nat→Nat):vfk π []=[]:=rfl
theorem q87 {β:Type} {l:List β} {n:Nat} (h:l.length=n):l.take n=l:=v4e (by omega)
theorem va7 {β:Type} (l:List PV) (f:β→PV) (x:List β):(PV.slc l=qav f x)=(l=v58 f x):=by simp [qav]
attribute [simp] va7
attribute [go_sem] q87 va7 q5u q5v q5w qpk qjx vln vlo vlq q8x vd3 Option.elim_some Option.elim_none vd4 q80 q81 q5y q5z q82 q83 q50 q84 vhi vhj vls q8z q3l q0s qyw q86 q51 q3m vhm vlv vo8 qq0 qwz vhk vhn vlw qw0
variable {C:Cx} {Q:Exit→St→Prop} {st:St}
end Go.Ab
namespace Go.Ab
open Go
section
variable {α:Type} {h h' H0 rest:List (Nat×AO)} {f e sz G:Nat} {enc:α→PV}
end
end Go.Ab
namespace Go.Ab
open Go
section
variable {α:Type} {h h' H0 rest:List (Nat×AO)} {f e sz G:Nat} {enc:α→PV} {ll:List (List α)}
theorem q3n (h1:qlr h f e sz G enc ll) (h2:qqz h' f):qk4 (qar h) (qar h') (q5x f e sz G enc ll) (v58 AV.p (v58 (qav enc) ll))=True:=by
 rw [eq_iff_iff,iff_true];refine quh (by simp [qjx]) fun j c c' hc hc'=>?_
 rw [qpk] at hc;cases hx:ll[j]? with
 | none=>rw [hx] at hc;cases hc
 | some x =>
  rw [hx] at hc;cases hc;rw [v3g,v3g,hx] at hc';cases hc';show (view (fun l=>!(qar h' l).alive) 9 (.own (fx f j) G 0 x.length)).run (qar h)=some (qav enc x);have hD:(!(qar h' (fx f j)).alive)=true:=by rw [h2 j];rfl
  simp only [view,hD,if_true,L.run_look,h1 j x hx];rw [if_pos ⟨trivial,by simp⟩];rw [L.run_bind',List.drop_zero,v4e (by simp),qmi];rfl
end
attribute [go_sem] q3n
end Go.Ab
namespace Go.Ab
open Go
section
variable {C:Cx} {Q:Exit→St→Prop} {st:St}
theorem zCn {α:Type} (f:α→PV) (l:List α) (K off len:Nat) (hle:off+len≤l.length) {ops:Array Oper} {o:Oper} {rest:List Oper} {g e sz:Nat} {t:TypeId} {x:Operand} {st':St}
  (h:AL C ops rest Q st') (ho:o.op=.call ⟨.builtin .clear,#[x],#[t]⟩:=by rfl) (hg:qax ops st.env o=some true:=by first | exact qa6 rfl | exact qby rfl rfl (by exact rfl) (by exact rfl)) (hd:qbb C.N o=true:=by rfl)
  (hu:C.P.underlying t=some (.slice e):=by simp only [go_sem,seval];all_goals exact rfl) (hx:ev st.env x=.own K g off len:=by simp only [go_sem,seval, *];all_goals exact zF)
  (hs:qar st.heap K=.arr e sz g ((l.map f).map .p):=by simp only [go_sem,seval, *];all_goals exact zF) (hsz:sz=C.P.cellsOf e:=by simp only [go_sem,seval];all_goals rfl) (hz:qa9 C.P e=some .nils:=by simp only [go_sem,seval];all_goals rfl)
  (hok:qer sz .nils=true:=by rfl)
  (hst:(⟨qel st.env o.dst (.p (.tup [])),qrx st.heap (some (K,.arr e sz g (List.map AV.p (List.map f (l.take off))++List.replicate len .nils++List.map AV.p (List.map f (l.drop (off+len))))))⟩:St)=st':=by exact rfl):AL C ops (o :: rest) Q st:=by
 obtain ⟨dst,op,type,pos,after,guard⟩:=o;simp only at ho;subst ho;subst hsz;have hr:(aop C.P C.B (ev st.env) ⟨dst,.call ⟨.builtin .clear,#[x],#[t]⟩,type,pos,after,guard⟩).run (qar st.heap)=some (.p (.tup []),some (K,.arr e (C.P.cellsOf e) g (v58 AV.p (v58 f (l.take off))++v4a len .nils++v58 AV.p (v58 f (l.drop (off+len)))))):=by
  show (qwl C.P t (ev st.env x)).run (qar st.heap)=_;unfold qwl;rw [hu,hx];simp only [L.run,hs];rw [if_pos ⟨trivial,trivial,trivial,by simpa using hle⟩,hz];simp only [hok,if_true,L.run_ret];simp only [List.map_take,List.map_drop]
 subst hst;refine vo3 hg hd ?_ h;rw [hr];rfl
theorem qyz {σ σ':Nat→AO}:∀{a a' b b':List AV},qk4 σ σ' a a'→qk4 σ σ' b b'→qk4 σ σ' (a++b) (a'++b')
 | [],[],_,_,_,h=>h
 | [],_ :: _,_,_,h,_=>h.elim
 | _ :: _,[],_,_,h,_=>by simp [qk4] at h
 | c :: a,c' :: a',b,b',h,k=>⟨h.1,qyz h.2 k⟩
theorem vlx {α:Type} {σ σ':Nat→AO} {f:α→PV} {a b:List α} {n:Nat} {z:α} (hz:f z=.slc []) :
  qk4 σ σ' (v58 AV.p (v58 f a)++v4a n .nils++v58 AV.p (v58 f b)) (v58 AV.p (v58 f (a++v4a n z++b)))=True:=by
 rw [eq_iff_iff,iff_true];simp only [v3s,v6a,hz];exact qyz (qyz (qwn _ _ _) (vhe _ _ _)) (qwn _ _ _)
end
attribute [go_sem] vlx
end Go.Ab
namespace Go.Ab
open Go
theorem qvx:∃p:Nat→Nat,(∀k,k < 1048576→p k=k)∧∀f i,f < 1048576→p (fx f i)=1048576+f:=by
 refine ⟨fun l=>open Classical in if l < 1048576 then l else if h:∃f i,f < 1048576∧l=fx f i then 1048576+h.choose else 0,fun k hk=>if_pos hk,fun f i hf=>?_⟩;have h1:¬fx f i < 1048576:=fun h=>vhg h rfl
 have h2:∃f' i',f' < 1048576∧fx f i=fx f' i':=⟨f,i,hf,rfl⟩;simp only [h1,if_false];rw [dif_pos h2];obtain ⟨i',h3,h4⟩:=h2.choose_spec;by_cases hn:f=h2.choose
 ·rw [←hn]
 ·rw [fx_ne hf h3 hn] at h4;exact h4.elim
def plc:Nat→Nat:=Classical.choose qvx
theorem vr5 {k:Nat} (h:k < 1048576):plc k=k:=(Classical.choose_spec qvx).1 k h
theorem vxx {f i:Nat} (h:f < 1048576):plc (fx f i)=1048576+f:=(Classical.choose_spec qvx).2 f i h
def vr6 (p:Nat→Nat) (e:Evt):Option Nat×List Nat:=(e.wr.map p,e.reads.map p)
def vr7 (x y:Option Nat×List Nat):Bool :=
  (match x.1 with
   | some l=>!y.2.contains l && y.1 != some l
   | none=>true) && (match y.1 with
   | some l=>!x.2.contains l
   | none=>true)
def vly (ops:Array Oper) (es:List (Option Nat×List Nat)):Bool :=
  let A:=vat ops ops.size
  (v34 ops.size).all fun j=>(v34 j).all fun i=>q0n A j i ||
    (match es[i]?,es[j]? with
     | some x,some y=>vr7 x y
     | _,_=>true)
theorem vlz {p:Nat→Nat} {x y:Evt} (h:vr7 (vr6 p x) (vr6 p y)=true):vds x y=true:=by
 unfold vr7 vr6 at h;unfold vds;simp only [v2m] at h ⊢;obtain ⟨h1,h2⟩:=h;constructor
 ·cases hx:x.wr with
  | none=>rfl
  | some l =>
   rw [hx] at h1;simp only [v49,v2m,v2q,bne_iff_ne,ne_eq] at h1 ⊢;obtain ⟨q1,q2⟩:=h1;refine ⟨?_,fun e=>q2 (by rw [e];rfl)⟩;cases hc:y.reads.contains l with
   | false=>rfl
   | true =>
    have:(y.reads.map p).contains (p l)=true:=by
     simp only [v5q,v6h] at hc ⊢;exact ⟨l,hc,rfl⟩
    rw [this] at q1;cases q1
 ·cases hy:y.wr with
  | none=>rfl
  | some l =>
   rw [hy] at h2;simp only [v49,v2q] at h2 ⊢;cases hc:x.reads.contains l with
   | false=>rfl
   | true =>
    have:(x.reads.map p).contains (p l)=true:=by
     simp only [v5q,v6h] at hc ⊢;exact ⟨l,hc,rfl⟩
    rw [this] at h2;cases h2
theorem vl0 {ops:Array Oper} {es:List Evt} {p:Nat→Nat} (h:vly ops (es.map (vr6 p))=true):qvv ops es=true:=by
 simp only [vly,qvv,v5m,v6j,v2r] at h ⊢;intro j hj i hi;rcases h j hj i hi with h1 | h1
 ·exact .inl h1
 ·right;rw [v3g,v3g] at h1;cases hx:es[i]? with
  | none=>rfl
  | some x =>
   cases hy:es[j]? with
   | none=>rfl
   | some y =>
    rw [hx,hy] at h1;exact vlz h1
theorem vho {ops:Array Oper} {acc:List Evt} {sh:List (Option Nat×List Nat)} (hsh:acc.map (vr6 plc)=sh) (hev:vly ops sh.reverse=true):qvv ops acc.reverse=true:=by
 subst hsh;rw [←List.map_reverse] at hev;exact vl0 hev
variable {C:Cx} {Q:Exit→St→Prop} {st:St}
theorem ydlS {l:Array Oper} {r:List Oper} {acc:List Evt} {sh:List (Option Nat×List Nat)} (h:AL C l r Q st) (hsh:acc.map (vr6 plc)=sh:=by simp only [List.map_cons,List.map_nil,vr6,Evt.wr,Option.map_some,Option.map_none,vr5,vxx,seval,go_sem];exact rfl) (hev:vly l sh.reverse=true:=by kernel_rfl):DGo C l [] st acc (DKL C l r Q):=DGo.done ⟨vho hsh hev,h⟩
end Go.Ab
namespace Go.Ab
variable {D:Prop}
open Go
def q88 (n₀:Nat) (W:World) (sv:Value) (n:Nat) (news:List Value):Prop :=
 (∃a cap,sv=.slice a 0 cap∧n=0)∨∃b off cap,sv=.slice (some ⟨b,off,none⟩) n cap∧b < n₀∧∀j u,news[j]?=some u→W.cell? ⟨b,off+j,none⟩=some u
theorem q88.below {n₀ n:Nat} {A B:World} (h:RowKit.Below n₀ A B) {sv:Value} {news:List Value}:q88 n₀ A sv n news→q88 n₀ B sv n news
 | .inl e=>.inl e
 | .inr ⟨b,off,cap,e,hb,hc⟩=>.inr ⟨b,off,cap,e,hb,fun j u hj=>(h.cell (p:=⟨b,off+j,none⟩) hb).trans (hc j u hj)⟩
variable {C:Cx} {Q:Exit→St→Prop} {st:St}
end Go.Ab
