/- -/
import Derived.StillTail
import Derived.Lib.Bytealg
import Derived.Deep.Slices
import Derived.ReadAgain
import Derived.ChangeArms
import Derived.ChangeSame
import Derived.RowKit
import Derived.RowKit3
import Derived.OpenShut
import Derived.JoinedCond
import Derived.KernelRfl
import Derived.Shelf.SlSortCmp.Kit1
import Derived.Sort.AssemblyPlain
import Derived.Laws.AppendOwn
import Derived.Below
import Derived.Shelf.SlicesE.Clone
import Derived.Sort.EncStr
import Derived.Shelf.GgSortFunc.RowK
import Derived.Shelf.SlSortCmp.InsertionK
import Derived.Lib.Repeat
import Derived.Shelf.Strings.Builder1
import Derived.Lib.AppendStr
import Derived.ProofKit
import Derived.Laws.IdiomCopy
import Derived.OrdersHeld
import Derived.Test.YtmlegeeinnkhkaaGreatA1
set_option linter.unusedVariables false
set_option linter.unusedSimpArgs false
open Array renaming ext'→vy9,ext_getElem?→v13,getElem?_append→vza,getElem?_eq_some_iff→vzb,getElem?_mapIdx→v14,getElem?_modify→v15,getElem?_setIfInBounds_ne→vzd,getElem?_toList→vze,length_toList→vzf,range→vzg,replicate→v16,toList_setIfInBounds→v17
open Bool renaming and_eq_true→vzm,eq_false_iff→v18,false_eq_true→vzo,not_eq_true'→vzq,or_eq_true→vzr
open Int renaming eq_ofNat_of_zero_le→v19
open Go.Lib renaming bitLen→v2a,run_eql_slice_nil→vzt
open List renaming all_eq_true→v2b,any_cons→v2c,any_eq_true→v2d,append_nil→vzx,cons_append→v2e,contains_iff_mem→v2f,eq_nil_of_length_eq_zero→vz2,ext_getElem?→vz3,flatMap_cons→v2g,getD_eq_getElem?_getD→v2h,getElem?_append_left→vz6,getElem?_append_right→vz7,getElem?_cons_succ→v2i,getElem?_cons_zero→v2j,getElem?_drop→vz8,getElem?_eq_getElem→vz9,getElem?_eq_none→v0a,getElem?_eq_some_iff→v0b,getElem?_map→v0c,getElem?_nil→v2k,getElem?_replicate→v0e,getElem?_set→v2l,getElem?_set_ne→v2m,getElem?_set_self→v2n,getElem?_take→v0f,getElem_mem→v2o,length_append→v0h,length_cons→v2p,length_drop→v0i,length_eq_zero_iff→v2q,length_filter_le→v2r,length_map→v0j,length_nil→v0k,length_pos_of_mem→v2s,length_range→v2t,length_set→v0m,length_singleton→v2u,length_take→v0n,map→v2v,map_append→v0o,map_congr_left→v2w,map_cons→v0p,map_nil→v0q,map_replicate→v2x,map_set→v2y,mem_append→v0r,mem_cons→v2z,mem_cons_of_mem→v21,mem_cons_self→v24,mem_filter→v28,mem_map→v3a,mem_mapIdx→v3b,mem_of_mem_take→v0v,mem_range→v3c,mem_singleton→v3d,mergeSort_perm→v3e,nil_append→v0y,range→v0z,range'→v3f,replicate→v01,size_toArray→v02,take_append_drop→v3g,take_of_length_le→v05,toArray→v3h
open Nat renaming add_zero→v1b,le_refl→v1f,le_succ→v1g,le_trans→v1h,lt_trichotomy→v3i,min_eq_left→v3j,mul_le_mul_right→v1m,strongRecOn→v3k,sub_self→v3l,sub_zero→v1p,testBit_shiftLeft→v3m,zero_add→v1q,zero_le→v3n
open Option renaming bind_eq_some_iff→v3o,bind_some→v1r,isSome_iff_exists→v1u,map_none→v3p,map_some→v1w
open Option.some renaming inj→v3q,injEq→v1x
open Prod.mk renaming injEq→v1y
open Go.Result renaming andThen_ok→v1z
open Go.Sem renaming run_bind→v11,run_pure→v12
noncomputable section
namespace Go.Ab
open Go
section
variable (P:Program) (B d':Nat) (ρ:Operand→AV) (d:Option Tmp) (ty:TypeId) (pos:String) (af:Array Edge) (g:Option (Nat×Bool))
theorem vmv (x:Operand):aop P B ρ ⟨d,.move x,ty,pos,af,g⟩=.ret (ρ x,none):=rfl
theorem vfg (x:Operand):aop P B ρ ⟨d,.assign x,ty,pos,af,g⟩=.ret (ρ x,none):=rfl
theorem vmw (c x y:Operand):aop P B ρ ⟨d,.pick c x y,ty,pos,af,g⟩=(match ρ c with | .p (.bool t)=>.ret (if t then ρ x else ρ y,none) | _=>.fail):=rfl
theorem vif (t:TypeId):aop P B ρ ⟨some d',.alloc t,ty,pos,af,g⟩=(match qb8 P t with
  | some z=>if z.cells.length=P.cellsOf t then vql P (B+d') t z else .fail
  | none=>.fail):=rfl
theorem vqo (t:TypeId) (x:Operand):aop P B ρ ⟨some d',.box t x,ty,pos,af,g⟩=vql P (B+d') t (ρ x):=rfl
theorem vig (t:TypeId) (qa3:List (Nat×Operand)):aop P B ρ ⟨d,.build t qa3.toArray,ty,pos,af,g⟩=qcz (.ofOpt (qlb P t (qa3.map fun p=>(p.1,ρ p.2)))):=rfl
theorem q3d (t:TypeId) (n:Nat) (qa3:List (Nat×Operand)):aop P B ρ ⟨some d',.buildSlice t n qa3.toArray,ty,pos,af,g⟩=qjg P (B+d') t n (qa3.map fun p=>(p.1,ρ p.2)):=rfl
theorem vmx (t:TypeId) (x:Operand):aop P B ρ ⟨d,.load t x,ty,pos,af,g⟩=qcz (q0q P t (ρ x)):=rfl
theorem vih (t:TypeId) (x y:Operand):aop P B ρ ⟨d,.store t x y,ty,pos,af,g⟩=q4a P t (ρ x) (ρ y):=rfl
theorem vii (op:BinOp) (t:TypeId) (x y:Operand) (yt:TypeId):aop P B ρ ⟨d,.binOp op t x y yt,ty,pos,af,g⟩=qcz (.ofOpt (vqk P op t (ρ x) (ρ y))):=rfl
theorem vmy (op:UnOp) (t:TypeId) (x:Operand):aop P B ρ ⟨d,.unOp op t x,ty,pos,af,g⟩=qcz (.ofOpt (unA op (ρ x))):=rfl
theorem vbx (s t:TypeId) (x:Operand):aop P B ρ ⟨d,.convert s t x,ty,pos,af,g⟩=qcz (q8k P s t (ρ x)):=rfl
theorem q81 (fn:Fn) (cap:List Operand):aop P B ρ ⟨d,.makeFunc fn (v3h []) cap.toArray,ty,pos,af,g⟩=.ret (q8e fn (cap.map ρ),none):=rfl
theorem q52 (t:TypeId) (l c:Operand):aop P B ρ ⟨some d',.makeSlice t l c,ty,pos,af,g⟩=qq1 P (B+d') t (ρ l) (ρ c):=rfl
theorem vij (t:TypeId) (x:Operand) (lo hi:Option Operand):aop P B ρ ⟨d,.slice t x lo hi none,ty,pos,af,g⟩=(match P.underlying t,qzl (lo.map ρ),qzl (hi.map ρ) with
  | some .string,some l,some h=>(match ρ x with | .p (.str _)=>qcz (qqx (ρ x) l h) | _=>.fail)
  | some (.slice e),some l,some h=>(match ρ x with | .p (.str _)=>.fail | _=>if qw4 P e=true then qcz (aop.sliceT P e (ρ x) l h) else .fail)
  | _,_,_=>.fail):=rfl
theorem vfh (t:TypeId) (x hi mx:Operand):aop P B ρ ⟨d,.slice t x none (some hi) (some mx),ty,pos,af,g⟩=(match P.underlying t,ρ x,ρ hi,ρ mx with
  | some (.slice e),.p (.slc es),.p (.int _ hi),.p (.int _ mx)=>if mx=hi∧0≤hi∧hi≤es.length∧qw4 P e=true then qcz (.ret (.p (.clip (es.take hi.toNat)))) else .fail
  | _,_,_,_=>.fail):=rfl
theorem q53 (s:TypeId) (x:Operand) (f:Nat):aop P B ρ ⟨d,.fieldAddr s x f,ty,pos,af,g⟩=qcz (.ofOpt (ql9 P s f (ρ x))):=rfl
theorem q54 (t:TypeId) (x ix:Operand):aop P B ρ ⟨d,.indexAddr t x ix,ty,pos,af,g⟩=(match q0r (ρ ix) with
  | some i=>qcz (qqy P t (ρ x) i)
  | none=>.fail):=rfl
theorem vik (t:TypeId) (x ix:Operand):aop P B ρ ⟨d,.index t x ix,ty,pos,af,g⟩=(match q0r (ρ ix) with
  | some i=>qcz (.ofOpt (q8i P t (ρ x) i))
  | none=>.fail):=rfl
theorem vby (t:TypeId):aop P B ρ ⟨some d',.makeMap t none,ty,pos,af,g⟩=qxa P (B+d') t:=rfl
theorem vfi (t:TypeId) (m k:Operand) (c:Bool):aop P B ρ ⟨d,.lookup t m k c,ty,pos,af,g⟩=qcz (q0v P t (ρ m) (ρ k) c):=rfl
theorem q55 (t:TypeId) (m k v:Operand):aop P B ρ ⟨d,.mapUpdate t m k v,ty,pos,af,g⟩=qv1 P t (ρ m) (ρ k) (ρ v):=rfl
theorem vfj (t:TypeId) (m k v:Operand):aop P B ρ ⟨d,.insert t m k v,ty,pos,af,g⟩=qv1 P t (ρ m) (ρ k) (ρ v):=rfl
theorem q82 (x:Operand):aop P B ρ ⟨d,.nilCheck x,ty,pos,af,g⟩=qcz (.ofOpt (vvj (ρ x))):=rfl
theorem vil (s:TypeId) (x:Operand) (f:Nat):aop P B ρ ⟨d,.field s x f,ty,pos,af,g⟩=qcz (.ofOpt (q8j P s f (ρ x))):=rfl
theorem vbz (x:Operand) (i:Nat):aop P B ρ ⟨d,.extract x i,ty,pos,af,g⟩=(match ρ x with
  | .p (.tup vs)=>qcz (.ofOpt ((vs[i]?).map .p))
  | .tup vs=>qcz (.ofOpt (vs[i]?))
  | _=>.fail):=rfl
theorem vqp (x:Operand) (t:TypeId):aop P B ρ ⟨d,.call ⟨.builtin .len,v3h [x],v3h [t]⟩,ty,pos,af,g⟩=if (P.underlying t).isSome then qcz (aop.lenT P t (ρ x)) else .fail:=rfl
theorem vim (x:Operand) (t:TypeId):aop P B ρ ⟨some d',.call ⟨.builtin .clear,v3h [x],v3h [t]⟩,ty,pos,af,g⟩=q4c P t (ρ x):=rfl
theorem vfk (x:Operand) (t:TypeId):aop P B ρ ⟨none,.call ⟨.builtin .clear,v3h [x],v3h [t]⟩,ty,pos,af,g⟩=q4c P t (ρ x):=rfl
theorem vfl (s x:Operand) (t u:TypeId):aop P B ρ ⟨some d',.call ⟨.builtin .append,v3h [s,x],v3h [t,u]⟩,ty,pos,af,g⟩=if t=u then qij P (B+d') t (ρ s) (ρ x) else .fail:=rfl
theorem vqq (xs:List Operand) (ts:Array TypeId):aop P B ρ ⟨d,.call ⟨.builtin .max,xs.toArray,ts⟩,ty,pos,af,g⟩=qcz (.ofOpt (vh1 vhz (xs.map ρ))):=rfl
theorem vqr (xs:List Operand) (ts:Array TypeId):aop P B ρ ⟨d,.call ⟨.builtin .min,xs.toArray,ts⟩,ty,pos,af,g⟩=qcz (.ofOpt (vh1 vh0 (xs.map ρ))):=rfl
theorem vmz (f:Operand) (xs:Array Operand) (ts:Array TypeId):aop P B ρ ⟨d,.call ⟨.value f,xs,ts⟩,ty,pos,af,g⟩=.fail:=rfl
end
theorem vfm (P:Program) (N B:Nat) (ops:Array Oper) (st:St):qsw P N B ops [] st=(st,[]):=rfl
def onR:Option (AV×Upd)→Go1
 | some (v,u)=>.on v u
 | none=>.stop
theorem vm0 (v:AV) (u:Upd):onR (some (v,u))=.on v u:=rfl
theorem vm1:onR none=.stop:=rfl
theorem vin (P:Program) (N B:Nat) (ops:Array Oper) (d:Option Tmp) (op:Op) (ty:TypeId) (pos:String) (af:Array Edge) (st:St) :
  go1 P N B ops ⟨d,op,ty,pos,af,none⟩ st=if qdm N ⟨d,op,ty,pos,af,none⟩ then onR ((aop P B (ev st.env) ⟨d,op,ty,pos,af,none⟩).run (qa4 st.heap)) else .stop:=by
 unfold go1 qbq onR;rfl
def onG (r:Option (AV×Upd)):Option Bool→Go1
 | some true=>onR r
 | some false=>.on (.p (.tup [])) none
 | none=>.stop
theorem vm2 (r:Option (AV×Upd)):onG r (some true)=onR r:=rfl
theorem vio (r:Option (AV×Upd)):onG r (some false)=.on (.p (.tup [])) none:=rfl
theorem vfn (N t:Nat) (op:Op) (ty:TypeId) (pos:String) (af:Array Edge) (g:Option (Nat×Bool)):qdm N ⟨some t,op,ty,pos,af,g⟩=decide (t < N):=rfl
theorem vfo (N:Nat) (op:Op) (ty:TypeId) (pos:String) (af:Array Edge) (g:Option (Nat×Bool)):qdm N ⟨none,op,ty,pos,af,g⟩=true:=rfl
def eqL (f:TypeId→List PV→List PV→Option Bool):List (Nat×Nat×Nat)→List PV→List PV→Option Bool
 | [],_,_=>some true
 | (t,o,n) :: r,xs,ys=>match f t ((xs.drop o).take n) ((ys.drop o).take n),eqL f r xs ys with
  | some a,some b=>some (a && b)
  | _,_=>none
theorem vpu (P : Program) (f : TypeId → List PV → List PV → Option Bool) : ∀ (fs : List Field) (xs ys : List PV), (fs.all fun g => g.name != "_") = true →
  vmn P f fs xs ys=eqL f (fs.map fun g=>(g.type,g.offset,P.cellsOf g.type)) xs ys
 | [],_,_,_=>rfl
 | g :: fs,xs,ys,h=>by
  simp only [List.all_cons,vzm,bne_iff_ne,ne_eq] at h;simp only [vmn,h.1,if_false,v0p,eqL,vpu P f fs xs ys h.2]
  all_goals rfl
theorem q4l (P : Program) {t : TypeId} {l : List (Nat × Nat × Nat)} (hu : P.underlying t = some (.struct (P.fieldsOf t))) (hs : P.stoodInHeld t = false) (hn : ((P.fieldsOf t).toList.all fun g => g.name != "_") = true)
  (hl:((P.fieldsOf t).toList.map fun g=>(g.type,g.offset,P.cellsOf g.type))=l) (d:Nat) (xs ys:List PV):eqT P (d+1) t xs ys=eqL (eqT P d) l xs ys:=by
 subst hl;unfold eqT;rw [hu];simp only [hs,vzo,if_false];exact vpu P _ _ xs ys hn
theorem vip (P:Program) {t:TypeId} {q:IntKind} (hu:P.underlying t=some (.int q)) (d:Nat) (k k':IntKind) (a b:Int):eqT P (d+1) t [.int k a] [.int k' b]=if k=k' then some (a == b) else none:=by
 unfold eqT;rw [hu]
theorem vqs (P:Program) {t:TypeId} (hu:P.underlying t=some .string) (d:Nat) (a b:List UInt8):eqT P (d+1) t [.str a] [.str b]=some (a == b):=by
 unfold eqT;rw [hu]
theorem vb0 (m:L AV) (σ:Nat→AO):(qcz m).run σ=(m.run σ).map fun v=>(v,none):=by
 unfold qcz;rw [L.run_bind'];cases m.run σ <;> rfl
section
variable (k:IntKind) (n:Int) (b:Bool) (l:List UInt8) (ps qs:List PV) (fn:Fn)
theorem vvm:(PV.int k n).cells=[.int k n]:=rfl
theorem vqt:(PV.bool b).cells=[.bool b]:=rfl
theorem vvn:(PV.str l).cells=[.str l]:=rfl
theorem vqu:PV.nilp.cells=[.nilp]:=rfl
theorem vqv:PV.nilf.cells=[.nilf]:=rfl
theorem vqw:PV.nili.cells=[.nili]:=rfl
theorem vqx:PV.nilm.cells=[.nilm]:=rfl
theorem vvo:(PV.slc ps).cells=[.slc ps]:=rfl
theorem vqy:(PV.nnil ps).cells=[.nnil ps]:=rfl
theorem vqz:(PV.clip ps).cells=[.clip ps]:=rfl
theorem vvp:(PV.imm ps).cells=[.imm ps]:=rfl
theorem vq0:(PV.mapv ps qs).cells=[.mapv ps qs]:=rfl
theorem vq1:(PV.func fn ps).cells=[.func fn ps]:=rfl
theorem vvq:(PV.agg ps).cells=ps:=rfl
theorem vvr:(PV.int k n).isAgg=false:=rfl
theorem vq2:(PV.bool b).isAgg=false:=rfl
theorem vvs:(PV.str l).isAgg=false:=rfl
theorem vq3:PV.nilp.isAgg=false:=rfl
theorem vq4:PV.nilf.isAgg=false:=rfl
theorem vq5:PV.nili.isAgg=false:=rfl
theorem vq6:PV.nilm.isAgg=false:=rfl
theorem vvt:(PV.slc ps).isAgg=false:=rfl
theorem vq7:(PV.nnil ps).isAgg=false:=rfl
theorem vq8:(PV.clip ps).isAgg=false:=rfl
theorem vvu:(PV.imm ps).isAgg=false:=rfl
theorem vq9:(PV.mapv ps qs).isAgg=false:=rfl
theorem vra:(PV.func fn ps).isAgg=false:=rfl
theorem vvv:(PV.agg ps).isAgg=true:=rfl
theorem vvw:(PV.int k n).isTup=false:=rfl
theorem vrb:(PV.bool b).isTup=false:=rfl
theorem vvx:(PV.str l).isTup=false:=rfl
theorem vrc:PV.nilp.isTup=false:=rfl
theorem vrd:PV.nilf.isTup=false:=rfl
theorem vre:PV.nili.isTup=false:=rfl
theorem vrf:PV.nilm.isTup=false:=rfl
theorem vvy:(PV.slc ps).isTup=false:=rfl
theorem vrg:(PV.nnil ps).isTup=false:=rfl
theorem vrh:(PV.clip ps).isTup=false:=rfl
theorem vvz:(PV.imm ps).isTup=false:=rfl
theorem vri:(PV.mapv ps qs).isTup=false:=rfl
theorem vrj:(PV.func fn ps).isTup=false:=rfl
theorem vv0:(PV.agg ps).isTup=false:=rfl
theorem vv1:(PV.tup ps).isTup=true:=rfl
theorem vv2:(PV.int k n).flat=true:=rfl
theorem vrk:(PV.bool b).flat=true:=rfl
theorem vv3:(PV.str l).flat=true:=rfl
theorem vrl:PV.nilp.flat=true:=rfl
theorem vv4:(PV.slc ps).flat=false:=rfl
theorem vv5:(PV.imm ps).flat=false:=rfl
theorem vv6:(PV.agg ps).flat=PV.flat.flatAll ps:=rfl
theorem vv7:(PV.tup ps).flat=PV.flat.flatAll ps:=rfl
theorem vv8:PV.flat.flatAll []=true:=rfl
theorem vrm (x:PV):PV.flat.flatAll (x :: ps)=(x.flat && PV.flat.flatAll ps):=rfl
end
attribute [go_sem] vvm vqt vvn vqu vqv vqw vqx vvo vqy vqz vvp vq0 vq1 vvq vvr vq2 vvs vq3 vq4 vq5 vq6 vvt vq7 vq8 vvu vq9 vra vvv vvw vrb vvx vrc vrd vre vrf vvy vrg vrh vvz vri vrj vv0 vv1 vv2 vrk vv3 vrl vv4 vv5 vv6 vv7 vv8 vrm
theorem hgetC (k:Nat) (o:AO) (r:List (Nat×AO)) (l:Nat):qa4 ((k,o) :: r) l=if k=l then o else qa4 r l:=rfl
theorem genD (g:Nat):(AO.dead g).gen=g:=rfl
theorem genA (e sz g:Nat) (es:List AV):(AO.arr e sz g es).gen=g:=rfl
theorem vrn (g:Nat) (ks vs:List AV):(AO.map g ks vs).gen=g:=rfl
theorem vv9 (g:Nat):(AO.dead g).alive=false:=rfl
theorem vwa (e sz g:Nat) (es:List AV):(AO.arr e sz g es).alive=true:=rfl
theorem vwb (g:Nat) (ks vs:List AV):(AO.map g ks vs).alive=true:=rfl
theorem hgetN (l:Nat):qa4 [] l=.dead 0:=rfl
attribute [go_sem] q82 vvj vby vfi q55 vfj vil qxa q0v qv1 qw9 vmq q4d quv vbn q0s AV.mapo.injEq q8j vmv vfg vmw vif vqo vig q3d vmx vih vii vmy vbx q81 q52 vij vfh q53 q54 vik vbz vqp vfl vim vfk q4c vqq vqr vmz vfm q03 vdl vfe vm0 vm1 vin vm2 vio vfn vfo vb0 L.run_ofOpt L.run_ret L.run_fail L.run_look L.run_bind' qbq ev ofV vpo Env.get qig qyu qqv hgetC hgetN vql vhx q0q q0d q8f q4a qw7 vbj ql9 qqy q0r q8i vmp q8k vh2 qzl qqx aop.sliceT aop.lenT vbk qqw qij qjf qnz qjg qq1 vqk binP vvi strA unA eqL vh1 ve7 vhz vh0 AV.cells AV.known AV.isAgg AV.one qog ve6 q8e qsu splice qv0 true_or or_true false_or or_false vl7 q04 q8x qby Le vmu qma vdn LeV q06 vmt vib vie vid q8z genD genA vrn vv9 vwa vwb St.sig PV.flat PV.flat.flatAll Ab.argsEnv qz5 qxf
end Go.Ab
namespace Go.Ab
open Go
theorem qhc (P:Program) (fs:Array Field) {l:List (Nat×Nat)} (h:(fs.toList.map fun f=>(f.offset,P.cellsOf f.type))=l) (j:Nat):qv0 P fs j=l[j]?:=by
 subst h;simp [qv0]
theorem qjp (P:Program) (t:TypeId) {z:AV} (hz:qb8 P t=some z) (hk:z.known=true) (hu:P.underlying t=some (.struct (P.fieldsOf t)))
  (hall:((P.fieldsOf t).toList.all fun f=>(P.info? f.type).isSome)=true) {pl:Nat→Option (Nat×Nat)} (hp:qv0 P (P.fieldsOf t)=pl) {qa3:List (Nat×AV)} :
  qlb P t qa3=(qnz pl z.cells qa3).map qog:=by
 unfold qlb;rw [hu,hz];simp only [hk,hall,Bool.and_self,if_true,hp]
theorem q4m (P:Program) (t:TypeId) {n:Nat} {e:TypeId} {z:AV} (hz:qb8 P t=some z) (hk:z.known=true) (hu:P.underlying t=some (.array n e))
  (he:(P.info? e).isSome=true) {c:Nat} (hc:P.cellsOf e=c) {qa3:List (Nat×AV)} :
  qlb P t qa3=(qnz (fun i=>some (i * c,c)) z.cells qa3).map qog:=by
 subst hc;unfold qlb;rw [hu,hz];simp only [hk,he,Bool.and_self,if_true]
theorem vpv (P:Program) (f:TypeId→List PV→List PV→Option Bool) (e c:Nat) (xs ys:List PV):∀l:List Nat,vpp (f e) c xs ys l=eqL f (l.map fun i=>(e,i * c,c)) xs ys
 | []=>rfl
 | i :: l=>by
  simp only [vpp,v0p,eqL,vpv P f e c xs ys l];rfl
theorem q83 (P:Program) {t:TypeId} {n:Nat} {e:TypeId} {l:List (Nat×Nat×Nat)} (hu:P.underlying t=some (.array n e)) (he:(P.info? e).isSome=true)
  (hl:((v0z n).map fun i=>(e,i * P.cellsOf e,P.cellsOf e))=l) (d:Nat) (xs ys:List PV):eqT P (d+1) t xs ys=eqL (eqT P d) l xs ys:=by
 subst hl;unfold eqT;rw [hu];simp only [he,if_true];exact vpv P (eqT P d) e (P.cellsOf e) xs ys _
theorem qaz {n:Int} (h1:-9223372036854775808≤n) (h2:n≤9223372036854775807):IntKind.i64.wrap n=n:=by
 simp only [IntKind.wrap,IntKind.signed,IntKind.bits];simp only [Bool.true_and,decide_eq_true_eq,ge_iff_le];rw [show ((2:Int) ^ (64 - 1))=9223372036854775808 from rfl,show ((2:Int) ^ 64)=18446744073709551616 from rfl];split <;> omega
theorem vro (D:Nat→Bool) (x:PV):qe8 D 9 (.p x)=.ret x:=rfl
theorem vfp (D:Nat→Bool):qe8 D 9 .nils=.ret (.slc []):=rfl
theorem viq (D:Nat→Bool) (cs:List AV):qe8 D 9 (.agg cs)=(qa1 (qe8 D 8) cs).bind fun xs=>.ret (.agg xs):=rfl
theorem vir (D:Nat→Bool) (cs:List AV):qe8 D 9 (.tup cs)=(qa1 (qe8 D 8) cs).bind fun xs=>.ret (.tup xs):=rfl
theorem vfq (D:Nat→Bool) (fn:Fn) (cs:List AV):qe8 D 9 (.func fn cs)=(qa1 (qe8 D 8) cs).bind fun xs=>.ret (.func fn xs):=rfl
theorem vrp (D:Nat→Bool) (x:PV):qe8 D 8 (.p x)=.ret x:=rfl
theorem vfr (D:Nat→Bool):qe8 D 8 .nils=.ret (.slc []):=rfl
theorem vis (D:Nat→Bool) (cs:List AV):qe8 D 8 (.agg cs)=(qa1 (qe8 D 7) cs).bind fun xs=>.ret (.agg xs):=rfl
theorem vrq (D:Nat→Bool) (x:PV):qe8 D 7 (.p x)=.ret x:=rfl
theorem vfs (D:Nat→Bool):qe8 D 7 .nils=.ret (.slc []):=rfl
theorem vit (D:Nat→Bool) (cs:List AV):qe8 D 7 (.agg cs)=(qa1 (qe8 D 6) cs).bind fun xs=>.ret (.agg xs):=rfl
theorem vrr (D:Nat→Bool) (x:PV):qe8 D 6 (.p x)=.ret x:=rfl
theorem vft (D:Nat→Bool):qe8 D 6 .nils=.ret (.slc []):=rfl
def qyv (D : Nat → Bool) (n l g off len : Nat) : L PV := if D l then .look l fun o => match o with
      | .arr _ _ g' es => if g = g' ∧ off + len ≤ es.length then (qa1 (qe8 D n) ((es.drop off).take len)).bind fun xs => .ret (.slc xs) else .fail
      | _ => .fail
    else .fail
def q56 (D : Nat → Bool) (n l g i off : Nat) : L PV := if D l then .look l fun o => match o with
      | .arr _ _ g' es => if g = g' then (match es[i]? with
        | some x => (qa1 (qe8 D n) (x.cells.drop off)).bind fun ys => .ret (.imm ys)
        | none => .fail) else .fail
      | _ => .fail
    else .fail
theorem viu (D:Nat→Bool) (l g off len:Nat):qe8 D 9 (.own l g off len)=qyv D 8 l g off len:=rfl
theorem viv (D:Nat→Bool) (l g off len:Nat):qe8 D 8 (.own l g off len)=qyv D 7 l g off len:=rfl
theorem viw (D:Nat→Bool) (l g off len:Nat):qe8 D 7 (.own l g off len)=qyv D 6 l g off len:=rfl
theorem vix (D:Nat→Bool) (l g i off:Nat):qe8 D 9 (.loc l g i off)=q56 D 8 l g i off:=rfl
theorem viy (D:Nat→Bool) (l g i off:Nat):qe8 D 8 (.loc l g i off)=q56 D 7 l g i off:=rfl
theorem viz (D:Nat→Bool) (l g i off:Nat):qe8 D 7 (.loc l g i off)=q56 D 6 l g i off:=rfl
theorem vfu (D:Nat→Bool) (xs:List PV):qa1 (qe8 D 9) (xs.map .p)=.ret xs:=qov D 8 xs
theorem vfv (D:Nat→Bool) (xs:List PV):qa1 (qe8 D 8) (xs.map .p)=.ret xs:=qov D 7 xs
theorem vfw (D:Nat→Bool) (xs:List PV):qa1 (qe8 D 7) (xs.map .p)=.ret xs:=qov D 6 xs
theorem vfx (D:Nat→Bool) (xs:List PV):qa1 (qe8 D 6) (xs.map .p)=.ret xs:=qov D 5 xs
theorem vb1 (f:AV→L PV):qa1 f []=.ret []:=rfl
theorem q84 (f:AV→L PV) (c:AV) (cs:List AV):qa1 f (c :: cs)=(f c).bind fun x=>(qa1 f cs).bind fun xs=>.ret (x :: xs):=rfl
attribute [go_sem] vro vfp viq vir vfq vrp vfr vis vrq vfs vit vrr vft viu viv viw vix viy viz qyv q56 vfu vfv vfw vfx vb1 q84 if_true if_false ite_true ite_false decide_true decide_false Bool.not_true Bool.not_false Bool.and_true Bool.true_and Bool.and_false Bool.false_and Bool.or_true Bool.true_or Bool.or_false Bool.false_or v0p v0q v2p v0k v0j v1w v3p v1r Option.bind_none v2j v2i v2k v2e v0y vzx List.drop_zero List.drop_succ_cons List.drop_nil List.take_zero List.take_succ_cons List.take_nil List.set_cons_zero List.set_cons_succ and_true true_and and_false false_and or_true true_or or_false false_or beq_self_eq_true vzo Bool.true_eq_false eq_self not_true_eq_false not_false_eq_true List.all_cons List.all_nil Option.isSome_some Option.isSome_none Option.getD_some Option.getD_none Int.toNat_natCast v2c List.any_nil AV.loc.injEq AV.own.injEq AV.p.injEq PV.int.injEq PV.bool.injEq PV.str.injEq PV.slc.injEq PV.agg.injEq PV.tup.injEq v1x v1y List.cons.injEq List.countP_nil Int.natCast_zero implies_true forall_const
end Go.Ab
namespace Go.Ab
variable {D:Prop}
open Go
theorem q85 (P:Program) (B:Nat) {ρ ρ':Operand→AV} (o:Oper) (h:∀x∈o.op.operands,ρ x=ρ' x):aop P B ρ o=aop P B ρ' o:=by
 obtain ⟨dst,op,type,pos,after,guard⟩:=o;have pairs:∀ps:Array (Nat×Operand),(∀x∈ps.toList.map (·.2),ρ x=ρ' x)→(ps.toList.map fun p=>(p.1,ρ p.2))=(ps.toList.map fun p=>(p.1,ρ' p.2)):=fun ps hp =>
  v2w fun p hm=>by rw [hp p.2 (v3a.2 ⟨p,hm,rfl⟩)]
 cases op <;> simp only [Op.operands] at h <;> simp only [aop]
 case move x=>rw [h x (by simp)]
 case assign x=>rw [h x (by simp)]
 case pick c x y=>rw [h c (by simp),h x (by simp),h y (by simp)]
 case box t x=>rw [h x (by simp)]
 case build t ps=>rw [pairs ps fun x hx=>h x (by simpa using hx)]
 case buildSlice t n ps=>rw [pairs ps fun x hx=>h x (by simpa using hx)]
 case load t x=>rw [h x (by simp)]
 case store t x y=>rw [h x (by simp),h y (by simp)]
 case binOp op t x y yt=>rw [h x (by simp),h y (by simp)]
 case unOp op t x=>rw [h x (by simp)]
 case convert s d x=>rw [h x (by simp)]
 case makeFunc fn first captured =>
  have e:captured.toList.map ρ=captured.toList.map ρ':=v2w fun x hx=>h x (by simp at hx ⊢;exact .inr hx)
  rw [e]
 case makeSlice t l c=>rw [h l (by simp),h c (by simp)]
 case slice t x lo hi mx =>
  cases mx with
  | some m =>
   cases lo with
   | some l=>rfl
   | none=>cases hi with
    | none=>rfl
    | some hi=>simp only [aop];rw [h x (by simp),h hi (by simp),h m (by simp)]
  | none =>
   have e1:lo.map ρ=lo.map ρ':=by cases lo <;> simp;exact h _ (by simp)
   have e2:hi.map ρ=hi.map ρ':=by cases hi <;> simp;exact h _ (by simp)
   simp only [aop];rw [h x (by simp),e1,e2]
 case fieldAddr s x f=>rw [h x (by simp)]
 case indexAddr t x ix=>rw [h x (by simp),h ix (by simp)]
 case index t x ix=>rw [h x (by simp),h ix (by simp)]
 case makeMap t r=>cases r <;> rfl
 case lookup t m k c=>rw [h m (by simp),h k (by simp)]
 case mapUpdate t m k v=>rw [h m (by simp),h k (by simp),h v (by simp)]
 case insert t m k v=>rw [h m (by simp),h k (by simp),h v (by simp)]
 case field s x f=>rw [h x (by simp)]
 case nilCheck x=>rw [h x (by simp)]
 case extract x i=>rw [h x (by simp)]
 case call c =>
  obtain ⟨callee,args,argTypes⟩:=c;cases callee with
  | value f=>rfl
  | invoke r m=>rfl
  | builtin b =>
   have ha:∀x∈args.toList,ρ x=ρ' x:=fun x hx=>h x (by simpa [Call.operands] using hx)
   have e:args.toList.map ρ=args.toList.map ρ':=v2w ha;cases b <;> simp only [aop]
   case len =>
    split
    ·rename_i x t hxs hts;rw [ha x (by rw [hxs];simp)]
    ·rfl
   case append =>
    split
    ·rename_i s x t u hxs hts;rw [ha s (by rw [hxs];simp),ha x (by rw [hxs];simp)]
    ·rfl
   case clear =>
    split
    ·rename_i x t hxs hts;rw [ha x (by rw [hxs];simp)]
    ·rfl
   case max=>rw [e]
   case min=>rw [e]
structure Evt where
 v:AV
 u:Upd
 reads:List Nat
def Evt.wr (e:Evt):Option Nat:=e.u.map (·.1)
def qlh (ρ:Operand→AV) (f:Operand) (args:List Operand):Option (FuncId×List AV) :=
 match ρ f with
 | .p (.func (.func k) cs)=>some (k,args.map ρ++cs.map .p)
 | .func (.func k) cs=>some (k,args.map ρ++cs)
 | _=>none
structure Cln (P:Program) (k:FuncId) (e sz by':Nat):Prop where
 body:HasBody P k
 ptr:∀(b off n c:Nat) (news:List Value) (w:World),news.length=n * sz→n≤maxLen→n * by'≤140737488355328→(∀j u,news[j]?=some u→w.cell? ⟨b,off+j,none⟩=some u)→(∀u∈news,u.oneCell'=true) →
  Calls P k #[.slice (some ⟨b,off,none⟩) n c] w fun e' w'=>∃v,e'=.returned v∧w'.ownsRow w.heap.size e sz v n news∧RowKit.Below w.heap.size w w'
 zero:∀(a:Addr) (c:Nat) (w:World),Calls P k #[.slice (some a) 0 c] w fun e' w'=>∃v,e'=.returned v∧w'.ownsRow w.heap.size e sz v 0 []∧RowKit.Below w.heap.size w w'
 nil:∀(n c:Nat) (w:World),Calls P k #[.slice none n c] w fun e' w'=>e'=.returned (.slice none 0 0)∧w'=w
inductive Does (C:Cx) (o:Oper) (ρ:Operand→AV) (σ:Nat→AO):Evt→Prop
 | op {v u} (h:(aop C.P C.B ρ o).run σ=some (v,u)):Does C o ρ σ ⟨v,u,(aop C.P C.B ρ o).reads σ⟩
 | call {f args ats k avs pargs r} (hp:vvl C.D C.P k pargs r) (ho:o.op=.call ⟨.value f,args,ats⟩) (hk:HasBody C.P k) (hc:qlh ρ f args.toList=some (k,avs))
   (hv:(qa1 (qe8 (fun _=>true) 9) avs).run σ=some pargs) (hfl:(qsu avs).isSome=true∨r.flat=true) :
   Does C o ρ σ ⟨.p r,none,(qa1 (qe8 (fun _=>true) 9) avs).reads σ⟩
 | built {t len qa3 v u x} (ho:o.op=.buildSlice t len qa3) (h:(aop C.P C.B ρ o).run σ=some (v,u)) (hv:(qe8 (fun l=>l == qm7 C.B o) 9 v).run (upd σ u)=some x) :
   Does C o ρ σ ⟨.p x,none,(aop C.P C.B ρ o).reads σ++(qe8 (fun l=>l == qm7 C.B o) 9 v).reads (upd σ u)⟩
 | cloned {f args ats k e sz by' g xs} (S:Cln C.P k e sz by') (hw:¬C.D) (ho:o.op=.call ⟨.value f,args,ats⟩) (hc:qlh ρ f args.toList=some (k,[.p (.slc xs)]))
   (hel:(xs.map AV.p).all (qjf sz)=true) (hn:xs.length≤maxLen) (hby:xs.length * by'≤140737488355328) (hg:σ (qm7 C.B o)=.dead g) :
   Does C o ρ σ ⟨.own (qm7 C.B o) (g+1) 0 xs.length,some (qm7 C.B o,.arr e sz (g+1) (xs.map AV.p)),[qm7 C.B o]⟩
theorem q08 {X:Nat→Prop} {inj:Inj} {P:Program} {σ:Nat→AO} {w:World} (h:HR X inj σ w) {k:Nat} {t:TypeId} {len:Nat} {qa3:List (Nat×AV)} {vparts:Array (Nat×Value)} {r:AV} {up:Upd} (hp:PartsR X inj σ w qa3 vparts.toList)
  (hr:(qjg P k t len qa3).run σ=some (r,up)) :
  ∃cs e,(Instr.buildSlice t len vparts).run P w=.ok (.slice (some ⟨w.heap.size,0,none⟩) len len) (w.alloc (.cells cs e)):=by
 unfold qjg at hr;split at hr
 case h_2=>simp at hr
 rename_i e hu;split at hr
 case isFalse=>simp at hr
 rename_i hc;obtain ⟨hfst,hall,hsm,hpos,hmx,hzs⟩:=hc;obtain ⟨i,z,hi,hz,hzl',his,hib⟩:=qyq hzs;obtain ⟨hf,hars⟩:=hp.fst;obtain ⟨hsz,hone⟩:=ql8 hall hars;have hlen:(vparts.toList.map (·.2)).length=len:=by
  have:=congrArg List.length (hf ▸ hfst);simpa using this
 have hdense:vparts.toList=((vparts.toList.map (·.2)).zipIdx 0).map fun x=>(x.2,x.1):=q8v 0 (by rw [←hf,hfst,List.range_eq_range'])
 have hflen:(flat (vparts.toList.map (·.2))).length=len * P.cellsOf e:=by rw [qbm hsz,hlen]
 refine ⟨(flat (vparts.toList.map (·.2))).toArray,e,?_⟩;by_cases h0:len * P.cellsOf e=0
 ·have hl0:len=0:=by
   rcases Nat.mul_eq_zero.1 h0 with h1 | h1
   ·exact h1
   ·omega
  have hfl0:flat (vparts.toList.map (·.2))=[]:=vz2 (by rw [hflen,h0]);have hv0:vparts.toList=[]:=vz2 (by rw [hl0] at hlen;simpa using hlen);have hv1:vparts=#[]:=by apply vy9;simpa using hv0
  subst hl0;subst hv1;simp [Instr.buildSlice,run_underlying hu,sizeOf,typeInfo,hi,Instr.fill,newRow,flat];rw [show vzg 0=#[] from by simp [vzg]];simp
 ·have hw:=Great.fill_whole (s:=P.cellsOf e) hpos (vparts.toList.map (·.2)) ((vzg (len * P.cellsOf e)).map (z.cells[· % z.cells.size]!)) hsz (by rw [hlen];simp);rw [←hdense] at hw;have:=run_buildSlice (P:=P) w t e len vparts _ i z hu hi hz (by rw [his];omega) (by rw [his];exact h0) (by rw [his];exact hw);rw [this];rfl
theorem Fr.alloc (w:World) (c:Array Value) (t:TypeId):Fr D w (w.alloc (.cells c t)):=by
 have hh:(w.alloc (.cells c t)).heap=w.heap.push (.cells c t):=rfl;refine ⟨rfl,rfl,rfl,fun _=>v1f _,by rw [hh,Array.size_push];omega,fun a _=>qte w c t a,fun b hb=>?_⟩;rw [hh,Array.getElem?_push,if_neg (Nat.ne_of_lt hb)]
theorem vb2 {σ:Nat→AO} {u:Upd} {l:Nat} (h:u.map (·.1)≠some l):upd σ u l=σ l:=by
 cases u with
 | none=>rfl
 | some p=>simp only [upd,qpm];rw [if_neg (fun e=>h (by simp [e]))]
theorem vrs {σ τ:Nat→AO} {u:Upd} {l:Nat} (h:u.map (·.1)=some l):upd σ u l=upd τ u l:=by
 cases u with
 | none=>cases h
 | some p=>simp only [v1w,v1x] at h;simp [upd,qpm,h]
theorem Does.frame {C:Cx} {o:Oper} {ρ ρ':Operand→AV} {σ τ:Nat→AO} {e:Evt} (h:Does C o ρ σ e) (hρ:∀x∈o.op.operands,ρ x=ρ' x) (hσ:∀l∈e.reads,τ l=σ l):Does C o ρ' τ e:=by
 cases h with
 | @op v u h =>
  rw [q85 C.P C.B o hρ] at h hσ ⊢;obtain ⟨h1,h2⟩:=L.frame _ h hσ;rw [←h2];exact .op h1
 | @call f args ats k avs pargs r hp ho hk hc hv hfl =>
  have hf:ρ f=ρ' f:=hρ f (by rw [ho];simp [Op.operands,Call.operands]);have ha:args.toList.map ρ=args.toList.map ρ':=v2w fun x hx=>hρ x (by rw [ho];simp [Op.operands,Call.operands] at hx ⊢;exact .inr hx)
  have hc':qlh ρ' f args.toList=some (k,avs):=by
   unfold qlh at hc ⊢;rw [←hf,←ha];exact hc
  obtain ⟨h1,h2⟩:=L.frame _ hv hσ;rw [←h2];exact .call hp ho hk hc' h1 hfl
 | @built t len qa3 v u x ho h hv =>
  rw [q85 C.P C.B o hρ] at h hσ ⊢;obtain ⟨h1,h2⟩:=L.frame _ h fun l hl=>hσ l (v0r.2 (.inl hl))
  have hσ2:∀l∈(qe8 (fun l=>l == qm7 C.B o) 9 v).reads (upd σ u),upd τ u l=upd σ u l:=fun l hl=>by
   by_cases hw:u.map (·.1)=some l
   ·exact vrs hw
   ·rw [vb2 hw,vb2 hw];exact hσ l (v0r.2 (.inr hl))
  obtain ⟨h3,h4⟩:=L.frame _ hv hσ2;rw [←h2,←h4];exact .built ho h1 h3
 | @cloned f args ats k e sz by' g xs S hw ho hc hel hn hby hg =>
  have hf:ρ f=ρ' f:=hρ f (by rw [ho];simp [Op.operands,Call.operands]);have ha:args.toList.map ρ=args.toList.map ρ':=v2w fun x hx=>hρ x (by rw [ho];simp [Op.operands,Call.operands] at hx ⊢;exact .inr hx)
  have hc':qlh ρ' f args.toList=some (k,[.p (.slc xs)]):=by
   unfold qlh at hc ⊢;rw [←hf,←ha];exact hc
  exact .cloned S hw ho hc' hel hn hby (by rw [hσ _ (by simp)];exact hg)
structure SRf (C:Cx) (ef:Nat→AV) (σ:Nat→AO) (inj:Inj) (a:Act) (w:World):Prop where
 env:∀t,AR C.X inj σ w (ef t) (a.tmps.getD t undef)
 size:a.tmps.size=C.N
 defers:a.defers=[]
 hr:HR C.X inj σ w
 ev:Ev C.D C.X C.inj0 (qa4 C.H0) C.w0 inj σ w
def evf (ef:Nat→AV):Operand→AV
 | .tmp t=>ef t
 | .const v=>ofV v
 | .func f=>.p (.func (.func f) [])
 | .global _=>.any
theorem q57 (env:Env):evf env.get=ev env:=by funext x;cases x <;> rfl
theorem SRf.eval {C:Cx} {ef:Nat→AV} {σ:Nat→AO} {inj:Inj} {a:Act} {w:World} (h:SRf C ef σ inj a w) (x:Operand):AR C.X inj σ w (evf ef x) (a.eval x):=by
 cases x with
 | tmp t=>exact h.env t
 | const v=>exact qzm v
 | global g=>trivial
 | func f=>exact ⟨[],rfl,rfl⟩
def q0h (ef:Nat→AV) (d:Option Tmp) (v:AV):Nat→AV:=fun t=>if d=some t then v else ef t
theorem SRf.put {C:Cx} {ef:Nat→AV} {σ:Nat→AO} {inj:Inj} {a:Act} {w:World} (h:SRf C ef σ inj a w) {o:Oper} (hd:qdm C.N o=true) {v:AV} {val:Value} {u:Upd} {inj':Inj} {w':World}
  (h1:HR C.X inj' (upd σ u) w') (h2:Ev C.D C.X inj σ w inj' (upd σ u) w') (h3:AR C.X inj' (upd σ u) w' v val) :
  SRf C (q0h ef o.dst v) (upd σ u) inj' (a.put o.dst val) w':=by
 refine ⟨fun t=>?_,?_,?_,h1,h.ev.trans h2⟩
 ·unfold q0h;cases hdst:o.dst with
  | none=>simpa [Act.put] using AR.ev h2 h.hr.xlt _ _ (h.env t)
  | some d =>
   simp only [qdm,hdst,decide_eq_true_eq] at hd;simp only [Act.put,v1x];by_cases ht:d=t
   ·subst ht;rw [if_pos rfl];have:(a.tmps.setIfInBounds d val).getD d undef=val:=by simp [h.size,hd]
    rw [this];exact h3
   ·rw [if_neg ht];have:(a.tmps.setIfInBounds d val).getD t undef=a.tmps.getD t undef:=by simp [vzd ht]
    rw [this];exact AR.ev h2 h.hr.xlt _ _ (h.env t)
 ·cases hdst:o.dst <;> simp [Act.put,h.size]
 ·cases hdst:o.dst <;> simp [Act.put,h.defers]
theorem Does.sound {C:Cx} {ef:Nat→AV} {σ:Nat→AO} {inj:Inj} {a:Act} {w:World} {o:Oper} {e:Evt} {next:Act→World→Prop} {Q:Exit→Act→World→Prop}
  (h:Does C o (evf ef) σ e) (hs:SRf C ef σ inj a w) (hd:qdm C.N o=true) (hnx:∀a' w' inj',SRf C (q0h ef o.dst e.v) (upd σ e.u) inj' a' w'→next a' w'):o.wp C.P a w next Q:=by
 cases h with
 | @op v u h =>
  exact vh6 C.B o (evf ef) hs.hr (fun x=>hs.eval x) h fun val w' inj' h1 h2 h3=>hnx _ _ _ (hs.put hd h1 h2.weak.weak h3)
 | @call f args ats k avs pargs r hp ho hk hc hv hfl =>
  have hf:=hs.eval f;have hargs:=qv4 (fun x=>hs.eval x) args.toList;have hcall:∃vs,(execOp a.eval o).run C.P w=.ok (.enter k vs.toArray) w∧ARs C.X inj σ w avs vs:=by
   obtain ⟨dst,op,type,pos,after,guard⟩:=o;simp only at ho;subst ho;unfold qlh at hc;have run:∀cap:Array Value,a.eval f=.func (.func k) #[] cap→(execOp a.eval ⟨dst,.call ⟨.value f,args,ats⟩,type,pos,after,guard⟩).run C.P w=.ok (.enter k (args.map a.eval++cap)) w:=by
    intro cap he;simp only [execOp,resolve,Deferred.ofValue,he,v11,v12,v1z,invoke];rw [hk];simp
   split at hc
   ·rename_i k' cs hev;simp only [v1x,v1y] at hc;obtain ⟨rfl,rfl⟩:=hc;rw [hev] at hf;obtain ⟨vs,h1,h2⟩:=hf;refine ⟨args.toList.map a.eval++vs,?_,hargs.append (qcn.2 h2)⟩;rw [run vs.toArray h1];congr 2;apply vy9;simp
   ·rename_i k' cs hev;simp only [v1x,v1y] at hc;obtain ⟨rfl,rfl⟩:=hc;rw [hev] at hf;obtain ⟨vs,h1,h2⟩:=hf;refine ⟨args.toList.map a.eval++vs,?_,hargs.append h2⟩;rw [run vs.toArray h1];congr 2;apply vy9;simp
   ·cases hc
  obtain ⟨vs,hrun,hars⟩:=hcall;unfold Oper.wp;rw [hrun];simp only [Oper.upon];rcases hfl with hfl | hfl
  ·obtain ⟨xs,hxs⟩:=v1u.1 hfl;have hav:=qyp hxs;subst hav;rw [qov] at hv;simp only [L.run_ret,v1x] at hv;subst hv;refine (hp (fun b=>C.X b∨F inj σ b) w vs (fun b hb=>hb.elim (hs.hr.xlt b) fun hf=>(hs.hr.flt hf).1) (qvu hs.ev) (qcn.1 hars)).mono ?_;rintro e w' ⟨v,rfl,h1,h2⟩;exact hnx _ _ inj (hs.put (u:=none) hd (hs.hr.fr h2) h2.ev h1)
  ·have hpr:=qex (qf5 hs.hr (fun _=>true) 9) avs vs pargs hars hv;have hpr':PRs C.X w pargs vs:=PRs.keep ⟨v1f _,fun _ _ _=>rfl,fun b _ hx hn=>hx (.inl hn)⟩ pargs vs hpr;refine (hp C.X w vs hs.hr.xlt ((qvu hs.ev).keep ⟨v1f _,fun _ _ _=>rfl,fun b _ hx hn=>hx (.inl hn)⟩) hpr').mono ?_;rintro e w' ⟨v,rfl,h1,h2⟩;exact hnx _ _ inj (hs.put (u:=none) hd (hs.hr.fr h2) h2.ev (PR.flat r v hfl h1))
 | @built t len qa3 v u x ho h hv =>
  obtain ⟨dst,op,type,pos,after,guard⟩:=o;simp only at ho;subst ho;have hr:(qjg C.P (qm7 C.B ⟨dst,.buildSlice t len qa3,type,pos,after,guard⟩) t len (qa3.toList.map fun p=>(p.1,evf ef p.2))).run σ=some (v,u):=h;have hp:PartsR C.X inj σ w (qa3.toList.map fun p=>(p.1,evf ef p.2)) (qa3.map fun p=>(p.1,a.eval p.2)).toList:=by simpa using qul (fun x=>hs.eval x) qa3.toList
  obtain ⟨val,w',inj',h1,h2,h3,h4⟩:=qq4 (P:=C.P) (D:=C.D) hs.hr hp hr;obtain ⟨cs,e,h5⟩:=q08 (P:=C.P) hs.hr hp hr;rw [h5] at h1;simp only [Result.ok.injEq] at h1;obtain ⟨rfl,rfl⟩:=h1;have hfr:Fr C.D w (w.alloc (.cells cs e)):=Fr.alloc w _ _;have hx0:=qf5 h2 (fun l=>l == qm7 C.B ⟨dst,.buildSlice t len qa3,type,pos,after,guard⟩) 9 v _ x h4 hv;have hx:AR C.X inj σ (w.alloc (.cells cs e)) (.p x) (Value.slice (some ⟨w.heap.size,0,none⟩) len len):=by
   refine PR.keep ⟨v1f _,fun _ _ _=>rfl,fun b _ hx hn=>hx ?_⟩ x _ hx0;rcases hn with hn | hn
   ·exact .inl hn
   ·refine .inr ?_;obtain ⟨l,c,o,g1,g2,g3,g4⟩:=hn;have hw:∃g,σ (qm7 C.B ⟨dst,.buildSlice t len qa3,type,pos,after,guard⟩)=.dead g∧u.map (·.1)=some (qm7 C.B ⟨dst,.buildSlice t len qa3,type,pos,after,guard⟩):=by
     unfold qjg at hr;split at hr
     case h_2=>simp at hr
     split at hr
     case isFalse=>simp at hr
     obtain ⟨g,q1,_,q3⟩:=q50 hr;exact ⟨g,q1,by rw [q3];rfl⟩
    obtain ⟨g,q1,q2⟩:=hw;have hne:l≠qm7 C.B ⟨dst,.buildSlice t len qa3,type,pos,after,guard⟩:=fun he=>by
     subst he;rw [q1] at g1;subst g1;cases g2
    have hu':upd σ u l=σ l:=vb2 (by rw [q2];intro he;exact hne (by simpa using he.symm));have ho:=(h3.objs l).2;rw [hu',g1] at ho;refine ⟨l,c,o,by rw [hu',g1],g2,by simpa using hne,?_⟩;rw [(ho g2 rfl).1];exact g4
  have e':(qa3.map fun p=>(p.1,a.eval p.2))=(qa3.map fun (i,x)=>(i,a.eval x)):=rfl;rw [e'] at h5;have he:execOp a.eval ⟨dst,.buildSlice t len qa3,type,pos,after,guard⟩=(do pure (Next.value (←Instr.buildSlice t len (qa3.map fun (i,x)=>(i,a.eval x))))):=by
   simp only [execOp]
  exact qzn he h5 (hnx _ _ inj (hs.put (u:=none) hd (hs.hr.fr hfr) hfr.ev hx))
 | @cloned f args ats k e sz by' g xs S hw ho hc hel hn hby hg =>
  have hf:=hs.eval f;have hargs:=qv4 (fun x=>hs.eval x) args.toList;obtain ⟨avs,havs⟩:∃avs,avs=[AV.p (.slc xs)]:=⟨_,rfl⟩;rw [←havs] at hc;have hnext:=hnx;have hk:HasBody C.P k:=S.body;have hcall:∃vs,(execOp a.eval o).run C.P w=.ok (.enter k vs.toArray) w∧ARs C.X inj σ w avs vs:=by
   obtain ⟨dst,op,type,pos,after,guard⟩:=o;simp only at ho;subst ho;unfold qlh at hc;have run:∀cap:Array Value,a.eval f=.func (.func k) #[] cap→(execOp a.eval ⟨dst,.call ⟨.value f,args,ats⟩,type,pos,after,guard⟩).run C.P w=.ok (.enter k (args.map a.eval++cap)) w:=by
    intro cap he;simp only [execOp,resolve,Deferred.ofValue,he,v11,v12,v1z,invoke];rw [hk];simp
   split at hc
   ·rename_i k' cs hev;simp only [v1x,v1y] at hc;obtain ⟨rfl,rfl⟩:=hc;rw [hev] at hf;obtain ⟨vs,h1,h2⟩:=hf;refine ⟨args.toList.map a.eval++vs,?_,hargs.append (qcn.2 h2)⟩;rw [run vs.toArray h1];congr 2;apply vy9;simp
   ·rename_i k' cs hev;simp only [v1x,v1y] at hc;obtain ⟨rfl,rfl⟩:=hc;rw [hev] at hf;obtain ⟨vs,h1,h2⟩:=hf;refine ⟨args.toList.map a.eval++vs,?_,hargs.append h2⟩;rw [run vs.toArray h1];congr 2;apply vy9;simp
   ·cases hc
  obtain ⟨vs,hrun,hars⟩:=hcall;rw [havs] at hars;unfold Oper.wp;rw [hrun];simp only [Oper.upon];obtain ⟨v1,r1,rfl,ha1,rfl⟩:=hars;have ha2:PR (fun b=>C.X b∨F inj σ b) w (.slc xs) v1:=ha1;simp only [PR] at ha2;obtain ⟨a0,cap,us,rfl,hcap,hus,hat⟩:=ha2;have hus':ARs C.X inj σ w (xs.map AV.p) us:=qcn.2 hus;obtain ⟨hsz,hone⟩:=ql8 hel hus';have hlen:us.length=xs.length:=by have:=hus'.length;simpa using this.symm
  have hfl:(flat us).length=xs.length * sz:=by rw [qbm hsz,hlen]
  have fin:∀v w',World.ownsRow w' w.heap.size e sz v xs.length (flat us)→RowKit.Below w.heap.size w w'→next (a.put o.dst v) w':=by
   intro v w' hrow hbel;have hfz:∀a:Addr,a.block < w.heap.size→w'.frozen? a=w.frozen? a:=fun a ha=>by unfold World.frozen?;rw [hbel.block _ ha]
   obtain ⟨_,hrow⟩:=hrow;rcases hrow with ⟨rfl,hz⟩ | ⟨gb,cp,cur,rfl,hbase,hgb,q1,q2,q3,q4⟩
   ·have hxs:xs=[]:=v2q.1 hz;have hup:=hs.hr.update (D:=C.D) (w':=w') (l:=qm7 C.B o) (o:=.dead g) (o':=.arr e sz (g+1) (xs.map AV.p)) (x:=none) hg hbel.os hbel.tape hbel.output (fun hd=>absurd hd hw) hbel.size hfz
     (fun b hb _=>hbel.block b hb) (fun b1 c1 h1=>by cases h1) ⟨by simp [AO.gen],fun _ he=>by simp [AO.gen] at he⟩
    obtain ⟨hev,hhr⟩:=hup;refine hnext _ _ _ (hs.put (u:=some (qm7 C.B o,.arr e sz (g+1) (xs.map AV.p))) hd (hhr ⟨us,ARs.ev hev hs.hr.xlt _ us hus',hsz,hone,.inl ⟨by simp,by rw [hxs];rfl⟩⟩) hev ?_);refine ⟨⟨_,_,_,rfl⟩,fun oo hoo=>?_⟩;have:oo=.arr e sz (g+1) (xs.map AV.p):=by rw [←hoo];exact qfu _ _ _
    subst this;exact ⟨v1f _,fun _ e1 sz1 es1 he=>by cases he;exact ⟨by simp,.inl ⟨by simp,rfl,rfl,hz⟩⟩⟩
   ·have hup:=hs.hr.update (D:=C.D) (w':=w') (l:=qm7 C.B o) (o:=.dead g) (o':=.arr e sz (g+1) (xs.map AV.p)) (x:=some (gb,cp)) hg hbel.os hbel.tape hbel.output (fun hd=>absurd hd hw) hbel.size hfz
     (fun b hb _=>hbel.block b hb) (fun b1 c1 h1=>by cases h1;exact .inl hbase) ⟨by simp [AO.gen],fun _ he=>by simp [AO.gen] at he⟩
    obtain ⟨hev,hhr⟩:=hup;have hH:=hhr ⟨us,ARs.ev hev hs.hr.xlt _ us hus',hsz,hone,.inr ⟨gb,cp,cur,by simp,fun hX=>by have:=hs.hr.xlt gb hX;omega,hgb,by simpa using q1,q2,q3,by simpa using q4⟩⟩;refine hnext _ _ _ (hs.put (u:=some (qm7 C.B o,.arr e sz (g+1) (xs.map AV.p))) hd hH hev ?_);have hown:vmm (fun q=>if q=qm7 C.B o then some (gb,cp) else inj q) (qpm σ (qm7 C.B o) (.arr e sz (g+1) (xs.map AV.p))) (qm7 C.B o) (g+1) 0 xs.length (.slice (some ⟨gb,0,none⟩) xs.length cp):=qpu (qfu _ _ _) (if_pos rfl) (by simp) q1;exact hown
  rcases hat with rfl | ⟨b,off,sz',rfl,hsz2,hone2,hrow⟩
  ·have hx0:xs.length=0:=by rw [←hlen];rfl
   cases a0 with
   | none =>
    refine (S.nil _ _ w).mono ?_;rintro e' w' ⟨rfl,rfl⟩;exact fin _ _ (by rw [hx0];exact ⟨by simp [flat],.inl ⟨rfl,rfl⟩⟩) (RowKit.Below.refl _ _)
   | some ad =>
    rw [hx0];refine (S.zero ad _ w).mono ?_;rintro e' w' ⟨v,rfl,h1,h2⟩;exact fin _ _ (by rw [hx0];exact h1) h2
  ·obtain ⟨_,_,hcell⟩:=hrow;refine (S.ptr b off _ _ (flat us) w hfl hn hby hcell hone).mono ?_;rintro e' w' ⟨v,rfl,h1,h2⟩;exact fin _ _ h1 h2
def qzo (ops:Array Oper) (ef:Nat→AV) (o:Oper):Option Bool :=
 match o.guard with
 | none=>some true
 | some (j,want)=>match (ops[j]?).bind (·.dst) with
  | some d=>(match ef d with | .p (.bool b)=>some (b == want) | .p (.tup [])=>some false | _=>none)
  | none=>none
theorem qum (ops:Array Oper) (env:Env) (o:Oper):qzo ops env.get o=qbq ops env o:=rfl
theorem qpx {C:Cx} {ef:Nat→AV} {σ:Nat→AO} {inj:Inj} {a:Act} {w:World} {ops:Array Oper} {o:Oper} {b:Bool} (h:SRf C ef σ inj a w) (hg:qzo ops ef o=some b) :
  Region.wanted o (yielded ops a.tmps)=b:=by
 unfold qzo at hg;unfold Region.wanted;split at hg
 ·rename_i hgd;simp only [v1x] at hg;subst hg;rw [hgd]
 ·rename_i j want hgd;rw [hgd];split at hg
  ·rename_i d hd;have he:=h.env d;split at hg
   ·rename_i b' hb;simp only [v1x] at hg;subst hg;rw [hb] at he;simp only [AR,PR] at he;have ht:a.tmps[d]?=some (.bool b'):=by
     cases hx:a.tmps[d]? with
     | none=>simp [hx,undef] at he
     | some x=>simp [hx] at he;rw [he]
    simp only [yielded,hd,v1r,ht];cases b' <;> cases want <;> rfl
   ·rename_i hb;simp only [v1x] at hg;subst hg;rw [hb] at he;obtain ⟨vs,he,_⟩:=he;have ht:a.tmps[d]?=none∨a.tmps[d]?=some (.tuple vs.toArray):=by
     cases hx:a.tmps[d]? with
     | none=>exact .inl rfl
     | some x=>simp [hx] at he;exact .inr (by rw [he])
    rcases ht with ht | ht <;> simp only [yielded,hd,v1r,ht] <;> cases want <;> rfl
   ·cases hg
  ·cases hg
def vb3 (C:Cx) (ops:Array Oper) (o:Oper) (ef:Nat→AV) (σ:Nat→AO) (e:Evt):Prop :=
 qdm C.N o=true∧((qzo ops ef o=some true∧Does C o (evf ef) σ e)∨(qzo ops ef o=some false∧e=⟨.p (.tup []),none,[]⟩))
theorem qyw {ops:Array Oper} {o:Oper} {t:Tmp} (h:Operand.tmp t∈o.op.operands):t∈o.looksAt ops:=by
 unfold Oper.looksAt;refine v0r.2 (.inl ?_);exact List.mem_filterMap.2 ⟨.tmp t,by simpa using h,rfl⟩
theorem vb3.frame {C:Cx} {ops:Array Oper} {o:Oper} {ef ef':Nat→AV} {σ τ:Nat→AO} {e:Evt} (h:vb3 C ops o ef σ e) (hs:∀t∈o.looksAt ops,ef' t=ef t) (hσ:∀l∈e.reads,τ l=σ l) :
  vb3 C ops o ef' τ e:=by
 obtain ⟨hd,h⟩:=h;have hg:qzo ops ef' o=qzo ops ef o:=by
  unfold qzo;split
  ·rfl
  ·rename_i j want hgd;split
   ·rename_i d hdd;rw [hs d (by unfold Oper.looksAt;refine v0r.2 (.inr ?_);rw [hgd];simp [hdd])]
   ·rfl
 refine ⟨hd,?_⟩;rw [hg];rcases h with ⟨h1,h2⟩ | h
 ·refine .inl ⟨h1,h2.frame (fun x hx=>?_) hσ⟩;cases x with
  | tmp t=>exact (hs t (qyw hx)).symm
  | _=>rfl
 ·exact .inr h
def apD (ops:Array Oper):List Evt→Nat→(Nat→Bool)→(Nat→AV)×(Nat→AO)→(Nat→AV)×(Nat→AO)
 | [],_,_,s=>s
 | e :: es,i,D,s=>apD ops es (i+1) D (if D i then (q0h s.1 ((ops[i]?).bind (·.dst)) e.v,upd s.2 e.u) else s)
def q09 (C:Cx) (ops:Array Oper):List Evt→Nat→(Nat→AV)×(Nat→AO)→Prop
 | [],i,_=>ops.size≤i
 | e :: es,i,s=>(∃o,ops[i]?=some o∧vb3 C ops o s.1 s.2 e)∧q09 C ops es (i+1) (q0h s.1 ((ops[i]?).bind (·.dst)) e.v,upd s.2 e.u)
theorem q58 (ops:Array Oper) (t:Nat):∀(es:List Evt) (i:Nat) (D D':Nat→Bool) (s s':(Nat→AV)×(Nat→AO)),s.1 t=s'.1 t →
  (∀j,i≤j→j < i+es.length→(ops[j]?).bind (·.dst)=some t→D j=D' j)→(apD ops es i D s).1 t=(apD ops es i D' s').1 t
 | [],_,_,_,_,_,h,_=>h
 | e :: es,i,D,D',s,s',h,hD=>by
  simp only [apD];refine q58 ops t es (i+1) D D' _ _ ?_ fun j h1 h2 h3=>hD j (by omega) (by simp only [v2p];omega) h3
  by_cases hd:(ops[i]?).bind (·.dst)=some t
  ·rw [hD i (v1f _) (by simp) hd];split
   ·simp [q0h,hd]
   ·exact h
  ·split <;> split <;> simp [q0h,hd,h]
theorem q4n {σ:Nat→AO} {u:Upd} {l:Nat} (h:u.map (·.1)≠some l):upd σ u l=σ l:=by
 cases u with
 | none=>rfl
 | some p=>simp only [upd,qpm];rw [if_neg (fun e=>h (by simp [e]))]
theorem vi0 {σ τ:Nat→AO} {u:Upd} {l:Nat} (h:u.map (·.1)=some l):upd σ u l=upd τ u l:=by
 cases u with
 | none=>cases h
 | some p=>simp only [v1w,v1x] at h;simp [upd,qpm,h]
theorem vb4 (ops:Array Oper) (l:Nat):∀(es:List Evt) (i:Nat) (D D':Nat→Bool) (s s':(Nat→AV)×(Nat→AO)),s.2 l=s'.2 l →
  (∀j e,i≤j→es[j - i]?=some e→e.wr=some l→D j=D' j)→(apD ops es i D s).2 l=(apD ops es i D' s').2 l
 | [],_,_,_,_,_,h,_=>h
 | e :: es,i,D,D',s,s',h,hD=>by
  simp only [apD];refine vb4 ops l es (i+1) D D' _ _ ?_ fun j e' h1 h2 h3=>hD j e' (by omega) (by rw [show j - i=(j - (i+1))+1 by omega];simpa using h2) h3
  by_cases hd:e.wr=some l
  ·rw [hD i e (v1f _) (by simp) hd];split
   ·exact vi0 hd
   ·exact h
  ·have hd':e.u.map (·.1)≠some l:=hd;split <;> split <;> simp only [q4n hd',h]
theorem q59 (ops:Array Oper) (i:Nat) (ei:Evt):∀(es:List Evt) (k:Nat) (D:Nat→Bool) (s:(Nat→AV)×(Nat→AO)),k≤i→es[i - k]?=some ei→D i=false →
  (∀j e,i < j→es[j - k]?=some e→D j=true→((ops[j]?).bind (·.dst)=none∨(ops[j]?).bind (·.dst)≠(ops[i]?).bind (·.dst))∧(e.wr=none∨e.wr≠ei.wr)) →
  apD ops es k (fun j=>j == i || D j) s=(q0h (apD ops es k D s).1 ((ops[i]?).bind (·.dst)) ei.v,upd (apD ops es k D s).2 ei.u)
 | [],k,D,s,_,h,_,_=>by simp at h
 | e :: es,k,D,s,hk,h,hi,hj=>by
  by_cases hki:k=i
  ·subst hki;simp only [v3l,v2j,v1x] at h;subst h;simp only [apD,beq_self_eq_true,Bool.true_or,if_true,hi,vzo,if_false]
   -- the rest commutes
   have qtt:∀(es':List Evt) (m:Nat) (D1 D2:Nat→Bool) (s:(Nat→AV)×(Nat→AO)),(∀j,m≤j→D1 j=D2 j) →
     (∀j e',m≤j→es'[j - m]?=some e'→D2 j=true→((ops[j]?).bind (·.dst)=none∨(ops[j]?).bind (·.dst)≠(ops[k]?).bind (·.dst))∧(e'.wr=none∨e'.wr≠e.wr)) →
     apD ops es' m D1 (q0h s.1 ((ops[k]?).bind (·.dst)) e.v,upd s.2 e.u)=(q0h (apD ops es' m D2 s).1 ((ops[k]?).bind (·.dst)) e.v,upd (apD ops es' m D2 s).2 e.u):=by
    intro es'
    induction es' with
    | nil=>intro m D1 D2 s _ _;rfl
    | cons e' es' ih =>
     intro m D1 D2 s hD hw;simp only [apD,hD m (v1f _)];cases hm:D2 m with
     | false =>
      simp only [vzo,if_false];exact ih (m+1) D1 D2 s (fun j hj=>hD j (by omega)) fun j e1 h1 h2 h3=>hw j e1 (by omega) (by rw [show j - m=(j - (m+1))+1 by omega];simpa using h2) h3
     | true =>
      simp only [if_true];obtain ⟨w1,w2⟩:=hw m e' (v1f _) (by simp) hm;have e1:q0h (q0h s.1 ((ops[k]?).bind (·.dst)) e.v) ((ops[m]?).bind (·.dst)) e'.v=q0h (q0h s.1 ((ops[m]?).bind (·.dst)) e'.v) ((ops[k]?).bind (·.dst)) e.v:=by
       funext t;simp only [q0h];by_cases c1:(ops[m]?).bind (·.dst)=some t
       ·by_cases c2:(ops[k]?).bind (·.dst)=some t
        ·rcases w1 with w1 | w1
         ·rw [c1] at w1;cases w1
         ·rw [c1,c2] at w1;exact (w1 rfl).elim
        ·simp [c1,c2]
       ·simp [c1]
      have e2:upd (upd s.2 e.u) e'.u=upd (upd s.2 e'.u) e.u:=by
       funext l;by_cases c1:e'.wr=some l
       ·by_cases c2:e.wr=some l
        ·rcases w2 with w2 | w2
         ·rw [c1] at w2;cases w2
         ·rw [c1,c2] at w2;exact (w2 rfl).elim
        ·have c2':e.u.map (·.1)≠some l:=c2;rw [q4n (σ:=upd s.2 e'.u) c2'];exact vi0 c1
       ·have c1':e'.u.map (·.1)≠some l:=c1;rw [q4n (σ:=upd s.2 e.u) c1'];by_cases c2:e.wr=some l
        ·exact vi0 c2
        ·have c2':e.u.map (·.1)≠some l:=c2;rw [q4n c2',q4n c2',q4n c1']
      rw [e1,e2];exact ih (m+1) D1 D2 (q0h s.1 ((ops[m]?).bind (·.dst)) e'.v,upd s.2 e'.u) (fun j hj=>hD j (by omega)) fun j e1 h1 h2 h3=>hw j e1 (by omega) (by rw [show j - m=(j - (m+1))+1 by omega];simpa using h2) h3
   exact qtt es (k+1) _ D s (fun j hj=>by have:(j == k)=false:=(by simp;omega);simp [this]) fun j e' h1 h2 h3=>hj j e' (by omega) (by rw [show j - k=(j - (k+1))+1 by omega];simpa using h2) h3
  ·have hb:(k == i)=false:=by simpa using hki
   simp only [apD,hb,Bool.false_or];exact q59 ops i ei es (k+1) D _ (by omega) (by rw [show i - k=(i - (k+1))+1 by omega] at h;simpa using h) hi fun j e' h1 h2 h3=>hj j e' h1 (by rw [show j - k=(j - (k+1))+1 by omega];simpa using h2) h3
def qid (ops:Array Oper) (j:Nat):List Nat :=
 match ops[j]? with
 | some o=>(o.after.toList.filter (Region.binds .any)).map (·.on)
 | none=>[]
def ancM (A:Nat) (l:List Nat):Nat:=l.foldl (fun m p=>m ||| ((1 <<< p) ||| (A >>> (256 * p)))) 0
def vl8 (ops:Array Oper):Nat→Nat
 | 0=>0
 | k+1=>vl8 ops k ||| ((ancM (vl8 ops k) (qid ops k) % 2 ^ 256) <<< (256 * k))
def vfy (A j i:Nat):Bool:=decide (i < 256) && A.testBit (256 * j+i)
inductive Reach (ops:Array Oper):Nat→Nat→Prop
 | one {j i} (h:i∈qid ops j):Reach ops j i
 | more {j m i} (h:m∈qid ops j) (h2:Reach ops m i):Reach ops j i
theorem vdo (A i:Nat):∀(l:List Nat) (m:Nat),(l.foldl (fun m p=>m ||| ((1 <<< p) ||| (A >>> (256 * p)))) m).testBit i=true→m.testBit i=true∨∃p∈l,p=i∨A.testBit (256 * p+i)=true
 | [],m,h=>.inl h
 | p :: l,m,h=>by
  rw [List.foldl_cons] at h;rcases vdo A i l _ h with h | ⟨q,h1,h2⟩
  ·simp only [Nat.testBit_or,v3m,Nat.testBit_shiftRight,vzr,vzm,decide_eq_true_eq] at h;rcases h with h | ⟨h1,h2⟩ | h
   ·exact .inl h
   ·refine .inr ⟨p,by simp,.inl ?_⟩;have:i - p=0:=by
     apply Classical.byContradiction;intro hn;have hz:Nat.testBit 1 (i - p)=false:=Nat.testBit_lt_two_pow (Nat.one_lt_two_pow hn);rw [hz] at h2;cases h2
    omega
   ·exact .inr ⟨p,by simp,.inr h⟩
  ·exact .inr ⟨q,by simp [h1],h2⟩
theorem qyx (ops:Array Oper):∀(k j i:Nat),i < 256→(vl8 ops k).testBit (256 * j+i)=true→Reach ops j i
 | 0,j,i,_,h=>by simp [vl8] at h
 | k+1,j,i,hi,h=>by
  simp only [vl8,Nat.testBit_or,v3m,Nat.testBit_mod_two_pow,vzr,vzm,decide_eq_true_eq] at h;rcases h with h | ⟨h1,h2,h3⟩
  ·exact qyx ops k j i hi h
  ·have hjk:j=k:=by omega
   subst hjk;rw [show 256 * j+i - 256 * j=i by omega] at h3;rcases vdo _ i _ 0 h3 with h | ⟨p,q1,q2⟩
   ·simp at h
   ·rcases q2 with rfl | q2
    ·exact .one q1
    ·exact .more q1 (qyx ops j p i hi q2)
theorem qv6 {ops:Array Oper} {k j i:Nat} (h:vfy (vl8 ops k) j i=true):Reach ops j i:=by
 simp only [vfy,vzm,decide_eq_true_eq] at h;exact qyx ops k j i h.1 h.2
def q86 (ops:Array Oper) (D:Nat→Bool):Prop:=∀j,D j=true→∀i∈qid ops j,D i=true
theorem Reach.closed {ops:Array Oper} {D:Nat→Bool} (hc:q86 ops D) {j i:Nat} (h:Reach ops j i):D j=true→D i=true:=by
 induction h with
 | one h=>exact fun hj=>hc _ hj _ h
 | more h _ ih=>exact fun hj=>ih (hc _ hj _ h)
theorem Reach.ready {ops:Array Oper} {D:Nat→Bool} (hc:q86 ops D) {j i:Nat} (hp:∀i∈qid ops j,D i=true) (h:Reach ops j i):D i=true:=by
 cases h with
 | one h=>exact hp _ h
 | more h h2=>exact h2.closed hc (hp _ h)
def qn0 (ops:Array Oper):Bool :=
  let A:=vl8 ops ops.size
  (v0z ops.size).all fun j=>(qid ops j).all (fun m=>decide (m < j)) && (v0z j).all fun i=>vfy A j i ||
    (match ops[i]?,ops[j]? with
     | some x,some y=>x.apart ops y
     | _,_=>true)
def evOk (x y:Evt):Prop:=(∀l,x.wr=some l→l ∉ y.reads∧y.wr≠some l)∧(∀l,y.wr=some l→l ∉ x.reads)
def vfz (x y:Evt):Bool :=
  (match x.wr with
   | some l=>!y.reads.contains l && y.wr != some l
   | none=>true) && (match y.wr with
   | some l=>!x.reads.contains l
   | none=>true)
theorem vf0 {x y:Evt} (h:vfz x y=true):evOk x y:=by
 constructor
 ·intro l hl;simp [vfz,hl] at h;exact h.1
 ·intro l hl;simp [vfz,hl] at h;exact h.2
def qz6 (ops:Array Oper) (es:List Evt):Bool :=
  let A:=vl8 ops ops.size
  (v0z ops.size).all fun j=>(v0z j).all fun i=>vfy A j i ||
    (match es[i]?,es[j]? with
     | some x,some y=>vfz x y
     | _,_=>true)
theorem qmb {ops:Array Oper} (h:qn0 ops=true) {i j:Nat} {x y:Oper} (hij:i < j) (hx:ops[i]?=some x) (hy:ops[j]?=some y):Reach ops j i∨x.apart ops y=true:=by
 have hj:=(vzb.1 hy).1;simp only [qn0,v2b,v3c,vzm,vzr] at h;rcases (h j hj).2 i hij with h | h
 ·exact .inl (qv6 h)
 ·rw [hx,hy] at h;exact .inr h
theorem qoh {ops:Array Oper} (h:qn0 ops=true) {j:Nat} (hj:j < ops.size):∀m∈qid ops j,m < j:=by
 simp only [qn0,v2b,v3c,vzm,vzr,decide_eq_true_eq] at h;exact (h j hj).1
theorem qoq {ops:Array Oper} {es:List Evt} (h:qz6 ops es=true) {i j:Nat} {x y:Evt} (hij:i < j) (hj:j < ops.size) (hx:es[i]?=some x) (hy:es[j]?=some y):Reach ops j i∨evOk x y:=by
 simp only [qz6,v2b,v3c,vzr] at h;rcases h j hj i hij with h | h
 ·exact .inl (qv6 h)
 ·rw [hx,hy] at h;exact .inr (vf0 h)
theorem q09.at {C:Cx} {ops:Array Oper}:∀{es:List Evt} {i:Nat} {s:(Nat→AV)×(Nat→AO)},q09 C ops es i s→∀j e,i≤j→es[j - i]?=some e →
  ∃o,ops[j]?=some o∧vb3 C ops o (apD ops es i (fun m=>decide (m < j)) s).1 (apD ops es i (fun m=>decide (m < j)) s).2 e
 | [],i,s,h,j,e,hj,he=>by simp at he
 | e0 :: es,i,s,h,j,e,hj,he=>by
  obtain ⟨⟨o,ho,hst⟩,hrest⟩:=h;have skip:∀(es':List Evt) (m:Nat) (s':(Nat→AV)×(Nat→AO)),j≤m→apD ops es' m (fun m=>decide (m < j)) s'=s':=by
   intro es'
   induction es' with
   | nil=>intro m s' _;rfl
   | cons x xs ih=>intro m s' hm;simp only [apD];rw [if_neg (by simp;omega)];exact ih (m+1) s' (by omega)
  by_cases hji:j=i
  ·subst hji;simp only [v3l,v2j,v1x] at he;subst he;rw [skip _ _ _ (v1f _)];exact ⟨o,ho,hst⟩
  ·have hlt:i < j:=by omega
   have:=q09.at hrest j e (by omega) (by rw [show j - i=(j - (i+1))+1 by omega] at he;simpa using he);simp only [apD];rw [if_pos (by simpa using hlt)];exact this
theorem q09.len {C:Cx} {ops:Array Oper}:∀{es:List Evt} {i:Nat} {s:(Nat→AV)×(Nat→AO)},q09 C ops es i s→i≤ops.size→i+es.length=ops.size
 | [],i,s,h,hi=>by simp only [q09] at h;simp only [v0k];omega
 | e0 :: es,i,s,h,hi=>by
  obtain ⟨⟨o,ho,hst⟩,hrest⟩:=h;have:=q09.len hrest (vzb.1 ho).1;simp only [v2p];omega
theorem qv7 (ops:Array Oper):∀(es:List Evt) (i:Nat) (D D':Nat→Bool) (s:(Nat→AV)×(Nat→AO)),(∀j,i≤j→j < i+es.length→D j=D' j)→apD ops es i D s=apD ops es i D' s
 | [],_,_,_,_,_=>rfl
 | e :: es,i,D,D',s,h=>by
  simp only [apD];rw [h i (v1f _) (by simp)];exact qv7 ops es (i+1) D D' _ fun j h1 h2=>h j (by omega) (by simp only [v2p];omega)
theorem vm3 {C:Cx} {ops:Array Oper} {es:List Evt} {s0:(Nat→AV)×(Nat→AO)} {Q:Exit→Act→World→Prop} (hch:q09 C ops es 0 s0) (hsl:qn0 ops=true) (hev:qz6 ops es=true)
  (hQ:∀a w inj,SRf C (apD ops es 0 (fun _=>true) s0).1 (apD ops es 0 (fun _=>true) s0).2 inj a w→Q .normal a w) :
  ∀(fuel:Nat) (listed:Array Bool) (a:Act) (w:World) (inj:Inj),listed.size=ops.size→q86 ops (fun j=>listed.getD j false)→(listed.toList.filter (! ·)).length≤fuel →
   SRf C (apD ops es 0 (fun j=>listed.getD j false) s0).1 (apD ops es 0 (fun j=>listed.getD j false) s0).2 inj a w→wpAny C.P .any ops Q fuel listed a w:=by
 have hlen:es.length=ops.size:=by have:=hch.len (v3n _);omega
 -- nothing ready means all is listed
 have done:∀(listed:Array Bool) (a:Act) (w:World) (inj:Inj),listed.size=ops.size→Region.ready .any ops listed=[] →
   SRf C (apD ops es 0 (fun j=>listed.getD j false) s0).1 (apD ops es 0 (fun j=>listed.getD j false) s0).2 inj a w→Q .normal a w:=by
  intro listed a w inj hsz hr hs;have all:∀j,j < ops.size→listed.getD j false=true:=by
   intro j
   induction j using v3k with
   | _ j ih =>
    intro hj;by_cases hl:listed.getD j false=true
    ·exact hl
    ·have:j∈Region.ready .any ops listed:=by
      refine mem_ready.2 ⟨getD_in (by omega) (by simpa using hl),ops[j],by simp [hj],fun e he hb=>?_⟩;have hp:e.on∈qid ops j:=by
       unfold qid;simp only [hj,getElem?_pos];exact v3a.2 ⟨e,v28.2 ⟨by simpa using he,hb⟩,rfl⟩
      have hlt:=qoh hsl hj _ hp;exact ih _ hlt (by omega)
     rw [hr] at this;cases this
  rw [qv7 ops es 0 _ (fun _=>true) s0 fun j _ h2=>all j (by omega)] at hs;exact hQ a w inj hs
 intro fuel
 induction fuel with
 | zero =>
  intro listed a w inj hsz hcl hf hs;have hr:Region.ready .any ops listed=[]:=by
   cases hrd:Region.ready .any ops listed with
   | nil=>rfl
   | cons i _ =>
    exfalso;have hi:i∈Region.ready .any ops listed:=by rw [hrd];exact v24
    obtain ⟨h0,o,ho,_⟩:=mem_ready.1 hi;have hlt:=(vzb.1 ho).1;have hm:listed[i]'(by omega)∈listed.toList:=by simp
    have h0':listed[i]'(by omega)=false:=by simpa [show i < listed.size by omega] using h0
    have:listed[i]'(by omega)∈listed.toList.filter (! ·):=v28.2 ⟨hm,by rw [h0'];rfl⟩;have:0 < (listed.toList.filter (! ·)).length:=v2s this;omega
  exact ⟨hr,done listed a w inj hsz hr hs⟩
 | succ fuel ih =>
  intro listed a w inj hsz hcl hf hs;refine ⟨fun hr=>done listed a w inj hsz hr hs,fun i hi=>?_⟩;obtain ⟨h0,o,ho,hpre⟩:=mem_ready.1 hi;have hlt:=(vzb.1 ho).1;have hoi:ops[i]=o:=(vzb.1 ho).2;have h0f:listed.getD i false=false:=getD_both h0;have hpre':∀m∈qid ops i,listed.getD m false=true:=by
   intro m hm;unfold qid at hm;rw [ho] at hm;obtain ⟨e,he,rfl⟩:=v3a.1 hm;obtain ⟨he1,he2⟩:=v28.1 he;exact hpre e (by simpa using he1) he2
  obtain ⟨e,he⟩:∃e,es[i]?=some e:=⟨es[i],by simp [hlen,hlt]⟩;obtain ⟨o',ho',hst⟩:=hch.at i e (v3n _) (by simpa using he);have:o'=o:=v3q (ho'.symm.trans ho);subst this
  -- which are listed,compared with the text's order
  have cmpSlot:∀t∈o'.looksAt ops,(apD ops es 0 (fun j=>listed.getD j false) s0).1 t=(apD ops es 0 (fun m=>decide (m < i)) s0).1 t:=by
   intro t ht;refine q58 ops t es 0 _ _ s0 s0 rfl fun j _ hj hd=>?_
   obtain ⟨oj,hoj⟩:∃oj,ops[j]?=some oj:=⟨ops[j]'(by omega),by simp [show j < ops.size by omega]⟩;rw [hoj] at hd;simp only [v1r] at hd;rcases v3i j i with hji | hji | hji
   ·simp only [hji,decide_true];rcases qmb hsl hji hoj ho with hr | hr
    ·exact hr.ready (D:=fun j=>listed.getD j false) hcl hpre'
    ·exact absurd ht ((Oper.apart_spec hr).1 t hd)
   ·subst hji;simpa using h0f
   ·have:decide (j < i)=false:=by simp;omega
    rw [this];rcases qmb hsl hji ho hoj with hr | hr
    ·by_cases hl:listed.getD j false=true
     ·have:=hr.closed (D:=fun j=>listed.getD j false) hcl hl;simp only [h0f] at this;cases this
     ·simpa using hl
    ·exact absurd ht ((Oper.apart_spec hr).2.2 t hd)
  have cmpLoc:∀l∈e.reads,(apD ops es 0 (fun j=>listed.getD j false) s0).2 l=(apD ops es 0 (fun m=>decide (m < i)) s0).2 l:=by
   intro l hl;refine vb4 ops l es 0 _ _ s0 s0 rfl fun j ej _ hej hw=>?_
   simp only [v1p] at hej;have hjn:j < ops.size:=by have:=(v0b.1 hej).1;omega
   rcases v3i j i with hji | hji | hji
   ·simp only [hji,decide_true];rcases qoq hev hji hlt hej he with hr | hr
    ·exact hr.ready (D:=fun j=>listed.getD j false) hcl hpre'
    ·exact absurd hl (hr.1 l hw).1
   ·subst hji;simpa using h0f
   ·have:decide (j < i)=false:=by simp;omega
    rw [this];rcases qoq hev hji hjn he hej with hr | hr
    ·by_cases hl':listed.getD j false=true
     ·have:=hr.closed (D:=fun j=>listed.getD j false) hcl hl';simp only [h0f] at this;cases this
     ·simpa using hl'
    ·exact absurd hl (hr.2 l hw)
  have hst':=hst.frame cmpSlot cmpLoc;obtain ⟨hdst,hst'⟩:=hst';have hjoin:=q59 ops i e es 0 (fun j=>listed.getD j false) s0 (v3n _) (by simpa using he) h0f (by
   intro j ej hij hej hD;simp only [v1p] at hej;have hjn:j < ops.size:=by have:=(v0b.1 hej).1;omega
   obtain ⟨oj,hoj⟩:∃oj,ops[j]?=some oj:=⟨ops[j]'(by omega),by simp [show j < ops.size by omega]⟩;have nr:¬Reach ops j i:=fun hr=>by
    have:=hr.closed (D:=fun j=>listed.getD j false) hcl hD;simp only [h0f] at this;cases this
   constructor
   ·rcases qmb hsl hij ho hoj with hr | hr
    ·exact (nr hr).elim
    ·rw [hoj,ho];simp only [v1r];cases hd:oj.dst with
     | none=>exact .inl rfl
     | some d =>
      refine .inr fun hh=>?_
      exact (Oper.apart_spec hr).2.1 d hh.symm hd
   ·rcases qoq hev hij hjn he hej with hr | hr
    ·exact (nr hr).elim
    ·cases hw:ej.wr with
     | none=>exact .inl rfl
     | some l =>
      refine .inr fun hh=>?_
      exact (hr.1 l hh.symm).2 hw)
  have hD':apD ops es 0 (fun j=>(listed.setIfInBounds i true).getD j false) s0=apD ops es 0 (fun j=>j == i || listed.getD j false) s0:=by
   refine qv7 ops es 0 _ _ s0 fun j _ hj=>?_
   by_cases hji:i=j
   ·subst hji;simp [hsz,hlt]
   ·rw [getD_set_ne false hji];have:(j == i)=false:=by simp;omega
    simp [this]
  have next:∀a' w' inj',SRf C (q0h (apD ops es 0 (fun j=>listed.getD j false) s0).1 o'.dst e.v) (upd (apD ops es 0 (fun j=>listed.getD j false) s0).2 e.u) inj' a' w' →
    wpAny C.P .any ops Q fuel (listed.setIfInBounds i true) a' w':=by
   intro a' w' inj' hs';refine ih (listed.setIfInBounds i true) a' w' inj' (by simp [hsz]) ?_ ?_ ?_
   ·intro j hj m hm;by_cases hji:i=j
    ·subst hji;exact getD_set_true (hpre' m hm)
    ·have hj':(listed.setIfInBounds i true).getD j false=true:=hj;rw [getD_set_ne false hji] at hj';exact getD_set_true (hcl j hj' m hm)
   ·have hli:listed[i]?=some false:=by
     have:i < listed.size:=by omega
     simp [this] at h0f ⊢;exact h0f
    have key:∀(l:List Bool) (i:Nat),l[i]?=some false→((l.set i true).filter (! ·)).length+1=(l.filter (! ·)).length:=by
     intro l
     induction l with
     | nil=>intro i h;simp at h
     | cons b l ihl =>
      intro i h;cases i with
      | zero=>simp at h;subst h;simp
      | succ i =>
       simp only [v2i] at h;have:=ihl i h;cases b <;> simp [this] <;> omega
    have:=key listed.toList i (by simpa using hli);rw [v17];omega
   ·rw [hD',hjoin,ho];exact hs'
  unfold wpOp;rw [ho];simp only;rcases hst' with ⟨hg,hdo⟩ | ⟨hg,rfl⟩
  ·rw [qpx hs hg];simp only [if_true];exact .inl (hdo.sound hs hdst next)
  ·rw [qpx hs hg];simp only [vzo,if_false];exact next _ _ inj (hs.put (u:=none) hdst hs.hr (Ev.refl _ _ _ _) ⟨[],rfl,rfl⟩)
def qxh {α β:Type} (f:α→L β) (σ:Nat→AO):Option α→List Nat
 | some a=>(f a).reads σ
 | none=>[]
theorem q3e {α β:Type} (f:α→L β) (σ:Nat→AO) (a:α):qxh f σ (some a)=(f a).reads σ:=rfl
theorem q3f {α β:Type} (f:α→L β) (σ:Nat→AO):qxh f σ none=[]:=rfl
theorem L.reads_ret {α:Type} (a:α) (σ):(L.ret a).reads σ=[]:=rfl
theorem L.reads_fail {α:Type} (σ):(L.fail:L α).reads σ=[]:=rfl
theorem L.reads_look {α:Type} (l k σ):(L.look l k:L α).reads σ=l :: (k (σ l)).reads σ:=rfl
theorem L.reads_bind {α β:Type} (m:L α) (f:α→L β) (σ):(m.bind f).reads σ=m.reads σ++qxh f σ (m.run σ):=by
 induction m with
 | ret a=>rfl
 | look l k ih=>simp only [L.bind,L.reads,L.run,ih (σ l),v2e]
 | fail=>rfl
theorem L.reads_ofOpt {α:Type} (o:Option α) (σ):(L.ofOpt o).reads σ=[]:=by cases o <;> rfl
theorem q87 (m:L AV) (σ):(qcz m).reads σ=m.reads σ:=by
 unfold qcz;rw [L.reads_bind];cases m.run σ <;> simp [qxh,L.reads]
variable {C:Cx} {Q:Exit→St→Prop}
inductive DCh (C:Cx) (ops:Array Oper):List Oper→St→List Evt→St→Prop
 | nil {st}:DCh C ops [] st [] st
 | cons {o rest st e es st'} (hd:qdm C.N o=true) (h:(qbq ops st.env o=some true∧Does C o (ev st.env) st.sig e)∨(qbq ops st.env o=some false∧e=⟨.p (.tup []),none,[]⟩))
   (hr:DCh C ops rest ⟨qig st.env o.dst e.v,qyu st.heap e.u⟩ es st'):DCh C ops (o :: rest) st (e :: es) st'
theorem q6a (env:Env) (d:Option Tmp) (v:AV):Env.get (qig env d v)=q0h env.get d v:=by
 funext t;cases d with
 | none=>simp [qig,q0h]
 | some d=>simp [qig,q0h,Env.get]
theorem DCh.chain {ops:Array Oper} {l:List Oper} {st:St} {es:List Evt} {st':St} (h:DCh C ops l st es st'):∀i,(∀j,ops[i+j]?=l[j]?) →
  q09 C ops es i (st.env.get,st.sig)∧apD ops es i (fun _=>true) (st.env.get,st.sig)=(st'.env.get,st'.sig):=by
 induction h with
 | nil =>
  intro i hi;refine ⟨?_,rfl⟩;have:=hi 0;simp only [v1b,v2k] at this;simp only [q09];exact Array.getElem?_eq_none_iff.1 this
 | @cons o rest st e es st' hd h hr ih =>
  intro i hi;have h0:ops[i]?=some o:=by have:=hi 0;simpa using this
  obtain ⟨h1,h2⟩:=ih (i+1) (fun j=>by have:=hi (j+1);rw [show i+1+j=i+(j+1) by omega,this];simp);have e1:((q0h st.env.get ((ops[i]?).bind (·.dst)) e.v,upd st.sig e.u):(Nat→AV)×(Nat→AO))=((⟨qig st.env o.dst e.v,qyu st.heap e.u⟩:St).env.get,(⟨qig st.env o.dst e.v,qyu st.heap e.u⟩:St).sig):=by
   rw [h0];simp only [v1r,q6a,St.sig,qti]
  refine ⟨⟨⟨o,h0,hd,?_⟩,?_⟩,?_⟩
  ·rw [q57,qum];exact h
  ·rw [e1];exact h1
  ·simp only [apD,if_true];rw [e1];exact h2
theorem vi1 {id:Nat} {l:List Oper} {st st':St} {es:List Evt} (hm:C.P.follows .mixedOrders=true) (hch:DCh C l.toArray l st es st') (hsl:qn0 l.toArray=true) (hev:qz6 l.toArray es=true)
  (h:Q .normal st'):AWp C (.region id l.toArray true) Q st:=by
 intro inj a w hs;obtain ⟨h1,h2⟩:=hch.chain 0 (fun j=>by simp);refine wp_region_any hm ?_;have hf:Fr C.D w { w with drawn:=w.drawn+1 }:=⟨rfl,rfl,rfl,fun _=>v1g _,v1f _,fun _ _=>rfl,fun _ _=>rfl⟩;have hE:Ev C.D C.X inj st.sig w inj st.sig { w with drawn:=w.drawn+1 }:=hf.ev;refine vm3 h1 hsl hev ?_ _ _ _ _ inj (by simp) ?_ ?_ ?_
 ·intro a' w' inj' hs';rw [h2] at hs';exact ⟨st',inj',⟨hs'.env,hs'.size,hs'.defers,hs'.hr,hs'.ev⟩,h⟩
 ·intro j hj;simp only [getD_replicate_false] at hj;cases hj
 ·refine v1h (v2r _ _) (by simp)
 ·rw [qv7 l.toArray es 0 _ (fun _=>false) _ fun j _ _=>getD_replicate_false _ _];have hnone:∀(es:List Evt) (i:Nat) (s:(Nat→AV)×(Nat→AO)),apD l.toArray es i (fun _=>false) s=s:=by
   intro es
   induction es with
   | nil=>intro i s;rfl
   | cons e es ih=>intro i s;simp only [apD,vzo,if_false];exact ih (i+1) s
  rw [hnone];exact ⟨fun t=>AR.ev hE hs.hr.xlt _ _ (hs.env t),hs.size,hs.defers,hs.hr.fr hf,hs.ev.trans hE⟩
def q1a (m:L (AV×Upd)) (σ:Nat→AO):Option Bool→List Nat
 | some true=>m.reads σ
 | _=>[]
theorem q88 (m:L (AV×Upd)) (σ):q1a m σ (some true)=m.reads σ:=rfl
theorem q6b (m:L (AV×Upd)) (σ):q1a m σ (some false)=[]:=rfl
def qn1 (P:Program) (N B:Nat) (ops:Array Oper):List Oper→St→List Evt→List Evt×St×List Oper
 | [],st,acc=>(acc,st,[])
 | o :: rest,st,acc =>
  match go1 P N B ops o st with
  | .on v u=>qn1 P N B ops rest ⟨qig st.env o.dst v,qyu st.heap u⟩ (⟨v,u,q1a (aop P B (ev st.env) o) st.sig (qbq ops st.env o)⟩ :: acc)
  | .stop=>(acc,st,o :: rest)
def q4o (P:Program) (N B:Nat) (ops:Array Oper) (o:Oper) (rest:List Oper) (st:St) (acc:List Evt):Go1→List Evt×St×List Oper
 | .on v u=>qn1 P N B ops rest ⟨qig st.env o.dst v,qyu st.heap u⟩ (⟨v,u,q1a (aop P B (ev st.env) o) st.sig (qbq ops st.env o)⟩ :: acc)
 | .stop=>(acc,st,o :: rest)
theorem vb5 (P:Program) (N B:Nat) (ops:Array Oper) (st:St) (acc:List Evt):qn1 P N B ops [] st acc=(acc,st,[]):=rfl
theorem qtl (P:Program) (N B:Nat) (ops:Array Oper) (o:Oper) (rest:List Oper) (st:St) (acc:List Evt):qn1 P N B ops (o :: rest) st acc=q4o P N B ops o rest st acc (go1 P N B ops o st):=by
 simp only [qn1,q4o]
theorem q1b (P:Program) (N B:Nat) (ops:Array Oper) (o:Oper) (rest:List Oper) (st:St) (acc:List Evt) (v:AV) (u:Upd):q4o P N B ops o rest st acc (.on v u) =
  qn1 P N B ops rest ⟨qig st.env o.dst v,qyu st.heap u⟩ (⟨v,u,q1a (aop P B (ev st.env) o) (qa4 st.heap) (qbq ops st.env o)⟩ :: acc):=rfl
theorem vb6 (P:Program) (N B:Nat) (ops:Array Oper) (o:Oper) (rest:List Oper) (st:St) (acc:List Evt):q4o P N B ops o rest st acc .stop=(acc,st,o :: rest):=rfl
def DGo (C:Cx) (ops:Array Oper) (l:List Oper) (st:St) (acc:List Evt) (K:List Evt→St→Prop):Prop :=
 ∃es st',DCh C ops l st es st'∧K (acc.reverse++es) st'
theorem DGo.one {ops:Array Oper} {o:Oper} {rest:List Oper} {st:St} {acc:List Evt} {K:List Evt→St→Prop} {e:Evt} (hd:qdm C.N o=true)
  (h:(qbq ops st.env o=some true∧Does C o (ev st.env) st.sig e)∨(qbq ops st.env o=some false∧e=⟨.p (.tup []),none,[]⟩))
  (hr:DGo C ops rest ⟨qig st.env o.dst e.v,qyu st.heap e.u⟩ (e :: acc) K):DGo C ops (o :: rest) st acc K:=by
 obtain ⟨es,st',h1,h2⟩:=hr;refine ⟨e :: es,st',.cons hd h h1,?_⟩;simpa using h2
theorem DGo.run {ops:Array Oper} {K:List Evt→St→Prop}:∀(l:List Oper) (st:St) (acc:List Evt) {acc':List Evt} {st':St} {l':List Oper},qn1 C.P C.N C.B ops l st acc=(acc',st',l')→DGo C ops l' st' acc' K→DGo C ops l st acc K
 | [],st,acc,acc',st',l',hr,h=>by
  simp only [qn1,v1y] at hr;obtain ⟨rfl,rfl,rfl⟩:=hr;exact h
 | o :: rest,st,acc,acc',st',l',hr,h=>by
  rw [qtl] at hr;cases hg:go1 C.P C.N C.B ops o st with
  | stop =>
   rw [hg] at hr;simp only [q4o,v1y] at hr;obtain ⟨rfl,rfl,rfl⟩:=hr;exact h
  | on v u =>
   rw [hg,q1b] at hr;have hrec:=DGo.run rest _ _ hr h;unfold go1 at hg;split at hg
   case isFalse=>cases hg
   rename_i hd;split at hg
   ·rename_i hgd;split at hg
    ·rename_i v' u' hrun;cases hg;refine DGo.one hd (.inl ⟨hgd,.op hrun⟩) ?_;rw [hgd] at hrec;exact hrec
    ·cases hg
   ·rename_i hgd;cases hg;refine DGo.one hd (.inr ⟨hgd,rfl⟩) ?_;rw [hgd] at hrec;exact hrec
   ·cases hg
theorem qr7 (env:Env) (f:Operand) (args:List Operand):qlh (ev env) f args=qby env f args:=by
 unfold qlh qby;rfl
theorem DGo.call {ops:Array Oper} {K:List Evt→St→Prop} {d:Option Tmp} {f:Operand} {args:Array Operand} {ats:Array TypeId} {ty:TypeId} {pos:String} {af:Array Edge} {rest:List Oper} {st:St} {acc:List Evt}
  {k:FuncId} {avs:List AV} {pargs:List PV} {r:PV} {rs:List Nat}
  (hp:vvl C.D C.P k pargs r) (hd:qdm C.N ⟨d,.call ⟨.value f,args,ats⟩,ty,pos,af,none⟩=true) (hk:HasBody C.P k)
  (hc:qby st.env f args.toList=some (k,avs)) (hv:(qa1 (qe8 (fun _=>true) 9) avs).run (qa4 st.heap)=some pargs) (hrs:(qa1 (qe8 (fun _=>true) 9) avs).reads (qa4 st.heap)=rs)
  (hfl:(qsu avs).isSome=true∨r.flat=true)
  (h:DGo C ops rest ⟨qig st.env d (.p r),st.heap⟩ (⟨.p r,none,rs⟩ :: acc) K):DGo C ops (⟨d,.call ⟨.value f,args,ats⟩,ty,pos,af,none⟩ :: rest) st acc K:=by
 subst hrs;refine DGo.one hd (.inl ⟨rfl,.call hp rfl hk (by rw [qr7];exact hc) hv hfl⟩) ?_;exact h
theorem DGo.built {ops:Array Oper} {K:List Evt→St→Prop} {o:Oper} {t:TypeId} {len:Nat} {qa3:Array (Nat×Operand)} {rest:List Oper} {st st':St} {acc:List Evt} {v:AV} {u:Upd} {x:PV} {k:Nat} {r1 r2:List Nat}
  (ho:o.op=.buildSlice t len qa3) (hg:qbq ops st.env o=some true) (hd:qdm C.N o=true) (hk:qm7 C.B o=k)
  (hr:(aop C.P C.B (ev st.env) o).run (qa4 st.heap)=some (v,u)) (h1:(aop C.P C.B (ev st.env) o).reads (qa4 st.heap)=r1)
  (hv:(qe8 (fun l=>l == k) 9 v).run (qa4 (qyu st.heap u))=some x) (h2:(qe8 (fun l=>l == k) 9 v).reads (qa4 (qyu st.heap u))=r2)
  (hs:(⟨qig st.env o.dst (.p x),st.heap⟩:St)=st') (h:DGo C ops rest st' (⟨.p x,none,r1++r2⟩ :: acc) K):DGo C ops (o :: rest) st acc K:=by
 subst hk;subst h1;subst h2;subst hs;rw [qti] at hv;refine DGo.one hd (.inl ⟨hg,.built ho hr hv⟩) ?_;rw [qti] at h;exact h
theorem DGo.cloned {ops:Array Oper} {K:List Evt→St→Prop} {o:Oper} {f:Operand} {args:Array Operand} {ats:Array TypeId} {rest:List Oper} {st st':St} {acc:List Evt} {c:FuncId} {e sz by' g k n:Nat} {xs:List PV}
  (S:Cln C.P c e sz by') (hw:¬C.D) (ho:o.op=.call ⟨.value f,args,ats⟩) (hgd:qbq ops st.env o=some true) (hd:qdm C.N o=true) (hk:qm7 C.B o=k)
  (hc:qby st.env f args.toList=some (c,[.p (.slc xs)])) (hel:(xs.map AV.p).all (qjf sz)=true) (hn:xs.length≤maxLen) (hby:xs.length * by'≤140737488355328) (hg:qa4 st.heap k=.dead g) (hl:xs.length=n)
  (hs:(⟨qig st.env o.dst (.own k (g+1) 0 n),qqv st.heap k (.arr e sz (g+1) (xs.map AV.p))⟩:St)=st')
  (h:DGo C ops rest st' (⟨.own k (g+1) 0 n,some (k,.arr e sz (g+1) (xs.map AV.p)),[k]⟩ :: acc) K):DGo C ops (o :: rest) st acc K:=by
 subst hk;subst hs;subst hl;refine DGo.one hd (.inl ⟨hgd,.cloned S hw ho (by rw [qr7];exact hc) hel hn hby hg⟩) ?_;exact h
theorem DGo.done {ops:Array Oper} {K:List Evt→St→Prop} {st:St} {acc:List Evt} (h:K acc.reverse st):DGo C ops [] st acc K:=⟨[],st,.nil,by simpa using h⟩
attribute [go_sem] q3e q3f L.reads_ret L.reads_fail L.reads_look L.reads_bind L.reads_ofOpt q87 q88 q6b vb5 qtl q1b vb6
end Go.Ab
namespace Go.Ab
variable {D:Prop}
open Go
def vwc:Op→Bool
 | .call ⟨.value _,_,_⟩=>true
 | _=>false
def vwd:List Oper→List Oper→List Oper×List Oper
 | [],acc=>(acc.reverse,[])
 | o :: r,acc=>match o.guard.isNone && !vwc o.op with
  | true=>vwd r (o :: acc)
  | false=>(acc.reverse,o :: r)
def spl (l:List Oper):List Oper×List Oper:=vwd l []
theorem q1c:∀l acc:List Oper,(vwd l acc).1++(vwd l acc).2=acc.reverse++l
 | [],acc=>rfl
 | o :: r,acc=>by
  simp only [vwd];split
  ·rw [q1c r];simp
  ·rfl
theorem q4p (l:List Oper):(spl l).1++(spl l).2=l:=q1c l []
variable {C:Cx} {Q:Exit→St→Prop} {st:St}
theorem qoi {ops:Array Oper} {l2:List Oper} {st':St} (h:AL C ops l2 Q st'):∀(l:List Oper) (st:St),qsw C.P C.N C.B ops l st=(st',[])→AL C ops (l++l2) Q st
 | [],st,hr=>by
  simp only [qsw,v1y,and_true] at hr;subst hr;exact h
 | o :: rest,st,hr=>by
  rw [q03] at hr;cases hg:go1 C.P C.N C.B ops o st with
  | stop=>rw [hg] at hr;simp [vh8] at hr
  | on v u =>
   rw [hg,vdl] at hr;unfold go1 at hg;split at hg
   case isFalse=>cases hg
   rename_i hd;split at hg
   ·rename_i hgd;split at hg
    ·rename_i v' u' hrun;cases hg;exact vvk hgd hd (vh6 C.B o (ev st.env)) hrun (qoi h rest _ hr)
    ·cases hg
   ·rename_i hgd;cases hg;exact vh7 hgd hd (qoi h rest _ hr)
   ·cases hg
theorem qql {ops:Array Oper} {o:Oper} {l l1 l2:List Oper} {st':St} (hs:spl l=(o :: l1,l2)) (hr:qsw C.P C.N C.B ops (o :: l1) st=(st',[])) (h:AL C ops l2 Q st'):AL C ops l Q st:=by
 have e:=q4p l;rw [hs] at e;rw [←e];exact qoi h _ _ hr
theorem AL_gt {ops:Array Oper} {o:Oper} {rest:List Oper} {v:AV} {u:Upd} (hg:qbq ops st.env o=some true) (hd:qdm C.N o=true)
  (hr:(aop C.P C.B (ev st.env) o).run (qa4 st.heap)=some (v,u)) (h:AL C ops rest Q ⟨qig st.env o.dst v,qyu st.heap u⟩):AL C ops (o :: rest) Q st :=
 vvk hg hd (vh6 C.B o (ev st.env)) hr h
def q1d (ops:Array Oper) (o:Oper):Option Nat:=o.guard.bind fun g=>(ops[g.1]?).bind (·.dst)
theorem q89 (env:Env) {d:Nat} {v:AV} (h:env.get d=v):Env.get ((d,v) :: env)=env.get:=by
 funext t;simp only [Env.get];split
 ·rename_i e;subst e;exact h.symm
 ·rfl
theorem SR.known {inj:Inj} {a:Act} {w:World} {env:Env} {hp:List (Nat×AO)} {d:Nat} {v:AV} (h:env.get d=v) (hs:SR C ⟨env,hp⟩ inj a w):SR C ⟨(d,v) :: env,hp⟩ inj a w :=
 ⟨fun t=>by have:=hs.env t;rw [q89 env h];exact this,hs.size,hs.defers,hs.hr,hs.ev⟩
theorem DGo.append {ops:Array Oper} {K:List Evt→St→Prop} {l2:List Oper} {acc':List Evt} {st':St} (h:DGo C ops l2 st' acc' K):∀(l:List Oper) (st:St) (acc:List Evt),qn1 C.P C.N C.B ops l st acc=(acc',st',[])→DGo C ops (l++l2) st acc K
 | [],st,acc,hr=>by
  simp only [qn1,v1y,and_true] at hr;obtain ⟨rfl,rfl⟩:=hr;exact h
 | o :: rest,st,acc,hr=>by
  rw [qtl] at hr;cases hg:go1 C.P C.N C.B ops o st with
  | stop=>rw [hg] at hr;simp [q4o] at hr
  | on v u =>
   rw [hg,q1b] at hr;have hrec:=DGo.append h rest _ _ hr;unfold go1 at hg;split at hg
   case isFalse=>cases hg
   rename_i hd;split at hg
   ·rename_i hgd;split at hg
    ·rename_i v' u' hrun;cases hg;refine DGo.one hd (.inl ⟨hgd,.op hrun⟩) ?_;rw [hgd] at hrec;exact hrec
    ·cases hg
   ·rename_i hgd;cases hg;refine DGo.one hd (.inr ⟨hgd,rfl⟩) ?_;rw [hgd] at hrec;exact hrec
   ·cases hg
theorem DGo.upto {ops:Array Oper} {K:List Evt→St→Prop} {o:Oper} {l l1 l2:List Oper} {acc acc':List Evt} {st':St} (hs:spl l=(o :: l1,l2)) (hr:qn1 C.P C.N C.B ops (o :: l1) st acc=(acc',st',[]))
  (h:DGo C ops l2 st' acc' K):DGo C ops l st acc K:=by
 have e:=q4p l;rw [hs] at e;rw [←e];exact DGo.append h _ _ _ hr
theorem DGo.gt {ops:Array Oper} {K:List Evt→St→Prop} {o:Oper} {rest:List Oper} {acc:List Evt} {v:AV} {u:Upd} {rs:List Nat} (hg:qbq ops st.env o=some true) (hd:qdm C.N o=true)
  (hr:(aop C.P C.B (ev st.env) o).run (qa4 st.heap)=some (v,u)) (hrs:(aop C.P C.B (ev st.env) o).reads (qa4 st.heap)=rs) (h:DGo C ops rest ⟨qig st.env o.dst v,qyu st.heap u⟩ (⟨v,u,rs⟩ :: acc) K):DGo C ops (o :: rest) st acc K:=by
 subst hrs;exact DGo.one hd (.inl ⟨hg,.op hr⟩) h
theorem DGo.gf {ops:Array Oper} {K:List Evt→St→Prop} {o:Oper} {rest:List Oper} {acc:List Evt} (hg:qbq ops st.env o=some false) (hd:qdm C.N o=true)
  (h:DGo C ops rest ⟨qig st.env o.dst (.p (.tup [])),st.heap⟩ (⟨.p (.tup []),none,[]⟩ :: acc) K):DGo C ops (o :: rest) st acc K :=
 DGo.one hd (.inr ⟨hg,rfl⟩) h
theorem Does.env {o:Oper} {ρ:Operand→AV} {ρ':Operand→AV} {σ:Nat→AO} {e:Evt} (h:Does C o ρ σ e) (he:ρ'=ρ):Does C o ρ' σ e:=he ▸ h
theorem DCh.known {ops:Array Oper} {l:List Oper} {es:List Evt} {st st' st1:St} (h:DCh C ops l st1 es st') (hg:st1.env.get=st.env.get) (hh:st1.heap=st.heap):∃st'',DCh C ops l st es st''∧st'.env.get=st''.env.get∧st'.heap=st''.heap:=by
 induction h generalizing st with
 | nil=>exact ⟨st,.nil,hg,hh⟩
 | @cons o rest st1 e es st' hd h hr ih =>
  obtain ⟨st'',h1,h2⟩:=ih (st:=⟨qig st.env o.dst e.v,qyu st.heap e.u⟩) (by simp only [q6a,hg]) (by simp only [hh]);have e1:ev st1.env=ev st.env:=by rw [←q57,←q57,hg]
  have e2:qbq ops st1.env o=qbq ops st.env o:=by rw [←qum,←qum,hg]
  refine ⟨st'',.cons hd ?_ h1,h2⟩;rw [e1,e2,show st1.sig=st.sig from congrArg qa4 hh] at h;exact h
def DK (C:Cx) (l:Array Oper) (Q:Exit→St→Prop):List Evt→St→Prop:=fun es st'=>qz6 l es=true∧∀inj a w,SR C st' inj a w→vps C Q .normal a w
theorem DK.congr {l:Array Oper} (es:List Evt) (s s':St) (h1:s.env.get=s'.env.get) (h2:s.heap=s'.heap) (h:DK C l Q es s):DK C l Q es s':=by
 refine ⟨h.1,fun inj a w hs=>h.2 inj a w ?_⟩;obtain ⟨e,hp⟩:=s;obtain ⟨e',hp'⟩:=s';simp only at h1 h2;subst h2;exact ⟨fun t=>by show AR _ _ _ _ (e.get t) _;rw [h1];exact hs.env t,hs.size,hs.defers,hs.hr,hs.ev⟩
theorem q3g {id:Nat} {l:List Oper} (hm:C.P.follows .mixedOrders=true) (hsl:qn0 l.toArray=true) (h:DGo C l.toArray l st [] (DK C l.toArray Q)):AWp C (.region id l.toArray true) Q st:=by
 obtain ⟨es,st',h1,h2⟩:=h;have h3:AWp C (.region id l.toArray true) (fun e s=>e=.normal∧s=st') st:=vi1 hm h1 hsl (by simpa using h2.1) ⟨rfl,rfl⟩;intro inj a w hs;refine wp_mono (h3 inj a w hs) ?_;rintro e a' w' ⟨s,i,k1,rfl,rfl⟩;exact h2.2 i a' w' k1
theorem DGo.fin {l:Array Oper} {acc:List Evt} (hev:qz6 l acc.reverse=true) (h:Q .normal st):DGo C l [] st acc (DK C l Q):=DGo.done ⟨hev,fun inj a w hs=>⟨st,inj,hs,h⟩⟩
structure Con (D:Prop) (P:Program) (k:FuncId) (args:List PV) (r:PV):Prop where
 body:HasBody P k
 pure:vvl D P k args r
theorem Con.of {P:Program} {k:FuncId} {args:List PV} {r r':PV} (h:Con D P k args r) (e:r=r'):Con D P k args r':=e ▸ h
theorem vwe {ops:Array Oper} {o:Oper} {rest:List Oper} {f:Operand} {args:Array Operand} {ats:Array TypeId} {k:FuncId} {avs:List AV} {pargs:List PV} {r:PV}
  (ho:o.op=.call ⟨.value f,args,ats⟩) (hg:qbq ops st.env o=some true) (hd:qdm C.N o=true)
  (hc:qby st.env f args.toList=some (k,avs)) (hv:(qa1 (qe8 (fun _=>true) 9) avs).run (qa4 st.heap)=some pargs) (hp:Con C.D C.P k pargs r) (hfl:(qsu avs).isSome=true∨r.flat=true)
  (h:AL C ops rest Q ⟨qig st.env o.dst (.p r),st.heap⟩):AL C ops (o :: rest) Q st :=
 vqm hp.pure ho hg hd hp.body hc hv hfl h
theorem DGo.con {ops:Array Oper} {K:List Evt→St→Prop} {o:Oper} {f:Operand} {args:Array Operand} {ats:Array TypeId} {rest:List Oper} {acc:List Evt}
  {k:FuncId} {avs:List AV} {pargs:List PV} {r:PV} {rs:List Nat}
  (ho:o.op=.call ⟨.value f,args,ats⟩) (hg:qbq ops st.env o=some true) (hd:qdm C.N o=true)
  (hc:qby st.env f args.toList=some (k,avs)) (hv:(qa1 (qe8 (fun _=>true) 9) avs).run (qa4 st.heap)=some pargs) (hrs:(qa1 (qe8 (fun _=>true) 9) avs).reads (qa4 st.heap)=rs)
  (hp:Con C.D C.P k pargs r) (hfl:(qsu avs).isSome=true∨r.flat=true)
  (h:DGo C ops rest ⟨qig st.env o.dst (.p r),st.heap⟩ (⟨.p r,none,rs⟩ :: acc) K):DGo C ops (o :: rest) st acc K:=by
 subst hrs;exact DGo.one hd (.inl ⟨hg,.call hp.pure ho hp.body (by rw [qr7];exact hc) hv hfl⟩) h
theorem qr8 {P:Program} {fn:Func} {r:PV} {s:St} {v:AV} (h1:vl7 P s fn.results.toList=some v) (h2:(qe8 (fun _=>true) 9 v).run s.sig=some r):vui P fn r .ret s:=⟨.inr rfl,v,h1,h2⟩
theorem qbf {ops:Array Oper} {env:Env} {o:Oper} (h:o.guard=none):qbq ops env o=some true:=by
 unfold qbq;rw [h]
theorem vf1 {ops:Array Oper} {env:Env} {o:Oper} {j d:Nat} {b:Bool} (h:o.guard=some (j,b)) (hd:q1d ops o=some d) (hv:env.get d=.p (.bool b)):qbq ops env o=some true:=by
 unfold q1d at hd;unfold qbq;rw [h] at hd ⊢;simp only [v1r] at hd;simp only [hd,hv,beq_self_eq_true]
theorem vwf {ops:Array Oper} {o:Oper} {rest:List Oper} {st':St} (hg:qbq ops st.env o=some true) (hd:qdm C.N o=true)
  (hr:((aop C.P C.B (ev st.env) o).run (qa4 st.heap)).map (fun vu=>(⟨qig st.env o.dst vu.1,qyu st.heap vu.2⟩:St))=some st') (h:AL C ops rest Q st'):AL C ops (o :: rest) Q st:=by
 cases hx:(aop C.P C.B (ev st.env) o).run (qa4 st.heap) with
 | none=>rw [hx] at hr;cases hr
 | some vu =>
  rw [hx] at hr;simp only [v1w,v1x] at hr;subst hr;exact AL_gt hg hd hx h
theorem DGo.gt' {ops:Array Oper} {K:List Evt→St→Prop} {o:Oper} {rest:List Oper} {acc:List Evt} {st':St} {e:Evt} (hg:qbq ops st.env o=some true) (hd:qdm C.N o=true)
  (hr:((aop C.P C.B (ev st.env) o).run (qa4 st.heap)).map (fun vu=>((⟨vu.1,vu.2,(aop C.P C.B (ev st.env) o).reads (qa4 st.heap)⟩:Evt),(⟨qig st.env o.dst vu.1,qyu st.heap vu.2⟩:St)))=some (e,st'))
  (h:DGo C ops rest st' (e :: acc) K):DGo C ops (o :: rest) st acc K:=by
 cases hx:(aop C.P C.B (ev st.env) o).run (qa4 st.heap) with
 | none=>rw [hx] at hr;cases hr
 | some vu =>
  rw [hx] at hr;simp only [v1w,v1x,v1y] at hr;obtain ⟨rfl,rfl⟩:=hr;exact DGo.gt hg hd hx rfl h
theorem vrt {ops:Array Oper} {o:Oper} {rest:List Oper} {f:Operand} {args:Array Operand} {ats:Array TypeId} {k:FuncId} {avs:List AV} {pargs:List PV} {r:PV} {st':St}
  (ho:o.op=.call ⟨.value f,args,ats⟩) (hg:qbq ops st.env o=some true) (hd:qdm C.N o=true)
  (hc:qby st.env f args.toList=some (k,avs)) (hv:(qa1 (qe8 (fun _=>true) 9) avs).run (qa4 st.heap)=some pargs) (hp:Con C.D C.P k pargs r) (hfl:(qsu avs).isSome=true∨r.flat=true)
  (hs:(⟨qig st.env o.dst (.p r),st.heap⟩:St)=st') (h:AL C ops rest Q st'):AL C ops (o :: rest) Q st:=by
 subst hs;exact vwe ho hg hd hc hv hp hfl h
theorem DGo.con' {ops:Array Oper} {K:List Evt→St→Prop} {o:Oper} {f:Operand} {args:Array Operand} {ats:Array TypeId} {rest:List Oper} {acc:List Evt}
  {k:FuncId} {avs:List AV} {pargs:List PV} {r:PV} {rs:List Nat} {st':St}
  (ho:o.op=.call ⟨.value f,args,ats⟩) (hg:qbq ops st.env o=some true) (hd:qdm C.N o=true)
  (hc:qby st.env f args.toList=some (k,avs)) (hv:(qa1 (qe8 (fun _=>true) 9) avs).run (qa4 st.heap)=some pargs) (hrs:(qa1 (qe8 (fun _=>true) 9) avs).reads (qa4 st.heap)=rs)
  (hp:Con C.D C.P k pargs r) (hfl:(qsu avs).isSome=true∨r.flat=true)
  (hs:(⟨qig st.env o.dst (.p r),st.heap⟩:St)=st') (h:DGo C ops rest st' (⟨.p r,none,rs⟩ :: acc) K):DGo C ops (o :: rest) st acc K:=by
 subst hs;exact DGo.con ho hg hd hc hv hrs hp hfl h
theorem qie {ops:Array Oper} {env:Env} {o:Oper} {j d:Nat} {b b':Bool} (h:o.guard=some (j,b)) (hd:q1d ops o=some d) (hv:env.get d=.p (.bool b')) (hx:b'=b):qbq ops env o=some true :=
 vf1 h hd (by rw [hv,hx])
end Go.Ab
namespace Go.Ab
open Go
variable {C:Cx} {Q:Exit→St→Prop} {st:St}
theorem vru {ops:Array Oper} {d:Option Tmp} {k:FuncId} {x y:Operand} {ats:Array TypeId} {ty:TypeId} {pos:String} {af:Array Edge} {rest:List Oper} {a b:List UInt8} {r:Int}
  (hk:∀w,(callFunc k #[.string ⟨a.toArray⟩,.string ⟨b.toArray⟩]).run C.P w=.ok (.value (.int .i64 r)) w)
  (hx:ev st.env x=.p (.str a)) (hy:ev st.env y=.p (.str b)) (hd:qdm C.N ⟨d,.call ⟨.value (.func k),#[x,y],ats⟩,ty,pos,af,none⟩=true)
  (h:AL C ops rest Q ⟨qig st.env d (.p (.int .i64 r)),st.heap⟩):AL C ops (⟨d,.call ⟨.value (.func k),#[x,y],ats⟩,ty,pos,af,none⟩ :: rest) Q st:=by
 intro inj act w hs;simp only [wpList,qef (ops:=ops) (o:=⟨d,.call ⟨.value (.func k),#[x,y],ats⟩,ty,pos,af,none⟩) hs (qbf rfl),if_true];refine .inl ?_;have e1:=hs.eval x;have e2:=hs.eval y;rw [hx] at e1;rw [hy] at e2;simp only [AR,PR] at e1 e2;have hrun:(execOp act.eval ⟨d,.call ⟨.value (.func k),#[x,y],ats⟩,ty,pos,af,none⟩).run C.P w=.ok (.value (.int .i64 r)) w:=by
  simp only [execOp,resolve,Deferred.ofValue,Act.eval,v11,v12,v1z,invoke];have:(#[]++#[x,y].map act.eval++#[]:Array Value)=#[.string ⟨a.toArray⟩,.string ⟨b.toArray⟩]:=by simp [e1,e2]
  rw [show (#[]++#[x,y].map act.eval++#[]:Array Value)=#[.string ⟨a.toArray⟩,.string ⟨b.toArray⟩] from this,hk]
 unfold Oper.wp;rw [hrun];simp only [Oper.upon];exact h inj _ _ (hs.put (u:=none) hd hs.hr (Ev.refl _ _ _ _) rfl)
@[go_sem] theorem range0:v0z 0=[]:=rfl
@[go_sem] theorem range1:v0z 1=[0]:=rfl
@[go_sem] theorem range2:v0z 2=[0,1]:=rfl
@[go_sem] theorem range3:v0z 3=[0,1,2]:=rfl
@[go_sem] theorem range4:v0z 4=[0,1,2,3]:=rfl
@[go_sem] theorem range5:v0z 5=[0,1,2,3,4]:=rfl
@[go_sem] theorem range6:v0z 6=[0,1,2,3,4,5]:=rfl
@[go_sem] theorem range7:v0z 7=[0,1,2,3,4,5,6]:=rfl
@[go_sem] theorem range8:v0z 8=[0,1,2,3,4,5,6,7]:=rfl
@[go_sem] theorem range9:v0z 9=[0,1,2,3,4,5,6,7,8]:=rfl
@[go_sem] theorem range10:v0z 10=[0,1,2,3,4,5,6,7,8,9]:=rfl
@[go_sem] theorem range11:v0z 11=[0,1,2,3,4,5,6,7,8,9,10]:=rfl
@[go_sem] theorem range12:v0z 12=[0,1,2,3,4,5,6,7,8,9,10,11]:=rfl
@[go_sem] theorem range13:v0z 13=[0,1,2,3,4,5,6,7,8,9,10,11,12]:=rfl
@[go_sem] theorem range14:v0z 14=[0,1,2,3,4,5,6,7,8,9,10,11,12,13]:=rfl
@[go_sem] theorem range15:v0z 15=[0,1,2,3,4,5,6,7,8,9,10,11,12,13,14]:=rfl
@[go_sem] theorem range16:v0z 16=[0,1,2,3,4,5,6,7,8,9,10,11,12,13,14,15]:=rfl
end Go.Ab
namespace Go.Ab
open Go
inductive LS (σ τ:Type) where
 | next (s:σ)
 | done (t:τ)
section
variable {σ τ:Type}
def qv8 (B:σ→Option (LS σ τ)):Nat→σ→Option τ
 | 0,_=>none
 | n+1,s=>match B s with
  | some (.next s')=>qv8 B n s'
  | some (.done t)=>some t
  | none=>none
theorem q4q (B:σ→Option (LS σ τ)):∀(n:Nat) (s:σ) (t:τ),qv8 B n s=some t→qv8 B (n+1) s=some t
 | 0,_,_,h=>by cases h
 | n+1,s,t,h=>by
  rw [qv8] at h ⊢;split
  ·rename_i s' hs;rw [hs] at h;exact q4q B n s' t h
  ·rename_i t' hs;rw [hs] at h;exact h
  ·rename_i hs;rw [hs] at h;cases h
theorem vdp {B:σ→Option (LS σ τ)} {n m:Nat} {s:σ} {t:τ} (h:qv8 B n s=some t) (hm:n≤m):qv8 B m s=some t:=by
 induction hm with
 | refl=>exact h
 | step _ ih=>exact q4q B _ s t ih
open Classical in
def qae (B:σ→Option (LS σ τ)) (s:σ):Option τ:=if h:∃t n,qv8 B n s=some t then some h.choose else none
theorem vb7 {B:σ→Option (LS σ τ)} {n:Nat} {s:σ} {t:τ} (h:qv8 B n s=some t):qae B s=some t:=by
 have hx:∃t n,qv8 B n s=some t:=⟨t,n,h⟩;unfold qae;rw [dif_pos hx];obtain ⟨m,hm⟩:=hx.choose_spec;have h1:=vdp h (Nat.le_max_left n m);have h2:=vdp hm (Nat.le_max_right n m);rw [h1] at h2;exact h2.symm
theorem q1e {B:σ→Option (LS σ τ)} {s:σ} {t:τ} (h:qae B s=some t):∃n,qv8 B n s=some t:=by
 unfold qae at h;split at h
 ·rename_i hx;obtain ⟨m,hm⟩:=hx.choose_spec;simp only [v1x] at h;exact ⟨m,by rw [←h];exact hm⟩
 ·cases h
theorem qac {B:σ→Option (LS σ τ)} {s s':σ} (h:B s=some (.next s')):qae B s=qae B s':=by
 cases h1:qae B s' with
 | some t =>
  obtain ⟨n,hn⟩:=q1e h1;exact vb7 (n:=n+1) (by rw [qv8,h];exact hn)
 | none =>
  cases h2:qae B s with
  | none=>rfl
  | some t =>
   obtain ⟨n,hn⟩:=q1e h2;cases n with
   | zero=>cases hn
   | succ n =>
    rw [qv8,h] at hn;rw [vb7 hn] at h1;cases h1
theorem qad {B:σ→Option (LS σ τ)} {s:σ} {t:τ} (h:B s=some (.done t)):qae B s=some t:=vb7 (n:=1) (by rw [qv8,h])
end
variable {C:Cx} {Q:Exit→St→Prop} {st:St}
def Wk (C:Cx) (Q:Exit→St→Prop) (e:Exit) (s:St):Prop:=Q e s∨∃s',Le C s s'∧Q e s'
theorem Wk.now {e:Exit} {s:St} (h:Q e s):Wk C Q e s:=.inl h
theorem Wk.to {e:Exit} {s s':St} (h:Le C s s') (h':Q e s'):Wk C Q e s:=.inr ⟨s',h,h'⟩
theorem q0i {c:Code} {T:Exit→St→Prop} (h:AWp C c T st) (hq:∀e s,T e s→Wk C Q e s):AWp C c Q st:=fun inj a w hs =>
 wp_mono (h inj a w hs) fun e a w ⟨s,i,h1,h2⟩=>by
  rcases hq e s h2 with h3 | ⟨s',h3,h4⟩
  ·exact ⟨s,i,h1,h3⟩
  ·exact ⟨s',_,h3.sr h1,h4⟩
theorem vm4 {x y:Code} {T:Exit→St→Prop} (h:AWp C x T st) (hq:∀e s,T e s→Wk C (qz5 (fun s=>AWp C y Q s) Q) e s):AWp C (.seq x y) Q st :=
 qki (q0i h hq)
def LP {σ τ:Type} (C:Cx) (S:σ→St) (T:τ→Exit→St→Prop):LS σ τ→Exit→St→Prop
 | .next s',e,st'=>e=.normal∧Le C st' (S s')
 | .done t,e,st'=>T t e st'
theorem vf2 {σ τ:Type} {c:Code} {B:σ→Option (LS σ τ)} {s0:σ} {t:τ} (S:σ→St) (T:τ→Exit→St→Prop) (hn:∀t s,¬T t .normal s) (hL:qae B s0=some t) (h0:Le C st (S s0))
  (round:∀s x,B s=some x→AWp C c (LP C S T x) (S s)) (post:∀e s,T t e s→Wk C Q e s):AWp C (.loop c) Q st:=by
 refine q0i (T:=T t) ?_ post;obtain ⟨n,hN⟩:=q1e hL;refine qq6 h0 (vms (fun (g:Nat×σ) s=>qv8 B g.1 g.2=some t∧s=S g.2) (fun g=>g.1) (n,s0) ⟨hN,rfl⟩ ?_);rintro ⟨k,s⟩ st' ⟨hk,rfl⟩;simp only at hk ⊢;cases k with
 | zero=>cases hk
 | succ k =>
  rw [qv8] at hk;cases hB:B s with
  | none=>rw [hB] at hk;cases hk
  | some x =>
   rw [hB] at hk;intro inj a w hs;refine wp_mono (round s x hB inj a w hs) ?_;rintro e a w ⟨s1,i,h1,hq⟩;cases x with
   | next s' =>
    obtain ⟨rfl,hle⟩:=hq;exact ⟨S s',_,hle.sr h1,(k,s'),⟨hk,rfl⟩,Nat.lt_succ_self k⟩
   | done t' =>
    simp only [v1x] at hk;subst hk;cases e with
    | normal=>exact (hn _ _ hq).elim
    | _=>exact ⟨s1,i,h1,hq⟩
theorem vdq {c:Operand} {x y:Code} (hc:ev st.env c=.p (.bool true)) (h:AWp C x Q st):AWp C (.cond c x y) Q st:=vdm hc (fun _=>h) (fun hb=>Bool.noConfusion hb)
theorem vdr {c:Operand} {x y:Code} (hc:ev st.env c=.p (.bool false)) (h:AWp C y Q st):AWp C (.cond c x y) Q st:=vdm hc (fun hb=>Bool.noConfusion hb) (fun _=>h)
theorem q6c {ops:Array Oper} {l:List Oper} (n:Nat) {st':St} (hr:qsw C.P C.N C.B ops (l.take n) st=(st',[])) (h:AL C ops (l.drop n) Q st'):AL C ops l Q st:=by
 rw [←v3g n l];exact qoi h _ _ hr
def idx {α:Type} (l:List α) (i:Int):Option α:=if 0≤i then l[i.toNat]? else none
theorem vm5 {α:Type} {l:List α} {i:Int} {x:α} (h:idx l i=some x):0≤i∧l[i.toNat]?=some x∧i < (l.length:Int):=by
 unfold idx at h;split at h
 ·rename_i h0;refine ⟨h0,h,?_⟩;have:=(v0b.1 h).1;omega
 ·cases h
theorem vb8 {α:Type} (l:List α) (k:Nat):idx l (k:Int)=l[k]?:=by simp [idx]
theorem qan {α:Type} {l:List α} {k:Nat} {x:α} (h:l[k]?=some x):k < l.length:=(v0b.1 h).1
def qal (n b:Nat):Bool:=decide (n * b≤140737488355328∧n≤9223372036854775807)
@[go_sem] theorem roomOk_B (P:Program) (e n:Nat):qvt P e n=qal n (P.bytesOf e):=rfl
theorem vi2 (x:PV) (r:List AV):qsu (.p x :: r)=(qsu r).map (x :: ·):=by
 show (match qsu r with | some xs=>some (x :: xs) | none=>none)=_;cases qsu r <;> rfl
@[go_sem] theorem allP_map (xs:List PV):qsu (xs.map .p)=some xs:=by
 induction xs with
 | nil=>rfl
 | cons x r ih=>rw [v0p,vi2,ih];rfl
theorem qk2 {α:Type} (f:α→PV) (sz:Nat) (xs:List α) (h:∀x,((f x).isTup=false∧(f x).cells.length=sz)):((xs.map f).map AV.p).all (qjf sz)=true:=by
 rw [v2b];intro y hy;simp only [List.map_map,v3a,Function.comp_apply] at hy;obtain ⟨x,_,rfl⟩:=hy;simp [qjf,AV.known,AV.cells,(h x).1,(h x).2]
@[go_sem] theorem AVs_app (xs ys:List PV):xs.map AV.p++ys.map AV.p=(xs++ys).map AV.p:=by simp
@[go_sem] theorem AVs_app1 (xs:List PV) (y:PV):xs.map AV.p++[AV.p y]=(xs++[y]).map AV.p:=by simp
@[go_sem] theorem vrv (σ σ':Nat→AO) (xs ys:List PV):qpn σ σ' (xs.map .p) (ys.map .p)=(xs=ys):=by
 apply propext;constructor
 ·intro h
  induction ys generalizing xs with
  | nil =>
   simp only [v0q,qpn] at h;exact List.map_eq_nil_iff.1 h
  | cons y ys ih =>
   cases xs with
   | nil=>exact h.elim
   | cons x xs =>
    simp only [v0p,q06,vib] at h;rw [h.1,ih xs h.2]
 ·rintro rfl;exact q8z σ σ' xs
@[go_sem] theorem LeVs_0p (σ σ':Nat→AO) (ys:List PV):qpn σ σ' [] (ys.map .p)=([]=ys):=vrv σ σ' [] ys
attribute [go_sem] v1f List.take_length v1q v1b v0h v0c Int.le_refl
@[go_sem] theorem take_map {α β:Type} (f:α→β) (l:List α) (n:Nat):(l.map f).take n=(l.take n).map f:=by rw [List.map_take]
@[go_sem] theorem drop_map {α β:Type} (f:α→β) (l:List α) (n:Nat):(l.map f).drop n=(l.drop n).map f:=by rw [List.map_drop]
def qap {α:Type} (f:α→PV) (l:List α):PV:=.slc (l.map f)
@[go_sem] theorem encL_eq {α:Type} (f:α→PV) (l:List α):qap f l=.slc (l.map f):=rfl
theorem qab {c:Prop} [Decidable c] {α:Type} {a:Option α} {r:α} (h:(if c then a else none)=some r):c∧a=some r:=by
 split at h
 ·exact ⟨‹c›,h⟩
 ·cases h
theorem qpy {c:Prop} [Decidable c] {α:Type} {a:Option α} {r:α} (h:(if c then none else a)=some r):¬c∧a=some r:=by
 split at h
 ·cases h
 ·exact ⟨‹¬c›,h⟩
end Go.Ab
namespace Go.Ab
theorem vm6 {α:Type} {l:List α} {o n k:Nat} {x:α} (h:((l.drop o).take n)[k]?=some x):l[o+k]?=some x∧k < n:=by
 have h1:=(v0b.1 h).1;simp only [v0n,v0i] at h1;rw [List.getElem?_take_of_lt (by omega),vz8] at h;exact ⟨h,by omega⟩
theorem vrw {n:Nat} {i:Int} (h:i.toNat < n) (h0:0≤i):i < (n:Int):=by omega
def qv9 (l:List Int):List UInt8:=l.map fun n=>UInt8.ofNat n.toNat
@[go_sem] theorem vrx:qqk []=some []:=rfl
@[go_sem] theorem vpw (n:Int) (r:List AV):qqk (.p (.int .u8 n) :: r)=(qqk r).map (UInt8.ofNat n.toNat :: ·):=rfl
@[go_sem] theorem vry:qv9 []=[]:=rfl
@[go_sem] theorem vpx (n:Int) (l:List Int):qv9 (n :: l)=UInt8.ofNat n.toNat :: qv9 l:=rfl
@[go_sem] theorem vrz (l m:List Int):qv9 (l++m)=qv9 l++qv9 m:=by simp [qv9]
@[go_sem] theorem ok_int (k:IntKind) (l:List Int):((l.map (PV.int k)).map AV.p).all (qjf 1)=true:=qk2 _ _ _ fun _=>⟨rfl,rfl⟩
@[go_sem] theorem ok_str (l:List (List UInt8)):((l.map PV.str).map AV.p).all (qjf 1)=true:=qk2 _ _ _ fun _=>⟨rfl,rfl⟩
@[go_sem] theorem ok_list {α:Type} (f:α→PV) (l:List (List α)):((l.map (qap f)).map AV.p).all (qjf 1)=true:=qk2 _ _ _ fun _=>⟨rfl,rfl⟩
@[go_sem] theorem sl_int (k:IntKind) (l:List Int):((l.map (PV.int k)).all fun y=>y.cells.length == 1)=true:=by simp [PV.cells]
@[go_sem] theorem sl_bool (l:List Bool):((l.map PV.bool).all fun y=>y.cells.length == 1)=true:=by simp [PV.cells]
@[go_sem] theorem sl_str (l:List (List UInt8)):((l.map PV.str).all fun y=>y.cells.length == 1)=true:=by simp [PV.cells]
@[go_sem] theorem sl_list {α:Type} (f:α→PV) (l:List (List α)):((l.map (qap f)).all fun y=>y.cells.length == 1)=true:=by simp [PV.cells,qap]
attribute [go_sem] v1p
end Go.Ab
namespace Go.Ab
open Go
variable {C:Cx} {Q:Exit→St→Prop} {st:St}
theorem qxi {ops:Array Oper} {d:Option Tmp} {t:TypeId} {x y:Operand} {yt:TypeId} {ty:TypeId} {pos:String} {af:Array Edge} {rest:List Oper} {l:List PV} {e:TypeId}
  (hx:ev st.env x=.p (.slc l)) (hy:ev st.env y=.nils) (hu:C.P.underlying t=some (.slice e)) (hd:qdm C.N ⟨d,.binOp .eql t x y yt,ty,pos,af,none⟩=true)
  (h:∀b,(l≠[]→b=false)→AL C ops rest Q ⟨qig st.env d (.p (.bool b)),st.heap⟩):AL C ops (⟨d,.binOp .eql t x y yt,ty,pos,af,none⟩ :: rest) Q st:=by
 intro inj act w hs;simp only [wpList,qef (ops:=ops) (o:=⟨d,.binOp .eql t x y yt,ty,pos,af,none⟩) hs (qbf rfl),if_true];refine .inl ?_;have e1:=hs.eval x;have e2:=hs.eval y;rw [hx] at e1;rw [hy] at e2;simp only [AR,PR] at e1 e2;obtain ⟨a,cap,vs,hv,hc,h1,h2⟩:=e1;have hg:(eqGuard .eql t x y (.slice a l.length cap) (.slice none 0 0)).run C.P w=.ok () w:=by simp [eqGuard]
 refine qzn (s:=do eqGuard .eql t x y (act.eval x) (act.eval y);binOp .eql t (act.eval x) (act.eval y)) (val:=.bool a.isNone) (w':=w) rfl ?_ ?_
 ·rw [hv,e2];simp only [v11,hg,v1z];exact vzt w t e _ _ _ _ _ hu
 ·refine h a.isNone (fun hne=>?_) inj _ _ (hs.put (u:=none) hd hs.hr (Ev.refl _ _ _ _) rfl);rcases h2 with h2 | ⟨b,o,sz,ha,_⟩
  ·subst h2;have:=h1.length;simp at this;exact (hne this).elim
  ·rw [ha];rfl
def q1f (N:Nat) (ops:Array Oper):List Oper→Env→List Oper×Env
 | [],env=>([],env)
 | o :: r,env=>match o.guard with
  | none=>(o :: r,env)
  | some _=>match qdm N o,qbq ops env o with
   | true,some false=>q1f N ops r (qig env o.dst (.p (.tup [])))
   | _,_=>(o :: r,env)
theorem vds {ops:Array Oper}:∀{l l':List Oper} {env env':Env} {h:List (Nat×AO)},q1f C.N ops l env=(l',env')→AL C ops l' Q ⟨env',h⟩→AL C ops l Q ⟨env,h⟩
 | [],_,_,_,_,he,k=>by
  simp only [q1f,v1y] at he;obtain ⟨rfl,rfl⟩:=he;exact k
 | o :: r,l',env,env',hp,he,k=>by
  simp only [q1f] at he;split at he
  ·simp only [v1y] at he;obtain ⟨rfl,rfl⟩:=he;exact k
  ·split at he
   ·rename_i h1 h2;exact vh7 h2 h1 (vds he k)
   ·simp only [v1y] at he;obtain ⟨rfl,rfl⟩:=he;exact k
theorem vm7 {ops:Array Oper} {l:List Oper} {d:Nat} {v:AV} {h:List (Nat×AO)} {env:Env} (hv:env.get d=v) (k:AL C ops l Q ⟨(d,v) :: env,h⟩):AL C ops l Q ⟨env,h⟩:=fun inj a w hs=>k inj a w (SR.known hv hs)
def qxj (N:Nat) (ops:Array Oper):List Oper→Env→List Evt→List Oper×Env×List Evt
 | [],env,acc=>([],env,acc)
 | o :: r,env,acc=>match o.guard with
  | none=>(o :: r,env,acc)
  | some _=>match qdm N o,qbq ops env o with
   | true,some false=>qxj N ops r (qig env o.dst (.p (.tup []))) (⟨.p (.tup []),none,[]⟩ :: acc)
   | _,_=>(o :: r,env,acc)
theorem DGo.skips {l0:Array Oper} {K:List Evt→St→Prop}:∀{l l':List Oper} {env env':Env} {acc acc':List Evt} {h:List (Nat×AO)},qxj C.N l0 l env acc=(l',env',acc')→DGo C l0 l' ⟨env',h⟩ acc' K→DGo C l0 l ⟨env,h⟩ acc K
 | [],_,_,_,_,_,_,he,k=>by
  simp only [qxj,v1y] at he;obtain ⟨rfl,rfl,rfl⟩:=he;exact k
 | o :: r,l',env,env',acc,acc',hp,he,k=>by
  simp only [qxj] at he;split at he
  ·simp only [v1y] at he;obtain ⟨rfl,rfl,rfl⟩:=he;exact k
  ·split at he
   ·rename_i h1 h2;exact DGo.gf h2 h1 (DGo.skips he k)
   ·simp only [v1y] at he;obtain ⟨rfl,rfl,rfl⟩:=he;exact k
theorem DGo.known' {l0:Array Oper} {l:List Oper} {d:Nat} {v:AV} {h:List (Nat×AO)} {env:Env} {acc:List Evt} (hv:env.get d=v) (k:DGo C l0 l ⟨(d,v) :: env,h⟩ acc (DK C l0 Q)):DGo C l0 l ⟨env,h⟩ acc (DK C l0 Q):=by
 obtain ⟨es,st',k1,k2⟩:=k;obtain ⟨st'',k3,k4,k5⟩:=k1.known (st:=⟨env,h⟩) (q89 env hv) rfl;exact ⟨es,st'',k3,DK.congr _ _ _ k4 k5 k2⟩
end Go.Ab
namespace Go.Ab
variable {D:Prop}
open Go
structure Bulk (b:(H:Type)→DataW H→Nat):Prop where
 str:∀(H:Type) (s:List UInt8),s.length≤b H (.lit (.string s))
 slen:∀(H:Type) (es sp:List (DataW H)),es.length≤b H (.slice es sp)
 selem:∀(H:Type) (es sp:List (DataW H)) (d:DataW H),d∈es→b H d≤b H (.slice es sp)
 part:∀(H:Type) (ps:List (DataW H)) (d:DataW H),d∈ps→b H d≤b H (.agg ps)
abbrev NoX:Nat→Prop:=fun _=>False
theorem PRs.one {X:Nat→Prop} {w:World}:∀{ps:List PV} {vs:List Value},PRs X w ps vs→(∀y∈ps,y.isAgg=false∧y.isTup=false)→qbj vs
 | [],vs,h,_=>by simp only [PRs] at h;subst h;intro u hu;cases hu
 | p :: ps,vs,h,hp=>by
  obtain ⟨v,r,rfl,h1,h2⟩:=h;have hr:=PRs.one h2 fun y hy=>hp y (v21 _ hy)
  have h0:=hp p (by simp);intro u hu;rcases v2z.1 hu with e | e
  ·subst e;cases p <;> simp only [PR] at h1 <;> first | (subst h1;rfl) | (rcases h1 with ⟨e,_⟩ | ⟨_,_,_,e,_⟩ <;> (subst e;rfl)) | (obtain ⟨_,_,_,e,_⟩:=h1;subst e;rfl) | (obtain ⟨_,_,e,_⟩:=h1;subst e;rfl) | (obtain ⟨_,e,_⟩:=h1;subst e;first | rfl | simp [PV.isAgg,PV.isTup] at h0) | simp [PV.isAgg,PV.isTup] at h0
  ·exact hr u e
structure Rd (P:Program) (b:(H:Type)→DataW H→Nat) (t:TypeId) {α:Type} (f:α→PV) (ok:α→Prop):Prop where
 cells:∀x,(f x).cells.length=P.cellsOf t
 plain:∀x,∀y∈(f x).cells,y.isAgg=false∧y.isTup=false
 agg:∀x,qaw P t=some (f x).isAgg
 read:∀{H:Type} {enc:TypeId×Value→H} {w:World} {sp:Nat→Bool} {n:Nat} {cs:List Value} {x:DataW H×List MemPlace},DataW.trod enc P w 0 sp true n t cs=some x→b H x.1≤1048576→∃a,PRs NoX w (f a).cells cs∧ok a
variable {P:Program} {b:(H:Type)→DataW H→Nat} {t:TypeId}
def ofCells (g:Bool) (cs:List Value):Value:=if g then .agg cs.toArray else cs.headD undef
theorem PR.ofCells {α:Type} {f:α→PV} {ok:α→Prop} (R:Rd P b t f ok) {w:World} {cs:List Value} {a:α} (h:PRs NoX w (f a).cells cs) :
  PR NoX w (f a) (ofCells (f a).isAgg cs)∧(ofCells (f a).isAgg cs).cells.toList=cs:=by
 have hone:=h.one (R.plain a);unfold Ab.ofCells;cases hf:f a with
 | agg ps =>
  rw [hf] at h;simp only [PV.isAgg,if_true];exact ⟨⟨cs,rfl,h,hone⟩,by simp [Value.cells]⟩
 | _ =>
  rw [hf] at h;simp only [PV.isAgg,vzo,if_false];simp only [PV.cells] at h;obtain ⟨v,r,rfl,h1,h2⟩:=h;simp only [PRs] at h2;subst h2;refine ⟨h1,?_⟩;have:=hone v (by simp);simp only [List.headD_cons];cases v <;> first | rfl | simp [Value.oneCell'] at this
theorem vi3 {k:IntKind} (hu:P.underlying t=some (.int k)) (hc:P.cellsOf t=1):Rd P b t (PV.int k) (fun n=>(Lit.int k n).wf=true):=by
 refine ⟨fun x=>by rw [hc];rfl,fun x y hy=>?_,fun x=>by simp [qaw,hu];rfl,fun h _=>?_⟩
 ·simp only [PV.cells,v3d] at hy;subst hy;exact ⟨rfl,rfl⟩
 ·obtain ⟨n,rfl,_,hw⟩:=DataW.trod_int hu h;exact ⟨n,⟨_,_,rfl,rfl,rfl⟩,hw⟩
theorem vwg (hu:P.underlying t=some .string) (hc:P.cellsOf t=1) (B:Bulk b):Rd P b t PV.str (fun s=>s.length≤1048576):=by
 refine ⟨fun x=>by rw [hc];rfl,fun x y hy=>?_,fun x=>by simp [qaw,hu];rfl,fun {H enc w sp n cs x} h hb=>?_⟩
 ·simp only [PV.cells,v3d] at hy;subst hy;exact ⟨rfl,rfl⟩
 ·cases n with
  | zero=>simp [DataW.trod] at h
  | succ n =>
   unfold DataW.trod at h;rw [hu] at h;split at h <;> simp_all;rename_i s;obtain ⟨_,rfl⟩:=h;exact ⟨s.data.toList,⟨_,_,rfl,rfl,rfl⟩,v1h (B.str H _) hb⟩
theorem vf3 {w:World} {a:Addr} {n:Nat} {cs:List Value} (h:w.cells? 0 a n=some cs):cs.length=n∧∀i u,cs[i]?=some u→w.cell? (a.add i)=some u:=by
 unfold World.cells? at h;rw [if_pos (v3n _)] at h;have hl:=(mapM_some_length h);simp only [v2t] at hl;refine ⟨hl,fun i u hu=>?_⟩;have hi:i < n:=by have:=qan hu;omega
 have:=mapM_some_get h i i (by simp [hi]);rw [this];exact hu
theorem PRs.app {X:Nat→Prop} {w:World}:∀{ps:List PV} {vs:List Value} {qs:List PV} {us:List Value},PRs X w ps vs→PRs X w qs us→PRs X w (ps++qs) (vs++us)
 | [],_,_,_,h,h'=>by simp only [PRs] at h;subst h;exact h'
 | p :: ps,_,_,_,h,h'=>by
  obtain ⟨v,r,rfl,h1,h2⟩:=h;exact ⟨v,r++_,rfl,h1,PRs.app h2 h'⟩
theorem qlv {e:TypeId} {α:Type} {f:α→PV} {ok:α→Prop} (hu:P.underlying t=some (.slice e)) (hc:P.cellsOf t=1) (hs:0 < P.cellsOf e) (B:Bulk b) (R:Rd P b e f ok) :
  Rd P b t (qap f) (fun l=>l.length≤1048576∧∀x∈l,ok x):=by
 refine ⟨fun x=>by rw [hc];rfl,fun x y hy=>?_,fun x=>by simp [qaw,hu];rfl,fun {H enc w sp n cs x} h hb=>?_⟩
 ·simp only [qap,PV.cells,v3d] at hy;subst hy;exact ⟨rfl,rfl⟩
 rcases Deep.open_slice hu h with ⟨rfl,rfl⟩ | ⟨a,len,cap,m,n',D,Pl,rfl,_,hl,hm,hmm,rfl,hx⟩
 ·exact ⟨[],⟨_,_,rfl,⟨_,_,_,rfl,v1f _,rfl,.inl rfl⟩,rfl⟩,v3n _,(fun x hx=>absurd hx (by simp))⟩
 simp only at hb;have hlen:len≤1048576:=by
  have:=B.slen H ((v0z len).map D) ((v0z (m - len)).map fun j=>D (len+j));simp only [v0j,v2t] at this;omega
 have hlm:len≤m:=by rw [hmm];split <;> omega
 have key:∀k,k≤len→∃(l:List α) (vs:List Value),l.length=k∧PRs NoX w (l.map f) vs∧(∀v∈vs,v.cells.size=P.cellsOf e)∧qbj (flat vs)∧(flat vs).length=k * P.cellsOf e ∧
   (∀j u,(flat vs)[j]?=some u→w.cell? (a.add j)=some u)∧∀x∈l,ok x:=by
  intro k
  induction k with
  | zero =>
   intro _;exact ⟨[],[],rfl,rfl,(fun v hv=>absurd hv (by simp)),(fun u hu=>absurd hu (by simp [flat])),(by simp [flat]),(fun j u hu=>absurd hu (by simp [flat])),(fun x hx=>absurd hx (by simp))⟩
  | succ k ih =>
   intro hk;obtain ⟨l,vs,h1,h2,h3,h4,h5,h6,h7⟩:=ih (by omega);obtain ⟨cs',h8,h9⟩:=hx k (by omega);have hbk:b H (D k)≤1048576:=v1h (B.selem H _ _ (D k) (v3a.2 ⟨k,v3c.2 (by omega),rfl⟩)) hb;obtain ⟨y,h10,h11⟩:=R.read h9 hbk;obtain ⟨hl8,hg8⟩:=vf3 h8;obtain ⟨h12,h13⟩:=PR.ofCells R h10;have hf:flat (vs++[ofCells (f y).isAgg cs'])=flat vs++cs':=by simp [flat,h13]
   refine ⟨l++[y],vs++[ofCells (f y).isAgg cs'],by simp [h1],?_,?_,?_,?_,?_,?_⟩
   ·rw [v0o];exact h2.app ⟨_,_,rfl,h12,rfl⟩
   ·intro v hv;rcases v0r.1 hv with hv | hv
    ·exact h3 v hv
    ·simp only [v3d] at hv;subst hv;rw [←vzf,h13,hl8]
   ·rw [hf];intro u hu;rcases v0r.1 hu with hu | hu
    ·exact h4 u hu
    ·exact h10.one (R.plain y) u hu
   ·rw [hf,v0h,h5,hl8,Nat.succ_mul]
   ·rw [hf];intro j u hu;by_cases hj:j < (flat vs).length
    ·rw [vz6 hj] at hu;exact h6 j u hu
    ·rw [vz7 (by omega),h5] at hu;have:=hg8 _ _ hu;rw [Deep.add_add] at this;have e1:k * P.cellsOf e+(j - k * P.cellsOf e)=j:=by omega
     rwa [e1] at this
   ·intro x hx;rcases v0r.1 hx with hx | hx
    ·exact h7 x hx
    ·simp only [v3d] at hx;subst hx;exact h11
 obtain ⟨l,vs,h1,h2,h3,h4,h5,h6,h7⟩:=key len (v1f _);refine ⟨l,⟨_,_,rfl,⟨some a,cap,vs,by simp [h1],by simp [h1,hl],h2,?_⟩,rfl⟩,by omega,h7⟩;by_cases h0:len=0
 ·refine .inl ?_;have:=h2.length;simp only [v0j,h1,h0] at this;exact v2q.1 this.symm
 ·have hpos:0 < (flat vs).length:=by rw [h5];exact Nat.mul_pos (by omega) hs
  have hc0:=h6 0 _ (vz9 hpos);have e0:a.add 0=a:=rfl;rw [e0] at hc0;have hspot:a=⟨a.block,a.off,none⟩∧a.block < w.heap.size:=by
   unfold World.cell? at hc0;split at hc0
   ·rename_i c e2 fr hb2;refine ⟨?_,(vzb.1 hb2).1⟩;split at hc0
    ·cases hc0
    ·rename_i hsp;cases a with
     | mk bl off spot=>cases spot <;> simp_all
   ·cases hc0
  refine .inr ⟨a.block,a.off,P.cellsOf e,by rw [←hspot.1],h3,h4,hspot.2,fun h=>h,fun j u hu=>?_⟩;have:=h6 j u hu;rw [hspot.1] at this;unfold Addr.add at this;by_cases hj:j=0
  ·subst hj;exact this
  ·rw [if_neg hj] at this;exact this
structure RdFs (P:Program) (b:(H:Type)→DataW H→Nat) (fs:List Field) {α:Type} (g:α→List PV) (ok:α→Prop):Prop where
 read:∀{H:Type} {enc:TypeId×Value→H} {w:World} {sp:Nat→Bool} {n:Nat} (cs:Field→List Value),(∀fd∈fs,∃y,DataW.trod enc P w 0 sp true n fd.type (cs fd)=some y∧b H y.1≤1048576)→∃a,PRs NoX w (g a) (fs.flatMap cs)∧ok a
theorem RdFs.nil:RdFs P b [] (fun _:Unit=>[]) (fun _=>True):=⟨fun cs h=>⟨(),rfl,trivial⟩⟩
theorem RdFs.cons {fd:Field} {fs:List Field} {α β:Type} {f:α→PV} {ok:α→Prop} {g:β→List PV} {ok':β→Prop} (R:Rd P b fd.type f ok) (R':RdFs P b fs g ok') :
  RdFs P b (fd :: fs) (fun x:α×β=>(f x.1).cells++g x.2) (fun x=>ok x.1∧ok' x.2):=⟨fun cs h=>by
 obtain ⟨y,h1,h2⟩:=h fd (by simp);obtain ⟨a,h3,h4⟩:=R.read h1 h2;obtain ⟨c,h5,h6⟩:=R'.read cs (fun fd' h'=>h fd' (by simp [h']));exact ⟨(a,c),by rw [v2g];exact h3.app h5,h4,h6⟩⟩
def vuj (P:Program):Nat→List Field→Option Nat
 | o,[]=>some o
 | o,f :: r=>if f.offset=o then vuj P (o+P.cellsOf f.type) r else none
theorem q1g {P:Program}:∀{fs:List Field} {o s:Nat} {cs:List Value},vuj P o fs=some s→cs.length=s→fs.flatMap (fun f=>(cs.drop f.offset).take (P.cellsOf f.type))=cs.drop o∧o≤s
 | [],o,s,cs,h,hl=>by
  simp only [vuj,v1x] at h;subst h;refine ⟨?_,v1f _⟩;rw [List.flatMap_nil,List.drop_of_length_le (by omega)]
 | f :: r,o,s,cs,h,hl=>by
  simp only [vuj] at h;split at h
  ·rename_i ho;obtain ⟨h1,h2⟩:=q1g h hl;refine ⟨?_,by omega⟩;rw [v2g,h1,ho,←List.drop_drop];exact v3g _ _
  ·cases h
theorem qnj {fs:Array Field} {α β:Type} {f:α→PV} {ok:α→Prop} {g:β→List PV} {ok':β→Prop} (hu:P.underlying t=some (.struct fs)) (hlay:vuj P 0 fs.toList=some (P.cellsOf t)) (B:Bulk b) (R:RdFs P b fs.toList g ok') (mk:β→α)
  (hcells:∀x,(f x).cells.length=P.cellsOf t) (hplain:∀x,∀y∈(f x).cells,y.isAgg=false∧y.isTup=false) (hagg:∀x,(f x).isAgg=true) (hmk:∀y,(f (mk y)).cells=g y) (hok:∀y,ok' y→ok (mk y)):Rd P b t f ok:=by
 refine ⟨hcells,hplain,fun x=>by rw [hagg];simp [qaw,hu],fun {H enc w sp n cs x} h hb=>?_⟩;obtain ⟨xs,m,rfl,rfl,hl,hxl,hx⟩:=DataW.trod_struct hu h;have hall:∀fd∈fs.toList,∃y,DataW.trod enc P w 0 sp true m fd.type ((cs.drop fd.offset).take (P.cellsOf fd.type))=some y∧b H y.1≤1048576:=by
  intro fd hfd;obtain ⟨i,hi⟩:=List.mem_iff_getElem?.1 hfd;have hi':fs[i]?=some fd:=by simpa using hi
  have h1:=hx i fd hi';have hlt:i < xs.length:=by rw [hxl];exact (vzb.1 hi').1
  rw [vz9 hlt] at h1;exact ⟨_,h1,v1h (B.part H _ _ (v3a.2 ⟨_,v2o hlt,rfl⟩)) hb⟩
 obtain ⟨y,h1,h2⟩:=R.read _ hall;refine ⟨mk y,?_,hok y h2⟩;rw [hmk];obtain ⟨h3,_⟩:=q1g (cs:=cs) hlay hl;rw [h3] at h1;exact h1
theorem vm8 {fs:List Field} {n:Nat} {e:TypeId} {α β:Type} {f:α→PV} {ok:α→Prop} {g:β→List PV} {ok':β→Prop} (hu:P.underlying t=some (.array n e))
  (hfs:fs.map (fun f=>(f.type,f.offset))=(v0z n).map fun i=>(e,i * P.cellsOf e)) (hlay:vuj P 0 fs=some (P.cellsOf t)) (B:Bulk b) (R:RdFs P b fs g ok') (mk:β→α)
  (hcells:∀x,(f x).cells.length=P.cellsOf t) (hplain:∀x,∀y∈(f x).cells,y.isAgg=false∧y.isTup=false) (hagg:∀x,(f x).isAgg=true) (hmk:∀y,(f (mk y)).cells=g y) (hok:∀y,ok' y→ok (mk y)):Rd P b t f ok:=by
 refine ⟨hcells,hplain,fun x=>by rw [hagg];simp [qaw,hu],fun {H enc w sp n cs x} h hb=>?_⟩;obtain ⟨xs,m,rfl,rfl,hl,hxl,hx⟩:=DataW.trod_array hu h;have hall:∀fd∈fs,∃y,DataW.trod enc P w 0 sp true m fd.type ((cs.drop fd.offset).take (P.cellsOf fd.type))=some y∧b H y.1≤1048576:=by
  intro fd hfd;have h0:(fd.type,fd.offset)∈fs.map (fun f=>(f.type,f.offset)):=v3a.2 ⟨fd,hfd,rfl⟩;rw [hfs] at h0;obtain ⟨i,hi,hi'⟩:=v3a.1 h0;obtain ⟨e1,e2⟩:=Prod.mk.inj hi';have hin:=v3c.1 hi;have h1:=hx i hin;have hlt:i < xs.length:=by rw [hxl];exact hin
  rw [vz9 hlt] at h1;rw [←e1,←e2];exact ⟨_,h1,v1h (B.part H _ _ (v3a.2 ⟨_,v2o hlt,rfl⟩)) hb⟩
 obtain ⟨y,h1,h2⟩:=R.read _ hall;refine ⟨mk y,?_,hok y h2⟩;rw [hmk];obtain ⟨h3,_⟩:=q1g (cs:=cs) hlay hl;rw [h3] at h1;exact h1
theorem Rd.val {α:Type} {f:α→PV} {ok:α→Prop} (R:Rd P b t f ok) {H:Type} {enc:TypeId×Value→H} {w:World} {sp:Nat→Bool} {base:Nat} {v:Value} {d:DataW H} {ps:List MemPlace}
  (hval:Value.okWide P w .any base t v) (h:DataW.Trod enc P w 0 sp true t v d ps) (hb:b H d≤1048576):∃a,PR NoX w (f a) v∧ok a:=by
 obtain ⟨n,hn⟩:=h;obtain ⟨a,h1,h2⟩:=R.read hn hb;refine ⟨a,?_,h2⟩;obtain ⟨h3,h4⟩:=PR.ofCells R h1;have hag:=R.agg a;have:ofCells (f a).isAgg v.cells.toList=v:=by
  unfold Ab.ofCells;unfold Value.okWide at hval;unfold qaw at hag;cases hu:P.underlying t with
  | none=>rw [hu] at hag;cases hag
  | some u =>
   rw [hu] at hag hval;have hone:=h1.one (R.plain a);cases hf:(f a).isAgg with
   | true =>
    rw [hf] at hag;simp only [if_true];cases u <;> simp at hag hval
    ·obtain ⟨cs,rfl,_⟩:=hval;simp [Value.cells]
    ·obtain ⟨cs,rfl,_⟩:=hval;simp [Value.cells]
   | false =>
    rw [hf] at hag;simp only [vzo,if_false];have hnag:∀cs,v≠.agg cs:=by
     rintro cs rfl;cases u <;> simp [Cell.okWide,Cell.ok,hu] at hval hag
    cases v <;> first | rfl | exact absurd rfl (hnag _)
 rw [this] at h3;exact h3
theorem Fr.kept {w w':World} (h:Fr D w w'):w.keptBut w' (fun _=>False):=by
 refine ⟨h.os,h.output,fun i hi=>?_⟩;rw [h.blk i hi];cases hx:w.heap[i]? with
 | none=>trivial
 | some o=>cases o <;> first | exact ⟨rfl,rfl,rfl,fun _ _=>rfl⟩ | exact .inr ⟨rfl,rfl⟩ | rfl
theorem Fr.same {w w':World} (h:Fr D w w') {p:MemPlace} (hp:p.block < w.heap.size):w.sameAt w' p:=by
 cases p with
 | cell c o=>exact World.cell?_of_block (h.blk c hp)
 | map c=>exact h.blk c hp
theorem qxk {H:Type} {enc:TypeId×Value→H} {w w':World} {base:Nat} {sp:Nat→Bool} {held:Bool}:∀{ts:List TypeId} {vs:List Value} {ds:List (DataW H)} {ps:List MemPlace},
  DataW.TrodAll enc P w base sp held ts vs ds ps→(∀p∈ps,w.sameAt w' p)→DataW.TrodAll enc P w' base sp held ts vs ds ps
 | [],[],[],_,h,_=>h
 | _ :: _,_ :: _,_ :: _,_,⟨p,q,⟨n,h1⟩,h2,e⟩,hs=>⟨p,q,⟨n,DataW.trod_carry n _ _ _ h1 fun x hx=>hs x (by rw [e];exact List.mem_append_left _ hx)⟩,qxk h2 (fun x hx=>hs x (by rw [e];exact List.mem_append_right _ hx)),e⟩
theorem vi4 {H:Type} {enc:TypeId×Value→H} {f:Func} {s:ChangeSpec} {apart fresh handsOn again:Bool} {W W':World} {args:Array Value} {v:Value} {ds gs:List (DataW H)} {qn6 pa pv:List MemPlace}
  (hW:DataW.Whole enc P f.params.toList s.vars apart W args.toList ds gs qn6)
  (hres:∀(b:Nat) (sp:Nat→Bool) (hd:Bool),DataW.TrodAll enc P W' b sp hd f.resultTypes.toList (v.resultList f.resultTypes.size) (s.fn H (ds++gs)).results [])
  (hargs:∀sp:Nat→Bool,(∀p∈qn6,sp p.block=true)→DataW.TrodAll enc P W' 0 sp true f.params.toList args.toList (s.fn H (ds++gs)).args pa)
  (hvars:∀sp:Nat→Bool,(∀p∈qn6,sp p.block=true)→DataW.TrodVars enc P W' sp s.vars (s.fn H (ds++gs)).vars pv)
  (hps:qn6=pa++pv) (hk:W.keptBut W' (·∈qn6)) (hfz:∀b off,MemPlace.cell b off∈qn6→W'.frozen? ⟨b,off,none⟩=W.frozen? ⟨b,off,none⟩)
  (hok:∀(j:Nat) (t:TypeId) (r:Value),f.resultTypes[j]?=some t→(v.resultList f.resultTypes.size)[j]?=some r→Value.okWide P W' .any 0 t r) :
  s.post enc P f apart fresh handsOn again W args v W':=by
 have hold:∀p∈qn6,(fun b=>decide (b < W.heap.size)) p.block=true:=fun p hp=>by simpa using hW.lt p hp
 refine ⟨ds,gs,qn6,[],pa,pv,hW,hres _ _ _,hargs _ hold,hvars _ hold,World.keptBut_mono (fun p hp=>⟨hp,?_⟩) hk,fun _=>?_⟩
 ·rw [hps,v0r] at hp;exact Or.inr hp
 obtain ⟨_,_,_,_,_,hz,hn⟩:=hW;refine ⟨hok,_,_,([]++pa)++pv,⟨[]++pa,pv,ChangeShapes.trodAll_append (hargs _ (fun _ _=>rfl)) (hres _ _ _),hvars _ (fun _ _=>rfl),rfl,?_,?_⟩,?_⟩
 ·intro b off hp;have hp':MemPlace.cell b off∈qn6:=by rw [hps];simpa using hp
  rw [hfz b off hp'];exact hz b off hp'
 ·intro ha;have:=hn ha;rw [hps] at this;simpa using this
 ·intro p hp _;rw [hps];simpa using hp
theorem vm9 {H:Type} {enc:TypeId×Value→H} {f:Func} {s:ChangeSpec} {W:World} {args:Array Value} {ds gs:List (DataW H)} {qn6:List MemPlace} {k:FuncId} {tb:TypeId} {pvs:List PV}
  (hW:DataW.Whole enc P f.params.toList s.vars false W args.toList ds gs qn6) (hv:s.vars=[]) (hfn:s.fn H ds={ results:=[.lit (.bool true)],args:=ds }) (hres:f.resultTypes=#[tb]) (htb:P.underlying tb=some .bool)
  (hl:laidOutB P=true) (hm:mapsRowed P=true) (hz:((v0z P.types.size).all fun t=>match P.underlying t with | some (.slice e)=>decide (0 < P.cellsOf e) | _=>true)=true) (hts:∀t∈f.params.toList,t < P.types.size)
  (hcon:Con D P k pvs (.bool true)) (htab:q0p P NoX W) (hpr:PRs NoX W pvs args.toList) :
  Calls P k args W fun e W'=>∃v,e=.returned v∧s.post enc P f false true false false W args v W':=by
 have hW':=hW;obtain ⟨p,q,hA,hV,rfl,hfz,hnd⟩:=hW;rw [hv] at hV;obtain ⟨rfl,rfl⟩:=ChangeShapes.trodVars_none hV;have hlt:=hW'.lt;simp only [vzx] at hW' hlt;have hc:=hcon.pure NoX W args.toList (fun b hb=>hb.elim) htab hpr;rw [Array.toArray_toList] at hc;refine hc.mono ?_;rintro e W' ⟨v,rfl,hv',hfr⟩;simp only [PR] at hv';subst hv';refine ⟨_,rfl,?_⟩;have K:=kids_rows hl hm;have hss:=slices_full_of P hz;refine vi4 (pa:=p) (pv:=[]) hW' ?_ ?_ ?_ (by simp) (World.keptBut_mono (fun _ h=>h.elim) hfr.kept) (fun b off hp=>hfr.fz ⟨b,off,none⟩ (hlt _ hp)) ?_
 ·intro b0 sp hd;simp only [vzx,hfn,hres];exact trodAll_cons_mk (RowKit.shut_bool htb _) ChangeShapes.trodAll_mk0
 ·intro sp hsp;simp only [vzx,hfn];exact qxk (DataW.TrodAll.respare K hss hts hA (fun x hx=>hsp x hx)) (fun x hx=>hfr.same (hlt x hx))
 ·intro sp _;rw [hv];simp only [vzx,hfn];rfl
 ·exact RowKit.ok_one hres rfl (RowKit.okWide_bool_mk htb _)
end Go.Ab
namespace Go.Ab
open Go
def qq7 {K V:Type} [DecidableEq K]:List (K×V)→K→Option V
 | [],_=>none
 | (a,v) :: r,k=>if k=a then some v else qq7 r k
def qyo {K V:Type} [DecidableEq K]:List (K×V)→K→V→List (K×V)
 | [],k,v=>[(k,v)]
 | (a,u) :: r,k,v=>if k=a then (a,v) :: r else (a,u) :: qyo r k v
def qnk {K V:Type} (f:K→PV) (m:List (K×V)):List PV:=m.map fun p=>f p.1
def qn2 {K V:Type} (f:V→PV) (m:List (K×V)):List PV:=m.map fun p=>f p.2
def encM {K V:Type} (f:K→PV) (g:V→PV) (m:List (K×V)):PV:=.mapv (qnk f m) (qn2 g m)
@[go_sem] theorem encM_eq {K V:Type} (f:K→PV) (g:V→PV) (m:List (K×V)):encM f g m=.mapv (qnk f m) (qn2 g m):=rfl
@[go_sem] theorem encK_len {K V:Type} (f:K→PV) (m:List (K×V)):(qnk f m).length=m.length:=by simp [qnk]
theorem q9a {K V:Type} [DecidableEq K] (P:Program) (kt:TypeId) (f:K→PV) (hk:∀a b,qqz P kt (f a) (f b)=some (decide (a=b))) (k:K) (m:List (K×V)) (g:V→PV):quv P kt (f k) (qnk f m) ((qn2 g m).map AV.p)=some ((qq7 m k).map fun v=>AV.p (g v)):=by
 induction m with
 | nil=>rfl
 | cons p r ih =>
  obtain ⟨a,v⟩:=p;simp only [qnk,qn2,v0p,quv,hk,qq7] at ih ⊢;by_cases h:k=a
  ·simp [h]
  ·simp only [decide_eq_false h,if_neg h];exact ih
theorem vdt {K V:Type} [DecidableEq K] (P:Program) (kt:TypeId) (f:K→PV) (hk:∀a b,qqz P kt (f a) (f b)=some (decide (a=b))) (k:K) (m:List (K×V)) (g:V→PV) (v:V):vbn P kt (f k) (.p (g v)) (qnk f m) ((qn2 g m).map AV.p)=some (qnk f (qyo m k v),(qn2 g (qyo m k v)).map AV.p):=by
 induction m with
 | nil=>rfl
 | cons p r ih =>
  obtain ⟨a,u⟩:=p;simp only [qnk,qn2,v0p,vbn,hk,qyo] at ih ⊢;by_cases h:k=a
  ·simp [h]
  ·simp only [decide_eq_false h,if_neg h,ih];rfl
theorem vi5 (P:Program) (kt:TypeId) (q:IntKind) (a b:Int):qqz P kt (.int q a) (.int q b)=some (decide (a=b)):=by
 simp only [qqz,q0s,if_true];by_cases h:a=b <;> simp [h]
@[go_sem] theorem vwh {V:Type} (P:Program) (kt:TypeId) (q:IntKind) (k:Int) (m:List (Int×V)) (f:V→PV):quv P kt (.int q k) (qnk (PV.int q) m) ((qn2 f m).map AV.p)=some ((qq7 m k).map fun v=>AV.p (f v)):=q9a P kt _ (vi5 P kt q) k m f
@[go_sem] theorem updA_int {V:Type} (P:Program) (kt:TypeId) (q:IntKind) (k:Int) (m:List (Int×V)) (f:V→PV) (v:V):vbn P kt (.int q k) (.p (f v)) (qnk (PV.int q) m) ((qn2 f m).map AV.p)=some (qnk (PV.int q) (qyo m k v),(qn2 f (qyo m k v)).map AV.p):=vdt P kt _ (vi5 P kt q) k m f v
@[go_sem] theorem getD_map {α β:Type} (F:α→β) (o:Option α) (z:α):(o.map F).getD (F z)=F (o.getD z):=by cases o <;> rfl
attribute [go_sem] Option.isSome_map
def q6d (D : Nat → Bool) (n l g : Nat) : L PV := if D l then .look l fun o => match o with
      | .map g' ks vs => if g = g' then (qa1 (qe8 D n) ks).bind fun xs => (qa1 (qe8 D n) vs).bind fun ys => .ret (.mapv xs ys) else .fail
      | _ => .fail
    else .fail
theorem vf4 (D:Nat→Bool) (l g:Nat):qe8 D 9 (.mapo l g)=q6d D 8 l g:=rfl
theorem vf5 (D:Nat→Bool) (l g:Nat):qe8 D 8 (.mapo l g)=q6d D 7 l g:=rfl
theorem vf6 (D:Nat→Bool) (l g:Nat):qe8 D 7 (.mapo l g)=q6d D 6 l g:=rfl
attribute [go_sem] vf4 vf5 vf6 q6d
end Go.Ab
namespace Go.Ab
variable {D:Prop}
open Go
variable {C:Cx} {Q:Exit→St→Prop} {st:St}
def qxl:Nat→List AV→Env
 | _,[]=>[]
 | k,x :: r=>(k,x) :: qxl (k+1) r
theorem qzp:∀(ps:List AV) (vs:List Value) (k t:Nat) {X:Nat→Prop} {inj:Inj} {σ:Nat→AO} {w:World},ARs X inj σ w ps vs →
  AR X inj σ w ((qxl k ps).get t) (if k≤t then vs.getD (t - k) undef else undef)
 | [],_,k,t,_,_,_,_,_=>trivial
 | p :: ps,_,k,t,X,inj,σ,w,h=>by
  obtain ⟨v,r,rfl,h2,h3⟩:=h;simp only [qxl,Env.get];by_cases hk:k=t
  ·subst hk;rw [if_pos rfl,if_pos (v1f _)];simpa using h2
  ·rw [if_neg hk];have:=qzp ps r (k+1) t (X:=X) (inj:=inj) h3;by_cases hle:k≤t
   ·rw [if_pos hle];rw [if_pos (by omega)] at this;have e:t - k=(t - (k+1))+1:=by omega
    rw [e];simpa using this
   ·rw [if_neg hle];rw [if_neg (by omega)] at this;exact this
def inlQ (C:Cx) (ops:Array Oper) (o:Oper) (rest:List Oper) (Q:Exit→St→Prop) (st:St) (fn:Func):Exit→St→Prop :=
 fun e s=>(e=.normal∨e=.ret)∧∃v,vl7 C.P s fn.results.toList=some v∧AL C ops rest Q ⟨qig st.env o.dst v,s.heap⟩
theorem qjq {ops:Array Oper} {o:Oper} {rest:List Oper} {f:Operand} {args:Array Operand} {ats:Array TypeId} {k:FuncId} {avs:List AV} {fn:Func} {c:Code} {N':Nat} (B':Nat)
  (ho:o.op=.call ⟨.value f,args,ats⟩) (hg:qbq ops st.env o=some true) (hd:qdm C.N o=true) (hf:C.P.funcs[k]?=some fn) (hb:fn.body=some c) (hk:HasBody C.P k) (hN:fn.ntmps=N') (hn:avs.length≤N')
  (hc:qby st.env f args.toList=some (k,avs))
  (h:∀inj w hT,AWp ⟨C.P,N',B',C.X,st.heap,inj,w,C.D,hT⟩ c (inlQ C ops o rest Q st fn) ⟨qxl 0 avs,st.heap⟩):AL C ops (o :: rest) Q st:=by
 subst hN;intro inj a w hs;simp only [wpList,qef hs hg,if_true];refine .inl ?_;obtain ⟨vs,hrun,hars⟩:=qpw hs ho hk hc;unfold Oper.wp;rw [hrun];simp only [Oper.upon];have hl:=hars.length;refine calls_of_wp hf hb (wp_mono (h inj w (qvu hs.ev) inj _ w ⟨fun t=>?_,?_,rfl,hs.hr,Ev.refl _ _ _ _⟩) ?_)
 ·have:=qzp avs vs 0 t hars;simp only [v3n,if_true,v1p] at this;have e:(vs.toArray++v16 (fn.ntmps - vs.toArray.size) undef).getD t undef=vs.getD t undef:=by
   by_cases ht:t < vs.length
   ·simp [vza,ht]
   ·simp only [Array.getD_eq_getD_getElem?,vza,v02,ht,if_false,Array.getElem?_replicate];rw [v2h,v0a (by omega)];split <;> rfl
  rw [e];exact this
 ·simp [←hl];omega
 ·intro e a' w' ⟨s,inj',hs',hq⟩;obtain ⟨hex,v,hv,hal⟩:=hq;obtain ⟨val,h1,h2⟩:=q4j hs' hv;have hev:Ev C.D C.X inj st.sig w inj' s.sig w':=hs'.ev;have hput:SR C ⟨qig st.env o.dst v,s.heap⟩ inj' (a.put o.dst val) w':=by
   have h3:=hs.put (o:=o) (u:=none) hd hs.hr (Ev.refl _ _ _ _) (v:=.any) (val:=val) trivial;refine ⟨fun t=>?_,h3.size,h3.defers,hs'.hr,hs.ev.trans hev⟩;cases hdst:o.dst with
   | none =>
    have:=h3.env t;rw [hdst] at this;simpa [qig,Act.put] using AR.ev hev hs.hr.xlt _ _ (hs.env t)
   | some d =>
    simp only [qdm,hdst,decide_eq_true_eq] at hd;simp only [qig,Act.put,Env.get];by_cases ht:d=t
    ·subst ht;rw [if_pos rfl];have:(a.tmps.setIfInBounds d val).getD d undef=val:=by simp [hs.size,hd]
     rw [this];exact h2
    ·rw [if_neg ht];have:(a.tmps.setIfInBounds d val).getD t undef=a.tmps.getD t undef:=by simp [vzd ht]
     rw [this];exact AR.ev hev hs.hr.xlt _ _ (hs.env t)
  rcases hex with rfl | rfl
  ·exact ⟨hs'.defers,val,h1,hal inj' _ _ hput⟩
  ·exact ⟨hs'.defers,val,h1,hal inj' _ _ hput⟩
theorem qih {ops:Array Oper} {o:Oper} {rest:List Oper} {fn:Func} {s:St} {v:AV} (h1:vl7 C.P s fn.results.toList=some v) (h2:AL C ops rest Q ⟨qig st.env o.dst v,s.heap⟩):inlQ C ops o rest Q st fn .ret s:=⟨.inr rfl,v,h1,h2⟩
theorem q1h {ops:Array Oper} {o:Oper} {rest:List Oper} {fn:Func} {s:St} {v:AV} (h1:vl7 C.P s fn.results.toList=some v) (h2:AL C ops rest Q ⟨qig st.env o.dst v,s.heap⟩):inlQ C ops o rest Q st fn .normal s:=⟨.inl rfl,v,h1,h2⟩
theorem vdu {ops:Array Oper} {o:Oper} {rest:List Oper} {fn:Func} {s:St} {v:AV} {e:Exit} (he:e=.normal∨e=.ret) (h1:vl7 C.P s fn.results.toList=some v) (h2:AL C ops rest Q ⟨qig st.env o.dst v,s.heap⟩):inlQ C ops o rest Q st fn e s:=⟨he,v,h1,h2⟩
@[go_sem] theorem vwi {α β:Type} (f:α→β) (l:List α) (i:Nat) (y:α):(l.map f).set i (f y)=(l.set i y).map f:=by rw [v2y]
@[go_sem] theorem vpy {α:Type} (f:α→PV) (l:List (List α)) (i:Nat) (y:List α):(l.map (qap f)).set i (.slc (v2v f y))=(l.set i y).map (qap f):=by rw [v2y];rfl
theorem vdv (σ σ':Nat→AO):∀(l:List PV) (cs ds:List AV),qpn σ σ' (l.map AV.p++cs) (l.map AV.p++ds)=qpn σ σ' cs ds
 | [],_,_=>rfl
 | x :: l,cs,ds=>by
  simp only [v0p,v2e,q06,vib,true_and];exact vdv σ σ' l cs ds
@[go_sem] theorem vwj {α:Type} (σ σ':Nat→AO) (f:α→PV) (l:List α) (x:α) (v:AV):qpn σ σ' ((l.map f).map AV.p++[v]) (((l++[x]).map f).map AV.p)=LeV σ σ' v (.p (f x)):=by
 rw [v0o,v0o,vdv];simp [qpn]
attribute [go_sem] qxl
theorem zF {P:Prop} (h:P:=by (repeat' refine And.intro ?_ ?_) <;> first | rfl | (simp;done) | (simp;rfl) | (simp [*];done) | (simp [*];rfl)):P:=h
theorem zV {P:Prop} (h:P:=by simp only [go_sem,seval, *];all_goals exact zF):P:=h
theorem zs {x y:Code} (h:AWp C x (qz5 (fun s=>AWp C y Q s) Q) st):AWp C (.seq x y) Q st:=qki h
theorem zr {id:Nat} {l:List Oper} (h:AL C l.toArray l Q st):AWp C (.region id l.toArray false) Q st:=qf6 h
theorem zb {id:Nat} {c:Code} (h:AWp C c (qxf id Q) st):AWp C (.block id c) Q st:=vh9 h
theorem zk (h:Q .normal st):AWp C .skip Q st:=q0g h
theorem zq (h:Q .ret st):AWp C .ret Q st:=qv5 h
theorem zx {id:Nat} (h:Q (.exit id) st):AWp C (.exit id) Q st:=vmr h
theorem zl {ops:Array Oper} (h:Q .normal st):AL C ops [] Q st:=qq5 h
theorem zn {K:St→Prop} {s:St} (h:K s):qz5 K Q .normal s:=h
theorem zt {K:St→Prop} {s:St} (h:Q .ret s):qz5 K Q .ret s:=h
theorem ze {K:St→Prop} {s:St} {i:Nat} (h:Q (.exit i) s):qz5 K Q (.exit i) s:=h
theorem yn {i:Nat} {s:St} (h:Q .normal s):qxf i Q .normal s:=h
theorem yr {i:Nat} {s:St} (h:Q .ret s):qxf i Q .ret s:=h
theorem yh {i:Nat} {s:St} (h:Q .normal s):qxf i Q (.exit i) s:=vbw h
theorem yd {l:Array Oper} {acc:List Evt} (h:Q .normal st) (hev:qz6 l acc.reverse=true:=by kernel_rfl):DGo C l [] st acc (DK C l Q):=DGo.fin hev h
theorem zU {ops:Array Oper} {o:Oper} {l l1 l2:List Oper} {st':St} (h:AL C ops l2 Q st') (hs:spl l=(o :: l1,l2):=by exact rfl) (hr:qsw C.P C.N C.B ops (o :: l1) st=(st',[]):=by simp only [go_sem,seval, *];exact rfl):AL C ops l Q st:=qql hs hr h
theorem zW {ops:Array Oper} {l:List Oper} (n:Nat) {st':St} (h:AL C ops (l.drop n) Q st') (hr:qsw C.P C.N C.B ops (l.take n) st=(st',[]):=by simp only [go_sem,seval, *];exact rfl):AL C ops l Q st:=q6c n hr h
theorem yU {ops:Array Oper} {K:List Evt→St→Prop} {o:Oper} {l l1 l2:List Oper} {acc acc':List Evt} {st':St} (h:DGo C ops l2 st' acc' K) (hs:spl l=(o :: l1,l2):=by exact rfl)
  (hr:qn1 C.P C.N C.B ops (o :: l1) st acc=(acc',st',[]):=by simp only [go_sem,seval, *];first | exact ⟨rfl,rfl⟩ | exact rfl):DGo C ops l st acc K:=DGo.upto hs hr h
theorem zg {ops:Array Oper} {o:Oper} {rest:List Oper} {st':St} (h:AL C ops rest Q st') (hg:qbq ops st.env o=some true:=by first | exact qie rfl rfl (by exact rfl) (by exact rfl) | exact qbf rfl) (hd:qdm C.N o=true:=by rfl)
  (hr:((aop C.P C.B (ev st.env) o).run (qa4 st.heap)).map (fun vu=>(⟨qig st.env o.dst vu.1,qyu st.heap vu.2⟩:St))=some st':=by simp only [go_sem,seval, *];exact rfl):AL C ops (o :: rest) Q st:=vwf hg hd hr h
theorem yg {ops:Array Oper} {K:List Evt→St→Prop} {o:Oper} {rest:List Oper} {acc:List Evt} {st':St} {e:Evt} (h:DGo C ops rest st' (e :: acc) K) (hg:qbq ops st.env o=some true:=by first | exact qie rfl rfl (by exact rfl) (by exact rfl) | exact qbf rfl) (hd:qdm C.N o=true:=by rfl)
  (hr:((aop C.P C.B (ev st.env) o).run (qa4 st.heap)).map (fun vu=>((⟨vu.1,vu.2,(aop C.P C.B (ev st.env) o).reads (qa4 st.heap)⟩:Evt),(⟨qig st.env o.dst vu.1,qyu st.heap vu.2⟩:St)))=some (e,st'):=by simp only [go_sem,seval, *];first | exact ⟨rfl,rfl⟩ | exact rfl):DGo C ops (o :: rest) st acc K:=DGo.gt' hg hd hr h
theorem zc {ops:Array Oper} {o:Oper} {rest:List Oper} {f:Operand} {args:Array Operand} {ats:Array TypeId} {k:FuncId} {avs:List AV} {pargs:List PV} {r:PV} {st':St}
  (hp:Con C.D C.P k pargs r) (h:AL C ops rest Q st')
  (ho:o.op=.call ⟨.value f,args,ats⟩:=by rfl) (hg:qbq ops st.env o=some true:=by first | exact qbf rfl | exact qie rfl rfl (by exact rfl) (by exact rfl)) (hd:qdm C.N o=true:=by rfl)
  (hc:qby st.env f args.toList=some (k,avs):=by simp only [go_sem,seval, *];exact rfl) (hv:(qa1 (qe8 (fun _=>true) 9) avs).run (qa4 st.heap)=some pargs:=by simp only [go_sem,seval, *];all_goals exact zF)
  (hfl:(qsu avs).isSome=true∨r.flat=true:=by first | exact .inr rfl | exact .inl rfl | exact .inl (by simp only [go_sem]))
  (hs:(⟨qig st.env o.dst (.p r),st.heap⟩:St)=st':=by rfl):AL C ops (o :: rest) Q st:=vrt ho hg hd hc hv hp hfl hs h
theorem yc {ops:Array Oper} {K:List Evt→St→Prop} {o:Oper} {f:Operand} {args:Array Operand} {ats:Array TypeId} {rest:List Oper} {acc:List Evt}
  {k:FuncId} {avs:List AV} {pargs:List PV} {r:PV} {rs:List Nat} {st':St}
  (hp:Con C.D C.P k pargs r) (h:DGo C ops rest st' (⟨.p r,none,rs⟩ :: acc) K)
  (ho:o.op=.call ⟨.value f,args,ats⟩:=by rfl) (hg:qbq ops st.env o=some true:=by first | exact qbf rfl | exact qie rfl rfl (by exact rfl) (by exact rfl)) (hd:qdm C.N o=true:=by rfl)
  (hc:qby st.env f args.toList=some (k,avs):=by simp only [go_sem,seval, *];exact rfl) (hv:(qa1 (qe8 (fun _=>true) 9) avs).run (qa4 st.heap)=some pargs:=by simp only [go_sem,seval, *];all_goals exact zF)
  (hrs:(qa1 (qe8 (fun _=>true) 9) avs).reads (qa4 st.heap)=rs:=by simp only [go_sem,seval, *];exact rfl)
  (hfl:(qsu avs).isSome=true∨r.flat=true:=by first | exact .inr rfl | exact .inl rfl | exact .inl (by simp only [go_sem]))
  (hs:(⟨qig st.env o.dst (.p r),st.heap⟩:St)=st':=by rfl):DGo C ops (o :: rest) st acc K:=DGo.con' ho hg hd hc hv hrs hp hfl hs h
theorem zw {ops:Array Oper} {l:List Oper} (d:Nat) (b:Bool) {h:List (Nat×AO)} {env:Env} (k:AL C ops l Q ⟨(d,.p (.bool b)) :: env,h⟩) (hv:env.get d=.p (.bool b):=by simp only [go_sem,seval, *];all_goals first | assumption | exact Bool.eq_false_iff.2 (by assumption)):AL C ops l Q ⟨env,h⟩:=vm7 hv k
theorem yw {l0:Array Oper} {l:List Oper} (d:Nat) (b:Bool) {h:List (Nat×AO)} {env:Env} {acc:List Evt} (k:DGo C l0 l ⟨(d,.p (.bool b)) :: env,h⟩ acc (DK C l0 Q)) (hv:env.get d=.p (.bool b):=by simp only [go_sem,seval, *];all_goals first | assumption | exact Bool.eq_false_iff.2 (by assumption)):DGo C l0 l ⟨env,h⟩ acc (DK C l0 Q):=DGo.known' hv k
theorem zi {c:Operand} {x y:Code} (h:AWp C x Q st) (hc:ev st.env c=.p (.bool true):=by simp only [go_sem,seval, *];all_goals first | assumption | exact Bool.eq_false_iff.2 (by assumption)):AWp C (.cond c x y) Q st:=vdq hc h
theorem zj {c:Operand} {x y:Code} (h:AWp C y Q st) (hc:ev st.env c=.p (.bool false):=by simp only [go_sem,seval, *];all_goals first | assumption | exact Bool.eq_false_iff.2 (by assumption)):AWp C (.cond c x y) Q st:=vdr hc h
theorem zh {ops:Array Oper} {l l':List Oper} {env env':Env} {h:List (Nat×AO)} (k:AL C ops l' Q ⟨env',h⟩) (he:q1f C.N ops l env=(l',env'):=by exact rfl):AL C ops l Q ⟨env,h⟩:=vds he k
theorem yk {l0:Array Oper} {K:List Evt→St→Prop} {l l':List Oper} {env env':Env} {acc acc':List Evt} {h:List (Nat×AO)} (k:DGo C l0 l' ⟨env',h⟩ acc' K) (he:qxj C.N l0 l env acc=(l',env',acc'):=by exact rfl):DGo C l0 l ⟨env,h⟩ acc K:=DGo.skips he k
theorem zE {s s':St} (h:Le C s s':=by simp only [go_sem,seval, *];all_goals exact zF):Le C s s':=h
theorem zL {c:Code} (st':St) (k:AWp C c Q st') (h:Le C st st':=by simp only [go_sem,seval, *];all_goals exact zF):AWp C c Q st:=qq6 h k
theorem zM {ops:Array Oper} {l:List Oper} (st':St) (k:AL C ops l Q st') (h:Le C st st':=by simp only [go_sem,seval, *];all_goals exact zF):AL C ops l Q st:=vqn h k
theorem zT {P:Program} {fn:Func} {r:PV} {s:St} {v:AV} {rs:_} (he:fn.results=rs) (h1:vl7 P s rs.toList=some v:=by simp only [go_sem,seval, *];exact rfl) (h2:(qe8 (fun _=>true) 9 v).run s.sig=some r:=by simp only [go_sem,seval, *];all_goals exact zF):vui P fn r .ret s:=qr8 (by rw [he];exact h1) h2
theorem vb9 (k:Nat):argsEnv k []=[]:=rfl
theorem q9b (k:Nat) (x:PV) (r:List PV):argsEnv k (x :: r)=(k,.p x) :: argsEnv (k+1) r:=rfl
theorem zP {P:Program} {f:FuncId} {fn:Func} {c:Code} {args:List PV} {r:PV} {N:Nat} {env:Env} (hk:HasBody P f) (hf:P.funcs[f]?=some fn) (hb:fn.body=some c) (hN:fn.ntmps=N)
  (h:∀X w hT,AWp ⟨P,N,0,X,[],fun _=>none,w,D,hT⟩ c (vui P fn r) ⟨env,[]⟩) (hn:args.length≤N:=by simp) (he:argsEnv 0 args=env:=by simp only [vb9,q9b,Nat.reduceAdd];exact rfl):Con D P f args r :=
 ⟨hk,qr6 hf hb hN hn (by subst he;exact h)⟩
theorem zB {α β:Type} {x:Option α} {f:α→Option β} {r:β} (h:x.bind f=some r):∃a,x=some a∧f a=some r:=v3o.1 h
theorem zI {c:Prop} [Decidable c] {α:Type} {a b:Option α} {r:α} (h:(if c then a else b)=some r):(c∧a=some r)∨(¬c∧b=some r):=by
 split at h
 ·exact .inl ⟨‹c›,h⟩
 ·exact .inr ⟨‹_›,h⟩
theorem zX {α β:Type} {l:List α} {i:Int} {f:α→Option β} {r:β} (h:(idx l i).bind f=some r):∃x,l[i.toNat]?=some x∧0≤i∧i < (l.length:Int)∧f x=some r:=by
 obtain ⟨x,h1,h2⟩:=v3o.1 h;obtain ⟨a,b,c⟩:=vm5 h1;exact ⟨x,b,a,c,h2⟩
theorem zY {α β:Type} {l:List α} {n:Nat} (k:Int) {f:α→Option β} {r:β} (h:(l[n]?).bind f=some r) (hk:(n:Int)=k:=by rfl):∃x,l[n]?=some x∧n < l.length∧k < (l.length:Int)∧f x=some r:=by
 obtain ⟨x,h1,h2⟩:=v3o.1 h;have:=qan h1;exact ⟨x,h1,this,by omega,h2⟩
def tE (C:Cx) (k:Exit) (t:St) (e:Exit) (s:St):Prop:=e=k∧Le C s t
def tR (P:Program) (fn:Func) (r:PV) (e:Exit) (s:St):Prop:=e=.ret∧vui P fn r .ret s
theorem zO {σ τ:Type} {c:Code} {B:σ→Option (LS σ τ)} {s0:σ} {t:τ} (S:σ→St) (T:τ→Exit→St→Prop) (hL:qae B s0=some t)
  (round:∀s x,B s=some x→AWp C c (LP C S T x) (S s)) (post:∀e s,T t e s→Wk C Q e s) (h0:Le C st (S s0):=by simp only [go_sem,seval, *];all_goals exact zF)
  (hn:∀t s,¬T t .normal s:=by intro o s hT;first | (have hh:=hT.1;cases hh;done) | (rcases o with _ | _ <;> (have hh:=hT.1;cases hh);done) | (rcases o with _ | (_ | _) <;> (have hh:=hT.1;cases hh);done) | (rcases o with _ | (_ | (_ | _)) <;> (have hh:=hT.1;cases hh);done)):AWp C (.loop c) Q st:=vf2 S T hn hL h0 round post
theorem zA {k:Exit} {t:St} (h:Q k t):∀e s,tE C k t e s→Wk C Q e s:=by
 rintro e s ⟨rfl,hl⟩;exact Wk.to hl h
theorem zZ {P:Program} {fn:Func} {r:PV} (h:∀s,vui P fn r .ret s→Q .ret s):∀e s,tR P fn r e s→Wk C Q e s:=by
 rintro e s ⟨rfl,hq⟩;exact Wk.now (h s hq)
theorem zJ {τ:Type} {x y:Code} (T:τ→Exit→St→Prop) (o:τ) (h:AWp C x (T o) st) (hq:∀e s,T o e s→Wk C (qz5 (fun s=>AWp C y Q s) Q) e s):AWp C (.seq x y) Q st:=vm4 h hq
end Go.Ab
namespace Go.Ab
variable {D:Prop}
open Go
variable {X:Nat→Prop} {inj:Inj} {σ:Nat→AO} {w:World}
theorem q6e (F cur:Array Value) (h:F.size≤cur.size):(Sort.putCells id 0 F cur).toList.take F.size=F.toList∧(Sort.putCells id 0 F cur).size=cur.size:=by
 refine ⟨?_,by simp [Sort.putCells]⟩;apply vz3;intro k;simp only [Sort.putCells,v0f,vze,v14];by_cases hk:k < F.size
 ·have hc:k < cur.size:=by omega
  simp [hk,hc]
 ·simp [hk]
theorem HR.rows (h:HR X inj σ w) {l e sz g b c m:Nat} {es es':List AV} {vs':List Value} {os:Array Obj} (hl:σ l=.arr e sz g es) (hi:inj l=some (b,c))
  (hlen:es'.length=es.length) (hes:ARs X inj σ w es' vs') (hs:∀v∈vs',v.cells.size=sz) (hone:qbj (flat vs')) :
  HR X inj (qpm σ l (.arr e sz g es')) (Sort.grow (Sort.putRow id (Sort.ahead w m) b 0 (flat vs').toArray) os) ∧
  Ev D X inj σ w inj (qpm σ l (.arr e sz g es')) (Sort.grow (Sort.putRow id (Sort.ahead w m) b 0 (flat vs').toArray) os):=by
 obtain ⟨vs,h1,h2,h3,h4⟩:=h.obj l _ hl;rcases h4 with ⟨h4,_⟩ | ⟨b',c',cur,h5,h6,h7,h8,h9,h10,h11⟩
 ·rw [hi] at h4;cases h4
 rw [hi] at h5;cases h5;have hb:b < w.heap.size:=(vzb.1 h7).1;have hold:∀k,k < w.heap.size→k≠b→(Sort.grow (Sort.putRow id (Sort.ahead w m) b 0 (flat vs').toArray) os).heap[k]?=w.heap[k]?:=by
  intro k hk hne;rw [Sort.heap_grow_old _ _ (by simp [Sort.putRow,Sort.mapBlock,Sort.ahead];exact hk)];simp [Sort.putRow,Sort.mapBlock,Sort.ahead,v15,Ne.symm hne]
 have hnew:(Sort.grow (Sort.putRow id (Sort.ahead w m) b 0 (flat vs').toArray) os).heap[b]?=some (.cells (Sort.putCells id 0 (flat vs').toArray cur) e (0,0)):=by
  rw [Sort.heap_grow_old _ _ (by simp [Sort.putRow,Sort.mapBlock,Sort.ahead];exact hb)];simp [Sort.putRow,Sort.mapBlock,Sort.ahead,v15,h7,Sort.onCells]
 have hup:=h.update (D:=D) (w':=Sort.grow (Sort.putRow id (Sort.ahead w m) b 0 (flat vs').toArray) os) (l:=l) (o:=.arr e sz g es) (o':=.arr e sz g es') (x:=inj l) hl rfl rfl rfl
  (fun _=>by simp [Sort.grow,Sort.putRow,Sort.mapBlock,Sort.ahead]) (by simp [Sort.grow,Sort.putRow,Sort.mapBlock,Sort.ahead])
  (fun a ha=>by
   unfold World.frozen?;by_cases hab:a.block=b
   ·rw [hab,hnew,h7]
   ·rw [hold _ ha hab])
  (fun k hk hne=>hold k hk (fun e=>hne rfl c (by rw [e];exact hi)))
  (fun b1 c1 h1=>.inr ⟨rfl,_,h1⟩) ⟨v1f _,fun _ _=>⟨rfl,.inl ⟨e,sz,es,es',rfl,rfl,hlen.symm⟩⟩⟩
 obtain ⟨hev,hhr⟩:=hup;have hinj:(fun k=>if k=l then inj l else inj k)=inj:=by
  funext k;by_cases hk:k=l
  ·rw [if_pos hk,hk]
  ·rw [if_neg hk]
 rw [hinj] at hev hhr;have hvl:vs'.length=es'.length:=hes.length.symm;have hfl:(flat vs').length=es'.length * sz:=by rw [qbm hs,hvl]
 have hle:(flat vs').toArray.size≤cur.size:=by
  rw [v02,hfl,h10,hlen];exact v1m _ h8
 obtain ⟨t1,t2⟩:=q6e (flat vs').toArray cur hle;refine ⟨hhr ⟨vs',ARs.ev hev h.xlt _ _ hes,hs,hone,.inr ⟨b,c,_,hi,h6,hnew,by omega,h9,by rw [t2];exact h10,?_⟩⟩,hev⟩;rw [v02,hfl] at t1;exact t1
theorem Keeps.rows {Y:Nat→Prop} {b m:Nat} {F:Array Value} {os:Array Obj} (hY:Y b):Keeps Y Y w (Sort.grow (Sort.putRow id (Sort.ahead w m) b 0 F) os):=by
 refine ⟨by simp [Sort.grow,Sort.putRow,Sort.mapBlock,Sort.ahead],fun k hk hn=>?_,fun _ _ h=>h⟩;rw [Sort.heap_grow_old _ _ (by simp [Sort.putRow,Sort.mapBlock,Sort.ahead];exact hk)];have:b≠k:=fun e=>hn (e ▸ hY)
 simp [Sort.putRow,Sort.mapBlock,Sort.ahead,v15,this]
theorem Fr.grow {w':World} (h:Fr True w w'):∃q os,w'=Sort.grow (w.drewN q) os:=by
 refine ⟨w'.drawn - w.drawn,w'.heap.extract w.heap.size w'.heap.size,?_⟩;have hh:w'.heap=w.heap++w'.heap.extract w.heap.size w'.heap.size:=by
  apply v13;intro k;rw [vza];by_cases hk:k < w.heap.size
  ·rw [if_pos hk,h.blk k hk]
  ·rw [if_neg hk,Array.getElem?_extract];have hsz:=h.size;by_cases hk':k < w'.heap.size
   ·rw [if_pos (by omega)];congr 1;omega
   ·rw [if_neg (by omega),Array.getElem?_eq_none (by omega)]
 cases w' with
 | mk heap tape drawn os output =>
  have h1:=h.os;have h2:=h.tape;have h3:=h.output;have h4:=h.dr trivial;simp only at h1 h2 h3 h4 hh;subst h1 h2 h3;simp only [Sort.grow,World.drewN,World.mk.injEq,and_true,true_and];exact ⟨hh,by omega⟩
open Go.Proofs Go.Sort in
structure Srt1 (P:Program) (k:FuncId):Prop where
 body:HasBody P k
 rows:∀{α:Type} [Inhabited α] (enc:α→Value) (h1:OneCell enc) (cf:α→α→Int) (hO:SWO (ltOf cf)) (g:Nat) (cb:Array Value) (blk off cap:Nat) (d:Array α) (w:World),
  (∀args w,(callFunc g args).run P w=.ok (.enter g args) w)→CmpLays1 P g cb enc cf blk off d.size w→Holds enc w blk off d→blk < w.heap.size→d.size < 4611686018427387904 →
  Calls P k #[.slice (some ⟨blk,off,none⟩) d.size cap,.func (.func g) #[] cb] w fun e w' =>
   e=.returned (.tuple #[])∧∃n os,w'=sortWorld enc w blk off n (pdq (ltOf cf) d 0 d.size (v2a d.size) true true) os
 none:∀(p:Option Addr) (cap:Nat) (fv:Value) (w:World),Calls P k #[.slice p 0 cap,fv] w fun e w'=>e=.returned (.tuple #[])∧w'=w
def qeg {α:Type} (a:α) (r:List α) (i:Nat):α:=(a :: r).getD i a
theorem qtm {α:Type} (a:α) (r:List α) (i:Nat):qeg a r i∈a :: r:=by
 unfold qeg;rw [v2h];cases h:(a :: r)[i]? with
 | none=>simp
 | some x=>exact List.mem_of_getElem? h
def srt {α:Type} (c:α→α→Int):List α→List α
 | []=>[]
 | a :: r=>(Sort.pdq (Go.Proofs.ltOf fun i j=>c (qeg a r i) (qeg a r j)) (vzg (r.length+1)) 0 (r.length+1) (v2a (r.length+1)) true true).toList.map (qeg a r)
def q9c {α:Type} (c:α→α→Int) (l:List α):Prop :=
 (∀x∈l,¬c x x < 0)∧(∀x∈l,∀y∈l,∀z∈l,c x y < 0→c y z < 0→c x z < 0)∧(∀x∈l,∀y∈l,∀z∈l,¬c x y < 0→¬c y z < 0→¬c x z < 0)
open Classical in
def vhm {α:Type} (c:α→α→Option Int) (l:List α):Option (List α) :=
 if (∀x∈l,∀y∈l,(c x y).isSome=true)∧q9c (fun x y=>(c x y).getD 0) l∧l.length < 4611686018427387904 then some (srt (fun x y=>(c x y).getD 0) l) else none
theorem q9c.swo {α:Type} {c:α→α→Int} {a:α} {r:List α} (h:q9c c (a :: r)):Sort.SWO (Go.Proofs.ltOf fun i j=>c (qeg a r i) (qeg a r j)):=by
 obtain ⟨h1,h2,h3⟩:=h;have m:=qtm a r;refine ⟨fun x=>?_,fun x y z a b=>?_,fun x y z a b=>?_⟩
 ·simp only [Go.Proofs.ltOf,decide_eq_false_iff_not];exact h1 _ (m x)
 ·simp only [Go.Proofs.ltOf,decide_eq_true_eq] at *;exact h2 _ (m x) _ (m y) _ (m z) a b
 ·simp only [Go.Proofs.ltOf,decide_eq_false_iff_not] at *;exact h3 _ (m x) _ (m y) _ (m z) a b
theorem q6f {α:Type} {c:α→α→Int} {a:α} {r:List α} (h:q9c c (a :: r)) :
  Sort.PermIn 0 (r.length+1) (vzg (r.length+1)) (Sort.pdq (Go.Proofs.ltOf fun i j=>c (qeg a r i) (qeg a r j)) (vzg (r.length+1)) 0 (r.length+1) (v2a (r.length+1)) true true) ∧
  Sort.SortedIn (Go.Proofs.ltOf fun i j=>c (qeg a r i) (qeg a r j)) 0 (r.length+1) (Sort.pdq (Go.Proofs.ltOf fun i j=>c (qeg a r i) (qeg a r j)) (vzg (r.length+1)) 0 (r.length+1) (v2a (r.length+1)) true true):=by
 have:=Sort.pdq_sorts _ h.swo (vzg (r.length+1)) 0 (r.length+1) (v2a (r.length+1)) true true (v3n _) (by simp) (Or.inl rfl);exact ⟨this.1,this.2⟩
theorem vi6 {α:Type} (a:α) (r:List α):(v0z (r.length+1)).map (qeg a r)=a :: r:=by
 apply vz3;intro i;rw [v0c];by_cases hi:i < r.length+1
 ·rw [List.getElem?_range hi,vz9 (by simpa using hi)];simp [qeg,List.getD,vz9 (show i < (a :: r).length by simpa using hi)]
 ·rw [v0a (by simpa using hi),v0a (by simpa using hi)];rfl
theorem q6g {α:Type} {c:α→α→Int} {l:List α} (h:q9c c l):(srt c l).Perm l:=by
 cases l with
 | nil=>exact List.Perm.refl _
 | cons a r =>
  obtain ⟨⟨p1,_,p3⟩,_⟩:=q6f h;have e:∀d:Array Nat,d.size=r.length+1→d.extract 0 (r.length+1)=d:=fun d hd=>by rw [←hd];simp
  rw [e _ (by rw [p1];simp),e _ (by simp)] at p3;have:=p3.map (qeg a r);simp only [Array.toList_range,vi6] at this;exact this
theorem q4r {α:Type} {c:α→α→Int} {l:List α} (h:q9c c l):(srt c l).Pairwise fun x y=>¬c y x < 0:=by
 cases l with
 | nil=>exact List.Pairwise.nil
 | cons a r =>
  obtain ⟨⟨p1,_,p3⟩,hs⟩:=q6f h;show List.Pairwise _ ((Sort.pdq (Go.Proofs.ltOf fun i j=>c (qeg a r i) (qeg a r j)) (vzg (r.length+1)) 0 (r.length+1) (v2a (r.length+1)) true true).toList.map (qeg a r));generalize Sort.pdq (Go.Proofs.ltOf fun i j=>c (qeg a r i) (qeg a r j)) (vzg (r.length+1)) 0 (r.length+1) (v2a (r.length+1)) true true=d at p1 hs ⊢;rw [List.pairwise_map,List.pairwise_iff_getElem];intro i j hi hj hij;simp only [vzf] at hi hj;have:=hs i j (v3n _) hij (by rw [p1] at hj;simpa using hj);rw [getElem!_pos d i hi,getElem!_pos d j hj] at this;simpa [Go.Proofs.ltOf] using this
theorem qq8 {α:Type} [Inhabited α] (enc:α→Value) (w:World) (b:Nat) (d:Array α):Sort.putRow enc w b 0 d=Sort.putRow id w b 0 (d.map enc):=by
 unfold Sort.putRow;refine Sort.mapBlock_congr _ _ _ _ fun c _ _ _=>?_
 unfold Sort.putCells;apply v13;intro k;simp only [v14,Array.size_map,v1p,v1q,v3n,true_and];cases c[k]? with
 | none=>rfl
 | some x =>
  simp only [v1w];by_cases hk:k < d.size
  ·rw [if_pos hk,if_pos hk,getElem!_pos d k hk,getElem!_pos (d.map enc) k (by simpa using hk)];simp
  ·rw [if_neg hk,if_neg hk]
theorem qil:∀{vs:List Value},(∀v∈vs,v.oneCell'=true)→flat vs=vs
 | [],_=>rfl
 | v :: vs,h=>by
  rw [qlg,qil fun u hu=>h u (v21 _ hu)];have h1:=h v (v24);have:v.cells=#[v]:=by
   cases v <;> first | rfl | simp [Value.oneCell'] at h1
  rw [this];rfl
variable {C:Cx} {Q:Exit→St→Prop} {st:St}
theorem vr0 {α:Type} {ops:Array Oper} {o:Oper} {rest:List Oper} {f:Operand} {args:Array Operand} {ats:Array TypeId} {k kc:FuncId} {caps:List PV} {fv:AV} {e g n L:Nat}
  (S:Srt1 C.P k) (enc:α→PV) (h1:∀x,(AV.p (enc x)).one=true) (c:α→α→Option Int) {l l':List α} (hl:vhm c l=some l')
  (hc:∀x y r,c x y=some r→Con True C.P kc (enc x :: enc y :: caps) (.int .i64 r))
  (ho:o.op=.call ⟨.value f,args,ats⟩) (hg:qbq ops st.env o=some true) (hd:qdm C.N o=true)
  (hk:qby st.env f args.toList=some (k,[.own L g 0 n,fv])) (hfv:(qe8 (fun q=>q != L) 9 fv).run st.sig=some (.func (.func kc) caps))
  (hobj:qa4 st.heap L=.arr e 1 g (v2v AV.p (v2v enc l))) (hn:n=l.length)
  (h:AL C ops rest Q ⟨qig st.env o.dst (.p (.tup [])),qqv st.heap L (.arr e 1 g (v2v AV.p (v2v enc l')))⟩):AL C ops (o :: rest) Q st:=by
 intro inj a w hs;simp only [wpList,qef hs hg,if_true];refine .inl ?_;obtain ⟨vs,hrun,hars⟩:=qpw hs ho S.body hk;unfold Oper.wp;rw [hrun];simp only [Oper.upon];obtain ⟨v1,r1,rfl,ha1,v2,r2,rfl,ha2,rfl⟩:=hars;have hp2:=qf5 hs.hr (fun q=>q != L) 9 fv v2 _ ha2 hfv;obtain ⟨cvs,rfl,hcaps⟩:=hp2;obtain ⟨⟨sa,sn,sc,rfl⟩,hown⟩:=ha1;obtain ⟨_,hown⟩:=hown _ hobj;obtain ⟨hle,hcase⟩:=hown rfl e 1 _ rfl;unfold vhm at hl;split at hl
 case isFalse=>cases hl
 rename_i hcond;obtain ⟨hdef,hok,hlt⟩:=hcond;obtain rfl:=v3q hl;cases l with
 | nil =>
  subst hn;have hnone:∃p cap,Value.slice sa sn sc=.slice p 0 cap:=by
   rcases hcase with ⟨_,h2,_⟩ | ⟨b,c0,a0,_,h2,_⟩
   ·exact ⟨none,0,h2⟩
   ·exact ⟨_,_,h2⟩
  obtain ⟨p,cap,hpc⟩:=hnone;rw [hpc];refine (S.none p cap _ w).mono ?_;rintro e' w' ⟨rfl,rfl⟩;have hsame:upd st.sig (some (L,.arr e 1 g (v2v AV.p (v2v enc []))))=st.sig:=by
   funext q;simp only [upd,qpm];by_cases hq:q=L
   ·rw [if_pos hq,hq];exact hobj.symm
   ·rw [if_neg hq]
  exact h inj _ _ (hs.put (u:=some (L,.arr e 1 g (v2v AV.p (v2v enc [])))) hd (by rw [hsame];exact hs.hr) (by rw [hsame];exact Ev.refl _ _ _ _) (v:=.p (.tup [])) ⟨[],rfl,rfl⟩)
 | cons x0 r =>
  obtain ⟨vs,o1,o2,o3,o4⟩:=hs.hr.obj L _ hobj;have hvl:vs.length=r.length+1:=by rw [←o1.length];simp
  rcases hcase with ⟨_,_,_,h4⟩ | ⟨b,cp,a0,hi,h2,h3,h4⟩
  ·rw [hn] at h4;simp at h4
  have ha0:a0=some ⟨b,0,none⟩:=by
   rcases h4 with ⟨h4,_⟩ | h4
   ·exact absurd rfl h4
   ·simpa using h4
  rw [h2,ha0,hn];rcases o4 with ⟨o4,_⟩ | ⟨b',c',cur,i1,i2,i3,i4,i5,i6,i7⟩
  ·rw [hi] at o4;cases o4
  rw [hi] at i1;cases i1;have hb:b < w.heap.size:=(vzb.1 i3).1;have hone:∀v∈vs,v.oneCell'=true:=by
   intro v hv;obtain ⟨j,hj,rfl⟩:=List.getElem_of_mem hv;have hj':j < (x0 :: r).length:=by simp;omega
   obtain ⟨u,hu,hr⟩:=o1.get (i:=j) (p:=.p (enc ((x0 :: r)[j]))) (by rw [v0c,v0c,vz9 hj'];rfl);rw [vz9 hj] at hu;cases hu;exact AR.one_of (h1 _) hr
  obtain ⟨v0,vr,hv0⟩:∃v0 vr,vs=v0 :: vr:=by cases vs with | nil=>simp at hvl | cons v0 vr=>exact ⟨v0,vr,rfl⟩
  have hvr:vr.length=r.length:=by rw [hv0] at hvl;simpa using hvl
  -- what lies at i
  have hat:∀i,AR C.X inj st.sig w (.p (enc (qeg x0 r i))) (qeg v0 vr i):=by
   intro i;unfold qeg;by_cases hii:i < r.length+1
   ·obtain ⟨u,hu,hr⟩:=o1.get (i:=i) (p:=.p (enc ((x0 :: r)[i]'(by simpa using hii)))) (by rw [v0c,v0c,vz9 (show i < (x0 :: r).length by simpa using hii)];rfl);rw [hv0] at hu;rw [v2h,v2h,hu,vz9 (show i < (x0 :: r).length by simpa using hii)];exact hr
   ·obtain ⟨u,hu,hr⟩:=o1.get (i:=0) (p:=.p (enc x0)) (by simp);rw [hv0] at hu;simp only [v2j,v1x] at hu;subst hu;rw [v2h,v2h,v0a (by simp;omega),v0a (by simp;omega)];exact hr
  have honeAt:∀i,(qeg v0 vr i).oneCell'=true:=fun i=>hone _ (by rw [hv0];exact qtm v0 vr i)
  have hfl:flat vs=vs:=qil hone;have hY:∀q,(C.X q∨vdg (fun q=>q != L) inj st.sig q)→q < w.heap.size:=fun q hq=>hq.elim (hs.hr.xlt q) fun hf=>(hs.hr.flt hf).1
  have hYb:C.X b∨vdg (fun q=>q != L) inj st.sig b:=.inr ⟨L,cp,_,hobj,rfl,by simp,hi⟩;have hK0:Keeps (fun q=>C.X q∨F inj st.sig q) (fun q=>C.X q∨vdg (fun q=>q != L) inj st.sig q) w w :=
   ⟨v1f _,fun _ _ _=>rfl,fun q _ hn hq=>hn (hq.imp id fun ⟨l,c,o,a1,a2,_,a4⟩=>⟨l,c,o,a1,a2,rfl,a4⟩)⟩
  have hsome:∀i j,c (qeg x0 r i) (qeg x0 r j)=some ((c (qeg x0 r i) (qeg x0 r j)).getD 0):=by
   intro i j;obtain ⟨z,hz⟩:=v1u.1 (hdef _ (qtm x0 r i) _ (qtm x0 r j));rw [hz];rfl
  have hcon0:=hc _ _ _ (hsome 0 0);have hrows:=S.rows (qeg v0 vr) honeAt (fun i j=>(c (qeg x0 r i) (qeg x0 r j)).getD 0) hok.swo kc cvs.toArray b 0 (cp - 0) (vzg (r.length+1)) w hcon0.body;rw [Array.size_range] at hrows;refine (hrows ?_ ?_ hb (by simpa using hlt)).mono ?_
  ·intro m os dk hdk x y;have hW:Go.Proofs.sortWorld (qeg v0 vr) w b 0 m dk os=Sort.grow (Sort.putRow id (Sort.ahead w m) b 0 (dk.map (qeg v0 vr))) os:=by
    unfold Go.Proofs.sortWorld;rw [qq8]
   rw [hW];have hK:=Keeps.rows (w:=w) (b:=b) (m:=m) (F:=dk.map (qeg v0 vr)) (os:=os) (Y:=fun q=>C.X q∨vdg (fun q=>q != L) inj st.sig q) hYb;generalize hWW:Sort.grow (Sort.putRow id (Sort.ahead w m) b 0 (dk.map (qeg v0 vr))) os=W at hK;have hcon:=hc _ _ _ (hsome x y);have hcall:=hcon.pure (fun q=>C.X q∨vdg (fun q=>q != L) inj st.sig q) W (qeg v0 vr x :: qeg v0 vr y :: cvs) (fun q hq=>Nat.lt_of_lt_of_le (hY q hq) hK.size) (((qvu hs.ev).keep hK0).keep hK)
    ⟨_,_,rfl,PR.keep hK _ _ (PR.keep hK0 _ _ (hat x)),_,_,rfl,PR.keep hK _ _ (PR.keep hK0 _ _ (hat y)),PRs.keep hK _ _ hcaps⟩
   have hargs:#[qeg v0 vr x,qeg v0 vr y]++cvs.toArray=(qeg v0 vr x :: qeg v0 vr y :: cvs).toArray:=by simp
   rw [hargs];refine hcall.mono ?_;rintro e' w' ⟨v,rfl,hv,hfr⟩;simp only [PR] at hv;subst hv;exact ⟨rfl,hfr.grow⟩
  ·intro j hj;have hj':j < r.length+1:=by simpa using hj
   have hcj:cur[j]?=some (qeg v0 vr j):=by
    have h5:(cur.toList.take ((v2v AV.p (v2v enc (x0 :: r))).length * 1))[j]?=vs[j]?:=by rw [i7,hfl]
    rw [v0f,if_pos (by simpa using hj'),vze] at h5;rw [h5,hv0];have:j < (v0 :: vr).length:=by simp;omega
    simp [qeg,vz9 this,List.getD]
   have hr:(vzg (r.length+1))[j]! = j:=by rw [getElem!_pos _ j (by simpa using hj')];simp
   rw [hr];refine ⟨?_,?_⟩
   ·simp only [World.cell?,i3,v1q];simpa using hcj
   ·simp [World.frozen?,i3]
  ·rintro e' w' ⟨rfl,m,os,rfl⟩;have hp:=q6f hok;have hsr:srt (fun x y=>(c x y).getD 0) (x0 :: r)=(Sort.pdq (Go.Proofs.ltOf fun i j=>(c (qeg x0 r i) (qeg x0 r j)).getD 0) (vzg (r.length+1)) 0 (r.length+1) (v2a (r.length+1)) true true).toList.map (qeg x0 r):=rfl;rw [hsr] at h;generalize Sort.pdq (Go.Proofs.ltOf fun i j=>(c (qeg x0 r i) (qeg x0 r j)).getD 0) (vzg (r.length+1)) 0 (r.length+1) (v2a (r.length+1)) true true=d at h hp ⊢;have hds:d.size=r.length+1:=by have:=hp.1.1;simpa using this
   have hfl':(flat (d.toList.map (qeg v0 vr))).toArray=d.map (qeg v0 vr):=by
    rw [qil (fun v hv=>by obtain ⟨i,_,rfl⟩:=v3a.1 hv;exact honeAt i)];apply vy9;simp
   have hW:Go.Proofs.sortWorld (qeg v0 vr) w b 0 m d os=Sort.grow (Sort.putRow id (Sort.ahead w m) b 0 (flat (d.toList.map (qeg v0 vr))).toArray) os:=by
    unfold Go.Proofs.sortWorld;rw [qq8,hfl']
   rw [hW];have hars:∀l:List Nat,ARs C.X inj st.sig w (v2v AV.p (v2v enc (l.map (qeg x0 r)))) (l.map (qeg v0 vr)):=by
    intro l
    induction l with
    | nil=>rfl
    | cons i l ih=>exact ⟨_,_,rfl,hat i,ih⟩
   obtain ⟨hH,hE⟩:=HR.rows hs.hr (m:=m) (os:=os) hobj hi (by simp [hds]) (hars d.toList)
    (fun v hv=>by obtain ⟨i,_,rfl⟩:=v3a.1 hv;exact o2 _ (by rw [hv0];exact qtm v0 vr i))
    (by rw [qil (fun v hv=>by obtain ⟨i,_,rfl⟩:=v3a.1 hv;exact honeAt i)];intro u hu;obtain ⟨i,_,rfl⟩:=v3a.1 hu;exact honeAt i)
   exact h inj _ _ (hs.put (u:=some (L,_)) hd hH hE (v:=.p (.tup [])) ⟨[],rfl,rfl⟩)
structure SrtI (P:Program) (k:FuncId):Prop where
 body:HasBody P k
 rows:∀(blk off cap:Nat) (zs:List Int) (w:World),Sort.Holds (Value.int .i64) w blk off zs.toArray→blk < w.heap.size→zs.length < 4611686018427387904 →
  Calls P k #[.slice (some ⟨blk,off,none⟩) zs.length cap] w fun e w' =>
   e=.returned (.tuple #[])∧∃n os,w'=Sort.grow (Sort.putRow (Value.int .i64) (Sort.ahead w n) blk off (zs.mergeSort fun x y=>decide (x≤y)).toArray) os
 none:∀(p:Option Addr) (cap:Nat) (w:World),Calls P k #[.slice p 0 cap] w fun e w'=>e=.returned (.tuple #[])∧w'=w
def qr2 (l:List Int):List Int:=l.mergeSort fun x y=>decide (x≤y)
def q1i (l:List Int):Option (List Int):=if l.length < 4611686018427387904 then some (qr2 l) else none
theorem q6h {X:Nat→Prop} {inj:Inj} {σ:Nat→AO} {w:World}:∀{l:List Int} {vs:List Value},ARs X inj σ w (v2v AV.p (v2v (PV.int .i64) l)) vs→vs=l.map (Value.int .i64)
 | [],vs,h=>h
 | x :: l,vs,h=>by
  obtain ⟨v,r,rfl,h2,h3⟩:=h;simp only [AR,PR] at h2;rw [h2,q6h h3];rfl
theorem q1j {X:Nat→Prop} {inj:Inj} {σ:Nat→AO} {w:World}:∀(l:List Int),ARs X inj σ w (v2v AV.p (v2v (PV.int .i64) l)) (l.map (Value.int .i64))
 | []=>rfl
 | x :: l=>⟨_,_,rfl,rfl,q1j l⟩
theorem vr1 {ops:Array Oper} {o:Oper} {rest:List Oper} {f:Operand} {args:Array Operand} {ats:Array TypeId} {k:FuncId} {e g n L:Nat}
  (S:SrtI C.P k) {l l':List Int} (hl:q1i l=some l')
  (ho:o.op=.call ⟨.value f,args,ats⟩) (hg:qbq ops st.env o=some true) (hd:qdm C.N o=true)
  (hk:qby st.env f args.toList=some (k,[.own L g 0 n]))
  (hobj:qa4 st.heap L=.arr e 1 g (v2v AV.p (v2v (PV.int .i64) l))) (hn:n=l.length)
  (h:AL C ops rest Q ⟨qig st.env o.dst (.p (.tup [])),qqv st.heap L (.arr e 1 g (v2v AV.p (v2v (PV.int .i64) l')))⟩):AL C ops (o :: rest) Q st:=by
 intro inj a w hs;simp only [wpList,qef hs hg,if_true];refine .inl ?_;obtain ⟨vs,hrun,hars⟩:=qpw hs ho S.body hk;unfold Oper.wp;rw [hrun];simp only [Oper.upon];obtain ⟨v1,r1,rfl,ha1,rfl⟩:=hars;obtain ⟨⟨sa,sn,sc,rfl⟩,hown⟩:=ha1;obtain ⟨_,hown⟩:=hown _ hobj;obtain ⟨hle,hcase⟩:=hown rfl e 1 _ rfl;unfold q1i at hl;split at hl
 case isFalse=>cases hl
 rename_i hlt;obtain rfl:=v3q hl;rcases hcase with ⟨_,h2,_,hn0⟩ | ⟨b,cp,a0,hi,h2,h3,h4⟩
 ·have hl0:l=[]:=vz2 (by omega);subst hl0;have e0:qr2 []=[]:=by simp [qr2]
  rw [e0] at h;rw [h2];refine (S.none none 0 w).mono ?_;rintro e' w' ⟨rfl,rfl⟩;have hsame:upd st.sig (some (L,.arr e 1 g (v2v AV.p (v2v (PV.int .i64) []))))=st.sig:=by
   funext q;simp only [upd,qpm];by_cases hq:q=L
   ·rw [if_pos hq,hq];exact hobj.symm
   ·rw [if_neg hq]
  exact h inj _ _ (hs.put (u:=some (L,.arr e 1 g (v2v AV.p (v2v (PV.int .i64) [])))) hd (by rw [hsame];exact hs.hr) (by rw [hsame];exact Ev.refl _ _ _ _) (v:=.p (.tup [])) ⟨[],rfl,rfl⟩)
 ·obtain ⟨vs,o1,o2,o3,o4⟩:=hs.hr.obj L _ hobj;have ha0:a0=some ⟨b,0,none⟩:=by
   rcases h4 with ⟨h4,_⟩ | h4
   ·exact absurd rfl h4
   ·simpa using h4
  rw [h2,ha0,hn];rcases o4 with ⟨o4,_⟩ | ⟨b',c',cur,i1,i2,i3,i4,i5,i6,i7⟩
  ·rw [hi] at o4;cases o4
  rw [hi] at i1;cases i1;have hb:b < w.heap.size:=(vzb.1 i3).1;have hvs:=q6h o1;have hone:∀l:List Int,∀v∈l.map (Value.int .i64),v.oneCell'=true:=fun l v hv=>by obtain ⟨x,_,rfl⟩:=v3a.1 hv;rfl
  refine (S.rows b 0 (cp - 0) l w ?_ hb hlt).mono ?_
  ·intro j hj;have hj':j < l.length:=by simpa using hj
   have hcj:cur[j]?=some (Value.int .i64 l[j]):=by
    have h5:(cur.toList.take ((v2v AV.p (v2v (PV.int .i64) l)).length * 1))[j]?=vs[j]?:=by rw [i7,hvs,qil (hone l)]
    rw [v0f,if_pos (by simpa using hj'),vze] at h5;rw [h5,hvs,v0c,vz9 hj'];rfl
   have hr:l.toArray[j]! = l[j]:=by rw [getElem!_pos _ j (by simpa using hj')];simp
   rw [hr];refine ⟨?_,?_⟩
   ·simp only [World.cell?,i3,v1q];simpa using hcj
   ·simp [World.frozen?,i3]
  ·rintro e' w' ⟨rfl,m,os,rfl⟩;have hfl':(flat ((qr2 l).map (Value.int .i64))).toArray=((l.mergeSort fun x y=>decide (x≤y)).toArray).map (Value.int .i64):=by
    rw [qil (hone _)];apply vy9;simp [qr2]
   rw [qq8,←hfl'];obtain ⟨hH,hE⟩:=HR.rows hs.hr (m:=m) (os:=os) hobj hi (by simp [qr2]) (q1j (qr2 l))
    (fun v hv=>by obtain ⟨i,_,rfl⟩:=v3a.1 hv;rfl) (by rw [qil (hone _)];exact hone _)
   exact h inj _ _ (hs.put (u:=some (L,_)) hd hH hE (v:=.p (.tup [])) ⟨[],rfl,rfl⟩)
theorem qo1 (l:List Int):(qr2 l).Perm l:=v3e _ _
theorem q1k (l:List Int):(qr2 l).Pairwise (·≤·):=by
 have:=List.pairwise_mergeSort (le:=fun x y:Int=>decide (x≤y)) (by intro a b c;simp;omega) (by intro a b;simp;omega) l;exact this.imp (by simp)
theorem q1l {l l':List Int} (h:q1i l=some l'):l'.length=l.length:=by
 unfold q1i at h;split at h
 ·cases h;exact (qo1 l).length_eq
 ·cases h
theorem vdw {α:Type} {c:α→α→Option Int} {l l':List α} (h:vhm c l=some l'):l'.length=l.length:=by
 unfold vhm at h;split at h
 ·rename_i hc;cases h;exact (q6g hc.2.1).length_eq
 ·cases h
theorem zSI {ops:Array Oper} {o:Oper} {rest:List Oper} {f:Operand} {args:Array Operand} {ats:Array TypeId} {k:FuncId} {e g n L:Nat}
  (S:SrtI C.P k) {l l':List Int} (hl:q1i l=some l') (h:AL C ops rest Q ⟨qig st.env o.dst (.p (.tup [])),qqv st.heap L (.arr e 1 g (v2v AV.p (v2v (PV.int .i64) l')))⟩)
  (ho:o.op=.call ⟨.value f,args,ats⟩:=by rfl) (hg:qbq ops st.env o=some true:=by first | exact qbf rfl | exact qie rfl rfl (by exact rfl) (by exact rfl)) (hd:qdm C.N o=true:=by rfl)
  (hk:qby st.env f args.toList=some (k,[.own L g 0 n]):=by simp only [go_sem,seval, *];first | exact ⟨rfl,rfl,rfl⟩ | exact rfl)
  (hobj:qa4 st.heap L=.arr e 1 g (List.map AV.p (List.map (PV.int .i64) l)):=by simp only [go_sem,seval, *];exact rfl) (hn:n=l.length:=by rfl):AL C ops (o :: rest) Q st:=vr1 S hl ho hg hd hk hobj hn h
theorem zSF {α:Type} {ops:Array Oper} {o:Oper} {rest:List Oper} {f:Operand} {args:Array Operand} {ats:Array TypeId} {k kc:FuncId} {caps:List PV} {fv:AV} {e g n L:Nat}
  (S:Srt1 C.P k) (enc:α→PV) (c:α→α→Option Int) {l l':List α} (hl:vhm c l=some l') (hc:∀x y r,c x y=some r→Con True C.P kc (enc x :: enc y :: caps) (.int .i64 r))
  (h:AL C ops rest Q ⟨qig st.env o.dst (.p (.tup [])),qqv st.heap L (.arr e 1 g (v2v AV.p (v2v enc l')))⟩)
  (h1:∀x,(AV.p (enc x)).one=true:=by intro x;rfl)
  (ho:o.op=.call ⟨.value f,args,ats⟩:=by rfl) (hg:qbq ops st.env o=some true:=by first | exact qbf rfl | exact qie rfl rfl (by exact rfl) (by exact rfl)) (hd:qdm C.N o=true:=by rfl)
  (hk:qby st.env f args.toList=some (k,[.own L g 0 n,fv]):=by simp only [go_sem,seval, *];first | exact ⟨⟨rfl,rfl,rfl⟩,rfl⟩ | exact ⟨rfl,rfl,rfl,rfl⟩ | exact rfl) (hfv:(qe8 (fun q=>q != L) 9 fv).run st.sig=some (.func (.func kc) caps):=by simp only [go_sem,seval, *];all_goals exact zF)
  (hobj:qa4 st.heap L=.arr e 1 g (List.map AV.p (List.map enc l)):=by simp only [go_sem,seval, *];exact rfl) (hn:n=l.length:=by rfl):AL C ops (o :: rest) Q st:=vr0 S enc h1 c hl hc ho hg hd hk hfv hobj hn h
end Go.Ab
namespace Go.Ab
variable {D:Prop}
open Go
def vi7 (n₀:Nat) (W:World) (sv:Value) (zs:List Int):Prop :=
 (∃a cap,sv=.slice a 0 cap∧zs=[])∨∃b off cap,sv=.slice (some ⟨b,off,none⟩) zs.length cap∧b < n₀∧∀j,j < zs.length→W.cell? ⟨b,off+j,none⟩=some (.int .i64 (zs[j]?.getD 0))
theorem vi7.below {n₀:Nat} {A B:World} (h:RowKit.Below n₀ A B) {sv:Value} {zs:List Int}:vi7 n₀ A sv zs→vi7 n₀ B sv zs
 | .inl e=>.inl e
 | .inr ⟨b,off,cap,e,hb,hc⟩=>.inr ⟨b,off,cap,e,hb,fun j hj=>(h.cell (p:=⟨b,off+j,none⟩) hb).trans (hc j hj)⟩
variable {C:Cx} {Q:Exit→St→Prop} {st:St}
end Go.Ab
namespace Go.Ab
variable {D:Prop}
open Go
def q4s (C:Cx) (ops:Array Oper):List Evt→Nat→(Nat→AV)×(Nat→AO)→Prop
 | [],_,_=>True
 | e :: es,i,s=>(∃o,ops[i]?=some o∧vb3 C ops o s.1 s.2 e)∧q4s C ops es (i+1) (q0h s.1 ((ops[i]?).bind (·.dst)) e.v,upd s.2 e.u)
theorem q4s.at {C:Cx} {ops:Array Oper}:∀{es:List Evt} {i:Nat} {s:(Nat→AV)×(Nat→AO)},q4s C ops es i s→∀j e,i≤j→es[j - i]?=some e →
  ∃o,ops[j]?=some o∧vb3 C ops o (apD ops es i (fun m=>decide (m < j)) s).1 (apD ops es i (fun m=>decide (m < j)) s).2 e
 | [],i,s,h,j,e,hj,he=>by simp at he
 | e0 :: es,i,s,h,j,e,hj,he=>by
  obtain ⟨⟨o,ho,hst⟩,hrest⟩:=h;have skip:∀(es':List Evt) (m:Nat) (s':(Nat→AV)×(Nat→AO)),j≤m→apD ops es' m (fun m=>decide (m < j)) s'=s':=by
   intro es'
   induction es' with
   | nil=>intro m s' _;rfl
   | cons x xs ih=>intro m s' hm;simp only [apD];rw [if_neg (by simp;omega)];exact ih (m+1) s' (by omega)
  by_cases hji:j=i
  ·subst hji;simp only [v3l,v2j,v1x] at he;subst he;rw [skip _ _ _ (v1f _)];exact ⟨o,ho,hst⟩
  ·have hlt:i < j:=by omega
   have:=q4s.at hrest j e (by omega) (by rw [show j - i=(j - (i+1))+1 by omega] at he;simpa using he);simp only [apD];rw [if_pos (by simpa using hlt)];exact this
theorem DCh.chainP {C:Cx} {ops:Array Oper} {l:List Oper} {st:St} {es:List Evt} {st':St} (h:DCh C ops l st es st'):∀i,(∀j,j < l.length→ops[i+j]?=l[j]?) →
  es.length=l.length∧q4s C ops es i (st.env.get,st.sig)∧apD ops es i (fun _=>true) (st.env.get,st.sig)=(st'.env.get,st'.sig):=by
 induction h with
 | nil=>intro i hi;exact ⟨rfl,trivial,rfl⟩
 | @cons o rest st e es st' hd h hr ih =>
  intro i hi;have h0:ops[i]?=some o:=by have:=hi 0 (by simp);simpa using this
  obtain ⟨h3,h1,h2⟩:=ih (i+1) (fun j hj=>by have:=hi (j+1) (by simp;omega);rw [show i+1+j=i+(j+1) by omega,this];simp);have e1:((q0h st.env.get ((ops[i]?).bind (·.dst)) e.v,upd st.sig e.u):(Nat→AV)×(Nat→AO))=((⟨qig st.env o.dst e.v,qyu st.heap e.u⟩:St).env.get,(⟨qig st.env o.dst e.v,qyu st.heap e.u⟩:St).sig):=by
   rw [h0];simp only [v1r,q6a,St.sig,qti]
  refine ⟨by simp [h3],⟨⟨o,h0,hd,?_⟩,?_⟩,?_⟩
  ·rw [q57,qum];exact h
  ·rw [e1];exact h1
  ·simp only [apD,if_true];rw [e1];exact h2
theorem vf7 {P:Program} {ops:Array Oper} {Q:Exit→Act→World→Prop} (hsl:qn0 ops=true) {n:Nat} (hlast:∀j,n≤j→j < ops.size→∀i,i < j→Reach ops j i) :
  ∀(k m fuel:Nat) (listed:Array Bool) (a:Act) (w:World),n≤m→m+k=ops.size→listed.size=ops.size→(∀j,j < m→listed.getD j false=true)→(∀j,m≤j→j < ops.size→listed.getD j false=false)→k≤fuel →
   wpOps P ops Q (v3f m k) a w→wpAny P .any ops Q fuel listed a w:=by
 intro k
 induction k with
 | zero =>
  intro m fuel listed a w hnm hm hsz hall hno hk hq;have hr:Region.ready .any ops listed=[]:=by
   cases hrd:Region.ready .any ops listed with
   | nil=>rfl
   | cons i _ =>
    exfalso;have hi:i∈Region.ready .any ops listed:=by rw [hrd];exact v24
    obtain ⟨h0,o,ho,_⟩:=mem_ready.1 hi;have hlt:=(vzb.1 ho).1;have:=hall i (by omega);rw [getD_both h0] at this;cases this
  have hq':Q .normal a w:=hq;cases fuel with
  | zero=>exact ⟨hr,hq'⟩
  | succ fuel=>exact ⟨fun _=>hq',fun i hi=>by rw [hr] at hi;cases hi⟩
 | succ k ih =>
  intro m fuel listed a w hnm hm hsz hall hno hk hq;cases fuel with
  | zero=>omega
  | succ fuel =>
  have hcl:q86 ops (fun j=>listed.getD j false):=by
   intro j hj p hp;have hjm:j < m:=by
    by_cases hjm:j < m
    ·exact hjm
    ·have hjs:j < ops.size:=by
      by_cases hjs:j < ops.size
      ·exact hjs
      ·have:listed.getD j false=false:=by simp [show ¬j < listed.size by omega]
       simp only [this] at hj;cases hj
     have:=hno j (by omega) hjs;simp only [this] at hj;cases hj
   by_cases hp':p < m
   ·exact hall p hp'
   ·exfalso;obtain ⟨oj,hoj⟩:∃oj,ops[j]?=some oj:=⟨ops[j]'(by omega),by simp [show j < ops.size by omega]⟩;have:=qoh hsl (by omega:j < ops.size) p hp;omega
  refine ⟨fun hr=>?_,fun i hi=>?_⟩
  ·exfalso;have:m∈Region.ready .any ops listed:=by
    refine mem_ready.2 ⟨getD_in (by omega) (hno m (v1f _) (by omega)),ops[m]'(by omega),by simp [show m < ops.size by omega],fun e he hb=>?_⟩;have hp:e.on∈qid ops m:=by
     unfold qid;simp only [show m < ops.size by omega,getElem?_pos];exact v3a.2 ⟨e,v28.2 ⟨by simpa using he,hb⟩,rfl⟩
    exact hall _ (qoh hsl (by omega) _ hp)
   rw [hr] at this;cases this
  ·obtain ⟨h0,o,ho,hpre⟩:=mem_ready.1 hi;have hlt:=(vzb.1 ho).1;have him:i=m:=by
    rcases v3i i m with h | h | h
    ·have:=hall i h;rw [getD_both h0] at this;cases this
    ·exact h
    ·exfalso;have hpre':∀m∈qid ops i,listed.getD m false=true:=by
      intro m hm;unfold qid at hm;rw [ho] at hm;obtain ⟨e,he,rfl⟩:=v3a.1 hm;obtain ⟨he1,he2⟩:=v28.1 he;exact hpre e (by simpa using he1) he2
     have:=(hlast i (by omega) hlt m h).ready (D:=fun j=>listed.getD j false) hcl hpre';simp only [hno m (v1f _) (by omega)] at this;cases this
   subst him;rw [List.range'_succ,wpOps_cons] at hq;refine wpOp_mono (fun a' w' hq'=>ih (i+1) fuel _ a' w' (by omega) (by omega) (by simp [hsz]) (fun j hj=>?_) (fun j hj hjs=>?_) (by omega) hq') hq
   ·by_cases hji:i=j
    ·subst hji;simp [hsz,hlt]
    ·rw [getD_set_ne false hji];exact hall j (by omega)
   ·rw [getD_set_ne false (by omega)];exact hno j (by omega) hjs
theorem vf8 {C:Cx} {ops:Array Oper} {es:List Evt} {s0:(Nat→AV)×(Nat→AO)} {Q:Exit→Act→World→Prop} {n:Nat} (hn:n < ops.size) (hlen:es.length=n) (hch:q4s C ops es 0 s0) (hsl:qn0 ops=true) (hev:qz6 ops es=true)
  (hlast:∀j,n≤j→j < ops.size→∀i,i < j→Reach ops j i) (hQ:∀a w inj,SRf C (apD ops es 0 (fun _=>true) s0).1 (apD ops es 0 (fun _=>true) s0).2 inj a w→wpOps C.P ops Q (v3f n (ops.size - n)) a w) :
  ∀(fuel:Nat) (listed:Array Bool) (a:Act) (w:World) (inj:Inj),listed.size=ops.size→q86 ops (fun j=>listed.getD j false)→(∀j,n≤j→j < ops.size→listed.getD j false=false)→(listed.toList.filter (! ·)).length≤fuel →
   SRf C (apD ops es 0 (fun j=>listed.getD j false) s0).1 (apD ops es 0 (fun j=>listed.getD j false) s0).2 inj a w→wpAny C.P .any ops Q fuel listed a w:=by
 have some_ready:∀(listed:Array Bool),listed.size=ops.size→listed.getD n false=false→Region.ready .any ops listed≠[]:=by
  intro listed hsz hnl hr;have all:∀j,j < ops.size→listed.getD j false=true:=by
   intro j
   induction j using v3k with
   | _ j ih =>
    intro hj;by_cases hl:listed.getD j false=true
    ·exact hl
    ·have:j∈Region.ready .any ops listed:=by
      refine mem_ready.2 ⟨getD_in (by omega) (by simpa using hl),ops[j],by simp [hj],fun e he hb=>?_⟩;have hp:e.on∈qid ops j:=by
       unfold qid;simp only [hj,getElem?_pos];exact v3a.2 ⟨e,v28.2 ⟨by simpa using he,hb⟩,rfl⟩
      have hlt:=qoh hsl hj _ hp;exact ih _ hlt (by omega)
     rw [hr] at this;cases this
  have:=all n hn;rw [hnl] at this;cases this
 have count:∀(k:Nat) (l:List Bool) (m:Nat),m+k=l.length→(∀j,m≤j→j < l.length→l[j]?=some false)→k≤(l.filter (! ·)).length:=by
  intro k l m hm h;have h1:(l.drop m).length=k:=by rw [v0i];omega
  have h2:((l.drop m).filter (! ·))=l.drop m:=by
   rw [List.filter_eq_self];intro b hb;obtain ⟨j,hj,rfl⟩:=List.mem_iff_getElem.1 hb;have:=h (m+j) (by omega) (by rw [v0i] at hj;omega);rw [List.getElem_drop];obtain ⟨_,h3⟩:=v0b.1 this;rw [h3];rfl
  have h3:((l.drop m).filter (! ·)).length≤(l.filter (! ·)).length:=by
   conv=>rhs;rw [←v3g m l,List.filter_append,v0h]
   omega
  rw [h2,h1] at h3;exact h3
 intro fuel
 induction fuel with
 | zero =>
  intro listed a w inj hsz hcl hnl hf hs;exfalso;have hlt:n < listed.size:=by omega
  have hm:listed[n]'hlt∈listed.toList:=by simp
  have h0':listed[n]'hlt=false:=by simpa [hlt] using hnl n (v1f _) hn
  have:listed[n]'hlt∈listed.toList.filter (! ·):=v28.2 ⟨hm,by rw [h0'];rfl⟩;have:0 < (listed.toList.filter (! ·)).length:=v2s this;omega
 | succ fuel ih =>
  intro listed a w inj hsz hcl hnl hf hs;by_cases hfull:∀j,j < n→listed.getD j false=true
  ·rw [qv7 ops es 0 _ (fun _=>true) s0 fun j _ h2=>hfull j (by omega)] at hs;refine vf7 hsl hlast (ops.size - n) n _ listed a w (v1f _) (by omega) hsz hfull hnl ?_ (hQ a w inj hs);refine v1h (count _ listed.toList n (by simp;omega) (fun j h1 h2=>?_)) hf;have:=hnl j h1 (by simp at h2;omega);have h3:j < listed.size:=by simpa using h2
   rw [vze];simpa [h3] using this
  refine ⟨fun hr=>absurd hr (some_ready listed hsz (hnl n (v1f _) hn)),fun i hi=>?_⟩;obtain ⟨h0,o,ho,hpre⟩:=mem_ready.1 hi;have hlt:=(vzb.1 ho).1;have hltn:i < n:=by
   by_cases hltn:i < n
   ·exact hltn
   ·exfalso;apply hfull;intro j hj;have hpre':∀m∈qid ops i,listed.getD m false=true:=by
     intro m hm;unfold qid at hm;rw [ho] at hm;obtain ⟨e,he,rfl⟩:=v3a.1 hm;obtain ⟨he1,he2⟩:=v28.1 he;exact hpre e (by simpa using he1) he2
    exact (hlast i (by omega) hlt j (by omega)).ready (D:=fun j=>listed.getD j false) hcl hpre'
  have h0f:listed.getD i false=false:=getD_both h0;have hpre':∀m∈qid ops i,listed.getD m false=true:=by
   intro m hm;unfold qid at hm;rw [ho] at hm;obtain ⟨e,he,rfl⟩:=v3a.1 hm;obtain ⟨he1,he2⟩:=v28.1 he;exact hpre e (by simpa using he1) he2
  obtain ⟨e,he⟩:∃e,es[i]?=some e:=⟨es[i]'(by omega),vz9 (by omega)⟩;obtain ⟨o',ho',hst⟩:=hch.at i e (v3n _) (by simpa using he);have:o'=o:=v3q (ho'.symm.trans ho);subst this
  -- which are listed,compared with the text's order
  have cmpSlot:∀t∈o'.looksAt ops,(apD ops es 0 (fun j=>listed.getD j false) s0).1 t=(apD ops es 0 (fun m=>decide (m < i)) s0).1 t:=by
   intro t ht;refine q58 ops t es 0 _ _ s0 s0 rfl fun j _ hj hd=>?_
   obtain ⟨oj,hoj⟩:∃oj,ops[j]?=some oj:=⟨ops[j]'(by omega),by simp [show j < ops.size by omega]⟩;rw [hoj] at hd;simp only [v1r] at hd;rcases v3i j i with hji | hji | hji
   ·simp only [hji,decide_true];rcases qmb hsl hji hoj ho with hr | hr
    ·exact hr.ready (D:=fun j=>listed.getD j false) hcl hpre'
    ·exact absurd ht ((Oper.apart_spec hr).1 t hd)
   ·subst hji;simpa using h0f
   ·have:decide (j < i)=false:=by simp;omega
    rw [this];rcases qmb hsl hji ho hoj with hr | hr
    ·by_cases hl:listed.getD j false=true
     ·have:=hr.closed (D:=fun j=>listed.getD j false) hcl hl;simp only [h0f] at this;cases this
     ·simpa using hl
    ·exact absurd ht ((Oper.apart_spec hr).2.2 t hd)
  have cmpLoc:∀l∈e.reads,(apD ops es 0 (fun j=>listed.getD j false) s0).2 l=(apD ops es 0 (fun m=>decide (m < i)) s0).2 l:=by
   intro l hl;refine vb4 ops l es 0 _ _ s0 s0 rfl fun j ej _ hej hw=>?_
   simp only [v1p] at hej;have hjn:j < ops.size:=by have:=(v0b.1 hej).1;omega
   rcases v3i j i with hji | hji | hji
   ·simp only [hji,decide_true];rcases qoq hev hji hlt hej he with hr | hr
    ·exact hr.ready (D:=fun j=>listed.getD j false) hcl hpre'
    ·exact absurd hl (hr.1 l hw).1
   ·subst hji;simpa using h0f
   ·have:decide (j < i)=false:=by simp;omega
    rw [this];rcases qoq hev hji hjn he hej with hr | hr
    ·by_cases hl':listed.getD j false=true
     ·have:=hr.closed (D:=fun j=>listed.getD j false) hcl hl';simp only [h0f] at this;cases this
     ·simpa using hl'
    ·exact absurd hl (hr.2 l hw)
  have hst':=hst.frame cmpSlot cmpLoc;obtain ⟨hdst,hst'⟩:=hst';have hjoin:=q59 ops i e es 0 (fun j=>listed.getD j false) s0 (v3n _) (by simpa using he) h0f (by
   intro j ej hij hej hD;simp only [v1p] at hej;have hjn:j < ops.size:=by have:=(v0b.1 hej).1;omega
   obtain ⟨oj,hoj⟩:∃oj,ops[j]?=some oj:=⟨ops[j]'(by omega),by simp [show j < ops.size by omega]⟩;have nr:¬Reach ops j i:=fun hr=>by
    have:=hr.closed (D:=fun j=>listed.getD j false) hcl hD;simp only [h0f] at this;cases this
   constructor
   ·rcases qmb hsl hij ho hoj with hr | hr
    ·exact (nr hr).elim
    ·rw [hoj,ho];simp only [v1r];cases hd:oj.dst with
     | none=>exact .inl rfl
     | some d =>
      refine .inr fun hh=>?_
      exact (Oper.apart_spec hr).2.1 d hh.symm hd
   ·rcases qoq hev hij hjn he hej with hr | hr
    ·exact (nr hr).elim
    ·cases hw:ej.wr with
     | none=>exact .inl rfl
     | some l =>
      refine .inr fun hh=>?_
      exact (hr.1 l hh.symm).2 hw)
  have hD':apD ops es 0 (fun j=>(listed.setIfInBounds i true).getD j false) s0=apD ops es 0 (fun j=>j == i || listed.getD j false) s0:=by
   refine qv7 ops es 0 _ _ s0 fun j _ hj=>?_
   by_cases hji:i=j
   ·subst hji;simp [hsz,hlt]
   ·rw [getD_set_ne false hji];have:(j == i)=false:=by simp;omega
    simp [this]
  have next:∀a' w' inj',SRf C (q0h (apD ops es 0 (fun j=>listed.getD j false) s0).1 o'.dst e.v) (upd (apD ops es 0 (fun j=>listed.getD j false) s0).2 e.u) inj' a' w' →
    wpAny C.P .any ops Q fuel (listed.setIfInBounds i true) a' w':=by
   intro a' w' inj' hs';refine ih (listed.setIfInBounds i true) a' w' inj' (by simp [hsz]) ?_ (fun j hj hjs=>by rw [getD_set_ne false (by omega)];exact hnl j hj hjs) ?_ ?_
   ·intro j hj m hm;by_cases hji:i=j
    ·subst hji;exact getD_set_true (hpre' m hm)
    ·have hj':(listed.setIfInBounds i true).getD j false=true:=hj;rw [getD_set_ne false hji] at hj';exact getD_set_true (hcl j hj' m hm)
   ·have hli:listed[i]?=some false:=by
     have:i < listed.size:=by omega
     simp [this] at h0f ⊢;exact h0f
    have key:∀(l:List Bool) (i:Nat),l[i]?=some false→((l.set i true).filter (! ·)).length+1=(l.filter (! ·)).length:=by
     intro l
     induction l with
     | nil=>intro i h;simp at h
     | cons b l ihl =>
      intro i h;cases i with
      | zero=>simp at h;subst h;simp
      | succ i =>
       simp only [v2i] at h;have:=ihl i h;cases b <;> simp [this] <;> omega
    have:=key listed.toList i (by simpa using hli);rw [v17];omega
   ·rw [hD',hjoin,ho];exact hs'
  unfold wpOp;rw [ho];simp only;rcases hst' with ⟨hg,hdo⟩ | ⟨hg,rfl⟩
  ·rw [qpx hs hg];simp only [if_true];exact .inl (hdo.sound hs hdst next)
  ·rw [qpx hs hg];simp only [vzo,if_false];exact next _ _ inj (hs.put (u:=none) hdst hs.hr (Ev.refl _ _ _ _) ⟨[],rfl,rfl⟩)
def vdx (ops:Array Oper) (n:Nat):Bool:=decide (n < ops.size) && (v3f n (ops.size - n)).all fun j=>(v0z j).all fun i=>vfy (vl8 ops ops.size) j i
theorem vca {ops:Array Oper} {n:Nat} (h:vdx ops n=true):n < ops.size∧∀j,n≤j→j < ops.size→∀i,i < j→Reach ops j i:=by
 simp only [vdx,vzm,decide_eq_true_eq,v2b,v3c,List.mem_range'_1] at h;exact ⟨h.1,fun j h1 h2 i hi=>qv6 (h.2 j ⟨h1,by omega⟩ i hi)⟩
variable {C:Cx} {Q:Exit→St→Prop} {st:St}
def DKL (C:Cx) (l:Array Oper) (r:List Oper) (Q:Exit→St→Prop):List Evt→St→Prop:=fun es st'=>qz6 l es=true∧AL C l r Q st'
theorem q3h (n:Nat) {id:Nat} {l:List Oper} (hm:C.P.follows .mixedOrders=true) (hsl:qn0 l.toArray=true) (hls:vdx l.toArray n=true) (h:DGo C l.toArray (l.take n) st [] (DKL C l.toArray (l.drop n) Q)):AWp C (.region id l.toArray true) Q st:=by
 obtain ⟨es,st',h1,h2,h3⟩:=h;obtain ⟨hsize,hreach⟩:=vca hls;have hsz:n < l.length:=by simpa using hsize
 obtain ⟨hel,hcp,hap⟩:=h1.chainP 0 (fun j hj=>by
  rw [v0n] at hj;rw [v0f,if_pos (by omega)];simp)
 have hel':es.length=n:=by rw [hel,v0n];omega
 simp only [List.reverse_nil,v0y] at h2;intro inj a w hs;refine wp_region_any hm ?_;have hf:Fr C.D w { w with drawn:=w.drawn+1 }:=⟨rfl,rfl,rfl,fun _=>v1g _,v1f _,fun _ _=>rfl,fun _ _=>rfl⟩;have hE:Ev C.D C.X inj st.sig w inj st.sig { w with drawn:=w.drawn+1 }:=hf.ev;refine vf8 hsize hel' hcp hsl h2 hreach ?_ _ _ _ _ inj (by simp) ?_ ?_ ?_ ?_
 ·intro a' w' inj' hs';rw [hap] at hs';have hal:=h3 inj' a' w' ⟨hs'.env,hs'.size,hs'.defers,hs'.hr,hs'.ev⟩;have heq:=wpOps_eq_wpList (P:=C.P) (ops:=l.toArray) (Q:=vps C Q) (l.drop n) n (fun j=>by rw [vz8];simp);rw [v0i] at heq;rw [v02,heq];exact hal
 ·intro j hj;simp only [getD_replicate_false] at hj;cases hj
 ·intro j _ _;exact getD_replicate_false _ _
 ·refine v1h (v2r _ _) (by simp)
 ·rw [qv7 l.toArray es 0 _ (fun _=>false) _ fun j _ _=>getD_replicate_false _ _];have hnone:∀(es:List Evt) (i:Nat) (s:(Nat→AV)×(Nat→AO)),apD l.toArray es i (fun _=>false) s=s:=by
   intro es
   induction es with
   | nil=>intro i s;rfl
   | cons e es ih=>intro i s;simp only [apD,vzo,if_false];exact ih (i+1) s
  rw [hnone];exact ⟨fun t=>AR.ev hE hs.hr.xlt _ _ (hs.env t),hs.size,hs.defers,hs.hr.fr hf,hs.ev.trans hE⟩
end Go.Ab
namespace Go.Ab
variable {D:Prop}
open Go
structure Grw (P:Program) (k:FuncId) (e sz:TypeId):Prop where
 body:HasBody P k
 rows:∀(n:Int) (w:World),0≤n→n≤1000000000000→Calls P k #[.slice none 0 0,.int .i64 n] w fun e' w'=>∃v,e'=.returned v∧w'.ownsRow w.heap.size e sz v 0 []∧RowKit.Below w.heap.size w w'∧w.drawn≤w'.drawn
variable {C:Cx} {Q:Exit→St→Prop} {st:St}
theorem vr2 {ops:Array Oper} {o:Oper} {rest:List Oper} {f:Operand} {args:Array Operand} {ats:Array TypeId} {k:FuncId} {e sz K g:Nat} {n:Int}
  (S:Grw C.P k e sz) (h0:0≤n) (hn:n≤1000000000000)
  (ho:o.op=.call ⟨.value f,args,ats⟩) (hg:qbq ops st.env o=some true) (hd:qdm C.N o=true)
  (hk:qby st.env f args.toList=some (k,[.nils,.p (.int .i64 n)]))
  (hobj:qa4 st.heap K=.dead g)
  (h:AL C ops rest Q ⟨qig st.env o.dst (.own K (g+1) 0 0),qqv st.heap K (.arr e sz (g+1) [])⟩):AL C ops (o :: rest) Q st:=by
 intro inj a w hs;simp only [wpList,qef hs hg,if_true];refine .inl ?_;obtain ⟨vs,hrun,hars⟩:=qpw hs ho S.body hk;unfold Oper.wp;rw [hrun];simp only [Oper.upon];obtain ⟨v1,r1,rfl,ha1,hars⟩:=hars;obtain ⟨v2,r2,rfl,ha2,rfl⟩:=hars;have hv1:v1=.slice none 0 0:=ha1;have hv2:v2=Value.int .i64 n:=ha2;subst hv1;subst hv2;refine (S.rows n w h0 hn).mono ?_;rintro e' w' ⟨v,rfl,hrow,hbel,hdr⟩;have hfz:∀a:Addr,a.block < w.heap.size→w'.frozen? a=w.frozen? a:=fun a ha=>by unfold World.frozen?;rw [hbel.block _ ha]
 obtain ⟨_,hrow⟩:=hrow;rcases hrow with ⟨rfl,_⟩ | ⟨gb,cp,cur,rfl,hbase,hgb,q1,q2,q3,q4⟩
 ·have hup:=hs.hr.update (D:=C.D) (w':=w') (l:=K) (o:=.dead g) (o':=.arr e sz (g+1) []) (x:=none) hobj hbel.os hbel.tape hbel.output (fun _=>hdr) hbel.size hfz
   (fun b hb _=>hbel.block b hb) (fun b1 c1 h1=>by cases h1) ⟨by simp [AO.gen],fun _ he=>by simp [AO.gen] at he⟩
  obtain ⟨hev,hhr⟩:=hup;refine h _ _ _ (hs.put (u:=some (K,.arr e sz (g+1) [])) hd (hhr ⟨[],rfl,by simp,by simp [flat,qbj],.inl ⟨by simp,rfl⟩⟩) hev ?_);refine ⟨⟨_,_,_,rfl⟩,fun oo hoo=>?_⟩;have:oo=.arr e sz (g+1) []:=by rw [←hoo];exact qfu _ _ _
  subst this;exact ⟨v1f _,fun _ e1 sz1 es1 he=>by cases he;exact ⟨by simp,.inl ⟨by simp,rfl,rfl,rfl⟩⟩⟩
 ·have hup:=hs.hr.update (D:=C.D) (w':=w') (l:=K) (o:=.dead g) (o':=.arr e sz (g+1) []) (x:=some (gb,cp)) hobj hbel.os hbel.tape hbel.output (fun _=>hdr) hbel.size hfz
   (fun b hb _=>hbel.block b hb) (fun b1 c1 h1=>by cases h1;exact .inl hbase) ⟨by simp [AO.gen],fun _ he=>by simp [AO.gen] at he⟩
  obtain ⟨hev,hhr⟩:=hup;have hH:=hhr ⟨[],rfl,by simp,by simp [flat,qbj],.inr ⟨gb,cp,cur,by simp,fun hX=>by have:=hs.hr.xlt gb hX;omega,hgb,by simp,q2,q3,by simp [flat]⟩⟩;refine h _ _ _ (hs.put (u:=some (K,.arr e sz (g+1) [])) hd hH hev ?_);have hown:vmm (fun q=>if q=K then some (gb,cp) else inj q) (qpm st.sig K (.arr e sz (g+1) [])) K (g+1) 0 0 (.slice (some ⟨gb,0,none⟩) 0 cp):=qpu (qfu _ _ _) (if_pos rfl) (v1f _) q1;exact hown
theorem zN {ops:Array Oper} {o:Oper} {rest:List Oper} {f:Operand} {args:Array Operand} {ats:Array TypeId} {k:FuncId} {e sz g:Nat} {n:Int}
  (S:Grw C.P k e sz) (K:Nat) (h0:0≤n) (hn:n≤1000000000000)
  (h:AL C ops rest Q ⟨qig st.env o.dst (.own K (g+1) 0 0),qqv st.heap K (.arr e sz (g+1) [])⟩)
  (ho:o.op=.call ⟨.value f,args,ats⟩:=by rfl) (hg:qbq ops st.env o=some true:=by first | exact qbf rfl | exact qie rfl rfl (by exact rfl) (by exact rfl)) (hd:qdm C.N o=true:=by rfl)
  (hk:qby st.env f args.toList=some (k,[.nils,.p (.int .i64 n)]):=by simp only [go_sem,seval, *];all_goals first | exact rfl | exact ⟨rfl,rfl⟩)
  (hobj:qa4 st.heap K=.dead g:=by simp only [go_sem,seval, *];all_goals first | exact rfl | exact qxg rfl):AL C ops (o :: rest) Q st:=vr2 S h0 hn ho hg hd hk hobj h
end Go.Ab
namespace Go.Ab
open Go
theorem vdy {n:Int} (h1:0≤n) (h2:n≤4294967295):IntKind.u32.wrap n=n:=by
 simp only [IntKind.wrap,IntKind.signed,IntKind.bits];simp only [Bool.false_and,vzo,if_false];rw [show ((2:Int) ^ 32)=4294967296 from rfl];omega
theorem bv_lt (b:BitVec 32):IntKind.u32.wrap ((b.toNat:Nat):Int)=((b.toNat:Nat):Int):=by
 have:=b.isLt;exact vdy (by omega) (by omega)
theorem vwk {a:Nat} (h:a < 4294967296):(BitVec.ofInt 32 (a:Int)).toNat=a:=by
 rw [BitVec.ofInt_natCast,BitVec.toNat_ofNat];exact Nat.mod_eq_of_lt h
theorem q6i (a i:Nat):Int.fdiv (a:Int) (2 ^ i)=((a / 2 ^ i:Nat):Int):=by
 have:((2:Int) ^ i)=((2 ^ i:Nat):Int):=by simp
 rw [this];generalize 2 ^ i=p;rw [Int.fdiv_eq_ediv_of_nonneg _ (by omega)];exact (Int.natCast_ediv a p).symm
def pop8 (i:Nat):Nat:=((v0z 8).filter fun k=>i.testBit k).length
def vdz (n:Nat):Nat:=pop8 (n / 16777216)+pop8 (n / 65536 % 256)+pop8 (n / 256 % 256)+pop8 (n % 256)
end Go.Ab
namespace Go.Ab
open Go
variable {C:Cx} {Q:Exit→St→Prop} {st:St}
end Go.Ab
namespace Go.Proofs
open Go.Shelf Go.RowKit Go.Lib
variable {P:Program} {ρ:Ren}
set_option maxHeartbeats 2000000 in
set_option maxRecDepth 100000 in
theorem AbE.clone_zero (L:SlLaysE0.n41 P ρ) (i0:TypeInfo) (z:Value) (size bytes:Nat) (hi:P.info? (ρ.t 23)=some i0) (hz0:i0.zero=some z) (hz1:i0.size=size) (hz2:i0.bytes=bytes) (hzs:z.cells.size=size) (hsz:0 < size)
  (z23:∀w,(Go.sizeOf (ρ.t 23)).run P w=.ok size w) (a:Addr) (c:Nat) (w:World) :
  Calls P (ρ.f 41) #[.slice (some a) 0 c] w fun e w'=>∃v',e=.returned v'∧w'.ownsRow w.heap.size (ρ.t 23) size v' 0 []∧Below w.heap.size w w':=by
 have mixed:=L.mixed;have t4:=L.t4;have a4:=L.a4;have z4:=L.z4;have v4:=L.v4;have t22:=L.t22;have a22:=L.a22;have z22:=L.z22;have v22:=L.v22
 have q22:∀(w:World) (a:Option Addr) (n c n' c':Nat),(binOp .eql (ρ.t 22) (.slice a n c) (.slice none n' c')).run P w=.ok (.bool a.isNone) w:=fun w a n c n' c'=>vzt w _ _ a n c n' c' L.t22
 have u22:∀w,Sem.run P (underlying (ρ.t 22)) w=.ok (TypeDesc.slice (ρ.t 23)) w:=run_underlying t22
 obtain ⟨_,_,FG⟩:=L.f41
 go_enter FG,SlBodyN.n41_ntmps ρ
 go_wp2_with (at_builtin;refine wpList_append_own _ rfl _ _ (ρ.t 22) rfl w.heap.size (ρ.t 23) i0 z size bytes t22 hi hz0 hz1 hz2 hzs hsz _ _ _ rfl (World.ownsRow_made w #[] 0 (v1f _) (v3n _) (by simp)) a 0 c [] rfl (by simp) (by intro j u hj;simp at hj) (by intro u hu;cases hu) (by unfold maxLen;omega) (by omega) (by simp) ?_)
 intro v' w1 hown hgrow hnil
 go_wp2
 go_ret
 refine ⟨v',rfl,by simpa using hown,?_⟩
 exact ((Below.refl _ w).alloc (v1f _) _).grown hgrow (by simp) (by intro k hk;simp [Value.ownBlock] at hk;omega)
theorem AbE.cln (L:SlLaysE0.n41 P ρ) (hb:Ab.HasBody P (ρ.f 41)) (i0:TypeInfo) (z:Value) (size bytes:Nat) (hi:P.info? (ρ.t 23)=some i0) (hz0:i0.zero=some z) (hz1:i0.size=size) (hz2:i0.bytes=bytes) (hzs:z.cells.size=size) (hsz:0 < size):Ab.Cln P (ρ.f 41) (ρ.t 23) size bytes :=
 have z23:∀w,(Go.sizeOf (ρ.t 23)).run P w=.ok size w:=fun w=>by subst hz1;simp [Go.sizeOf,typeInfo,hi]
 ⟨hb,fun b off n c news w h1 h2 h3 h4 h5=>(AnyE.slices_Clone L i0 z size bytes hi hz0 hz1 hz2 hzs hsz z23 b off n c news w h1 h2 h3 h4 h5).mono fun e w' ⟨v,p1,p2,_,p4⟩=>⟨v,p1,p2,p4⟩,
  fun a c w=>AbE.clone_zero L i0 z size bytes hi hz0 hz1 hz2 hzs hsz z23 a c w,fun n c w=>AnyE.slices_Clone_nil L n c w⟩
end Go.Proofs
namespace Go.Ab
variable {D:Prop}
open Go
variable {C:Cx} {Q:Exit→St→Prop} {st:St}
end Go.Ab
namespace Go.Ab
variable {D:Prop}
open Go
variable {X:Nat→Prop} {inj:Inj} {σ:Nat→AO} {w:World}
variable {C:Cx} {Q:Exit→St→Prop} {st:St}
structure SrtS (P:Program) (k:FuncId):Prop where
 body:HasBody P k
 rows:∀(blk off cap:Nat) (ss:List (List UInt8)) (w:World),Sort.Holds Go.Proofs.encStr w blk off ss.toArray→blk < w.heap.size→ss.length < 4611686018427387904 →
  Calls P k #[.slice (some ⟨blk,off,none⟩) ss.length cap] w fun e w' =>
   e=.returned (.tuple #[])∧∃n os,w'=Sort.grow (Sort.putRow Go.Proofs.encStr (Sort.ahead w n) blk off (ss.mergeSort fun x y=>decide (x≤y)).toArray) os
 none:∀(p:Option Addr) (cap:Nat) (w:World),Calls P k #[.slice p 0 cap] w fun e w'=>e=.returned (.tuple #[])∧w'=w
def vna (l:List (List UInt8)):List (List UInt8):=l.mergeSort fun x y=>decide (x≤y)
def vcb (l:List (List UInt8)):Option (List (List UInt8)):=if l.length < 4611686018427387904 then some (vna l) else none
theorem vd0 {X:Nat→Prop} {inj:Inj} {σ:Nat→AO} {w:World}:∀{l:List (List UInt8)} {vs:List Value},ARs X inj σ w (v2v AV.p (v2v PV.str l)) vs→vs=l.map Go.Proofs.encStr
 | [],vs,h=>h
 | x :: l,vs,h=>by
  obtain ⟨v,r,rfl,h2,h3⟩:=h;simp only [AR,PR] at h2;rw [h2,vd0 h3];rfl
theorem q9d {X:Nat→Prop} {inj:Inj} {σ:Nat→AO} {w:World}:∀(l:List (List UInt8)),ARs X inj σ w (v2v AV.p (v2v PV.str l)) (l.map Go.Proofs.encStr)
 | []=>rfl
 | x :: l=>⟨_,_,rfl,rfl,q9d l⟩
theorem q9e (l:List (List UInt8)):(vna l).Perm l:=v3e _ _
theorem vr3 {ops:Array Oper} {o:Oper} {rest:List Oper} {f:Operand} {args:Array Operand} {ats:Array TypeId} {k:FuncId} {e g n L:Nat}
  (S:SrtS C.P k) {l l':List (List UInt8)} (hl:vcb l=some l')
  (ho:o.op=.call ⟨.value f,args,ats⟩) (hg:qbq ops st.env o=some true) (hd:qdm C.N o=true)
  (hk:qby st.env f args.toList=some (k,[.own L g 0 n]))
  (hobj:qa4 st.heap L=.arr e 1 g (v2v AV.p (v2v PV.str l))) (hn:n=l.length)
  (h:AL C ops rest Q ⟨qig st.env o.dst (.p (.tup [])),qqv st.heap L (.arr e 1 g (v2v AV.p (v2v PV.str l')))⟩):AL C ops (o :: rest) Q st:=by
 intro inj a w hs;simp only [wpList,qef hs hg,if_true];refine .inl ?_;obtain ⟨vs,hrun,hars⟩:=qpw hs ho S.body hk;unfold Oper.wp;rw [hrun];simp only [Oper.upon];obtain ⟨v1,r1,rfl,ha1,rfl⟩:=hars;obtain ⟨⟨sa,sn,sc,rfl⟩,hown⟩:=ha1;obtain ⟨_,hown⟩:=hown _ hobj;obtain ⟨hle,hcase⟩:=hown rfl e 1 _ rfl;unfold vcb at hl;split at hl
 case isFalse=>cases hl
 rename_i hlt;obtain rfl:=v3q hl;rcases hcase with ⟨_,h2,_,hn0⟩ | ⟨b,cp,a0,hi,h2,h3,h4⟩
 ·have hl0:l=[]:=vz2 (by omega);subst hl0;have e0:vna []=[]:=by simp [vna]
  rw [e0] at h;rw [h2];refine (S.none none 0 w).mono ?_;rintro e' w' ⟨rfl,rfl⟩;have hsame:upd st.sig (some (L,.arr e 1 g (v2v AV.p (v2v PV.str []))))=st.sig:=by
   funext q;simp only [upd,qpm];by_cases hq:q=L
   ·rw [if_pos hq,hq];exact hobj.symm
   ·rw [if_neg hq]
  exact h inj _ _ (hs.put (u:=some (L,.arr e 1 g (v2v AV.p (v2v PV.str [])))) hd (by rw [hsame];exact hs.hr) (by rw [hsame];exact Ev.refl _ _ _ _) (v:=.p (.tup [])) ⟨[],rfl,rfl⟩)
 ·obtain ⟨vs,o1,o2,o3,o4⟩:=hs.hr.obj L _ hobj;have ha0:a0=some ⟨b,0,none⟩:=by
   rcases h4 with ⟨h4,_⟩ | h4
   ·exact absurd rfl h4
   ·simpa using h4
  rw [h2,ha0,hn];rcases o4 with ⟨o4,_⟩ | ⟨b',c',cur,i1,i2,i3,i4,i5,i6,i7⟩
  ·rw [hi] at o4;cases o4
  rw [hi] at i1;cases i1;have hb:b < w.heap.size:=(vzb.1 i3).1;have hvs:=vd0 o1;have hone:∀l:List (List UInt8),∀v∈l.map Go.Proofs.encStr,v.oneCell'=true:=fun l v hv=>by obtain ⟨x,_,rfl⟩:=v3a.1 hv;rfl
  refine (S.rows b 0 (cp - 0) l w ?_ hb hlt).mono ?_
  ·intro j hj;have hj':j < l.length:=by simpa using hj
   have hcj:cur[j]?=some (Go.Proofs.encStr l[j]):=by
    have h5:(cur.toList.take ((v2v AV.p (v2v PV.str l)).length * 1))[j]?=vs[j]?:=by rw [i7,hvs,qil (hone l)]
    rw [v0f,if_pos (by simpa using hj'),vze] at h5;rw [h5,hvs,v0c,vz9 hj'];rfl
   have hr:l.toArray[j]! = l[j]:=by rw [getElem!_pos _ j (by simpa using hj')];simp
   rw [hr];refine ⟨?_,?_⟩
   ·simp only [World.cell?,i3,v1q];simpa using hcj
   ·simp [World.frozen?,i3]
  ·rintro e' w' ⟨rfl,m,os,rfl⟩;have hfl':(flat ((vna l).map Go.Proofs.encStr)).toArray=((l.mergeSort fun x y=>decide (x≤y)).toArray).map Go.Proofs.encStr:=by
    rw [qil (hone _)];apply vy9;simp [vna]
   rw [qq8,←hfl'];obtain ⟨hH,hE⟩:=HR.rows hs.hr (m:=m) (os:=os) hobj hi (by simp [vna]) (q9d (vna l))
    (fun v hv=>by obtain ⟨i,_,rfl⟩:=v3a.1 hv;rfl) (by rw [qil (hone _)];exact hone _)
   exact h inj _ _ (hs.put (u:=some (L,_)) hd hH hE (v:=.p (.tup [])) ⟨[],rfl,rfl⟩)
theorem vi8 {l l':List (List UInt8)} (h:vcb l=some l'):l'.length=l.length:=by
 unfold vcb at h;split at h
 ·cases h;exact (q9e l).length_eq
 ·cases h
theorem zSS {ops:Array Oper} {o:Oper} {rest:List Oper} {f:Operand} {args:Array Operand} {ats:Array TypeId} {k:FuncId} {e g n L:Nat}
  (S:SrtS C.P k) {l l':List (List UInt8)} (hl:vcb l=some l') (h:AL C ops rest Q ⟨qig st.env o.dst (.p (.tup [])),qqv st.heap L (.arr e 1 g (v2v AV.p (v2v PV.str l')))⟩)
  (ho:o.op=.call ⟨.value f,args,ats⟩:=by rfl) (hg:qbq ops st.env o=some true:=by first | exact qbf rfl | exact qie rfl rfl (by exact rfl) (by exact rfl)) (hd:qdm C.N o=true:=by rfl)
  (hk:qby st.env f args.toList=some (k,[.own L g 0 n]):=by simp only [go_sem,seval, *];first | exact ⟨rfl,rfl,rfl⟩ | exact rfl)
  (hobj:qa4 st.heap L=.arr e 1 g (List.map AV.p (List.map PV.str l)):=by simp only [go_sem,seval, *];exact rfl) (hn:n=l.length:=by rfl):AL C ops (o :: rest) Q st:=vr3 S hl ho hg hd hk hobj hn h
end Go.Ab
namespace Go.Ab
open Go
variable {C:Cx} {Q:Exit→St→Prop} {st:St}
theorem Fr.of_below {w w':World} (h:RowKit.Below w.heap.size w w'):Fr False w w' :=
 ⟨h.os,h.tape,h.output,fun h=>h.elim,h.size,fun a ha=>by unfold World.frozen?;rw [h.block _ ha],h.block⟩
def repF (s:List UInt8) (n:Int):Option (List UInt8):=if 0≤n∧n≤1000000∧s.length≤1000000 then some (Lib.repeatL s n.toNat) else none
theorem vf9 {P:Program} {k:FuncId} (hb:HasBody P k) (h:∀(s:ByteArray) (c:Nat) (w:World),c≤9223372036854775807→s.size * c≤140737488355328 →
  Calls P k #[.string s,.int .i64 c] w fun e w'=>e=.returned (.string ⟨(Lib.repeatL s.data.toList c).toArray⟩)∧RowKit.Below w.heap.size w w') (s:List UInt8) (n:Int) (r:List UInt8) (hr:repF s n=some r) :
  Con False P k [.str s,.int .i64 n] (.str r):=by
 unfold repF at hr;split at hr
 case isFalse=>cases hr
 rename_i hc;obtain ⟨h0,h1,h2⟩:=hc;cases hr;refine ⟨hb,fun X w vs hX hTb hvs=>?_⟩;obtain ⟨v1,r1,rfl,e1,v2,r2,rfl,e2,rfl⟩:=hvs;simp only [PR] at e1 e2;subst e1 e2;obtain ⟨m,rfl⟩:=v19 h0;have hm:m≤1000000:=by omega
 refine (h ⟨s.toArray⟩ m w (by omega) ?_).mono ?_
 ·have e:(ByteArray.mk s.toArray).size=s.length:=by rw [Lib.size_eq]
  rw [e];exact v1h (Nat.mul_le_mul h2 hm) (by decide)
 ·rintro e' w' ⟨rfl,hB⟩;exact ⟨_,rfl,by simp [PR],Fr.of_below hB⟩
def vr4 (x y c:Int):Option (Int×Int) :=
 if 0≤x∧x < 18446744073709551616∧0≤y∧y < 18446744073709551616∧0≤c∧c≤1 then some ((x+y+c) % 18446744073709551616,(x+y+c) / 18446744073709551616) else none
def subF (x y c:Int):Option (Int×Int) :=
 if 0≤x∧x < 18446744073709551616∧0≤y∧y < 18446744073709551616∧0≤c∧c≤1 then some ((x - y - c) % 18446744073709551616,if x < y+c then 1 else 0) else none
theorem vi9 {P:Program} {k:FuncId} (h:∀(x y c:Nat),c≤1→∀w,(callFunc k #[.int .u64 x,.int .u64 y,.int .u64 c]).run P w=.ok (.value (.tuple #[.int .u64 (((x+y+c) % 18446744073709551616:Nat):Int),.int .u64 (((x+y+c) / 18446744073709551616:Nat):Int)])) w)
  {x y c:Int} {r:Int×Int} (hr:vr4 x y c=some r) (w:World):(callFunc k #[.int .u64 x,.int .u64 y,.int .u64 c]).run P w=.ok (.value (.tuple #[.int .u64 r.1,.int .u64 r.2])) w:=by
 unfold vr4 at hr;split at hr
 case isFalse=>cases hr
 rename_i hc;obtain ⟨a1,a2,a3,a4,a5,a6⟩:=hc;cases hr;obtain ⟨x,rfl⟩:=v19 a1;obtain ⟨y,rfl⟩:=v19 a3;obtain ⟨c,rfl⟩:=v19 a5;rw [h x y c (by omega) w];simp
theorem vja {P:Program} {k:FuncId} (h:∀(x y b:Nat),b≤1→∀w,(callFunc k #[.int .u64 x,.int .u64 y,.int .u64 b]).run P w=.ok (.value (.tuple #[.int .u64 (((x+18446744073709551616 - y - b) % 18446744073709551616:Nat):Int),.int .u64 ((if x < y+b then 1 else 0:Nat):Int)])) w)
  {x y c:Int} {r:Int×Int} (hr:subF x y c=some r) (w:World):(callFunc k #[.int .u64 x,.int .u64 y,.int .u64 c]).run P w=.ok (.value (.tuple #[.int .u64 r.1,.int .u64 r.2])) w:=by
 unfold subF at hr;split at hr
 case isFalse=>cases hr
 rename_i hc;obtain ⟨a1,a2,a3,a4,a5,a6⟩:=hc;cases hr;obtain ⟨x,rfl⟩:=v19 a1;obtain ⟨y,rfl⟩:=v19 a3;obtain ⟨c,rfl⟩:=v19 a5;rw [h x y c (by omega) w];have e1:(((x+18446744073709551616 - y - c) % 18446744073709551616:Nat):Int)=((x:Int) - y - c) % 18446744073709551616:=by omega
 have e2:((if x < y+c then 1 else 0:Nat):Int)=if (x:Int) < (y:Int)+(c:Int) then 1 else 0:=by
  split <;> split <;> first | rfl | omega
 rw [e1,e2]
theorem zE3 {ops:Array Oper} {d:Option Tmp} {k:FuncId} {x y z:Operand} {ats:Array TypeId} {ty:TypeId} {pos:String} {af:Array Edge} {rest:List Oper} {a b c:Int} {r:Int×Int}
  (hk:∀w,(callFunc k #[.int .u64 a,.int .u64 b,.int .u64 c]).run C.P w=.ok (.value (.tuple #[.int .u64 r.1,.int .u64 r.2])) w)
  (h:AL C ops rest Q ⟨qig st.env d (.p (.tup [.int .u64 r.1,.int .u64 r.2])),st.heap⟩)
  (hx:ev st.env x=.p (.int .u64 a):=by simp only [go_sem,seval, *]) (hy:ev st.env y=.p (.int .u64 b):=by simp only [go_sem,seval, *]) (hz:ev st.env z=.p (.int .u64 c):=by simp only [go_sem,seval, *])
  (hd:qdm C.N ⟨d,.call ⟨.value (.func k),#[x,y,z],ats⟩,ty,pos,af,none⟩=true:=by rfl) :
  AL C ops (⟨d,.call ⟨.value (.func k),#[x,y,z],ats⟩,ty,pos,af,none⟩ :: rest) Q st:=by
 intro inj act w hs;simp only [wpList,qef (ops:=ops) (o:=⟨d,.call ⟨.value (.func k),#[x,y,z],ats⟩,ty,pos,af,none⟩) hs (qbf rfl),if_true];refine .inl ?_;have e1:=hs.eval x;have e2:=hs.eval y;have e3:=hs.eval z;rw [hx] at e1;rw [hy] at e2;rw [hz] at e3;simp only [AR,PR] at e1 e2 e3;have hrun:(execOp act.eval ⟨d,.call ⟨.value (.func k),#[x,y,z],ats⟩,ty,pos,af,none⟩).run C.P w=.ok (.value (.tuple #[.int .u64 r.1,.int .u64 r.2])) w:=by
  simp only [execOp,resolve,Deferred.ofValue,Act.eval,v11,v12,v1z,invoke];have:(#[]++#[x,y,z].map act.eval++#[]:Array Value)=#[.int .u64 a,.int .u64 b,.int .u64 c]:=by simp [e1,e2,e3]
  rw [this];exact hk w
 unfold Oper.wp;rw [hrun];simp only [Oper.upon];exact h inj _ _ (hs.put (u:=none) hd hs.hr (Ev.refl _ _ _ _) (v:=.p (.tup [.int .u64 r.1,.int .u64 r.2])) ⟨_,rfl,_,_,rfl,rfl,_,_,rfl,rfl,rfl⟩)
end Go.Ab
namespace Go.Ab
open Go
variable {C:Cx} {Q:Exit→St→Prop} {st:St} {inj:Inj} {a:Act} {w:World}
attribute [go_sem] v2x
@[go_sem,simp] theorem LeVs_rep (σ σ':Nat→AO) (n:Nat) (x:PV):qpn σ σ' (v01 n (.p x)) (v01 n (.p x)):=by
 have:=q8z σ σ' (v01 n x);simpa only [v2x] using this
theorem SR.shrink (h:SR C st inj a w) {t l g m e sz:Nat} {es:List AV} (hobj:qa4 st.heap l=.arr e sz g es) (ht:st.env.get t=.own l g 0 m) :
  SR C ⟨qig st.env (some t) (.own l (g+1) 0 m),qqv st.heap l (.arr e sz (g+1) (es.take m))⟩ inj a w:=by
 have hup:=h.hr.update (D:=C.D) (w':=w) (l:=l) (o:=.arr e sz g es) (o':=.arr e sz (g+1) (es.take m)) (x:=inj l) hobj rfl rfl rfl
  (fun _=>v1f _) (v1f _) (fun _ _=>rfl) (fun _ _ _=>rfl) (fun b c h1=>.inr ⟨rfl,_,h1⟩)
  ⟨v1g _,fun _ hg=>absurd hg (by simp [AO.gen])⟩
 obtain ⟨hev,hhr⟩:=hup;have hinj:(fun k=>if k=l then inj l else inj k)=inj:=by
  funext k;by_cases hk:k=l
  ·rw [if_pos hk,hk]
  ·rw [if_neg hk]
 rw [hinj] at hev hhr;obtain ⟨vs,h1,h2,h3,h4⟩:=h.hr.obj l _ hobj;have hs:(St.mk (qig st.env (some t) (.own l (g+1) 0 m)) (qqv st.heap l (.arr e sz (g+1) (es.take m)))).sig=qpm st.sig l (.arr e sz (g+1) (es.take m)):=qjo _ _ _;have hob:=h.env t;rw [ht] at hob;obtain ⟨q1,q2⟩:=hob;obtain ⟨q3,q4⟩:=q2 _ hobj;obtain ⟨q5,q6⟩:=q4 rfl e sz es rfl;rw [v1q] at q5;have hvl:vs.length=es.length:=h1.length.symm;have hor:OR C.X inj (qpm st.sig l (.arr e sz (g+1) (es.take m))) w l (.arr e sz (g+1) (es.take m)):=by
  refine ⟨vs.take m,ARs.ev hev h.hr.xlt _ _ (h1.take m),fun v hv=>h2 v (v0v hv),fun u hu=>?_,?_⟩
  ·rw [qni m h2] at hu;exact h3 u (v0v hu)
  ·rcases h4 with ⟨h4,h5⟩ | ⟨b,c,cur,i1,i2,i3,i4,i5,i6,i7⟩
   ·exact .inl ⟨h4,by rw [h5,List.take_nil]⟩
   ·refine .inr ⟨b,c,cur,i1,i2,i3,by rw [v0n];omega,i5,i6,?_⟩;rw [qni m h2,←i7,List.take_take,v0n];congr 1;rw [v3j q5,v3j (v1m _ q5)]
 have hHR:=hhr hor;refine ⟨fun t'=>?_,h.size,h.defers,by rw [hs];exact hHR,by rw [hs];exact h.ev.trans hev⟩;rw [hs];simp only [qig,Env.get];by_cases hte:t=t'
 ·rw [if_pos hte,←hte];refine ⟨q1,fun o ho=>?_⟩;have ho':o=.arr e sz (g+1) (es.take m):=by rw [←ho];simp [qpm]
  subst ho';refine ⟨v1f _,fun _ e' sz' es' heq=>?_⟩;cases heq;refine ⟨by rw [v0n];omega,?_⟩;rcases q6 with ⟨q7,q8,q9,q10⟩ | ⟨b,c,a0,q7,q8,q9,q10⟩
  ·exact .inl ⟨q7,q8,rfl,q10⟩
  ·exact .inr ⟨b,c,a0,q7,q8,q9,q10⟩
 ·rw [if_neg hte];exact AR.ev hev h.hr.xlt _ _ (h.env t')
end Go.Ab
namespace Go.Ab
open Go
theorem vr5 {α:Type} {l:List α} {n:Nat} {x:α} (h:l[((n:Nat):Int).toNat]?=some x):l[n]?=some x:=h
theorem qxm:∃g:Nat→Nat→Nat,(∀f i k,k < 1048576→k≠g f i)∧(∀f i j,g f i=g f j→i=j)∧∀f f' i j,f < 1048576→f' < 1048576→f≠f'→g f i≠g f' j :=
 ⟨fun f i=>1048576 * (i+1)+f,fun f i k h=>by show k≠1048576 * (i+1)+f;omega,fun f i j h=>by simp only at h;omega,fun f f' i j h h' hn=>by show 1048576 * (i+1)+f≠1048576 * (j+1)+f';omega⟩
def fx:Nat→Nat→Nat:=Classical.choose qxm
theorem q9f {f i k:Nat} (h:k < 1048576):k≠fx f i:=(Classical.choose_spec qxm).1 f i k h
theorem q9g {k f i:Nat} (h:k < 1048576):(k=fx f i)=False:=eq_false (q9f h)
theorem q9h {k f i:Nat} (h:k < 1048576):(fx f i=k)=False:=eq_false fun e=>q9f h e.symm
theorem q4t {f i j:Nat}:(fx f i=fx f j)=(i=j):=propext ⟨(Classical.choose_spec qxm).2.1 f i j,fun h=>by rw [h]⟩
theorem fx_ne {f f' i j:Nat} (h:f < 1048576) (h':f' < 1048576) (hn:f≠f'):(fx f i=fx f' j)=False:=eq_false ((Classical.choose_spec qxm).2.2 f f' i j h h' hn)
variable {α:Type}
def qkd (f e sz G:Nat) (enc:α→PV) (ll:List (List α)):List AV:=ll.mapIdx fun i x=>.own (fx f i) G 0 x.length
def qlc (f e sz G:Nat) (enc:α→PV) (ll:List (List α)) (rest:List (Nat×AO)):List (Nat×AO) :=
 (ll.mapIdx fun i x=>(fx f i,AO.arr e sz G (v2v AV.p (v2v enc x))))++rest
theorem qoj (f e sz G:Nat) (enc:α→PV) (ll:List (List α)) (i:Nat):(qkd f e sz G enc ll)[i]?=(ll[i]?).map fun x=>AV.own (fx f i) G 0 x.length:=by
 simp [qkd,List.getElem?_mapIdx]
theorem qlw (f e sz G:Nat) (enc:α→PV) (ll:List (List α)):(qkd f e sz G enc ll).length=ll.length:=by simp [qkd]
theorem vnb (f e sz G:Nat) (enc:α→PV):qkd f e sz G enc []=[]:=rfl
theorem vnc (f e sz G:Nat) (enc:α→PV) (rest:List (Nat×AO)):qlc f e sz G enc [] rest=rest:=rfl
theorem vr6 {a b:List (Nat×AO)} {l:Nat} (h:(a.any fun x=>x.1 == l)=true):qa4 (a++b) l=qa4 a l:=by
 induction a with
 | nil=>simp at h
 | cons x a ih =>
  obtain ⟨k,o⟩:=x;simp only [v2e,qa4];by_cases hk:k=l
  ·rw [if_pos hk,if_pos hk]
  ·rw [if_neg hk,if_neg hk];rw [v2c,vzr] at h;rcases h with h | h
   ·exact absurd (by simpa using h) hk
   ·exact ih h
theorem vd1 {a b:List (Nat×AO)} {l:Nat} (h:¬(a.any fun x=>x.1 == l)=true):qa4 (a++b) l=qa4 b l:=by
 induction a with
 | nil=>rfl
 | cons x a ih =>
  obtain ⟨k,o⟩:=x;rw [v2c,vzr,not_or] at h;have hk:¬k=l:=by simpa using h.1
  simp only [v2e,qa4];rw [if_neg hk];exact ih h.2
theorem vnd {a:List (Nat×AO)} {l:Nat} {o:AO} (hm:(l,o)∈a) (hu:∀o',(l,o')∈a→o'=o):qa4 a l=o:=by
 induction a with
 | nil=>cases hm
 | cons x a ih =>
  obtain ⟨k,o1⟩:=x;simp only [qa4];by_cases h:k=l
  ·subst h;rw [if_pos rfl];exact hu o1 v24
  ·rw [if_neg h];rcases v2z.1 hm with e | e
   ·cases e;exact absurd rfl h
   ·exact ih e fun o' ho=>hu o' (v21 _ ho)
theorem vne {f e sz G:Nat} {enc:α→PV} {ll:List (List α)} {rest:List (Nat×AO)} {l:Nat} (h:l < 1048576):qa4 (qlc f e sz G enc ll rest) l=qa4 rest l:=by
 unfold qlc;rw [vd1];simp only [v2d,not_exists,not_and,v3b];rintro x ⟨i,hi,rfl⟩;simp only [beq_iff_eq,q9h h];exact fun h=>h
theorem vcc (f e sz G:Nat) (enc:α→PV) (ll:List (List α)) (rest:List (Nat×AO)) (i:Nat) :
  qa4 (qlc f e sz G enc ll rest) (fx f i)=(ll[i]?).elim (qa4 rest (fx f i)) fun x=>.arr e sz G (v2v AV.p (v2v enc x)):=by
 unfold qlc;by_cases hi:i < ll.length
 ·have hx:ll[i]?=some ll[i]:=vz9 hi;rw [vr6,hx]
  ·refine vnd (v3b.2 ⟨i,hi,rfl⟩) fun o' ho=>?_
   obtain ⟨j,hj,e⟩:=v3b.1 ho;simp only [v1y] at e;have:j=i:=by have:=e.1;rw [q4t] at this;exact this
   subst this;exact e.2.symm
  ·simp only [v2d];exact ⟨_,v3b.2 ⟨i,hi,rfl⟩,by simp⟩
 ·have hx:ll[i]?=none:=v0a (by omega);rw [vd1,hx]
  ·rfl
  ·simp only [v2d,not_exists,not_and,v3b];rintro x ⟨j,hj,rfl⟩;simp only [beq_iff_eq,q4t];omega
theorem vga {β:Type} (l:List β):l[l.length]?=none:=v0a (v1f _)
def qli (h:List (Nat×AO)) (f e sz G:Nat) (enc:α→PV) (ll:List (List α)):Prop:=∀i x,ll[i]?=some x→qa4 h (fx f i)=.arr e sz G (v2v AV.p (v2v enc x))
def qmj (h:List (Nat×AO)) (f i e sz G:Nat) (enc:α→PV) (ll:List (List α)):Prop:=∀j x,j≠i→ll[j]?=some x→qa4 h (fx f j)=.arr e sz G (v2v AV.p (v2v enc x))
def qqm (h:List (Nat×AO)) (f:Nat):Prop:=∀i,(qa4 h (fx f i)).alive=false
def vcd (h:List (Nat×AO)) (f G:Nat):Prop:=∀i,(qa4 h (fx f i)).alive=true→(qa4 h (fx f i)).gen < G
def q6j {β:Type} (m:Nat) (y:List β):Prop:=m=y.length
def vr7 (h:List (Nat×AO)) (l:Nat):Prop:=(qa4 h l).alive=false
def q6k (es:List AV) (enc:α→PV) (y:List α):Prop:=es=v2v AV.p (v2v enc y)
def vr8 (o:AO) (e sz:Nat) (enc:α→PV) (y:List α):Prop:=match o with
 | .arr e' sz' _ es=>e'=e∧sz'=sz∧q6k es enc y
 | _=>False
section
variable {h h' H0 rest:List (Nat×AO)} {f f' i k e sz G G' e' sz':Nat} {o:AO} {enc enc':α→PV} {ll ll':List (List α)}
theorem vjb {l:Nat}:vr7 [] l=True:=by simp [vr7,qa4,AO.alive]
theorem vjc {g:Nat} {es:List AV} {y:List α}:vr8 (.arr e' sz' g es) e sz enc y=(e'=e∧sz'=sz∧q6k es enc y):=propext Iff.rfl
theorem vjd {β:Type} {x:List β} {j:Nat} {v:β}:q6j x.length (x.set j v)=True:=by simp [q6j]
theorem vje {β:Type} {n:Nat} {v:β}:q6j n (v01 n v)=True:=by simp [q6j]
theorem vnf {β:Type} {m:Nat} {y:List β} (h:y.length=m):q6j m y=True:=by simp [q6j,h]
theorem vgb {x:List α}:q6k (v2v AV.p (v2v enc x)) enc x=True:=by simp [q6k]
theorem vjf {n:Nat} {v:PV} {y:α} (hv:v=enc y):q6k (v01 n (AV.p v)) enc (v01 n y)=True:=by simp [q6k,hv]
theorem vce {x:List α} {v:PV} {y:α} (hv:v=enc y):q6k (v2v AV.p (v2v enc x++[v])) enc (x++[y])=True:=by simp [q6k,hv]
theorem qwa (hk:k < 1048576):qa4 ((k,o) :: h) (fx f i)=qa4 h (fx f i):=by simp only [qa4,q9g hk,if_false]
theorem vgc (hk:k < 1048576):qli ((k,o) :: h) f e sz G enc ll=qli h f e sz G enc ll:=by simp only [qli,qwa hk]
theorem vcf:qli (qlc f e sz G enc ll rest) f e sz G enc ll=True:=by
 simp only [qli,vcc,eq_iff_iff,iff_true];intro i x hx;rw [hx];rfl
theorem vcg (hk:k < 1048576):qmj ((k,o) :: h) f i e sz G enc ll=qmj h f i e sz G enc ll:=by simp only [qmj,qwa hk]
theorem q9i:qmj ((fx f i,o) :: h) f i e sz G enc ll=qmj h f i e sz G enc ll:=by
 simp only [qmj,eq_iff_iff];constructor <;> intro H j x hj hx
 ·have:=H j x hj hx;simp only [qa4,q4t] at this
  rwa [if_neg (fun e=>hj e.symm)] at this
 ·simp only [qa4,q4t];rw [if_neg (fun e=>hj e.symm)];exact H j x hj hx
theorem q9j:qmj (qlc f e sz G enc ll rest) f i e sz G enc ll=True:=by
 simp only [qmj,vcc,eq_iff_iff,iff_true];intro j x _ hx;rw [hx];rfl
theorem vch (hk:k < 1048576):qqm ((k,o) :: h) f=qqm h f:=by simp only [qqm,qwa hk]
theorem vci:qqm [] f=True:=by simp [qqm,qa4,AO.alive]
theorem q9k:qqm (qlc f e sz G enc [] rest) f=qqm rest f:=rfl
theorem vcj:vcd [] f G=True:=by simp [vcd,qa4,AO.alive]
theorem vgd {σ σ':Nat→AO} {a b:List (Nat×AO)}:qma σ σ' H0 (a++b)↔qma σ σ' H0 a∧qma σ σ' H0 b:=by
 induction a with
 | nil=>simp [qma]
 | cons x a ih =>
  obtain ⟨l,o⟩:=x;simp only [v2e,qma,ih,and_assoc]
theorem q6l {σ σ':Nat→AO} {a:List (Nat×AO)} (H:∀l o,(l,o)∈a→vie σ σ' (qa4 H0 l).alive (qa4 H0 l).gen l):qma σ σ' H0 a:=by
 induction a with
 | nil=>trivial
 | cons x a ih =>
  obtain ⟨l,o⟩:=x;exact ⟨H l o v24,ih fun l o hm=>H l o (v21 _ hm)⟩
theorem qr9 {σ σ':Nat→AO} (H:∀i x,ll[i]?=some x→vie σ σ' (qa4 H0 (fx f i)).alive (qa4 H0 (fx f i)).gen (fx f i)):qma σ σ' H0 (qlc f e sz G enc ll rest)=qma σ σ' H0 rest:=by
 unfold qlc;rw [eq_iff_iff,vgd];refine ⟨fun h=>h.2,fun hr=>⟨q6l fun l o hm=>?_,hr⟩⟩;obtain ⟨i,hi,ee⟩:=v3b.1 hm;simp only [v1y] at ee;obtain ⟨rfl,rfl⟩:=ee;exact H i _ (vz9 hi)
theorem q6m {σ σ':Nat→AO} {keep:Bool} {g0 l g g':Nat} {xs:List PV} (h1:σ l=.arr e sz g (xs.map .p)) (h2:σ' l=.arr e sz g' (xs.map .p)) (hg:1≤g') (hk:keep=true→g'=g∨g0 < g'):vie σ σ' keep g0 l:=by
 unfold vie vid;rw [h1,h2];exact ⟨hg,rfl,rfl,q8z _ _ _,hk⟩
theorem vjg {σ σ':Nat→AO} {keep:Bool} {g0 l g g':Nat} (h1:σ l=.dead g) (h2:σ' l=.arr e sz g' []) (hg:1≤g') (hk:keep=false):vie σ σ' keep g0 l:=by
 unfold vie vid;rw [h1,h2];exact ⟨hg,hk,rfl⟩
theorem q6n (h1:qli h f e sz G enc ll) (h2:qli h' f e sz G enc ll) (hg:1≤G):qma (qa4 h) (qa4 h') H0 (qlc f e sz G enc ll rest)=qma (qa4 h) (qa4 h') H0 rest :=
 qr9 fun i x hx=>q6m (h1 i x hx) (h2 i x hx) hg fun _=>.inl rfl
theorem q3i {y:List α} (h1:qmj h f i e sz G enc ll) (h2:qli h' f e sz G enc (ll.set i y)) (hm:vr8 (qa4 h (fx f i)) e sz enc y) (hg:1≤G) (hk:(qa4 h (fx f i)).gen=G∨vcd H0 f G) :
  qma (qa4 h) (qa4 h') H0 (qlc f e sz G enc (ll.set i y) rest)=qma (qa4 h) (qa4 h') H0 rest:=by
 refine qr9 fun j x hx=>?_
 have h3:=h2 j x hx;by_cases hj:j=i
 ·subst hj;unfold vr8 at hm;split at hm
  ·rename_i e' sz' g es ho;obtain ⟨rfl,rfl,hme⟩:=hm;unfold q6k at hme;subst hme;have hxy:x=y:=by
    have hlt:j < ll.length:=by have:=(v0b.1 hx).1;simpa using this
    rw [v2n hlt] at hx;exact (v3q hx).symm
   subst hxy;exact q6m ho h3 hg fun ha=>by
    rcases hk with hk | hk
    ·rw [ho] at hk;exact .inl hk.symm
    ·exact .inr (hk j ha)
  ·exact hm.elim
 ·rw [v2m (fun e=>hj e.symm)] at hx;exact q6m (h1 j x hj hx) h3 hg fun _=>.inl rfl
theorem vjh {o:AO} (h:o.alive=false):∃g,o=.dead g:=by
 cases o with
 | dead g=>exact ⟨g,rfl⟩
 | arr _ _ _ _=>cases h
 | map _ _ _=>cases h
theorem q1m (h1:qli h f e sz G enc ll) (h2:qli h' f e sz G enc (ll++[[]])) (hd:(qa4 h (fx f ll.length)).alive=false) (hd0:vr7 H0 (fx f ll.length)) (hg:1≤G) :
  qma (qa4 h) (qa4 h') H0 (qlc f e sz G enc (ll++[[]]) rest)=qma (qa4 h) (qa4 h') H0 rest:=by
 refine qr9 fun j x hx=>?_
 have h3:=h2 j x hx;by_cases hj:j < ll.length
 ·rw [vz6 hj] at hx;exact q6m (h1 j x hx) h3 hg fun _=>.inl rfl
 ·have hjl:=(v0b.1 hx).1;simp only [v0h,v2u] at hjl;have:j=ll.length:=by omega
  subst this;have hx':x=[]:=by
   rw [vz7 (v1f _),v3l] at hx;exact (v3q hx).symm
  subst hx';obtain ⟨g,hg'⟩:=vjh hd;exact vjg hg' h3 hg hd0
theorem q1n {n:Nat} (hd:qqm h f) (h2:qli h' f e sz G enc (v01 n [])) (hd0:qqm H0 f) (hg:1≤G) :
  qma (qa4 h) (qa4 h') H0 (qlc f e sz G enc (v01 n []) rest)=qma (qa4 h) (qa4 h') H0 rest:=by
 refine qr9 fun j x hx=>?_
 have h3:=h2 j x hx;have hx':x=[]:=by
  rw [v0e] at hx;split at hx
  ·exact (v3q hx).symm
  ·cases hx
 subst hx';obtain ⟨g,hg'⟩:=vjh (hd j);exact vjg hg' h3 hg (hd0 j)
theorem qxn {σ σ':Nat→AO}:∀{cs cs':List AV},cs.length=cs'.length→(∀(j:Nat) c c',cs[j]?=some c→cs'[j]?=some c'→LeV σ σ' c c')→qpn σ σ' cs cs'
 | [],[],_,_=>rfl
 | [],_ :: _,h,_=>by simp at h
 | _ :: _,[],h,_=>by simp at h
 | c :: cs,c' :: cs',h,H=>⟨H 0 c c' rfl rfl,qxn (by simpa using h) fun j d d' h1 h2=>H (j+1) d d' (by simpa using h1) (by simpa using h2)⟩
theorem vck {σ σ':Nat→AO} {l g g' off n:Nat} {es es':List AV} {e sz e' sz':Nat} (h1:σ l=.arr e sz g es) (h2:σ' l=.arr e' sz' g' es'):LeV σ σ' (.own l g off n) (.own l g' off n):=by
 refine .inl ⟨by rw [h1];rfl,by rw [h2];rfl,by rw [h2];rfl,by rw [h1];rfl⟩
theorem vcl (h1:qli h f e sz G enc ll) (h2:qli h' f e sz G' enc ll):qpn (qa4 h) (qa4 h') (qkd f e sz G enc ll) (qkd f e sz G' enc ll)=True:=by
 rw [eq_iff_iff,iff_true];refine qxn (by rw [qlw,qlw]) fun j c c' hc hc'=>?_
 rw [qoj] at hc hc';cases hx:ll[j]? with
 | none=>rw [hx] at hc;cases hc
 | some x =>
  rw [hx] at hc hc';cases hc;cases hc';exact vck (h1 j x hx) (h2 j x hx)
theorem qzq {y:List α} {g m:Nat} (h1:qmj h f i e sz G enc ll) (h2:qli h' f e sz G enc (ll.set i y)) (hg:(qa4 h (fx f i)).gen=g) (ha:(qa4 h (fx f i)).alive=true) (hm:q6j m y) :
  qpn (qa4 h) (qa4 h') ((qkd f e sz G enc ll).set i (.own (fx f i) g 0 m)) (qkd f e sz G enc (ll.set i y))=True:=by
 rw [eq_iff_iff,iff_true];unfold q6j at hm;subst hm;refine qxn (by rw [v0m,qlw,qlw,v0m]) fun j c c' hc hc'=>?_
 rw [qoj] at hc';cases hx:(ll.set i y)[j]? with
 | none=>rw [hx] at hc';cases hc'
 | some x =>
  rw [hx] at hc';cases hc';have h3:=h2 j x hx;have hlt:j < ll.length:=by have:=(v0b.1 hx).1;simpa using this
  by_cases hj:j=i
  ·subst hj;rw [v2n (by rw [qlw];exact hlt)] at hc;cases hc;rw [v2n hlt] at hx;cases hx;exact .inl ⟨by rw [hg],by rw [h3];rfl,by rw [h3];rfl,ha⟩
  ·rw [v2m (fun e=>hj e.symm),qoj] at hc;rw [v2m (fun e=>hj e.symm)] at hx;rw [hx] at hc;cases hc;exact vck (h1 j x hj hx) h3
theorem q6o {y:List α} (h1:qmj h f i e sz G enc ll) (h2:qli h' f e sz G enc (ll.set i y)) (hg:(qa4 h (fx f i)).gen=G) (ha:(qa4 h (fx f i)).alive=true) (hm:(ll[i]?).elim False fun x=>q6j x.length y) :
  qpn (qa4 h) (qa4 h') (qkd f e sz G enc ll) (qkd f e sz G enc (ll.set i y))=True:=by
 have:=qzq (y:=y) (m:=y.length) h1 h2 hg ha rfl;have e:(qkd f e sz G enc ll).set i (.own (fx f i) G 0 y.length)=qkd f e sz G enc ll:=by
  apply vz3;intro j;by_cases hj:j=i
  ·subst hj;cases hx:ll[j]? with
   | none=>rw [hx] at hm;exact hm.elim
   | some x =>
    have hlt:=(v0b.1 hx).1;rw [hx] at hm;replace hm:x.length=y.length:=hm;rw [v2n (by rw [qlw];exact hlt),qoj,hx];simp [hm]
  ·rw [v2m (fun e=>hj e.symm)]
 rw [e] at this;exact this
theorem q6p (h1:qli h f e sz G enc ll) (h2:qli h' f e sz G enc (ll++[[]])) (hd:(qa4 h (fx f ll.length)).alive=false) :
  qpn (qa4 h) (qa4 h') (qkd f e sz G enc ll++[.nils]) (qkd f e sz G enc (ll++[[]]))=True:=by
 rw [eq_iff_iff,iff_true];refine qxn (by simp [qlw]) fun j c c' hc hc'=>?_
 rw [qoj] at hc';cases hx:(ll++[[]])[j]? with
 | none=>rw [hx] at hc';cases hc'
 | some x =>
  rw [hx] at hc';cases hc';have h3:=h2 j x hx;by_cases hj:j < ll.length
  ·rw [vz6 (by rw [qlw];exact hj),qoj] at hc;rw [vz6 hj] at hx;rw [hx] at hc;cases hc;exact vck (h1 j x hx) h3
  ·have hjl:=(v0b.1 hx).1;simp only [v0h,v2u] at hjl;have:j=ll.length:=by omega
   subst this;rw [vz7 (by rw [qlw];exact v1f _),qlw,v3l] at hc;cases hc;have hx':x=[]:=by
    rw [vz7 (v1f _),v3l] at hx;exact (v3q hx).symm
   subst hx';exact .inr ⟨rfl,rfl,rfl,hd,by rw [h3];rfl⟩
theorem q6q {n:Nat} (hd:qqm h f) (h2:qli h' f e sz G enc (v01 n [])):qpn (qa4 h) (qa4 h') (v01 n .nils) (qkd f e sz G enc (v01 n []))=True:=by
 rw [eq_iff_iff,iff_true];refine qxn (by simp [qlw]) fun j c c' hc hc'=>?_
 rw [qoj] at hc';cases hx:(v01 n ([]:List α))[j]? with
 | none=>rw [hx] at hc';cases hc'
 | some x =>
  rw [hx] at hc';cases hc';have h3:=h2 j x hx;have hx':x=[]:=by
   rw [v0e] at hx;split at hx
   ·exact (v3q hx).symm
   ·cases hx
  subst hx';have hc2:c=.nils:=by
   rw [v0e] at hc;split at hc
   ·exact (v3q hc).symm
   ·cases hc
  subst hc2;exact .inr ⟨rfl,rfl,rfl,hd j,by rw [h3];rfl⟩
theorem qzr (D:Nat→Bool) (n:Nat) (h1:qli h f e sz G enc ll) (hD:∀i,D (fx f i)=true):(qa1 (qe8 D (n+2)) (qkd f e sz G enc ll)).run (qa4 h)=some (v2v (qap enc) ll):=by
 have key:∀(r:List (List α)) (k:Nat),(∀j x,r[j]?=some x→qa4 h (fx f (k+j))=.arr e sz G (v2v AV.p (v2v enc x))) →
   (qa1 (qe8 D (n+2)) (r.mapIdx fun i x=>AV.own (fx f (k+i)) G 0 x.length)).run (qa4 h)=some (v2v (qap enc) r):=by
  intro r
  induction r with
  | nil=>intro k _;rfl
  | cons x r ih =>
   intro k H;have h0:=H 0 x rfl;rw [v1b] at h0;have h2:=ih (k+1) fun j y hy=>by
    have:=H (j+1) y (by simpa using hy)
    rwa [show k+(j+1)=k+1+j by omega] at this
   rw [List.mapIdx_cons];simp only [qa1,L.run_bind',v1b];have e1:(qe8 D (n+2) (.own (fx f k) G 0 x.length)).run (qa4 h)=some (qap enc x):=by
    simp only [qe8,hD,if_true,L.run_look,h0];rw [if_pos ⟨trivial,by simp⟩];rw [L.run_bind',List.drop_zero,v05 (by simp),qov];rfl
   rw [e1];have e2:(fun i (y:List α)=>AV.own (fx f (k+(i+1))) G 0 y.length)=fun i (y:List α)=>AV.own (fx f (k+1+i)) G 0 y.length:=by
    funext i y;rw [show k+(i+1)=k+1+i by omega]
   simp only [v1r,e2,h2];rfl
 have:=key ll 0 fun j x hx=>by rw [v1q];exact h1 j x hx
 simpa only [qkd,v1q] using this
end
end Go.Ab
namespace Go.Ab
open Go
mutual
def vji (π:Nat→Nat):AV→AV
 | .any=>.any
 | .p x=>.p x
 | .nils=>.nils
 | .loc l g i off=>.loc (π l) g i off
 | .own l g off n=>.own (π l) g off n
 | .mapo l g=>.mapo (π l) g
 | .func fn cs=>.func fn (qn3 π cs)
 | .agg cs=>.agg (qn3 π cs)
 | .tup cs=>.tup (qn3 π cs)
def qn3 (π:Nat→Nat):List AV→List AV
 | []=>[]
 | c :: r=>vji π c :: qn3 π r
end
def qyy (π:Nat→Nat):AO→AO
 | .dead g=>.dead g
 | .arr e sz g es=>.arr e sz g (qn3 π es)
 | .map g ks vs=>.map g (qn3 π ks) (qn3 π vs)
theorem qo2 (π:Nat→Nat):∀l:List AV,qn3 π l=l.map (vji π)
 | []=>rfl
 | c :: r=>by simp only [qn3,v0p,qo2 π r]
theorem vjj (π:Nat→Nat) (xs:List PV):qn3 π (v2v AV.p xs)=v2v AV.p xs:=by
 rw [qo2,List.map_map];rfl
theorem vjk (π:Nat→Nat) (n:Nat) (v:PV):qn3 π (v01 n (AV.p v))=v01 n (AV.p v):=by
 rw [qo2,v2x];rfl
theorem qxo (π:Nat→Nat) (l:List AV):(qn3 π l).length=l.length:=by rw [qo2,v0j]
theorem vjl (π:Nat→Nat) (l:List AV) (i:Nat) (v:AV):qn3 π (l.set i v)=(qn3 π l).set i (vji π v):=by rw [qo2,qo2,v2y]
theorem qsa (π:Nat→Nat) (o:AO):(qyy π o).gen=o.gen:=by cases o <;> rfl
theorem qor (π:Nat→Nat) (o:AO):(qyy π o).alive=o.alive:=by cases o <;> rfl
section
variable {X:Nat→Prop} {inj:Inj} {σ:Nat→AO} {w:World} {π:Nat→Nat}
abbrev vr9 (π:Nat→Nat) (σ:Nat→AO):Nat→AO:=fun l=>qyy π (σ (π l))
abbrev vhn (π:Nat→Nat) (inj:Inj):Inj:=fun l=>inj (π l)
theorem renF (hπ:∀l,π (π l)=l) (D:Nat→Bool) (hD:∀l,D l=false) (b:Nat):F (vhn π inj) (vr9 π σ) b↔F inj σ b:=by
 constructor
 ·rintro ⟨l,c,o,h1,h2,_,h3⟩;refine ⟨π l,c,σ (π l),rfl,?_,rfl,h3⟩;rw [←h1,qor] at h2;exact h2
 ·rintro ⟨l,c,o,h1,h2,_,h3⟩;refine ⟨π l,c,qyy π o,?_,by rw [qor];exact h2,rfl,?_⟩
  ·show qyy π (σ (π (π l)))=qyy π o;rw [hπ,h1]
  ·show inj (π (π l))=some (b,c);rw [hπ];exact h3
theorem q6r {o:AO} {e sz g:Nat} {es:List AV} (h:qyy π o=.arr e sz g es):∃es0,o=.arr e sz g es0∧es=qn3 π es0:=by
 cases o with
 | dead _=>cases h
 | arr e' sz' g' es0 =>
  simp only [qyy,AO.arr.injEq] at h;obtain ⟨rfl,rfl,rfl,rfl⟩:=h;exact ⟨es0,rfl,rfl⟩
 | map _ _ _=>cases h
theorem vng {o:AO} {g:Nat} {ks vs:List AV} (h:qyy π o=.map g ks vs):∃ks0 vs0,o=.map g ks0 vs0:=by
 cases o with
 | dead _=>cases h
 | arr _ _ _ _=>cases h
 | map g' ks0 vs0 =>
  simp only [qyy,AO.map.injEq] at h;obtain ⟨rfl,rfl,rfl⟩:=h;exact ⟨ks0,vs0,rfl⟩
mutual
theorem AR.ren (hπ:∀l,π (π l)=l):∀(v:AV) (val:Value),AR X inj σ w v val→AR X (vhn π inj) (vr9 π σ) w (vji π v) val
 | .any,_,_=>trivial
 | .p x,val,h=>by
  have e:(fun b=>X b∨F inj σ b)=fun b=>X b∨F (vhn π inj) (vr9 π σ) b:=by
   funext b
   rw [renF (inj:=inj) (σ:=σ) hπ (fun _=>false) (fun _=>rfl) b]
  simp only [vji,AR] at *
  rw [←e];exact h
 | .nils,_,h=>h
 | .loc l g i off,val,h=>by
  obtain ⟨h1,h2⟩:=h
  refine ⟨h1,fun o ho=>?_⟩
  have ho:qyy π (σ l)=o:=by rw [←ho];show _=qyy π (σ (π (π l)));rw [hπ]
  obtain ⟨h3,h4⟩:=h2 _ rfl
  rw [←ho,qsa]
  refine ⟨h3,fun hg e sz es he=>?_⟩
  obtain ⟨es0,he0,_⟩:=q6r he
  obtain ⟨b,c,h5,h6⟩:=h4 hg e sz es0 he0
  exact ⟨b,c,by show inj (π (π l))=_;rw [hπ];exact h5,h6⟩
 | .own l g off n,val,h=>by
  obtain ⟨h1,h2⟩:=h
  refine ⟨h1,fun o ho=>?_⟩
  have ho:qyy π (σ l)=o:=by rw [←ho];show _=qyy π (σ (π (π l)));rw [hπ]
  obtain ⟨h3,h4⟩:=h2 _ rfl
  rw [←ho,qsa]
  refine ⟨h3,fun hg e sz es he=>?_⟩
  obtain ⟨es0,he0,he1⟩:=q6r he
  have hi:vhn π inj (π l)=inj l:=by show inj (π (π l))=_;rw [hπ]
  rw [he1,qxo,hi]
  exact h4 hg e sz es0 he0
 | .mapo l g,val,h=>by
  obtain ⟨h1,h2⟩:=h
  refine ⟨h1,fun o ho=>?_⟩
  have ho:qyy π (σ l)=o:=by rw [←ho];show _=qyy π (σ (π (π l)));rw [hπ]
  obtain ⟨h3,h4⟩:=h2 _ rfl
  rw [←ho,qsa]
  refine ⟨h3,fun hg ks vs he=>?_⟩
  obtain ⟨ks0,vs0,he0⟩:=vng he
  obtain ⟨b,c,h5,h6⟩:=h4 hg ks0 vs0 he0
  exact ⟨b,c,by show inj (π (π l))=_;rw [hπ];exact h5,h6⟩
 | .func fn cs,val,h=>by
  obtain ⟨vs,h1,h2⟩:=h
  exact ⟨vs,h1,ARs.ren hπ cs vs h2⟩
 | .agg cs,val,h=>by
  obtain ⟨vs,h1,h2,h3⟩:=h
  exact ⟨vs,h1,ARs.ren hπ cs vs h2,h3⟩
 | .tup cs,val,h=>by
  obtain ⟨vs,h1,h2⟩:=h
  exact ⟨vs,h1,ARs.ren hπ cs vs h2⟩
theorem ARs.ren (hπ:∀l,π (π l)=l):∀(vs:List AV) (vals:List Value),ARs X inj σ w vs vals→ARs X (vhn π inj) (vr9 π σ) w (qn3 π vs) vals
 | [],_,h=>h
 | c :: r,_,h=>by
  obtain ⟨v,rs,h1,h2,h3⟩:=h
  exact ⟨v,rs,h1,AR.ren hπ c v h2,ARs.ren hπ r rs h3⟩
end
theorem HR.ren (hπ:∀l,π (π l)=l) (h:HR X inj σ w):HR X (vhn π inj) (vr9 π σ) w:=by
 refine ⟨fun l o ho=>?_,fun l l' o o' b c c' h1 h2 a1 a2 h3 h4=>?_,h.xlt⟩
 ·have h1:=h.obj (π l) _ rfl;subst ho;show OR X (vhn π inj) (vr9 π σ) w l (qyy π (σ (π l)));cases hs:σ (π l) with
  | dead g=>trivial
  | arr e sz g es =>
   rw [hs] at h1;obtain ⟨vs,q1,q2,q3,q4⟩:=h1;refine ⟨vs,ARs.ren hπ es vs q1,q2,q3,?_⟩;rw [qxo];rcases q4 with ⟨q4,q5⟩ | q4
   ·exact .inl ⟨q4,by rw [q5];rfl⟩
   ·exact .inr q4
  | map g ks vs =>
   rw [hs] at h1;obtain ⟨b,c,ms,clock,q1,q2,q3,q4,q5⟩:=h1;exact ⟨b,c,ms,clock,q1,q2,q3,ARs.ren hπ ks _ q4,ARs.ren hπ vs _ q5⟩
 ·have:=h.inj1 (π l) (π l') _ _ b c c' rfl rfl (by rw [←h1,qor] at a1;exact a1) (by rw [←h2,qor] at a2;exact a2) h3 h4;have:=congrArg π this
  rwa [hπ,hπ] at this
end
def vho (π:Nat→Nat) (h:List (Nat×AO)):List (Nat×AO):=h.map fun x=>(π x.1,qyy π x.2)
def vl9 (π:Nat→Nat) (env:Env):Env:=env.map fun x=>(x.1,vji π x.2)
theorem q9l {π:Nat→Nat} (hπ:∀l,π (π l)=l) (h:List (Nat×AO)) (l:Nat):qa4 (vho π h) l=qyy π (qa4 h (π l)):=by
 induction h with
 | nil=>rfl
 | cons x h ih =>
  obtain ⟨k,o⟩:=x;simp only [vho,v0p,qa4];by_cases hk:π k=l
  ·have:k=π l:=by rw [←hk,hπ]
   rw [if_pos hk,if_pos this]
  ·have:¬k=π l:=fun e=>hk (by rw [e,hπ])
   rw [if_neg hk,if_neg this];exact ih
theorem vnh (π:Nat→Nat) (env:Env) (t:Nat):(vl9 π env).get t=vji π (env.get t):=by
 induction env with
 | nil=>rfl
 | cons x env ih =>
  obtain ⟨k,v⟩:=x;simp only [vl9,v0p,Env.get];split
  ·rfl
  ·exact ih
def q9m (o0 o:AO):Prop:=o0.gen≤o.gen∧(o.alive=true→o0.gen < o.gen)
variable {C:Cx} {Q:Exit→St→Prop} {st:St} {inj:Inj} {a:Act} {w:World}
theorem SR.ren {π:Nat→Nat} (hπ:∀l,π (π l)=l) (hs:SR C st inj a w) (hm:∀l,π l≠l→q9m (qa4 C.H0 l) (qa4 st.heap (π l))) :
  SR C ⟨vl9 π st.env,vho π st.heap⟩ (vhn π inj) a w:=by
 have hsig:(qa4 (vho π st.heap))=vr9 π (qa4 st.heap):=by funext l;exact q9l hπ _ l
 refine ⟨fun t=>?_,hs.size,hs.defers,?_,?_⟩
 ·show AR C.X (vhn π inj) (qa4 (vho π st.heap)) w ((vl9 π st.env).get t) _;rw [hsig,vnh];exact AR.ren hπ _ _ (hs.env t)
 ·show HR C.X (vhn π inj) (qa4 (vho π st.heap)) w;rw [hsig];exact HR.ren hπ hs.hr
 ·show Ev C.D C.X C.inj0 (qa4 C.H0) C.w0 (vhn π inj) (qa4 (vho π st.heap)) w;rw [hsig];refine ⟨hs.ev.os,hs.ev.tape,hs.ev.output,hs.ev.dr,hs.ev.size,hs.ev.fz,hs.ev.blk,fun b hb=>hs.ev.fp b ((renF hπ (fun _=>false) (fun _=>rfl) b).1 hb),fun l=>?_⟩;by_cases hl:π l=l
  ·have h0:=hs.ev.objs l;show OEv (qa4 C.H0 l) (qyy π (qa4 st.heap (π l))) (inj (π l)=C.inj0 l);rw [hl];refine ⟨by rw [qsa];exact h0.1,fun ha hg=>?_⟩;rw [qor] at ha;rw [qsa] at hg;obtain ⟨h1,h2⟩:=h0.2 ha hg;refine ⟨h1,?_⟩;rcases h2 with ⟨e,sz,es,es',q1,q2,q3⟩ | ⟨ks,vs,ks',vs',q1,q2⟩
   ·exact .inl ⟨e,sz,es,qn3 π es',q1,by rw [show st.sig l=qa4 st.heap l from rfl] at q2;rw [q2];rfl,by rw [qxo];exact q3⟩
   ·exact .inr ⟨ks,vs,qn3 π ks',qn3 π vs',q1,by rw [show st.sig l=qa4 st.heap l from rfl] at q2;rw [q2];rfl⟩
  ·obtain ⟨h1,h2⟩:=hm l hl;refine ⟨by show _≤(qyy π (qa4 st.heap (π l))).gen;rw [qsa];exact h1,fun ha hg=>?_⟩;have ha':(qa4 st.heap (π l)).alive=true:=by
    have:(qyy π (qa4 st.heap (π l))).alive=true:=ha
    rwa [qor] at this
   have hg':(qa4 C.H0 l).gen=(qa4 st.heap (π l)).gen:=by
    have:(qa4 C.H0 l).gen=(qyy π (qa4 st.heap (π l))).gen:=hg
    rwa [qsa] at this
   have:=h2 ha';omega
def swp (a b l:Nat):Nat:=if l=a then b else if l=b then a else l
theorem vjm (a b l:Nat):swp a b (swp a b l)=l:=by
 unfold swp;by_cases h1:l=a
 ·subst h1;by_cases h2:b=l
  ·subst h2;simp
  ·simp [h2]
 ·by_cases h2:l=b
  ·subst h2;simp [h1]
  ·simp [h1,h2]
theorem SR.swp {x y:Nat} (hs:SR C st inj a w) (h1:q9m (qa4 C.H0 x) (qa4 st.heap y)) (h2:q9m (qa4 C.H0 y) (qa4 st.heap x)):SR C ⟨vl9 (swp x y) st.env,vho (swp x y) st.heap⟩ (vhn (swp x y) inj) a w:=by
 refine hs.ren (vjm x y) fun l hl=>?_
 unfold Ab.swp at hl ⊢;by_cases e1:l=x
 ·subst e1;simpa using h1
 ·by_cases e2:l=y
  ·subst e2;by_cases e3:l=x
   ·exact absurd e3 e1
   ·simpa [e3] using h2
  ·simp [e1,e2] at hl
theorem vwl {ops:Array Oper} {l:List Oper} (x y:Nat) (h1:q9m (qa4 C.H0 x) (qa4 st.heap y)) (h2:q9m (qa4 C.H0 y) (qa4 st.heap x)) (h:AL C ops l Q ⟨vl9 (swp x y) st.env,vho (swp x y) st.heap⟩):AL C ops l Q st :=
 fun inj a w hs=>h _ a w (hs.swp h1 h2)
section
variable {α:Type} {h:List (Nat×AO)} {f i d e sz G:Nat} {enc:α→PV} {ll:List (List α)}
theorem q6s (x y:Nat) (h:List (Nat×AO)) (l:Nat):qa4 (vho (swp x y) h) l=qyy (swp x y) (qa4 h (swp x y l)):=q9l (vjm x y) h l
theorem q1o {j:Nat} (hd:d < 1048576) (hj:j≠i):swp d (fx f i) (fx f j)=fx f j:=by
 unfold swp;have h1:¬fx f j=d:=fun e=>q9f hd e.symm
 have h2:¬fx f j=fx f i:=by rw [q4t];exact hj
 rw [if_neg h1,if_neg h2]
theorem q1p {π:Nat→Nat}:∀{es:List AV} {xs:List PV},qn3 π es=v2v AV.p xs→es=v2v AV.p xs
 | [],[],_=>rfl
 | [],_ :: _,h=>by simp [qn3] at h
 | _ :: _,[],h=>by simp [qn3] at h
 | c :: es,x :: xs,h=>by
  simp only [qn3,v0p,List.cons.injEq] at h;obtain ⟨h1,h2⟩:=h;rw [q1p h2,v0p];congr 1;cases c <;> simp_all [vji]
theorem q9n {π:Nat→Nat} {o:AO} {xs:List PV}:(qyy π o=.arr e sz G (v2v AV.p xs))=(o=.arr e sz G (v2v AV.p xs)):=by
 rw [eq_iff_iff];constructor
 ·intro h;obtain ⟨es0,rfl,h2⟩:=q6r h;rw [q1p h2.symm]
 ·rintro rfl;simp only [qyy,vjj]
theorem vcm (hd:d < 1048576):qmj (vho (swp d (fx f i)) h) f i e sz G enc ll=qmj h f i e sz G enc ll:=by
 unfold qmj;rw [eq_iff_iff];constructor
 ·intro H j x hj hx;have:=H j x hj hx;rw [q6s,q1o hd hj,q9n] at this;exact this
 ·intro H j x hj hx;rw [q6s,q1o hd hj,q9n];exact H j x hj hx
theorem q9o (hd:d < 1048576) (v:AV):(qn3 (swp d (fx f i)) (qkd f e sz G enc ll)).set i v=(qkd f e sz G enc ll).set i v:=by
 apply vz3;intro j;by_cases hj:j=i
 ·subst hj;rw [v2l,v2l,qxo];simp
 ·rw [v2m (fun e=>hj e.symm),v2m (fun e=>hj e.symm),qo2,v0c,qoj];cases ll[j]? with
  | none=>rfl
  | some x=>simp only [v1w,vji,q1o hd hj]
theorem vsa {k:Nat} (h1:(k=d)=False) (h2:k < 1048576):swp d (fx f i) k=k:=by
 replace h1:¬k=d:=of_eq_false h1;unfold swp;have:¬k=fx f i:=q9f h2;rw [if_neg h1,if_neg this]
theorem vni:swp d (fx f i) (fx f i)=d:=by unfold swp;split <;> simp_all
theorem vjn:swp d (fx f i) d=fx f i:=by unfold swp;simp
end
end Go.Ab
namespace Go.Ab
open Go
section
variable {α:Type} {h:List (Nat×AO)} {f e sz G:Nat} {enc:α→PV} {ll:List (List α)}
theorem q9p (D:Nat→Bool) (h1:qli h f e sz G enc ll) (hD:∀i,D (fx f i)=true):(qa1 (qe8 D 8) (qkd f e sz G enc ll)).run (qa4 h)=some (v2v (qap enc) ll):=qzr D 6 h1 hD
theorem q9q (D:Nat→Bool) (h1:qli h f e sz G enc ll) (hD:∀i,D (fx f i)=true):(qa1 (qe8 D 7) (qkd f e sz G enc ll)).run (qa4 h)=some (v2v (qap enc) ll):=qzr D 5 h1 hD
theorem vsb (c:Prop) [Decidable c] (a b:AO):(if c then a else b).gen=if c then a.gen else b.gen:=by split <;> rfl
theorem vjo (c:Prop) [Decidable c] (a b:AO):(if c then a else b).alive=if c then a.alive else b.alive:=by split <;> rfl
theorem vnj {β:Type} (c:Prop) [Decidable c] (a:β):(if c then a else a)=a:=ite_self a
end
theorem vjp (π:Nat→Nat) (t:Nat) (v:AV) (r:Env):vl9 π ((t,v) :: r)=(t,vji π v) :: vl9 π r:=rfl
theorem vnk (π:Nat→Nat):vl9 π []=[]:=rfl
theorem vcn {β:Type} {l:List β} {n:Nat} (h:l.length=n):l.take n=l:=v05 (by omega)
theorem vd2 {β:Type} (l:List PV) (f:β→PV) (x:List β):(PV.slc l=qap f x)=(l=v2v f x):=by simp [qap]
attribute [simp] vd2
attribute [go_sem] vcn vd2 q9g q9h q4t qoj qlw vnb vnc vne vcc vga Option.elim_some Option.elim_none vgc vcf vcg q9i q9j vch vci q9k vcj vjb vjc vjd vje vnf vgb vjf vce q6n q3i q1m q1n vcl qzq q6o q6p q6q q9p q9q vsb vjo vnj q6s vji qn3 qyy vjj vjl vjk vjp vnk vcm q9o vsa vni vjn q9m
variable {C:Cx} {Q:Exit→St→Prop} {st:St}
theorem zSw {ops:Array Oper} {l:List Oper} (x y:Nat) (h:AL C ops l Q ⟨vl9 (swp x y) st.env,vho (swp x y) st.heap⟩)
  (h1:q9m (qa4 C.H0 x) (qa4 st.heap y):=by simp only [go_sem,seval, *]) (h2:q9m (qa4 C.H0 y) (qa4 st.heap x):=by simp only [go_sem,seval, *]):AL C ops l Q st:=vwl x y h1 h2 h
end Go.Ab
namespace Go.Ab
open Go
section
variable {α:Type} {h h' H0 rest:List (Nat×AO)} {f e sz G:Nat} {enc:α→PV}
end
end Go.Ab
namespace Go.Ab
open Go
section
variable {α:Type} {h h' H0 rest:List (Nat×AO)} {f e sz G:Nat} {enc:α→PV} {ll:List (List α)}
end
end Go.Ab
namespace Go.Ab
open Go
section
variable {C:Cx} {Q:Exit→St→Prop} {st:St}
end
end Go.Ab
namespace Go.Ab
open Go
theorem qyz:∃p:Nat→Nat,(∀k,k < 1048576→p k=k)∧∀f i,f < 1048576→p (fx f i)=1048576+f:=by
 refine ⟨fun l=>open Classical in if l < 1048576 then l else if h:∃f i,f < 1048576∧l=fx f i then 1048576+h.choose else 0,fun k hk=>if_pos hk,fun f i hf=>?_⟩;have h1:¬fx f i < 1048576:=fun h=>q9f h rfl
 have h2:∃f' i',f' < 1048576∧fx f i=fx f' i':=⟨f,i,hf,rfl⟩;simp only [h1,if_false];rw [dif_pos h2];obtain ⟨i',h3,h4⟩:=h2.choose_spec;by_cases hn:f=h2.choose
 ·rw [←hn]
 ·rw [fx_ne hf h3 hn] at h4;exact h4.elim
def plc:Nat→Nat:=Classical.choose qyz
theorem vjq {k:Nat} (h:k < 1048576):plc k=k:=(Classical.choose_spec qyz).1 k h
theorem vpz {f i:Nat} (h:f < 1048576):plc (fx f i)=1048576+f:=(Classical.choose_spec qyz).2 f i h
def vnl (p:Nat→Nat) (e:Evt):Option Nat×List Nat:=(e.wr.map p,e.reads.map p)
def vsc (x y:Option Nat×List Nat):Bool :=
  (match x.1 with
   | some l=>!y.2.contains l && y.1 != some l
   | none=>true) && (match y.1 with
   | some l=>!x.2.contains l
   | none=>true)
def vjr (ops:Array Oper) (es:List (Option Nat×List Nat)):Bool :=
  let A:=vl8 ops ops.size
  (v0z ops.size).all fun j=>(v0z j).all fun i=>vfy A j i ||
    (match es[i]?,es[j]? with
     | some x,some y=>vsc x y
     | _,_=>true)
theorem vnm {p:Nat→Nat} {x y:Evt} (h:vsc (vnl p x) (vnl p y)=true):vfz x y=true:=by
 unfold vsc vnl at h;unfold vfz;simp only [vzm] at h ⊢;obtain ⟨h1,h2⟩:=h;constructor
 ·cases hx:x.wr with
  | none=>rfl
  | some l =>
   rw [hx] at h1;simp only [v1w,vzm,vzq,bne_iff_ne,ne_eq] at h1 ⊢;obtain ⟨q1,q2⟩:=h1;refine ⟨?_,fun e=>q2 (by rw [e];rfl)⟩;cases hc:y.reads.contains l with
   | false=>rfl
   | true =>
    have:(y.reads.map p).contains (p l)=true:=by
     simp only [v2f,v3a] at hc ⊢;exact ⟨l,hc,rfl⟩
    rw [this] at q1;cases q1
 ·cases hy:y.wr with
  | none=>rfl
  | some l =>
   rw [hy] at h2;simp only [v1w,vzq] at h2 ⊢;cases hc:x.reads.contains l with
   | false=>rfl
   | true =>
    have:(x.reads.map p).contains (p l)=true:=by
     simp only [v2f,v3a] at hc ⊢;exact ⟨l,hc,rfl⟩
    rw [this] at h2;cases h2
theorem vnn {ops:Array Oper} {es:List Evt} {p:Nat→Nat} (h:vjr ops (es.map (vnl p))=true):qz6 ops es=true:=by
 simp only [vjr,qz6,v2b,v3c,vzr] at h ⊢;intro j hj i hi;rcases h j hj i hi with h1 | h1
 ·exact .inl h1
 ·right;rw [v0c,v0c] at h1;cases hx:es[i]? with
  | none=>rfl
  | some x =>
   cases hy:es[j]? with
   | none=>rfl
   | some y =>
    rw [hx,hy] at h1;exact vnm h1
theorem q9r {ops:Array Oper} {acc:List Evt} {sh:List (Option Nat×List Nat)} (hsh:acc.map (vnl plc)=sh) (hev:vjr ops sh.reverse=true):qz6 ops acc.reverse=true:=by
 subst hsh;rw [←List.map_reverse] at hev;exact vnn hev
variable {C:Cx} {Q:Exit→St→Prop} {st:St}
theorem ydS {l:Array Oper} {acc:List Evt} {sh:List (Option Nat×List Nat)} (h:Q .normal st) (hsh:acc.map (vnl plc)=sh:=by simp only [List.map_cons,List.map_nil,vnl,Evt.wr,Option.map_some,Option.map_none,vjq,vpz,seval,go_sem];exact rfl) (hev:vjr l sh.reverse=true:=by kernel_rfl):DGo C l [] st acc (DK C l Q):=DGo.fin (q9r hsh hev) h
theorem ydlS {l:Array Oper} {r:List Oper} {acc:List Evt} {sh:List (Option Nat×List Nat)} (h:AL C l r Q st) (hsh:acc.map (vnl plc)=sh:=by simp only [List.map_cons,List.map_nil,vnl,Evt.wr,Option.map_some,Option.map_none,vjq,vpz,seval,go_sem];exact rfl) (hev:vjr l sh.reverse=true:=by kernel_rfl):DGo C l [] st acc (DKL C l r Q):=DGo.done ⟨q9r hsh hev,h⟩
theorem vwm {β:Type} (l:List β) (i:Nat) (a:β):(l.set i a)[i]?=(l[i]?).map fun _=>a:=by
 rw [v2l];by_cases h:i < l.length
 ·simp [h]
 ·simp [h]
attribute [go_sem] vwm
end Go.Ab
namespace Go.Ab
variable {D:Prop}
open Go
def vco (n₀:Nat) (W:World) (sv:Value) (n:Nat) (news:List Value):Prop :=
 (∃a cap,sv=.slice a 0 cap∧n=0)∨∃b off cap,sv=.slice (some ⟨b,off,none⟩) n cap∧b < n₀∧∀j u,news[j]?=some u→W.cell? ⟨b,off+j,none⟩=some u
theorem vco.below {n₀ n:Nat} {A B:World} (h:RowKit.Below n₀ A B) {sv:Value} {news:List Value}:vco n₀ A sv n news→vco n₀ B sv n news
 | .inl e=>.inl e
 | .inr ⟨b,off,cap,e,hb,hc⟩=>.inr ⟨b,off,cap,e,hb,fun j u hj=>(h.cell (p:=⟨b,off+j,none⟩) hb).trans (hc j u hj)⟩
variable {C:Cx} {Q:Exit→St→Prop} {st:St}
end Go.Ab
namespace Go.Lib
open Go.RowKit
section
variable {P:Program} (w:World)
end
end Go.Lib
namespace Go.Proofs
open Go.Shelf Go.RowKit
variable {P:Program} {ρ:Ren}
end Go.Proofs
namespace Go.Lib
end Go.Lib
namespace Go.Proofs
open Go.Shelf Go.RowKit
variable {P:Program} {ρ:Ren}
end Go.Proofs
namespace Go.Ab
variable {D:Prop}
open Go
def vwn (bs:List UInt8):List AV:=bs.map fun c=>.p (.int .u8 ((c.toNat:Nat):Int))
variable {C:Cx} {Q:Exit→St→Prop} {st:St}
end Go.Ab
namespace Go.Ab
variable {D:Prop}
open Go
variable {C:Cx} {Q:Exit→St→Prop} {st:St}
@[go_sem] theorem vuk:vwn []=[]:=rfl
end Go.Ab
namespace Go.Ab
variable {D:Prop}
open Go
variable {X:Nat→Prop} {inj:Inj} {σ:Nat→AO} {w:World} {P:Program}
variable {C:Cx} {Q:Exit→St→Prop} {st:St}
end Go.Ab
namespace Go.Ab
open Go
def qq9 (rows:List (Nat×List Value)) (w:World):Prop:=∀r∈rows,∀(j:Nat) (u:Value),r.2[j]?=some u→w.cell? ⟨r.1,j,none⟩=some u
def QN (C:Cx) (Q:Exit→St→Prop):Exit→Act→World→Prop:=fun ex a w=>ex=.normal∧vps C Q .normal a w
def HJ (C:Cx) (ops:Array Oper) (rows:List (Nat×List Value)) (Q:Exit→St→Prop) (fuel:Nat) (listed:Array Bool) (st:St):Prop :=
 ∀inj a w,SR C st inj a w→qq9 rows w→wpAnyH C.P .any ops (QN C Q) (qq9 rows) fuel listed a w
def Lk (C:Cx) (rows:List (Nat×List Value)) (l:Nat):Prop:=∃e sz g x b c u,qa4 C.H0 l=.arr e sz g [x]∧C.inj0 l=some (b,c)∧AR C.X C.inj0 (qa4 C.H0) C.w0 x u∧u.cells.size=sz∧(b,u.cells.toList)∈rows
def LkR (C:Cx) (Ls:List Nat) (r:Nat×List Value):Prop:=∃p∈Ls,∃e sz g x c u,qa4 C.H0 p=.arr e sz g [x]∧C.inj0 p=some (r.1,c)∧AR C.X C.inj0 (qa4 C.H0) C.w0 x u∧r.2=u.cells.toList
variable {C:Cx} {Q:Exit→St→Prop} {st:St} {inj:Inj} {a:Act} {w:World}
theorem vsd {X:Nat→Prop} {inj:Inj} {σ:Nat→AO} {w:World} (h:HR X inj σ w) {l e sz g b c:Nat} {x:AV} (ho:σ l=.arr e sz g [x]) (hi:inj l=some (b,c)) :
  ∃u,AR X inj σ w x u∧u.cells.size=sz∧∀(j:Nat) (v:Value),u.cells.toList[j]?=some v→w.cell? ⟨b,j,none⟩=some v:=by
 obtain ⟨vs,o1,o2,o3,o4⟩:=(ho ▸ h.obj l _ rfl:OR X inj σ w l (.arr e sz g [x]));simp only [ARs] at o1;obtain ⟨u,r,rfl,hu,rfl⟩:=o1;rcases o4 with ⟨_,h0⟩ | ⟨b',c',cur,p1,p2,p3,p4,p5,p6,p7⟩
 ·cases h0
 rw [hi] at p1;cases p1;refine ⟨u,hu,o2 u (by simp),fun j v hj=>?_⟩;have hfl:flat [u]=u.cells.toList:=by simp [flat]
 rw [hfl] at p7;have hc:cur.toList[j]?=some v:=by
  rw [←p7,v0f] at hj;split at hj
  ·exact hj
  ·cases hj
 simp only [World.cell?,p3];rw [←vze];exact hc
theorem vno {id:Nat} {l:List Oper} (Ls:List Nat) (hm:C.P.follows .mixedOrders=true) (hl:∀p∈Ls,∃e sz g x,qa4 st.heap p=.arr e sz g [x])
  (h:∀inj w hT rows,(∀p∈Ls,Lk ⟨C.P,C.N,C.B,C.X,st.heap,inj,w,C.D,hT⟩ rows p)→(∀r∈rows,LkR ⟨C.P,C.N,C.B,C.X,st.heap,inj,w,C.D,hT⟩ Ls r)→HJ ⟨C.P,C.N,C.B,C.X,st.heap,inj,w,C.D,hT⟩ l.toArray rows Q l.toArray.size (v16 l.toArray.size false) st):AWp C (.region id l.toArray true) Q st:=by
 intro inj a w hs;have hf:Fr C.D w { w with drawn:=w.drawn+1 }:=⟨rfl,rfl,rfl,fun _=>v1g _,v1f _,fun _ _=>rfl,fun _ _=>rfl⟩;have hE:Ev C.D C.X inj st.sig w inj st.sig { w with drawn:=w.drawn+1 }:=hf.ev;have hs1:SR C st inj a { w with drawn:=w.drawn+1 }:=⟨fun t=>AR.ev hE hs.hr.xlt _ _ (hs.env t),hs.size,hs.defers,hs.hr.fr hf,hs.ev.trans hE⟩;generalize hw1:({ w with drawn:=w.drawn+1 }:World)=w1 at hs1
 -- the rows
 have hrows:∃rows,qq9 rows w1∧(∀p∈Ls,Lk ⟨C.P,C.N,C.B,C.X,st.heap,inj,w1,C.D,qvu hs1.ev⟩ rows p)∧∀r∈rows,LkR ⟨C.P,C.N,C.B,C.X,st.heap,inj,w1,C.D,qvu hs1.ev⟩ Ls r:=by
  clear h
  induction Ls with
  | nil=>exact ⟨[],(by unfold qq9;simp),(by simp),(by simp)⟩
  | cons p Ls ih =>
   obtain ⟨rows,r1,r2,r3⟩:=ih (fun q hq=>hl q (by simp [hq]));obtain ⟨e,sz,g,x,hp⟩:=hl p (by simp);have hOR:=hs1.hr.obj p _ hp;have hinj:∃b c,inj p=some (b,c):=by
    obtain ⟨vs,o1,o2,o3,o4⟩:=hOR;rcases o4 with ⟨_,h0⟩ | ⟨b',c',cur,p1,_⟩
    ·cases h0
    ·exact ⟨b',c',p1⟩
   obtain ⟨b,c,hi⟩:=hinj;obtain ⟨u,u1,u2,u3⟩:=vsd hs1.hr hp hi;refine ⟨(b,u.cells.toList) :: rows,?_,?_,?_⟩
   ·intro r hr j v hv;rcases v2z.1 hr with rfl | hr
    ·exact u3 j v hv
    ·exact r1 r hr j v hv
   ·intro q hq;rcases v2z.1 hq with rfl | hq
    ·exact ⟨e,sz,g,x,b,c,u,hp,hi,u1,u2,by simp⟩
    ·obtain ⟨e',sz',g',x',b',c',u',k1,k2,k3,k4,k5⟩:=r2 q hq;exact ⟨e',sz',g',x',b',c',u',k1,k2,k3,k4,by simp [k5]⟩
   ·intro r hr;rcases v2z.1 hr with rfl | hr
    ·exact ⟨p,by simp,e,sz,g,x,c,u,hp,hi,u1,rfl⟩
    ·obtain ⟨q,hq,rest⟩:=r3 r hr;exact ⟨q,by simp [hq],rest⟩
 obtain ⟨rows,r1,r2,r3⟩:=hrows;have hj:=h inj w1 (qvu hs1.ev) rows r2 r3 inj a w1 ⟨hs1.env,hs1.size,hs1.defers,hs1.hr,Ev.refl _ _ _ _⟩ r1;have hreg:(Code.region id l.toArray true).wp C.P (QN ⟨C.P,C.N,C.B,C.X,st.heap,inj,w1,C.D,qvu hs1.ev⟩ Q) a w:=wp_region_held hm (by rw [hw1];exact hj);refine wp_mono hreg ?_;rintro e a' w' ⟨rfl,s,inj',hs',hq⟩;exact ⟨s,inj',⟨hs'.env,hs'.size,hs'.defers,hs'.hr,hs1.ev.trans hs'.ev⟩,hq⟩
theorem q1q {ops:Array Oper} {rows:List (Nat×List Value)} {fuel:Nat} {listed:Array Bool} {i:Nat} {o:Oper} {y:AV} (hi:ops[i]?=some o) (hs:Region.noSelect ops=true) (hf:Region.free .any ops listed i=true) (hr:(Region.ready .any ops listed).contains i=true)
  (hg:o.guard=none) (hd:qdm C.N o=true) (hy:∀inj a w,SR C st inj a w→qq9 rows w→∃v,(∀w',qq9 rows w'→(execOp a.eval o).run C.P w'=.ok (.value v) w')∧AR C.X inj st.sig w y v)
  (h:HJ C ops rows Q fuel (listed.setIfInBounds i true) ⟨qig st.env o.dst y,st.heap⟩):HJ C ops rows Q (fuel+1) listed st:=by
 intro inj a w hsr hR;obtain ⟨v,h1,h2⟩:=hy inj a w hsr hR;refine wpAnyH_take hi hs hf hr (fun c a w hq=>by cases hq.1) (.inl ⟨by simp [Region.wanted,hg],h1⟩) hR ?_;have:=hsr.put (o:=o) (v:=y) (val:=v) (u:=none) hd hsr.hr (Ev.refl _ _ _ _) h2;exact h inj _ w this hR
mutual
def vd3:PV→Bool
 | .int _ _=>true
 | .bool _=>true
 | .str _=>true
 | .nilp=>true
 | .nilf=>true
 | .nili=>true
 | .nilm=>true
 | .agg cs=>q6t cs
 | _=>false
def q6t:List PV→Bool
 | []=>true
 | p :: ps=>vd3 p && q6t ps
end
mutual
theorem vd4 {X X':Nat→Prop} {w w':World}:∀(p:PV) {v v':Value},vd3 p=true→PR X w p v→PR X' w' p v'→v=v'
 | .int _ _,_,_,_,h,h'=>by simp only [PR] at h h';rw [h,h']
 | .bool _,_,_,_,h,h'=>by simp only [PR] at h h';rw [h,h']
 | .str _,_,_,_,h,h'=>by simp only [PR] at h h';rw [h,h']
 | .nilp,_,_,_,h,h'=>by simp only [PR] at h h';rw [h,h']
 | .nilf,_,_,_,h,h'=>by simp only [PR] at h h';rw [h,h']
 | .nili,_,_,_,h,h'=>by simp only [PR] at h h';rw [h,h']
 | .nilm,_,_,_,h,h'=>by simp only [PR] at h h';rw [h,h']
 | .agg cs,_,_,hr,h,h'=>by
  simp only [PR] at h h'
  obtain ⟨vs,rfl,h1,_⟩:=h
  obtain ⟨vs',rfl,h2,_⟩:=h'
  rw [q9s cs (by simpa [vd3] using hr) h1 h2]
 | .slc _,_,_,hr,_,_=>by cases hr
 | .nnil _,_,_,hr,_,_=>by cases hr
 | .clip _,_,_,hr,_,_=>by cases hr
 | .imm _,_,_,hr,_,_=>by cases hr
 | .mapv _ _,_,_,hr,_,_=>by cases hr
 | .func _ _,_,_,hr,_,_=>by cases hr
 | .tup _,_,_,hr,_,_=>by cases hr
theorem q9s {X X':Nat→Prop} {w w':World}:∀(ps:List PV) {vs vs':List Value},q6t ps=true→PRs X w ps vs→PRs X' w' ps vs'→vs=vs'
 | [],_,_,_,h,h'=>by simp only [PRs] at h h';rw [h,h']
 | p :: ps,_,_,hr,h,h'=>by
  simp only [PRs] at h h'
  obtain ⟨v,r,rfl,h1,h2⟩:=h
  obtain ⟨v',r',rfl,h3,h4⟩:=h'
  simp only [q6t,vzm] at hr
  rw [vd4 p hr.1 h1 h3,q9s ps hr.2 h2 h4]
end
theorem vse {ops:Array Oper} {rows:List (Nat×List Value)} {fuel:Nat} {listed:Array Bool} (hr:Region.ready .any ops listed=[]) (h:Q .normal st):HJ C ops rows Q fuel listed st :=
 fun inj a w hs _=>wpAnyH_done hr ⟨rfl,st,inj,hs,h⟩ fuel
theorem vsf {rows:List (Nat×List Value)} {l e sz g off:Nat} {t:TypeId} {x y:AV} {o:Oper} {xo:Operand} {bb:Bool} (hk:Lk C rows l) (hl0:qa4 C.H0 l=.arr e sz g [x]) (hl:qa4 st.heap l=.arr e sz g [x])
  (ho:o.op=.load t xo) (hv:ev st.env xo=.loc l g 0 off) (hy:(q0q C.P t (.loc l g 0 off)).run st.sig=some y) (hle:off+C.P.cellsOf t≤sz) (hlt:off < sz) (hb:qaw C.P t=some bb) :
  ∀inj a w,SR C st inj a w→qq9 rows w→∃v,(∀w',qq9 rows w'→(execOp a.eval o).run C.P w'=.ok (.value v) w')∧AR C.X inj st.sig w y v:=by
 intro inj a w hs hR;obtain ⟨e',sz',g',x',b,c,u,k1,k2,k3,k4,k5⟩:=hk;rw [hl0] at k1;obtain ⟨rfl,rfl,rfl,_⟩:=AO.arr.inj k1;have hsame:inj l=C.inj0 l:=by
  have h3:=(hs.ev.objs l).2 (by rw [show st.sig l=qa4 st.heap l from rfl,hl];rfl) (by rw [show st.sig l=qa4 st.heap l from rfl,hl0,hl]);exact h3.1
 have hloc:=hs.eval xo;rw [hv] at hloc;obtain ⟨u1,q1,q2⟩:=qvz (P:=C.P) hs.hr hloc hy;obtain ⟨_,a2⟩:=hloc;obtain ⟨_,a3⟩:=a2 _ (show st.sig l=_ from hl);obtain ⟨b',c',a4,hptr⟩:=a3 rfl _ _ _ rfl;rw [hsame,k2] at a4;cases a4;simp only [Nat.zero_mul,v1q] at hptr;have hcell:∀w',qq9 rows w'→∀(j:Nat) (v:Value),u.cells.toList[j]?=some v→w'.cell? ⟨b,j,none⟩=some v:=fun w' hR' j v hj=>hR' _ k5 j v hj
 have hlen:u.cells.toList.length=sz:=by rw [vzf,k4]
 have huniv:∃v,∀w',qq9 rows w'→(Instr.loadAt t (a.eval xo)).run C.P w'=.ok v w':=by
  cases bb with
  | true =>
   refine ⟨.agg ((u.cells.toList.drop off).take (C.P.cellsOf t)).toArray,fun w' hR'=>?_⟩;rw [hptr];have:=qoy (P:=C.P) (w:=w') hb (a:=⟨b,off,none⟩) (cs:=(u.cells.toList.drop off).take (C.P.cellsOf t)) (fun j v hj=>by
    rw [v0f] at hj;split at hj
    ·rw [vz8] at hj;rw [Addr.add_lit];exact hcell w' hR' _ v hj
    ·cases hj) (by rw [v0n,v0i];omega)
   simpa [Instr.loadAt,Instr.sureAddr] using this
  | false =>
   have hoff:u.cells.toList[off]?=some (u.cells.toList[off]'(by omega)):=vz9 _;refine ⟨u.cells.toList[off]'(by omega),fun w' hR'=>?_⟩;rw [hptr];have:=qtd (P:=C.P) (w:=w') hb (a:=⟨b,off,none⟩) (hcell w' hR' off _ hoff);simpa [Instr.loadAt,Instr.sureAddr] using this
 obtain ⟨v,hv'⟩:=huniv;have:=hv' w hR;rw [q1] at this;cases this;refine ⟨u1,fun w' hR'=>?_,q2⟩;obtain ⟨dst,op,ty,pos,af,gd⟩:=o;simp only at ho;subst ho;have h1:=hv' w' hR';simp [execOp,h1]
theorem vnp {rows:List (Nat×List Value)} {s f:Nat} {y:AV} {o:Oper} {xo:Operand} (ho:o.op=.fieldAddr s xo f) (hy:ql9 C.P s f (ev st.env xo)=some y) (hl:∃l g i off,ev st.env xo=.loc l g i off) :
  ∀inj a w,SR C st inj a w→qq9 rows w→∃v,(∀w',qq9 rows w'→(execOp a.eval o).run C.P w'=.ok (.value v) w')∧AR C.X inj st.sig w y v:=by
 intro inj a w hs hR;have hx:=hs.eval xo;obtain ⟨v,q1,q2⟩:=qsv (P:=C.P) hx hy;refine ⟨v,fun w' hR'=>?_,q2⟩;have hp:∃b,a.eval xo=.pointer (some b):=by
  obtain ⟨l,g,i,off,hl⟩:=hl;rw [hl] at hx;exact hx.1
 obtain ⟨b,hb⟩:=hp;have h1:(Instr.fieldAt s (a.eval xo) f).run C.P w'=.ok v w':=by
  rw [hb] at q1 ⊢;unfold ql9 qa5 at hy;cases hu:C.P.underlying s with
  | none=>simp [hu] at hy
  | some d =>
   cases d with
   | struct fs =>
    cases hf:fs[f]? with
    | none=>simp [hu,hf] at hy
    | some fd =>
     by_cases hz:C.P.cellsOf fd.type=0
     ·simp [hu,hf,hz] at hy
     ·have hsz:∀w,(sizeOf fd.type).run C.P w=.ok (C.P.cellsOf fd.type) w:=by
       intro w;unfold Program.cellsOf at hz ⊢;cases hi:C.P.info? fd.type with
       | none=>simp [hi] at hz
       | some i=>simp [sizeOf,typeInfo,hi]
      simp [Instr.fieldAt,run_underlying hu,hf,Instr.sureAddr,fieldPlace,hsz,hz] at q1 ⊢;exact q1
   | _=>simp [hu] at hy
 obtain ⟨dst,op,ty,pos,af,gd⟩:=o;simp only at ho;subst ho;simp [execOp,h1]
theorem vsg {rows:List (Nat×List Value)} {y:AV} {o:Oper} {xo:Operand} (ho:o.op=.move xo∨o.op=.assign xo) (hy:ev st.env xo=y) :
  ∀inj a w,SR C st inj a w→qq9 rows w→∃v,(∀w',qq9 rows w'→(execOp a.eval o).run C.P w'=.ok (.value v) w')∧AR C.X inj st.sig w y v:=by
 intro inj a w hs hR;have hx:=hs.eval xo;rw [hy] at hx;refine ⟨a.eval xo,fun w' hR'=>?_,hx⟩;obtain ⟨dst,op,ty,pos,af,gd⟩:=o;simp only at ho;rcases ho with rfl | rfl <;> simp [execOp]
end Go.Ab
namespace Go.Ab
open Go
variable {C:Cx} {Q:Exit→St→Prop} {st:St}
def vsh:AO→Bool
 | .arr _ _ _ [_]=>true
 | _=>false
theorem vnq (e sz g:Nat) (x:AV):vsh (.arr e sz g [x])=true:=rfl
def vge (h:List (Nat×AO)):List Nat→Prop
 | []=>True
 | p :: ps=>vsh (qa4 h p)=true∧vge h ps
theorem q4u {h:List (Nat×AO)}:∀{ps:List Nat},vge h ps→∀p∈ps,∃e sz g x,qa4 h p=.arr e sz g [x]
 | [],_,_,hp=>by cases hp
 | q :: ps,ho,p,hp=>by
  rcases v2z.1 hp with rfl | hp
  ·have:=ho.1;unfold vsh at this;split at this
   ·rename_i e sz g x hx;exact ⟨e,sz,g,x,hx⟩
   ·cases this
  ·exact q4u ho.2 p hp
theorem vjs (h:List (Nat×AO)):vge h []=True:=rfl
theorem vgf (h:List (Nat×AO)) (p:Nat) (ps:List Nat):vge h (p :: ps)=(vsh (qa4 h p)=true∧vge h ps):=rfl
attribute [go_sem] vnq vjs vgf
theorem zH {id:Nat} {l:List Oper} (Ls:List Nat) {n:Nat} {fs:Array Bool} (hm:C.P.follows .mixedOrders=true)
  (h:∀inj w hT rows,(∀p∈Ls,Lk ⟨C.P,C.N,C.B,C.X,st.heap,inj,w,C.D,hT⟩ rows p)→(∀r∈rows,LkR ⟨C.P,C.N,C.B,C.X,st.heap,inj,w,C.D,hT⟩ Ls r)→HJ ⟨C.P,C.N,C.B,C.X,st.heap,inj,w,C.D,hT⟩ l.toArray rows Q n fs st)
  (hl:vge st.heap Ls:=by simp only [go_sem,seval, *];all_goals exact zF) (hn:l.toArray.size=n:=by rfl) (hfs:Array.replicate n false=fs:=by rfl):AWp C (.region id l.toArray true) Q st:=by
 subst hn;subst hfs;exact vno Ls hm (q4u hl) h
def vnr:AV→Bool
 | .loc _ _ _ _=>true
 | _=>false
theorem vjt (l g i off:Nat):vnr (.loc l g i off)=true:=rfl
theorem vgg {v:AV} (h:vnr v=true):∃l g i off,v=.loc l g i off:=by
 unfold vnr at h;split at h
 ·exact ⟨_,_,_,_,rfl⟩
 ·cases h
attribute [go_sem] vjt
theorem zHl {ops:Array Oper} {rows:List (Nat×List Value)} {Ls:List Nat} {fuel:Nat} {listed listed':Array Bool} {o:Oper} {e sz g off:Nat} {t:TypeId} {x y:AV} {xo:Operand} {bb:Bool} {st':St}
  (i l:Nat) (hk:∀p∈Ls,Lk C rows p) (h:HJ C ops rows Q fuel listed' st') (hs:Region.noSelect ops=true:=by kernel_rfl) (hi:ops[i]?=some o:=by rfl) (ho:o.op=.load t xo:=by rfl)
  (hf:Region.free .any ops listed i=true:=by kernel_rfl) (hr:(Region.ready .any ops listed).contains i=true:=by kernel_rfl) (hg:o.guard=none:=by rfl) (hd:qdm C.N o=true:=by rfl) (hm:l∈Ls:=by simp)
  (hv:ev st.env xo=.loc l g 0 off:=by simp only [go_sem,seval, *];all_goals exact zF) (hl0:qa4 C.H0 l=.arr e sz g [x]:=by simp only [go_sem,seval, *];all_goals exact zF) (hl:qa4 st.heap l=.arr e sz g [x]:=by simp only [go_sem,seval, *];all_goals exact zF)
  (hy:(q0q C.P t (.loc l g 0 off)).run (qa4 st.heap)=some y:=by simp only [go_sem,seval, *];all_goals exact zF) (hle:off+C.P.cellsOf t≤sz:=by simp only [go_sem,seval];all_goals decide) (hlt:off < sz:=by decide) (hb:qaw C.P t=some bb:=by simp only [qaw,go_sem,seval];all_goals exact rfl)
  (hlist:listed.setIfInBounds i true=listed':=by rfl) (hst:(⟨qig st.env o.dst y,st.heap⟩:St)=st':=by rfl):HJ C ops rows Q (fuel+1) listed st:=by
 subst hlist;subst hst;exact q1q hi hs hf hr hg hd (vsf (hk l hm) hl0 hl ho hv hy hle hlt hb) h
theorem zHf {ops:Array Oper} {rows:List (Nat×List Value)} {fuel:Nat} {listed listed':Array Bool} {o:Oper} {s f:Nat} {xo:Operand} {y:AV} {st':St}
  (i:Nat) (h:HJ C ops rows Q fuel listed' st') (hs:Region.noSelect ops=true:=by kernel_rfl) (hi:ops[i]?=some o:=by rfl) (ho:o.op=.fieldAddr s xo f:=by rfl)
  (hf:Region.free .any ops listed i=true:=by kernel_rfl) (hr:(Region.ready .any ops listed).contains i=true:=by kernel_rfl) (hg:o.guard=none:=by rfl) (hd:qdm C.N o=true:=by rfl)
  (hl:vnr (ev st.env xo)=true:=by simp only [go_sem,seval, *];done) (hy:ql9 C.P s f (ev st.env xo)=some y:=by simp only [go_sem,seval, *];all_goals exact zF)
  (hlist:listed.setIfInBounds i true=listed':=by rfl) (hst:(⟨qig st.env o.dst y,st.heap⟩:St)=st':=by rfl):HJ C ops rows Q (fuel+1) listed st:=by
 subst hlist;subst hst;exact q1q hi hs hf hr hg hd (vnp ho hy (vgg hl)) h
theorem zHm {ops:Array Oper} {rows:List (Nat×List Value)} {fuel:Nat} {listed listed':Array Bool} {o:Oper} {xo:Operand} {y:AV} {st':St}
  (i:Nat) (h:HJ C ops rows Q fuel listed' st') (hs:Region.noSelect ops=true:=by kernel_rfl) (hi:ops[i]?=some o:=by rfl) (ho:o.op=.move xo∨o.op=.assign xo:=by first | exact .inl rfl | exact .inr rfl)
  (hf:Region.free .any ops listed i=true:=by kernel_rfl) (hr:(Region.ready .any ops listed).contains i=true:=by kernel_rfl) (hg:o.guard=none:=by rfl) (hd:qdm C.N o=true:=by rfl)
  (hy:ev st.env xo=y:=by simp only [go_sem,seval, *];all_goals exact rfl)
  (hlist:listed.setIfInBounds i true=listed':=by rfl) (hst:(⟨qig st.env o.dst y,st.heap⟩:St)=st':=by rfl):HJ C ops rows Q (fuel+1) listed st:=by
 subst hlist;subst hst;exact q1q hi hs hf hr hg hd (vsg ho hy) h
theorem zHe {ops:Array Oper} {rows:List (Nat×List Value)} {fuel:Nat} {listed:Array Bool} (h:Q .normal st) (hr:Region.ready .any ops listed=[]:=by kernel_rfl):HJ C ops rows Q fuel listed st:=vse hr h
section
variable {α:Type} {h h' H0 rest:List (Nat×AO)} {f f' k e sz G G' e' sz':Nat} {o:AO} {enc:α→PV} {ll:List (List α)}
end
section
variable {β:Type} {f n e sz G:Nat} {ll ll':List β}
end
attribute [go_sem] true_or
end Go.Ab
namespace Go.Ab
open Go
def qwb (ops:Array Oper):Bool:=ops.toList.all fun o=>(o.after.toList.all fun e=>decide (e.on < ops.size)) && (match o.guard with | some (g,_)=>decide (g < ops.size) | none=>true)
variable {C:Cx} {Q:Exit→St→Prop} {st:St}
end Go.Ab
namespace Go.Ab
open Go
theorem vju (D:Nat→Bool) (l g off len:Nat):qe8 D 6 (.own l g off len)=qyv D 5 l g off len:=rfl
theorem vjv (D:Nat→Bool) (cs:List AV):qe8 D 6 (.agg cs)=(qa1 (qe8 D 5) cs).bind fun xs=>.ret (.agg xs):=rfl
theorem vsi (D:Nat→Bool) (x:PV):qe8 D 5 (.p x)=.ret x:=rfl
theorem vgh (D:Nat→Bool):qe8 D 5 .nils=.ret (.slc []):=rfl
theorem vjw (D:Nat→Bool) (l g off len:Nat):qe8 D 5 (.own l g off len)=qyv D 4 l g off len:=rfl
theorem vsj (D:Nat→Bool) (x:PV):qe8 D 4 (.p x)=.ret x:=rfl
attribute [go_sem] vju vjv vsi vgh vjw vsj
end Go.Ab
