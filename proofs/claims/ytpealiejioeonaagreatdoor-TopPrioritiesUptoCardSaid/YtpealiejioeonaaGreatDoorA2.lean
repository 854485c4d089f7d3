/- -/
import Derived.StillTail
import Derived.Lib.Bytealg
import Derived.Deep.Slices
import Derived.ReadAgain
import Derived.ChangeArms
import Derived.ChangeSame
import Derived.RowKit
import Derived.RowKit3
import Derived.OpenShut
import Derived.JoinedCond
import Derived.KernelRfl
import Derived.Shelf.SlSortCmp.Kit1
import Derived.Sort.AssemblyPlain
import Derived.Laws.AppendOwn
import Derived.Below
import Derived.Shelf.SlicesE.Clone
import Derived.Sort.EncStr
import Derived.Shelf.GgSortFunc.RowK
import Derived.Shelf.SlSortCmp.InsertionK
import Derived.Lib.Repeat
import Derived.Shelf.Strings.Builder1
import Derived.Lib.AppendStr
import Derived.ProofKit
import Derived.LoopN
import Derived.Test.YtpealiejioeonaaGreatDoorA1
set_option linter.unusedVariables false
set_option linter.unusedSimpArgs false
open Array renaming ext'→vw4,ext_getElem?→vzy,getElem?_append→vw5,getElem?_eq_some_iff→vw6,getElem?_mapIdx→vzz,getElem?_modify→vz0,getElem?_setIfInBounds_ne→vw8,getElem?_toList→vw9,length_toList→vxa,range→vxb,size_range→vz1,toList_range→vz2,toList_setIfInBounds→vz3
open Bool renaming and_eq_true→vxh,eq_false_iff→vz4,false_and→vz5,false_eq_true→vxj,not_eq_true'→vxl,or_eq_true→vxm
open Int renaming fdiv→vz6
open Go.IntKind renaming bits→vz7,i64→vz8,signed→vz9,u16→v0a,u32→v0b,wrap→v0c
open Go.Lib renaming bitLen→v0d,run_eql_slice_nil→vxo
open List renaming all_eq_true→v0e,any_cons→v0f,any_eq_true→v0g,append_nil→vxs,cons_append→v0h,contains_iff_mem→v0i,eq_nil_of_length_eq_zero→vxx,ext_getElem?→vxy,flatMap_cons→v0j,getD_eq_getElem?_getD→v0k,getElem?_cons_succ→v0l,getElem?_cons_zero→v0m,getElem?_drop→vx3,getElem?_eq_getElem→vx4,getElem?_eq_none→vx5,getElem?_eq_some_iff→vx6,getElem?_map→vx7,getElem?_nil→v0n,getElem?_replicate→vx9,getElem?_set_ne→v0o,getElem?_set_self→v0p,getElem?_take→vya,length_append→vyc,length_cons→v0q,length_drop→vyd,length_eq_zero_iff→v0r,length_filter_le→v0s,length_map→vye,length_nil→vyf,length_pos_of_mem→v0t,length_range→v0u,length_set→vyh,length_take→vyi,map→v0v,map_append→vyj,map_congr_left→v0w,map_cons→vyk,map_drop→v0x,map_nil→vyl,map_replicate→v0y,map_take→v0z,mem_append→vym,mem_append_left→v00,mem_append_right→v01,mem_cons→v02,mem_cons_of_mem→v03,mem_cons_self→v04,mem_filter→v05,mem_flatMap→vyn,mem_map→v06,mem_mapIdx→v07,mem_of_mem_take→vyq,mem_range→v08,mem_singleton→v09,nil_append→vyt,range→vyu,range'→v1a,replicate→vyw,replicate_succ→v1b,size_toArray→vyx,take→v1c,take_append_drop→v1d,take_of_length_le→vy0,toArray→v1e
open Nat renaming add_zero→vy6,beq→v1f,le_refl→vza,le_succ→vzb,le_trans→vzc,lt_of_lt_of_le→vzd,lt_trichotomy→v1g,min_eq_left→v1h,mod_eq_of_lt→v1i,mul_le_mul_right→vzh,strongRecOn→v1j,sub_self→v1k,sub_zero→vzk,testBit_shiftLeft→v1l,zero_add→vzl,zero_le→v1m
open Option renaming bind_eq_some_iff→v1n,bind_some→vzm,isSome_iff_exists→vzp,map_none→v1o,map_some→vzr
open Option.some renaming inj→v1p,injEq→vzs
open Prod.mk renaming injEq→vzt
open Go.Result renaming andThen_ok→vzu
open Go.Sem renaming run_bind→vzw,run_pure→vzx
noncomputable section
namespace Go.Ab
open Go
section
section
variable (P:Program) (B d':Nat) (ρ:Operand→AV) (d:Option Tmp) (ty:TypeId) (pos:String) (af:Array Edge) (g:Option (Nat×Bool))
theorem vhy (x:Operand):aop P B ρ ⟨d,.move x,ty,pos,af,g⟩=.ret (ρ x,none):=rfl
theorem vau (x:Operand):aop P B ρ ⟨d,.assign x,ty,pos,af,g⟩=.ret (ρ x,none):=rfl
theorem vhz (c x y:Operand):aop P B ρ ⟨d,.pick c x y,ty,pos,af,g⟩=(match ρ c with | .p (.bool t)=>.ret (if t then ρ x else ρ y,none) | _=>.fail):=rfl
theorem vdh (t:TypeId):aop P B ρ ⟨some d',.alloc t,ty,pos,af,g⟩=(match qbf P t with
  | some z=>if z.cells.length=P.cellsOf t then vhp P (B+d') t z else .fail
  | none=>.fail):=rfl
theorem vmw (t:TypeId) (x:Operand):aop P B ρ ⟨some d',.box t x,ty,pos,af,g⟩=vhp P (B+d') t (ρ x):=rfl
theorem vdi (t:TypeId) (parts:List (Nat×Operand)):aop P B ρ ⟨d,.build t parts.toArray,ty,pos,af,g⟩=qbp (.ofOpt (qh0 P t (parts.map fun p=>(p.1,ρ p.2)))):=rfl
theorem qzb (t:TypeId) (n:Nat) (parts:List (Nat×Operand)):aop P B ρ ⟨some d',.buildSlice t n parts.toArray,ty,pos,af,g⟩=qg6 P (B+d') t n (parts.map fun p=>(p.1,ρ p.2)):=rfl
theorem vh0 (t:TypeId) (x:Operand):aop P B ρ ⟨d,.load t x,ty,pos,af,g⟩=qbp (qu1 P t (ρ x)):=rfl
theorem vdj (t:TypeId) (x y:Operand):aop P B ρ ⟨d,.store t x y,ty,pos,af,g⟩=qw1 P t (ρ x) (ρ y):=rfl
theorem vdk (op:BinOp) (t:TypeId) (x y:Operand) (yt:TypeId):aop P B ρ ⟨d,.binOp op t x y yt,ty,pos,af,g⟩=qbp (.ofOpt (vle P op t (ρ x) (ρ y))):=rfl
theorem vh1 (op:UnOp) (t:TypeId) (x:Operand):aop P B ρ ⟨d,.unOp op t x,ty,pos,af,g⟩=qbp (.ofOpt (unA op (ρ x))):=rfl
theorem q59 (s t:TypeId) (x:Operand):aop P B ρ ⟨d,.convert s t x,ty,pos,af,g⟩=qbp (qz0 P s t (ρ x)):=rfl
theorem q3d (fn:Fn) (cap:List Operand):aop P B ρ ⟨d,.makeFunc fn (v1e []) cap.toArray,ty,pos,af,g⟩=.ret (q2u fn (cap.map ρ),none):=rfl
theorem q06 (fn:Fn) (x:Operand) (xs:List Operand):aop P B ρ ⟨d,.makeFunc fn (v1e (x :: xs)) (v1e []),ty,pos,af,g⟩=vhs fn ((x :: xs).map ρ):=rfl
theorem q07 (t:TypeId) (l c:Operand):aop P B ρ ⟨some d',.makeSlice t l c,ty,pos,af,g⟩=qn9 P (B+d') t (ρ l) (ρ c):=rfl
theorem vdl (t:TypeId) (x:Operand) (lo hi:Option Operand):aop P B ρ ⟨d,.slice t x lo hi none,ty,pos,af,g⟩=(match P.underlying t,qr7 (lo.map ρ),qr7 (hi.map ρ) with
  | some .string,some l,some h=>(match ρ x with | .p (.str _)=>qbp (qnb (ρ x) l h) | _=>.fail)
  | some (.slice e),some l,some h=>(match ρ x with | .p (.str _)=>.fail | _=>if qn7 P e=true then qbp (aop.sliceT P e (ρ x) l h) else .fail)
  | _,_,_=>.fail):=rfl
theorem vav (t:TypeId) (x hi mx:Operand):aop P B ρ ⟨d,.slice t x none (some hi) (some mx),ty,pos,af,g⟩=(match P.underlying t,ρ x,ρ hi,ρ mx with
  | some (.slice e),.p (.slc es),.p (.int _ hi),.p (.int _ mx)=>if mx=hi∧0≤hi∧hi≤es.length∧qn7 P e=true then qbp (.ret (.p (.clip (es.take hi.toNat)))) else .fail
  | _,_,_,_=>.fail):=rfl
theorem q08 (s:TypeId) (x:Operand) (f:Nat):aop P B ρ ⟨d,.fieldAddr s x f,ty,pos,af,g⟩=qbp (.ofOpt (ql1 P s f (ρ x))):=rfl
theorem q09 (t:TypeId) (x ix:Operand):aop P B ρ ⟨d,.indexAddr t x ix,ty,pos,af,g⟩=(match qr6 (ρ ix) with
  | some i=>qbp (qkl P t (ρ x) i)
  | none=>.fail):=rfl
theorem vdm (t:TypeId) (x ix:Operand):aop P B ρ ⟨d,.index t x ix,ty,pos,af,g⟩=(match qr6 (ρ ix) with
  | some i=>qbp (.ofOpt (qzz P t (ρ x) i))
  | none=>.fail):=rfl
theorem q6a (t:TypeId):aop P B ρ ⟨some d',.makeMap t none,ty,pos,af,g⟩=qti P (B+d') t:=rfl
theorem vaw (t:TypeId) (m k:Operand) (c:Bool):aop P B ρ ⟨d,.lookup t m k c,ty,pos,af,g⟩=qbp (qu2 P t (ρ m) (ρ k) c):=rfl
theorem q1a (t:TypeId) (m k v:Operand):aop P B ρ ⟨d,.mapUpdate t m k v,ty,pos,af,g⟩=qp5 P t (ρ m) (ρ k) (ρ v):=rfl
theorem vax (t:TypeId) (m k v:Operand):aop P B ρ ⟨d,.insert t m k v,ty,pos,af,g⟩=qp5 P t (ρ m) (ρ k) (ρ v):=rfl
theorem q3e (x:Operand):aop P B ρ ⟨d,.nilCheck x,ty,pos,af,g⟩=qbp (.ofOpt (vqy (ρ x))):=rfl
theorem vdn (s:TypeId) (x:Operand) (f:Nat):aop P B ρ ⟨d,.field s x f,ty,pos,af,g⟩=qbp (.ofOpt (q2x P s f (ρ x))):=rfl
theorem q6b (x:Operand) (i:Nat):aop P B ρ ⟨d,.extract x i,ty,pos,af,g⟩=(match ρ x with
  | .p (.tup vs)=>qbp (.ofOpt ((vs[i]?).map .p))
  | .tup vs=>qbp (.ofOpt (vs[i]?))
  | _=>.fail):=rfl
theorem vmx (x:Operand) (t:TypeId):aop P B ρ ⟨d,.call ⟨.builtin .len,v1e [x],v1e [t]⟩,ty,pos,af,g⟩=if (P.underlying t).isSome then qbp (aop.lenT P t (ρ x)) else .fail:=rfl
theorem vdo (x:Operand) (t:TypeId):aop P B ρ ⟨some d',.call ⟨.builtin .clear,v1e [x],v1e [t]⟩,ty,pos,af,g⟩=qr8 P t (ρ x):=rfl
theorem vay (x:Operand) (t:TypeId):aop P B ρ ⟨none,.call ⟨.builtin .clear,v1e [x],v1e [t]⟩,ty,pos,af,g⟩=qr8 P t (ρ x):=rfl
theorem vaz (s x:Operand) (t u:TypeId):aop P B ρ ⟨some d',.call ⟨.builtin .append,v1e [s,x],v1e [t,u]⟩,ty,pos,af,g⟩=if t=u then qca P (B+d') t (ρ s) (ρ x) else .fail:=rfl
theorem vmy (xs:List Operand) (ts:Array TypeId):aop P B ρ ⟨d,.call ⟨.builtin .max,xs.toArray,ts⟩,ty,pos,af,g⟩=qbp (.ofOpt (vc7 vc5 (xs.map ρ))):=rfl
theorem vmz (xs:List Operand) (ts:Array TypeId):aop P B ρ ⟨d,.call ⟨.builtin .min,xs.toArray,ts⟩,ty,pos,af,g⟩=qbp (.ofOpt (vc7 vc6 (xs.map ρ))):=rfl
theorem vh2 (f:Operand) (xs:Array Operand) (ts:Array TypeId):aop P B ρ ⟨d,.call ⟨.value f,xs,ts⟩,ty,pos,af,g⟩=.fail:=rfl
end
theorem va0 (P:Program) (N B:Nat) (ops:Array Oper) (st:St):qpn P N B ops [] st=(st,[]):=rfl
def onR:Option (AV×Upd)→Go1
 | some (v,u)=>.on v u
 | none=>.stop
theorem vh3 (v:AV) (u:Upd):onR (some (v,u))=.on v u:=rfl
theorem vh4:onR none=.stop:=rfl
theorem vdp (P:Program) (N B:Nat) (ops:Array Oper) (d:Option Tmp) (op:Op) (ty:TypeId) (pos:String) (af:Array Edge) (st:St) :
  go1 P N B ops ⟨d,op,ty,pos,af,none⟩ st=if qbg N ⟨d,op,ty,pos,af,none⟩ then onR ((aop P B (ev st.env) ⟨d,op,ty,pos,af,none⟩).run (qa0 st.heap)) else .stop:=by
 unfold go1 qau onR;rfl
def onG (r:Option (AV×Upd)):Option Bool→Go1
 | some true=>onR r
 | some false=>.on (.p (.tup [])) none
 | none=>.stop
theorem vh5 (r:Option (AV×Upd)):onG r (some true)=onR r:=rfl
theorem vdq (r:Option (AV×Upd)):onG r (some false)=.on (.p (.tup [])) none:=rfl
theorem va1 (N t:Nat) (op:Op) (ty:TypeId) (pos:String) (af:Array Edge) (g:Option (Nat×Bool)):qbg N ⟨some t,op,ty,pos,af,g⟩=decide (t < N):=rfl
theorem va2 (N:Nat) (op:Op) (ty:TypeId) (pos:String) (af:Array Edge) (g:Option (Nat×Bool)):qbg N ⟨none,op,ty,pos,af,g⟩=true:=rfl
def eqL (f:TypeId→List PV→List PV→Option Bool):List (Nat×Nat×Nat)→List PV→List PV→Option Bool
 | [],_,_=>some true
 | (t,o,n) :: r,xs,ys=>match f t ((xs.drop o).take n) ((ys.drop o).take n),eqL f r xs ys with
  | some a,some b=>some (a && b)
  | _,_=>none
theorem vlk (P : Program) (f : TypeId → List PV → List PV → Option Bool) : ∀ (fs : List Field) (xs ys : List PV), (fs.all fun g => g.name != "_") = true →
  vho P f fs xs ys=eqL f (fs.map fun g=>(g.type,g.offset,P.cellsOf g.type)) xs ys
 | [],_,_,_=>rfl
 | g :: fs,xs,ys,h=>by
  simp only [List.all_cons,vxh,bne_iff_ne,ne_eq] at h;simp only [vho,h.1,if_false,vyk,eqL,vlk P f fs xs ys h.2]
  all_goals rfl
theorem va3 (P : Program) {t : TypeId} {l : List (Nat × Nat × Nat)} (hu : P.underlying t = some (.struct (P.fieldsOf t))) (hs : P.stoodInHeld t = false) (hn : ((P.fieldsOf t).toList.all fun g => g.name != "_") = true)
  (hl:((P.fieldsOf t).toList.map fun g=>(g.type,g.offset,P.cellsOf g.type))=l) (d:Nat) (xs ys:List PV):eqT P (d+1) t xs ys=eqL (eqT P d) l xs ys:=by
 subst hl;unfold eqT;rw [hu];simp only [hs,vxj,if_false];exact vlk P _ _ xs ys hn
theorem vdr (P:Program) {t:TypeId} {q:IntKind} (hu:P.underlying t=some (.int q)) (d:Nat) (k k':IntKind) (a b:Int):eqT P (d+1) t [.int k a] [.int k' b]=if k=k' then some (a == b) else none:=by
 unfold eqT;rw [hu]
theorem vm0 (P:Program) {t:TypeId} (hu:P.underlying t=some .string) (d:Nat) (a b:List UInt8):eqT P (d+1) t [.str a] [.str b]=some (a == b):=by
 unfold eqT;rw [hu]
theorem q6c (m:L AV) (σ:Nat→AO):(qbp m).run σ=(m.run σ).map fun v=>(v,none):=by
 unfold qbp;rw [L.run_bind'];cases m.run σ <;> rfl
section
variable (k:IntKind) (n:Int) (b:Bool) (l:List UInt8) (ps qs:List PV) (fn:Fn)
theorem vst:(PV.int k n).cells=[.int k n]:=rfl
theorem vm1:(PV.bool b).cells=[.bool b]:=rfl
theorem vsu:(PV.str l).cells=[.str l]:=rfl
theorem vm2:PV.nilp.cells=[.nilp]:=rfl
theorem vm3:PV.nilf.cells=[.nilf]:=rfl
theorem vm4:PV.nili.cells=[.nili]:=rfl
theorem vm5:PV.nilm.cells=[.nilm]:=rfl
theorem vsv:(PV.slc ps).cells=[.slc ps]:=rfl
theorem vm6:(PV.nnil ps).cells=[.nnil ps]:=rfl
theorem vm7:(PV.clip ps).cells=[.clip ps]:=rfl
theorem vsw:(PV.imm ps).cells=[.imm ps]:=rfl
theorem vm8:(PV.mapv ps qs).cells=[.mapv ps qs]:=rfl
theorem vsx:(PV.bfn fn ps).cells=[.bfn fn ps]:=rfl
theorem vm9:(PV.func fn ps).cells=[.func fn ps]:=rfl
theorem vsy:(PV.agg ps).cells=ps:=rfl
theorem vsz:(PV.int k n).isAgg=false:=rfl
theorem vna:(PV.bool b).isAgg=false:=rfl
theorem vs3:(PV.str l).isAgg=false:=rfl
theorem vnb:PV.nilp.isAgg=false:=rfl
theorem vnc:PV.nilf.isAgg=false:=rfl
theorem vnd:PV.nili.isAgg=false:=rfl
theorem vne:PV.nilm.isAgg=false:=rfl
theorem vs4:(PV.slc ps).isAgg=false:=rfl
theorem vnf:(PV.nnil ps).isAgg=false:=rfl
theorem vng:(PV.clip ps).isAgg=false:=rfl
theorem vs5:(PV.imm ps).isAgg=false:=rfl
theorem vnh:(PV.mapv ps qs).isAgg=false:=rfl
theorem vs6:(PV.bfn fn ps).isAgg=false:=rfl
theorem vni:(PV.func fn ps).isAgg=false:=rfl
theorem vs7:(PV.agg ps).isAgg=true:=rfl
theorem vs8:(PV.int k n).isTup=false:=rfl
theorem vnj:(PV.bool b).isTup=false:=rfl
theorem vs9:(PV.str l).isTup=false:=rfl
theorem vnk:PV.nilp.isTup=false:=rfl
theorem vnl:PV.nilf.isTup=false:=rfl
theorem vnm:PV.nili.isTup=false:=rfl
theorem vnn:PV.nilm.isTup=false:=rfl
theorem vta:(PV.slc ps).isTup=false:=rfl
theorem vno:(PV.nnil ps).isTup=false:=rfl
theorem vnp:(PV.clip ps).isTup=false:=rfl
theorem vtb:(PV.imm ps).isTup=false:=rfl
theorem vnq:(PV.mapv ps qs).isTup=false:=rfl
theorem vtc:(PV.bfn fn ps).isTup=false:=rfl
theorem vnr:(PV.func fn ps).isTup=false:=rfl
theorem vtd:(PV.agg ps).isTup=false:=rfl
theorem vte:(PV.tup ps).isTup=true:=rfl
theorem vtf:(PV.int k n).flat=true:=rfl
theorem vns:(PV.bool b).flat=true:=rfl
theorem vtg:(PV.str l).flat=true:=rfl
theorem vnt:PV.nilp.flat=true:=rfl
theorem vth:(PV.slc ps).flat=false:=rfl
theorem vti:(PV.imm ps).flat=false:=rfl
theorem vtj:(PV.agg ps).flat=PV.flat.flatAll ps:=rfl
theorem vtk:(PV.tup ps).flat=PV.flat.flatAll ps:=rfl
theorem vtl:PV.flat.flatAll []=true:=rfl
theorem vnu (x:PV):PV.flat.flatAll (x :: ps)=(x.flat && PV.flat.flatAll ps):=rfl
end
attribute [go_sem] vst vm1 vsu vm2 vm3 vm4 vm5 vsv vm6 vm7 vsw vm8 vsx vs6 vm9 vsy vsz vna vs3 vnb vnc vnd vne vs4 vnf vng vs5 vnh vni vs7 vs8 vnj vs9 vnk vnl vnm vnn vta vno vnp vtb vnq vtc vnr vtd vte vtf vns vtg vnt vth vti vtj vtk vtl vnu
theorem hgetC (k:Nat) (o:AO) (r:List (Nat×AO)) (l:Nat):qa0 ((k,o) :: r) l=if k=l then o else qa0 r l:=rfl
theorem genD (g:Nat):(AO.dead g).gen=g:=rfl
theorem genA (e sz g:Nat) (es:List AV):(AO.arr e sz g es).gen=g:=rfl
theorem genM (g:Nat) (ks vs:List AV):(AO.map g ks vs).gen=g:=rfl
theorem vtm (g:Nat):(AO.dead g).alive=false:=rfl
theorem vtn (e sz g:Nat) (es:List AV):(AO.arr e sz g es).alive=true:=rfl
theorem vto (g:Nat) (ks vs:List AV):(AO.map g ks vs).alive=true:=rfl
theorem hgetN (l:Nat):qa0 [] l=.dead 0:=rfl
attribute [go_sem] q3e vqy q6a vaw q1a vax vdn qti qu2 qp5 qth vhr qwh qsk q8i qy6 AV.mapo.injEq q2x vhy vau vhz vdh vmw vdi qzb vh0 vdj vdk vh1 q59 q3d q06 vhs q07 vdl vav q08 q09 vdm q6b vmx vaz vdo vay qr8 vmy vmz vh2 va0 qxb q8m vaq vh3 vh4 vdp vh5 vdq va1 va2 q6c L.run_ofOpt L.run_ret L.run_fail L.run_look L.run_bind' qau ev ofV vlb Env.get qdh qp1 qod hgetC hgetN vhp vcv qu1 qq8 qy5 qw1 ql8 q5v ql1 qkl qr6 qzz vhq qz0 vc8 qr7 qnb aop.sliceT aop.lenT q5m qlc qca qer qk5 qg6 qn9 vle vld vqx strA unA eqL vc7 vag vc5 vc6 AV.cells AV.known AV.isAgg AV.one qku q5u q2u qoz splice qsj true_or or_true false_or or_false vas qtn qvr qbq Le vhx qkg q8o LeV qxg vhw vli vdf vde qxf genD genA genM vtm vtn vto St.sig PV.flat PV.flat.flatAll Ab.argsEnv qv6 qqa
end
section
theorem qfl (P:Program) (fs:Array Field) {l:List (Nat×Nat)} (h:(fs.toList.map fun f=>(f.offset,P.cellsOf f.type))=l) (j:Nat):qsj P fs j=l[j]?:=by
 subst h;simp [qsj]
theorem qhd (P:Program) (t:TypeId) {z:AV} (hz:qbf P t=some z) (hk:z.known=true) (hu:P.underlying t=some (.struct (P.fieldsOf t)))
  (hall:((P.fieldsOf t).toList.all fun f=>(P.info? f.type).isSome)=true) {pl:Nat→Option (Nat×Nat)} (hp:qsj P (P.fieldsOf t)=pl) {parts:List (Nat×AV)} :
  qh0 P t parts=(qk5 pl z.cells parts).map qku:=by
 unfold qh0;rw [hu,hz];simp only [hk,hall,Bool.and_self,if_true,hp]
theorem qz7 (P:Program) (t:TypeId) {n:Nat} {e:TypeId} {z:AV} (hz:qbf P t=some z) (hk:z.known=true) (hu:P.underlying t=some (.array n e))
  (he:(P.info? e).isSome=true) {c:Nat} (hc:P.cellsOf e=c) {parts:List (Nat×AV)} :
  qh0 P t parts=(qk5 (fun i=>some (i * c,c)) z.cells parts).map qku:=by
 subst hc;unfold qh0;rw [hu,hz];simp only [hk,he,Bool.and_self,if_true]
theorem vll (P:Program) (f:TypeId→List PV→List PV→Option Bool) (e c:Nat) (xs ys:List PV):∀l:List Nat,vlc (f e) c xs ys l=eqL f (l.map fun i=>(e,i * c,c)) xs ys
 | []=>rfl
 | i :: l=>by
  simp only [vlc,vyk,eqL,vll P f e c xs ys l];rfl
theorem q3f (P:Program) {t:TypeId} {n:Nat} {e:TypeId} {l:List (Nat×Nat×Nat)} (hu:P.underlying t=some (.array n e)) (he:(P.info? e).isSome=true)
  (hl:((vyu n).map fun i=>(e,i * P.cellsOf e,P.cellsOf e))=l) (d:Nat) (xs ys:List PV):eqT P (d+1) t xs ys=eqL (eqT P d) l xs ys:=by
 subst hl;unfold eqT;rw [hu];simp only [he,if_true];exact vll P (eqT P d) e (P.cellsOf e) xs ys _
theorem wrap_i64 {n:Int} (h1:-9223372036854775808≤n) (h2:n≤9223372036854775807):vz8.wrap n=n:=by
 simp only [v0c,vz9,vz7];simp only [Bool.true_and,decide_eq_true_eq,ge_iff_le];rw [show ((2:Int) ^ (64 - 1))=9223372036854775808 from rfl,show ((2:Int) ^ 64)=18446744073709551616 from rfl];split <;> omega
theorem vnv (D:Nat→Bool) (x:PV):qdn D 9 (.p x)=.ret x:=rfl
theorem va4 (D:Nat→Bool):qdn D 9 .nils=.ret (.slc []):=rfl
theorem vds (D:Nat→Bool) (cs:List AV):qdn D 9 (.agg cs)=(qas (qdn D 8) cs).bind fun xs=>.ret (.agg xs):=rfl
theorem vdt (D:Nat→Bool) (cs:List AV):qdn D 9 (.tup cs)=(qas (qdn D 8) cs).bind fun xs=>.ret (.tup xs):=rfl
theorem va5 (D:Nat→Bool) (fn:Fn) (cs:List AV):qdn D 9 (.func fn cs)=(qas (qdn D 8) cs).bind fun xs=>.ret (.func fn xs):=rfl
theorem vnw (D:Nat→Bool) (x:PV):qdn D 8 (.p x)=.ret x:=rfl
theorem va6 (D:Nat→Bool):qdn D 8 .nils=.ret (.slc []):=rfl
theorem vdu (D:Nat→Bool) (cs:List AV):qdn D 8 (.agg cs)=(qas (qdn D 7) cs).bind fun xs=>.ret (.agg xs):=rfl
theorem vnx (D:Nat→Bool) (x:PV):qdn D 7 (.p x)=.ret x:=rfl
theorem va7 (D:Nat→Bool):qdn D 7 .nils=.ret (.slc []):=rfl
theorem vdv (D:Nat→Bool) (cs:List AV):qdn D 7 (.agg cs)=(qas (qdn D 6) cs).bind fun xs=>.ret (.agg xs):=rfl
theorem vny (D:Nat→Bool) (x:PV):qdn D 6 (.p x)=.ret x:=rfl
theorem va8 (D:Nat→Bool):qdn D 6 .nils=.ret (.slc []):=rfl
def qu5 (D : Nat → Bool) (n l g off len : Nat) : L PV := if D l then .look l fun o => match o with
      | .arr _ _ g' es => if g = g' ∧ off + len ≤ es.length then (qas (qdn D n) ((es.drop off).take len)).bind fun xs => .ret (.slc xs) else .fail
      | _ => .fail
    else .fail
def q1b (D : Nat → Bool) (n l g i off : Nat) : L PV := if D l then .look l fun o => match o with
      | .arr _ _ g' es => if g = g' then (match es[i]? with
        | some x => (qas (qdn D n) (x.cells.drop off)).bind fun ys => .ret (.imm ys)
        | none => .fail) else .fail
      | _ => .fail
    else .fail
theorem vdw (D:Nat→Bool) (l g off len:Nat):qdn D 9 (.own l g off len)=qu5 D 8 l g off len:=rfl
theorem vdx (D:Nat→Bool) (l g off len:Nat):qdn D 8 (.own l g off len)=qu5 D 7 l g off len:=rfl
theorem vdy (D:Nat→Bool) (l g off len:Nat):qdn D 7 (.own l g off len)=qu5 D 6 l g off len:=rfl
theorem vdz (D:Nat→Bool) (l g i off:Nat):qdn D 9 (.loc l g i off)=q1b D 8 l g i off:=rfl
theorem vd0 (D:Nat→Bool) (l g i off:Nat):qdn D 8 (.loc l g i off)=q1b D 7 l g i off:=rfl
theorem vd1 (D:Nat→Bool) (l g i off:Nat):qdn D 7 (.loc l g i off)=q1b D 6 l g i off:=rfl
theorem va9 (D:Nat→Bool) (xs:List PV):qas (qdn D 9) (xs.map .p)=.ret xs:=ql6 D 8 xs
theorem vba (D:Nat→Bool) (xs:List PV):qas (qdn D 8) (xs.map .p)=.ret xs:=ql6 D 7 xs
theorem vbb (D:Nat→Bool) (xs:List PV):qas (qdn D 7) (xs.map .p)=.ret xs:=ql6 D 6 xs
theorem vbc (D:Nat→Bool) (xs:List PV):qas (qdn D 6) (xs.map .p)=.ret xs:=ql6 D 5 xs
theorem q6d (f:AV→L PV):qas f []=.ret []:=rfl
theorem qvs (f:AV→L PV) (c:AV) (cs:List AV):qas f (c :: cs)=(f c).bind fun x=>(qas f cs).bind fun xs=>.ret (x :: xs):=rfl
attribute [go_sem] vnv va4 vds vdt va5 vnw va6 vdu vnx va7 vdv vny va8 vdw vdx vdy vdz vd0 vd1 qu5 q1b va9 vba vbb vbc q6d qvs if_true if_false ite_true ite_false decide_true decide_false Bool.not_true Bool.not_false Bool.and_true Bool.true_and Bool.and_false vz5 Bool.or_true Bool.true_or Bool.or_false Bool.false_or vyk vyl v0q vyf vye vzr v1o vzm Option.bind_none v0m v0l v0n v0h vyt vxs List.drop_zero List.drop_succ_cons List.drop_nil List.take_zero List.take_succ_cons List.take_nil List.set_cons_zero List.set_cons_succ and_true true_and and_false false_and or_true true_or or_false false_or beq_self_eq_true vxj Bool.true_eq_false eq_self not_true_eq_false not_false_eq_true List.all_cons List.all_nil Option.isSome_some Option.isSome_none Option.getD_some Option.getD_none Int.toNat_natCast v0f List.any_nil AV.loc.injEq AV.own.injEq AV.p.injEq PV.int.injEq PV.bool.injEq PV.str.injEq PV.slc.injEq PV.agg.injEq PV.tup.injEq vzs vzt List.cons.injEq List.countP_nil Int.natCast_zero implies_true forall_const
end
end Go.Ab
namespace Go.Ab
variable {D:Prop}
open Go
theorem qxh (P:Program) (B:Nat) {ρ ρ':Operand→AV} (o:Oper) (h:∀x∈o.op.operands,ρ x=ρ' x):aop P B ρ o=aop P B ρ' o:=by
 obtain⟨dst,op,type,pos,after,guard⟩:=o;have pairs:∀ps:Array (Nat×Operand),(∀x∈ps.toList.map (·.2),ρ x=ρ' x)→(ps.toList.map fun p=>(p.1,ρ p.2))=(ps.toList.map fun p=>(p.1,ρ' p.2)):=fun ps hp =>
  v0w fun p hm=>by rw [hp p.2 (v06.2 ⟨p,hm,rfl⟩)]
 cases op <;> simp only [Op.operands] at h <;> simp only [aop]
 case move x=>rw [h x (by simp)]
 case assign x=>rw [h x (by simp)]
 case pick c x y=>rw [h c (by simp),h x (by simp),h y (by simp)]
 case box t x=>rw [h x (by simp)]
 case build t ps=>rw [pairs ps fun x hx=>h x (by simpa using hx)]
 case buildSlice t n ps=>rw [pairs ps fun x hx=>h x (by simpa using hx)]
 case load t x=>rw [h x (by simp)]
 case store t x y=>rw [h x (by simp),h y (by simp)]
 case binOp op t x y yt=>rw [h x (by simp),h y (by simp)]
 case unOp op t x=>rw [h x (by simp)]
 case convert s d x=>rw [h x (by simp)]
 case makeFunc fn first captured =>
  have e:captured.toList.map ρ=captured.toList.map ρ':=v0w fun x hx=>h x (by simp at hx ⊢;exact .inr hx)
  have e2:first.toList.map ρ=first.toList.map ρ':=v0w fun x hx=>h x (by simp at hx ⊢;exact .inl hx)
  rw [e,e2]
 case makeSlice t l c=>rw [h l (by simp),h c (by simp)]
 case slice t x lo hi mx =>
  cases mx with
  | some m =>
   cases lo with
   | some l=>rfl
   | none=>cases hi with
    | none=>rfl
    | some hi=>simp only [aop];rw [h x (by simp),h hi (by simp),h m (by simp)]
  | none =>
   have e1:lo.map ρ=lo.map ρ':=by cases lo <;> simp;exact h _ (by simp)
   have e2:hi.map ρ=hi.map ρ':=by cases hi <;> simp;exact h _ (by simp)
   simp only [aop];rw [h x (by simp),e1,e2]
 case fieldAddr s x f=>rw [h x (by simp)]
 case indexAddr t x ix=>rw [h x (by simp),h ix (by simp)]
 case index t x ix=>rw [h x (by simp),h ix (by simp)]
 case makeMap t r=>cases r <;> rfl
 case lookup t m k c=>rw [h m (by simp),h k (by simp)]
 case mapUpdate t m k v=>rw [h m (by simp),h k (by simp),h v (by simp)]
 case insert t m k v=>rw [h m (by simp),h k (by simp),h v (by simp)]
 case field s x f=>rw [h x (by simp)]
 case nilCheck x=>rw [h x (by simp)]
 case extract x i=>rw [h x (by simp)]
 case call c =>
  obtain⟨callee,args,argTypes⟩:=c;cases callee with
  | value f=>rfl
  | invoke r m=>rfl
  | builtin b =>
   have ha:∀x∈args.toList,ρ x=ρ' x:=fun x hx=>h x (by simpa [Call.operands] using hx)
   have e:args.toList.map ρ=args.toList.map ρ':=v0w ha;cases b <;> simp only [aop]
   case len =>
    split
    ·rename_i x t hxs hts;rw [ha x (by rw [hxs];simp)]
    ·rfl
   case append =>
    split
    ·rename_i s x t u hxs hts;rw [ha s (by rw [hxs];simp),ha x (by rw [hxs];simp)]
    ·rfl
   case clear =>
    split
    ·rename_i x t hxs hts;rw [ha x (by rw [hxs];simp)]
    ·rfl
   case max=>rw [e]
   case min=>rw [e]
structure Evt where
 v:AV
 u:Upd
 reads:List Nat
def Evt.wr (e:Evt):Option Nat:=e.u.map (·.1)
def qe3 (ρ:Operand→AV) (f:Operand) (args:List Operand):Option (FuncId×List AV) :=
 match ρ f with
 | .p (.func (.func k) cs)=>some (k,args.map ρ++cs.map .p)
 | .func (.func k) cs=>some (k,args.map ρ++cs)
 | .p (.bfn (.func k) bs)=>some (k,bs.map .p++args.map ρ)
 | _=>none
structure Cln (P:Program) (k:FuncId) (e sz by':Nat):Prop where
 body:HasBody P k
 ptr:∀(b off n c:Nat) (news:List Value) (w:World),news.length=n * sz→n≤maxLen→n * by'≤140737488355328→(∀j u,news[j]?=some u→w.cell? ⟨b,off+j,none⟩=some u)→(∀u∈news,u.oneCell'=true) →
  Calls P k #[.slice (some ⟨b,off,none⟩) n c] w fun e' w'=>∃v,e'=.returned v∧w'.ownsRow w.heap.size e sz v n news∧RowKit.Below w.heap.size w w'
 zero:∀(a:Addr) (c:Nat) (w:World),Calls P k #[.slice (some a) 0 c] w fun e' w'=>∃v,e'=.returned v∧w'.ownsRow w.heap.size e sz v 0 []∧RowKit.Below w.heap.size w w'
 nil:∀(n c:Nat) (w:World),Calls P k #[.slice none n c] w fun e' w'=>e'=.returned (.slice none 0 0)∧w'=w
def OpU (D:Prop) (P:Program) (o:Oper) (ρ:Operand→AV) (σ:Nat→AO) (v:AV) (u:Upd) (rs:List Nat):Prop :=
 ∀(X:Nat→Prop) (ρ':Operand→AV) (σ':Nat→AO),(∀x∈o.op.operands,ρ' x=ρ x)→(∀l∈rs,σ' l=σ l) →
  ∀{inj:Inj} {w:World} {a:Act} {next:Act→World→Prop} {Q:Exit→Act→World→Prop},HR X inj σ' w→TabOk P (fun b=>X b∨F inj σ' b) w→(∀x,AR X inj σ' w (ρ' x) (a.eval x)) →
   (∀val w' inj',HR X inj' (upd σ' u) w'→Ev D X inj σ' w inj' (upd σ' u) w'→AR X inj' (upd σ' u) w' v val→next (a.put o.dst val) w')→o.wp P a w next Q
inductive Does (C:Cx) (o:Oper) (ρ:Operand→AV) (σ:Nat→AO):Evt→Prop
 | op {v u} (h:(aop C.P C.B ρ o).run σ=some (v,u)):Does C o ρ σ ⟨v,u,(aop C.P C.B ρ o).reads σ⟩
 | call {f args ats k avs pargs r} (hp:vhv C.D C.P k pargs r) (ho:o.op=.call ⟨.value f,args,ats⟩) (hk:HasBody C.P k) (hc:qe3 ρ f args.toList=some (k,avs))
   (hv:(qas (qdn (fun _=>true) 9) avs).run σ=some pargs) (hfl:(qoz avs).isSome=true∨r.flat=true) :
   Does C o ρ σ ⟨.p r,none,(qas (qdn (fun _=>true) 9) avs).reads σ⟩
 | built {t len parts v u x} (ho:o.op=.buildSlice t len parts) (h:(aop C.P C.B ρ o).run σ=some (v,u)) (hv:(qdn (fun l=>l == qjf C.B o) 9 v).run (upd σ u)=some x) :
   Does C o ρ σ ⟨.p x,none,(aop C.P C.B ρ o).reads σ++(qdn (fun l=>l == qjf C.B o) 9 v).reads (upd σ u)⟩
 | cloned {f args ats k e sz by' g xs} (S:Cln C.P k e sz by') (hw:¬C.D) (ho:o.op=.call ⟨.value f,args,ats⟩) (hc:qe3 ρ f args.toList=some (k,[.p (.slc xs)]))
   (hel:(xs.map AV.p).all (qer sz)=true) (hn:xs.length≤maxLen) (hby:xs.length * by'≤140737488355328) (hg:σ (qjf C.B o)=.dead g) :
   Does C o ρ σ ⟨.own (qjf C.B o) (g+1) 0 xs.length,some (qjf C.B o,.arr e sz (g+1) (xs.map AV.p)),[qjf C.B o]⟩
 | ext {v u rs} (h:OpU C.D C.P o ρ σ v u rs):Does C o ρ σ ⟨v,u,rs⟩
theorem qxi {X:Nat→Prop} {inj:Inj} {P:Program} {σ:Nat→AO} {w:World} (h:HR X inj σ w) {k:Nat} {t:TypeId} {len:Nat} {parts:List (Nat×AV)} {vparts:Array (Nat×Value)} {r:AV} {up:Upd} (hp:PartsR X inj σ w parts vparts.toList)
  (hr:(qg6 P k t len parts).run σ=some (r,up)) :
  ∃cs e,(Instr.buildSlice t len vparts).run P w=.ok (.slice (some ⟨w.heap.size,0,none⟩) len len) (w.alloc (.cells cs e)):=by
 unfold qg6 at hr;split at hr
 case h_2=>simp at hr
 rename_i e hu;split at hr
 case isFalse=>simp at hr
 rename_i hc;obtain⟨hfst,hall,hsm,hpos,hmx,hzs⟩:=hc;obtain⟨i,z,hi,hz,hzl',his,hib⟩:=qsi hzs;obtain⟨hf,hars⟩:=hp.fst;obtain⟨hsz,hone⟩:=qjp hall hars;have hlen:(vparts.toList.map (·.2)).length=len:=by
  have:=congrArg List.length (hf ▸ hfst);simpa using this
 have hdense:vparts.toList=((vparts.toList.map (·.2)).zipIdx 0).map fun x=>(x.2,x.1):=q29 0 (by rw [←hf,hfst,List.range_eq_range'])
 have hflen:(flat (vparts.toList.map (·.2))).length=len * P.cellsOf e:=by rw [qbl hsz,hlen]
 refine⟨(flat (vparts.toList.map (·.2))).toArray,e,?_⟩;by_cases h0:len * P.cellsOf e=0
 ·have hl0:len=0:=by
   rcases Nat.mul_eq_zero.1 h0 with h1 | h1
   ·exact h1
   ·omega
  have hfl0:flat (vparts.toList.map (·.2))=[]:=vxx (by rw [hflen,h0]);have hv0:vparts.toList=[]:=vxx (by rw [hl0] at hlen;simpa using hlen);have hv1:vparts=#[]:=by apply vw4;simpa using hv0
  subst hl0;subst hv1;simp [Instr.buildSlice,run_underlying hu,sizeOf,typeInfo,hi,Instr.fill,newRow,flat];rw [show vxb 0=#[] from by simp [vxb]];simp
 ·have hw:=Great.fill_whole (s:=P.cellsOf e) hpos (vparts.toList.map (·.2)) ((vxb (len * P.cellsOf e)).map (z.cells[· % z.cells.size]!)) hsz (by rw [hlen];simp);rw [←hdense] at hw;have:=run_buildSlice (P:=P) w t e len vparts _ i z hu hi hz (by rw [his];omega) (by rw [his];exact h0) (by rw [his];exact hw);rw [this];rfl
theorem Fr.alloc (w:World) (c:Array Value) (t:TypeId):Fr D w (w.alloc (.cells c t)):=by
 have hh:(w.alloc (.cells c t)).heap=w.heap.push (.cells c t):=rfl;refine⟨rfl,rfl,rfl,fun _=>vza _,by rw [hh,Array.size_push];omega,fun a _=>qnd w c t a,fun b hb=>?_⟩;rw [hh,Array.getElem?_push,if_neg (Nat.ne_of_lt hb)]
theorem q6e {σ:Nat→AO} {u:Upd} {l:Nat} (h:u.map (·.1)≠some l):upd σ u l=σ l:=by
 cases u with
 | none=>rfl
 | some p=>simp only [upd,qiq];rw [if_neg (fun e=>h (by simp [e]))]
theorem vnz {σ τ:Nat→AO} {u:Upd} {l:Nat} (h:u.map (·.1)=some l):upd σ u l=upd τ u l:=by
 cases u with
 | none=>cases h
 | some p=>simp only [vzr,vzs] at h;simp [upd,qiq,h]
theorem Does.frame {C:Cx} {o:Oper} {ρ ρ':Operand→AV} {σ τ:Nat→AO} {e:Evt} (h:Does C o ρ σ e) (hρ:∀x∈o.op.operands,ρ x=ρ' x) (hσ:∀l∈e.reads,τ l=σ l):Does C o ρ' τ e:=by
 cases h with
 | @op v u h =>
  rw [qxh C.P C.B o hρ] at h hσ ⊢;obtain⟨h1,h2⟩:=L.frame _ h hσ;rw [←h2];exact .op h1
 | @call f args ats k avs pargs r hp ho hk hc hv hfl =>
  have hf:ρ f=ρ' f:=hρ f (by rw [ho];simp [Op.operands,Call.operands]);have ha:args.toList.map ρ=args.toList.map ρ':=v0w fun x hx=>hρ x (by rw [ho];simp [Op.operands,Call.operands] at hx ⊢;exact .inr hx)
  have hc':qe3 ρ' f args.toList=some (k,avs):=by
   unfold qe3 at hc ⊢;rw [←hf,←ha];exact hc
  obtain⟨h1,h2⟩:=L.frame _ hv hσ;rw [←h2];exact .call hp ho hk hc' h1 hfl
 | @built t len parts v u x ho h hv =>
  rw [qxh C.P C.B o hρ] at h hσ ⊢;obtain⟨h1,h2⟩:=L.frame _ h fun l hl=>hσ l (vym.2 (.inl hl))
  have hσ2:∀l∈(qdn (fun l=>l == qjf C.B o) 9 v).reads (upd σ u),upd τ u l=upd σ u l:=fun l hl=>by
   by_cases hw:u.map (·.1)=some l
   ·exact vnz hw
   ·rw [q6e hw,q6e hw];exact hσ l (vym.2 (.inr hl))
  obtain⟨h3,h4⟩:=L.frame _ hv hσ2;rw [←h2,←h4];exact .built ho h1 h3
 | @cloned f args ats k e sz by' g xs S hw ho hc hel hn hby hg =>
  have hf:ρ f=ρ' f:=hρ f (by rw [ho];simp [Op.operands,Call.operands]);have ha:args.toList.map ρ=args.toList.map ρ':=v0w fun x hx=>hρ x (by rw [ho];simp [Op.operands,Call.operands] at hx ⊢;exact .inr hx)
  have hc':qe3 ρ' f args.toList=some (k,[.p (.slc xs)]):=by
   unfold qe3 at hc ⊢;rw [←hf,←ha];exact hc
  exact .cloned S hw ho hc' hel hn hby (by rw [hσ _ (by simp)];exact hg)
 | @ext v u rs h=>exact .ext fun X ρ2 σ2 h1 h2=>h X ρ2 σ2 (fun x hx=>(h1 x hx).trans (hρ x hx).symm) fun l hl=>(h2 l hl).trans (hσ l hl)
structure SRf (C:Cx) (ef:Nat→AV) (σ:Nat→AO) (inj:Inj) (a:Act) (w:World):Prop where
 env:∀t,AR C.X inj σ w (ef t) (a.tmps.getD t undef)
 size:a.tmps.size=C.N
 defers:a.defers=[]
 hr:HR C.X inj σ w
 ev:Ev C.D C.X C.inj0 (qa0 C.H0) C.w0 inj σ w
theorem SR.f {C:Cx} {st:St} {inj:Inj} {a:Act} {w:World} (h:SR C st inj a w):SRf C st.env.get st.sig inj a w:=⟨h.env,h.size,h.defers,h.hr,h.ev⟩
def evf (ef:Nat→AV):Operand→AV
 | .tmp t=>ef t
 | .const v=>ofV v
 | .func f=>.p (.func (.func f) [])
 | .global _=>.any
theorem qu6 (env:Env):evf env.get=ev env:=by funext x;cases x <;> rfl
theorem SRf.eval {C:Cx} {ef:Nat→AV} {σ:Nat→AO} {inj:Inj} {a:Act} {w:World} (h:SRf C ef σ inj a w) (x:Operand):AR C.X inj σ w (evf ef x) (a.eval x):=by
 cases x with
 | tmp t=>exact h.env t
 | const v=>exact qtg v
 | global g=>trivial
 | func f=>exact⟨[],rfl,rfl⟩
def qm1 (ef:Nat→AV) (d:Option Tmp) (v:AV):Nat→AV:=fun t=>if d=some t then v else ef t
theorem SRf.put {C:Cx} {ef:Nat→AV} {σ:Nat→AO} {inj:Inj} {a:Act} {w:World} (h:SRf C ef σ inj a w) {o:Oper} (hd:qbg C.N o=true) {v:AV} {val:Value} {u:Upd} {inj':Inj} {w':World}
  (h1:HR C.X inj' (upd σ u) w') (h2:Ev C.D C.X inj σ w inj' (upd σ u) w') (h3:AR C.X inj' (upd σ u) w' v val) :
  SRf C (qm1 ef o.dst v) (upd σ u) inj' (a.put o.dst val) w':=by
 refine⟨fun t=>?_,?_,?_,h1,h.ev.trans h2⟩
 ·unfold qm1;cases hdst:o.dst with
  | none=>simpa [Act.put] using AR.ev h2 h.hr.xlt _ _ (h.env t)
  | some d =>
   simp only [qbg,hdst,decide_eq_true_eq] at hd;simp only [Act.put,vzs];by_cases ht:d=t
   ·subst ht;rw [if_pos rfl];have:(a.tmps.setIfInBounds d val).getD d undef=val:=by simp [h.size,hd]
    rw [this];exact h3
   ·rw [if_neg ht];have:(a.tmps.setIfInBounds d val).getD t undef=a.tmps.getD t undef:=by simp [vw8 ht]
    rw [this];exact AR.ev h2 h.hr.xlt _ _ (h.env t)
 ·cases hdst:o.dst <;> simp [Act.put,h.size]
 ·cases hdst:o.dst <;> simp [Act.put,h.defers]
theorem Does.sound {C:Cx} {ef:Nat→AV} {σ:Nat→AO} {inj:Inj} {a:Act} {w:World} {o:Oper} {e:Evt} {next:Act→World→Prop} {Q:Exit→Act→World→Prop}
  (h:Does C o (evf ef) σ e) (hs:SRf C ef σ inj a w) (hd:qbg C.N o=true) (hnx:∀a' w' inj',SRf C (qm1 ef o.dst e.v) (upd σ e.u) inj' a' w'→next a' w'):o.wp C.P a w next Q:=by
 cases h with
 | @op v u h =>
  exact q8l C.B o (evf ef) hs.hr (fun x=>hs.eval x) h fun val w' inj' h1 h2 h3=>hnx _ _ _ (hs.put hd h1 h2.weak.weak h3)
 | @call f args ats k avs pargs r hp ho hk hc hv hfl =>
  have hf:=hs.eval f;have hargs:=qnv (fun x=>hs.eval x) args.toList;have hcall:∃vs,(execOp a.eval o).run C.P w=.ok (.enter k vs.toArray) w∧ARs C.X inj σ w avs vs:=by
   obtain⟨dst,op,type,pos,after,guard⟩:=o;simp only at ho;subst ho;unfold qe3 at hc;have run:∀cap:Array Value,a.eval f=.func (.func k) #[] cap→(execOp a.eval ⟨dst,.call ⟨.value f,args,ats⟩,type,pos,after,guard⟩).run C.P w=.ok (.enter k (args.map a.eval++cap)) w:=by
    intro cap he;simp only [execOp,resolve,Deferred.ofValue,he,vzw,vzx,vzu,invoke];rw [hk];simp
   split at hc
   ·rename_i k' cs hev;simp only [vzs,vzt] at hc;obtain⟨rfl,rfl⟩:=hc;rw [hev] at hf;obtain⟨vs,h1,h2⟩:=hf;refine⟨args.toList.map a.eval++vs,?_,hargs.append (qbe.2 h2)⟩;rw [run vs.toArray h1];congr 2;apply vw4;simp
   ·rename_i k' cs hev;simp only [vzs,vzt] at hc;obtain⟨rfl,rfl⟩:=hc;rw [hev] at hf;obtain⟨vs,h1,h2⟩:=hf;refine⟨args.toList.map a.eval++vs,?_,hargs.append h2⟩;rw [run vs.toArray h1];congr 2;apply vw4;simp
   ·rename_i k' bs hev;simp only [vzs,vzt] at hc;obtain⟨rfl,rfl⟩:=hc;rw [hev] at hf;obtain⟨vs,h1,h2⟩:=hf;refine⟨vs++args.toList.map a.eval,?_,(qbe.2 h2).append hargs⟩;simp only [execOp,resolve,Deferred.ofValue,h1,vzw,vzx,vzu,invoke];rw [hk];congr 2;apply vw4;simp
   ·cases hc
  obtain⟨vs,hrun,hars⟩:=hcall;unfold Oper.wp;rw [hrun];simp only [Oper.upon];rcases hfl with hfl | hfl
  ·obtain⟨xs,hxs⟩:=vzp.1 hfl;have hav:=qp3 hxs;subst hav;rw [ql6] at hv;simp only [L.run_ret,vzs] at hv;subst hv;refine (hp (fun b=>C.X b∨F inj σ b) w vs (fun b hb=>hb.elim (hs.hr.xlt b) fun hf=>(hs.hr.flt hf).1) (qmb hs.ev) (qbe.1 hars)).mono ?_;rintro e w' ⟨v,rfl,h1,h2⟩;exact hnx _ _ inj (hs.put (u:=none) hd (hs.hr.fr h2) h2.ev h1)
  ·have hpr:=qd0 (qds hs.hr (fun _=>true) 9) avs vs pargs hars hv;have hpr':PRs C.X w pargs vs:=PRs.keep ⟨vza _,fun _ _ _=>rfl,fun b _ hx hn=>hx (.inl hn)⟩ pargs vs hpr;refine (hp C.X w vs hs.hr.xlt ((qmb hs.ev).keep ⟨vza _,fun _ _ _=>rfl,fun b _ hx hn=>hx (.inl hn)⟩) hpr').mono ?_;rintro e w' ⟨v,rfl,h1,h2⟩;exact hnx _ _ inj (hs.put (u:=none) hd (hs.hr.fr h2) h2.ev (PR.flat r v hfl h1))
 | @built t len parts v u x ho h hv =>
  obtain⟨dst,op,type,pos,after,guard⟩:=o;simp only at ho;subst ho;have hr:(qg6 C.P (qjf C.B ⟨dst,.buildSlice t len parts,type,pos,after,guard⟩) t len (parts.toList.map fun p=>(p.1,evf ef p.2))).run σ=some (v,u):=h;have hp:PartsR C.X inj σ w (parts.toList.map fun p=>(p.1,evf ef p.2)) (parts.map fun p=>(p.1,a.eval p.2)).toList:=by simpa using qrc (fun x=>hs.eval x) parts.toList
  obtain⟨val,w',inj',h1,h2,h3,h4⟩:=qob (P:=C.P) (D:=C.D) hs.hr hp hr;obtain⟨cs,e,h5⟩:=qxi (P:=C.P) hs.hr hp hr;rw [h5] at h1;simp only [Result.ok.injEq] at h1;obtain⟨rfl,rfl⟩:=h1;have hfr:Fr C.D w (w.alloc (.cells cs e)):=Fr.alloc w _ _;have hx0:=qds h2 (fun l=>l == qjf C.B ⟨dst,.buildSlice t len parts,type,pos,after,guard⟩) 9 v _ x h4 hv;have hx:AR C.X inj σ (w.alloc (.cells cs e)) (.p x) (Value.slice (some ⟨w.heap.size,0,none⟩) len len):=by
   refine PR.keep ⟨vza _,fun _ _ _=>rfl,fun b _ hx hn=>hx ?_⟩ x _ hx0;rcases hn with hn | hn
   ·exact .inl hn
   ·refine .inr ?_;obtain⟨l,c,o,g1,g2,g3,g4⟩:=hn;have hw:∃g,σ (qjf C.B ⟨dst,.buildSlice t len parts,type,pos,after,guard⟩)=.dead g∧u.map (·.1)=some (qjf C.B ⟨dst,.buildSlice t len parts,type,pos,after,guard⟩):=by
     unfold qg6 at hr;split at hr
     case h_2=>simp at hr
     split at hr
     case isFalse=>simp at hr
     obtain⟨g,q1,_,q3⟩:=q03 hr;exact⟨g,q1,by rw [q3];rfl⟩
    obtain⟨g,q1,q2⟩:=hw;have hne:l≠qjf C.B ⟨dst,.buildSlice t len parts,type,pos,after,guard⟩:=fun he=>by
     subst he;rw [q1] at g1;subst g1;cases g2
    have hu':upd σ u l=σ l:=q6e (by rw [q2];intro he;exact hne (by simpa using he.symm));have ho:=(h3.objs l).2;rw [hu',g1] at ho;refine⟨l,c,o,by rw [hu',g1],g2,by simpa using hne,?_⟩;rw [(ho g2 rfl).1];exact g4
  have e':(parts.map fun p=>(p.1,a.eval p.2))=(parts.map fun (i,x)=>(i,a.eval x)):=rfl;rw [e'] at h5;have he:execOp a.eval ⟨dst,.buildSlice t len parts,type,pos,after,guard⟩=(do pure (Next.value (←Instr.buildSlice t len (parts.map fun (i,x)=>(i,a.eval x))))):=by
   simp only [execOp]
  exact qoc he h5 (hnx _ _ inj (hs.put (u:=none) hd (hs.hr.fr hfr) hfr.ev hx))
 | @cloned f args ats k e sz by' g xs S hw ho hc hel hn hby hg =>
  have hf:=hs.eval f;have hargs:=qnv (fun x=>hs.eval x) args.toList;obtain⟨avs,havs⟩:∃avs,avs=[AV.p (.slc xs)]:=⟨_,rfl⟩;rw [←havs] at hc;have hnext:=hnx;have hk:HasBody C.P k:=S.body;have hcall:∃vs,(execOp a.eval o).run C.P w=.ok (.enter k vs.toArray) w∧ARs C.X inj σ w avs vs:=by
   obtain⟨dst,op,type,pos,after,guard⟩:=o;simp only at ho;subst ho;unfold qe3 at hc;have run:∀cap:Array Value,a.eval f=.func (.func k) #[] cap→(execOp a.eval ⟨dst,.call ⟨.value f,args,ats⟩,type,pos,after,guard⟩).run C.P w=.ok (.enter k (args.map a.eval++cap)) w:=by
    intro cap he;simp only [execOp,resolve,Deferred.ofValue,he,vzw,vzx,vzu,invoke];rw [hk];simp
   split at hc
   ·rename_i k' cs hev;simp only [vzs,vzt] at hc;obtain⟨rfl,rfl⟩:=hc;rw [hev] at hf;obtain⟨vs,h1,h2⟩:=hf;refine⟨args.toList.map a.eval++vs,?_,hargs.append (qbe.2 h2)⟩;rw [run vs.toArray h1];congr 2;apply vw4;simp
   ·rename_i k' cs hev;simp only [vzs,vzt] at hc;obtain⟨rfl,rfl⟩:=hc;rw [hev] at hf;obtain⟨vs,h1,h2⟩:=hf;refine⟨args.toList.map a.eval++vs,?_,hargs.append h2⟩;rw [run vs.toArray h1];congr 2;apply vw4;simp
   ·rename_i k' bs hev;simp only [vzs,vzt] at hc;obtain⟨rfl,rfl⟩:=hc;rw [hev] at hf;obtain⟨vs,h1,h2⟩:=hf;refine⟨vs++args.toList.map a.eval,?_,(qbe.2 h2).append hargs⟩;simp only [execOp,resolve,Deferred.ofValue,h1,vzw,vzx,vzu,invoke];rw [hk];congr 2;apply vw4;simp
   ·cases hc
  obtain⟨vs,hrun,hars⟩:=hcall;rw [havs] at hars;unfold Oper.wp;rw [hrun];simp only [Oper.upon];obtain⟨v1,r1,rfl,ha1,rfl⟩:=hars;have ha2:PR (fun b=>C.X b∨F inj σ b) w (.slc xs) v1:=ha1;simp only [PR] at ha2;obtain⟨a0,cap,us,rfl,hcap,hus,hat⟩:=ha2;have hus':ARs C.X inj σ w (xs.map AV.p) us:=qbe.2 hus;obtain⟨hsz,hone⟩:=qjp hel hus';have hlen:us.length=xs.length:=by have:=hus'.length;simpa using this.symm
  have hfl:(flat us).length=xs.length * sz:=by rw [qbl hsz,hlen]
  have fin:∀v w',World.ownsRow w' w.heap.size e sz v xs.length (flat us)→RowKit.Below w.heap.size w w'→next (a.put o.dst v) w':=by
   intro v w' hrow hbel;have hfz:∀a:Addr,a.block < w.heap.size→w'.frozen? a=w.frozen? a:=fun a ha=>by unfold World.frozen?;rw [hbel.block _ ha]
   obtain⟨_,hrow⟩:=hrow;rcases hrow with⟨rfl,hz⟩|⟨gb,cp,cur,rfl,hbase,hgb,q1,q2,q3,q4⟩
   ·have hxs:xs=[]:=v0r.1 hz;have hup:=hs.hr.update (D:=C.D) (w':=w') (l:=qjf C.B o) (o:=.dead g) (o':=.arr e sz (g+1) (xs.map AV.p)) (x:=none) hg hbel.os hbel.tape hbel.output (fun hd=>absurd hd hw) hbel.size hfz
     (fun b hb _=>hbel.block b hb) (fun b1 c1 h1=>by cases h1) ⟨by simp [AO.gen],fun _ he=>by simp [AO.gen] at he⟩
    obtain⟨hev,hhr⟩:=hup;refine hnext _ _ _ (hs.put (u:=some (qjf C.B o,.arr e sz (g+1) (xs.map AV.p))) hd (hhr ⟨us,ARs.ev hev hs.hr.xlt _ us hus',hsz,hone,.inl ⟨by simp,by rw [hxs];rfl⟩⟩) hev ?_);refine⟨⟨_,_,_,rfl⟩,fun oo hoo=>?_⟩;have:oo=.arr e sz (g+1) (xs.map AV.p):=by rw [←hoo];exact qc0 _ _ _
    subst this;exact⟨vza _,fun _ e1 sz1 es1 he=>by cases he;exact⟨by simp,.inl ⟨by simp,rfl,rfl,hz⟩⟩⟩
   ·have hup:=hs.hr.update (D:=C.D) (w':=w') (l:=qjf C.B o) (o:=.dead g) (o':=.arr e sz (g+1) (xs.map AV.p)) (x:=some (gb,cp)) hg hbel.os hbel.tape hbel.output (fun hd=>absurd hd hw) hbel.size hfz
     (fun b hb _=>hbel.block b hb) (fun b1 c1 h1=>by cases h1;exact .inl hbase) ⟨by simp [AO.gen],fun _ he=>by simp [AO.gen] at he⟩
    obtain⟨hev,hhr⟩:=hup;have hH:=hhr ⟨us,ARs.ev hev hs.hr.xlt _ us hus',hsz,hone,.inr ⟨gb,cp,cur,by simp,fun hX=>by have:=hs.hr.xlt gb hX;omega,hgb,by simpa using q1,q2,q3,by simpa using q4⟩⟩;refine hnext _ _ _ (hs.put (u:=some (qjf C.B o,.arr e sz (g+1) (xs.map AV.p))) hd hH hev ?_);have hown:vaf (fun q=>if q=qjf C.B o then some (gb,cp) else inj q) (qiq σ (qjf C.B o) (.arr e sz (g+1) (xs.map AV.p))) (qjf C.B o) (g+1) 0 xs.length (.slice (some ⟨gb,0,none⟩) xs.length cp):=qjx (qc0 _ _ _) (if_pos rfl) (by simp) q1;exact hown
  rcases hat with rfl | ⟨b,off,sz',rfl,hsz2,hone2,hrow⟩
  ·have hx0:xs.length=0:=by rw [←hlen];rfl
   cases a0 with
   | none =>
    refine (S.nil _ _ w).mono ?_;rintro e' w' ⟨rfl,rfl⟩;exact fin _ _ (by rw [hx0];exact⟨by simp [flat],.inl ⟨rfl,rfl⟩⟩) (RowKit.Below.refl _ _)
   | some ad =>
    rw [hx0];refine (S.zero ad _ w).mono ?_;rintro e' w' ⟨v,rfl,h1,h2⟩;exact fin _ _ (by rw [hx0];exact h1) h2
  ·obtain⟨_,_,hcell⟩:=hrow;refine (S.ptr b off _ _ (flat us) w hfl hn hby hcell hone).mono ?_;rintro e' w' ⟨v,rfl,h1,h2⟩;exact fin _ _ h1 h2
 | @ext v u rs h=>exact h C.X _ _ (fun _ _=>rfl) (fun _ _=>rfl) hs.hr (qmb hs.ev) (fun x=>hs.eval x) fun val w' inj' h1 h2 h3=>hnx _ _ _ (hs.put hd h1 h2 h3)
def qoe (ops:Array Oper) (ef:Nat→AV) (o:Oper):Option Bool :=
 match o.guard with
 | none=>some true
 | some (j,want)=>match (ops[j]?).bind (·.dst) with
  | some d=>(match ef d with | .p (.bool b)=>some (b == want) | .p (.tup [])=>some false | _=>none)
  | none=>none
theorem qof (ops:Array Oper) (env:Env) (o:Oper):qoe ops env.get o=qau ops env o:=rfl
theorem qjq {C:Cx} {ef:Nat→AV} {σ:Nat→AO} {inj:Inj} {a:Act} {w:World} {ops:Array Oper} {o:Oper} {b:Bool} (h:SRf C ef σ inj a w) (hg:qoe ops ef o=some b) :
  Region.wanted o (yielded ops a.tmps)=b:=by
 unfold qoe at hg;unfold Region.wanted;split at hg
 ·rename_i hgd;simp only [vzs] at hg;subst hg;rw [hgd]
 ·rename_i j want hgd;rw [hgd];split at hg
  ·rename_i d hd;have he:=h.env d;split at hg
   ·rename_i b' hb;simp only [vzs] at hg;subst hg;rw [hb] at he;simp only [AR,PR] at he;have ht:a.tmps[d]?=some (.bool b'):=by
     cases hx:a.tmps[d]? with
     | none=>simp [hx,undef] at he
     | some x=>simp [hx] at he;rw [he]
    simp only [yielded,hd,vzm,ht];cases b' <;> cases want <;> rfl
   ·rename_i hb;simp only [vzs] at hg;subst hg;rw [hb] at he;obtain⟨vs,he,_⟩:=he;have ht:a.tmps[d]?=none∨a.tmps[d]?=some (.tuple vs.toArray):=by
     cases hx:a.tmps[d]? with
     | none=>exact .inl rfl
     | some x=>simp [hx] at he;exact .inr (by rw [he])
    rcases ht with ht | ht <;> simp only [yielded,hd,vzm,ht] <;> cases want <;> rfl
   ·cases hg
  ·cases hg
def q6f (C:Cx) (ops:Array Oper) (o:Oper) (ef:Nat→AV) (σ:Nat→AO) (e:Evt):Prop :=
 qbg C.N o=true∧((qoe ops ef o=some true∧Does C o (evf ef) σ e)∨(qoe ops ef o=some false∧e=⟨.p (.tup []),none,[]⟩))
theorem qog {ops:Array Oper} {o:Oper} {t:Tmp} (h:Operand.tmp t∈o.op.operands):t∈o.looksAt ops:=by
 unfold Oper.looksAt;refine vym.2 (.inl ?_);exact List.mem_filterMap.2 ⟨.tmp t,by simpa using h,rfl⟩
theorem q6f.frame {C:Cx} {ops:Array Oper} {o:Oper} {ef ef':Nat→AV} {σ τ:Nat→AO} {e:Evt} (h:q6f C ops o ef σ e) (hs:∀t∈o.looksAt ops,ef' t=ef t) (hσ:∀l∈e.reads,τ l=σ l) :
  q6f C ops o ef' τ e:=by
 obtain⟨hd,h⟩:=h;have hg:qoe ops ef' o=qoe ops ef o:=by
  unfold qoe;split
  ·rfl
  ·rename_i j want hgd;split
   ·rename_i d hdd;rw [hs d (by unfold Oper.looksAt;refine vym.2 (.inr ?_);rw [hgd];simp [hdd])]
   ·rfl
 refine⟨hd,?_⟩;rw [hg];rcases h with⟨h1,h2⟩ | h
 ·refine .inl ⟨h1,h2.frame (fun x hx=>?_) hσ⟩;cases x with
  | tmp t=>exact (hs t (qog hx)).symm
  | _=>rfl
 ·exact .inr h
def apD (ops:Array Oper):List Evt→Nat→(Nat→Bool)→(Nat→AV)×(Nat→AO)→(Nat→AV)×(Nat→AO)
 | [],_,_,s=>s
 | e :: es,i,D,s=>apD ops es (i+1) D (if D i then (qm1 s.1 ((ops[i]?).bind (·.dst)) e.v,upd s.2 e.u) else s)
def qxj (C:Cx) (ops:Array Oper):List Evt→Nat→(Nat→AV)×(Nat→AO)→Prop
 | [],i,_=>ops.size≤i
 | e :: es,i,s=>(∃o,ops[i]?=some o∧q6f C ops o s.1 s.2 e)∧qxj C ops es (i+1) (qm1 s.1 ((ops[i]?).bind (·.dst)) e.v,upd s.2 e.u)
theorem q1c (ops:Array Oper) (t:Nat):∀(es:List Evt) (i:Nat) (D D':Nat→Bool) (s s':(Nat→AV)×(Nat→AO)),s.1 t=s'.1 t →
  (∀j,i≤j→j < i+es.length→(ops[j]?).bind (·.dst)=some t→D j=D' j)→(apD ops es i D s).1 t=(apD ops es i D' s').1 t
 | [],_,_,_,_,_,h,_=>h
 | e :: es,i,D,D',s,s',h,hD=>by
  simp only [apD];refine q1c ops t es (i+1) D D' _ _ ?_ fun j h1 h2 h3=>hD j (by omega) (by simp only [v0q];omega) h3
  by_cases hd:(ops[i]?).bind (·.dst)=some t
  ·rw [hD i (vza _) (by simp) hd];split
   ·simp [qm1,hd]
   ·exact h
  ·split <;> split <;> simp [qm1,hd,h]
theorem qz8 {σ:Nat→AO} {u:Upd} {l:Nat} (h:u.map (·.1)≠some l):upd σ u l=σ l:=by
 cases u with
 | none=>rfl
 | some p=>simp only [upd,qiq];rw [if_neg (fun e=>h (by simp [e]))]
theorem vd2 {σ τ:Nat→AO} {u:Upd} {l:Nat} (h:u.map (·.1)=some l):upd σ u l=upd τ u l:=by
 cases u with
 | none=>cases h
 | some p=>simp only [vzr,vzs] at h;simp [upd,qiq,h]
theorem q6g (ops:Array Oper) (l:Nat):∀(es:List Evt) (i:Nat) (D D':Nat→Bool) (s s':(Nat→AV)×(Nat→AO)),s.2 l=s'.2 l →
  (∀j e,i≤j→es[j - i]?=some e→e.wr=some l→D j=D' j)→(apD ops es i D s).2 l=(apD ops es i D' s').2 l
 | [],_,_,_,_,_,h,_=>h
 | e :: es,i,D,D',s,s',h,hD=>by
  simp only [apD];refine q6g ops l es (i+1) D D' _ _ ?_ fun j e' h1 h2 h3=>hD j e' (by omega) (by rw [show j - i=(j - (i+1))+1 by omega];simpa using h2) h3
  by_cases hd:e.wr=some l
  ·rw [hD i e (vza _) (by simp) hd];split
   ·exact vd2 hd
   ·exact h
  ·have hd':e.u.map (·.1)≠some l:=hd;split <;> split <;> simp only [qz8 hd',h]
theorem q1d (ops:Array Oper) (i:Nat) (ei:Evt):∀(es:List Evt) (k:Nat) (D:Nat→Bool) (s:(Nat→AV)×(Nat→AO)),k≤i→es[i - k]?=some ei→D i=false →
  (∀j e,i < j→es[j - k]?=some e→D j=true→((ops[j]?).bind (·.dst)=none∨(ops[j]?).bind (·.dst)≠(ops[i]?).bind (·.dst))∧(e.wr=none∨e.wr≠ei.wr)) →
  apD ops es k (fun j=>j == i || D j) s=(qm1 (apD ops es k D s).1 ((ops[i]?).bind (·.dst)) ei.v,upd (apD ops es k D s).2 ei.u)
 | [],k,D,s,_,h,_,_=>by simp at h
 | e :: es,k,D,s,hk,h,hi,hj=>by
  by_cases hki:k=i
  ·subst hki;simp only [v1k,v0m,vzs] at h;subst h;simp only [apD,beq_self_eq_true,Bool.true_or,if_true,hi,vxj,if_false]
   -- the rest commutes
   have comm:∀(es':List Evt) (m:Nat) (D1 D2:Nat→Bool) (s:(Nat→AV)×(Nat→AO)),(∀j,m≤j→D1 j=D2 j) →
     (∀j e',m≤j→es'[j - m]?=some e'→D2 j=true→((ops[j]?).bind (·.dst)=none∨(ops[j]?).bind (·.dst)≠(ops[k]?).bind (·.dst))∧(e'.wr=none∨e'.wr≠e.wr)) →
     apD ops es' m D1 (qm1 s.1 ((ops[k]?).bind (·.dst)) e.v,upd s.2 e.u)=(qm1 (apD ops es' m D2 s).1 ((ops[k]?).bind (·.dst)) e.v,upd (apD ops es' m D2 s).2 e.u):=by
    intro es'
    induction es' with
    | nil=>intro m D1 D2 s _ _;rfl
    | cons e' es' ih =>
     intro m D1 D2 s hD hw;simp only [apD,hD m (vza _)];cases hm:D2 m with
     | false =>
      simp only [vxj,if_false];exact ih (m+1) D1 D2 s (fun j hj=>hD j (by omega)) fun j e1 h1 h2 h3=>hw j e1 (by omega) (by rw [show j - m=(j - (m+1))+1 by omega];simpa using h2) h3
     | true =>
      simp only [if_true];obtain⟨w1,w2⟩:=hw m e' (vza _) (by simp) hm;have e1:qm1 (qm1 s.1 ((ops[k]?).bind (·.dst)) e.v) ((ops[m]?).bind (·.dst)) e'.v=qm1 (qm1 s.1 ((ops[m]?).bind (·.dst)) e'.v) ((ops[k]?).bind (·.dst)) e.v:=by
       funext t;simp only [qm1];by_cases c1:(ops[m]?).bind (·.dst)=some t
       ·by_cases c2:(ops[k]?).bind (·.dst)=some t
        ·rcases w1 with w1 | w1
         ·rw [c1] at w1;cases w1
         ·rw [c1,c2] at w1;exact (w1 rfl).elim
        ·simp [c1,c2]
       ·simp [c1]
      have e2:upd (upd s.2 e.u) e'.u=upd (upd s.2 e'.u) e.u:=by
       funext l;by_cases c1:e'.wr=some l
       ·by_cases c2:e.wr=some l
        ·rcases w2 with w2 | w2
         ·rw [c1] at w2;cases w2
         ·rw [c1,c2] at w2;exact (w2 rfl).elim
        ·have c2':e.u.map (·.1)≠some l:=c2;rw [qz8 (σ:=upd s.2 e'.u) c2'];exact vd2 c1
       ·have c1':e'.u.map (·.1)≠some l:=c1;rw [qz8 (σ:=upd s.2 e.u) c1'];by_cases c2:e.wr=some l
        ·exact vd2 c2
        ·have c2':e.u.map (·.1)≠some l:=c2;rw [qz8 c2',qz8 c2',qz8 c1']
      rw [e1,e2];exact ih (m+1) D1 D2 (qm1 s.1 ((ops[m]?).bind (·.dst)) e'.v,upd s.2 e'.u) (fun j hj=>hD j (by omega)) fun j e1 h1 h2 h3=>hw j e1 (by omega) (by rw [show j - m=(j - (m+1))+1 by omega];simpa using h2) h3
   exact comm es (k+1) _ D s (fun j hj=>by have:(j == k)=false:=(by simp;omega);simp [this]) fun j e' h1 h2 h3=>hj j e' (by omega) (by rw [show j - k=(j - (k+1))+1 by omega];simpa using h2) h3
  ·have hb:(k == i)=false:=by simpa using hki
   simp only [apD,hb,Bool.false_or];exact q1d ops i ei es (k+1) D _ (by omega) (by rw [show i - k=(i - (k+1))+1 by omega] at h;simpa using h) hi fun j e' h1 h2 h3=>hj j e' h1 (by rw [show j - k=(j - (k+1))+1 by omega];simpa using h2) h3
def qdt (ops:Array Oper) (j:Nat):List Nat :=
 match ops[j]? with
 | some o=>(o.after.toList.filter (Region.binds .any)).map (·.on)
 | none=>[]
def ancM (A:Nat) (l:List Nat):Nat:=l.foldl (fun m p=>m ||| ((1 <<< p) ||| (A >>> (256 * p)))) 0
def q8p (ops:Array Oper):Nat→Nat
 | 0=>0
 | k+1=>q8p ops k ||| ((ancM (q8p ops k) (qdt ops k) % 2 ^ 256) <<< (256 * k))
def qzc (A j i:Nat):Bool:=decide (i < 256) && A.testBit (256 * j+i)
inductive Reach (ops:Array Oper):Nat→Nat→Prop
 | one {j i} (h:i∈qdt ops j):Reach ops j i
 | more {j m i} (h:m∈qdt ops j) (h2:Reach ops m i):Reach ops j i
theorem q8q (A i:Nat):∀(l:List Nat) (m:Nat),(l.foldl (fun m p=>m ||| ((1 <<< p) ||| (A >>> (256 * p)))) m).testBit i=true→m.testBit i=true∨∃p∈l,p=i∨A.testBit (256 * p+i)=true
 | [],m,h=>.inl h
 | p :: l,m,h=>by
  rw [List.foldl_cons] at h;rcases q8q A i l _ h with h | ⟨q,h1,h2⟩
  ·simp only [Nat.testBit_or,v1l,Nat.testBit_shiftRight,vxm,vxh,decide_eq_true_eq] at h;rcases h with h | ⟨h1,h2⟩ | h
   ·exact .inl h
   ·refine .inr ⟨p,by simp,.inl ?_⟩;have:i - p=0:=by
     apply Classical.byContradiction;intro hn;have hz:Nat.testBit 1 (i - p)=false:=Nat.testBit_lt_two_pow (Nat.one_lt_two_pow hn);rw [hz] at h2;cases h2
    omega
   ·exact .inr ⟨p,by simp,.inr h⟩
  ·exact .inr ⟨q,by simp [h1],h2⟩
theorem qu7 (ops:Array Oper):∀(k j i:Nat),i < 256→(q8p ops k).testBit (256 * j+i)=true→Reach ops j i
 | 0,j,i,_,h=>by simp [q8p] at h
 | k+1,j,i,hi,h=>by
  simp only [q8p,Nat.testBit_or,v1l,Nat.testBit_mod_two_pow,vxm,vxh,decide_eq_true_eq] at h;rcases h with h | ⟨h1,h2,h3⟩
  ·exact qu7 ops k j i hi h
  ·have hjk:j=k:=by omega
   subst hjk;rw [show 256 * j+i - 256 * j=i by omega] at h3;rcases q8q _ i _ 0 h3 with h | ⟨p,q1,q2⟩
   ·simp at h
   ·rcases q2 with rfl | q2
    ·exact .one q1
    ·exact .more q1 (qu7 ops j p i hi q2)
theorem qmc {ops:Array Oper} {k j i:Nat} (h:qzc (q8p ops k) j i=true):Reach ops j i:=by
 simp only [qzc,vxh,decide_eq_true_eq] at h;exact qu7 ops k j i h.1 h.2
def qz9 (ops:Array Oper) (D:Nat→Bool):Prop:=∀j,D j=true→∀i∈qdt ops j,D i=true
theorem Reach.closed {ops:Array Oper} {D:Nat→Bool} (hc:qz9 ops D) {j i:Nat} (h:Reach ops j i):D j=true→D i=true:=by
 induction h with
 | one h=>exact fun hj=>hc _ hj _ h
 | more h _ ih=>exact fun hj=>ih (hc _ hj _ h)
theorem Reach.ready {ops:Array Oper} {D:Nat→Bool} (hc:qz9 ops D) {j i:Nat} (hp:∀i∈qdt ops j,D i=true) (h:Reach ops j i):D i=true:=by
 cases h with
 | one h=>exact hp _ h
 | more h h2=>exact h2.closed hc (hp _ h)
def qh2 (ops:Array Oper):Bool :=
  let A:=q8p ops ops.size
  (vyu ops.size).all fun j=>(qdt ops j).all (fun m=>decide (m < j)) && (vyu j).all fun i=>qzc A j i ||
    (match ops[i]?,ops[j]? with
     | some x,some y=>x.apart ops y
     | _,_=>true)
def evOk (x y:Evt):Prop:=(∀l,x.wr=some l→l ∉ y.reads∧y.wr≠some l)∧(∀l,y.wr=some l→l ∉ x.reads)
def vbd (x y:Evt):Bool :=
  (match x.wr with
   | some l=>!y.reads.contains l && y.wr != some l
   | none=>true) && (match y.wr with
   | some l=>!x.reads.contains l
   | none=>true)
theorem vbe {x y:Evt} (h:vbd x y=true):evOk x y:=by
 constructor
 ·intro l hl;simp [vbd,hl] at h;exact h.1
 ·intro l hl;simp [vbd,hl] at h;exact h.2
def qu8 (ops:Array Oper) (es:List Evt):Bool :=
  let A:=q8p ops ops.size
  (vyu ops.size).all fun j=>(vyu j).all fun i=>qzc A j i ||
    (match es[i]?,es[j]? with
     | some x,some y=>vbd x y
     | _,_=>true)
theorem qfx {ops:Array Oper} (h:qh2 ops=true) {i j:Nat} {x y:Oper} (hij:i < j) (hx:ops[i]?=some x) (hy:ops[j]?=some y):Reach ops j i∨x.apart ops y=true:=by
 have hj:=(vw6.1 hy).1;simp only [qh2,v0e,v08,vxh,vxm] at h;rcases (h j hj).2 i hij with h | h
 ·exact .inl (qmc h)
 ·rw [hx,hy] at h;exact .inr h
theorem qjz {ops:Array Oper} (h:qh2 ops=true) {j:Nat} (hj:j < ops.size):∀m∈qdt ops j,m < j:=by
 simp only [qh2,v0e,v08,vxh,vxm,decide_eq_true_eq] at h;exact (h j hj).1
theorem ql3 {ops:Array Oper} {es:List Evt} (h:qu8 ops es=true) {i j:Nat} {x y:Evt} (hij:i < j) (hj:j < ops.size) (hx:es[i]?=some x) (hy:es[j]?=some y):Reach ops j i∨evOk x y:=by
 simp only [qu8,v0e,v08,vxm] at h;rcases h j hj i hij with h | h
 ·exact .inl (qmc h)
 ·rw [hx,hy] at h;exact .inr (vbe h)
theorem qxj.at {C:Cx} {ops:Array Oper}:∀{es:List Evt} {i:Nat} {s:(Nat→AV)×(Nat→AO)},qxj C ops es i s→∀j e,i≤j→es[j - i]?=some e →
  ∃o,ops[j]?=some o∧q6f C ops o (apD ops es i (fun m=>decide (m < j)) s).1 (apD ops es i (fun m=>decide (m < j)) s).2 e
 | [],i,s,h,j,e,hj,he=>by simp at he
 | e0 :: es,i,s,h,j,e,hj,he=>by
  obtain⟨⟨o,ho,hst⟩,hrest⟩:=h;have skip:∀(es':List Evt) (m:Nat) (s':(Nat→AV)×(Nat→AO)),j≤m→apD ops es' m (fun m=>decide (m < j)) s'=s':=by
   intro es'
   induction es' with
   | nil=>intro m s' _;rfl
   | cons x xs ih=>intro m s' hm;simp only [apD];rw [if_neg (by simp;omega)];exact ih (m+1) s' (by omega)
  by_cases hji:j=i
  ·subst hji;simp only [v1k,v0m,vzs] at he;subst he;rw [skip _ _ _ (vza _)];exact⟨o,ho,hst⟩
  ·have hlt:i < j:=by omega
   have:=qxj.at hrest j e (by omega) (by rw [show j - i=(j - (i+1))+1 by omega] at he;simpa using he);simp only [apD];rw [if_pos (by simpa using hlt)];exact this
theorem qxj.len {C:Cx} {ops:Array Oper}:∀{es:List Evt} {i:Nat} {s:(Nat→AV)×(Nat→AO)},qxj C ops es i s→i≤ops.size→i+es.length=ops.size
 | [],i,s,h,hi=>by simp only [qxj] at h;simp only [vyf];omega
 | e0 :: es,i,s,h,hi=>by
  obtain⟨⟨o,ho,hst⟩,hrest⟩:=h;have:=qxj.len hrest (vw6.1 ho).1;simp only [v0q];omega
theorem qso (ops:Array Oper):∀(es:List Evt) (i:Nat) (D D':Nat→Bool) (s:(Nat→AV)×(Nat→AO)),(∀j,i≤j→j < i+es.length→D j=D' j)→apD ops es i D s=apD ops es i D' s
 | [],_,_,_,_,_=>rfl
 | e :: es,i,D,D',s,h=>by
  simp only [apD];rw [h i (vza _) (by simp)];exact qso ops es (i+1) D D' _ fun j h1 h2=>h j (by omega) (by simp only [v0q];omega)
theorem vh6 {C:Cx} {ops:Array Oper} {es:List Evt} {s0:(Nat→AV)×(Nat→AO)} {Q:Exit→Act→World→Prop} (hch:qxj C ops es 0 s0) (hsl:qh2 ops=true) (hev:qu8 ops es=true)
  (hQ:∀a w inj,SRf C (apD ops es 0 (fun _=>true) s0).1 (apD ops es 0 (fun _=>true) s0).2 inj a w→Q .normal a w) :
  ∀(fuel:Nat) (listed:Array Bool) (a:Act) (w:World) (inj:Inj),listed.size=ops.size→qz9 ops (fun j=>listed.getD j false)→(listed.toList.filter (! ·)).length≤fuel →
   SRf C (apD ops es 0 (fun j=>listed.getD j false) s0).1 (apD ops es 0 (fun j=>listed.getD j false) s0).2 inj a w→wpAny C.P .any ops Q fuel listed a w:=by
 have hlen:es.length=ops.size:=by have:=hch.len (v1m _);omega
 -- nothing ready means all is listed
 have done:∀(listed:Array Bool) (a:Act) (w:World) (inj:Inj),listed.size=ops.size→Region.ready .any ops listed=[] →
   SRf C (apD ops es 0 (fun j=>listed.getD j false) s0).1 (apD ops es 0 (fun j=>listed.getD j false) s0).2 inj a w→Q .normal a w:=by
  intro listed a w inj hsz hr hs;have all:∀j,j < ops.size→listed.getD j false=true:=by
   intro j
   induction j using v1j with
   | _ j ih =>
    intro hj;by_cases hl:listed.getD j false=true
    ·exact hl
    ·have:j∈Region.ready .any ops listed:=by
      refine mem_ready.2 ⟨getD_in (by omega) (by simpa using hl),ops[j],by simp [hj],fun e he hb=>?_⟩;have hp:e.on∈qdt ops j:=by
       unfold qdt;simp only [hj,getElem?_pos];exact v06.2 ⟨e,v05.2 ⟨by simpa using he,hb⟩,rfl⟩
      have hlt:=qjz hsl hj _ hp;exact ih _ hlt (by omega)
     rw [hr] at this;cases this
  rw [qso ops es 0 _ (fun _=>true) s0 fun j _ h2=>all j (by omega)] at hs;exact hQ a w inj hs
 intro fuel
 induction fuel with
 | zero =>
  intro listed a w inj hsz hcl hf hs;have hr:Region.ready .any ops listed=[]:=by
   cases hrd:Region.ready .any ops listed with
   | nil=>rfl
   | cons i _ =>
    exfalso;have hi:i∈Region.ready .any ops listed:=by rw [hrd];exact v04
    obtain⟨h0,o,ho,_⟩:=mem_ready.1 hi;have hlt:=(vw6.1 ho).1;have hm:listed[i]'(by omega)∈listed.toList:=by simp
    have h0':listed[i]'(by omega)=false:=by simpa [show i < listed.size by omega] using h0
    have:listed[i]'(by omega)∈listed.toList.filter (! ·):=v05.2 ⟨hm,by rw [h0'];rfl⟩;have:0 < (listed.toList.filter (! ·)).length:=v0t this;omega
  exact⟨hr,done listed a w inj hsz hr hs⟩
 | succ fuel ih =>
  intro listed a w inj hsz hcl hf hs;refine⟨fun hr=>done listed a w inj hsz hr hs,fun i hi=>?_⟩;obtain⟨h0,o,ho,hpre⟩:=mem_ready.1 hi;have hlt:=(vw6.1 ho).1;have hoi:ops[i]=o:=(vw6.1 ho).2;have h0f:listed.getD i false=false:=getD_both h0;have hpre':∀m∈qdt ops i,listed.getD m false=true:=by
   intro m hm;unfold qdt at hm;rw [ho] at hm;obtain⟨e,he,rfl⟩:=v06.1 hm;obtain⟨he1,he2⟩:=v05.1 he;exact hpre e (by simpa using he1) he2
  obtain⟨e,he⟩:∃e,es[i]?=some e:=⟨es[i],by simp [hlen,hlt]⟩;obtain⟨o',ho',hst⟩:=hch.at i e (v1m _) (by simpa using he);have:o'=o:=v1p (ho'.symm.trans ho);subst this
  -- which are listed,compared with the text's order
  have cmpSlot:∀t∈o'.looksAt ops,(apD ops es 0 (fun j=>listed.getD j false) s0).1 t=(apD ops es 0 (fun m=>decide (m < i)) s0).1 t:=by
   intro t ht;refine q1c ops t es 0 _ _ s0 s0 rfl fun j _ hj hd=>?_
   obtain⟨oj,hoj⟩:∃oj,ops[j]?=some oj:=⟨ops[j]'(by omega),by simp [show j < ops.size by omega]⟩;rw [hoj] at hd;simp only [vzm] at hd;rcases v1g j i with hji | hji | hji
   ·simp only [hji,decide_true];rcases qfx hsl hji hoj ho with hr | hr
    ·exact hr.ready (D:=fun j=>listed.getD j false) hcl hpre'
    ·exact absurd ht ((Oper.apart_spec hr).1 t hd)
   ·subst hji;simpa using h0f
   ·have:decide (j < i)=false:=by simp;omega
    rw [this];rcases qfx hsl hji ho hoj with hr | hr
    ·by_cases hl:listed.getD j false=true
     ·have:=hr.closed (D:=fun j=>listed.getD j false) hcl hl;simp only [h0f] at this;cases this
     ·simpa using hl
    ·exact absurd ht ((Oper.apart_spec hr).2.2 t hd)
  have cmpLoc:∀l∈e.reads,(apD ops es 0 (fun j=>listed.getD j false) s0).2 l=(apD ops es 0 (fun m=>decide (m < i)) s0).2 l:=by
   intro l hl;refine q6g ops l es 0 _ _ s0 s0 rfl fun j ej _ hej hw=>?_
   simp only [vzk] at hej;have hjn:j < ops.size:=by have:=(vx6.1 hej).1;omega
   rcases v1g j i with hji | hji | hji
   ·simp only [hji,decide_true];rcases ql3 hev hji hlt hej he with hr | hr
    ·exact hr.ready (D:=fun j=>listed.getD j false) hcl hpre'
    ·exact absurd hl (hr.1 l hw).1
   ·subst hji;simpa using h0f
   ·have:decide (j < i)=false:=by simp;omega
    rw [this];rcases ql3 hev hji hjn he hej with hr | hr
    ·by_cases hl':listed.getD j false=true
     ·have:=hr.closed (D:=fun j=>listed.getD j false) hcl hl';simp only [h0f] at this;cases this
     ·simpa using hl'
    ·exact absurd hl (hr.2 l hw)
  have hst':=hst.frame cmpSlot cmpLoc;obtain⟨hdst,hst'⟩:=hst';have hjoin:=q1d ops i e es 0 (fun j=>listed.getD j false) s0 (v1m _) (by simpa using he) h0f (by
   intro j ej hij hej hD;simp only [vzk] at hej;have hjn:j < ops.size:=by have:=(vx6.1 hej).1;omega
   obtain⟨oj,hoj⟩:∃oj,ops[j]?=some oj:=⟨ops[j]'(by omega),by simp [show j < ops.size by omega]⟩;have nr:¬Reach ops j i:=fun hr=>by
    have:=hr.closed (D:=fun j=>listed.getD j false) hcl hD;simp only [h0f] at this;cases this
   constructor
   ·rcases qfx hsl hij ho hoj with hr | hr
    ·exact (nr hr).elim
    ·rw [hoj,ho];simp only [vzm];cases hd:oj.dst with
     | none=>exact .inl rfl
     | some d =>
      refine .inr fun hh=>?_
      exact (Oper.apart_spec hr).2.1 d hh.symm hd
   ·rcases ql3 hev hij hjn he hej with hr | hr
    ·exact (nr hr).elim
    ·cases hw:ej.wr with
     | none=>exact .inl rfl
     | some l =>
      refine .inr fun hh=>?_
      exact (hr.1 l hh.symm).2 hw)
  have hD':apD ops es 0 (fun j=>(listed.setIfInBounds i true).getD j false) s0=apD ops es 0 (fun j=>j == i || listed.getD j false) s0:=by
   refine qso ops es 0 _ _ s0 fun j _ hj=>?_
   by_cases hji:i=j
   ·subst hji;simp [hsz,hlt]
   ·rw [getD_set_ne false hji];have:(j == i)=false:=by simp;omega
    simp [this]
  have next:∀a' w' inj',SRf C (qm1 (apD ops es 0 (fun j=>listed.getD j false) s0).1 o'.dst e.v) (upd (apD ops es 0 (fun j=>listed.getD j false) s0).2 e.u) inj' a' w' →
    wpAny C.P .any ops Q fuel (listed.setIfInBounds i true) a' w':=by
   intro a' w' inj' hs';refine ih (listed.setIfInBounds i true) a' w' inj' (by simp [hsz]) ?_ ?_ ?_
   ·intro j hj m hm;by_cases hji:i=j
    ·subst hji;exact getD_set_true (hpre' m hm)
    ·have hj':(listed.setIfInBounds i true).getD j false=true:=hj;rw [getD_set_ne false hji] at hj';exact getD_set_true (hcl j hj' m hm)
   ·have hli:listed[i]?=some false:=by
     have:i < listed.size:=by omega
     simp [this] at h0f ⊢;exact h0f
    have key:∀(l:List Bool) (i:Nat),l[i]?=some false→((l.set i true).filter (! ·)).length+1=(l.filter (! ·)).length:=by
     intro l
     induction l with
     | nil=>intro i h;simp at h
     | cons b l ihl =>
      intro i h;cases i with
      | zero=>simp at h;subst h;simp
      | succ i =>
       simp only [v0l] at h;have:=ihl i h;cases b <;> simp [this] <;> omega
    have:=key listed.toList i (by simpa using hli);rw [vz3];omega
   ·rw [hD',hjoin,ho];exact hs'
  unfold wpOp;rw [ho];simp only;rcases hst' with⟨hg,hdo⟩|⟨hg,rfl⟩
  ·rw [qjq hs hg];simp only [if_true];exact .inl (hdo.sound hs hdst next)
  ·rw [qjq hs hg];simp only [vxj,if_false];exact next _ _ inj (hs.put (u:=none) hdst hs.hr (Ev.refl _ _ _ _) ⟨[],rfl,rfl⟩)
def qto {α β:Type} (f:α→L β) (σ:Nat→AO):Option α→List Nat
 | some a=>(f a).reads σ
 | none=>[]
theorem qzd {α β:Type} (f:α→L β) (σ:Nat→AO) (a:α):qto f σ (some a)=(f a).reads σ:=rfl
theorem qze {α β:Type} (f:α→L β) (σ:Nat→AO):qto f σ none=[]:=rfl
theorem L.reads_ret {α:Type} (a:α) (σ):(L.ret a).reads σ=[]:=rfl
theorem L.reads_fail {α:Type} (σ):(L.fail:L α).reads σ=[]:=rfl
theorem L.reads_look {α:Type} (l k σ):(L.look l k:L α).reads σ=l :: (k (σ l)).reads σ:=rfl
theorem L.reads_bind {α β:Type} (m:L α) (f:α→L β) (σ):(m.bind f).reads σ=m.reads σ++qto f σ (m.run σ):=by
 induction m with
 | ret a=>rfl
 | look l k ih=>simp only [L.bind,L.reads,L.run,ih (σ l),v0h]
 | fail=>rfl
theorem L.reads_ofOpt {α:Type} (o:Option α) (σ):(L.ofOpt o).reads σ=[]:=by cases o <;> rfl
theorem q3g (m:L AV) (σ):(qbp m).reads σ=m.reads σ:=by
 unfold qbp;rw [L.reads_bind];cases m.run σ <;> simp [qto,L.reads]
variable {C:Cx} {Q:Exit→St→Prop}
inductive DCh (C:Cx) (ops:Array Oper):List Oper→St→List Evt→St→Prop
 | nil {st}:DCh C ops [] st [] st
 | cons {o rest st e es st'} (hd:qbg C.N o=true) (h:(qau ops st.env o=some true∧Does C o (ev st.env) st.sig e)∨(qau ops st.env o=some false∧e=⟨.p (.tup []),none,[]⟩))
   (hr:DCh C ops rest ⟨qdh st.env o.dst e.v,qp1 st.heap e.u⟩ es st'):DCh C ops (o :: rest) st (e :: es) st'
theorem qlr (env:Env) (d:Option Tmp) (v:AV):Env.get (qdh env d v)=qm1 env.get d v:=by
 funext t;cases d with
 | none=>simp [qdh,qm1]
 | some d=>simp [qdh,qm1,Env.get]
theorem DCh.chain {ops:Array Oper} {l:List Oper} {st:St} {es:List Evt} {st':St} (h:DCh C ops l st es st'):∀i,(∀j,ops[i+j]?=l[j]?) →
  qxj C ops es i (st.env.get,st.sig)∧apD ops es i (fun _=>true) (st.env.get,st.sig)=(st'.env.get,st'.sig):=by
 induction h with
 | nil =>
  intro i hi;refine⟨?_,rfl⟩;have:=hi 0;simp only [vy6,v0n] at this;simp only [qxj];exact Array.getElem?_eq_none_iff.1 this
 | @cons o rest st e es st' hd h hr ih =>
  intro i hi;have h0:ops[i]?=some o:=by have:=hi 0;simpa using this
  obtain⟨h1,h2⟩:=ih (i+1) (fun j=>by have:=hi (j+1);rw [show i+1+j=i+(j+1) by omega,this];simp);have e1:((qm1 st.env.get ((ops[i]?).bind (·.dst)) e.v,upd st.sig e.u):(Nat→AV)×(Nat→AO))=((⟨qdh st.env o.dst e.v,qp1 st.heap e.u⟩:St).env.get,(⟨qdh st.env o.dst e.v,qp1 st.heap e.u⟩:St).sig):=by
   rw [h0];simp only [vzm,qlr,St.sig,qp8]
  refine⟨⟨⟨o,h0,hd,?_⟩,?_⟩,?_⟩
  ·rw [qu6,qof];exact h
  ·rw [e1];exact h1
  ·simp only [apD,if_true];rw [e1];exact h2
theorem vd3 {id:Nat} {l:List Oper} {st st':St} {es:List Evt} (hm:C.P.follows .mixedOrders=true) (hch:DCh C l.toArray l st es st') (hsl:qh2 l.toArray=true) (hev:qu8 l.toArray es=true)
  (h:Q .normal st'):AWp C (.region id l.toArray true) Q st:=by
 intro inj a w hs;obtain⟨h1,h2⟩:=hch.chain 0 (fun j=>by simp);refine wp_region_any hm ?_;have hf:Fr C.D w { w with drawn:=w.drawn+1 }:=⟨rfl,rfl,rfl,fun _=>vzb _,vza _,fun _ _=>rfl,fun _ _=>rfl⟩;have hE:Ev C.D C.X inj st.sig w inj st.sig { w with drawn:=w.drawn+1 }:=hf.ev;refine vh6 h1 hsl hev ?_ _ _ _ _ inj (by simp) ?_ ?_ ?_
 ·intro a' w' inj' hs';rw [h2] at hs';exact⟨st',inj',⟨hs'.env,hs'.size,hs'.defers,hs'.hr,hs'.ev⟩,h⟩
 ·intro j hj;simp only [getD_replicate_false] at hj;cases hj
 ·refine vzc (v0s _ _) (by simp)
 ·rw [qso l.toArray es 0 _ (fun _=>false) _ fun j _ _=>getD_replicate_false _ _];have hnone:∀(es:List Evt) (i:Nat) (s:(Nat→AV)×(Nat→AO)),apD l.toArray es i (fun _=>false) s=s:=by
   intro es
   induction es with
   | nil=>intro i s;rfl
   | cons e es ih=>intro i s;simp only [apD,vxj,if_false];exact ih (i+1) s
  rw [hnone];exact⟨fun t=>AR.ev hE hs.hr.xlt _ _ (hs.env t),hs.size,hs.defers,hs.hr.fr hf,hs.ev.trans hE⟩
def qxk (m:L (AV×Upd)) (σ:Nat→AO):Option Bool→List Nat
 | some true=>m.reads σ
 | _=>[]
theorem q3h (m:L (AV×Upd)) (σ):qxk m σ (some true)=m.reads σ:=rfl
theorem q1e (m:L (AV×Upd)) (σ):qxk m σ (some false)=[]:=rfl
def qk6 (P:Program) (N B:Nat) (ops:Array Oper):List Oper→St→List Evt→List Evt×St×List Oper
 | [],st,acc=>(acc,st,[])
 | o :: rest,st,acc =>
  match go1 P N B ops o st with
  | .on v u=>qk6 P N B ops rest ⟨qdh st.env o.dst v,qp1 st.heap u⟩ (⟨v,u,qxk (aop P B (ev st.env) o) st.sig (qau ops st.env o)⟩ :: acc)
  | .stop=>(acc,st,o :: rest)
def q0a (P:Program) (N B:Nat) (ops:Array Oper) (o:Oper) (rest:List Oper) (st:St) (acc:List Evt):Go1→List Evt×St×List Oper
 | .on v u=>qk6 P N B ops rest ⟨qdh st.env o.dst v,qp1 st.heap u⟩ (⟨v,u,qxk (aop P B (ev st.env) o) st.sig (qau ops st.env o)⟩ :: acc)
 | .stop=>(acc,st,o :: rest)
theorem q6h (P:Program) (N B:Nat) (ops:Array Oper) (st:St) (acc:List Evt):qk6 P N B ops [] st acc=(acc,st,[]):=rfl
theorem qqe (P:Program) (N B:Nat) (ops:Array Oper) (o:Oper) (rest:List Oper) (st:St) (acc:List Evt):qk6 P N B ops (o :: rest) st acc=q0a P N B ops o rest st acc (go1 P N B ops o st):=by
 simp only [qk6,q0a]
theorem qxl (P:Program) (N B:Nat) (ops:Array Oper) (o:Oper) (rest:List Oper) (st:St) (acc:List Evt) (v:AV) (u:Upd):q0a P N B ops o rest st acc (.on v u) =
  qk6 P N B ops rest ⟨qdh st.env o.dst v,qp1 st.heap u⟩ (⟨v,u,qxk (aop P B (ev st.env) o) (qa0 st.heap) (qau ops st.env o)⟩ :: acc):=rfl
theorem q6i (P:Program) (N B:Nat) (ops:Array Oper) (o:Oper) (rest:List Oper) (st:St) (acc:List Evt):q0a P N B ops o rest st acc .stop=(acc,st,o :: rest):=rfl
def DGo (C:Cx) (ops:Array Oper) (l:List Oper) (st:St) (acc:List Evt) (K:List Evt→St→Prop):Prop :=
 ∃es st',DCh C ops l st es st'∧K (acc.reverse++es) st'
theorem DGo.one {ops:Array Oper} {o:Oper} {rest:List Oper} {st:St} {acc:List Evt} {K:List Evt→St→Prop} {e:Evt} (hd:qbg C.N o=true)
  (h:(qau ops st.env o=some true∧Does C o (ev st.env) st.sig e)∨(qau ops st.env o=some false∧e=⟨.p (.tup []),none,[]⟩))
  (hr:DGo C ops rest ⟨qdh st.env o.dst e.v,qp1 st.heap e.u⟩ (e :: acc) K):DGo C ops (o :: rest) st acc K:=by
 obtain⟨es,st',h1,h2⟩:=hr;refine⟨e :: es,st',.cons hd h h1,?_⟩;simpa using h2
theorem DGo.run {ops:Array Oper} {K:List Evt→St→Prop}:∀(l:List Oper) (st:St) (acc:List Evt) {acc':List Evt} {st':St} {l':List Oper},qk6 C.P C.N C.B ops l st acc=(acc',st',l')→DGo C ops l' st' acc' K→DGo C ops l st acc K
 | [],st,acc,acc',st',l',hr,h=>by
  simp only [qk6,vzt] at hr;obtain⟨rfl,rfl,rfl⟩:=hr;exact h
 | o :: rest,st,acc,acc',st',l',hr,h=>by
  rw [qqe] at hr;cases hg:go1 C.P C.N C.B ops o st with
  | stop =>
   rw [hg] at hr;simp only [q0a,vzt] at hr;obtain⟨rfl,rfl,rfl⟩:=hr;exact h
  | on v u =>
   rw [hg,qxl] at hr;have hrec:=DGo.run rest _ _ hr h;unfold go1 at hg;split at hg
   case isFalse=>cases hg
   rename_i hd;split at hg
   ·rename_i hgd;split at hg
    ·rename_i v' u' hrun;cases hg;refine DGo.one hd (.inl ⟨hgd,.op hrun⟩) ?_;rw [hgd] at hrec;exact hrec
    ·cases hg
   ·rename_i hgd;cases hg;refine DGo.one hd (.inr ⟨hgd,rfl⟩) ?_;rw [hgd] at hrec;exact hrec
   ·cases hg
theorem qls (env:Env) (f:Operand) (args:List Operand):qe3 (ev env) f args=qbq env f args:=by
 unfold qe3 qbq;rfl
theorem DGo.call {ops:Array Oper} {K:List Evt→St→Prop} {d:Option Tmp} {f:Operand} {args:Array Operand} {ats:Array TypeId} {ty:TypeId} {pos:String} {af:Array Edge} {rest:List Oper} {st:St} {acc:List Evt}
  {k:FuncId} {avs:List AV} {pargs:List PV} {r:PV} {rs:List Nat}
  (hp:vhv C.D C.P k pargs r) (hd:qbg C.N ⟨d,.call ⟨.value f,args,ats⟩,ty,pos,af,none⟩=true) (hk:HasBody C.P k)
  (hc:qbq st.env f args.toList=some (k,avs)) (hv:(qas (qdn (fun _=>true) 9) avs).run (qa0 st.heap)=some pargs) (hrs:(qas (qdn (fun _=>true) 9) avs).reads (qa0 st.heap)=rs)
  (hfl:(qoz avs).isSome=true∨r.flat=true)
  (h:DGo C ops rest ⟨qdh st.env d (.p r),st.heap⟩ (⟨.p r,none,rs⟩ :: acc) K):DGo C ops (⟨d,.call ⟨.value f,args,ats⟩,ty,pos,af,none⟩ :: rest) st acc K:=by
 subst hrs;refine DGo.one hd (.inl ⟨rfl,.call hp rfl hk (by rw [qls];exact hc) hv hfl⟩) ?_;exact h
theorem DGo.built {ops:Array Oper} {K:List Evt→St→Prop} {o:Oper} {t:TypeId} {len:Nat} {parts:Array (Nat×Operand)} {rest:List Oper} {st st':St} {acc:List Evt} {v:AV} {u:Upd} {x:PV} {k:Nat} {r1 r2:List Nat}
  (ho:o.op=.buildSlice t len parts) (hg:qau ops st.env o=some true) (hd:qbg C.N o=true) (hk:qjf C.B o=k)
  (hr:(aop C.P C.B (ev st.env) o).run (qa0 st.heap)=some (v,u)) (h1:(aop C.P C.B (ev st.env) o).reads (qa0 st.heap)=r1)
  (hv:(qdn (fun l=>l == k) 9 v).run (qa0 (qp1 st.heap u))=some x) (h2:(qdn (fun l=>l == k) 9 v).reads (qa0 (qp1 st.heap u))=r2)
  (hs:(⟨qdh st.env o.dst (.p x),st.heap⟩:St)=st') (h:DGo C ops rest st' (⟨.p x,none,r1++r2⟩ :: acc) K):DGo C ops (o :: rest) st acc K:=by
 subst hk;subst h1;subst h2;subst hs;rw [qp8] at hv;refine DGo.one hd (.inl ⟨hg,.built ho hr hv⟩) ?_;rw [qp8] at h;exact h
theorem DGo.cloned {ops:Array Oper} {K:List Evt→St→Prop} {o:Oper} {f:Operand} {args:Array Operand} {ats:Array TypeId} {rest:List Oper} {st st':St} {acc:List Evt} {c:FuncId} {e sz by' g k n:Nat} {xs:List PV}
  (S:Cln C.P c e sz by') (hw:¬C.D) (ho:o.op=.call ⟨.value f,args,ats⟩) (hgd:qau ops st.env o=some true) (hd:qbg C.N o=true) (hk:qjf C.B o=k)
  (hc:qbq st.env f args.toList=some (c,[.p (.slc xs)])) (hel:(xs.map AV.p).all (qer sz)=true) (hn:xs.length≤maxLen) (hby:xs.length * by'≤140737488355328) (hg:qa0 st.heap k=.dead g) (hl:xs.length=n)
  (hs:(⟨qdh st.env o.dst (.own k (g+1) 0 n),qod st.heap k (.arr e sz (g+1) (xs.map AV.p))⟩:St)=st')
  (h:DGo C ops rest st' (⟨.own k (g+1) 0 n,some (k,.arr e sz (g+1) (xs.map AV.p)),[k]⟩ :: acc) K):DGo C ops (o :: rest) st acc K:=by
 subst hk;subst hs;subst hl;refine DGo.one hd (.inl ⟨hgd,.cloned S hw ho (by rw [qls];exact hc) hel hn hby hg⟩) ?_;exact h
theorem DGo.ext {ops:Array Oper} {K:List Evt→St→Prop} {o:Oper} {rest:List Oper} {st st':St} {acc:List Evt} {v:AV} {u:Upd} {rs:List Nat}
  (hO:OpU C.D C.P o (ev st.env) (qa0 st.heap) v u rs) (hgd:qau ops st.env o=some true) (hd:qbg C.N o=true) (hs:(⟨qdh st.env o.dst v,qp1 st.heap u⟩:St)=st')
  (h:DGo C ops rest st' (⟨v,u,rs⟩ :: acc) K):DGo C ops (o :: rest) st acc K:=by
 subst hs;exact DGo.one hd (.inl ⟨hgd,.ext hO⟩) h
theorem DGo.done {ops:Array Oper} {K:List Evt→St→Prop} {st:St} {acc:List Evt} (h:K acc.reverse st):DGo C ops [] st acc K:=⟨[],st,.nil,by simpa using h⟩
attribute [go_sem] qzd qze L.reads_ret L.reads_fail L.reads_look L.reads_bind L.reads_ofOpt q3g q3h q1e q6h qqe qxl q6i
end Go.Ab
namespace Go.Ab
variable {D:Prop}
open Go
def vtp:Op→Bool
 | .call ⟨.value _,_,_⟩=>true
 | _=>false
def vtq:List Oper→List Oper→List Oper×List Oper
 | [],acc=>(acc.reverse,[])
 | o :: r,acc=>match o.guard.isNone && !vtp o.op with
  | true=>vtq r (o :: acc)
  | false=>(acc.reverse,o :: r)
def spl (l:List Oper):List Oper×List Oper:=vtq l []
theorem qxm:∀l acc:List Oper,(vtq l acc).1++(vtq l acc).2=acc.reverse++l
 | [],acc=>rfl
 | o :: r,acc=>by
  simp only [vtq];split
  ·rw [qxm r];simp
  ·rfl
theorem q0b (l:List Oper):(spl l).1++(spl l).2=l:=qxm l []
variable {C:Cx} {Q:Exit→St→Prop} {st:St}
theorem qlt {ops:Array Oper} {l2:List Oper} {st':St} (h:AL C ops l2 Q st'):∀(l:List Oper) (st:St),qpn C.P C.N C.B ops l st=(st',[])→AL C ops (l++l2) Q st
 | [],st,hr=>by
  simp only [qpn,vzt,and_true] at hr;subst hr;exact h
 | o :: rest,st,hr=>by
  rw [qxb] at hr;cases hg:go1 C.P C.N C.B ops o st with
  | stop=>rw [hg] at hr;simp [vdc] at hr
  | on v u =>
   rw [hg,q8m] at hr;unfold go1 at hg;split at hg
   case isFalse=>cases hg
   rename_i hd;split at hg
   ·rename_i hgd;split at hg
    ·rename_i v' u' hrun;cases hg;exact vss hgd hd (q8l C.B o (ev st.env)) hrun (qlt h rest _ hr)
    ·cases hg
   ·rename_i hgd;cases hg;exact q57 hgd hd (qlt h rest _ hr)
   ·cases hg
theorem qo4 {ops:Array Oper} {o:Oper} {l l1 l2:List Oper} {st':St} (hs:spl l=(o :: l1,l2)) (hr:qpn C.P C.N C.B ops (o :: l1) st=(st',[])) (h:AL C ops l2 Q st'):AL C ops l Q st:=by
 have e:=q0b l;rw [hs] at e;rw [←e];exact qlt h _ _ hr
theorem AL_gt {ops:Array Oper} {o:Oper} {rest:List Oper} {v:AV} {u:Upd} (hg:qau ops st.env o=some true) (hd:qbg C.N o=true)
  (hr:(aop C.P C.B (ev st.env) o).run (qa0 st.heap)=some (v,u)) (h:AL C ops rest Q ⟨qdh st.env o.dst v,qp1 st.heap u⟩):AL C ops (o :: rest) Q st :=
 vss hg hd (q8l C.B o (ev st.env)) hr h
def qxn (ops:Array Oper) (o:Oper):Option Nat:=o.guard.bind fun g=>(ops[g.1]?).bind (·.dst)
theorem q3i (env:Env) {d:Nat} {v:AV} (h:env.get d=v):Env.get ((d,v) :: env)=env.get:=by
 funext t;simp only [Env.get];split
 ·rename_i e;subst e;exact h.symm
 ·rfl
theorem SR.known {inj:Inj} {a:Act} {w:World} {env:Env} {hp:List (Nat×AO)} {d:Nat} {v:AV} (h:env.get d=v) (hs:SR C ⟨env,hp⟩ inj a w):SR C ⟨(d,v) :: env,hp⟩ inj a w :=
 ⟨fun t=>by have:=hs.env t;rw [q3i env h];exact this,hs.size,hs.defers,hs.hr,hs.ev⟩
theorem DGo.append {ops:Array Oper} {K:List Evt→St→Prop} {l2:List Oper} {acc':List Evt} {st':St} (h:DGo C ops l2 st' acc' K):∀(l:List Oper) (st:St) (acc:List Evt),qk6 C.P C.N C.B ops l st acc=(acc',st',[])→DGo C ops (l++l2) st acc K
 | [],st,acc,hr=>by
  simp only [qk6,vzt,and_true] at hr;obtain⟨rfl,rfl⟩:=hr;exact h
 | o :: rest,st,acc,hr=>by
  rw [qqe] at hr;cases hg:go1 C.P C.N C.B ops o st with
  | stop=>rw [hg] at hr;simp [q0a] at hr
  | on v u =>
   rw [hg,qxl] at hr;have hrec:=DGo.append h rest _ _ hr;unfold go1 at hg;split at hg
   case isFalse=>cases hg
   rename_i hd;split at hg
   ·rename_i hgd;split at hg
    ·rename_i v' u' hrun;cases hg;refine DGo.one hd (.inl ⟨hgd,.op hrun⟩) ?_;rw [hgd] at hrec;exact hrec
    ·cases hg
   ·rename_i hgd;cases hg;refine DGo.one hd (.inr ⟨hgd,rfl⟩) ?_;rw [hgd] at hrec;exact hrec
   ·cases hg
theorem DGo.upto {ops:Array Oper} {K:List Evt→St→Prop} {o:Oper} {l l1 l2:List Oper} {acc acc':List Evt} {st':St} (hs:spl l=(o :: l1,l2)) (hr:qk6 C.P C.N C.B ops (o :: l1) st acc=(acc',st',[]))
  (h:DGo C ops l2 st' acc' K):DGo C ops l st acc K:=by
 have e:=q0b l;rw [hs] at e;rw [←e];exact DGo.append h _ _ _ hr
theorem DGo.gt {ops:Array Oper} {K:List Evt→St→Prop} {o:Oper} {rest:List Oper} {acc:List Evt} {v:AV} {u:Upd} {rs:List Nat} (hg:qau ops st.env o=some true) (hd:qbg C.N o=true)
  (hr:(aop C.P C.B (ev st.env) o).run (qa0 st.heap)=some (v,u)) (hrs:(aop C.P C.B (ev st.env) o).reads (qa0 st.heap)=rs) (h:DGo C ops rest ⟨qdh st.env o.dst v,qp1 st.heap u⟩ (⟨v,u,rs⟩ :: acc) K):DGo C ops (o :: rest) st acc K:=by
 subst hrs;exact DGo.one hd (.inl ⟨hg,.op hr⟩) h
theorem DGo.gf {ops:Array Oper} {K:List Evt→St→Prop} {o:Oper} {rest:List Oper} {acc:List Evt} (hg:qau ops st.env o=some false) (hd:qbg C.N o=true)
  (h:DGo C ops rest ⟨qdh st.env o.dst (.p (.tup [])),st.heap⟩ (⟨.p (.tup []),none,[]⟩ :: acc) K):DGo C ops (o :: rest) st acc K :=
 DGo.one hd (.inr ⟨hg,rfl⟩) h
theorem Does.env {o:Oper} {ρ:Operand→AV} {ρ':Operand→AV} {σ:Nat→AO} {e:Evt} (h:Does C o ρ σ e) (he:ρ'=ρ):Does C o ρ' σ e:=he ▸ h
theorem DCh.known {ops:Array Oper} {l:List Oper} {es:List Evt} {st st' st1:St} (h:DCh C ops l st1 es st') (hg:st1.env.get=st.env.get) (hh:st1.heap=st.heap):∃st'',DCh C ops l st es st''∧st'.env.get=st''.env.get∧st'.heap=st''.heap:=by
 induction h generalizing st with
 | nil=>exact⟨st,.nil,hg,hh⟩
 | @cons o rest st1 e es st' hd h hr ih =>
  obtain⟨st'',h1,h2⟩:=ih (st:=⟨qdh st.env o.dst e.v,qp1 st.heap e.u⟩) (by simp only [qlr,hg]) (by simp only [hh]);have e1:ev st1.env=ev st.env:=by rw [←qu6,←qu6,hg]
  have e2:qau ops st1.env o=qau ops st.env o:=by rw [←qof,←qof,hg]
  refine⟨st'',.cons hd ?_ h1,h2⟩;rw [e1,e2,show st1.sig=st.sig from congrArg qa0 hh] at h;exact h
def DK (C:Cx) (l:Array Oper) (Q:Exit→St→Prop):List Evt→St→Prop:=fun es st'=>qu8 l es=true∧∀inj a w,SR C st' inj a w→vht C Q .normal a w
theorem DK.congr {l:Array Oper} (es:List Evt) (s s':St) (h1:s.env.get=s'.env.get) (h2:s.heap=s'.heap) (h:DK C l Q es s):DK C l Q es s':=by
 refine⟨h.1,fun inj a w hs=>h.2 inj a w ?_⟩;obtain⟨e,hp⟩:=s;obtain⟨e',hp'⟩:=s';simp only at h1 h2;subst h2;exact⟨fun t=>by show AR _ _ _ _ (e.get t) _;rw [h1];exact hs.env t,hs.size,hs.defers,hs.hr,hs.ev⟩
theorem qzf {id:Nat} {l:List Oper} (hm:C.P.follows .mixedOrders=true) (hsl:qh2 l.toArray=true) (h:DGo C l.toArray l st [] (DK C l.toArray Q)):AWp C (.region id l.toArray true) Q st:=by
 obtain⟨es,st',h1,h2⟩:=h;have h3:AWp C (.region id l.toArray true) (fun e s=>e=.normal∧s=st') st:=vd3 hm h1 hsl (by simpa using h2.1) ⟨rfl,rfl⟩;intro inj a w hs;refine wp_mono (h3 inj a w hs) ?_;rintro e a' w' ⟨s,i,k1,rfl,rfl⟩;exact h2.2 i a' w' k1
theorem DGo.fin {l:Array Oper} {acc:List Evt} (hev:qu8 l acc.reverse=true) (h:Q .normal st):DGo C l [] st acc (DK C l Q):=DGo.done ⟨hev,fun inj a w hs=>⟨st,inj,hs,h⟩⟩
structure Con (D:Prop) (P:Program) (k:FuncId) (args:List PV) (r:PV):Prop where
 body:HasBody P k
 pure:vhv D P k args r
theorem Con.of {P:Program} {k:FuncId} {args:List PV} {r r':PV} (h:Con D P k args r) (e:r=r'):Con D P k args r':=e ▸ h
theorem vtr {ops:Array Oper} {o:Oper} {rest:List Oper} {f:Operand} {args:Array Operand} {ats:Array TypeId} {k:FuncId} {avs:List AV} {pargs:List PV} {r:PV}
  (ho:o.op=.call ⟨.value f,args,ats⟩) (hg:qau ops st.env o=some true) (hd:qbg C.N o=true)
  (hc:qbq st.env f args.toList=some (k,avs)) (hv:(qas (qdn (fun _=>true) 9) avs).run (qa0 st.heap)=some pargs) (hp:Con C.D C.P k pargs r) (hfl:(qoz avs).isSome=true∨r.flat=true)
  (h:AL C ops rest Q ⟨qdh st.env o.dst (.p r),st.heap⟩):AL C ops (o :: rest) Q st :=
 vmu hp.pure ho hg hd hp.body hc hv hfl h
theorem DGo.con {ops:Array Oper} {K:List Evt→St→Prop} {o:Oper} {f:Operand} {args:Array Operand} {ats:Array TypeId} {rest:List Oper} {acc:List Evt}
  {k:FuncId} {avs:List AV} {pargs:List PV} {r:PV} {rs:List Nat}
  (ho:o.op=.call ⟨.value f,args,ats⟩) (hg:qau ops st.env o=some true) (hd:qbg C.N o=true)
  (hc:qbq st.env f args.toList=some (k,avs)) (hv:(qas (qdn (fun _=>true) 9) avs).run (qa0 st.heap)=some pargs) (hrs:(qas (qdn (fun _=>true) 9) avs).reads (qa0 st.heap)=rs)
  (hp:Con C.D C.P k pargs r) (hfl:(qoz avs).isSome=true∨r.flat=true)
  (h:DGo C ops rest ⟨qdh st.env o.dst (.p r),st.heap⟩ (⟨.p r,none,rs⟩ :: acc) K):DGo C ops (o :: rest) st acc K:=by
 subst hrs;exact DGo.one hd (.inl ⟨hg,.call hp.pure ho hp.body (by rw [qls];exact hc) hv hfl⟩) h
theorem qwj {P:Program} {fn:Func} {r:PV} {s:St} {v:AV} (h1:vas P s fn.results.toList=some v) (h2:(qdn (fun _=>true) 9 v).run s.sig=some r):vlh P fn r .ret s:=⟨.inr rfl,v,h1,h2⟩
theorem vts {P:Program} {fn:Func} {r:PV} {s:St} {v:AV} (h1:vas P s fn.results.toList=some v) (h2:(qdn (fun _=>true) 9 v).run s.sig=some r):vlh P fn r .normal s:=⟨.inl rfl,v,h1,h2⟩
theorem qaw {ops:Array Oper} {env:Env} {o:Oper} (h:o.guard=none):qau ops env o=some true:=by
 unfold qau;rw [h]
theorem vbf {ops:Array Oper} {env:Env} {o:Oper} {j d:Nat} {b:Bool} (h:o.guard=some (j,b)) (hd:qxn ops o=some d) (hv:env.get d=.p (.bool b)):qau ops env o=some true:=by
 unfold qxn at hd;unfold qau;rw [h] at hd ⊢;simp only [vzm] at hd;simp only [hd,hv,beq_self_eq_true]
theorem vd4 {ops:Array Oper} {o:Oper} {rest:List Oper} {st':St} (hg:qau ops st.env o=some true) (hd:qbg C.N o=true)
  (hr:((aop C.P C.B (ev st.env) o).run (qa0 st.heap)).map (fun vu=>(⟨qdh st.env o.dst vu.1,qp1 st.heap vu.2⟩:St))=some st') (h:AL C ops rest Q st'):AL C ops (o :: rest) Q st:=by
 cases hx:(aop C.P C.B (ev st.env) o).run (qa0 st.heap) with
 | none=>rw [hx] at hr;cases hr
 | some vu =>
  rw [hx] at hr;simp only [vzr,vzs] at hr;subst hr;exact AL_gt hg hd hx h
theorem DGo.gt' {ops:Array Oper} {K:List Evt→St→Prop} {o:Oper} {rest:List Oper} {acc:List Evt} {st':St} {e:Evt} (hg:qau ops st.env o=some true) (hd:qbg C.N o=true)
  (hr:((aop C.P C.B (ev st.env) o).run (qa0 st.heap)).map (fun vu=>((⟨vu.1,vu.2,(aop C.P C.B (ev st.env) o).reads (qa0 st.heap)⟩:Evt),(⟨qdh st.env o.dst vu.1,qp1 st.heap vu.2⟩:St)))=some (e,st'))
  (h:DGo C ops rest st' (e :: acc) K):DGo C ops (o :: rest) st acc K:=by
 cases hx:(aop C.P C.B (ev st.env) o).run (qa0 st.heap) with
 | none=>rw [hx] at hr;cases hr
 | some vu =>
  rw [hx] at hr;simp only [vzr,vzs,vzt] at hr;obtain⟨rfl,rfl⟩:=hr;exact DGo.gt hg hd hx rfl h
theorem vn0 {ops:Array Oper} {o:Oper} {rest:List Oper} {f:Operand} {args:Array Operand} {ats:Array TypeId} {k:FuncId} {avs:List AV} {pargs:List PV} {r:PV} {st':St}
  (ho:o.op=.call ⟨.value f,args,ats⟩) (hg:qau ops st.env o=some true) (hd:qbg C.N o=true)
  (hc:qbq st.env f args.toList=some (k,avs)) (hv:(qas (qdn (fun _=>true) 9) avs).run (qa0 st.heap)=some pargs) (hp:Con C.D C.P k pargs r) (hfl:(qoz avs).isSome=true∨r.flat=true)
  (hs:(⟨qdh st.env o.dst (.p r),st.heap⟩:St)=st') (h:AL C ops rest Q st'):AL C ops (o :: rest) Q st:=by
 subst hs;exact vtr ho hg hd hc hv hp hfl h
theorem DGo.con' {ops:Array Oper} {K:List Evt→St→Prop} {o:Oper} {f:Operand} {args:Array Operand} {ats:Array TypeId} {rest:List Oper} {acc:List Evt}
  {k:FuncId} {avs:List AV} {pargs:List PV} {r:PV} {rs:List Nat} {st':St}
  (ho:o.op=.call ⟨.value f,args,ats⟩) (hg:qau ops st.env o=some true) (hd:qbg C.N o=true)
  (hc:qbq st.env f args.toList=some (k,avs)) (hv:(qas (qdn (fun _=>true) 9) avs).run (qa0 st.heap)=some pargs) (hrs:(qas (qdn (fun _=>true) 9) avs).reads (qa0 st.heap)=rs)
  (hp:Con C.D C.P k pargs r) (hfl:(qoz avs).isSome=true∨r.flat=true)
  (hs:(⟨qdh st.env o.dst (.p r),st.heap⟩:St)=st') (h:DGo C ops rest st' (⟨.p r,none,rs⟩ :: acc) K):DGo C ops (o :: rest) st acc K:=by
 subst hs;exact DGo.con ho hg hd hc hv hrs hp hfl h
theorem qbh {ops:Array Oper} {env:Env} {o:Oper} {j d:Nat} {b b':Bool} (h:o.guard=some (j,b)) (hd:qxn ops o=some d) (hv:env.get d=.p (.bool b')) (hx:b'=b):qau ops env o=some true :=
 vbf h hd (by rw [hv,hx])
end Go.Ab
namespace Go.Ab
open Go
section
variable {C:Cx} {Q:Exit→St→Prop} {st:St}
theorem vn1 {ops:Array Oper} {d:Option Tmp} {k:FuncId} {x y:Operand} {ats:Array TypeId} {ty:TypeId} {pos:String} {af:Array Edge} {rest:List Oper} {a b:List UInt8} {r:Int}
  (hk:∀w,(callFunc k #[.string ⟨a.toArray⟩,.string ⟨b.toArray⟩]).run C.P w=.ok (.value (.int .i64 r)) w)
  (hx:ev st.env x=.p (.str a)) (hy:ev st.env y=.p (.str b)) (hd:qbg C.N ⟨d,.call ⟨.value (.func k),#[x,y],ats⟩,ty,pos,af,none⟩=true)
  (h:AL C ops rest Q ⟨qdh st.env d (.p (.int .i64 r)),st.heap⟩):AL C ops (⟨d,.call ⟨.value (.func k),#[x,y],ats⟩,ty,pos,af,none⟩ :: rest) Q st:=by
 intro inj act w hs;simp only [wpList,qa9 (ops:=ops) (o:=⟨d,.call ⟨.value (.func k),#[x,y],ats⟩,ty,pos,af,none⟩) hs (qaw rfl),if_true];refine .inl ?_;have e1:=hs.eval x;have e2:=hs.eval y;rw [hx] at e1;rw [hy] at e2;simp only [AR,PR] at e1 e2;have hrun:(execOp act.eval ⟨d,.call ⟨.value (.func k),#[x,y],ats⟩,ty,pos,af,none⟩).run C.P w=.ok (.value (.int .i64 r)) w:=by
  simp only [execOp,resolve,Deferred.ofValue,Act.eval,vzw,vzx,vzu,invoke];have:(#[]++#[x,y].map act.eval++#[]:Array Value)=#[.string ⟨a.toArray⟩,.string ⟨b.toArray⟩]:=by simp [e1,e2]
  rw [show (#[]++#[x,y].map act.eval++#[]:Array Value)=#[.string ⟨a.toArray⟩,.string ⟨b.toArray⟩] from this,hk]
 unfold Oper.wp;rw [hrun];simp only [Oper.upon];exact h inj _ _ (hs.put (u:=none) hd hs.hr (Ev.refl _ _ _ _) rfl)
@[go_sem] theorem range0:vyu 0=[]:=rfl
@[go_sem] theorem range1:vyu 1=[0]:=rfl
@[go_sem] theorem range2:vyu 2=[0,1]:=rfl
@[go_sem] theorem range3:vyu 3=[0,1,2]:=rfl
@[go_sem] theorem range4:vyu 4=[0,1,2,3]:=rfl
@[go_sem] theorem range5:vyu 5=[0,1,2,3,4]:=rfl
@[go_sem] theorem range6:vyu 6=[0,1,2,3,4,5]:=rfl
@[go_sem] theorem range7:vyu 7=[0,1,2,3,4,5,6]:=rfl
@[go_sem] theorem range8:vyu 8=[0,1,2,3,4,5,6,7]:=rfl
@[go_sem] theorem range9:vyu 9=[0,1,2,3,4,5,6,7,8]:=rfl
@[go_sem] theorem range10:vyu 10=[0,1,2,3,4,5,6,7,8,9]:=rfl
@[go_sem] theorem range11:vyu 11=[0,1,2,3,4,5,6,7,8,9,10]:=rfl
@[go_sem] theorem range12:vyu 12=[0,1,2,3,4,5,6,7,8,9,10,11]:=rfl
@[go_sem] theorem range13:vyu 13=[0,1,2,3,4,5,6,7,8,9,10,11,12]:=rfl
@[go_sem] theorem range14:vyu 14=[0,1,2,3,4,5,6,7,8,9,10,11,12,13]:=rfl
@[go_sem] theorem range15:vyu 15=[0,1,2,3,4,5,6,7,8,9,10,11,12,13,14]:=rfl
@[go_sem] theorem range16:vyu 16=[0,1,2,3,4,5,6,7,8,9,10,11,12,13,14,15]:=rfl
end
section
inductive LS (σ τ:Type) where
 | next (s:σ)
 | done (t:τ)
section
variable {σ τ:Type}
def qsp (B:σ→Option (LS σ τ)):Nat→σ→Option τ
 | 0,_=>none
 | n+1,s=>match B s with
  | some (.next s')=>qsp B n s'
  | some (.done t)=>some t
  | none=>none
theorem q0c (B:σ→Option (LS σ τ)):∀(n:Nat) (s:σ) (t:τ),qsp B n s=some t→qsp B (n+1) s=some t
 | 0,_,_,h=>by cases h
 | n+1,s,t,h=>by
  rw [qsp] at h ⊢;split
  ·rename_i s' hs;rw [hs] at h;exact q0c B n s' t h
  ·rename_i t' hs;rw [hs] at h;exact h
  ·rename_i hs;rw [hs] at h;cases h
theorem q8r {B:σ→Option (LS σ τ)} {n m:Nat} {s:σ} {t:τ} (h:qsp B n s=some t) (hm:n≤m):qsp B m s=some t:=by
 induction hm with
 | refl=>exact h
 | step _ ih=>exact q0c B _ s t ih
open Classical in
def qaj (B:σ→Option (LS σ τ)) (s:σ):Option τ:=if h:∃t n,qsp B n s=some t then some h.choose else none
theorem q6j {B:σ→Option (LS σ τ)} {n:Nat} {s:σ} {t:τ} (h:qsp B n s=some t):qaj B s=some t:=by
 have hx:∃t n,qsp B n s=some t:=⟨t,n,h⟩;unfold qaj;rw [dif_pos hx];obtain⟨m,hm⟩:=hx.choose_spec;have h1:=q8r h (Nat.le_max_left n m);have h2:=q8r hm (Nat.le_max_right n m);rw [h1] at h2;exact h2.symm
theorem qxo {B:σ→Option (LS σ τ)} {s:σ} {t:τ} (h:qaj B s=some t):∃n,qsp B n s=some t:=by
 unfold qaj at h;split at h
 ·rename_i hx;obtain⟨m,hm⟩:=hx.choose_spec;simp only [vzs] at h;exact⟨m,by rw [←h];exact hm⟩
 ·cases h
theorem qa1 {B:σ→Option (LS σ τ)} {s s':σ} (h:B s=some (.next s')):qaj B s=qaj B s':=by
 cases h1:qaj B s' with
 | some t =>
  obtain⟨n,hn⟩:=qxo h1;exact q6j (n:=n+1) (by rw [qsp,h];exact hn)
 | none =>
  cases h2:qaj B s with
  | none=>rfl
  | some t =>
   obtain⟨n,hn⟩:=qxo h2;cases n with
   | zero=>cases hn
   | succ n =>
    rw [qsp,h] at hn;rw [q6j hn] at h1;cases h1
theorem qam {B:σ→Option (LS σ τ)} {s:σ} {t:τ} (h:B s=some (.done t)):qaj B s=some t:=q6j (n:=1) (by rw [qsp,h])
end
variable {C:Cx} {Q:Exit→St→Prop} {st:St}
def Wk (C:Cx) (Q:Exit→St→Prop) (e:Exit) (s:St):Prop:=Q e s∨∃s',Le C s s'∧Q e s'
theorem Wk.now {e:Exit} {s:St} (h:Q e s):Wk C Q e s:=.inl h
theorem Wk.to {e:Exit} {s s':St} (h:Le C s s') (h':Q e s'):Wk C Q e s:=.inr ⟨s',h,h'⟩
theorem q8s {c:Code} {T:Exit→St→Prop} (h:AWp C c T st) (hq:∀e s,T e s→Wk C Q e s):AWp C c Q st:=fun inj a w hs =>
 wp_mono (h inj a w hs) fun e a w ⟨s,i,h1,h2⟩=>by
  rcases hq e s h2 with h3 | ⟨s',h3,h4⟩
  ·exact⟨s,i,h1,h3⟩
  ·exact⟨s',_,h3.sr h1,h4⟩
theorem vh7 {x y:Code} {T:Exit→St→Prop} (h:AWp C x T st) (hq:∀e s,T e s→Wk C (qv6 (fun s=>AWp C y Q s) Q) e s):AWp C (.seq x y) Q st :=
 qh1 (q8s h hq)
def LP {σ τ:Type} (C:Cx) (S:σ→St) (T:τ→Exit→St→Prop):LS σ τ→Exit→St→Prop
 | .next s',e,st'=>e=.normal∧Le C st' (S s')
 | .done t,e,st'=>T t e st'
theorem vbg {σ τ:Type} {c:Code} {B:σ→Option (LS σ τ)} {s0:σ} {t:τ} (S:σ→St) (T:τ→Exit→St→Prop) (hn:∀t s,¬T t .normal s) (hL:qaj B s0=some t) (h0:Le C st (S s0))
  (round:∀s x,B s=some x→AWp C c (LP C S T x) (S s)) (post:∀e s,T t e s→Wk C Q e s):AWp C (.loop c) Q st:=by
 refine q8s (T:=T t) ?_ post;obtain⟨n,hN⟩:=qxo hL;refine qz6 h0 (vhu (fun (g:Nat×σ) s=>qsp B g.1 g.2=some t∧s=S g.2) (fun g=>g.1) (n,s0) ⟨hN,rfl⟩ ?_);rintro⟨k,s⟩ st' ⟨hk,rfl⟩;simp only at hk ⊢;cases k with
 | zero=>cases hk
 | succ k =>
  rw [qsp] at hk;cases hB:B s with
  | none=>rw [hB] at hk;cases hk
  | some x =>
   rw [hB] at hk;intro inj a w hs;refine wp_mono (round s x hB inj a w hs) ?_;rintro e a w ⟨s1,i,h1,hq⟩;cases x with
   | next s' =>
    obtain⟨rfl,hle⟩:=hq;exact⟨S s',_,hle.sr h1,(k,s'),⟨hk,rfl⟩,Nat.lt_succ_self k⟩
   | done t' =>
    simp only [vzs] at hk;subst hk;cases e with
    | normal=>exact (hn _ _ hq).elim
    | _=>exact⟨s1,i,h1,hq⟩
theorem vlm {c:Operand} {x y:Code} (hc:ev st.env c=.p (.bool true)) (h:AWp C x Q st):AWp C (.cond c x y) Q st:=q05 hc (fun _=>h) (fun hb=>Bool.noConfusion hb)
theorem q3j {c:Operand} {x y:Code} (hc:ev st.env c=.p (.bool false)) (h:AWp C y Q st):AWp C (.cond c x y) Q st:=q05 hc (fun hb=>Bool.noConfusion hb) (fun _=>h)
theorem vd5 {ops:Array Oper} {l:List Oper} (n:Nat) {st':St} (hr:qpn C.P C.N C.B ops (l.take n) st=(st',[])) (h:AL C ops (l.drop n) Q st'):AL C ops l Q st:=by
 rw [←v1d n l];exact qlt h _ _ hr
def idx {α:Type} (l:List α) (i:Int):Option α:=if 0≤i then l[i.toNat]? else none
theorem vh8 {α:Type} {l:List α} {i:Int} {x:α} (h:idx l i=some x):0≤i∧l[i.toNat]?=some x∧i < (l.length:Int):=by
 unfold idx at h;split at h
 ·rename_i h0;refine⟨h0,h,?_⟩;have:=(vx6.1 h).1;omega
 ·cases h
theorem q6k {α:Type} (l:List α) (k:Nat):idx l (k:Int)=l[k]?:=by simp [idx]
theorem qb9 {α:Type} {l:List α} {k:Nat} {x:α} (h:l[k]?=some x):k < l.length:=(vx6.1 h).1
def qcm (n b:Nat):Bool:=decide (n * b≤140737488355328∧n≤9223372036854775807)
@[go_sem] theorem roomOk_B (P:Program) (e n:Nat):qld P e n=qcm n (P.bytesOf e):=rfl
theorem vd6 (x:PV) (r:List AV):qoz (.p x :: r)=(qoz r).map (x :: ·):=by
 show (match qoz r with | some xs=>some (x :: xs) | none=>none)=_;cases qoz r <;> rfl
@[go_sem] theorem allP_map (xs:List PV):qoz (xs.map .p)=some xs:=by
 induction xs with
 | nil=>rfl
 | cons x r ih=>rw [vyk,vd6,ih];rfl
theorem qj0 {α:Type} (f:α→PV) (sz:Nat) (xs:List α) (h:∀x,((f x).isTup=false∧(f x).cells.length=sz)):((xs.map f).map AV.p).all (qer sz)=true:=by
 rw [v0e];intro y hy;simp only [List.map_map,v06,Function.comp_apply] at hy;obtain⟨x,_,rfl⟩:=hy;simp [qer,AV.known,AV.cells,(h x).1,(h x).2]
@[go_sem] theorem AVs_app (xs ys:List PV):xs.map AV.p++ys.map AV.p=(xs++ys).map AV.p:=by simp
@[go_sem] theorem AVs_app1 (xs:List PV) (y:PV):xs.map AV.p++[AV.p y]=(xs++[y]).map AV.p:=by simp
@[go_sem] theorem vn2 (σ σ':Nat→AO) (xs ys:List PV):ql2 σ σ' (xs.map .p) (ys.map .p)=(xs=ys):=by
 apply propext;constructor
 ·intro h
  induction ys generalizing xs with
  | nil =>
   simp only [vyl,ql2] at h;exact List.map_eq_nil_iff.1 h
  | cons y ys ih =>
   cases xs with
   | nil=>exact h.elim
   | cons x xs =>
    simp only [vyk,qxg,vli] at h;rw [h.1,ih xs h.2]
 ·rintro rfl;exact qxf σ σ' xs
@[go_sem] theorem LeVs_0p (σ σ':Nat→AO) (ys:List PV):ql2 σ σ' [] (ys.map .p)=([]=ys):=vn2 σ σ' [] ys
attribute [go_sem] vza List.take_length vzl vy6 vyc vx7 Int.le_refl
@[go_sem] theorem take_map {α β:Type} (f:α→β) (l:List α) (n:Nat):(l.map f).take n=(l.take n).map f:=by rw [v0z]
@[go_sem] theorem drop_map {α β:Type} (f:α→β) (l:List α) (n:Nat):(l.map f).drop n=(l.drop n).map f:=by rw [v0x]
def qal {α:Type} (f:α→PV) (l:List α):PV:=.slc (l.map f)
@[go_sem] theorem encL_eq {α:Type} (f:α→PV) (l:List α):qal f l=.slc (l.map f):=rfl
theorem qag {c:Prop} [Decidable c] {α:Type} {a:Option α} {r:α} (h:(if c then a else none)=some r):c∧a=some r:=by
 split at h
 ·exact⟨‹c›,h⟩
 ·cases h
theorem qfy {c:Prop} [Decidable c] {α:Type} {a:Option α} {r:α} (h:(if c then none else a)=some r):¬c∧a=some r:=by
 split at h
 ·cases h
 ·exact⟨‹¬c›,h⟩
end
end Go.Ab
namespace Go.Ab
theorem qng {α:Type} {l:List α} {o n k:Nat} {x:α} (h:((l.drop o).take n)[k]?=some x):l[o+k]?=some x∧k < n:=by
 have h1:=(vx6.1 h).1;simp only [vyi,vyd] at h1;rw [List.getElem?_take_of_lt (by omega),vx3] at h;exact⟨h,by omega⟩
theorem qqf {n:Nat} {i:Int} (h:i.toNat < n) (h0:0≤i):i < (n:Int):=by omega
def qsq (l:List Int):List UInt8:=l.map fun n=>UInt8.ofNat n.toNat
@[go_sem] theorem vn3:qns []=some []:=rfl
@[go_sem] theorem vln (n:Int) (r:List AV):qns (.p (.int .u8 n) :: r)=(qns r).map (UInt8.ofNat n.toNat :: ·):=rfl
@[go_sem] theorem vn4:qsq []=[]:=rfl
@[go_sem] theorem vlo (n:Int) (l:List Int):qsq (n :: l)=UInt8.ofNat n.toNat :: qsq l:=rfl
@[go_sem] theorem vn5 (l m:List Int):qsq (l++m)=qsq l++qsq m:=by simp [qsq]
@[go_sem] theorem ok_int (k:IntKind) (l:List Int):((l.map (PV.int k)).map AV.p).all (qer 1)=true:=qj0 _ _ _ fun _=>⟨rfl,rfl⟩
@[go_sem] theorem ok_str (l:List (List UInt8)):((l.map PV.str).map AV.p).all (qer 1)=true:=qj0 _ _ _ fun _=>⟨rfl,rfl⟩
@[go_sem] theorem ok_list {α:Type} (f:α→PV) (l:List (List α)):((l.map (qal f)).map AV.p).all (qer 1)=true:=qj0 _ _ _ fun _=>⟨rfl,rfl⟩
@[go_sem] theorem sl_int (k:IntKind) (l:List Int):((l.map (PV.int k)).all fun y=>y.cells.length == 1)=true:=by simp [PV.cells]
@[go_sem] theorem sl_bool (l:List Bool):((l.map PV.bool).all fun y=>y.cells.length == 1)=true:=by simp [PV.cells]
@[go_sem] theorem sl_str (l:List (List UInt8)):((l.map PV.str).all fun y=>y.cells.length == 1)=true:=by simp [PV.cells]
@[go_sem] theorem sl_list {α:Type} (f:α→PV) (l:List (List α)):((l.map (qal f)).all fun y=>y.cells.length == 1)=true:=by simp [PV.cells,qal]
attribute [go_sem] vzk
end Go.Ab
namespace Go.Ab
open Go
variable {C:Cx} {Q:Exit→St→Prop} {st:St}
theorem vh9 {ops:Array Oper} {d:Option Tmp} {t:TypeId} {x y:Operand} {yt:TypeId} {ty:TypeId} {pos:String} {af:Array Edge} {rest:List Oper} {l:List PV} {e:TypeId}
  (hx:ev st.env x=.p (.slc l)) (hy:ev st.env y=.nils) (hu:C.P.underlying t=some (.slice e)) (hd:qbg C.N ⟨d,.binOp .eql t x y yt,ty,pos,af,none⟩=true)
  (h:∀b,(l≠[]→b=false)→AL C ops rest Q ⟨qdh st.env d (.p (.bool b)),st.heap⟩):AL C ops (⟨d,.binOp .eql t x y yt,ty,pos,af,none⟩ :: rest) Q st:=by
 intro inj act w hs;simp only [wpList,qa9 (ops:=ops) (o:=⟨d,.binOp .eql t x y yt,ty,pos,af,none⟩) hs (qaw rfl),if_true];refine .inl ?_;have e1:=hs.eval x;have e2:=hs.eval y;rw [hx] at e1;rw [hy] at e2;simp only [AR,PR] at e1 e2;obtain⟨a,cap,vs,hv,hc,h1,h2⟩:=e1;have hg:(eqGuard .eql t x y (.slice a l.length cap) (.slice none 0 0)).run C.P w=.ok () w:=by simp [eqGuard]
 refine qoc (s:=do eqGuard .eql t x y (act.eval x) (act.eval y);binOp .eql t (act.eval x) (act.eval y)) (val:=.bool a.isNone) (w':=w) rfl ?_ ?_
 ·rw [hv,e2];simp only [vzw,hg,vzu];exact vxo w t e _ _ _ _ _ hu
 ·refine h a.isNone (fun hne=>?_) inj _ _ (hs.put (u:=none) hd hs.hr (Ev.refl _ _ _ _) rfl);rcases h2 with h2 | ⟨b,o,sz,ha,_⟩
  ·subst h2;have:=h1.length;simp at this;exact (hne this).elim
  ·rw [ha];rfl
def qxp (N:Nat) (ops:Array Oper):List Oper→Env→List Oper×Env
 | [],env=>([],env)
 | o :: r,env=>match o.guard with
  | none=>(o :: r,env)
  | some _=>match qbg N o,qau ops env o with
   | true,some false=>qxp N ops r (qdh env o.dst (.p (.tup [])))
   | _,_=>(o :: r,env)
theorem q8t {ops:Array Oper}:∀{l l':List Oper} {env env':Env} {h:List (Nat×AO)},qxp C.N ops l env=(l',env')→AL C ops l' Q ⟨env',h⟩→AL C ops l Q ⟨env,h⟩
 | [],_,_,_,_,he,k=>by
  simp only [qxp,vzt] at he;obtain⟨rfl,rfl⟩:=he;exact k
 | o :: r,l',env,env',hp,he,k=>by
  simp only [qxp] at he;split at he
  ·simp only [vzt] at he;obtain⟨rfl,rfl⟩:=he;exact k
  ·split at he
   ·rename_i h1 h2;exact q57 h2 h1 (q8t he k)
   ·simp only [vzt] at he;obtain⟨rfl,rfl⟩:=he;exact k
theorem vib {ops:Array Oper} {l:List Oper} {d:Nat} {v:AV} {h:List (Nat×AO)} {env:Env} (hv:env.get d=v) (k:AL C ops l Q ⟨(d,v) :: env,h⟩):AL C ops l Q ⟨env,h⟩:=fun inj a w hs=>k inj a w (SR.known hv hs)
def qtp (N:Nat) (ops:Array Oper):List Oper→Env→List Evt→List Oper×Env×List Evt
 | [],env,acc=>([],env,acc)
 | o :: r,env,acc=>match o.guard with
  | none=>(o :: r,env,acc)
  | some _=>match qbg N o,qau ops env o with
   | true,some false=>qtp N ops r (qdh env o.dst (.p (.tup []))) (⟨.p (.tup []),none,[]⟩ :: acc)
   | _,_=>(o :: r,env,acc)
theorem DGo.skips {l0:Array Oper} {K:List Evt→St→Prop}:∀{l l':List Oper} {env env':Env} {acc acc':List Evt} {h:List (Nat×AO)},qtp C.N l0 l env acc=(l',env',acc')→DGo C l0 l' ⟨env',h⟩ acc' K→DGo C l0 l ⟨env,h⟩ acc K
 | [],_,_,_,_,_,_,he,k=>by
  simp only [qtp,vzt] at he;obtain⟨rfl,rfl,rfl⟩:=he;exact k
 | o :: r,l',env,env',acc,acc',hp,he,k=>by
  simp only [qtp] at he;split at he
  ·simp only [vzt] at he;obtain⟨rfl,rfl,rfl⟩:=he;exact k
  ·split at he
   ·rename_i h1 h2;exact DGo.gf h2 h1 (DGo.skips he k)
   ·simp only [vzt] at he;obtain⟨rfl,rfl,rfl⟩:=he;exact k
theorem DGo.known' {l0:Array Oper} {l:List Oper} {d:Nat} {v:AV} {h:List (Nat×AO)} {env:Env} {acc:List Evt} (hv:env.get d=v) (k:DGo C l0 l ⟨(d,v) :: env,h⟩ acc (DK C l0 Q)):DGo C l0 l ⟨env,h⟩ acc (DK C l0 Q):=by
 obtain⟨es,st',k1,k2⟩:=k;obtain⟨st'',k3,k4,k5⟩:=k1.known (st:=⟨env,h⟩) (q3i env hv) rfl;exact⟨es,st'',k3,DK.congr _ _ _ k4 k5 k2⟩
end Go.Ab
namespace Go.Ab
variable {D:Prop}
open Go
structure Bulk (b:(H:Type)→DataW H→Nat):Prop where
 str:∀(H:Type) (s:List UInt8),s.length≤b H (.lit (.string s))
 slen:∀(H:Type) (es sp:List (DataW H)),es.length≤b H (.slice es sp)
 selem:∀(H:Type) (es sp:List (DataW H)) (d:DataW H),d∈es→b H d≤b H (.slice es sp)
 part:∀(H:Type) (ps:List (DataW H)) (d:DataW H),d∈ps→b H d≤b H (.agg ps)
abbrev NoX:Nat→Prop:=fun _=>False
theorem PRs.one {X:Nat→Prop} {w:World}:∀{ps:List PV} {vs:List Value},PRs X w ps vs→(∀y∈ps,y.isAgg=false∧y.isTup=false)→qbi vs
 | [],vs,h,_=>by simp only [PRs] at h;subst h;intro u hu;cases hu
 | p :: ps,vs,h,hp=>by
  obtain⟨v,r,rfl,h1,h2⟩:=h;have hr:=PRs.one h2 fun y hy=>hp y (v03 _ hy)
  have h0:=hp p (by simp);intro u hu;rcases v02.1 hu with e | e
  ·subst e;cases p <;> simp only [PR] at h1 <;> first | (subst h1;rfl) | (rcases h1 with⟨e,_⟩|⟨_,_,_,e,_⟩ <;> (subst e;rfl)) | (obtain⟨_,_,_,e,_⟩:=h1;subst e;rfl) | (obtain⟨_,_,e,_⟩:=h1;subst e;rfl) | (obtain⟨_,e,_⟩:=h1;subst e;first | rfl | simp [PV.isAgg,PV.isTup] at h0) | simp [PV.isAgg,PV.isTup] at h0
  ·exact hr u e
structure Rd (P:Program) (b:(H:Type)→DataW H→Nat) (t:TypeId) {α:Type} (f:α→PV) (ok:α→Prop):Prop where
 cells:∀x,(f x).cells.length=P.cellsOf t
 plain:∀x,∀y∈(f x).cells,y.isAgg=false∧y.isTup=false
 agg:∀x,qap P t=some (f x).isAgg
 read:∀{H:Type} {enc:TypeId×Value→H} {w:World} {sp:Nat→Bool} {n:Nat} {cs:List Value} {x:DataW H×List MemPlace},DataW.trod enc P w 0 sp true n t cs=some x→b H x.1≤1048576→∃a,PRs NoX w (f a).cells cs∧ok a
variable {P:Program} {b:(H:Type)→DataW H→Nat} {t:TypeId}
def ofCells (g:Bool) (cs:List Value):Value:=if g then .agg cs.toArray else cs.headD undef
theorem PR.ofCells {α:Type} {f:α→PV} {ok:α→Prop} (R:Rd P b t f ok) {w:World} {cs:List Value} {a:α} (h:PRs NoX w (f a).cells cs) :
  PR NoX w (f a) (ofCells (f a).isAgg cs)∧(ofCells (f a).isAgg cs).cells.toList=cs:=by
 have hone:=h.one (R.plain a);unfold Ab.ofCells;cases hf:f a with
 | agg ps =>
  rw [hf] at h;simp only [PV.isAgg,if_true];exact⟨⟨cs,rfl,h,hone⟩,by simp [Value.cells]⟩
 | _ =>
  rw [hf] at h;simp only [PV.isAgg,vxj,if_false];simp only [PV.cells] at h;obtain⟨v,r,rfl,h1,h2⟩:=h;simp only [PRs] at h2;subst h2;refine⟨h1,?_⟩;have:=hone v (by simp);simp only [List.headD_cons];cases v <;> first | rfl | simp [Value.oneCell'] at this
theorem vtt {k:IntKind} (hu:P.underlying t=some (.int k)) (hc:P.cellsOf t=1):Rd P b t (PV.int k) (fun n=>(Lit.int k n).wf=true):=by
 refine⟨fun x=>by rw [hc];rfl,fun x y hy=>?_,fun x=>by simp [qap,hu];rfl,fun h _=>?_⟩
 ·simp only [PV.cells,v09] at hy;subst hy;exact⟨rfl,rfl⟩
 ·obtain⟨n,rfl,_,hw⟩:=DataW.trod_int hu h;exact⟨n,⟨_,_,rfl,rfl,rfl⟩,hw⟩
theorem vbh {w:World} {a:Addr} {n:Nat} {cs:List Value} (h:w.cells? 0 a n=some cs):cs.length=n∧∀i u,cs[i]?=some u→w.cell? (a.add i)=some u:=by
 unfold World.cells? at h;rw [if_pos (v1m _)] at h;have hl:=(mapM_some_length h);simp only [v0u] at hl;refine⟨hl,fun i u hu=>?_⟩;have hi:i < n:=by have:=qb9 hu;omega
 have:=mapM_some_get h i i (by simp [hi]);rw [this];exact hu
theorem PRs.app {X:Nat→Prop} {w:World}:∀{ps:List PV} {vs:List Value} {qs:List PV} {us:List Value},PRs X w ps vs→PRs X w qs us→PRs X w (ps++qs) (vs++us)
 | [],_,_,_,h,h'=>by simp only [PRs] at h;subst h;exact h'
 | p :: ps,_,_,_,h,h'=>by
  obtain⟨v,r,rfl,h1,h2⟩:=h;exact⟨v,r++_,rfl,h1,PRs.app h2 h'⟩
theorem q1f {e:TypeId} {α:Type} {f:α→PV} {ok:α→Prop} (hu:P.underlying t=some (.slice e)) (hc:P.cellsOf t=1) (hs:0 < P.cellsOf e) (B:Bulk b) (R:Rd P b e f ok) :
  Rd P b t (qal f) (fun l=>l.length≤1048576∧∀x∈l,ok x):=by
 refine⟨fun x=>by rw [hc];rfl,fun x y hy=>?_,fun x=>by simp [qap,hu];rfl,fun {H enc w sp n cs x} h hb=>?_⟩
 ·simp only [qal,PV.cells,v09] at hy;subst hy;exact⟨rfl,rfl⟩
 rcases Deep.open_slice hu h with⟨rfl,rfl⟩|⟨a,len,cap,m,n',D,Pl,rfl,_,hl,hm,hmm,rfl,hx⟩
 ·exact⟨[],⟨_,_,rfl,⟨_,_,_,rfl,vza _,rfl,.inl rfl⟩,rfl⟩,v1m _,(fun x hx=>absurd hx (by simp))⟩
 simp only at hb;have hlen:len≤1048576:=by
  have:=B.slen H ((vyu len).map D) ((vyu (m - len)).map fun j=>D (len+j));simp only [vye,v0u] at this;omega
 have hlm:len≤m:=by rw [hmm];split <;> omega
 have key:∀k,k≤len→∃(l:List α) (vs:List Value),l.length=k∧PRs NoX w (l.map f) vs∧(∀v∈vs,v.cells.size=P.cellsOf e)∧qbi (flat vs)∧(flat vs).length=k * P.cellsOf e ∧
   (∀j u,(flat vs)[j]?=some u→w.cell? (a.add j)=some u)∧∀x∈l,ok x:=by
  intro k
  induction k with
  | zero =>
   intro _;exact⟨[],[],rfl,rfl,(fun v hv=>absurd hv (by simp)),(fun u hu=>absurd hu (by simp [flat])),(by simp [flat]),(fun j u hu=>absurd hu (by simp [flat])),(fun x hx=>absurd hx (by simp))⟩
  | succ k ih =>
   intro hk;obtain⟨l,vs,h1,h2,h3,h4,h5,h6,h7⟩:=ih (by omega);obtain⟨cs',h8,h9⟩:=hx k (by omega);have hbk:b H (D k)≤1048576:=vzc (B.selem H _ _ (D k) (v06.2 ⟨k,v08.2 (by omega),rfl⟩)) hb;obtain⟨y,h10,h11⟩:=R.read h9 hbk;obtain⟨hl8,hg8⟩:=vbh h8;obtain⟨h12,h13⟩:=PR.ofCells R h10;have hf:flat (vs++[ofCells (f y).isAgg cs'])=flat vs++cs':=by simp [flat,h13]
   refine⟨l++[y],vs++[ofCells (f y).isAgg cs'],by simp [h1],?_,?_,?_,?_,?_,?_⟩
   ·rw [vyj];exact h2.app ⟨_,_,rfl,h12,rfl⟩
   ·intro v hv;rcases vym.1 hv with hv | hv
    ·exact h3 v hv
    ·simp only [v09] at hv;subst hv;rw [←vxa,h13,hl8]
   ·rw [hf];intro u hu;rcases vym.1 hu with hu | hu
    ·exact h4 u hu
    ·exact h10.one (R.plain y) u hu
   ·rw [hf,vyc,h5,hl8,Nat.succ_mul]
   ·rw [hf];intro j u hu;by_cases hj:j < (flat vs).length
    ·rw [List.getElem?_append_left hj] at hu;exact h6 j u hu
    ·rw [List.getElem?_append_right (by omega),h5] at hu;have:=hg8 _ _ hu;rw [Deep.add_add] at this;have e1:k * P.cellsOf e+(j - k * P.cellsOf e)=j:=by omega
     rwa [e1] at this
   ·intro x hx;rcases vym.1 hx with hx | hx
    ·exact h7 x hx
    ·simp only [v09] at hx;subst hx;exact h11
 obtain⟨l,vs,h1,h2,h3,h4,h5,h6,h7⟩:=key len (vza _);refine⟨l,⟨_,_,rfl,⟨some a,cap,vs,by simp [h1],by simp [h1,hl],h2,?_⟩,rfl⟩,by omega,h7⟩;by_cases h0:len=0
 ·refine .inl ?_;have:=h2.length;simp only [vye,h1,h0] at this;exact v0r.1 this.symm
 ·have hpos:0 < (flat vs).length:=by rw [h5];exact Nat.mul_pos (by omega) hs
  have hc0:=h6 0 _ (vx4 hpos);have e0:a.add 0=a:=rfl;rw [e0] at hc0;have hspot:a=⟨a.block,a.off,none⟩∧a.block < w.heap.size:=by
   unfold World.cell? at hc0;split at hc0
   ·rename_i c e2 fr hb2;refine⟨?_,(vw6.1 hb2).1⟩;split at hc0
    ·cases hc0
    ·rename_i hsp;cases a with
     | mk bl off spot=>cases spot <;> simp_all
   ·cases hc0
  refine .inr ⟨a.block,a.off,P.cellsOf e,by rw [←hspot.1],h3,h4,hspot.2,fun h=>h,fun j u hu=>?_⟩;have:=h6 j u hu;rw [hspot.1] at this;unfold Addr.add at this;by_cases hj:j=0
  ·subst hj;exact this
  ·rw [if_neg hj] at this;exact this
structure RdFs (P:Program) (b:(H:Type)→DataW H→Nat) (fs:List Field) {α:Type} (g:α→List PV) (ok:α→Prop):Prop where
 read:∀{H:Type} {enc:TypeId×Value→H} {w:World} {sp:Nat→Bool} {n:Nat} (cs:Field→List Value),(∀fd∈fs,∃y,DataW.trod enc P w 0 sp true n fd.type (cs fd)=some y∧b H y.1≤1048576)→∃a,PRs NoX w (g a) (fs.flatMap cs)∧ok a
theorem RdFs.nil:RdFs P b [] (fun _:Unit=>[]) (fun _=>True):=⟨fun cs h=>⟨(),rfl,trivial⟩⟩
theorem RdFs.cons {fd:Field} {fs:List Field} {α β:Type} {f:α→PV} {ok:α→Prop} {g:β→List PV} {ok':β→Prop} (R:Rd P b fd.type f ok) (R':RdFs P b fs g ok') :
  RdFs P b (fd :: fs) (fun x:α×β=>(f x.1).cells++g x.2) (fun x=>ok x.1∧ok' x.2):=⟨fun cs h=>by
 obtain⟨y,h1,h2⟩:=h fd (by simp);obtain⟨a,h3,h4⟩:=R.read h1 h2;obtain⟨c,h5,h6⟩:=R'.read cs (fun fd' h'=>h fd' (by simp [h']));exact⟨(a,c),by rw [v0j];exact h3.app h5,h4,h6⟩⟩
def vtu (P:Program):Nat→List Field→Option Nat
 | o,[]=>some o
 | o,f :: r=>if f.offset=o then vtu P (o+P.cellsOf f.type) r else none
theorem q3k {P:Program}:∀{fs:List Field} {o s:Nat} {cs:List Value},vtu P o fs=some s→cs.length=s→fs.flatMap (fun f=>(cs.drop f.offset).take (P.cellsOf f.type))=cs.drop o∧o≤s
 | [],o,s,cs,h,hl=>by
  simp only [vtu,vzs] at h;subst h;refine⟨?_,vza _⟩;rw [List.flatMap_nil,List.drop_of_length_le (by omega)]
 | f :: r,o,s,cs,h,hl=>by
  simp only [vtu] at h;split at h
  ·rename_i ho;obtain⟨h1,h2⟩:=q3k h hl;refine⟨?_,by omega⟩;rw [v0j,h1,ho,←List.drop_drop];exact v1d _ _
  ·cases h
theorem q3l {fs:Array Field} {α β:Type} {f:α→PV} {ok:α→Prop} {g:β→List PV} {ok':β→Prop} (hu:P.underlying t=some (.struct fs)) (hlay:vtu P 0 fs.toList=some (P.cellsOf t)) (B:Bulk b) (R:RdFs P b fs.toList g ok') (mk:β→α)
  (hcells:∀x,(f x).cells.length=P.cellsOf t) (hplain:∀x,∀y∈(f x).cells,y.isAgg=false∧y.isTup=false) (hagg:∀x,(f x).isAgg=true) (hmk:∀y,(f (mk y)).cells=g y) (hok:∀y,ok' y→ok (mk y)):Rd P b t f ok:=by
 refine⟨hcells,hplain,fun x=>by rw [hagg];simp [qap,hu],fun {H enc w sp n cs x} h hb=>?_⟩;obtain⟨xs,m,rfl,rfl,hl,hxl,hx⟩:=DataW.trod_struct hu h;have hall:∀fd∈fs.toList,∃y,DataW.trod enc P w 0 sp true m fd.type ((cs.drop fd.offset).take (P.cellsOf fd.type))=some y∧b H y.1≤1048576:=by
  intro fd hfd;obtain⟨i,hi⟩:=List.mem_iff_getElem?.1 hfd;have hi':fs[i]?=some fd:=by simpa using hi
  have h1:=hx i fd hi';have hlt:i < xs.length:=by rw [hxl];exact (vw6.1 hi').1
  rw [vx4 hlt] at h1;exact⟨_,h1,vzc (B.part H _ _ (v06.2 ⟨_,List.getElem_mem hlt,rfl⟩)) hb⟩
 obtain⟨y,h1,h2⟩:=R.read _ hall;refine⟨mk y,?_,hok y h2⟩;rw [hmk];obtain⟨h3,_⟩:=q3k (cs:=cs) hlay hl;rw [h3] at h1;exact h1
theorem Rd.val {α:Type} {f:α→PV} {ok:α→Prop} (R:Rd P b t f ok) {H:Type} {enc:TypeId×Value→H} {w:World} {sp:Nat→Bool} {base:Nat} {v:Value} {d:DataW H} {ps:List MemPlace}
  (hval:Value.okWide P w .any base t v) (h:DataW.Trod enc P w 0 sp true t v d ps) (hb:b H d≤1048576):∃a,PR NoX w (f a) v∧ok a:=by
 obtain⟨n,hn⟩:=h;obtain⟨a,h1,h2⟩:=R.read hn hb;refine⟨a,?_,h2⟩;obtain⟨h3,h4⟩:=PR.ofCells R h1;have hag:=R.agg a;have:ofCells (f a).isAgg v.cells.toList=v:=by
  unfold Ab.ofCells;unfold Value.okWide at hval;unfold qap at hag;cases hu:P.underlying t with
  | none=>rw [hu] at hag;cases hag
  | some u =>
   rw [hu] at hag hval;have hone:=h1.one (R.plain a);cases hf:(f a).isAgg with
   | true =>
    rw [hf] at hag;simp only [if_true];cases u <;> simp at hag hval
    ·obtain⟨cs,rfl,_⟩:=hval;simp [Value.cells]
    ·obtain⟨cs,rfl,_⟩:=hval;simp [Value.cells]
   | false =>
    rw [hf] at hag;simp only [vxj,if_false];have hnag:∀cs,v≠.agg cs:=by
     rintro cs rfl;cases u <;> simp [Cell.okWide,Cell.ok,hu] at hval hag
    cases v <;> first | rfl | exact absurd rfl (hnag _)
 rw [this] at h3;exact h3
theorem Fr.kept {w w':World} (h:Fr D w w'):w.keptBut w' (fun _=>False):=by
 refine⟨h.os,h.output,fun i hi=>?_⟩;rw [h.blk i hi];cases hx:w.heap[i]? with
 | none=>trivial
 | some o=>cases o <;> first | exact⟨rfl,rfl,rfl,fun _ _=>rfl⟩ | exact .inr ⟨rfl,rfl⟩ | rfl
theorem Fr.same {w w':World} (h:Fr D w w') {p:MemPlace} (hp:p.block < w.heap.size):w.sameAt w' p:=by
 cases p with
 | cell c o=>exact World.cell?_of_block (h.blk c hp)
 | map c=>exact h.blk c hp
theorem qtq {H:Type} {enc:TypeId×Value→H} {w w':World} {base:Nat} {sp:Nat→Bool} {held:Bool}:∀{ts:List TypeId} {vs:List Value} {ds:List (DataW H)} {ps:List MemPlace},
  DataW.TrodAll enc P w base sp held ts vs ds ps→(∀p∈ps,w.sameAt w' p)→DataW.TrodAll enc P w' base sp held ts vs ds ps
 | [],[],[],_,h,_=>h
 | _ :: _,_ :: _,_ :: _,_,⟨p,q,⟨n,h1⟩,h2,e⟩,hs=>⟨p,q,⟨n,DataW.trod_carry n _ _ _ h1 fun x hx=>hs x (by rw [e];exact v00 _ hx)⟩,qtq h2 (fun x hx=>hs x (by rw [e];exact v01 _ hx)),e⟩
theorem vd7 {H:Type} {enc:TypeId×Value→H} {f:Func} {s:ChangeSpec} {apart fresh handsOn again:Bool} {W W':World} {args:Array Value} {v:Value} {ds gs:List (DataW H)} {before pa pv:List MemPlace}
  (hW:DataW.Whole enc P f.params.toList s.vars apart W args.toList ds gs before)
  (hres:∀(b:Nat) (sp:Nat→Bool) (hd:Bool),DataW.TrodAll enc P W' b sp hd f.resultTypes.toList (v.resultList f.resultTypes.size) (s.fn H (ds++gs)).results [])
  (hargs:∀sp:Nat→Bool,(∀p∈before,sp p.block=true)→DataW.TrodAll enc P W' 0 sp true f.params.toList args.toList (s.fn H (ds++gs)).args pa)
  (hvars:∀sp:Nat→Bool,(∀p∈before,sp p.block=true)→DataW.TrodVars enc P W' sp s.vars (s.fn H (ds++gs)).vars pv)
  (hps:before=pa++pv) (hk:W.keptBut W' (·∈before)) (hfz:∀b off,MemPlace.cell b off∈before→W'.frozen? ⟨b,off,none⟩=W.frozen? ⟨b,off,none⟩)
  (hok:∀(j:Nat) (t:TypeId) (r:Value),f.resultTypes[j]?=some t→(v.resultList f.resultTypes.size)[j]?=some r→Value.okWide P W' .any 0 t r) :
  s.post enc P f apart fresh handsOn again W args v W':=by
 have hold:∀p∈before,(fun b=>decide (b < W.heap.size)) p.block=true:=fun p hp=>by simpa using hW.lt p hp
 refine⟨ds,gs,before,[],pa,pv,hW,hres _ _ _,hargs _ hold,hvars _ hold,World.keptBut_mono (fun p hp=>⟨hp,?_⟩) hk,fun _=>?_⟩
 ·rw [hps,vym] at hp;exact Or.inr hp
 obtain⟨_,_,_,_,_,hz,hn⟩:=hW;refine⟨hok,_,_,([]++pa)++pv,⟨[]++pa,pv,ChangeShapes.trodAll_append (hargs _ (fun _ _=>rfl)) (hres _ _ _),hvars _ (fun _ _=>rfl),rfl,?_,?_⟩,?_⟩
 ·intro b off hp;have hp':MemPlace.cell b off∈before:=by rw [hps];simpa using hp
  rw [hfz b off hp'];exact hz b off hp'
 ·intro ha;have:=hn ha;rw [hps] at this;simpa using this
 ·intro p hp _;rw [hps];simpa using hp
theorem vic {H:Type} {enc:TypeId×Value→H} {f:Func} {s:ChangeSpec} {W:World} {args:Array Value} {ds gs:List (DataW H)} {before:List MemPlace} {k:FuncId} {tb:TypeId} {pvs:List PV}
  (hW:DataW.Whole enc P f.params.toList s.vars false W args.toList ds gs before) (hv:s.vars=[]) (hfn:s.fn H ds={ results:=[.lit (.bool true)],args:=ds }) (hres:f.resultTypes=#[tb]) (htb:P.underlying tb=some .bool)
  (hl:laidOutB P=true) (hm:mapsRowed P=true) (hz:((vyu P.types.size).all fun t=>match P.underlying t with | some (.slice e)=>decide (0 < P.cellsOf e) | _=>true)=true) (hts:∀t∈f.params.toList,t < P.types.size)
  (hcon:Con D P k pvs (.bool true)) (htab:TabOk P NoX W) (hpr:PRs NoX W pvs args.toList) :
  Calls P k args W fun e W'=>∃v,e=.returned v∧s.post enc P f false true false false W args v W':=by
 have hW':=hW;obtain⟨p,q,hA,hV,rfl,hfz,hnd⟩:=hW;rw [hv] at hV;obtain⟨rfl,rfl⟩:=ChangeShapes.trodVars_none hV;have hlt:=hW'.lt;simp only [vxs] at hW' hlt;have hc:=hcon.pure NoX W args.toList (fun b hb=>hb.elim) htab hpr;rw [Array.toArray_toList] at hc;refine hc.mono ?_;rintro e W' ⟨v,rfl,hv',hfr⟩;simp only [PR] at hv';subst hv';refine⟨_,rfl,?_⟩;have K:=kids_rows hl hm;have hss:=slices_full_of P hz;refine vd7 (pa:=p) (pv:=[]) hW' ?_ ?_ ?_ (by simp) (World.keptBut_mono (fun _ h=>h.elim) hfr.kept) (fun b off hp=>hfr.fz ⟨b,off,none⟩ (hlt _ hp)) ?_
 ·intro b0 sp hd;simp only [vxs,hfn,hres];exact trodAll_cons_mk (RowKit.shut_bool htb _) ChangeShapes.trodAll_mk0
 ·intro sp hsp;simp only [vxs,hfn];exact qtq (DataW.TrodAll.respare K hss hts hA (fun x hx=>hsp x hx)) (fun x hx=>hfr.same (hlt x hx))
 ·intro sp _;rw [hv];simp only [vxs,hfn];rfl
 ·exact RowKit.ok_one hres rfl (RowKit.okWide_bool_mk htb _)
end Go.Ab
namespace Go.Ab
open Go
def quy {K V:Type} [DecidableEq K]:List (K×V)→K→Option V
 | [],_=>none
 | (a,v) :: r,k=>if k=a then some v else quy r k
def qzg {K V:Type} [DecidableEq K]:List (K×V)→K→V→List (K×V)
 | [],k,v=>[(k,v)]
 | (a,u) :: r,k,v=>if k=a then (a,v) :: r else (a,u) :: qzg r k v
def qg2 {K V:Type} (f:K→PV) (m:List (K×V)):List PV:=m.map fun p=>f p.1
def qhc {K V:Type} (f:V→PV) (m:List (K×V)):List PV:=m.map fun p=>f p.2
def encM {K V:Type} (f:K→PV) (g:V→PV) (m:List (K×V)):PV:=.mapv (qg2 f m) (qhc g m)
@[go_sem] theorem encM_eq {K V:Type} (f:K→PV) (g:V→PV) (m:List (K×V)):encM f g m=.mapv (qg2 f m) (qhc g m):=rfl
@[go_sem] theorem encK_len {K V:Type} (f:K→PV) (m:List (K×V)):(qg2 f m).length=m.length:=by simp [qg2]
theorem vd8 {K V:Type} [DecidableEq K] (P:Program) (kt:TypeId) (f:K→PV) (hk:∀a b,qpm P kt (f a) (f b)=some (decide (a=b))) (k:K) (m:List (K×V)) (g:V→PV):qsk P kt (f k) (qg2 f m) ((qhc g m).map AV.p)=some ((quy m k).map fun v=>AV.p (g v)):=by
 induction m with
 | nil=>rfl
 | cons p r ih =>
  obtain⟨a,v⟩:=p;simp only [qg2,qhc,vyk,qsk,hk,quy] at ih ⊢;by_cases h:k=a
  ·simp [h]
  ·simp only [decide_eq_false h,if_neg h];exact ih
theorem vid {K V:Type} [DecidableEq K] (P:Program) (kt:TypeId) (f:K→PV) (hk:∀a b,qpm P kt (f a) (f b)=some (decide (a=b))) (k:K) (m:List (K×V)) (g:V→PV) (v:V):q8i P kt (f k) (.p (g v)) (qg2 f m) ((qhc g m).map AV.p)=some (qg2 f (qzg m k v),(qhc g (qzg m k v)).map AV.p):=by
 induction m with
 | nil=>rfl
 | cons p r ih =>
  obtain⟨a,u⟩:=p;simp only [qg2,qhc,vyk,q8i,hk,qzg] at ih ⊢;by_cases h:k=a
  ·simp [h]
  ·simp only [decide_eq_false h,if_neg h,ih];rfl
@[go_sem] theorem getD_map {α β:Type} (F:α→β) (o:Option α) (z:α):(o.map F).getD (F z)=F (o.getD z):=by cases o <;> rfl
attribute [go_sem] Option.isSome_map
def q1g (D : Nat → Bool) (n l g : Nat) : L PV := if D l then .look l fun o => match o with
      | .map g' ks vs => if g = g' then (qas (qdn D n) ks).bind fun xs => (qas (qdn D n) vs).bind fun ys => .ret (.mapv xs ys) else .fail
      | _ => .fail
    else .fail
theorem vbi (D:Nat→Bool) (l g:Nat):qdn D 9 (.mapo l g)=q1g D 8 l g:=rfl
theorem vbj (D:Nat→Bool) (l g:Nat):qdn D 8 (.mapo l g)=q1g D 7 l g:=rfl
theorem vbk (D:Nat→Bool) (l g:Nat):qdn D 7 (.mapo l g)=q1g D 6 l g:=rfl
attribute [go_sem] vbi vbj vbk q1g
end Go.Ab
namespace Go.Ab
variable {D:Prop}
open Go
variable {C:Cx} {Q:Exit→St→Prop} {st:St}
def qja:Nat→List AV→Env
 | _,[]=>[]
 | k,x :: r=>(k,x) :: qja (k+1) r
theorem qnh:∀(ps:List AV) (vs:List Value) (k t:Nat) {X:Nat→Prop} {inj:Inj} {σ:Nat→AO} {w:World},ARs X inj σ w ps vs →
  AR X inj σ w ((qja k ps).get t) (if k≤t then vs.getD (t - k) undef else undef)
 | [],_,k,t,_,_,_,_,_=>trivial
 | p :: ps,_,k,t,X,inj,σ,w,h=>by
  obtain⟨v,r,rfl,h2,h3⟩:=h;simp only [qja,Env.get];by_cases hk:k=t
  ·subst hk;rw [if_pos rfl,if_pos (vza _)];simpa using h2
  ·rw [if_neg hk];have:=qnh ps r (k+1) t (X:=X) (inj:=inj) h3;by_cases hle:k≤t
   ·rw [if_pos hle];rw [if_pos (by omega)] at this;have e:t - k=(t - (k+1))+1:=by omega
    rw [e];simpa using this
   ·rw [if_neg hle];rw [if_neg (by omega)] at this;exact this
def inlQ (C:Cx) (ops:Array Oper) (o:Oper) (rest:List Oper) (Q:Exit→St→Prop) (st:St) (fn:Func):Exit→St→Prop :=
 fun e s=>(e=.normal∨e=.ret)∧∃v,vas C.P s fn.results.toList=some v∧AL C ops rest Q ⟨qdh st.env o.dst v,s.heap⟩
theorem qc7 {ops:Array Oper} {o:Oper} {rest:List Oper} {f:Operand} {args:Array Operand} {ats:Array TypeId} {k:FuncId} {avs:List AV} {fn:Func} {c:Code} {N':Nat} (B':Nat)
  (ho:o.op=.call ⟨.value f,args,ats⟩) (hg:qau ops st.env o=some true) (hd:qbg C.N o=true) (hf:C.P.funcs[k]?=some fn) (hb:fn.body=some c) (hk:HasBody C.P k) (hN:fn.ntmps=N') (hn:avs.length≤N')
  (hc:qbq st.env f args.toList=some (k,avs))
  (h:∀inj w hT,AWp ⟨C.P,N',B',C.X,st.heap,inj,w,C.D,hT⟩ c (inlQ C ops o rest Q st fn) ⟨qja 0 avs,st.heap⟩):AL C ops (o :: rest) Q st:=by
 subst hN;intro inj a w hs;simp only [wpList,qa9 hs hg,if_true];refine .inl ?_;obtain⟨vs,hrun,hars⟩:=qjy hs ho hk hc;unfold Oper.wp;rw [hrun];simp only [Oper.upon];have hl:=hars.length;refine calls_of_wp hf hb (wp_mono (h inj w (qmb hs.ev) inj _ w ⟨fun t=>?_,?_,rfl,hs.hr,Ev.refl _ _ _ _⟩) ?_)
 ·have:=qnh avs vs 0 t hars;simp only [v1m,if_true,vzk] at this;have e:(vs.toArray++Array.replicate (fn.ntmps - vs.toArray.size) undef).getD t undef=vs.getD t undef:=by
   by_cases ht:t < vs.length
   ·simp [vw5,ht]
   ·simp only [Array.getD_eq_getD_getElem?,vw5,vyx,ht,if_false,Array.getElem?_replicate];rw [v0k,vx5 (by omega)];split <;> rfl
  rw [e];exact this
 ·simp [←hl];omega
 ·intro e a' w' ⟨s,inj',hs',hq⟩;obtain⟨hex,v,hv,hal⟩:=hq;obtain⟨val,h1,h2⟩:=qre hs' hv;have hev:Ev C.D C.X inj st.sig w inj' s.sig w':=hs'.ev;have hput:SR C ⟨qdh st.env o.dst v,s.heap⟩ inj' (a.put o.dst val) w':=by
   have h3:=hs.put (o:=o) (u:=none) hd hs.hr (Ev.refl _ _ _ _) (v:=.any) (val:=val) trivial;refine⟨fun t=>?_,h3.size,h3.defers,hs'.hr,hs.ev.trans hev⟩;cases hdst:o.dst with
   | none =>
    have:=h3.env t;rw [hdst] at this;simpa [qdh,Act.put] using AR.ev hev hs.hr.xlt _ _ (hs.env t)
   | some d =>
    simp only [qbg,hdst,decide_eq_true_eq] at hd;simp only [qdh,Act.put,Env.get];by_cases ht:d=t
    ·subst ht;rw [if_pos rfl];have:(a.tmps.setIfInBounds d val).getD d undef=val:=by simp [hs.size,hd]
     rw [this];exact h2
    ·rw [if_neg ht];have:(a.tmps.setIfInBounds d val).getD t undef=a.tmps.getD t undef:=by simp [vw8 ht]
     rw [this];exact AR.ev hev hs.hr.xlt _ _ (hs.env t)
  rcases hex with rfl | rfl
  ·exact⟨hs'.defers,val,h1,hal inj' _ _ hput⟩
  ·exact⟨hs'.defers,val,h1,hal inj' _ _ hput⟩
theorem qay {ops:Array Oper} {o:Oper} {rest:List Oper} {fn:Func} {s:St} {v:AV} (h1:vas C.P s fn.results.toList=some v) (h2:AL C ops rest Q ⟨qdh st.env o.dst v,s.heap⟩):inlQ C ops o rest Q st fn .ret s:=⟨.inr rfl,v,h1,h2⟩
@[go_sem] theorem vtv {α β:Type} (f:α→β) (l:List α) (i:Nat) (y:α):(l.map f).set i (f y)=(l.set i y).map f:=by rw [List.map_set]
@[go_sem] theorem vlp {α:Type} (f:α→PV) (l:List (List α)) (i:Nat) (y:List α):(l.map (qal f)).set i (.slc (v0v f y))=(l.set i y).map (qal f):=by rw [List.map_set];rfl
attribute [go_sem] qja
theorem zF {P:Prop} (h:P:=by (repeat' refine And.intro ?_ ?_) <;> first | rfl | (simp;done) | (simp;rfl) | (simp [*];done) | (simp [*];rfl)):P:=h
theorem zV {P:Prop} (h:P:=by simp only [go_sem,seval, *];all_goals exact zF):P:=h
theorem zs {x y:Code} (h:AWp C x (qv6 (fun s=>AWp C y Q s) Q) st):AWp C (.seq x y) Q st:=qh1 h
theorem zr {id:Nat} {l:List Oper} (h:AL C l.toArray l Q st):AWp C (.region id l.toArray false) Q st:=qgj h
theorem zb {id:Nat} {c:Code} (h:AWp C c (qqa id Q) st):AWp C (.block id c) Q st:=qxd h
theorem zk (h:Q .normal st):AWp C .skip Q st:=qrd h
theorem zq (h:Q .ret st):AWp C .ret Q st:=qxc h
theorem zx {id:Nat} (h:Q (.exit id) st):AWp C (.exit id) Q st:=q8n h
theorem zl {ops:Array Oper} (h:Q .normal st):AL C ops [] Q st:=qp9 h
theorem zn {K:St→Prop} {s:St} (h:K s):qv6 K Q .normal s:=h
theorem zt {K:St→Prop} {s:St} (h:Q .ret s):qv6 K Q .ret s:=h
theorem ze {K:St→Prop} {s:St} {i:Nat} (h:Q (.exit i) s):qv6 K Q (.exit i) s:=h
theorem yn {i:Nat} {s:St} (h:Q .normal s):qqa i Q .normal s:=h
theorem yr {i:Nat} {s:St} (h:Q .ret s):qqa i Q .ret s:=h
theorem yh {i:Nat} {s:St} (h:Q .normal s):qqa i Q (.exit i) s:=q58 h
theorem yd {l:Array Oper} {acc:List Evt} (h:Q .normal st) (hev:qu8 l acc.reverse=true:=by kernel_rfl):DGo C l [] st acc (DK C l Q):=DGo.fin hev h
theorem zU {ops:Array Oper} {o:Oper} {l l1 l2:List Oper} {st':St} (h:AL C ops l2 Q st') (hs:spl l=(o :: l1,l2):=by exact rfl) (hr:qpn C.P C.N C.B ops (o :: l1) st=(st',[]):=by simp only [go_sem,seval, *];exact rfl):AL C ops l Q st:=qo4 hs hr h
theorem zW {ops:Array Oper} {l:List Oper} (n:Nat) {st':St} (h:AL C ops (l.drop n) Q st') (hr:qpn C.P C.N C.B ops (l.take n) st=(st',[]):=by simp only [go_sem,seval, *];exact rfl):AL C ops l Q st:=vd5 n hr h
theorem yU {ops:Array Oper} {K:List Evt→St→Prop} {o:Oper} {l l1 l2:List Oper} {acc acc':List Evt} {st':St} (h:DGo C ops l2 st' acc' K) (hs:spl l=(o :: l1,l2):=by exact rfl)
  (hr:qk6 C.P C.N C.B ops (o :: l1) st acc=(acc',st',[]):=by simp only [go_sem,seval, *];first | exact⟨rfl,rfl⟩ | exact rfl):DGo C ops l st acc K:=DGo.upto hs hr h
theorem zg {ops:Array Oper} {o:Oper} {rest:List Oper} {st':St} (h:AL C ops rest Q st') (hg:qau ops st.env o=some true:=by first | exact qbh rfl rfl (by exact rfl) (by exact rfl) | exact qaw rfl) (hd:qbg C.N o=true:=by rfl)
  (hr:((aop C.P C.B (ev st.env) o).run (qa0 st.heap)).map (fun vu=>(⟨qdh st.env o.dst vu.1,qp1 st.heap vu.2⟩:St))=some st':=by simp only [go_sem,seval, *];exact rfl):AL C ops (o :: rest) Q st:=vd4 hg hd hr h
theorem yg {ops:Array Oper} {K:List Evt→St→Prop} {o:Oper} {rest:List Oper} {acc:List Evt} {st':St} {e:Evt} (h:DGo C ops rest st' (e :: acc) K) (hg:qau ops st.env o=some true:=by first | exact qbh rfl rfl (by exact rfl) (by exact rfl) | exact qaw rfl) (hd:qbg C.N o=true:=by rfl)
  (hr:((aop C.P C.B (ev st.env) o).run (qa0 st.heap)).map (fun vu=>((⟨vu.1,vu.2,(aop C.P C.B (ev st.env) o).reads (qa0 st.heap)⟩:Evt),(⟨qdh st.env o.dst vu.1,qp1 st.heap vu.2⟩:St)))=some (e,st'):=by simp only [go_sem,seval, *];first | exact⟨rfl,rfl⟩ | exact rfl):DGo C ops (o :: rest) st acc K:=DGo.gt' hg hd hr h
theorem zc {ops:Array Oper} {o:Oper} {rest:List Oper} {f:Operand} {args:Array Operand} {ats:Array TypeId} {k:FuncId} {avs:List AV} {pargs:List PV} {r:PV} {st':St}
  (hp:Con C.D C.P k pargs r) (h:AL C ops rest Q st')
  (ho:o.op=.call ⟨.value f,args,ats⟩:=by rfl) (hg:qau ops st.env o=some true:=by first | exact qaw rfl | exact qbh rfl rfl (by exact rfl) (by exact rfl)) (hd:qbg C.N o=true:=by rfl)
  (hc:qbq st.env f args.toList=some (k,avs):=by simp only [go_sem,seval, *];exact rfl) (hv:(qas (qdn (fun _=>true) 9) avs).run (qa0 st.heap)=some pargs:=by simp only [go_sem,seval, *];all_goals exact zF)
  (hfl:(qoz avs).isSome=true∨r.flat=true:=by first | exact .inr rfl | exact .inl rfl | exact .inl (by simp only [go_sem]))
  (hs:(⟨qdh st.env o.dst (.p r),st.heap⟩:St)=st':=by rfl):AL C ops (o :: rest) Q st:=vn0 ho hg hd hc hv hp hfl hs h
theorem yc {ops:Array Oper} {K:List Evt→St→Prop} {o:Oper} {f:Operand} {args:Array Operand} {ats:Array TypeId} {rest:List Oper} {acc:List Evt}
  {k:FuncId} {avs:List AV} {pargs:List PV} {r:PV} {rs:List Nat} {st':St}
  (hp:Con C.D C.P k pargs r) (h:DGo C ops rest st' (⟨.p r,none,rs⟩ :: acc) K)
  (ho:o.op=.call ⟨.value f,args,ats⟩:=by rfl) (hg:qau ops st.env o=some true:=by first | exact qaw rfl | exact qbh rfl rfl (by exact rfl) (by exact rfl)) (hd:qbg C.N o=true:=by rfl)
  (hc:qbq st.env f args.toList=some (k,avs):=by simp only [go_sem,seval, *];exact rfl) (hv:(qas (qdn (fun _=>true) 9) avs).run (qa0 st.heap)=some pargs:=by simp only [go_sem,seval, *];all_goals exact zF)
  (hrs:(qas (qdn (fun _=>true) 9) avs).reads (qa0 st.heap)=rs:=by simp only [go_sem,seval, *];exact rfl)
  (hfl:(qoz avs).isSome=true∨r.flat=true:=by first | exact .inr rfl | exact .inl rfl | exact .inl (by simp only [go_sem]))
  (hs:(⟨qdh st.env o.dst (.p r),st.heap⟩:St)=st':=by rfl):DGo C ops (o :: rest) st acc K:=DGo.con' ho hg hd hc hv hrs hp hfl hs h
theorem yS {ops:Array Oper} {K:List Evt→St→Prop} {o:Oper} {t:TypeId} {len:Nat} {parts:Array (Nat×Operand)} {rest:List Oper} {st':St} {acc:List Evt} {v:AV} {u:Upd} {x:PV} {r1 r2:List Nat} (k:Nat)
  (h:DGo C ops rest st' (⟨.p x,none,r1++r2⟩ :: acc) K) (ho:o.op=.buildSlice t len parts:=by rfl) (hg:qau ops st.env o=some true:=by first | exact qaw rfl | exact qbh rfl rfl (by exact rfl) (by exact rfl)) (hd:qbg C.N o=true:=by rfl) (hk:qjf C.B o=k:=by rfl)
  (hr:(aop C.P C.B (ev st.env) o).run (qa0 st.heap)=some (v,u):=by simp only [go_sem,seval, *];first | exact⟨rfl,rfl⟩ | exact rfl) (h1:(aop C.P C.B (ev st.env) o).reads (qa0 st.heap)=r1:=by simp only [go_sem,seval, *];exact rfl)
  (hv:(qdn (fun l=>l == k) 9 v).run (qa0 (qp1 st.heap u))=some x:=by simp only [go_sem,seval, *];all_goals exact zF) (h2:(qdn (fun l=>l == k) 9 v).reads (qa0 (qp1 st.heap u))=r2:=by simp only [go_sem,seval, *];exact rfl)
  (hs:(⟨qdh st.env o.dst (.p x),st.heap⟩:St)=st':=by rfl):DGo C ops (o :: rest) st acc K:=DGo.built ho hg hd hk hr h1 hv h2 hs h
theorem zw {ops:Array Oper} {l:List Oper} (d:Nat) (b:Bool) {h:List (Nat×AO)} {env:Env} (k:AL C ops l Q ⟨(d,.p (.bool b)) :: env,h⟩) (hv:env.get d=.p (.bool b):=by simp only [go_sem,seval, *];all_goals first | assumption | exact Bool.eq_false_iff.2 (by assumption)):AL C ops l Q ⟨env,h⟩:=vib hv k
theorem yw {l0:Array Oper} {l:List Oper} (d:Nat) (b:Bool) {h:List (Nat×AO)} {env:Env} {acc:List Evt} (k:DGo C l0 l ⟨(d,.p (.bool b)) :: env,h⟩ acc (DK C l0 Q)) (hv:env.get d=.p (.bool b):=by simp only [go_sem,seval, *];all_goals first | assumption | exact Bool.eq_false_iff.2 (by assumption)):DGo C l0 l ⟨env,h⟩ acc (DK C l0 Q):=DGo.known' hv k
theorem zi {c:Operand} {x y:Code} (h:AWp C x Q st) (hc:ev st.env c=.p (.bool true):=by simp only [go_sem,seval, *];all_goals first | assumption | exact Bool.eq_false_iff.2 (by assumption)):AWp C (.cond c x y) Q st:=vlm hc h
theorem zj {c:Operand} {x y:Code} (h:AWp C y Q st) (hc:ev st.env c=.p (.bool false):=by simp only [go_sem,seval, *];all_goals first | assumption | exact Bool.eq_false_iff.2 (by assumption)):AWp C (.cond c x y) Q st:=q3j hc h
theorem zh {ops:Array Oper} {l l':List Oper} {env env':Env} {h:List (Nat×AO)} (k:AL C ops l' Q ⟨env',h⟩) (he:qxp C.N ops l env=(l',env'):=by exact rfl):AL C ops l Q ⟨env,h⟩:=q8t he k
theorem yk {l0:Array Oper} {K:List Evt→St→Prop} {l l':List Oper} {env env':Env} {acc acc':List Evt} {h:List (Nat×AO)} (k:DGo C l0 l' ⟨env',h⟩ acc' K) (he:qtp C.N l0 l env acc=(l',env',acc'):=by exact rfl):DGo C l0 l ⟨env,h⟩ acc K:=DGo.skips he k
theorem zE {s s':St} (h:Le C s s':=by simp only [go_sem,seval, *];all_goals exact zF):Le C s s':=h
theorem zL {c:Code} (st':St) (k:AWp C c Q st') (h:Le C st st':=by simp only [go_sem,seval, *];all_goals exact zF):AWp C c Q st:=qz6 h k
theorem zM {ops:Array Oper} {l:List Oper} (st':St) (k:AL C ops l Q st') (h:Le C st st':=by simp only [go_sem,seval, *];all_goals exact zF):AL C ops l Q st:=vmv h k
theorem zT {P:Program} {fn:Func} {r:PV} {s:St} {v:AV} {rs:_} (he:fn.results=rs) (h1:vas P s rs.toList=some v:=by simp only [go_sem,seval, *];exact rfl) (h2:(qdn (fun _=>true) 9 v).run s.sig=some r:=by simp only [go_sem,seval, *];all_goals exact zF):vlh P fn r .ret s:=qwj (by rw [he];exact h1) h2
theorem yT {P:Program} {fn:Func} {r:PV} {s:St} {v:AV} {rs:_} (he:fn.results=rs) (h1:vas P s rs.toList=some v:=by simp only [go_sem,seval, *];exact rfl) (h2:(qdn (fun _=>true) 9 v).run s.sig=some r:=by simp only [go_sem,seval, *];all_goals exact zF):vlh P fn r .normal s:=vts (by rw [he];exact h1) h2
theorem q6l (k:Nat):argsEnv k []=[]:=rfl
theorem q3m (k:Nat) (x:PV) (r:List PV):argsEnv k (x :: r)=(k,.p x) :: argsEnv (k+1) r:=rfl
theorem zP {P:Program} {f:FuncId} {fn:Func} {c:Code} {args:List PV} {r:PV} {N:Nat} {env:Env} (hk:HasBody P f) (hf:P.funcs[f]?=some fn) (hb:fn.body=some c) (hN:fn.ntmps=N)
  (h:∀X w hT,AWp ⟨P,N,0,X,[],fun _=>none,w,D,hT⟩ c (vlh P fn r) ⟨env,[]⟩) (hn:args.length≤N:=by simp) (he:argsEnv 0 args=env:=by simp only [q6l,q3m,Nat.reduceAdd];exact rfl):Con D P f args r :=
 ⟨hk,qsn hf hb hN hn (by subst he;exact h)⟩
theorem zB {α β:Type} {x:Option α} {f:α→Option β} {r:β} (h:x.bind f=some r):∃a,x=some a∧f a=some r:=v1n.1 h
theorem zI {c:Prop} [Decidable c] {α:Type} {a b:Option α} {r:α} (h:(if c then a else b)=some r):(c∧a=some r)∨(¬c∧b=some r):=by
 split at h
 ·exact .inl ⟨‹c›,h⟩
 ·exact .inr ⟨‹_›,h⟩
theorem zX {α β:Type} {l:List α} {i:Int} {f:α→Option β} {r:β} (h:(idx l i).bind f=some r):∃x,l[i.toNat]?=some x∧0≤i∧i < (l.length:Int)∧f x=some r:=by
 obtain⟨x,h1,h2⟩:=v1n.1 h;obtain⟨a,b,c⟩:=vh8 h1;exact⟨x,b,a,c,h2⟩
theorem zY {α β:Type} {l:List α} {n:Nat} (k:Int) {f:α→Option β} {r:β} (h:(l[n]?).bind f=some r) (hk:(n:Int)=k:=by rfl):∃x,l[n]?=some x∧n < l.length∧k < (l.length:Int)∧f x=some r:=by
 obtain⟨x,h1,h2⟩:=v1n.1 h;have:=qb9 h1;exact⟨x,h1,this,by omega,h2⟩
def tE (C:Cx) (k:Exit) (t:St) (e:Exit) (s:St):Prop:=e=k∧Le C s t
def tR (P:Program) (fn:Func) (r:PV) (e:Exit) (s:St):Prop:=e=.ret∧vlh P fn r .ret s
theorem zO {σ τ:Type} {c:Code} {B:σ→Option (LS σ τ)} {s0:σ} {t:τ} (S:σ→St) (T:τ→Exit→St→Prop) (hL:qaj B s0=some t)
  (round:∀s x,B s=some x→AWp C c (LP C S T x) (S s)) (post:∀e s,T t e s→Wk C Q e s) (h0:Le C st (S s0):=by simp only [go_sem,seval, *];all_goals exact zF)
  (hn:∀t s,¬T t .normal s:=by intro o s hT;first | (have hh:=hT.1;cases hh;done) | (rcases o with _ | _ <;> (have hh:=hT.1;cases hh);done) | (rcases o with _ | (_ | _) <;> (have hh:=hT.1;cases hh);done) | (rcases o with _ | (_ | (_ | _)) <;> (have hh:=hT.1;cases hh);done)):AWp C (.loop c) Q st:=vbg S T hn hL h0 round post
theorem zA {k:Exit} {t:St} (h:Q k t):∀e s,tE C k t e s→Wk C Q e s:=by
 rintro e s ⟨rfl,hl⟩;exact Wk.to hl h
theorem zZ {P:Program} {fn:Func} {r:PV} (h:∀s,vlh P fn r .ret s→Q .ret s):∀e s,tR P fn r e s→Wk C Q e s:=by
 rintro e s ⟨rfl,hq⟩;exact Wk.now (h s hq)
theorem zJ {τ:Type} {x y:Code} (T:τ→Exit→St→Prop) (o:τ) (h:AWp C x (T o) st) (hq:∀e s,T o e s→Wk C (qv6 (fun s=>AWp C y Q s) Q) e s):AWp C (.seq x y) Q st:=vh7 h hq
end Go.Ab
namespace Go.Ab
variable {D:Prop}
open Go
variable {X:Nat→Prop} {inj:Inj} {σ:Nat→AO} {w:World}
theorem q1h (F cur:Array Value) (h:F.size≤cur.size):(Sort.putCells id 0 F cur).toList.take F.size=F.toList∧(Sort.putCells id 0 F cur).size=cur.size:=by
 refine⟨?_,by simp [Sort.putCells]⟩;apply vxy;intro k;simp only [Sort.putCells,vya,vw9,vzz];by_cases hk:k < F.size
 ·have hc:k < cur.size:=by omega
  simp [hk,hc]
 ·simp [hk]
theorem HR.rows (h:HR X inj σ w) {l e sz g b c m:Nat} {es es':List AV} {vs':List Value} {os:Array Obj} (hl:σ l=.arr e sz g es) (hi:inj l=some (b,c))
  (hlen:es'.length=es.length) (hes:ARs X inj σ w es' vs') (hs:∀v∈vs',v.cells.size=sz) (hone:qbi (flat vs')) :
  HR X inj (qiq σ l (.arr e sz g es')) (Sort.grow (Sort.putRow id (Sort.ahead w m) b 0 (flat vs').toArray) os) ∧
  Ev D X inj σ w inj (qiq σ l (.arr e sz g es')) (Sort.grow (Sort.putRow id (Sort.ahead w m) b 0 (flat vs').toArray) os):=by
 obtain⟨vs,h1,h2,h3,h4⟩:=h.obj l _ hl;rcases h4 with⟨h4,_⟩|⟨b',c',cur,h5,h6,h7,h8,h9,h10,h11⟩
 ·rw [hi] at h4;cases h4
 rw [hi] at h5;cases h5;have hb:b < w.heap.size:=(vw6.1 h7).1;have hold:∀k,k < w.heap.size→k≠b→(Sort.grow (Sort.putRow id (Sort.ahead w m) b 0 (flat vs').toArray) os).heap[k]?=w.heap[k]?:=by
  intro k hk hne;rw [Sort.heap_grow_old _ _ (by simp [Sort.putRow,Sort.mapBlock,Sort.ahead];exact hk)];simp [Sort.putRow,Sort.mapBlock,Sort.ahead,vz0,Ne.symm hne]
 have hnew:(Sort.grow (Sort.putRow id (Sort.ahead w m) b 0 (flat vs').toArray) os).heap[b]?=some (.cells (Sort.putCells id 0 (flat vs').toArray cur) e (0,0)):=by
  rw [Sort.heap_grow_old _ _ (by simp [Sort.putRow,Sort.mapBlock,Sort.ahead];exact hb)];simp [Sort.putRow,Sort.mapBlock,Sort.ahead,vz0,h7,Sort.onCells]
 have hup:=h.update (D:=D) (w':=Sort.grow (Sort.putRow id (Sort.ahead w m) b 0 (flat vs').toArray) os) (l:=l) (o:=.arr e sz g es) (o':=.arr e sz g es') (x:=inj l) hl rfl rfl rfl
  (fun _=>by simp [Sort.grow,Sort.putRow,Sort.mapBlock,Sort.ahead]) (by simp [Sort.grow,Sort.putRow,Sort.mapBlock,Sort.ahead])
  (fun a ha=>by
   unfold World.frozen?;by_cases hab:a.block=b
   ·rw [hab,hnew,h7]
   ·rw [hold _ ha hab])
  (fun k hk hne=>hold k hk (fun e=>hne rfl c (by rw [e];exact hi)))
  (fun b1 c1 h1=>.inr ⟨rfl,_,h1⟩) ⟨vza _,fun _ _=>⟨rfl,.inl ⟨e,sz,es,es',rfl,rfl,hlen.symm⟩⟩⟩
 obtain⟨hev,hhr⟩:=hup;have hinj:(fun k=>if k=l then inj l else inj k)=inj:=by
  funext k;by_cases hk:k=l
  ·rw [if_pos hk,hk]
  ·rw [if_neg hk]
 rw [hinj] at hev hhr;have hvl:vs'.length=es'.length:=hes.length.symm;have hfl:(flat vs').length=es'.length * sz:=by rw [qbl hs,hvl]
 have hle:(flat vs').toArray.size≤cur.size:=by
  rw [vyx,hfl,h10,hlen];exact vzh _ h8
 obtain⟨t1,t2⟩:=q1h (flat vs').toArray cur hle;refine⟨hhr ⟨vs',ARs.ev hev h.xlt _ _ hes,hs,hone,.inr ⟨b,c,_,hi,h6,hnew,by omega,h9,by rw [t2];exact h10,?_⟩⟩,hev⟩;rw [vyx,hfl] at t1;exact t1
theorem Keeps.rows {Y:Nat→Prop} {b m:Nat} {F:Array Value} {os:Array Obj} (hY:Y b):Keeps Y Y w (Sort.grow (Sort.putRow id (Sort.ahead w m) b 0 F) os):=by
 refine⟨by simp [Sort.grow,Sort.putRow,Sort.mapBlock,Sort.ahead],fun k hk hn=>?_,fun _ _ h=>h⟩;rw [Sort.heap_grow_old _ _ (by simp [Sort.putRow,Sort.mapBlock,Sort.ahead];exact hk)];have:b≠k:=fun e=>hn (e ▸ hY)
 simp [Sort.putRow,Sort.mapBlock,Sort.ahead,vz0,this]
theorem Fr.grow {w':World} (h:Fr True w w'):∃q os,w'=Sort.grow (w.drewN q) os:=by
 refine⟨w'.drawn - w.drawn,w'.heap.extract w.heap.size w'.heap.size,?_⟩;have hh:w'.heap=w.heap++w'.heap.extract w.heap.size w'.heap.size:=by
  apply vzy;intro k;rw [vw5];by_cases hk:k < w.heap.size
  ·rw [if_pos hk,h.blk k hk]
  ·rw [if_neg hk,Array.getElem?_extract];have hsz:=h.size;by_cases hk':k < w'.heap.size
   ·rw [if_pos (by omega)];congr 1;omega
   ·rw [if_neg (by omega),Array.getElem?_eq_none (by omega)]
 cases w' with
 | mk heap tape drawn os output =>
  have h1:=h.os;have h2:=h.tape;have h3:=h.output;have h4:=h.dr trivial;simp only at h1 h2 h3 h4 hh;subst h1 h2 h3;simp only [Sort.grow,World.drewN,World.mk.injEq,and_true,true_and];exact⟨hh,by omega⟩
open Go.Proofs Go.Sort in
structure Srt1 (P:Program) (k:FuncId):Prop where
 body:HasBody P k
 rows:∀{α:Type} [Inhabited α] (enc:α→Value) (h1:OneCell enc) (cf:α→α→Int) (hO:SWO (ltOf cf)) (g:Nat) (cb:Array Value) (blk off cap:Nat) (d:Array α) (w:World),
  (∀args w,(callFunc g args).run P w=.ok (.enter g args) w)→CmpLays1 P g cb enc cf blk off d.size w→Holds enc w blk off d→blk < w.heap.size→d.size < 4611686018427387904 →
  Calls P k #[.slice (some ⟨blk,off,none⟩) d.size cap,.func (.func g) #[] cb] w fun e w' =>
   e=.returned (.tuple #[])∧∃n os,w'=sortWorld enc w blk off n (pdq (ltOf cf) d 0 d.size (v0d d.size) true true) os
 none:∀(p:Option Addr) (cap:Nat) (fv:Value) (w:World),Calls P k #[.slice p 0 cap,fv] w fun e w'=>e=.returned (.tuple #[])∧w'=w
def qbk {α:Type} (a:α) (r:List α) (i:Nat):α:=(a :: r).getD i a
theorem qkw {α:Type} (a:α) (r:List α) (i:Nat):qbk a r i∈a :: r:=by
 unfold qbk;rw [v0k];cases h:(a :: r)[i]? with
 | none=>simp
 | some x=>exact List.mem_of_getElem? h
def srt {α:Type} (c:α→α→Int):List α→List α
 | []=>[]
 | a :: r=>(Sort.pdq (Go.Proofs.ltOf fun i j=>c (qbk a r i) (qbk a r j)) (vxb (r.length+1)) 0 (r.length+1) (v0d (r.length+1)) true true).toList.map (qbk a r)
def qzh {α:Type} (c:α→α→Int) (l:List α):Prop :=
 (∀x∈l,¬c x x < 0)∧(∀x∈l,∀y∈l,∀z∈l,c x y < 0→c y z < 0→c x z < 0)∧(∀x∈l,∀y∈l,∀z∈l,¬c x y < 0→¬c y z < 0→¬c x z < 0)
open Classical in
def qzi {α:Type} (c:α→α→Option Int) (l:List α):Option (List α) :=
 if (∀x∈l,∀y∈l,(c x y).isSome=true)∧qzh (fun x y=>(c x y).getD 0) l∧l.length < 4611686018427387904 then some (srt (fun x y=>(c x y).getD 0) l) else none
theorem qzh.swo {α:Type} {c:α→α→Int} {a:α} {r:List α} (h:qzh c (a :: r)):Sort.SWO (Go.Proofs.ltOf fun i j=>c (qbk a r i) (qbk a r j)):=by
 obtain⟨h1,h2,h3⟩:=h;have m:=qkw a r;refine⟨fun x=>?_,fun x y z a b=>?_,fun x y z a b=>?_⟩
 ·simp only [Go.Proofs.ltOf,decide_eq_false_iff_not];exact h1 _ (m x)
 ·simp only [Go.Proofs.ltOf,decide_eq_true_eq] at *;exact h2 _ (m x) _ (m y) _ (m z) a b
 ·simp only [Go.Proofs.ltOf,decide_eq_false_iff_not] at *;exact h3 _ (m x) _ (m y) _ (m z) a b
theorem qwk {α:Type} {c:α→α→Int} {a:α} {r:List α} (h:qzh c (a :: r)) :
  Sort.PermIn 0 (r.length+1) (vxb (r.length+1)) (Sort.pdq (Go.Proofs.ltOf fun i j=>c (qbk a r i) (qbk a r j)) (vxb (r.length+1)) 0 (r.length+1) (v0d (r.length+1)) true true) ∧
  Sort.SortedIn (Go.Proofs.ltOf fun i j=>c (qbk a r i) (qbk a r j)) 0 (r.length+1) (Sort.pdq (Go.Proofs.ltOf fun i j=>c (qbk a r i) (qbk a r j)) (vxb (r.length+1)) 0 (r.length+1) (v0d (r.length+1)) true true):=by
 have:=Sort.pdq_sorts _ h.swo (vxb (r.length+1)) 0 (r.length+1) (v0d (r.length+1)) true true (v1m _) (by simp) (Or.inl rfl);exact⟨this.1,this.2⟩
theorem q3n {α:Type} (a:α) (r:List α):(vyu (r.length+1)).map (qbk a r)=a :: r:=by
 apply vxy;intro i;rw [vx7];by_cases hi:i < r.length+1
 ·rw [List.getElem?_range hi,vx4 (by simpa using hi)];simp [qbk,List.getD,vx4 (show i < (a :: r).length by simpa using hi)]
 ·rw [vx5 (by simpa using hi),vx5 (by simpa using hi)];rfl
theorem qtr {α:Type} {c:α→α→Int} {l:List α} (h:qzh c l):(srt c l).Perm l:=by
 cases l with
 | nil=>exact List.Perm.refl _
 | cons a r =>
  obtain⟨⟨p1,_,p3⟩,_⟩:=qwk h;have e:∀d:Array Nat,d.size=r.length+1→d.extract 0 (r.length+1)=d:=fun d hd=>by rw [←hd];simp
  rw [e _ (by rw [p1];simp),e _ (by simp)] at p3;have:=p3.map (qbk a r);simp only [vz2,q3n] at this;exact this
theorem q0d {α:Type} {c:α→α→Int} {l:List α} (h:qzh c l):(srt c l).Pairwise fun x y=>¬c y x < 0:=by
 cases l with
 | nil=>exact List.Pairwise.nil
 | cons a r =>
  obtain⟨⟨p1,_,p3⟩,hs⟩:=qwk h;show List.Pairwise _ ((Sort.pdq (Go.Proofs.ltOf fun i j=>c (qbk a r i) (qbk a r j)) (vxb (r.length+1)) 0 (r.length+1) (v0d (r.length+1)) true true).toList.map (qbk a r));generalize Sort.pdq (Go.Proofs.ltOf fun i j=>c (qbk a r i) (qbk a r j)) (vxb (r.length+1)) 0 (r.length+1) (v0d (r.length+1)) true true=d at p1 hs ⊢;rw [List.pairwise_map,List.pairwise_iff_getElem];intro i j hi hj hij;simp only [vxa] at hi hj;have:=hs i j (v1m _) hij (by rw [p1] at hj;simpa using hj);rw [getElem!_pos d i hi,getElem!_pos d j hj] at this;simpa [Go.Proofs.ltOf] using this
theorem qrf {α:Type} [Inhabited α] (enc:α→Value) (w:World) (b:Nat) (d:Array α):Sort.putRow enc w b 0 d=Sort.putRow id w b 0 (d.map enc):=by
 unfold Sort.putRow;refine Sort.mapBlock_congr _ _ _ _ fun c _ _ _=>?_
 unfold Sort.putCells;apply vzy;intro k;simp only [vzz,Array.size_map,vzk,vzl,v1m,true_and];cases c[k]? with
 | none=>rfl
 | some x =>
  simp only [vzr];by_cases hk:k < d.size
  ·rw [if_pos hk,if_pos hk,getElem!_pos d k hk,getElem!_pos (d.map enc) k (by simpa using hk)];simp
  ·rw [if_neg hk,if_neg hk]
theorem qh3:∀{vs:List Value},(∀v∈vs,v.oneCell'=true)→flat vs=vs
 | [],_=>rfl
 | v :: vs,h=>by
  rw [qiw,qh3 fun u hu=>h u (v03 _ hu)];have h1:=h v (v04);have:v.cells=#[v]:=by
   cases v <;> first | rfl | simp [Value.oneCell'] at h1
  rw [this];rfl
variable {C:Cx} {Q:Exit→St→Prop} {st:St}
theorem vn6 {α:Type} {ops:Array Oper} {o:Oper} {rest:List Oper} {f:Operand} {args:Array Operand} {ats:Array TypeId} {k kc:FuncId} {caps:List PV} {fv:AV} {e g n L:Nat}
  (S:Srt1 C.P k) (enc:α→PV) (h1:∀x,(AV.p (enc x)).one=true) (c:α→α→Option Int) {l l':List α} (hl:qzi c l=some l')
  (hc:∀x y r,c x y=some r→Con True C.P kc (enc x :: enc y :: caps) (.int .i64 r))
  (ho:o.op=.call ⟨.value f,args,ats⟩) (hg:qau ops st.env o=some true) (hd:qbg C.N o=true)
  (hk:qbq st.env f args.toList=some (k,[.own L g 0 n,fv])) (hfv:(qdn (fun q=>q != L) 9 fv).run st.sig=some (.func (.func kc) caps))
  (hobj:qa0 st.heap L=.arr e 1 g (v0v AV.p (v0v enc l))) (hn:n=l.length)
  (h:AL C ops rest Q ⟨qdh st.env o.dst (.p (.tup [])),qod st.heap L (.arr e 1 g (v0v AV.p (v0v enc l')))⟩):AL C ops (o :: rest) Q st:=by
 intro inj a w hs;simp only [wpList,qa9 hs hg,if_true];refine .inl ?_;obtain⟨vs,hrun,hars⟩:=qjy hs ho S.body hk;unfold Oper.wp;rw [hrun];simp only [Oper.upon];obtain⟨v1,r1,rfl,ha1,v2,r2,rfl,ha2,rfl⟩:=hars;have hp2:=qds hs.hr (fun q=>q != L) 9 fv v2 _ ha2 hfv;obtain⟨cvs,rfl,hcaps⟩:=hp2;obtain⟨⟨sa,sn,sc,rfl⟩,hown⟩:=ha1;obtain⟨_,hown⟩:=hown _ hobj;obtain⟨hle,hcase⟩:=hown rfl e 1 _ rfl;unfold qzi at hl;split at hl
 case isFalse=>cases hl
 rename_i hcond;obtain⟨hdef,hok,hlt⟩:=hcond;obtain rfl:=v1p hl;cases l with
 | nil =>
  subst hn;have hnone:∃p cap,Value.slice sa sn sc=.slice p 0 cap:=by
   rcases hcase with⟨_,h2,_⟩|⟨b,c0,a0,_,h2,_⟩
   ·exact⟨none,0,h2⟩
   ·exact⟨_,_,h2⟩
  obtain⟨p,cap,hpc⟩:=hnone;rw [hpc];refine (S.none p cap _ w).mono ?_;rintro e' w' ⟨rfl,rfl⟩;have hsame:upd st.sig (some (L,.arr e 1 g (v0v AV.p (v0v enc []))))=st.sig:=by
   funext q;simp only [upd,qiq];by_cases hq:q=L
   ·rw [if_pos hq,hq];exact hobj.symm
   ·rw [if_neg hq]
  exact h inj _ _ (hs.put (u:=some (L,.arr e 1 g (v0v AV.p (v0v enc [])))) hd (by rw [hsame];exact hs.hr) (by rw [hsame];exact Ev.refl _ _ _ _) (v:=.p (.tup [])) ⟨[],rfl,rfl⟩)
 | cons x0 r =>
  obtain⟨vs,o1,o2,o3,o4⟩:=hs.hr.obj L _ hobj;have hvl:vs.length=r.length+1:=by rw [←o1.length];simp
  rcases hcase with⟨_,_,_,h4⟩|⟨b,cp,a0,hi,h2,h3,h4⟩
  ·rw [hn] at h4;simp at h4
  have ha0:a0=some ⟨b,0,none⟩:=by
   rcases h4 with⟨h4,_⟩ | h4
   ·exact absurd rfl h4
   ·simpa using h4
  rw [h2,ha0,hn];rcases o4 with⟨o4,_⟩|⟨b',c',cur,i1,i2,i3,i4,i5,i6,i7⟩
  ·rw [hi] at o4;cases o4
  rw [hi] at i1;cases i1;have hb:b < w.heap.size:=(vw6.1 i3).1;have hone:∀v∈vs,v.oneCell'=true:=by
   intro v hv;obtain⟨j,hj,rfl⟩:=List.getElem_of_mem hv;have hj':j < (x0 :: r).length:=by simp;omega
   obtain⟨u,hu,hr⟩:=o1.get (i:=j) (p:=.p (enc ((x0 :: r)[j]))) (by rw [vx7,vx7,vx4 hj'];rfl);rw [vx4 hj] at hu;cases hu;exact AR.one_of (h1 _) hr
  obtain⟨v0,vr,hv0⟩:∃v0 vr,vs=v0 :: vr:=by cases vs with | nil=>simp at hvl | cons v0 vr=>exact⟨v0,vr,rfl⟩
  have hvr:vr.length=r.length:=by rw [hv0] at hvl;simpa using hvl
  -- what lies at i
  have hat:∀i,AR C.X inj st.sig w (.p (enc (qbk x0 r i))) (qbk v0 vr i):=by
   intro i;unfold qbk;by_cases hii:i < r.length+1
   ·obtain⟨u,hu,hr⟩:=o1.get (i:=i) (p:=.p (enc ((x0 :: r)[i]'(by simpa using hii)))) (by rw [vx7,vx7,vx4 (show i < (x0 :: r).length by simpa using hii)];rfl);rw [hv0] at hu;rw [v0k,v0k,hu,vx4 (show i < (x0 :: r).length by simpa using hii)];exact hr
   ·obtain⟨u,hu,hr⟩:=o1.get (i:=0) (p:=.p (enc x0)) (by simp);rw [hv0] at hu;simp only [v0m,vzs] at hu;subst hu;rw [v0k,v0k,vx5 (by simp;omega),vx5 (by simp;omega)];exact hr
  have honeAt:∀i,(qbk v0 vr i).oneCell'=true:=fun i=>hone _ (by rw [hv0];exact qkw v0 vr i)
  have hfl:flat vs=vs:=qh3 hone;have hY:∀q,(C.X q∨qy4 (fun q=>q != L) inj st.sig q)→q < w.heap.size:=fun q hq=>hq.elim (hs.hr.xlt q) fun hf=>(hs.hr.flt hf).1
  have hYb:C.X b∨qy4 (fun q=>q != L) inj st.sig b:=.inr ⟨L,cp,_,hobj,rfl,by simp,hi⟩;have hK0:Keeps (fun q=>C.X q∨F inj st.sig q) (fun q=>C.X q∨qy4 (fun q=>q != L) inj st.sig q) w w :=
   ⟨vza _,fun _ _ _=>rfl,fun q _ hn hq=>hn (hq.imp id fun ⟨l,c,o,a1,a2,_,a4⟩=>⟨l,c,o,a1,a2,rfl,a4⟩)⟩
  have hsome:∀i j,c (qbk x0 r i) (qbk x0 r j)=some ((c (qbk x0 r i) (qbk x0 r j)).getD 0):=by
   intro i j;obtain⟨z,hz⟩:=vzp.1 (hdef _ (qkw x0 r i) _ (qkw x0 r j));rw [hz];rfl
  have hcon0:=hc _ _ _ (hsome 0 0);have hrows:=S.rows (qbk v0 vr) honeAt (fun i j=>(c (qbk x0 r i) (qbk x0 r j)).getD 0) hok.swo kc cvs.toArray b 0 (cp - 0) (vxb (r.length+1)) w hcon0.body;rw [vz1] at hrows;refine (hrows ?_ ?_ hb (by simpa using hlt)).mono ?_
  ·intro m os dk hdk x y;have hW:Go.Proofs.sortWorld (qbk v0 vr) w b 0 m dk os=Sort.grow (Sort.putRow id (Sort.ahead w m) b 0 (dk.map (qbk v0 vr))) os:=by
    unfold Go.Proofs.sortWorld;rw [qrf]
   rw [hW];have hK:=Keeps.rows (w:=w) (b:=b) (m:=m) (F:=dk.map (qbk v0 vr)) (os:=os) (Y:=fun q=>C.X q∨qy4 (fun q=>q != L) inj st.sig q) hYb;generalize hWW:Sort.grow (Sort.putRow id (Sort.ahead w m) b 0 (dk.map (qbk v0 vr))) os=W at hK;have hcon:=hc _ _ _ (hsome x y);have hcall:=hcon.pure (fun q=>C.X q∨qy4 (fun q=>q != L) inj st.sig q) W (qbk v0 vr x :: qbk v0 vr y :: cvs) (fun q hq=>vzd (hY q hq) hK.size) (((qmb hs.ev).keep hK0).keep hK)
    ⟨_,_,rfl,PR.keep hK _ _ (PR.keep hK0 _ _ (hat x)),_,_,rfl,PR.keep hK _ _ (PR.keep hK0 _ _ (hat y)),PRs.keep hK _ _ hcaps⟩
   have hargs:#[qbk v0 vr x,qbk v0 vr y]++cvs.toArray=(qbk v0 vr x :: qbk v0 vr y :: cvs).toArray:=by simp
   rw [hargs];refine hcall.mono ?_;rintro e' w' ⟨v,rfl,hv,hfr⟩;simp only [PR] at hv;subst hv;exact⟨rfl,hfr.grow⟩
  ·intro j hj;have hj':j < r.length+1:=by simpa using hj
   have hcj:cur[j]?=some (qbk v0 vr j):=by
    have h5:(cur.toList.take ((v0v AV.p (v0v enc (x0 :: r))).length * 1))[j]?=vs[j]?:=by rw [i7,hfl]
    rw [vya,if_pos (by simpa using hj'),vw9] at h5;rw [h5,hv0];have:j < (v0 :: vr).length:=by simp;omega
    simp [qbk,vx4 this,List.getD]
   have hr:(vxb (r.length+1))[j]! = j:=by rw [getElem!_pos _ j (by simpa using hj')];simp
   rw [hr];refine⟨?_,?_⟩
   ·simp only [World.cell?,i3,vzl];simpa using hcj
   ·simp [World.frozen?,i3]
  ·rintro e' w' ⟨rfl,m,os,rfl⟩;have hp:=qwk hok;have hsr:srt (fun x y=>(c x y).getD 0) (x0 :: r)=(Sort.pdq (Go.Proofs.ltOf fun i j=>(c (qbk x0 r i) (qbk x0 r j)).getD 0) (vxb (r.length+1)) 0 (r.length+1) (v0d (r.length+1)) true true).toList.map (qbk x0 r):=rfl;rw [hsr] at h;generalize Sort.pdq (Go.Proofs.ltOf fun i j=>(c (qbk x0 r i) (qbk x0 r j)).getD 0) (vxb (r.length+1)) 0 (r.length+1) (v0d (r.length+1)) true true=d at h hp ⊢;have hds:d.size=r.length+1:=by have:=hp.1.1;simpa using this
   have hfl':(flat (d.toList.map (qbk v0 vr))).toArray=d.map (qbk v0 vr):=by
    rw [qh3 (fun v hv=>by obtain⟨i,_,rfl⟩:=v06.1 hv;exact honeAt i)];apply vw4;simp
   have hW:Go.Proofs.sortWorld (qbk v0 vr) w b 0 m d os=Sort.grow (Sort.putRow id (Sort.ahead w m) b 0 (flat (d.toList.map (qbk v0 vr))).toArray) os:=by
    unfold Go.Proofs.sortWorld;rw [qrf,hfl']
   rw [hW];have hars:∀l:List Nat,ARs C.X inj st.sig w (v0v AV.p (v0v enc (l.map (qbk x0 r)))) (l.map (qbk v0 vr)):=by
    intro l
    induction l with
    | nil=>rfl
    | cons i l ih=>exact⟨_,_,rfl,hat i,ih⟩
   obtain⟨hH,hE⟩:=HR.rows hs.hr (m:=m) (os:=os) hobj hi (by simp [hds]) (hars d.toList)
    (fun v hv=>by obtain⟨i,_,rfl⟩:=v06.1 hv;exact o2 _ (by rw [hv0];exact qkw v0 vr i))
    (by rw [qh3 (fun v hv=>by obtain⟨i,_,rfl⟩:=v06.1 hv;exact honeAt i)];intro u hu;obtain⟨i,_,rfl⟩:=v06.1 hu;exact honeAt i)
   exact h inj _ _ (hs.put (u:=some (L,_)) hd hH hE (v:=.p (.tup [])) ⟨[],rfl,rfl⟩)
structure SrtI (P:Program) (k:FuncId):Prop where
 body:HasBody P k
 rows:∀(blk off cap:Nat) (zs:List Int) (w:World),Sort.Holds (Value.int .i64) w blk off zs.toArray→blk < w.heap.size→zs.length < 4611686018427387904 →
  Calls P k #[.slice (some ⟨blk,off,none⟩) zs.length cap] w fun e w' =>
   e=.returned (.tuple #[])∧∃n os,w'=Sort.grow (Sort.putRow (Value.int .i64) (Sort.ahead w n) blk off (zs.mergeSort fun x y=>decide (x≤y)).toArray) os
 none:∀(p:Option Addr) (cap:Nat) (w:World),Calls P k #[.slice p 0 cap] w fun e w'=>e=.returned (.tuple #[])∧w'=w
def quz (l:List Int):List Int:=l.mergeSort fun x y=>decide (x≤y)
def qu9 (l:List Int):Option (List Int):=if l.length < 4611686018427387904 then some (quz l) else none
theorem qts {X:Nat→Prop} {inj:Inj} {σ:Nat→AO} {w:World}:∀{l:List Int} {vs:List Value},ARs X inj σ w (v0v AV.p (v0v (PV.int .i64) l)) vs→vs=l.map (Value.int .i64)
 | [],vs,h=>h
 | x :: l,vs,h=>by
  obtain⟨v,r,rfl,h2,h3⟩:=h;simp only [AR,PR] at h2;rw [h2,qts h3];rfl
theorem qtt {X:Nat→Prop} {inj:Inj} {σ:Nat→AO} {w:World}:∀(l:List Int),ARs X inj σ w (v0v AV.p (v0v (PV.int .i64) l)) (l.map (Value.int .i64))
 | []=>rfl
 | x :: l=>⟨_,_,rfl,rfl,qtt l⟩
theorem vn7 {ops:Array Oper} {o:Oper} {rest:List Oper} {f:Operand} {args:Array Operand} {ats:Array TypeId} {k:FuncId} {e g n L:Nat}
  (S:SrtI C.P k) {l l':List Int} (hl:qu9 l=some l')
  (ho:o.op=.call ⟨.value f,args,ats⟩) (hg:qau ops st.env o=some true) (hd:qbg C.N o=true)
  (hk:qbq st.env f args.toList=some (k,[.own L g 0 n]))
  (hobj:qa0 st.heap L=.arr e 1 g (v0v AV.p (v0v (PV.int .i64) l))) (hn:n=l.length)
  (h:AL C ops rest Q ⟨qdh st.env o.dst (.p (.tup [])),qod st.heap L (.arr e 1 g (v0v AV.p (v0v (PV.int .i64) l')))⟩):AL C ops (o :: rest) Q st:=by
 intro inj a w hs;simp only [wpList,qa9 hs hg,if_true];refine .inl ?_;obtain⟨vs,hrun,hars⟩:=qjy hs ho S.body hk;unfold Oper.wp;rw [hrun];simp only [Oper.upon];obtain⟨v1,r1,rfl,ha1,rfl⟩:=hars;obtain⟨⟨sa,sn,sc,rfl⟩,hown⟩:=ha1;obtain⟨_,hown⟩:=hown _ hobj;obtain⟨hle,hcase⟩:=hown rfl e 1 _ rfl;unfold qu9 at hl;split at hl
 case isFalse=>cases hl
 rename_i hlt;obtain rfl:=v1p hl;rcases hcase with⟨_,h2,_,hn0⟩|⟨b,cp,a0,hi,h2,h3,h4⟩
 ·have hl0:l=[]:=vxx (by omega);subst hl0;have e0:quz []=[]:=by simp [quz]
  rw [e0] at h;rw [h2];refine (S.none none 0 w).mono ?_;rintro e' w' ⟨rfl,rfl⟩;have hsame:upd st.sig (some (L,.arr e 1 g (v0v AV.p (v0v (PV.int .i64) []))))=st.sig:=by
   funext q;simp only [upd,qiq];by_cases hq:q=L
   ·rw [if_pos hq,hq];exact hobj.symm
   ·rw [if_neg hq]
  exact h inj _ _ (hs.put (u:=some (L,.arr e 1 g (v0v AV.p (v0v (PV.int .i64) [])))) hd (by rw [hsame];exact hs.hr) (by rw [hsame];exact Ev.refl _ _ _ _) (v:=.p (.tup [])) ⟨[],rfl,rfl⟩)
 ·obtain⟨vs,o1,o2,o3,o4⟩:=hs.hr.obj L _ hobj;have ha0:a0=some ⟨b,0,none⟩:=by
   rcases h4 with⟨h4,_⟩ | h4
   ·exact absurd rfl h4
   ·simpa using h4
  rw [h2,ha0,hn];rcases o4 with⟨o4,_⟩|⟨b',c',cur,i1,i2,i3,i4,i5,i6,i7⟩
  ·rw [hi] at o4;cases o4
  rw [hi] at i1;cases i1;have hb:b < w.heap.size:=(vw6.1 i3).1;have hvs:=qts o1;have hone:∀l:List Int,∀v∈l.map (Value.int .i64),v.oneCell'=true:=fun l v hv=>by obtain⟨x,_,rfl⟩:=v06.1 hv;rfl
  refine (S.rows b 0 (cp - 0) l w ?_ hb hlt).mono ?_
  ·intro j hj;have hj':j < l.length:=by simpa using hj
   have hcj:cur[j]?=some (Value.int .i64 l[j]):=by
    have h5:(cur.toList.take ((v0v AV.p (v0v (PV.int .i64) l)).length * 1))[j]?=vs[j]?:=by rw [i7,hvs,qh3 (hone l)]
    rw [vya,if_pos (by simpa using hj'),vw9] at h5;rw [h5,hvs,vx7,vx4 hj'];rfl
   have hr:l.toArray[j]! = l[j]:=by rw [getElem!_pos _ j (by simpa using hj')];simp
   rw [hr];refine⟨?_,?_⟩
   ·simp only [World.cell?,i3,vzl];simpa using hcj
   ·simp [World.frozen?,i3]
  ·rintro e' w' ⟨rfl,m,os,rfl⟩;have hfl':(flat ((quz l).map (Value.int .i64))).toArray=((l.mergeSort fun x y=>decide (x≤y)).toArray).map (Value.int .i64):=by
    rw [qh3 (hone _)];apply vw4;simp [quz]
   rw [qrf,←hfl'];obtain⟨hH,hE⟩:=HR.rows hs.hr (m:=m) (os:=os) hobj hi (by simp [quz]) (qtt (quz l))
    (fun v hv=>by obtain⟨i,_,rfl⟩:=v06.1 hv;rfl) (by rw [qh3 (hone _)];exact hone _)
   exact h inj _ _ (hs.put (u:=some (L,_)) hd hH hE (v:=.p (.tup [])) ⟨[],rfl,rfl⟩)
theorem qmd (l:List Int):(quz l).Perm l:=List.mergeSort_perm _ _
theorem q6m (l:List Int):(quz l).Pairwise (·≤·):=by
 have:=List.pairwise_mergeSort (le:=fun x y:Int=>decide (x≤y)) (by intro a b c;simp;omega) (by intro a b;simp;omega) l;exact this.imp (by simp)
theorem qqg {l l':List Int} (h:qu9 l=some l'):l'.length=l.length:=by
 unfold qu9 at h;split at h
 ·cases h;exact (qmd l).length_eq
 ·cases h
theorem qwl {α:Type} {c:α→α→Option Int} {l l':List α} (h:qzi c l=some l'):l'.length=l.length:=by
 unfold qzi at h;split at h
 ·rename_i hc;cases h;exact (qtr hc.2.1).length_eq
 ·cases h
theorem zSI {ops:Array Oper} {o:Oper} {rest:List Oper} {f:Operand} {args:Array Operand} {ats:Array TypeId} {k:FuncId} {e g n L:Nat}
  (S:SrtI C.P k) {l l':List Int} (hl:qu9 l=some l') (h:AL C ops rest Q ⟨qdh st.env o.dst (.p (.tup [])),qod st.heap L (.arr e 1 g (v0v AV.p (v0v (PV.int .i64) l')))⟩)
  (ho:o.op=.call ⟨.value f,args,ats⟩:=by rfl) (hg:qau ops st.env o=some true:=by first | exact qaw rfl | exact qbh rfl rfl (by exact rfl) (by exact rfl)) (hd:qbg C.N o=true:=by rfl)
  (hk:qbq st.env f args.toList=some (k,[.own L g 0 n]):=by simp only [go_sem,seval, *];first | exact⟨rfl,rfl,rfl⟩ | exact rfl)
  (hobj:qa0 st.heap L=.arr e 1 g (List.map AV.p (List.map (PV.int .i64) l)):=by simp only [go_sem,seval, *];exact rfl) (hn:n=l.length:=by rfl):AL C ops (o :: rest) Q st:=vn7 S hl ho hg hd hk hobj hn h
theorem zSF {α:Type} {ops:Array Oper} {o:Oper} {rest:List Oper} {f:Operand} {args:Array Operand} {ats:Array TypeId} {k kc:FuncId} {caps:List PV} {fv:AV} {e g n L:Nat}
  (S:Srt1 C.P k) (enc:α→PV) (c:α→α→Option Int) {l l':List α} (hl:qzi c l=some l') (hc:∀x y r,c x y=some r→Con True C.P kc (enc x :: enc y :: caps) (.int .i64 r))
  (h:AL C ops rest Q ⟨qdh st.env o.dst (.p (.tup [])),qod st.heap L (.arr e 1 g (v0v AV.p (v0v enc l')))⟩)
  (h1:∀x,(AV.p (enc x)).one=true:=by intro x;rfl)
  (ho:o.op=.call ⟨.value f,args,ats⟩:=by rfl) (hg:qau ops st.env o=some true:=by first | exact qaw rfl | exact qbh rfl rfl (by exact rfl) (by exact rfl)) (hd:qbg C.N o=true:=by rfl)
  (hk:qbq st.env f args.toList=some (k,[.own L g 0 n,fv]):=by simp only [go_sem,seval, *];first | exact⟨⟨rfl,rfl,rfl⟩,rfl⟩ | exact⟨rfl,rfl,rfl,rfl⟩ | exact rfl) (hfv:(qdn (fun q=>q != L) 9 fv).run st.sig=some (.func (.func kc) caps):=by simp only [go_sem,seval, *];all_goals exact zF)
  (hobj:qa0 st.heap L=.arr e 1 g (List.map AV.p (List.map enc l)):=by simp only [go_sem,seval, *];exact rfl) (hn:n=l.length:=by rfl):AL C ops (o :: rest) Q st:=vn6 S enc h1 c hl hc ho hg hd hk hfv hobj hn h
end Go.Ab
namespace Go.Ab
variable {D:Prop}
open Go
def vd9 (n₀:Nat) (W:World) (sv:Value) (zs:List Int):Prop :=
 (∃a cap,sv=.slice a 0 cap∧zs=[])∨∃b off cap,sv=.slice (some ⟨b,off,none⟩) zs.length cap∧b < n₀∧∀j,j < zs.length→W.cell? ⟨b,off+j,none⟩=some (.int .i64 (zs[j]?.getD 0))
theorem vd9.below {n₀:Nat} {A B:World} (h:RowKit.Below n₀ A B) {sv:Value} {zs:List Int}:vd9 n₀ A sv zs→vd9 n₀ B sv zs
 | .inl e=>.inl e
 | .inr ⟨b,off,cap,e,hb,hc⟩=>.inr ⟨b,off,cap,e,hb,fun j hj=>(h.cell (p:=⟨b,off+j,none⟩) hb).trans (hc j hj)⟩
theorem q8u {X:Nat→Prop} {w:World}:∀{l:List Int} {vs:List Value},PRs X w (v0v (PV.int .i64) l) vs→vs=l.map (Value.int .i64)
 | [],vs,h=>h
 | x :: l,vs,h=>by
  obtain⟨v,r,rfl,h2,h3⟩:=h;simp only [PR] at h2;rw [h2,q8u h3];rfl
variable {C:Cx} {Q:Exit→St→Prop} {st:St}
end Go.Ab
namespace Go.Ab
variable {D:Prop}
open Go
def q0e (C:Cx) (ops:Array Oper):List Evt→Nat→(Nat→AV)×(Nat→AO)→Prop
 | [],_,_=>True
 | e :: es,i,s=>(∃o,ops[i]?=some o∧q6f C ops o s.1 s.2 e)∧q0e C ops es (i+1) (qm1 s.1 ((ops[i]?).bind (·.dst)) e.v,upd s.2 e.u)
theorem q0e.at {C:Cx} {ops:Array Oper}:∀{es:List Evt} {i:Nat} {s:(Nat→AV)×(Nat→AO)},q0e C ops es i s→∀j e,i≤j→es[j - i]?=some e →
  ∃o,ops[j]?=some o∧q6f C ops o (apD ops es i (fun m=>decide (m < j)) s).1 (apD ops es i (fun m=>decide (m < j)) s).2 e
 | [],i,s,h,j,e,hj,he=>by simp at he
 | e0 :: es,i,s,h,j,e,hj,he=>by
  obtain⟨⟨o,ho,hst⟩,hrest⟩:=h;have skip:∀(es':List Evt) (m:Nat) (s':(Nat→AV)×(Nat→AO)),j≤m→apD ops es' m (fun m=>decide (m < j)) s'=s':=by
   intro es'
   induction es' with
   | nil=>intro m s' _;rfl
   | cons x xs ih=>intro m s' hm;simp only [apD];rw [if_neg (by simp;omega)];exact ih (m+1) s' (by omega)
  by_cases hji:j=i
  ·subst hji;simp only [v1k,v0m,vzs] at he;subst he;rw [skip _ _ _ (vza _)];exact⟨o,ho,hst⟩
  ·have hlt:i < j:=by omega
   have:=q0e.at hrest j e (by omega) (by rw [show j - i=(j - (i+1))+1 by omega] at he;simpa using he);simp only [apD];rw [if_pos (by simpa using hlt)];exact this
theorem DCh.chainP {C:Cx} {ops:Array Oper} {l:List Oper} {st:St} {es:List Evt} {st':St} (h:DCh C ops l st es st'):∀i,(∀j,j < l.length→ops[i+j]?=l[j]?) →
  es.length=l.length∧q0e C ops es i (st.env.get,st.sig)∧apD ops es i (fun _=>true) (st.env.get,st.sig)=(st'.env.get,st'.sig):=by
 induction h with
 | nil=>intro i hi;exact⟨rfl,trivial,rfl⟩
 | @cons o rest st e es st' hd h hr ih =>
  intro i hi;have h0:ops[i]?=some o:=by have:=hi 0 (by simp);simpa using this
  obtain⟨h3,h1,h2⟩:=ih (i+1) (fun j hj=>by have:=hi (j+1) (by simp;omega);rw [show i+1+j=i+(j+1) by omega,this];simp);have e1:((qm1 st.env.get ((ops[i]?).bind (·.dst)) e.v,upd st.sig e.u):(Nat→AV)×(Nat→AO))=((⟨qdh st.env o.dst e.v,qp1 st.heap e.u⟩:St).env.get,(⟨qdh st.env o.dst e.v,qp1 st.heap e.u⟩:St).sig):=by
   rw [h0];simp only [vzm,qlr,St.sig,qp8]
  refine⟨by simp [h3],⟨⟨o,h0,hd,?_⟩,?_⟩,?_⟩
  ·rw [qu6,qof];exact h
  ·rw [e1];exact h1
  ·simp only [apD,if_true];rw [e1];exact h2
theorem q0f {P:Program} {ops:Array Oper} {Q:Exit→Act→World→Prop} (hsl:qh2 ops=true) {n:Nat} (hlast:∀j,n≤j→j < ops.size→∀i,i < j→Reach ops j i) :
  ∀(k m fuel:Nat) (listed:Array Bool) (a:Act) (w:World),n≤m→m+k=ops.size→listed.size=ops.size→(∀j,j < m→listed.getD j false=true)→(∀j,m≤j→j < ops.size→listed.getD j false=false)→k≤fuel →
   wpOps P ops Q (v1a m k) a w→wpAny P .any ops Q fuel listed a w:=by
 intro k
 induction k with
 | zero =>
  intro m fuel listed a w hnm hm hsz hall hno hk hq;have hr:Region.ready .any ops listed=[]:=by
   cases hrd:Region.ready .any ops listed with
   | nil=>rfl
   | cons i _ =>
    exfalso;have hi:i∈Region.ready .any ops listed:=by rw [hrd];exact v04
    obtain⟨h0,o,ho,_⟩:=mem_ready.1 hi;have hlt:=(vw6.1 ho).1;have:=hall i (by omega);rw [getD_both h0] at this;cases this
  have hq':Q .normal a w:=hq;cases fuel with
  | zero=>exact⟨hr,hq'⟩
  | succ fuel=>exact⟨fun _=>hq',fun i hi=>by rw [hr] at hi;cases hi⟩
 | succ k ih =>
  intro m fuel listed a w hnm hm hsz hall hno hk hq;cases fuel with
  | zero=>omega
  | succ fuel =>
  have hcl:qz9 ops (fun j=>listed.getD j false):=by
   intro j hj p hp;have hjm:j < m:=by
    by_cases hjm:j < m
    ·exact hjm
    ·have hjs:j < ops.size:=by
      by_cases hjs:j < ops.size
      ·exact hjs
      ·have:listed.getD j false=false:=by simp [show ¬j < listed.size by omega]
       simp only [this] at hj;cases hj
     have:=hno j (by omega) hjs;simp only [this] at hj;cases hj
   by_cases hp':p < m
   ·exact hall p hp'
   ·exfalso;obtain⟨oj,hoj⟩:∃oj,ops[j]?=some oj:=⟨ops[j]'(by omega),by simp [show j < ops.size by omega]⟩;have:=qjz hsl (by omega:j < ops.size) p hp;omega
  refine⟨fun hr=>?_,fun i hi=>?_⟩
  ·exfalso;have:m∈Region.ready .any ops listed:=by
    refine mem_ready.2 ⟨getD_in (by omega) (hno m (vza _) (by omega)),ops[m]'(by omega),by simp [show m < ops.size by omega],fun e he hb=>?_⟩;have hp:e.on∈qdt ops m:=by
     unfold qdt;simp only [show m < ops.size by omega,getElem?_pos];exact v06.2 ⟨e,v05.2 ⟨by simpa using he,hb⟩,rfl⟩
    exact hall _ (qjz hsl (by omega) _ hp)
   rw [hr] at this;cases this
  ·obtain⟨h0,o,ho,hpre⟩:=mem_ready.1 hi;have hlt:=(vw6.1 ho).1;have him:i=m:=by
    rcases v1g i m with h | h | h
    ·have:=hall i h;rw [getD_both h0] at this;cases this
    ·exact h
    ·exfalso;have hpre':∀m∈qdt ops i,listed.getD m false=true:=by
      intro m hm;unfold qdt at hm;rw [ho] at hm;obtain⟨e,he,rfl⟩:=v06.1 hm;obtain⟨he1,he2⟩:=v05.1 he;exact hpre e (by simpa using he1) he2
     have:=(hlast i (by omega) hlt m h).ready (D:=fun j=>listed.getD j false) hcl hpre';simp only [hno m (vza _) (by omega)] at this;cases this
   subst him;rw [List.range'_succ,wpOps_cons] at hq;refine wpOp_mono (fun a' w' hq'=>ih (i+1) fuel _ a' w' (by omega) (by omega) (by simp [hsz]) (fun j hj=>?_) (fun j hj hjs=>?_) (by omega) hq') hq
   ·by_cases hji:i=j
    ·subst hji;simp [hsz,hlt]
    ·rw [getD_set_ne false hji];exact hall j (by omega)
   ·rw [getD_set_ne false (by omega)];exact hno j (by omega) hjs
theorem vbl {C:Cx} {ops:Array Oper} {es:List Evt} {s0:(Nat→AV)×(Nat→AO)} {Q:Exit→Act→World→Prop} {n:Nat} (hn:n < ops.size) (hlen:es.length=n) (hch:q0e C ops es 0 s0) (hsl:qh2 ops=true) (hev:qu8 ops es=true)
  (hlast:∀j,n≤j→j < ops.size→∀i,i < j→Reach ops j i) (hQ:∀a w inj,SRf C (apD ops es 0 (fun _=>true) s0).1 (apD ops es 0 (fun _=>true) s0).2 inj a w→wpOps C.P ops Q (v1a n (ops.size - n)) a w) :
  ∀(fuel:Nat) (listed:Array Bool) (a:Act) (w:World) (inj:Inj),listed.size=ops.size→qz9 ops (fun j=>listed.getD j false)→(∀j,n≤j→j < ops.size→listed.getD j false=false)→(listed.toList.filter (! ·)).length≤fuel →
   SRf C (apD ops es 0 (fun j=>listed.getD j false) s0).1 (apD ops es 0 (fun j=>listed.getD j false) s0).2 inj a w→wpAny C.P .any ops Q fuel listed a w:=by
 have some_ready:∀(listed:Array Bool),listed.size=ops.size→listed.getD n false=false→Region.ready .any ops listed≠[]:=by
  intro listed hsz hnl hr;have all:∀j,j < ops.size→listed.getD j false=true:=by
   intro j
   induction j using v1j with
   | _ j ih =>
    intro hj;by_cases hl:listed.getD j false=true
    ·exact hl
    ·have:j∈Region.ready .any ops listed:=by
      refine mem_ready.2 ⟨getD_in (by omega) (by simpa using hl),ops[j],by simp [hj],fun e he hb=>?_⟩;have hp:e.on∈qdt ops j:=by
       unfold qdt;simp only [hj,getElem?_pos];exact v06.2 ⟨e,v05.2 ⟨by simpa using he,hb⟩,rfl⟩
      have hlt:=qjz hsl hj _ hp;exact ih _ hlt (by omega)
     rw [hr] at this;cases this
  have:=all n hn;rw [hnl] at this;cases this
 have count:∀(k:Nat) (l:List Bool) (m:Nat),m+k=l.length→(∀j,m≤j→j < l.length→l[j]?=some false)→k≤(l.filter (! ·)).length:=by
  intro k l m hm h;have h1:(l.drop m).length=k:=by rw [vyd];omega
  have h2:((l.drop m).filter (! ·))=l.drop m:=by
   rw [List.filter_eq_self];intro b hb;obtain⟨j,hj,rfl⟩:=List.mem_iff_getElem.1 hb;have:=h (m+j) (by omega) (by rw [vyd] at hj;omega);rw [List.getElem_drop];obtain⟨_,h3⟩:=vx6.1 this;rw [h3];rfl
  have h3:((l.drop m).filter (! ·)).length≤(l.filter (! ·)).length:=by
   conv=>rhs;rw [←v1d m l,List.filter_append,vyc]
   omega
  rw [h2,h1] at h3;exact h3
 intro fuel
 induction fuel with
 | zero =>
  intro listed a w inj hsz hcl hnl hf hs;exfalso;have hlt:n < listed.size:=by omega
  have hm:listed[n]'hlt∈listed.toList:=by simp
  have h0':listed[n]'hlt=false:=by simpa [hlt] using hnl n (vza _) hn
  have:listed[n]'hlt∈listed.toList.filter (! ·):=v05.2 ⟨hm,by rw [h0'];rfl⟩;have:0 < (listed.toList.filter (! ·)).length:=v0t this;omega
 | succ fuel ih =>
  intro listed a w inj hsz hcl hnl hf hs;by_cases hfull:∀j,j < n→listed.getD j false=true
  ·rw [qso ops es 0 _ (fun _=>true) s0 fun j _ h2=>hfull j (by omega)] at hs;refine q0f hsl hlast (ops.size - n) n _ listed a w (vza _) (by omega) hsz hfull hnl ?_ (hQ a w inj hs);refine vzc (count _ listed.toList n (by simp;omega) (fun j h1 h2=>?_)) hf;have:=hnl j h1 (by simp at h2;omega);have h3:j < listed.size:=by simpa using h2
   rw [vw9];simpa [h3] using this
  refine⟨fun hr=>absurd hr (some_ready listed hsz (hnl n (vza _) hn)),fun i hi=>?_⟩;obtain⟨h0,o,ho,hpre⟩:=mem_ready.1 hi;have hlt:=(vw6.1 ho).1;have hltn:i < n:=by
   by_cases hltn:i < n
   ·exact hltn
   ·exfalso;apply hfull;intro j hj;have hpre':∀m∈qdt ops i,listed.getD m false=true:=by
     intro m hm;unfold qdt at hm;rw [ho] at hm;obtain⟨e,he,rfl⟩:=v06.1 hm;obtain⟨he1,he2⟩:=v05.1 he;exact hpre e (by simpa using he1) he2
    exact (hlast i (by omega) hlt j (by omega)).ready (D:=fun j=>listed.getD j false) hcl hpre'
  have h0f:listed.getD i false=false:=getD_both h0;have hpre':∀m∈qdt ops i,listed.getD m false=true:=by
   intro m hm;unfold qdt at hm;rw [ho] at hm;obtain⟨e,he,rfl⟩:=v06.1 hm;obtain⟨he1,he2⟩:=v05.1 he;exact hpre e (by simpa using he1) he2
  obtain⟨e,he⟩:∃e,es[i]?=some e:=⟨es[i]'(by omega),vx4 (by omega)⟩;obtain⟨o',ho',hst⟩:=hch.at i e (v1m _) (by simpa using he);have:o'=o:=v1p (ho'.symm.trans ho);subst this
  -- which are listed,compared with the text's order
  have cmpSlot:∀t∈o'.looksAt ops,(apD ops es 0 (fun j=>listed.getD j false) s0).1 t=(apD ops es 0 (fun m=>decide (m < i)) s0).1 t:=by
   intro t ht;refine q1c ops t es 0 _ _ s0 s0 rfl fun j _ hj hd=>?_
   obtain⟨oj,hoj⟩:∃oj,ops[j]?=some oj:=⟨ops[j]'(by omega),by simp [show j < ops.size by omega]⟩;rw [hoj] at hd;simp only [vzm] at hd;rcases v1g j i with hji | hji | hji
   ·simp only [hji,decide_true];rcases qfx hsl hji hoj ho with hr | hr
    ·exact hr.ready (D:=fun j=>listed.getD j false) hcl hpre'
    ·exact absurd ht ((Oper.apart_spec hr).1 t hd)
   ·subst hji;simpa using h0f
   ·have:decide (j < i)=false:=by simp;omega
    rw [this];rcases qfx hsl hji ho hoj with hr | hr
    ·by_cases hl:listed.getD j false=true
     ·have:=hr.closed (D:=fun j=>listed.getD j false) hcl hl;simp only [h0f] at this;cases this
     ·simpa using hl
    ·exact absurd ht ((Oper.apart_spec hr).2.2 t hd)
  have cmpLoc:∀l∈e.reads,(apD ops es 0 (fun j=>listed.getD j false) s0).2 l=(apD ops es 0 (fun m=>decide (m < i)) s0).2 l:=by
   intro l hl;refine q6g ops l es 0 _ _ s0 s0 rfl fun j ej _ hej hw=>?_
   simp only [vzk] at hej;have hjn:j < ops.size:=by have:=(vx6.1 hej).1;omega
   rcases v1g j i with hji | hji | hji
   ·simp only [hji,decide_true];rcases ql3 hev hji hlt hej he with hr | hr
    ·exact hr.ready (D:=fun j=>listed.getD j false) hcl hpre'
    ·exact absurd hl (hr.1 l hw).1
   ·subst hji;simpa using h0f
   ·have:decide (j < i)=false:=by simp;omega
    rw [this];rcases ql3 hev hji hjn he hej with hr | hr
    ·by_cases hl':listed.getD j false=true
     ·have:=hr.closed (D:=fun j=>listed.getD j false) hcl hl';simp only [h0f] at this;cases this
     ·simpa using hl'
    ·exact absurd hl (hr.2 l hw)
  have hst':=hst.frame cmpSlot cmpLoc;obtain⟨hdst,hst'⟩:=hst';have hjoin:=q1d ops i e es 0 (fun j=>listed.getD j false) s0 (v1m _) (by simpa using he) h0f (by
   intro j ej hij hej hD;simp only [vzk] at hej;have hjn:j < ops.size:=by have:=(vx6.1 hej).1;omega
   obtain⟨oj,hoj⟩:∃oj,ops[j]?=some oj:=⟨ops[j]'(by omega),by simp [show j < ops.size by omega]⟩;have nr:¬Reach ops j i:=fun hr=>by
    have:=hr.closed (D:=fun j=>listed.getD j false) hcl hD;simp only [h0f] at this;cases this
   constructor
   ·rcases qfx hsl hij ho hoj with hr | hr
    ·exact (nr hr).elim
    ·rw [hoj,ho];simp only [vzm];cases hd:oj.dst with
     | none=>exact .inl rfl
     | some d =>
      refine .inr fun hh=>?_
      exact (Oper.apart_spec hr).2.1 d hh.symm hd
   ·rcases ql3 hev hij hjn he hej with hr | hr
    ·exact (nr hr).elim
    ·cases hw:ej.wr with
     | none=>exact .inl rfl
     | some l =>
      refine .inr fun hh=>?_
      exact (hr.1 l hh.symm).2 hw)
  have hD':apD ops es 0 (fun j=>(listed.setIfInBounds i true).getD j false) s0=apD ops es 0 (fun j=>j == i || listed.getD j false) s0:=by
   refine qso ops es 0 _ _ s0 fun j _ hj=>?_
   by_cases hji:i=j
   ·subst hji;simp [hsz,hlt]
   ·rw [getD_set_ne false hji];have:(j == i)=false:=by simp;omega
    simp [this]
  have next:∀a' w' inj',SRf C (qm1 (apD ops es 0 (fun j=>listed.getD j false) s0).1 o'.dst e.v) (upd (apD ops es 0 (fun j=>listed.getD j false) s0).2 e.u) inj' a' w' →
    wpAny C.P .any ops Q fuel (listed.setIfInBounds i true) a' w':=by
   intro a' w' inj' hs';refine ih (listed.setIfInBounds i true) a' w' inj' (by simp [hsz]) ?_ (fun j hj hjs=>by rw [getD_set_ne false (by omega)];exact hnl j hj hjs) ?_ ?_
   ·intro j hj m hm;by_cases hji:i=j
    ·subst hji;exact getD_set_true (hpre' m hm)
    ·have hj':(listed.setIfInBounds i true).getD j false=true:=hj;rw [getD_set_ne false hji] at hj';exact getD_set_true (hcl j hj' m hm)
   ·have hli:listed[i]?=some false:=by
     have:i < listed.size:=by omega
     simp [this] at h0f ⊢;exact h0f
    have key:∀(l:List Bool) (i:Nat),l[i]?=some false→((l.set i true).filter (! ·)).length+1=(l.filter (! ·)).length:=by
     intro l
     induction l with
     | nil=>intro i h;simp at h
     | cons b l ihl =>
      intro i h;cases i with
      | zero=>simp at h;subst h;simp
      | succ i =>
       simp only [v0l] at h;have:=ihl i h;cases b <;> simp [this] <;> omega
    have:=key listed.toList i (by simpa using hli);rw [vz3];omega
   ·rw [hD',hjoin,ho];exact hs'
  unfold wpOp;rw [ho];simp only;rcases hst' with⟨hg,hdo⟩|⟨hg,rfl⟩
  ·rw [qjq hs hg];simp only [if_true];exact .inl (hdo.sound hs hdst next)
  ·rw [qjq hs hg];simp only [vxj,if_false];exact next _ _ inj (hs.put (u:=none) hdst hs.hr (Ev.refl _ _ _ _) ⟨[],rfl,rfl⟩)
def q8v (ops:Array Oper) (n:Nat):Bool:=decide (n < ops.size) && (v1a n (ops.size - n)).all fun j=>(vyu j).all fun i=>qzc (q8p ops ops.size) j i
theorem q6n {ops:Array Oper} {n:Nat} (h:q8v ops n=true):n < ops.size∧∀j,n≤j→j < ops.size→∀i,i < j→Reach ops j i:=by
 simp only [q8v,vxh,decide_eq_true_eq,v0e,v08,List.mem_range'_1] at h;exact⟨h.1,fun j h1 h2 i hi=>qmc (h.2 j ⟨h1,by omega⟩ i hi)⟩
variable {C:Cx} {Q:Exit→St→Prop} {st:St}
def DKL (C:Cx) (l:Array Oper) (r:List Oper) (Q:Exit→St→Prop):List Evt→St→Prop:=fun es st'=>qu8 l es=true∧AL C l r Q st'
theorem qzj (n:Nat) {id:Nat} {l:List Oper} (hm:C.P.follows .mixedOrders=true) (hsl:qh2 l.toArray=true) (hls:q8v l.toArray n=true) (h:DGo C l.toArray (l.take n) st [] (DKL C l.toArray (l.drop n) Q)):AWp C (.region id l.toArray true) Q st:=by
 obtain⟨es,st',h1,h2,h3⟩:=h;obtain⟨hsize,hreach⟩:=q6n hls;have hsz:n < l.length:=by simpa using hsize
 obtain⟨hel,hcp,hap⟩:=h1.chainP 0 (fun j hj=>by
  rw [vyi] at hj;rw [vya,if_pos (by omega)];simp)
 have hel':es.length=n:=by rw [hel,vyi];omega
 simp only [List.reverse_nil,vyt] at h2;intro inj a w hs;refine wp_region_any hm ?_;have hf:Fr C.D w { w with drawn:=w.drawn+1 }:=⟨rfl,rfl,rfl,fun _=>vzb _,vza _,fun _ _=>rfl,fun _ _=>rfl⟩;have hE:Ev C.D C.X inj st.sig w inj st.sig { w with drawn:=w.drawn+1 }:=hf.ev;refine vbl hsize hel' hcp hsl h2 hreach ?_ _ _ _ _ inj (by simp) ?_ ?_ ?_ ?_
 ·intro a' w' inj' hs';rw [hap] at hs';have hal:=h3 inj' a' w' ⟨hs'.env,hs'.size,hs'.defers,hs'.hr,hs'.ev⟩;have heq:=wpOps_eq_wpList (P:=C.P) (ops:=l.toArray) (Q:=vht C Q) (l.drop n) n (fun j=>by rw [vx3];simp);rw [vyd] at heq;rw [vyx,heq];exact hal
 ·intro j hj;simp only [getD_replicate_false] at hj;cases hj
 ·intro j _ _;exact getD_replicate_false _ _
 ·refine vzc (v0s _ _) (by simp)
 ·rw [qso l.toArray es 0 _ (fun _=>false) _ fun j _ _=>getD_replicate_false _ _];have hnone:∀(es:List Evt) (i:Nat) (s:(Nat→AV)×(Nat→AO)),apD l.toArray es i (fun _=>false) s=s:=by
   intro es
   induction es with
   | nil=>intro i s;rfl
   | cons e es ih=>intro i s;simp only [apD,vxj,if_false];exact ih (i+1) s
  rw [hnone];exact⟨fun t=>AR.ev hE hs.hr.xlt _ _ (hs.env t),hs.size,hs.defers,hs.hr.fr hf,hs.ev.trans hE⟩
theorem ydl {l:Array Oper} {r:List Oper} {acc:List Evt} (h:AL C l r Q st) (hev:qu8 l acc.reverse=true:=by rfl):DGo C l [] st acc (DKL C l r Q):=DGo.done ⟨hev,h⟩
@[go_sem] theorem ex_func (σ σ':Nat→AO) (f f':Fn) (cs0 cs':List AV):(∃cs,AV.func f cs0=AV.func f' cs∧ql2 σ σ' cs cs')=(f=f'∧ql2 σ σ' cs0 cs'):=by
 refine propext ⟨?_,?_⟩
 ·rintro⟨cs,h,h2⟩;cases h;exact⟨rfl,h2⟩
 ·rintro⟨rfl,h⟩;exact⟨_,rfl,h⟩
end Go.Ab
namespace Go.Ab
variable {D:Prop}
open Go
structure Grw (P:Program) (k:FuncId) (e sz:TypeId):Prop where
 body:HasBody P k
 rows:∀(n:Int) (w:World),0≤n→n≤1000000000000→Calls P k #[.slice none 0 0,.int .i64 n] w fun e' w'=>∃v,e'=.returned v∧w'.ownsRow w.heap.size e sz v 0 []∧RowKit.Below w.heap.size w w'∧w.drawn≤w'.drawn
variable {C:Cx} {Q:Exit→St→Prop} {st:St}
theorem vn8 {ops:Array Oper} {o:Oper} {rest:List Oper} {f:Operand} {args:Array Operand} {ats:Array TypeId} {k:FuncId} {e sz K g:Nat} {n:Int}
  (S:Grw C.P k e sz) (h0:0≤n) (hn:n≤1000000000000)
  (ho:o.op=.call ⟨.value f,args,ats⟩) (hg:qau ops st.env o=some true) (hd:qbg C.N o=true)
  (hk:qbq st.env f args.toList=some (k,[.nils,.p (.int .i64 n)]))
  (hobj:qa0 st.heap K=.dead g)
  (h:AL C ops rest Q ⟨qdh st.env o.dst (.own K (g+1) 0 0),qod st.heap K (.arr e sz (g+1) [])⟩):AL C ops (o :: rest) Q st:=by
 intro inj a w hs;simp only [wpList,qa9 hs hg,if_true];refine .inl ?_;obtain⟨vs,hrun,hars⟩:=qjy hs ho S.body hk;unfold Oper.wp;rw [hrun];simp only [Oper.upon];obtain⟨v1,r1,rfl,ha1,hars⟩:=hars;obtain⟨v2,r2,rfl,ha2,rfl⟩:=hars;have hv1:v1=.slice none 0 0:=ha1;have hv2:v2=Value.int .i64 n:=ha2;subst hv1;subst hv2;refine (S.rows n w h0 hn).mono ?_;rintro e' w' ⟨v,rfl,hrow,hbel,hdr⟩;have hfz:∀a:Addr,a.block < w.heap.size→w'.frozen? a=w.frozen? a:=fun a ha=>by unfold World.frozen?;rw [hbel.block _ ha]
 obtain⟨_,hrow⟩:=hrow;rcases hrow with⟨rfl,_⟩|⟨gb,cp,cur,rfl,hbase,hgb,q1,q2,q3,q4⟩
 ·have hup:=hs.hr.update (D:=C.D) (w':=w') (l:=K) (o:=.dead g) (o':=.arr e sz (g+1) []) (x:=none) hobj hbel.os hbel.tape hbel.output (fun _=>hdr) hbel.size hfz
   (fun b hb _=>hbel.block b hb) (fun b1 c1 h1=>by cases h1) ⟨by simp [AO.gen],fun _ he=>by simp [AO.gen] at he⟩
  obtain⟨hev,hhr⟩:=hup;refine h _ _ _ (hs.put (u:=some (K,.arr e sz (g+1) [])) hd (hhr ⟨[],rfl,by simp,by simp [flat,qbi],.inl ⟨by simp,rfl⟩⟩) hev ?_);refine⟨⟨_,_,_,rfl⟩,fun oo hoo=>?_⟩;have:oo=.arr e sz (g+1) []:=by rw [←hoo];exact qc0 _ _ _
  subst this;exact⟨vza _,fun _ e1 sz1 es1 he=>by cases he;exact⟨by simp,.inl ⟨by simp,rfl,rfl,rfl⟩⟩⟩
 ·have hup:=hs.hr.update (D:=C.D) (w':=w') (l:=K) (o:=.dead g) (o':=.arr e sz (g+1) []) (x:=some (gb,cp)) hobj hbel.os hbel.tape hbel.output (fun _=>hdr) hbel.size hfz
   (fun b hb _=>hbel.block b hb) (fun b1 c1 h1=>by cases h1;exact .inl hbase) ⟨by simp [AO.gen],fun _ he=>by simp [AO.gen] at he⟩
  obtain⟨hev,hhr⟩:=hup;have hH:=hhr ⟨[],rfl,by simp,by simp [flat,qbi],.inr ⟨gb,cp,cur,by simp,fun hX=>by have:=hs.hr.xlt gb hX;omega,hgb,by simp,q2,q3,by simp [flat]⟩⟩;refine h _ _ _ (hs.put (u:=some (K,.arr e sz (g+1) [])) hd hH hev ?_);have hown:vaf (fun q=>if q=K then some (gb,cp) else inj q) (qiq st.sig K (.arr e sz (g+1) [])) K (g+1) 0 0 (.slice (some ⟨gb,0,none⟩) 0 cp):=qjx (qc0 _ _ _) (if_pos rfl) (vza _) q1;exact hown
theorem zN {ops:Array Oper} {o:Oper} {rest:List Oper} {f:Operand} {args:Array Operand} {ats:Array TypeId} {k:FuncId} {e sz g:Nat} {n:Int}
  (S:Grw C.P k e sz) (K:Nat) (h0:0≤n) (hn:n≤1000000000000)
  (h:AL C ops rest Q ⟨qdh st.env o.dst (.own K (g+1) 0 0),qod st.heap K (.arr e sz (g+1) [])⟩)
  (ho:o.op=.call ⟨.value f,args,ats⟩:=by rfl) (hg:qau ops st.env o=some true:=by first | exact qaw rfl | exact qbh rfl rfl (by exact rfl) (by exact rfl)) (hd:qbg C.N o=true:=by rfl)
  (hk:qbq st.env f args.toList=some (k,[.nils,.p (.int .i64 n)]):=by simp only [go_sem,seval, *];all_goals first | exact rfl | exact⟨rfl,rfl⟩)
  (hobj:qa0 st.heap K=.dead g:=by simp only [go_sem,seval, *];all_goals first | exact rfl | exact qqc rfl):AL C ops (o :: rest) Q st:=vn8 S h0 hn ho hg hd hk hobj h
end Go.Ab
namespace Go.Ab
open Go
section
theorem qwm {n:Int} (h1:0≤n) (h2:n≤4294967295):v0b.wrap n=n:=by
 simp only [v0c,vz9,vz7];simp only [vz5,vxj,if_false];rw [show ((2:Int) ^ 32)=4294967296 from rfl];omega
theorem vie (b:BitVec 32):v0b.wrap ((b.toNat:Nat):Int)=((b.toNat:Nat):Int):=by
 have:=b.isLt;exact qwm (by omega) (by omega)
theorem qvt {a:Nat} (h:a < 4294967296):(BitVec.ofInt 32 (a:Int)).toNat=a:=by
 rw [BitVec.ofInt_natCast,BitVec.toNat_ofNat];exact v1i h
theorem qtu (a i:Nat):vz6 (a:Int) (2 ^ i)=((a / 2 ^ i:Nat):Int):=by
 have:((2:Int) ^ i)=((2 ^ i:Nat):Int):=by simp
 rw [this];generalize 2 ^ i=p;rw [Int.fdiv_eq_ediv_of_nonneg _ (by omega)];exact (Int.natCast_ediv a p).symm
def pop8 (i:Nat):Nat:=((vyu 8).filter fun k=>i.testBit k).length
theorem vlq (n:Nat) (k:Nat) (hk:k≤32):vz6 (n:Int) (2 ^ (min k 32))=((n / 2 ^ k:Nat):Int):=by rw [v1h hk,qtu]
def q8w (n:Nat):Nat:=pop8 (n / 16777216)+pop8 (n / 65536 % 256)+pop8 (n / 256 % 256)+pop8 (n % 256)
end
section
variable {C:Cx} {Q:Exit→St→Prop} {st:St}
theorem zCl {α:Type} (f:α→PV) (l:List α) (z:α) (K off len:Nat) (hle:off+len≤l.length) {ops:Array Oper} {o:Oper} {rest:List Oper} {g e sz:Nat} {t:TypeId} {x:Operand} {st':St}
  (h:AL C ops rest Q st') (ho:o.op=.call ⟨.builtin .clear,#[x],#[t]⟩:=by rfl) (hg:qau ops st.env o=some true:=by first | exact qaw rfl | exact qbh rfl rfl (by exact rfl) (by exact rfl)) (hd:qbg C.N o=true:=by rfl)
  (hu:C.P.underlying t=some (.slice e):=by simp only [go_sem,seval];all_goals exact rfl) (hx:ev st.env x=.own K g off len:=by simp only [go_sem,seval, *];all_goals exact zF)
  (hs:qa0 st.heap K=.arr e sz g ((l.map f).map .p):=by simp only [go_sem,seval, *];all_goals exact zF) (hsz:sz=C.P.cellsOf e:=by simp only [go_sem,seval];all_goals rfl) (hz:qbf C.P e=some (.p (f z)):=by simp only [go_sem,seval];all_goals rfl)
  (hok:qer sz (.p (f z))=true:=by rfl)
  (hst:(⟨qdh st.env o.dst (.p (.tup [])),qp1 st.heap (some (K,.arr e sz g (((l.take off++List.replicate len z++l.drop (off+len)).map f).map .p)))⟩:St)=st':=by exact rfl):AL C ops (o :: rest) Q st:=by
 obtain⟨dst,op,type,pos,after,guard⟩:=o;simp only at ho;subst ho;subst hsz;have hr:(aop C.P C.B (ev st.env) ⟨dst,.call ⟨.builtin .clear,#[x],#[t]⟩,type,pos,after,guard⟩).run (qa0 st.heap)=some (.p (.tup []),some (K,.arr e (C.P.cellsOf e) g (((l.take off++vyw len z++l.drop (off+len)).map f).map .p))):=by
  show (qr8 C.P t (ev st.env x)).run (qa0 st.heap)=_;unfold qr8;rw [hu,hx];simp only [L.run,hs];rw [if_pos ⟨trivial,trivial,trivial,by simpa using hle⟩,hz];simp only [hok,if_true,L.run_ret];simp only [vyj,v0z,v0x,v0y]
 subst hst;refine vd4 hg hd ?_ h;rw [hr];rfl
end
end Go.Ab
namespace Go.Proofs
open Go.Shelf Go.RowKit Go.Lib
variable {P:Program} {ρ:Ren}
set_option maxHeartbeats 2000000 in
set_option maxRecDepth 100000 in
theorem AbE.clone_zero (L:SlLaysE0.n41 P ρ) (i0:TypeInfo) (z:Value) (size bytes:Nat) (hi:P.info? (ρ.t 23)=some i0) (hz0:i0.zero=some z) (hz1:i0.size=size) (hz2:i0.bytes=bytes) (hzs:z.cells.size=size) (hsz:0 < size)
  (z23:∀w,(Go.sizeOf (ρ.t 23)).run P w=.ok size w) (a:Addr) (c:Nat) (w:World) :
  Calls P (ρ.f 41) #[.slice (some a) 0 c] w fun e w'=>∃v',e=.returned v'∧w'.ownsRow w.heap.size (ρ.t 23) size v' 0 []∧Below w.heap.size w w':=by
 have mixed:=L.mixed;have t4:=L.t4;have a4:=L.a4;have z4:=L.z4;have v4:=L.v4;have t22:=L.t22;have a22:=L.a22;have z22:=L.z22;have v22:=L.v22
 have q22:∀(w:World) (a:Option Addr) (n c n' c':Nat),(binOp .eql (ρ.t 22) (.slice a n c) (.slice none n' c')).run P w=.ok (.bool a.isNone) w:=fun w a n c n' c'=>vxo w _ _ a n c n' c' L.t22
 have u22:∀w,Sem.run P (underlying (ρ.t 22)) w=.ok (TypeDesc.slice (ρ.t 23)) w:=run_underlying t22
 obtain⟨_,_,FG⟩:=L.f41
 go_enter FG,SlBodyN.n41_ntmps ρ
 go_wp2_with (at_builtin;refine wpList_append_own _ rfl _ _ (ρ.t 22) rfl w.heap.size (ρ.t 23) i0 z size bytes t22 hi hz0 hz1 hz2 hzs hsz _ _ _ rfl (World.ownsRow_made w #[] 0 (vza _) (v1m _) (by simp)) a 0 c [] rfl (by simp) (by intro j u hj;simp at hj) (by intro u hu;cases hu) (by unfold maxLen;omega) (by omega) (by simp) ?_)
 intro v' w1 hown hgrow hnil
 go_wp2
 go_ret
 refine⟨v',rfl,by simpa using hown,?_⟩
 exact ((Below.refl _ w).alloc (vza _) _).grown hgrow (by simp) (by intro k hk;simp [Value.ownBlock] at hk;omega)
theorem AbE.cln (L:SlLaysE0.n41 P ρ) (hb:Ab.HasBody P (ρ.f 41)) (i0:TypeInfo) (z:Value) (size bytes:Nat) (hi:P.info? (ρ.t 23)=some i0) (hz0:i0.zero=some z) (hz1:i0.size=size) (hz2:i0.bytes=bytes) (hzs:z.cells.size=size) (hsz:0 < size):Ab.Cln P (ρ.f 41) (ρ.t 23) size bytes :=
 have z23:∀w,(Go.sizeOf (ρ.t 23)).run P w=.ok size w:=fun w=>by subst hz1;simp [Go.sizeOf,typeInfo,hi]
 ⟨hb,fun b off n c news w h1 h2 h3 h4 h5=>(AnyE.slices_Clone L i0 z size bytes hi hz0 hz1 hz2 hzs hsz z23 b off n c news w h1 h2 h3 h4 h5).mono fun e w' ⟨v,p1,p2,_,p4⟩=>⟨v,p1,p2,p4⟩,
  fun a c w=>AbE.clone_zero L i0 z size bytes hi hz0 hz1 hz2 hzs hsz z23 a c w,fun n c w=>AnyE.slices_Clone_nil L n c w⟩
end Go.Proofs
namespace Go.Ab
variable {D:Prop}
open Go
@[go_sem] theorem qwn {α:Type} (i n j:Nat) (l:List α):v1c (i+(n - j)) (v1c i l++v1c (n - j) (List.drop j l))=v1c i l++v1c (n - j) (List.drop j l) :=
 vy0 (by rw [vyc,vyi,vyi];omega)
variable {C:Cx} {Q:Exit→St→Prop} {st:St}
theorem yK {ops:Array Oper} {K:List Evt→St→Prop} {o:Oper} {f:Operand} {args:Array Operand} {ats:Array TypeId} {rest:List Oper} {acc:List Evt} {c:FuncId} {e sz by' g:Nat} {α:Type}
  (S:Cln C.P c e sz by') (k:Nat) (enc:α→PV) (l:List α) (n:Nat) (hl:l.length=n) (hn:n≤maxLen∧n * by'≤140737488355328)
  (h:DGo C ops rest ⟨qdh st.env o.dst (.own k (g+1) 0 n),qod st.heap k (.arr e sz (g+1) ((l.map enc).map AV.p))⟩ (⟨.own k (g+1) 0 n,some (k,.arr e sz (g+1) ((l.map enc).map AV.p)),[k]⟩ :: acc) K)
  (hw:¬C.D:=by exact id) (ho:o.op=.call ⟨.value f,args,ats⟩:=by rfl) (hgd:qau ops st.env o=some true:=by first | exact qaw rfl | exact qbh rfl rfl (by exact rfl) (by exact rfl)) (hd:qbg C.N o=true:=by rfl) (hk:qjf C.B o=k:=by rfl)
  (hc:qbq st.env f args.toList=some (c,[.p (.slc (l.map enc))]):=by simp only [go_sem,seval, *];all_goals first | exact rfl | exact⟨rfl,rfl⟩)
  (hel:((l.map enc).map AV.p).all (qer sz)=true:=by exact qj0 _ _ _ fun _=>⟨rfl,rfl⟩)
  (hg:qa0 st.heap k=.dead g:=by simp only [go_sem,seval, *];all_goals first | exact rfl | exact qqc rfl):DGo C ops (o :: rest) st acc K :=
 DGo.cloned S hw ho hgd hd hk hc hel (by rw [vye,hl];exact hn.1) (by rw [vye,hl];exact hn.2) hg (by rw [vye,hl]) rfl h
end Go.Ab
namespace Go.Ab
variable {D:Prop}
open Go
variable {X:Nat→Prop} {inj:Inj} {σ:Nat→AO} {w:World}
variable {C:Cx} {Q:Exit→St→Prop} {st:St}
open Go.Proofs Go.Sort in
structure SrtQ (P:Program) (k:FuncId) (sz:Nat):Prop where
 body:HasBody P k
 rows:∀{α:Type} [Inhabited α] (enc:α→List Value) (hk:∀x,(enc x).length=sz) (h1:∀x,∀v∈enc x,v.oneCell'=true) (cf:α→α→Int) (hO:SWO (ltOf cf)) (g:Nat) (cb:Array Value) (blk off cap:Nat) (d:Array α) (w:World),
  (∀args w,(callFunc g args).run P w=.ok (.enter g args) w)→CmpLays P g cb enc sz cf blk off d.size w→HoldsK enc sz w blk off d→blk < w.heap.size→d.size < 4611686018427387904 →
  Calls P k #[.slice (some ⟨blk,off,none⟩) d.size cap,.func (.func g) #[] cb] w fun e w' =>
   e=.returned (.tuple #[])∧∃n os,w'=sortWorldK enc sz w blk off n (pdq (ltOf cf) d 0 d.size (v0d d.size) true true) os
 none:∀(p:Option Addr) (cap:Nat) (fv:Value) (w:World),Calls P k #[.slice p 0 cap,fv] w fun e w'=>e=.returned (.tuple #[])∧w'=w
theorem q3o {α:Type} [Inhabited α] (enc:α→List Value) (k:Nat) (hk:∀x,(enc x).length=k) (d:Array α):(Sort.flatK enc k d).toList=d.toList.flatMap enc:=by
 have key:∀l:List α,∀t,t < l.length * k→(l.flatMap enc)[t]?=some ((enc (l.toArray[t / k]!))[t % k]!):=by
  intro l
  induction l with
  | nil=>intro t ht;simp at ht
  | cons x l ih =>
   intro t ht;have k0:0 < k:=by
    rcases Nat.eq_zero_or_pos k with h | h
    ·subst h;simp at ht
    ·exact h
   rw [v0j,List.getElem?_append];by_cases hlt:t < k
   ·rw [if_pos (by rw [hk];exact hlt),Nat.div_eq_of_lt hlt,v1i hlt];rw [vx4 (by rw [hk];exact hlt)];congr 1;have:(x :: l).toArray[0]! = x:=by simp
    rw [this,getElem!_pos _ t (by rw [hk];exact hlt)]
   ·rw [if_neg (by rw [hk];exact hlt),hk,ih (t - k) (by simp only [v0q,Nat.add_mul,Nat.one_mul] at ht;omega)];obtain⟨u,rfl⟩:∃u,t=u+k:=⟨t - k,by omega⟩;rw [Nat.add_sub_cancel,Nat.add_div_right _ k0,Nat.add_mod_right];congr 2;have hu:u / k < l.length:=by
     rw [Nat.div_lt_iff_lt_mul k0];simp only [v0q,Nat.add_mul,Nat.one_mul] at ht;omega
    rw [getElem!_pos _ _ (by simpa using hu),getElem!_pos _ _ (by simpa using hu)];simp
 apply vxy;intro t;by_cases ht:t < d.size * k
 ·rw [key d.toList t (by simpa using ht)];rw [vw9,Array.getElem?_eq_getElem (by simpa using ht)];simp [Sort.flatK]
 ·rw [vx5 (by simpa using ht),vx5];have:(d.toList.flatMap enc).length=d.size * k:=by
   rw [List.length_flatMap];have:d.toList.map (fun a=>(enc a).length)=vyw d.size k:=by
    apply List.ext_getElem (by simp);intro i h1 h2;simp [hk]
   rw [this];simp
  omega
theorem vn9 {α:Type} {ops:Array Oper} {o:Oper} {rest:List Oper} {f:Operand} {args:Array Operand} {ats:Array TypeId} {k kc:FuncId} {caps:List PV} {fv:AV} {e sz g n L:Nat}
  (S:SrtQ C.P k sz) (enc:α→PV) (h1:∀x,(enc x).isAgg=true) (c:α→α→Option Int) {l l':List α} (hl:qzi c l=some l')
  (hc:∀x y r,c x y=some r→Con True C.P kc (enc x :: enc y :: caps) (.int .i64 r))
  (ho:o.op=.call ⟨.value f,args,ats⟩) (hg:qau ops st.env o=some true) (hd:qbg C.N o=true)
  (hk:qbq st.env f args.toList=some (k,[.own L g 0 n,fv])) (hfv:(qdn (fun q=>q != L) 9 fv).run st.sig=some (.func (.func kc) caps))
  (hobj:qa0 st.heap L=.arr e sz g (v0v AV.p (v0v enc l))) (hn:n=l.length)
  (h:AL C ops rest Q ⟨qdh st.env o.dst (.p (.tup [])),qod st.heap L (.arr e sz g (v0v AV.p (v0v enc l')))⟩):AL C ops (o :: rest) Q st:=by
 intro inj a w hs;simp only [wpList,qa9 hs hg,if_true];refine .inl ?_;obtain⟨vs,hrun,hars⟩:=qjy hs ho S.body hk;unfold Oper.wp;rw [hrun];simp only [Oper.upon];obtain⟨v1,r1,rfl,ha1,v2,r2,rfl,ha2,rfl⟩:=hars;have hp2:=qds hs.hr (fun q=>q != L) 9 fv v2 _ ha2 hfv;obtain⟨cvs,rfl,hcaps⟩:=hp2;obtain⟨⟨sa,sn,sc,rfl⟩,hown⟩:=ha1;obtain⟨_,hown⟩:=hown _ hobj;obtain⟨hle,hcase⟩:=hown rfl e sz _ rfl;unfold qzi at hl;split at hl
 case isFalse=>cases hl
 rename_i hcond;obtain⟨hdef,hok,hlt⟩:=hcond;obtain rfl:=v1p hl;cases l with
 | nil =>
  subst hn;have hnone:∃p cap,Value.slice sa sn sc=.slice p 0 cap:=by
   rcases hcase with⟨_,h2,_⟩|⟨b,c0,a0,_,h2,_⟩
   ·exact⟨none,0,h2⟩
   ·exact⟨_,_,h2⟩
  obtain⟨p,cap,hpc⟩:=hnone;rw [hpc];refine (S.none p cap _ w).mono ?_;rintro e' w' ⟨rfl,rfl⟩;have hsame:upd st.sig (some (L,.arr e sz g (v0v AV.p (v0v enc []))))=st.sig:=by
   funext q;simp only [upd,qiq];by_cases hq:q=L
   ·rw [if_pos hq,hq];exact hobj.symm
   ·rw [if_neg hq]
  exact h inj _ _ (hs.put (u:=some (L,.arr e sz g (v0v AV.p (v0v enc [])))) hd (by rw [hsame];exact hs.hr) (by rw [hsame];exact Ev.refl _ _ _ _) (v:=.p (.tup [])) ⟨[],rfl,rfl⟩)
 | cons x0 r =>
  obtain⟨vs,o1,o2,o3,o4⟩:=hs.hr.obj L _ hobj;have hvl:vs.length=r.length+1:=by rw [←o1.length];simp
  rcases hcase with⟨_,_,_,h4⟩|⟨b,cp,a0,hi,h2,h3,h4⟩
  ·rw [hn] at h4;simp at h4
  have ha0:a0=some ⟨b,0,none⟩:=by
   rcases h4 with⟨h4,_⟩ | h4
   ·exact absurd rfl h4
   ·simpa using h4
  rw [h2,ha0,hn];rcases o4 with⟨o4,_⟩|⟨b',c',cur,i1,i2,i3,i4,i5,i6,i7⟩
  ·rw [hi] at o4;cases o4
  rw [hi] at i1;cases i1;have hb:b < w.heap.size:=(vw6.1 i3).1;obtain⟨v0,vr,hv0⟩:∃v0 vr,vs=v0 :: vr:=by cases vs with | nil=>simp at hvl | cons v0 vr=>exact⟨v0,vr,rfl⟩
  have hvr:vr.length=r.length:=by rw [hv0] at hvl;simpa using hvl
  have hat:∀i,AR C.X inj st.sig w (.p (enc (qbk x0 r i))) (qbk v0 vr i):=by
   intro i;unfold qbk;by_cases hii:i < r.length+1
   ·obtain⟨u,hu,hr⟩:=o1.get (i:=i) (p:=.p (enc ((x0 :: r)[i]'(by simpa using hii)))) (by rw [vx7,vx7,vx4 (show i < (x0 :: r).length by simpa using hii)];rfl);rw [hv0] at hu;rw [v0k,v0k,hu,vx4 (show i < (x0 :: r).length by simpa using hii)];exact hr
   ·obtain⟨u,hu,hr⟩:=o1.get (i:=0) (p:=.p (enc x0)) (by simp);rw [hv0] at hu;simp only [v0m,vzs] at hu;subst hu;rw [v0k,v0k,vx5 (by simp;omega),vx5 (by simp;omega)];exact hr
  have hmem:∀i,qbk v0 vr i∈vs:=fun i=>by rw [hv0];exact qkw v0 vr i
  -- the values are aggregates of sz cells
  let ec:Nat→List Value:=fun i=>(qbk v0 vr i).cells.toList
  have hagg:∀i,Value.agg (ec i).toArray=qbk v0 vr i:=by
   intro i;have h2:=h1 (qbk x0 r i);have h3:=hat i;show Value.agg ((qbk v0 vr i).cells.toList).toArray=_;generalize qbk v0 vr i=v at h3 ⊢;generalize enc (qbk x0 r i)=p at h2 h3;cases p with
   | agg cs =>
    simp only [AR,PR] at h3;obtain⟨us,rfl,_,_⟩:=h3;simp [Value.cells]
   | _=>simp [PV.isAgg] at h2
  have hlen:∀i,(ec i).length=sz:=fun i=>by
   show (qbk v0 vr i).cells.toList.length=sz;rw [vxa];exact o2 _ (hmem i)
  have hone1:∀i,∀v∈ec i,v.oneCell'=true:=fun i v hv=>o3 v (vyn.2 ⟨_,hmem i,hv⟩)
  have hfe:∀l:List Nat,flat (l.map (qbk v0 vr))=l.flatMap ec:=fun l=>by
   unfold flat;rw [List.flatMap_map]
  have hY:∀q,(C.X q∨qy4 (fun q=>q != L) inj st.sig q)→q < w.heap.size:=fun q hq=>hq.elim (hs.hr.xlt q) fun hf=>(hs.hr.flt hf).1
  have hYb:C.X b∨qy4 (fun q=>q != L) inj st.sig b:=.inr ⟨L,cp,_,hobj,rfl,by simp,hi⟩;have hK0:Keeps (fun q=>C.X q∨F inj st.sig q) (fun q=>C.X q∨qy4 (fun q=>q != L) inj st.sig q) w w :=
   ⟨vza _,fun _ _ _=>rfl,fun q _ hn hq=>hn (hq.imp id fun ⟨l,c,o,a1,a2,_,a4⟩=>⟨l,c,o,a1,a2,rfl,a4⟩)⟩
  have hsome:∀i j,c (qbk x0 r i) (qbk x0 r j)=some ((c (qbk x0 r i) (qbk x0 r j)).getD 0):=by
   intro i j;obtain⟨z,hz⟩:=vzp.1 (hdef _ (qkw x0 r i) _ (qkw x0 r j));rw [hz];rfl
  have hcon0:=hc _ _ _ (hsome 0 0);have hrows:=S.rows ec hlen hone1 (fun i j=>(c (qbk x0 r i) (qbk x0 r j)).getD 0) hok.swo kc cvs.toArray b 0 (cp - 0) (vxb (r.length+1)) w hcon0.body;rw [vz1] at hrows;have hflw:∀d:Array Nat,Sort.flatK ec sz d=(flat (d.toList.map (qbk v0 vr))).toArray:=fun d=>by
   apply vw4;rw [q3o ec sz hlen,hfe]
  refine (hrows ?_ ?_ hb (by simpa using hlt)).mono ?_
  ·intro m os dk hdk x y;have hW:Go.Proofs.sortWorldK ec sz w b 0 m dk os=Sort.grow (Sort.putRow id (Sort.ahead w m) b 0 (flat (dk.toList.map (qbk v0 vr))).toArray) os:=by
    unfold Go.Proofs.sortWorldK Sort.putRowK;rw [hflw]
   rw [hW];have hK:=Keeps.rows (w:=w) (b:=b) (m:=m) (F:=(flat (dk.toList.map (qbk v0 vr))).toArray) (os:=os) (Y:=fun q=>C.X q∨qy4 (fun q=>q != L) inj st.sig q) hYb;generalize hWW:Sort.grow (Sort.putRow id (Sort.ahead w m) b 0 (flat (dk.toList.map (qbk v0 vr))).toArray) os=W at hK;have hcon:=hc _ _ _ (hsome x y);have hcall:=hcon.pure (fun q=>C.X q∨qy4 (fun q=>q != L) inj st.sig q) W (qbk v0 vr x :: qbk v0 vr y :: cvs) (fun q hq=>vzd (hY q hq) hK.size) (((qmb hs.ev).keep hK0).keep hK)
    ⟨_,_,rfl,PR.keep hK _ _ (PR.keep hK0 _ _ (hat x)),_,_,rfl,PR.keep hK _ _ (PR.keep hK0 _ _ (hat y)),PRs.keep hK _ _ hcaps⟩
   rw [hagg,hagg];have hargs:#[qbk v0 vr x,qbk v0 vr y]++cvs.toArray=(qbk v0 vr x :: qbk v0 vr y :: cvs).toArray:=by simp
   rw [hargs];refine hcall.mono ?_;rintro e' w' ⟨v,rfl,hv,hfr⟩;simp only [PR] at hv;subst hv;exact⟨rfl,hfr.grow⟩
  ·intro j hj;have hpl:(vxb (r.length+1)).toList.map (qbk v0 vr)=vs:=by
    rw [hv0,←hvr,vz2,q3n]
   rw [hflw,hpl] at hj ⊢;have hj':j < (flat vs).length:=by simpa using hj
   have hcj:cur[j]?=some (flat vs)[j]:=by
    have hfl:(flat vs).length=(v0v AV.p (v0v enc (x0 :: r))).length * sz:=by rw [qbl o2,hvl];simp
    have h5:(cur.toList.take ((v0v AV.p (v0v enc (x0 :: r))).length * sz))[j]?=(flat vs)[j]?:=by rw [i7]
    rw [vya,if_pos (by rw [←hfl];exact hj'),vw9] at h5;rw [h5,vx4 hj']
   have hr:(flat vs).toArray[j]! = (flat vs)[j]:=by rw [getElem!_pos _ j hj];simp
   rw [hr];refine⟨?_,?_⟩
   ·simp only [World.cell?,i3,vzl];simpa using hcj
   ·simp [World.frozen?,i3]
  ·rintro e' w' ⟨rfl,m,os,rfl⟩;have hp:=qwk hok;have hsr:srt (fun x y=>(c x y).getD 0) (x0 :: r)=(Sort.pdq (Go.Proofs.ltOf fun i j=>(c (qbk x0 r i) (qbk x0 r j)).getD 0) (vxb (r.length+1)) 0 (r.length+1) (v0d (r.length+1)) true true).toList.map (qbk x0 r):=rfl;rw [hsr] at h;generalize Sort.pdq (Go.Proofs.ltOf fun i j=>(c (qbk x0 r i) (qbk x0 r j)).getD 0) (vxb (r.length+1)) 0 (r.length+1) (v0d (r.length+1)) true true=d at h hp ⊢;have hds:d.size=r.length+1:=by have:=hp.1.1;simpa using this
   have hW:Go.Proofs.sortWorldK ec sz w b 0 m d os=Sort.grow (Sort.putRow id (Sort.ahead w m) b 0 (flat (d.toList.map (qbk v0 vr))).toArray) os:=by
    unfold Go.Proofs.sortWorldK Sort.putRowK;rw [hflw]
   rw [hW];have hars:∀l:List Nat,ARs C.X inj st.sig w (v0v AV.p (v0v enc (l.map (qbk x0 r)))) (l.map (qbk v0 vr)):=by
    intro l
    induction l with
    | nil=>rfl
    | cons i l ih=>exact⟨_,_,rfl,hat i,ih⟩
   obtain⟨hH,hE⟩:=HR.rows hs.hr (m:=m) (os:=os) hobj hi (by simp [hds]) (hars d.toList)
    (fun v hv=>by obtain⟨i,_,rfl⟩:=v06.1 hv;exact o2 _ (hmem i))
    (by intro u hu;obtain⟨v,hv,hu⟩:=vyn.1 hu;obtain⟨i,_,rfl⟩:=v06.1 hv;exact hone1 i u hu)
   exact h inj _ _ (hs.put (u:=some (L,_)) hd hH hE (v:=.p (.tup [])) ⟨[],rfl,rfl⟩)
theorem zSQ {α:Type} {ops:Array Oper} {o:Oper} {rest:List Oper} {f:Operand} {args:Array Operand} {ats:Array TypeId} {k kc:FuncId} {caps:List PV} {fv:AV} {e sz g n L:Nat}
  (S:SrtQ C.P k sz) (enc:α→PV) (c:α→α→Option Int) {l l':List α} (hl:qzi c l=some l') (hc:∀x y r,c x y=some r→Con True C.P kc (enc x :: enc y :: caps) (.int .i64 r))
  (h:AL C ops rest Q ⟨qdh st.env o.dst (.p (.tup [])),qod st.heap L (.arr e sz g (v0v AV.p (v0v enc l')))⟩)
  (h1:∀x,(enc x).isAgg=true:=by intro x;rfl)
  (ho:o.op=.call ⟨.value f,args,ats⟩:=by rfl) (hg:qau ops st.env o=some true:=by first | exact qaw rfl | exact qbh rfl rfl (by exact rfl) (by exact rfl)) (hd:qbg C.N o=true:=by rfl)
  (hk:qbq st.env f args.toList=some (k,[.own L g 0 n,fv]):=by simp only [go_sem,seval, *];first | exact⟨⟨rfl,rfl,rfl⟩,rfl⟩ | exact⟨rfl,rfl,rfl,rfl⟩ | exact rfl) (hfv:(qdn (fun q=>q != L) 9 fv).run st.sig=some (.func (.func kc) caps):=by simp only [go_sem,seval, *];first | (all_goals exact zF) | exact rfl)
  (hobj:qa0 st.heap L=.arr e sz g (List.map AV.p (List.map enc l)):=by simp only [go_sem,seval, *];exact rfl) (hn:n=l.length:=by rfl):AL C ops (o :: rest) Q st:=vn9 S enc h1 c hl hc ho hg hd hk hfv hobj hn h
end Go.Ab
namespace Go.Ab
open Go
section
variable {C:Cx} {Q:Exit→St→Prop} {st:St}
end
section
variable {C:Cx} {Q:Exit→St→Prop} {st:St} {inj:Inj} {a:Act} {w:World}
attribute [go_sem] v0y
@[go_sem,simp] theorem LeVs_rep (σ σ':Nat→AO) (n:Nat) (x:PV):ql2 σ σ' (vyw n (.p x)) (vyw n (.p x)):=by
 have:=qxf σ σ' (vyw n x);simpa only [v0y] using this
@[go_sem,simp] theorem vea (σ σ':Nat→AO) (n:Nat):ql2 σ σ' (vyw n .nils) (vyw n (.p (.slc []))):=by
 induction n with
 | zero=>rfl
 | succ n ih =>
  rw [v1b,v1b,qxg];exact⟨by simp [LeV,qdn],ih⟩
theorem SR.shrink (h:SR C st inj a w) {t l g m e sz:Nat} {es:List AV} (hobj:qa0 st.heap l=.arr e sz g es) (ht:st.env.get t=.own l g 0 m) :
  SR C ⟨qdh st.env (some t) (.own l (g+1) 0 m),qod st.heap l (.arr e sz (g+1) (es.take m))⟩ inj a w:=by
 have hup:=h.hr.update (D:=C.D) (w':=w) (l:=l) (o:=.arr e sz g es) (o':=.arr e sz (g+1) (es.take m)) (x:=inj l) hobj rfl rfl rfl
  (fun _=>vza _) (vza _) (fun _ _=>rfl) (fun _ _ _=>rfl) (fun b c h1=>.inr ⟨rfl,_,h1⟩)
  ⟨vzb _,fun _ hg=>absurd hg (by simp [AO.gen])⟩
 obtain⟨hev,hhr⟩:=hup;have hinj:(fun k=>if k=l then inj l else inj k)=inj:=by
  funext k;by_cases hk:k=l
  ·rw [if_pos hk,hk]
  ·rw [if_neg hk]
 rw [hinj] at hev hhr;obtain⟨vs,h1,h2,h3,h4⟩:=h.hr.obj l _ hobj;have hs:(St.mk (qdh st.env (some t) (.own l (g+1) 0 m)) (qod st.heap l (.arr e sz (g+1) (es.take m)))).sig=qiq st.sig l (.arr e sz (g+1) (es.take m)):=qd4 _ _ _;have hob:=h.env t;rw [ht] at hob;obtain⟨q1,q2⟩:=hob;obtain⟨q3,q4⟩:=q2 _ hobj;obtain⟨q5,q6⟩:=q4 rfl e sz es rfl;rw [vzl] at q5;have hvl:vs.length=es.length:=h1.length.symm;have hor:OR C.X inj (qiq st.sig l (.arr e sz (g+1) (es.take m))) w l (.arr e sz (g+1) (es.take m)):=by
  refine⟨vs.take m,ARs.ev hev h.hr.xlt _ _ (h1.take m),fun v hv=>h2 v (vyq hv),fun u hu=>?_,?_⟩
  ·rw [qhz m h2] at hu;exact h3 u (vyq hu)
  ·rcases h4 with⟨h4,h5⟩|⟨b,c,cur,i1,i2,i3,i4,i5,i6,i7⟩
   ·exact .inl ⟨h4,by rw [h5,List.take_nil]⟩
   ·refine .inr ⟨b,c,cur,i1,i2,i3,by rw [vyi];omega,i5,i6,?_⟩;rw [qhz m h2,←i7,List.take_take,vyi];congr 1;rw [v1h q5,v1h (vzh _ q5)]
 have hHR:=hhr hor;refine⟨fun t'=>?_,h.size,h.defers,by rw [hs];exact hHR,by rw [hs];exact h.ev.trans hev⟩;rw [hs];simp only [qdh,Env.get];by_cases hte:t=t'
 ·rw [if_pos hte,←hte];refine⟨q1,fun o ho=>?_⟩;have ho':o=.arr e sz (g+1) (es.take m):=by rw [←ho];simp [qiq]
  subst ho';refine⟨vza _,fun _ e' sz' es' heq=>?_⟩;cases heq;refine⟨by rw [vyi];omega,?_⟩;rcases q6 with⟨q7,q8,q9,q10⟩|⟨b,c,a0,q7,q8,q9,q10⟩
  ·exact .inl ⟨q7,q8,rfl,q10⟩
  ·exact .inr ⟨b,c,a0,q7,q8,q9,q10⟩
 ·rw [if_neg hte];exact AR.ev hev h.hr.xlt _ _ (h.env t')
theorem qva {c:Code} (t l g m e sz:Nat) {es es':List AV} {st':St} (hobj:qa0 st.heap l=.arr e sz g es) (ht:st.env.get t=.own l g 0 m) (he:es.take m=es')
  (hs:(⟨qdh st.env (some t) (.own l (g+1) 0 m),qod st.heap l (.arr e sz (g+1) es')⟩:St)=st') (h:AWp C c Q st'):AWp C c Q st:=by
 subst he;subst hs;exact fun inj a w hs=>h inj a w (hs.shrink hobj ht)
end
section
theorem voa {α:Type} {l:List α} {n:Nat} {x:α} (h:l[((n:Nat):Int).toNat]?=some x):l[n]?=some x:=h
theorem qtv:∃g:Nat→Nat→Nat,(∀f i k,k < 1048576→k≠g f i)∧(∀f i j,g f i=g f j→i=j)∧∀f f' i j,f < 1048576→f' < 1048576→f≠f'→g f i≠g f' j :=
 ⟨fun f i=>1048576 * (i+1)+f,fun f i k h=>by show k≠1048576 * (i+1)+f;omega,fun f i j h=>by simp only at h;omega,fun f f' i j h h' hn=>by show 1048576 * (i+1)+f≠1048576 * (j+1)+f';omega⟩
def fx:Nat→Nat→Nat:=Classical.choose qtv
theorem veb {f i k:Nat} (h:k < 1048576):k≠fx f i:=(Classical.choose_spec qtv).1 f i k h
theorem q3p {k f i:Nat} (h:k < 1048576):(k=fx f i)=False:=eq_false (veb h)
theorem q3q {k f i:Nat} (h:k < 1048576):(fx f i=k)=False:=eq_false fun e=>veb h e.symm
theorem q3r {f i j:Nat}:(fx f i=fx f j)=(i=j):=propext ⟨(Classical.choose_spec qtv).2.1 f i j,fun h=>by rw [h]⟩
theorem fx_ne {f f' i j:Nat} (h:f < 1048576) (h':f' < 1048576) (hn:f≠f'):(fx f i=fx f' j)=False:=eq_false ((Classical.choose_spec qtv).2.2 f f' i j h h' hn)
variable {α:Type}
def qv7 (f e sz G:Nat) (enc:α→PV) (ll:List (List α)):List AV:=ll.mapIdx fun i x=>.own (fx f i) G 0 x.length
def qzk (f e sz G:Nat) (enc:α→PV) (ll:List (List α)) (rest:List (Nat×AO)):List (Nat×AO) :=
 (ll.mapIdx fun i x=>(fx f i,AO.arr e sz G (v0v AV.p (v0v enc x))))++rest
theorem qrg (f e sz G:Nat) (enc:α→PV) (ll:List (List α)) (i:Nat):(qv7 f e sz G enc ll)[i]?=(ll[i]?).map fun x=>AV.own (fx f i) G 0 x.length:=by
 simp [qv7,List.getElem?_mapIdx]
theorem qni (f e sz G:Nat) (enc:α→PV) (ll:List (List α)):(qv7 f e sz G enc ll).length=ll.length:=by simp [qv7]
theorem vif (f e sz G:Nat) (enc:α→PV):qv7 f e sz G enc []=[]:=rfl
theorem vig (f e sz G:Nat) (enc:α→PV) (rest:List (Nat×AO)):qzk f e sz G enc [] rest=rest:=rfl
theorem vob {a b:List (Nat×AO)} {l:Nat} (h:(a.any fun x=>x.1 == l)=true):qa0 (a++b) l=qa0 a l:=by
 induction a with
 | nil=>simp at h
 | cons x a ih =>
  obtain⟨k,o⟩:=x;simp only [v0h,qa0];by_cases hk:k=l
  ·rw [if_pos hk,if_pos hk]
  ·rw [if_neg hk,if_neg hk];rw [v0f,vxm] at h;rcases h with h | h
   ·exact absurd (by simpa using h) hk
   ·exact ih h
theorem q8x {a b:List (Nat×AO)} {l:Nat} (h:¬(a.any fun x=>x.1 == l)=true):qa0 (a++b) l=qa0 b l:=by
 induction a with
 | nil=>rfl
 | cons x a ih =>
  obtain⟨k,o⟩:=x;rw [v0f,vxm,not_or] at h;have hk:¬k=l:=by simpa using h.1
  simp only [v0h,qa0];rw [if_neg hk];exact ih h.2
theorem vih {a:List (Nat×AO)} {l:Nat} {o:AO} (hm:(l,o)∈a) (hu:∀o',(l,o')∈a→o'=o):qa0 a l=o:=by
 induction a with
 | nil=>cases hm
 | cons x a ih =>
  obtain⟨k,o1⟩:=x;simp only [qa0];by_cases h:k=l
  ·subst h;rw [if_pos rfl];exact hu o1 v04
  ·rw [if_neg h];rcases v02.1 hm with e | e
   ·cases e;exact absurd rfl h
   ·exact ih e fun o' ho=>hu o' (v03 _ ho)
theorem vii {f e sz G:Nat} {enc:α→PV} {ll:List (List α)} {rest:List (Nat×AO)} {l:Nat} (h:l < 1048576):qa0 (qzk f e sz G enc ll rest) l=qa0 rest l:=by
 unfold qzk;rw [q8x];simp only [v0g,not_exists,not_and,v07];rintro x ⟨i,hi,rfl⟩;simp only [beq_iff_eq,q3q h];exact fun h=>h
theorem q6o (f e sz G:Nat) (enc:α→PV) (ll:List (List α)) (rest:List (Nat×AO)) (i:Nat) :
  qa0 (qzk f e sz G enc ll rest) (fx f i)=(ll[i]?).elim (qa0 rest (fx f i)) fun x=>.arr e sz G (v0v AV.p (v0v enc x)):=by
 unfold qzk;by_cases hi:i < ll.length
 ·have hx:ll[i]?=some ll[i]:=vx4 hi;rw [vob,hx]
  ·refine vih (v07.2 ⟨i,hi,rfl⟩) fun o' ho=>?_
   obtain⟨j,hj,e⟩:=v07.1 ho;simp only [vzt] at e;have:j=i:=by have:=e.1;rw [q3r] at this;exact this
   subst this;exact e.2.symm
  ·simp only [v0g];exact⟨_,v07.2 ⟨i,hi,rfl⟩,by simp⟩
 ·have hx:ll[i]?=none:=vx5 (by omega);rw [q8x,hx]
  ·rfl
  ·simp only [v0g,not_exists,not_and,v07];rintro x ⟨j,hj,rfl⟩;simp only [beq_iff_eq,q3r];omega
def qle (h:List (Nat×AO)) (f e sz G:Nat) (enc:α→PV) (ll:List (List α)):Prop:=∀i x,ll[i]?=some x→qa0 h (fx f i)=.arr e sz G (v0v AV.p (v0v enc x))
def qme (h:List (Nat×AO)) (f i e sz G:Nat) (enc:α→PV) (ll:List (List α)):Prop:=∀j x,j≠i→ll[j]?=some x→qa0 h (fx f j)=.arr e sz G (v0v AV.p (v0v enc x))
def qnw (h:List (Nat×AO)) (f:Nat):Prop:=∀i,(qa0 h (fx f i)).alive=false
def q6p (h:List (Nat×AO)) (f G:Nat):Prop:=∀i,(qa0 h (fx f i)).alive=true→(qa0 h (fx f i)).gen < G
def vec {β:Type} (m:Nat) (y:List β):Prop:=m=y.length
def q6q (es:List AV) (enc:α→PV) (y:List α):Prop:=es=v0v AV.p (v0v enc y)
def voc (o:AO) (e sz:Nat) (enc:α→PV) (y:List α):Prop:=match o with
 | .arr e' sz' _ es=>e'=e∧sz'=sz∧q6q es enc y
 | _=>False
section
variable {h h' H0 rest:List (Nat×AO)} {f f' i k e sz G G' e' sz':Nat} {o:AO} {enc enc':α→PV} {ll ll':List (List α)}
theorem ved {g:Nat} {es:List AV} {y:List α}:voc (.arr e' sz' g es) e sz enc y=(e'=e∧sz'=sz∧q6q es enc y):=propext Iff.rfl
theorem vij {β:Type} {m:Nat} {y:List β} (h:y.length=m):vec m y=True:=by simp [vec,h]
theorem vbm {x:List α}:q6q (v0v AV.p (v0v enc x)) enc x=True:=by simp [q6q]
theorem q6r {x:List α} {v:PV} {y:α} (hv:v=enc y):q6q (v0v AV.p (v0v enc x++[v])) enc (x++[y])=True:=by simp [q6q,hv]
theorem qsr (hk:k < 1048576):qa0 ((k,o) :: h) (fx f i)=qa0 h (fx f i):=by simp only [qa0,q3p hk,if_false]
theorem vbn (hk:k < 1048576):qle ((k,o) :: h) f e sz G enc ll=qle h f e sz G enc ll:=by simp only [qle,qsr hk]
theorem q6s:qle (qzk f e sz G enc ll rest) f e sz G enc ll=True:=by
 simp only [qle,q6o,eq_iff_iff,iff_true];intro i x hx;rw [hx];rfl
theorem q6t (hk:k < 1048576):qme ((k,o) :: h) f i e sz G enc ll=qme h f i e sz G enc ll:=by simp only [qme,qsr hk]
theorem q3s:qme ((fx f i,o) :: h) f i e sz G enc ll=qme h f i e sz G enc ll:=by
 simp only [qme,eq_iff_iff];constructor <;> intro H j x hj hx
 ·have:=H j x hj hx;simp only [qa0,q3r] at this
  rwa [if_neg (fun e=>hj e.symm)] at this
 ·simp only [qa0,q3r];rw [if_neg (fun e=>hj e.symm)];exact H j x hj hx
theorem q3t:qme (qzk f e sz G enc ll rest) f i e sz G enc ll=True:=by
 simp only [qme,q6o,eq_iff_iff,iff_true];intro j x _ hx;rw [hx];rfl
theorem q6u (hk:k < 1048576):qnw ((k,o) :: h) f=qnw h f:=by simp only [qnw,qsr hk]
theorem q6v:qnw [] f=True:=by simp [qnw,qa0,AO.alive]
theorem q3u:qnw (qzk f e sz G enc [] rest) f=qnw rest f:=rfl
theorem q6w:q6p [] f G=True:=by simp [q6p,qa0,AO.alive]
theorem vbo {σ σ':Nat→AO} {a b:List (Nat×AO)}:qkg σ σ' H0 (a++b)↔qkg σ σ' H0 a∧qkg σ σ' H0 b:=by
 induction a with
 | nil=>simp [qkg]
 | cons x a ih =>
  obtain⟨l,o⟩:=x;simp only [v0h,qkg,ih,and_assoc]
theorem q1i {σ σ':Nat→AO} {a:List (Nat×AO)} (H:∀l o,(l,o)∈a→vdf σ σ' (qa0 H0 l).alive (qa0 H0 l).gen l):qkg σ σ' H0 a:=by
 induction a with
 | nil=>trivial
 | cons x a ih =>
  obtain⟨l,o⟩:=x;exact⟨H l o v04,ih fun l o hm=>H l o (v03 _ hm)⟩
theorem qss {σ σ':Nat→AO} (H:∀i x,ll[i]?=some x→vdf σ σ' (qa0 H0 (fx f i)).alive (qa0 H0 (fx f i)).gen (fx f i)):qkg σ σ' H0 (qzk f e sz G enc ll rest)=qkg σ σ' H0 rest:=by
 unfold qzk;rw [eq_iff_iff,vbo];refine⟨fun h=>h.2,fun hr=>⟨q1i fun l o hm=>?_,hr⟩⟩;obtain⟨i,hi,ee⟩:=v07.1 hm;simp only [vzt] at ee;obtain⟨rfl,rfl⟩:=ee;exact H i _ (vx4 hi)
theorem q6x {σ σ':Nat→AO} {keep:Bool} {g0 l g g':Nat} {xs:List PV} (h1:σ l=.arr e sz g (xs.map .p)) (h2:σ' l=.arr e sz g' (xs.map .p)) (hg:1≤g') (hk:keep=true→g'=g∨g0 < g'):vdf σ σ' keep g0 l:=by
 unfold vdf vde;rw [h1,h2];exact⟨hg,rfl,rfl,qxf _ _ _,hk⟩
theorem vod {σ σ':Nat→AO} {keep:Bool} {g0 l g g':Nat} (h1:σ l=.dead g) (h2:σ' l=.arr e sz g' []) (hg:1≤g') (hk:keep=false):vdf σ σ' keep g0 l:=by
 unfold vdf vde;rw [h1,h2];exact⟨hg,hk,rfl⟩
theorem q1j (h1:qle h f e sz G enc ll) (h2:qle h' f e sz G enc ll) (hg:1≤G):qkg (qa0 h) (qa0 h') H0 (qzk f e sz G enc ll rest)=qkg (qa0 h) (qa0 h') H0 rest :=
 qss fun i x hx=>q6x (h1 i x hx) (h2 i x hx) hg fun _=>.inl rfl
theorem qzl {y:List α} (h1:qme h f i e sz G enc ll) (h2:qle h' f e sz G enc (ll.set i y)) (hm:voc (qa0 h (fx f i)) e sz enc y) (hg:1≤G) (hk:(qa0 h (fx f i)).gen=G∨q6p H0 f G) :
  qkg (qa0 h) (qa0 h') H0 (qzk f e sz G enc (ll.set i y) rest)=qkg (qa0 h) (qa0 h') H0 rest:=by
 refine qss fun j x hx=>?_
 have h3:=h2 j x hx;by_cases hj:j=i
 ·subst hj;unfold voc at hm;split at hm
  ·rename_i e' sz' g es ho;obtain⟨rfl,rfl,hme⟩:=hm;unfold q6q at hme;subst hme;have hxy:x=y:=by
    have hlt:j < ll.length:=by have:=(vx6.1 hx).1;simpa using this
    rw [v0p hlt] at hx;exact (v1p hx).symm
   subst hxy;exact q6x ho h3 hg fun ha=>by
    rcases hk with hk | hk
    ·rw [ho] at hk;exact .inl hk.symm
    ·exact .inr (hk j ha)
  ·exact hm.elim
 ·rw [v0o (fun e=>hj e.symm)] at hx;exact q6x (h1 j x hj hx) h3 hg fun _=>.inl rfl
theorem voe {o:AO} (h:o.alive=false):∃g,o=.dead g:=by
 cases o with
 | dead g=>exact⟨g,rfl⟩
 | arr _ _ _ _=>cases h
 | map _ _ _=>cases h
theorem qxq {n:Nat} (hd:qnw h f) (h2:qle h' f e sz G enc (vyw n [])) (hd0:qnw H0 f) (hg:1≤G) :
  qkg (qa0 h) (qa0 h') H0 (qzk f e sz G enc (vyw n []) rest)=qkg (qa0 h) (qa0 h') H0 rest:=by
 refine qss fun j x hx=>?_
 have h3:=h2 j x hx;have hx':x=[]:=by
  rw [vx9] at hx;split at hx
  ·exact (v1p hx).symm
  ·cases hx
 subst hx';obtain⟨g,hg'⟩:=voe (hd j);exact vod hg' h3 hg (hd0 j)
theorem qwo {σ σ':Nat→AO}:∀{cs cs':List AV},cs.length=cs'.length→(∀(j:Nat) c c',cs[j]?=some c→cs'[j]?=some c'→LeV σ σ' c c')→ql2 σ σ' cs cs'
 | [],[],_,_=>rfl
 | [],_ :: _,h,_=>by simp at h
 | _ :: _,[],h,_=>by simp at h
 | c :: cs,c' :: cs',h,H=>⟨H 0 c c' rfl rfl,qwo (by simpa using h) fun j d d' h1 h2=>H (j+1) d d' (by simpa using h1) (by simpa using h2)⟩
theorem vee {σ σ':Nat→AO} {l g g' off n:Nat} {es es':List AV} {e sz e' sz':Nat} (h1:σ l=.arr e sz g es) (h2:σ' l=.arr e' sz' g' es'):LeV σ σ' (.own l g off n) (.own l g' off n):=by
 refine .inl ⟨by rw [h1];rfl,by rw [h2];rfl,by rw [h2];rfl,by rw [h1];rfl⟩
theorem q6y (h1:qle h f e sz G enc ll) (h2:qle h' f e sz G' enc ll):ql2 (qa0 h) (qa0 h') (qv7 f e sz G enc ll) (qv7 f e sz G' enc ll)=True:=by
 rw [eq_iff_iff,iff_true];refine qwo (by rw [qni,qni]) fun j c c' hc hc'=>?_
 rw [qrg] at hc hc';cases hx:ll[j]? with
 | none=>rw [hx] at hc;cases hc
 | some x =>
  rw [hx] at hc hc';cases hc;cases hc';exact vee (h1 j x hx) (h2 j x hx)
theorem qvu {y:List α} {g m:Nat} (h1:qme h f i e sz G enc ll) (h2:qle h' f e sz G enc (ll.set i y)) (hg:(qa0 h (fx f i)).gen=g) (ha:(qa0 h (fx f i)).alive=true) (hm:vec m y) :
  ql2 (qa0 h) (qa0 h') ((qv7 f e sz G enc ll).set i (.own (fx f i) g 0 m)) (qv7 f e sz G enc (ll.set i y))=True:=by
 rw [eq_iff_iff,iff_true];unfold vec at hm;subst hm;refine qwo (by rw [vyh,qni,qni,vyh]) fun j c c' hc hc'=>?_
 rw [qrg] at hc';cases hx:(ll.set i y)[j]? with
 | none=>rw [hx] at hc';cases hc'
 | some x =>
  rw [hx] at hc';cases hc';have h3:=h2 j x hx;have hlt:j < ll.length:=by have:=(vx6.1 hx).1;simpa using this
  by_cases hj:j=i
  ·subst hj;rw [v0p (by rw [qni];exact hlt)] at hc;cases hc;rw [v0p hlt] at hx;cases hx;exact .inl ⟨by rw [hg],by rw [h3];rfl,by rw [h3];rfl,ha⟩
  ·rw [v0o (fun e=>hj e.symm),qrg] at hc;rw [v0o (fun e=>hj e.symm)] at hx;rw [hx] at hc;cases hc;exact vee (h1 j x hj hx) h3
theorem q1k {y:List α} (h1:qme h f i e sz G enc ll) (h2:qle h' f e sz G enc (ll.set i y)) (hg:(qa0 h (fx f i)).gen=G) (ha:(qa0 h (fx f i)).alive=true) (hm:(ll[i]?).elim False fun x=>vec x.length y) :
  ql2 (qa0 h) (qa0 h') (qv7 f e sz G enc ll) (qv7 f e sz G enc (ll.set i y))=True:=by
 have:=qvu (y:=y) (m:=y.length) h1 h2 hg ha rfl;have e:(qv7 f e sz G enc ll).set i (.own (fx f i) G 0 y.length)=qv7 f e sz G enc ll:=by
  apply vxy;intro j;by_cases hj:j=i
  ·subst hj;cases hx:ll[j]? with
   | none=>rw [hx] at hm;exact hm.elim
   | some x =>
    have hlt:=(vx6.1 hx).1;rw [hx] at hm;replace hm:x.length=y.length:=hm;rw [v0p (by rw [qni];exact hlt),qrg,hx];simp [hm]
  ·rw [v0o (fun e=>hj e.symm)]
 rw [e] at this;exact this
theorem q1l {n:Nat} (hd:qnw h f) (h2:qle h' f e sz G enc (vyw n [])):ql2 (qa0 h) (qa0 h') (vyw n .nils) (qv7 f e sz G enc (vyw n []))=True:=by
 rw [eq_iff_iff,iff_true];refine qwo (by simp [qni]) fun j c c' hc hc'=>?_
 rw [qrg] at hc';cases hx:(vyw n ([]:List α))[j]? with
 | none=>rw [hx] at hc';cases hc'
 | some x =>
  rw [hx] at hc';cases hc';have h3:=h2 j x hx;have hx':x=[]:=by
   rw [vx9] at hx;split at hx
   ·exact (v1p hx).symm
   ·cases hx
  subst hx';have hc2:c=.nils:=by
   rw [vx9] at hc;split at hc
   ·exact (v1p hc).symm
   ·cases hc
  subst hc2;exact .inr ⟨rfl,rfl,rfl,hd j,by rw [h3];rfl⟩
theorem q3v (D:Nat→Bool) (n:Nat) (h1:qle h f e sz G enc ll) (hD:∀i,D (fx f i)=true):(qas (qdn D (n+2)) (qv7 f e sz G enc ll)).run (qa0 h)=some (v0v (qal enc) ll):=by
 have key:∀(r:List (List α)) (k:Nat),(∀j x,r[j]?=some x→qa0 h (fx f (k+j))=.arr e sz G (v0v AV.p (v0v enc x))) →
   (qas (qdn D (n+2)) (r.mapIdx fun i x=>AV.own (fx f (k+i)) G 0 x.length)).run (qa0 h)=some (v0v (qal enc) r):=by
  intro r
  induction r with
  | nil=>intro k _;rfl
  | cons x r ih =>
   intro k H;have h0:=H 0 x rfl;rw [vy6] at h0;have h2:=ih (k+1) fun j y hy=>by
    have:=H (j+1) y (by simpa using hy)
    rwa [show k+(j+1)=k+1+j by omega] at this
   rw [List.mapIdx_cons];simp only [qas,L.run_bind',vy6];have e1:(qdn D (n+2) (.own (fx f k) G 0 x.length)).run (qa0 h)=some (qal enc x):=by
    simp only [qdn,hD,if_true,L.run_look,h0];rw [if_pos ⟨trivial,by simp⟩];rw [L.run_bind',List.drop_zero,vy0 (by simp),ql6];rfl
   rw [e1];have e2:(fun i (y:List α)=>AV.own (fx f (k+(i+1))) G 0 y.length)=fun i (y:List α)=>AV.own (fx f (k+1+i)) G 0 y.length:=by
    funext i y;rw [show k+(i+1)=k+1+i by omega]
   simp only [vzm,e2,h2];rfl
 have:=key ll 0 fun j x hx=>by rw [vzl];exact h1 j x hx
 simpa only [qv7,vzl] using this
end
end
section
mutual
def renV (π:Nat→Nat):AV→AV
 | .any=>.any
 | .p x=>.p x
 | .nils=>.nils
 | .loc l g i off=>.loc (π l) g i off
 | .own l g off n=>.own (π l) g off n
 | .mapo l g=>.mapo (π l) g
 | .func fn cs=>.func fn (vef π cs)
 | .agg cs=>.agg (vef π cs)
 | .tup cs=>.tup (vef π cs)
def vef (π:Nat→Nat):List AV→List AV
 | []=>[]
 | c :: r=>renV π c :: vef π r
end
section
variable {X:Nat→Prop} {inj:Inj} {σ:Nat→AO} {w:World} {π:Nat→Nat}
end
def renE (π:Nat→Nat) (env:Env):Env:=env.map fun x=>(x.1,renV π x.2)
variable {C:Cx} {Q:Exit→St→Prop} {st:St} {inj:Inj} {a:Act} {w:World}
section
variable {α:Type} {h:List (Nat×AO)} {f i d e sz G:Nat} {enc:α→PV} {ll:List (List α)}
end
end
section
section
variable {α:Type} {h:List (Nat×AO)} {f e sz G:Nat} {enc:α→PV} {ll:List (List α)}
theorem q3w (D:Nat→Bool) (h1:qle h f e sz G enc ll) (hD:∀i,D (fx f i)=true):(qas (qdn D 8) (qv7 f e sz G enc ll)).run (qa0 h)=some (v0v (qal enc) ll):=q3v D 6 h1 hD
theorem veg (c:Prop) [Decidable c] (a b:AO):(if c then a else b).alive=if c then a.alive else b.alive:=by split <;> rfl
end
theorem veh (π:Nat→Nat) (t:Nat) (v:AV) (r:Env):renE π ((t,v) :: r)=(t,renV π v) :: renE π r:=rfl
theorem vik (π:Nat→Nat):renE π []=[]:=rfl
theorem q6z {β:Type} {l:List β} {n:Nat} (h:l.length=n):l.take n=l:=vy0 (by omega)
theorem q8y {β:Type} (l:List PV) (f:β→PV) (x:List β):(PV.slc l=qal f x)=(l=v0v f x):=by simp [qal]
attribute [simp] q8y
attribute [go_sem] q6z q8y q3p q3q q3r qrg qni vif vig vii q6o Option.elim_some Option.elim_none vbn q6s q6t q3s q3t q6u q6v q3u q6w ved vij vbm q6r q1j qzl qxq q6y qvu q1k q1l q3w veg renV vef veh vik
variable {C:Cx} {Q:Exit→St→Prop} {st:St}
end
section
section
variable {α:Type} {h h' H0 rest:List (Nat×AO)} {f e sz G:Nat} {enc:α→PV}
end
end
section
section
variable {α:Type} {h h' H0 rest:List (Nat×AO)} {f e sz G:Nat} {enc:α→PV} {ll:List (List α)}
end
end
section
section
variable {C:Cx} {Q:Exit→St→Prop} {st:St}
theorem zCn {α:Type} (f:α→PV) (l:List α) (K off len:Nat) (hle:off+len≤l.length) {ops:Array Oper} {o:Oper} {rest:List Oper} {g e sz:Nat} {t:TypeId} {x:Operand} {st':St}
  (h:AL C ops rest Q st') (ho:o.op=.call ⟨.builtin .clear,#[x],#[t]⟩:=by rfl) (hg:qau ops st.env o=some true:=by first | exact qaw rfl | exact qbh rfl rfl (by exact rfl) (by exact rfl)) (hd:qbg C.N o=true:=by rfl)
  (hu:C.P.underlying t=some (.slice e):=by simp only [go_sem,seval];all_goals exact rfl) (hx:ev st.env x=.own K g off len:=by simp only [go_sem,seval, *];all_goals exact zF)
  (hs:qa0 st.heap K=.arr e sz g ((l.map f).map .p):=by simp only [go_sem,seval, *];all_goals exact zF) (hsz:sz=C.P.cellsOf e:=by simp only [go_sem,seval];all_goals rfl) (hz:qbf C.P e=some .nils:=by simp only [go_sem,seval];all_goals rfl)
  (hok:qer sz .nils=true:=by rfl)
  (hst:(⟨qdh st.env o.dst (.p (.tup [])),qp1 st.heap (some (K,.arr e sz g (List.map AV.p (List.map f (l.take off))++List.replicate len .nils++List.map AV.p (List.map f (l.drop (off+len))))))⟩:St)=st':=by exact rfl):AL C ops (o :: rest) Q st:=by
 obtain⟨dst,op,type,pos,after,guard⟩:=o;simp only at ho;subst ho;subst hsz;have hr:(aop C.P C.B (ev st.env) ⟨dst,.call ⟨.builtin .clear,#[x],#[t]⟩,type,pos,after,guard⟩).run (qa0 st.heap)=some (.p (.tup []),some (K,.arr e (C.P.cellsOf e) g (v0v AV.p (v0v f (l.take off))++vyw len .nils++v0v AV.p (v0v f (l.drop (off+len)))))):=by
  show (qr8 C.P t (ev st.env x)).run (qa0 st.heap)=_;unfold qr8;rw [hu,hx];simp only [L.run,hs];rw [if_pos ⟨trivial,trivial,trivial,by simpa using hle⟩,hz];simp only [hok,if_true,L.run_ret];simp only [v0z,v0x]
 subst hst;refine vd4 hg hd ?_ h;rw [hr];rfl
theorem qxr {σ σ':Nat→AO}:∀{a a' b b':List AV},ql2 σ σ' a a'→ql2 σ σ' b b'→ql2 σ σ' (a++b) (a'++b')
 | [],[],_,_,_,h=>h
 | [],_ :: _,_,_,h,_=>h.elim
 | _ :: _,[],_,_,h,_=>by simp [ql2] at h
 | c :: a,c' :: a',b,b',h,k=>⟨h.1,qxr h.2 k⟩
theorem vil {α:Type} {σ σ':Nat→AO} {f:α→PV} {a b:List α} {n:Nat} {z:α} (hz:f z=.slc []) :
  ql2 σ σ' (v0v AV.p (v0v f a)++vyw n .nils++v0v AV.p (v0v f b)) (v0v AV.p (v0v f (a++vyw n z++b)))=True:=by
 rw [eq_iff_iff,iff_true];simp only [vyj,v0y,hz];exact qxr (qxr (qxf _ _ _) (vea _ _ _)) (qxf _ _ _)
end
attribute [go_sem] vil
end
section
theorem qvb:∃p:Nat→Nat,(∀k,k < 1048576→p k=k)∧∀f i,f < 1048576→p (fx f i)=1048576+f:=by
 refine⟨fun l=>open Classical in if l < 1048576 then l else if h:∃f i,f < 1048576∧l=fx f i then 1048576+h.choose else 0,fun k hk=>if_pos hk,fun f i hf=>?_⟩;have h1:¬fx f i < 1048576:=fun h=>veb h rfl
 have h2:∃f' i',f' < 1048576∧fx f i=fx f' i':=⟨f,i,hf,rfl⟩;simp only [h1,if_false];rw [dif_pos h2];obtain⟨i',h3,h4⟩:=h2.choose_spec;by_cases hn:f=h2.choose
 ·rw [←hn]
 ·rw [fx_ne hf h3 hn] at h4;exact h4.elim
def plc:Nat→Nat:=Classical.choose qvb
theorem vei {k:Nat} (h:k < 1048576):plc k=k:=(Classical.choose_spec qvb).1 k h
theorem vlr {f i:Nat} (h:f < 1048576):plc (fx f i)=1048576+f:=(Classical.choose_spec qvb).2 f i h
def vim (p:Nat→Nat) (e:Evt):Option Nat×List Nat:=(e.wr.map p,e.reads.map p)
def vof (x y:Option Nat×List Nat):Bool :=
  (match x.1 with
   | some l=>!y.2.contains l && y.1 != some l
   | none=>true) && (match y.1 with
   | some l=>!x.2.contains l
   | none=>true)
def vej (ops:Array Oper) (es:List (Option Nat×List Nat)):Bool :=
  let A:=q8p ops ops.size
  (vyu ops.size).all fun j=>(vyu j).all fun i=>qzc A j i ||
    (match es[i]?,es[j]? with
     | some x,some y=>vof x y
     | _,_=>true)
theorem vin {p:Nat→Nat} {x y:Evt} (h:vof (vim p x) (vim p y)=true):vbd x y=true:=by
 unfold vof vim at h;unfold vbd;simp only [vxh] at h ⊢;obtain⟨h1,h2⟩:=h;constructor
 ·cases hx:x.wr with
  | none=>rfl
  | some l =>
   rw [hx] at h1;simp only [vzr,vxh,vxl,bne_iff_ne,ne_eq] at h1 ⊢;obtain⟨q1,q2⟩:=h1;refine⟨?_,fun e=>q2 (by rw [e];rfl)⟩;cases hc:y.reads.contains l with
   | false=>rfl
   | true =>
    have:(y.reads.map p).contains (p l)=true:=by
     simp only [v0i,v06] at hc ⊢;exact⟨l,hc,rfl⟩
    rw [this] at q1;cases q1
 ·cases hy:y.wr with
  | none=>rfl
  | some l =>
   rw [hy] at h2;simp only [vzr,vxl] at h2 ⊢;cases hc:x.reads.contains l with
   | false=>rfl
   | true =>
    have:(x.reads.map p).contains (p l)=true:=by
     simp only [v0i,v06] at hc ⊢;exact⟨l,hc,rfl⟩
    rw [this] at h2;cases h2
theorem vio {ops:Array Oper} {es:List Evt} {p:Nat→Nat} (h:vej ops (es.map (vim p))=true):qu8 ops es=true:=by
 simp only [vej,qu8,v0e,v08,vxm] at h ⊢;intro j hj i hi;rcases h j hj i hi with h1 | h1
 ·exact .inl h1
 ·right;rw [vx7,vx7] at h1;cases hx:es[i]? with
  | none=>rfl
  | some x =>
   cases hy:es[j]? with
   | none=>rfl
   | some y =>
    rw [hx,hy] at h1;exact vin h1
theorem q3x {ops:Array Oper} {acc:List Evt} {sh:List (Option Nat×List Nat)} (hsh:acc.map (vim plc)=sh) (hev:vej ops sh.reverse=true):qu8 ops acc.reverse=true:=by
 subst hsh;rw [←List.map_reverse] at hev;exact vio hev
variable {C:Cx} {Q:Exit→St→Prop} {st:St}
theorem ydS {l:Array Oper} {acc:List Evt} {sh:List (Option Nat×List Nat)} (h:Q .normal st) (hsh:acc.map (vim plc)=sh:=by simp only [List.map_cons,List.map_nil,vim,Evt.wr,Option.map_some,Option.map_none,vei,vlr,seval,go_sem];exact rfl) (hev:vej l sh.reverse=true:=by kernel_rfl):DGo C l [] st acc (DK C l Q):=DGo.fin (q3x hsh hev) h
theorem ydlS {l:Array Oper} {r:List Oper} {acc:List Evt} {sh:List (Option Nat×List Nat)} (h:AL C l r Q st) (hsh:acc.map (vim plc)=sh:=by simp only [List.map_cons,List.map_nil,vim,Evt.wr,Option.map_some,Option.map_none,vei,vlr,seval,go_sem];exact rfl) (hev:vej l sh.reverse=true:=by kernel_rfl):DGo C l [] st acc (DKL C l r Q):=DGo.done ⟨q3x hsh hev,h⟩
end
end Go.Ab
namespace Go.Ab
variable {D:Prop}
open Go
def q60 (n₀:Nat) (W:World) (sv:Value) (n:Nat) (news:List Value):Prop :=
 (∃a cap,sv=.slice a 0 cap∧n=0)∨∃b off cap,sv=.slice (some ⟨b,off,none⟩) n cap∧b < n₀∧∀j u,news[j]?=some u→W.cell? ⟨b,off+j,none⟩=some u
theorem q60.below {n₀ n:Nat} {A B:World} (h:RowKit.Below n₀ A B) {sv:Value} {news:List Value}:q60 n₀ A sv n news→q60 n₀ B sv n news
 | .inl e=>.inl e
 | .inr ⟨b,off,cap,e,hb,hc⟩=>.inr ⟨b,off,cap,e,hb,fun j u hj=>(h.cell (p:=⟨b,off+j,none⟩) hb).trans (hc j u hj)⟩
variable {C:Cx} {Q:Exit→St→Prop} {st:St}
end Go.Ab
namespace Go.Lib
open Go.RowKit
section
variable {P:Program} (w:World)
end
structure PairAt (T b:Nat) (p v:Value) (n:Nat) (w:World):Prop where
 ex:∃cur,w.heap[b]?=some (.cells cur T (0,0))∧cur.size=n∧cur.toList.take 2=[p,v]
theorem PairAt.lt {T b p v n w} (h:PairAt T b p v n w):b < w.heap.size:=by
 obtain⟨cur,h1,_⟩:=h.ex;exact (vw6.1 h1).1
theorem PairAt.shape {T b p v n w} (h:PairAt T b p v n w):w.shape? b=some (T,n):=by
 obtain⟨cur,h1,h2,_⟩:=h.ex;simp [World.shape?,h1,h2]
end Go.Lib
namespace Go.Proofs
open Go.Shelf Go.RowKit
variable {P:Program} {ρ:Ren}
end Go.Proofs
namespace Go.Lib
end Go.Lib
namespace Go.Proofs
open Go.Shelf Go.RowKit
variable {P:Program} {ρ:Ren}
end Go.Proofs
namespace Go.Ab
variable {D:Prop}
open Go
def vtw (bs:List UInt8):List AV:=bs.map fun c=>.p (.int .u8 ((c.toNat:Nat):Int))
variable {C:Cx} {Q:Exit→St→Prop} {st:St}
end Go.Ab
namespace Go.Ab
variable {D:Prop}
open Go
variable {C:Cx} {Q:Exit→St→Prop} {st:St}
@[go_sem] theorem vq0:vtw []=[]:=rfl
theorem vip {C : Cx} {st : St} {inj : Inj} {a : Act} {w : World} (hs : SR C st inj a w) {g : Nat} (hg : C.P.globalNamed "math/bits.deBruijn32tab" = some g) : q5s (fun b => C.X b ∨ F inj st.sig b) w g 0 (qkt.map (Value.int .u8)) := qmb hs.ev g hg
theorem vtx {ops : Array Oper} {o : Oper} {rest : List Oper} {t te g : Nat} {x : Operand} {k : IntKind} {i : Nat} (hgn : C.P.globalNamed "math/bits.deBruijn32tab" = some g) (ho : o.op = .indexAddr t (.global g) x) (hg : qau ops st.env o = some true) (hd : qbg C.N o = true)
  (hu:C.P.underlying t=some (.array 32 te)) (hte:qn7 C.P te=true) (hc:C.P.cellsOf te=1) (hx:ev st.env x=.p (.int k (i:Int))) (hi:i < 32)
  (h:AL C ops rest Q ⟨qdh st.env o.dst (.p (.imm [.int .u8 (qkt.getD i 0)])),st.heap⟩):AL C ops (o :: rest) Q st:=by
 intro inj a w hs;simp only [wpList,qa9 hs hg,if_true];refine .inl ?_;have hr:=vip hs hgn;have he:=hs.eval x;rw [hx] at he;simp only [AR,PR] at he;have hsz:=qen hte w;rw [hc] at hsz;have hrun:(Instr.indexAt t (.pointer (some ⟨g,0,none⟩)) (a.eval x)).run C.P w=.ok (.pointer (some ⟨g,i,none⟩)) w:=by
  rw [he];have h1:((i:Int) < 32):=by omega
  simp [Instr.indexAt,asIntOf,run_underlying hu,Instr.sureAddr,hi,h1,hsz,Addr.add_lit]
 have hlen:i < qkt.length:=by simpa [qkt] using hi
 have hcell:PR (fun b=>C.X b∨F inj st.sig b) w (.imm [.int .u8 (qkt.getD i 0)]) (.pointer (some ⟨g,i,none⟩)):=by
  refine⟨g,i,[.int .u8 (qkt.getD i 0)],rfl,⟨_,_,rfl,rfl,rfl⟩,by intro u hu;have h1z:u=.int .u8 (qkt.getD i 0):=(by simpa using hu);subst h1z;rfl,hr.1,hr.2.1,?_⟩;intro j u hj;cases j with
  | zero =>
   simp only [v0m,vzs] at hj;subst hj;have:=hr.2.2 i (.int .u8 (qkt.getD i 0)) (by rw [vx7,v0k,vx4 hlen];rfl);simpa using this
  | succ j=>simp at hj
 obtain⟨dst,op,ty,pos,af,gd⟩:=o;simp only at ho;subst ho;refine qoc (s:=Instr.indexAt t (a.eval (.global g)) (a.eval x)) rfl hrun ?_
 ·exact h inj _ _ (hs.put (u:=none) hd hs.hr (Ev.refl _ _ _ _) hcell)
theorem zTab {ops : Array Oper} {o : Oper} {rest : List Oper} {t te g : Nat} {x : Operand} {k : IntKind} (i : Nat) (hgn : C.P.globalNamed "math/bits.deBruijn32tab" = some g) (hu : C.P.underlying t = some (.array 32 te)) (hi : i < 32) (hx : ev st.env x = .p (.int k (i : Int)))
  (h:AL C ops rest Q ⟨qdh st.env o.dst (.p (.imm [.int .u8 (qkt.getD i 0)])),st.heap⟩) (hte:qn7 C.P te=true:=by kernel_rfl) (hc:C.P.cellsOf te=1:=by kernel_rfl)
  (ho:o.op=.indexAddr t (.global g) x:=by rfl) (hg:qau ops st.env o=some true:=by exact qaw rfl) (hd:qbg C.N o=true:=by rfl):AL C ops (o :: rest) Q st:=vtx hgn ho hg hd hu hte hc hx hi h
def tzI (n:Nat):Nat:=(n &&& (4294967296 - n)) * 125613361 % 4294967296 / 134217728
def vq1 (n:Nat):Int:=if n=0 then 32 else qkt.getD (tzI n) 0
theorem vls (n:Nat):tzI n < 32:=by unfold tzI;omega
theorem vty (n:Nat):v0b.wrap (n:Int)=((n % 4294967296:Nat):Int):=by
 simp only [v0c,vz9,vz7];simp only [vz5,vxj,if_false];rw [show ((2:Int) ^ 32)=4294967296 from rfl];omega
theorem vtz {n:Nat} (h0:n≠0) (h:n < 4294967296):vz6 (v0b.wrap ((v0b.wrap ((BitVec.ofInt 32 (n:Int) &&& BitVec.ofInt 32 (v0b.wrap (0 - (n:Int)))).toNat:Int)) * 125613361)) (2 ^ (min 27 32))=((tzI n:Nat):Int):=by
 have e1:v0b.wrap (0 - (n:Int))=((4294967296 - n:Nat):Int):=by
  simp only [v0c,vz9,vz7];simp only [vz5,vxj,if_false];rw [show ((2:Int) ^ 32)=4294967296 from rfl];omega
 rw [e1,vie,BitVec.toNat_and,qvt h,qvt (a:=4294967296 - n) (by omega)];have e2:((n &&& (4294967296 - n):Nat):Int) * 125613361=(((n &&& (4294967296 - n)) * 125613361:Nat):Int):=by simp
 rw [e2,vty];unfold tzI;exact vlq _ 27 (by omega)
theorem vlt:∀i,i < 32→0≤qkt.getD i 0∧qkt.getD i 0 < 32:=by decide
theorem vek {n:Nat}:vz8.wrap (qkt.getD (tzI n) 0)=qkt.getD (tzI n) 0:=by
 have h:=vlt (tzI n) (vls n);exact wrap_i64 (by omega) (by omega)
end Go.Ab
namespace Go.Ab
variable {D:Prop}
open Go
def tzJ (n:Nat):Nat:=(n &&& (65536 - n)) * 125613361 % 4294967296 / 134217728
def vt0 (n:Nat):Int:=if n=0 then 16 else qkt.getD (tzJ n) 0
theorem vlu (n:Nat):tzJ n < 32:=by unfold tzJ;omega
theorem qtw {n:Int} (h1:0≤n) (h2:n≤65535):v0a.wrap n=n:=by
 simp only [v0c,vz9,vz7];simp only [vz5,vxj,if_false];rw [show ((2:Int) ^ 16)=65536 from rfl];omega
theorem qlu {a:Nat} (h:a < 65536):(BitVec.ofInt 16 (a:Int)).toNat=a:=by
 rw [BitVec.ofInt_natCast,BitVec.toNat_ofNat];exact v1i h
theorem q1m (b:BitVec 16):v0a.wrap ((b.toNat:Nat):Int)=((b.toNat:Nat):Int):=by
 have:=b.isLt;exact qtw (by omega) (by omega)
theorem neg16 {n:Nat} (h0:n≠0) (h:n < 65536):v0a.wrap (0 - (n:Int))=((65536 - n:Nat):Int):=by
 simp only [v0c,vz9,vz7];simp only [vz5,vxj,if_false];rw [show ((2:Int) ^ 16)=65536 from rfl];omega
theorem viq {n:Nat} (h0:n≠0) (h:n < 65536):vz6 (v0b.wrap ((v0b.wrap (v0a.wrap ((BitVec.ofInt 16 (n:Int) &&& BitVec.ofInt 16 (v0a.wrap (0 - (n:Int)))).toNat:Int))) * 125613361)) (2 ^ (min 27 32))=((tzJ n:Nat):Int):=by
 rw [neg16 h0 h,q1m,BitVec.toNat_and,qlu h,qlu (a:=65536 - n) (by omega)];have hle:n &&& (65536 - n) < 65536:=Nat.lt_of_le_of_lt Nat.and_le_left h;rw [qwm (n:=((n &&& (65536 - n):Nat):Int)) (by omega) (by omega)];have e2:((n &&& (65536 - n):Nat):Int) * 125613361=(((n &&& (65536 - n)) * 125613361:Nat):Int):=by simp
 rw [e2,vty];unfold tzJ;exact vlq _ 27 (by omega)
theorem vel {n:Nat}:vz8.wrap (qkt.getD (tzJ n) 0)=qkt.getD (tzJ n) 0:=by
 have h:=vlt (tzJ n) (vlu n);exact wrap_i64 (by omega) (by omega)
end Go.Ab
namespace Go.Ab
open Go
set_option linter.constructorNameAsVariable false
theorem qy1 (a b:Nat):v1f a b=decide (a=b):=by
 by_cases h:a=b
 ·subst h;simp [Nat.beq_eq]
 ·simp only [h,decide_false];exact vz4.2 fun e=>h (Nat.eq_of_beq_eq_true e)
theorem nmod (a b:Nat):Nat.mod a b=a % b:=rfl
theorem ndiv (a b:Nat):Nat.div a b=a / b:=rfl
inductive Ps where
 | z | o (p:Ps) | i (p:Ps)
 deriving DecidableEq
def Ps.of:Nat→Nat→Ps
 | 0,_=>.z
 | f+1,k=>bif v1f k 0 then .z else bif v1f (Nat.mod k 2) 1 then .o (Ps.of f (Nat.div k 2)) else .i (Ps.of f (Nat.pred (Nat.div k 2)))
abbrev pth (k:Nat):Ps:=Ps.of (Nat.succ k) k
def Ps.num:Ps→Nat
 | .z=>0
 | .o p=>2 * p.num+1
 | .i p=>2 * p.num+2
theorem Ps.num_of:∀(f k:Nat),k < f→(Ps.of f k).num=k
 | 0,k,h=>by omega
 | f+1,k,h=>by
  simp only [Ps.of,qy1,nmod,ndiv,Nat.pred_eq_sub_one,cond_eq_ite,decide_eq_true_eq];by_cases hk:k=0
  ·subst hk;rfl
  ·simp only [hk,if_false];by_cases hm:k % 2=1
   ·simp only [hm,if_true,Ps.num];rw [Ps.num_of f (k / 2) (by omega)];omega
   ·simp only [hm,if_false,Ps.num];rw [Ps.num_of f (k / 2 - 1) (by omega)];omega
theorem vem {j k:Nat} (h:pth j=pth k):j=k:=by
 have h1:=Ps.num_of (j+1) j (by omega);have h2:=Ps.num_of (k+1) k (by omega);unfold pth at h;rw [←h1,←h2];exact congrArg Ps.num h
inductive Ty (α:Type) where
 | e
 | n (v:α) (l r:Ty α)
def Ty.get {α:Type} (d:α) (t:Ty α) (p:Ps):α :=
 @Ps.rec (fun _=>Ty α→α) (fun t=>@Ty.rec α (fun _=>α) d (fun v _ _ _ _=>v) t) (fun _ ih t=>@Ty.rec α (fun _=>α) d (fun _ l _ _ _=>ih l) t) (fun _ ih t=>@Ty.rec α (fun _=>α) d (fun _ _ r _ _=>ih r) t) p t
def Ty.set {α:Type} (d:α) (v:α) (t:Ty α) (p:Ps):Ty α :=
 @Ps.rec (fun _=>Ty α→Ty α) (fun t=>@Ty.rec α (fun _=>Ty α) (.n v .e .e) (fun _ l r _ _=>.n v l r) t) (fun _ ih t=>@Ty.rec α (fun _=>Ty α) (.n d (ih .e) .e) (fun w l r _ _=>.n w (ih l) r) t)
  (fun _ ih t=>@Ty.rec α (fun _=>Ty α) (.n d .e (ih .e)) (fun w l r _ _=>.n w l (ih r)) t) p t
theorem Ty.get_e {α:Type} (d:α) (p:Ps):Ty.get d .e p=d:=by cases p <;> rfl
theorem Ty.get_set {α:Type} (d v:α):∀(p:Ps) (t:Ty α) (q:Ps),Ty.get d (Ty.set d v t p) q=if p=q then v else Ty.get d t q
 | .z,t,q=>by
  cases t <;> cases q <;> simp <;> first | rfl | (rw [Ty.get_e];exact Ty.get_e d _)
 | .o p,t,q=>by
  have ih:=Ty.get_set d v p;cases t with
  | e=>cases q with
   | o q=>simp only [Ps.o.injEq,Ty.get_e];have:=ih .e q;rw [Ty.get_e] at this;exact this
   | z=>simp;rfl
   | i q=>simp only [reduceCtorEq,if_false,Ty.get_e];exact Ty.get_e d q
  | n w l r=>cases q with
   | o q=>simp only [Ps.o.injEq];exact ih l q
   | z=>simp;rfl
   | i q=>simp;rfl
 | .i p,t,q=>by
  have ih:=Ty.get_set d v p;cases t with
  | e=>cases q with
   | i q=>simp only [Ps.i.injEq,Ty.get_e];have:=ih .e q;rw [Ty.get_e] at this;exact this
   | z=>simp;rfl
   | o q=>simp only [reduceCtorEq,if_false,Ty.get_e];exact Ty.get_e d q
  | n w l r=>cases q with
   | i q=>simp only [Ps.i.injEq];exact ih r q
   | z=>simp;rfl
   | o q=>simp;rfl
def ho (h:Ty AO) (l:Nat):AO:=Ty.get (.dead 0) h (pth l)
def q1n (h:Ty AO) (l:Nat) (o:AO):Ty AO:=Ty.set (.dead 0) o h (pth l)
theorem qqh (h:Ty AO) (l:Nat) (o:AO):ho (q1n h l o)=qiq (ho h) l o:=by
 funext k;unfold ho q1n qiq;rw [Ty.get_set];by_cases hk:l=k
 ·subst hk;simp
 ·rw [if_neg (fun h=>hk (vem h)),if_neg (Ne.symm hk)]
theorem vq2:ho .e=qa0 []:=by funext l;exact Ty.get_e _ _
def eo (e:Ty AV) (t:Nat):AV:=Ty.get .any e (pth t)
theorem vlv (e:Ty AV) (t:Nat) (v:AV):eo (Ty.set .any v e (pth t))=qm1 (eo e) (some t) v:=by
 funext k;unfold eo qm1;rw [Ty.get_set];by_cases hk:t=k
 ·subst hk;simp
 ·rw [if_neg (fun h=>hk (vem h)),if_neg (fun h=>hk (v1p h))]
mutual
def qpt:AV→List Nat
 | .own l _ _ _=>[l]
 | .loc l _ _ _=>[l]
 | .mapo l _=>[l]
 | .func _ cs=>qh4 cs
 | .agg cs=>qh4 cs
 | .tup cs=>qh4 cs
 | _=>[]
def qh4:List AV→List Nat
 | []=>[]
 | v :: r=>qpt v++qh4 r
end
def qst:AO→List Nat
 | .arr _ _ _ es=>qh4 es
 | .map _ ks vs=>qh4 ks++qh4 vs
 | .dead _=>[]
def qxs (l:Nat):List Nat→Bool
 | []=>false
 | k :: r=>bif v1f k l then true else qxs l r
theorem qmf {l:Nat}:∀{s:List Nat},qxs l s=decide (l∈s)
 | []=>by simp [qxs]
 | k :: r=>by
  simp only [qxs,qy1,qmf (s:=r),v02];by_cases h:k=l
  ·subst h;simp
  ·simp [h,Ne.symm h]
def qm2 (σ:Nat→AO):Nat→List Nat→List Nat→Option (List Nat)
 | _,[],seen=>some seen
 | 0,_,_=>none
 | n+1,l :: todo,seen=>bif qxs l seen then qm2 σ n todo seen else qm2 σ n (qst (σ l)++todo) (l :: seen)
theorem qrh {σ:Nat→AO}:∀{n:Nat} {todo seen S:List Nat},qm2 σ n todo seen=some S→(∀l∈seen,∀k∈qst (σ l),k∈seen∨k∈todo) →
  (∀l∈seen,l∈S)∧(∀l∈todo,l∈S)∧∀l∈S,∀k∈qst (σ l),k∈S
 | n,[],seen,S,h,hi=>by
  have:seen=S:=by cases n <;> simpa [qm2] using h
  subst this;exact⟨fun _ h=>h,by simp,fun l hl k hk=>(hi l hl k hk).elim id (by simp)⟩
 | 0,_ :: _,_,_,h,_=>by cases h
 | n+1,l :: todo,seen,S,h,hi=>by
  simp only [qm2,qmf] at h;by_cases hl:l∈seen
  ·simp only [hl,decide_true,cond_true] at h;obtain⟨h1,h2,h3⟩:=qrh h fun j hj k hk=>(hi j hj k hk).elim .inl fun h=>by
    rcases v02.1 h with rfl | h
    ·exact .inl hl
    ·exact .inr h
   exact⟨h1,fun j hj=>by
    rcases v02.1 hj with rfl | hj
    ·exact h1 _ hl
    ·exact h2 _ hj,h3⟩
  ·simp only [hl,decide_false,cond_false] at h;obtain⟨h1,h2,h3⟩:=qrh h fun j hj k hk=>by
    rcases v02.1 hj with rfl | hj
    ·exact .inr (v00 _ hk)
    ·rcases hi j hj k hk with h | h
     ·exact .inl (v03 _ h)
     ·rcases v02.1 h with rfl | h
      ·exact .inl v04
      ·exact .inr (v01 _ h)
   exact⟨fun j hj=>h1 j (v03 _ hj),fun j hj=>by
    rcases v02.1 hj with rfl | hj
    ·exact h1 _ v04
    ·exact h2 _ (v01 _ hj),h3⟩
def q8z:Fn→Fn→Bool
 | .func f,.func f'=>v1f f f'
 | _,_=>false
theorem q3y {f f':Fn} (h:q8z f f'=true):f=f':=by
 cases f <;> cases f' <;> simp only [q8z,qy1,decide_eq_true_eq] at h <;> first | (rw [h];done) | cases h
mutual
def PV.same:PV→PV→Bool
 | .int k n,.int k' n'=>decide (k=k') && decide (n=n')
 | .bool a,.bool b=>a == b
 | .str s,.str s'=>decide (s=s')
 | .nilp,.nilp=>true
 | .nilf,.nilf=>true
 | .nili,.nili=>true
 | .nilm,.nilm=>true
 | .slc es,.slc es'=>PV.sames es es'
 | .nnil es,.nnil es'=>PV.sames es es'
 | .clip es,.clip es'=>PV.sames es es'
 | .imm es,.imm es'=>PV.sames es es'
 | .func f es,.func f' es'=>q8z f f' && PV.sames es es'
 | .agg es,.agg es'=>PV.sames es es'
 | .tup es,.tup es'=>PV.sames es es'
 | _,_=>false
def PV.sames:List PV→List PV→Bool
 | [],[]=>true
 | x :: xs,y :: ys=>PV.same x y && PV.sames xs ys
 | _,_=>false
end
mutual
theorem PV.same_eq:∀(x y:PV),PV.same x y=true→x=y
 | .int k n,y,h=>by cases y <;> simp_all [PV.same]
 | .bool a,y,h=>by cases y <;> simp_all [PV.same]
 | .str s,y,h=>by cases y <;> simp_all [PV.same]
 | .nilp,y,h=>by cases y <;> simp_all [PV.same]
 | .nilf,y,h=>by cases y <;> simp_all [PV.same]
 | .nili,y,h=>by cases y <;> simp_all [PV.same]
 | .nilm,y,h=>by cases y <;> simp_all [PV.same]
 | .slc es,y,h=>by cases y <;> simp only [PV.same] at h <;> first | (rw [PV.sames_eq _ _ h]) | cases h
 | .nnil es,y,h=>by cases y <;> simp only [PV.same] at h <;> first | (rw [PV.sames_eq _ _ h]) | cases h
 | .clip es,y,h=>by cases y <;> simp only [PV.same] at h <;> first | (rw [PV.sames_eq _ _ h]) | cases h
 | .imm es,y,h=>by cases y <;> simp only [PV.same] at h <;> first | (rw [PV.sames_eq _ _ h]) | cases h
 | .mapv ks vs,y,h=>by cases y <;> simp [PV.same] at h
 | .func f es,y,h=>by
  cases y <;> simp only [PV.same,vxh] at h <;> first | (rw [q3y h.1,PV.sames_eq _ _ h.2]) | cases h
 | .agg es,y,h=>by cases y <;> simp only [PV.same] at h <;> first | (rw [PV.sames_eq _ _ h]) | cases h
 | .tup es,y,h=>by cases y <;> simp only [PV.same] at h <;> first | (rw [PV.sames_eq _ _ h]) | cases h
theorem PV.sames_eq:∀(x y:List PV),PV.sames x y=true→x=y
 | [],[],_=>rfl
 | [],_ :: _,h=>by simp [PV.sames] at h
 | _ :: _,[],h=>by simp [PV.sames] at h
 | x :: xs,y :: ys,h=>by
  simp only [PV.sames,vxh] at h
  rw [PV.same_eq x y h.1,PV.sames_eq xs ys h.2]
end
mutual
def AV.same:AV→AV→Bool
 | .any,.any=>true
 | .p x,.p y=>PV.same x y
 | .nils,.nils=>true
 | .loc l g i o,.loc l' g' i' o'=>v1f l l' && (v1f g g' && (v1f i i' && v1f o o'))
 | .own l g i o,.own l' g' i' o'=>v1f l l' && (v1f g g' && (v1f i i' && v1f o o'))
 | .mapo l g,.mapo l' g'=>v1f l l' && v1f g g'
 | .func f es,.func f' es'=>q8z f f' && AV.sames es es'
 | .agg es,.agg es'=>AV.sames es es'
 | .tup es,.tup es'=>AV.sames es es'
 | _,_=>false
def AV.sames:List AV→List AV→Bool
 | [],[]=>true
 | x :: xs,y :: ys=>AV.same x y && AV.sames xs ys
 | _,_=>false
end
mutual
theorem AV.same_eq:∀(x y:AV),AV.same x y=true→x=y
 | .any,y,h=>by cases y <;> simp_all [AV.same]
 | .p x,y,h=>by cases y <;> simp only [AV.same] at h <;> first | (rw [PV.same_eq _ _ h]) | cases h
 | .nils,y,h=>by cases y <;> simp_all [AV.same]
 | .loc ..,y,h=>by cases y <;> simp_all [AV.same,qy1]
 | .own ..,y,h=>by cases y <;> simp_all [AV.same,qy1]
 | .mapo ..,y,h=>by cases y <;> simp_all [AV.same,qy1]
 | .func f es,y,h=>by
  cases y <;> simp only [AV.same,vxh] at h <;> first | (rw [q3y h.1,AV.sames_eq _ _ h.2]) | cases h
 | .agg es,y,h=>by cases y <;> simp only [AV.same] at h <;> first | (rw [AV.sames_eq _ _ h]) | cases h
 | .tup es,y,h=>by cases y <;> simp only [AV.same] at h <;> first | (rw [AV.sames_eq _ _ h]) | cases h
theorem AV.sames_eq:∀(x y:List AV),AV.sames x y=true→x=y
 | [],[],_=>rfl
 | [],_ :: _,h=>by simp [AV.sames] at h
 | _ :: _,[],h=>by simp [AV.sames] at h
 | x :: xs,y :: ys,h=>by
  simp only [AV.sames,vxh] at h
  rw [AV.same_eq x y h.1,AV.sames_eq xs ys h.2]
end
def AO.same:AO→AO→Bool
 | .dead g,.dead g'=>v1f g g'
 | .arr e sz g es,.arr e' sz' g' es'=>(v1f e e' && v1f sz sz') && (v1f g g' && AV.sames es es')
 | .map g ks vs,.map g' ks' vs'=>v1f g g' && (AV.sames ks ks' && AV.sames vs vs')
 | _,_=>false
theorem AO.same_eq {x y:AO} (h:AO.same x y=true):x=y:=by
 cases x <;> cases y <;> simp only [AO.same,vxh,qy1,decide_eq_true_eq] at h <;> first | (cases h;done) | skip
 ·rw [h]
 ·rw [h.1.1,h.1.2,h.2.1,AV.sames_eq _ _ h.2.2]
 ·rw [h.1,AV.sames_eq _ _ h.2.1,AV.sames_eq _ _ h.2.2]
end Go.Ab
