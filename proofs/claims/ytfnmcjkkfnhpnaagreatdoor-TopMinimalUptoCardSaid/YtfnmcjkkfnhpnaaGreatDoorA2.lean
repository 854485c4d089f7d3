/- An abstract logic for calls that only compute: what each operation does to values that are trees, and rules for walking a text. -/
import Derived.StillTail
import Derived.Lib.Bytealg
import Derived.Deep.Slices
import Derived.ReadAgain
import Derived.ChangeArms
import Derived.ChangeSame
import Derived.RowKit
import Derived.RowKit3
import Derived.OpenShut
import Derived.JoinedCond
import Derived.KernelRfl
import Derived.Shelf.SlSortCmp.Kit1
import Derived.Sort.AssemblyPlain
import Derived.Laws.AppendOwn
import Derived.Below
import Derived.Shelf.SlicesE.Clone
import Derived.Sort.EncStr
import Derived.Shelf.GgSortFunc.RowK
import Derived.Shelf.SlSortCmp.InsertionK
import Derived.Lib.Repeat
import Derived.Shelf.Strings.Builder1
import Derived.Lib.AppendStr
import Derived.ProofKit
import Derived.Laws.IdiomCopy
import Derived.OrdersHeld
import Derived.Shelf.Spec.SlicesInsertGrow
import Derived.Test.YtfnmcjkkfnhpnaaGreatDoorA1
set_option linter.unusedVariables false
set_option linter.unusedSimpArgs false
open Array renaming ext'→vpd,ext_getElem?→vr7,getElem?_append→vpe,getElem?_eq_getElem→vr8,getElem?_eq_some_iff→vpf,getElem?_mapIdx→vr9,getElem?_modify→vsa,getElem?_push→vpg,getElem?_setIfInBounds_ne→vph,getElem?_toList→vpi,length_toList→vpj,range→vpk,size_append→vpl,size_push→vsb,toList_setIfInBounds→vsc
open Bool renaming and_eq_true→vpq,eq_false_iff→vsd,false_and→vse,false_eq_true→vps,not_eq_true'→vpu,or_eq_true→vpv
open Go.IntKind renaming bits→vsf,i64→vsg,signed→vsh,u32→vsi,wrap→vsj,wrap_i64→vsk
open Go.Lib renaming bitLen→vsl,run_eql_slice_nil→vpx,wpList_append_run→vsm
open List renaming all_eq_true→vsn,append_nil→vp1,cons_append→vso,contains_iff_mem→vsp,eq_nil_of_length_eq_zero→vp6,ext_getElem?→vp7,flatMap_cons→vsq,getD_eq_getElem?_getD→vsr,getElem?_append_left→vqa,getElem?_append_right→vqb,getElem?_cons_succ→vss,getElem?_cons_zero→vst,getElem?_drop→vqc,getElem?_eq_getElem→vqd,getElem?_eq_none→vqe,getElem?_eq_some_iff→vqf,getElem?_map→vqg,getElem?_nil→vsu,getElem?_take→vqj,length_append→vql,length_cons→vsv,length_drop→vqm,length_eq_zero_iff→vsw,length_filter_le→vsx,length_map→vqn,length_nil→vqo,length_pos_of_mem→vsy,length_range→vsz,length_singleton→vs2,length_take→vqr,map→vs3,map_append→vqs,map_congr_left→vs4,map_cons→vqt,map_drop→vs5,map_nil→vqu,map_replicate→vs6,map_take→vs7,mem_append→vqv,mem_cons_of_mem→vs8,mem_cons_self→vs9,mem_filter→vta,mem_flatMap→vqw,mem_map→vtb,mem_of_getElem?→vqx,mem_of_mem_drop→vqy,mem_of_mem_take→vqz,mem_or_eq_of_mem_set→vq0,mem_range→vtc,mem_singleton→vtd,nil_append→vq2,range→vq3,range'→vte,replicate→vq5,replicate_succ→vtf,set_cons_zero→vtg,size_toArray→vq6,take→vth,take_append_drop→vti,take_of_length_le→vq9,toArray→vtj
open Nat renaming add_zero→vrf,le_refl→vrj,le_succ→vrk,le_trans→vrl,lt_succ_self→vrn,lt_trichotomy→vtk,min_def→vtl,min_eq_left→vtm,mul_le_mul_right→vrq,strongRecOn→vtn,sub_self→vto,sub_zero→vrt,testBit_shiftLeft→vtp,zero_add→vru,zero_le→vtq
open Option renaming bind_eq_some_iff→vtr,bind_some→vrv,isSome_iff_exists→vry,isSome_none→vts,map_none→vtt,map_some→vr0
open Option.some renaming inj→vtu,injEq→vr1
open Prod.mk renaming injEq→vr2
open Go.Result renaming andThen_ok→vr3
open Go.Sem renaming run_bind→vr5,run_pure→vr6
noncomputable section
namespace Go.Ab
open Go
section
variable (P:Program) (B d':Nat) (ρ:Operand→AV) (d:Option Tmp) (ty:TypeId) (pos:String) (af:Array Edge) (g:Option (Nat×Bool))
theorem vbi (x:Operand):aop P B ρ ⟨d,.move x,ty,pos,af,g⟩=.ret (ρ x,none):=rfl
theorem q45 (x:Operand):aop P B ρ ⟨d,.assign x,ty,pos,af,g⟩=.ret (ρ x,none):=rfl
theorem vbj (c x y:Operand):aop P B ρ ⟨d,.pick c x y,ty,pos,af,g⟩=(match ρ c with | .p (.bool t)=>.ret (if t then ρ x else ρ y,none) | _=>.fail):=rfl
theorem q7j (t:TypeId):aop P B ρ ⟨some d',.alloc t,ty,pos,af,g⟩=(match qa2 P t with
  | some z=>if z.cells.length=P.cellsOf t then vbb P (B+d') t z else .fail
  | none=>.fail):=rfl
theorem vf4 (t:TypeId) (x:Operand):aop P B ρ ⟨some d',.box t x,ty,pos,af,g⟩=vbb P (B+d') t (ρ x):=rfl
theorem q7k (t:TypeId) (qap:List (Nat×Operand)):aop P B ρ ⟨d,.build t qap.toArray,ty,pos,af,g⟩=qa1 (.ofOpt (qhy P t (qap.map fun p=>(p.1,ρ p.2)))):=rfl
theorem qu7 (t:TypeId) (n:Nat) (qap:List (Nat×Operand)):aop P B ρ ⟨some d',.buildSlice t n qap.toArray,ty,pos,af,g⟩=qft P (B+d') t n (qap.map fun p=>(p.1,ρ p.2)):=rfl
theorem vbk (t:TypeId) (x:Operand):aop P B ρ ⟨d,.load t x,ty,pos,af,g⟩=qa1 (qqw P t (ρ x)):=rfl
theorem q7l (t:TypeId) (x y:Operand):aop P B ρ ⟨d,.store t x y,ty,pos,af,g⟩=qsp P t (ρ x) (ρ y):=rfl
theorem q7m (op:BinOp) (t:TypeId) (x y:Operand) (yt:TypeId):aop P B ρ ⟨d,.binOp op t x y yt,ty,pos,af,g⟩=qa1 (.ofOpt (vek P op t (ρ x) (ρ y))):=rfl
theorem vbl (op:UnOp) (t:TypeId) (x:Operand):aop P B ρ ⟨d,.unOp op t x,ty,pos,af,g⟩=qa1 (.ofOpt (unA op (ρ x))):=rfl
theorem q1n (s t:TypeId) (x:Operand):aop P B ρ ⟨d,.convert s t x,ty,pos,af,g⟩=qa1 (qvx P s t (ρ x)):=rfl
theorem qzf (fn:Fn) (cap:List Operand):aop P B ρ ⟨d,.makeFunc fn (vtj []) cap.toArray,ty,pos,af,g⟩=.ret (qyw fn (cap.map ρ),none):=rfl
theorem qxd (t:TypeId) (l c:Operand):aop P B ρ ⟨some d',.makeSlice t l c,ty,pos,af,g⟩=qlm P (B+d') t (ρ l) (ρ c):=rfl
theorem q7n (t:TypeId) (x:Operand) (lo hi:Option Operand):aop P B ρ ⟨d,.slice t x lo hi none,ty,pos,af,g⟩=(match P.underlying t,qom (lo.map ρ),qom (hi.map ρ) with
  | some .string,some l,some h=>(match ρ x with | .p (.str _)=>qa1 (qkt (ρ x) l h) | _=>.fail)
  | some (.slice e),some l,some h=>(match ρ x with | .p (.str _)=>.fail | _=>if qmo P e=true then qa1 (aop.sliceT P e (ρ x) l h) else .fail)
  | _,_,_=>.fail):=rfl
theorem q46 (t:TypeId) (x hi mx:Operand):aop P B ρ ⟨d,.slice t x none (some hi) (some mx),ty,pos,af,g⟩=(match P.underlying t,ρ x,ρ hi,ρ mx with
  | some (.slice e),.p (.slc es),.p (.int _ hi),.p (.int _ mx)=>if mx=hi∧0≤hi∧hi≤es.length∧qmo P e=true then qa1 (.ret (.p (.clip (es.take hi.toNat)))) else .fail
  | _,_,_,_=>.fail):=rfl
theorem qxe (s:TypeId) (x:Operand) (f:Nat):aop P B ρ ⟨d,.fieldAddr s x f,ty,pos,af,g⟩=qa1 (.ofOpt (qjr P s f (ρ x))):=rfl
theorem qxf (t:TypeId) (x ix:Operand):aop P B ρ ⟨d,.indexAddr t x ix,ty,pos,af,g⟩=(match qol (ρ ix) with
  | some i=>qa1 (qip P t (ρ x) i)
  | none=>.fail):=rfl
theorem q7o (t:TypeId) (x ix:Operand):aop P B ρ ⟨d,.index t x ix,ty,pos,af,g⟩=(match qol (ρ ix) with
  | some i=>qa1 (.ofOpt (qvw P t (ρ x) i))
  | none=>.fail):=rfl
theorem q1o (t:TypeId):aop P B ρ ⟨some d',.makeMap t none,ty,pos,af,g⟩=qpm P (B+d') t:=rfl
theorem q47 (t:TypeId) (m k:Operand) (c:Bool):aop P B ρ ⟨d,.lookup t m k c,ty,pos,af,g⟩=qa1 (qqx P t (ρ m) (ρ k) c):=rfl
theorem qxg (t:TypeId) (m k v:Operand):aop P B ρ ⟨d,.mapUpdate t m k v,ty,pos,af,g⟩=qm6 P t (ρ m) (ρ k) (ρ v):=rfl
theorem q48 (t:TypeId) (m k v:Operand):aop P B ρ ⟨d,.insert t m k v,ty,pos,af,g⟩=qm6 P t (ρ m) (ρ k) (ρ v):=rfl
theorem qzg (x:Operand):aop P B ρ ⟨d,.nilCheck x,ty,pos,af,g⟩=qa1 (.ofOpt (vjm (ρ x))):=rfl
theorem q7p (s:TypeId) (x:Operand) (f:Nat):aop P B ρ ⟨d,.field s x f,ty,pos,af,g⟩=qa1 (.ofOpt (qyz P s f (ρ x))):=rfl
theorem q1p (x:Operand) (i:Nat):aop P B ρ ⟨d,.extract x i,ty,pos,af,g⟩=(match ρ x with
  | .p (.tup vs)=>qa1 (.ofOpt ((vs[i]?).map .p))
  | .tup vs=>qa1 (.ofOpt (vs[i]?))
  | _=>.fail):=rfl
theorem vf5 (x:Operand) (t:TypeId):aop P B ρ ⟨d,.call ⟨.builtin .len,vtj [x],vtj [t]⟩,ty,pos,af,g⟩=if (P.underlying t).isSome then qa1 (aop.lenT P t (ρ x)) else .fail:=rfl
theorem q7q (x:Operand) (t:TypeId):aop P B ρ ⟨some d',.call ⟨.builtin .clear,vtj [x],vtj [t]⟩,ty,pos,af,g⟩=qon P t (ρ x):=rfl
theorem q49 (x:Operand) (t:TypeId):aop P B ρ ⟨none,.call ⟨.builtin .clear,vtj [x],vtj [t]⟩,ty,pos,af,g⟩=qon P t (ρ x):=rfl
theorem q5a (s x:Operand) (t u:TypeId):aop P B ρ ⟨some d',.call ⟨.builtin .append,vtj [s,x],vtj [t,u]⟩,ty,pos,af,g⟩=if t=u then qb3 P (B+d') t (ρ s) (ρ x) else .fail:=rfl
theorem vf6 (xs:List Operand) (ts:Array TypeId):aop P B ρ ⟨d,.call ⟨.builtin .max,xs.toArray,ts⟩,ty,pos,af,g⟩=qa1 (.ofOpt (q7a q68 (xs.map ρ))):=rfl
theorem vf7 (xs:List Operand) (ts:Array TypeId):aop P B ρ ⟨d,.call ⟨.builtin .min,xs.toArray,ts⟩,ty,pos,af,g⟩=qa1 (.ofOpt (q7a q69 (xs.map ρ))):=rfl
theorem vbm (f:Operand) (xs:Array Operand) (ts:Array TypeId):aop P B ρ ⟨d,.call ⟨.value f,xs,ts⟩,ty,pos,af,g⟩=.fail:=rfl
end
theorem q5b (P:Program) (N B:Nat) (ops:Array Oper) (st:St):qmq P N B ops [] st=(st,[]):=rfl
def onR:Option (AV×Upd)→Go1
 | some (v,u)=>.on v u
 | none=>.stop
theorem vbn (v:AV) (u:Upd):onR (some (v,u))=.on v u:=rfl
theorem vbo:onR none=.stop:=rfl
theorem q7r (P:Program) (N B:Nat) (ops:Array Oper) (d:Option Tmp) (op:Op) (ty:TypeId) (pos:String) (af:Array Edge) (st:St) :
  go1 P N B ops ⟨d,op,ty,pos,af,none⟩ st=if qba N ⟨d,op,ty,pos,af,none⟩ then onR ((aop P B (ev st.env) ⟨d,op,ty,pos,af,none⟩).run (qcq st.heap)) else .stop:=by
 unfold go1 qaq onR;rfl
def onG (r:Option (AV×Upd)):Option Bool→Go1
 | some true=>onR r
 | some false=>.on (.p (.tup [])) none
 | none=>.stop
theorem vbp (r:Option (AV×Upd)):onG r (some true)=onR r:=rfl
theorem q7s (r:Option (AV×Upd)):onG r (some false)=.on (.p (.tup [])) none:=rfl
theorem q5c (N t:Nat) (op:Op) (ty:TypeId) (pos:String) (af:Array Edge) (g:Option (Nat×Bool)):qba N ⟨some t,op,ty,pos,af,g⟩=decide (t < N):=rfl
theorem q5d (N:Nat) (op:Op) (ty:TypeId) (pos:String) (af:Array Edge) (g:Option (Nat×Bool)):qba N ⟨none,op,ty,pos,af,g⟩=true:=rfl
def eqL (f:TypeId→List PV→List PV→Option Bool):List (Nat×Nat×Nat)→List PV→List PV→Option Bool
 | [],_,_=>some true
 | (t,o,n) :: r,xs,ys=>match f t ((xs.drop o).take n) ((ys.drop o).take n),eqL f r xs ys with
  | some a,some b=>some (a && b)
  | _,_=>none
theorem ver (P : Program) (f : TypeId → List PV → List PV → Option Bool) : ∀ (fs : List Field) (xs ys : List PV), (fs.all fun g => g.name != "_") = true →
  vba P f fs xs ys=eqL f (fs.map fun g=>(g.type,g.offset,P.cellsOf g.type)) xs ys
 | [],_,_,_=>rfl
 | g :: fs,xs,ys,h=>by
  simp only [List.all_cons,vpq,bne_iff_ne,ne_eq] at h;simp only [vba,h.1,if_false,vqt,eqL,ver P f fs xs ys h.2]
  all_goals rfl
theorem q5e (P : Program) {t : TypeId} {l : List (Nat × Nat × Nat)} (hu : P.underlying t = some (.struct (P.fieldsOf t))) (hs : P.stoodInHeld t = false) (hn : ((P.fieldsOf t).toList.all fun g => g.name != "_") = true)
  (hl:((P.fieldsOf t).toList.map fun g=>(g.type,g.offset,P.cellsOf g.type))=l) (d:Nat) (xs ys:List PV):eqT P (d+1) t xs ys=eqL (eqT P d) l xs ys:=by
 subst hl;unfold eqT;rw [hu];simp only [hs,vps,if_false];exact ver P _ _ xs ys hn
theorem q7t (P:Program) {t:TypeId} {q:IntKind} (hu:P.underlying t=some (.int q)) (d:Nat) (k k':IntKind) (a b:Int):eqT P (d+1) t [.int k a] [.int k' b]=if k=k' then some (a == b) else none:=by
 unfold eqT;rw [hu]
theorem vf8 (P:Program) {t:TypeId} (hu:P.underlying t=some .string) (d:Nat) (a b:List UInt8):eqT P (d+1) t [.str a] [.str b]=some (a == b):=by
 unfold eqT;rw [hu]
theorem q1q (m:L AV) (σ:Nat→AO):(qa1 m).run σ=(m.run σ).map fun v=>(v,none):=by
 unfold qa1;rw [L.run_bind'];cases m.run σ <;> rfl
section
variable (k:IntKind) (n:Int) (b:Bool) (l:List UInt8) (ps qs:List PV) (fn:Fn)
theorem vlf:(PV.int k n).cells=[.int k n]:=rfl
theorem vf9:(PV.bool b).cells=[.bool b]:=rfl
theorem vlg:(PV.str l).cells=[.str l]:=rfl
theorem vga:PV.nilp.cells=[.nilp]:=rfl
theorem vgb:PV.nilf.cells=[.nilf]:=rfl
theorem vgc:PV.nili.cells=[.nili]:=rfl
theorem vgd:PV.nilm.cells=[.nilm]:=rfl
theorem vlh:(PV.slc ps).cells=[.slc ps]:=rfl
theorem vge:(PV.nnil ps).cells=[.nnil ps]:=rfl
theorem vgf:(PV.clip ps).cells=[.clip ps]:=rfl
theorem vli:(PV.imm ps).cells=[.imm ps]:=rfl
theorem vgg:(PV.mapv ps qs).cells=[.mapv ps qs]:=rfl
theorem vgh:(PV.func fn ps).cells=[.func fn ps]:=rfl
theorem vlj:(PV.agg ps).cells=ps:=rfl
theorem vlk:(PV.int k n).isAgg=false:=rfl
theorem vgi:(PV.bool b).isAgg=false:=rfl
theorem vll:(PV.str l).isAgg=false:=rfl
theorem vgj:PV.nilp.isAgg=false:=rfl
theorem vgk:PV.nilf.isAgg=false:=rfl
theorem vgl:PV.nili.isAgg=false:=rfl
theorem vgm:PV.nilm.isAgg=false:=rfl
theorem vlm:(PV.slc ps).isAgg=false:=rfl
theorem vgn:(PV.nnil ps).isAgg=false:=rfl
theorem vgo:(PV.clip ps).isAgg=false:=rfl
theorem vln:(PV.imm ps).isAgg=false:=rfl
theorem vgp:(PV.mapv ps qs).isAgg=false:=rfl
theorem vgq:(PV.func fn ps).isAgg=false:=rfl
theorem vlo:(PV.agg ps).isAgg=true:=rfl
theorem vlp:(PV.int k n).isTup=false:=rfl
theorem vgr:(PV.bool b).isTup=false:=rfl
theorem vlq:(PV.str l).isTup=false:=rfl
theorem vgs:PV.nilp.isTup=false:=rfl
theorem vgt:PV.nilf.isTup=false:=rfl
theorem vgu:PV.nili.isTup=false:=rfl
theorem vgv:PV.nilm.isTup=false:=rfl
theorem vlr:(PV.slc ps).isTup=false:=rfl
theorem vgw:(PV.nnil ps).isTup=false:=rfl
theorem vgx:(PV.clip ps).isTup=false:=rfl
theorem vls:(PV.imm ps).isTup=false:=rfl
theorem vgy:(PV.mapv ps qs).isTup=false:=rfl
theorem vgz:(PV.func fn ps).isTup=false:=rfl
theorem vlt:(PV.agg ps).isTup=false:=rfl
theorem vlu:(PV.tup ps).isTup=true:=rfl
theorem vlv:(PV.int k n).flat=true:=rfl
theorem vg0:(PV.bool b).flat=true:=rfl
theorem vlw:(PV.str l).flat=true:=rfl
theorem vg1:PV.nilp.flat=true:=rfl
theorem vlx:(PV.slc ps).flat=false:=rfl
theorem vly:(PV.imm ps).flat=false:=rfl
theorem vlz:(PV.agg ps).flat=PV.flat.flatAll ps:=rfl
theorem vl0:(PV.tup ps).flat=PV.flat.flatAll ps:=rfl
theorem vl1:PV.flat.flatAll []=true:=rfl
theorem vg2 (x:PV):PV.flat.flatAll (x :: ps)=(x.flat && PV.flat.flatAll ps):=rfl
end
attribute [go_sem] vlf vf9 vlg vga vgb vgc vgd vlh vge vgf vli vgg vgh vlj vlk vgi vll vgj vgk vgl vgm vlm vgn vgo vln vgp vgq vlo vlp vgr vlq vgs vgt vgu vgv vlr vgw vgx vls vgy vgz vlt vlu vlv vg0 vlw vg1 vlx vly vlz vl0 vl1 vg2
theorem hgetC (k:Nat) (o:AO) (r:List (Nat×AO)) (l:Nat):qcq ((k,o) :: r) l=if k=l then o else qcq r l:=rfl
theorem genD (g:Nat):(AO.dead g).gen=g:=rfl
theorem genA (e sz g:Nat) (es:List AV):(AO.arr e sz g es).gen=g:=rfl
theorem genM (g:Nat) (ks vs:List AV):(AO.map g ks vs).gen=g:=rfl
theorem vl2 (g:Nat):(AO.dead g).alive=false:=rfl
theorem vl3 (e sz g:Nat) (es:List AV):(AO.arr e sz g es).alive=true:=rfl
theorem vl4 (g:Nat) (ks vs:List AV):(AO.map g ks vs).alive=true:=rfl
theorem hgetN (l:Nat):qcq [] l=.dead 0:=rfl
attribute [go_sem] qzg vjm q1o q47 qxg q48 q7p qpm qqx qm6 qpl vbd qsa qoz q27 qu2 AV.mapo.injEq qyz vbi q45 vbj q7j vf4 q7k qu7 vbk q7l q7m vbl q1n qzf qxd q7n q46 qxe qxf q7o q1p vf5 q5a q7q q49 qon vf6 vf7 vbm q5b qsz q3b q43 vbn vbo q7r vbp q7s q5c q5d q1q L.run_ofOpt L.run_ret L.run_fail L.run_look L.run_bind' qaq ev ofV veh Env.get qd7 qm9 qw9 hgetC hgetN vbb q61 qqw qn1 qu1 qsp qjz q09 qjr qip qol qvw vbc qvx q7b qom qkt aop.sliceT aop.lenT q04 qi8 qb3 qd0 qkh qft qlm vek vej vjl strA unA eqL q7a q4u q68 q69 AV.cells AV.known AV.isAgg AV.one qjw q08 qyw ql7 splice qoy true_or or_true false_or or_false q7g qpr qru qcg Le vbh q3d q3e LeV qs3 vbg veo vle vf2 qzd genD genA genM vl2 vl3 vl4 St.sig PV.flat PV.flat.flatAll Ab.argsEnv qr3 qnc
end Go.Ab
namespace Go.Ab
open Go
theorem qef (P:Program) (fs:Array Field) {l:List (Nat×Nat)} (h:(fs.toList.map fun f=>(f.offset,P.cellsOf f.type))=l) (j:Nat):qoy P fs j=l[j]?:=by
 subst h;simp [qoy]
theorem qf0 (P:Program) (t:TypeId) {z:AV} (hz:qa2 P t=some z) (hk:z.known=true) (hu:P.underlying t=some (.struct (P.fieldsOf t)))
  (hall:((P.fieldsOf t).toList.all fun f=>(P.info? f.type).isSome)=true) {pl:Nat→Option (Nat×Nat)} (hp:qoy P (P.fieldsOf t)=pl) {qap:List (Nat×AV)} :
  qhy P t qap=(qkh pl z.cells qap).map qjw:=by
 unfold qhy;rw [hu,hz];simp only [hk,hall,Bool.and_self,if_true,hp]
theorem ves (P:Program) (f:TypeId→List PV→List PV→Option Bool) (e c:Nat) (xs ys:List PV):∀l:List Nat,vei (f e) c xs ys l=eqL f (l.map fun i=>(e,i * c,c)) xs ys
 | []=>rfl
 | i :: l=>by
  simp only [vei,vqt,eqL,ves P f e c xs ys l];rfl
theorem q7u (P:Program) {t:TypeId} {n:Nat} {e:TypeId} {l:List (Nat×Nat×Nat)} (hu:P.underlying t=some (.array n e)) (he:(P.info? e).isSome=true)
  (hl:((vq3 n).map fun i=>(e,i * P.cellsOf e,P.cellsOf e))=l) (d:Nat) (xs ys:List PV):eqT P (d+1) t xs ys=eqL (eqT P d) l xs ys:=by
 subst hl;unfold eqT;rw [hu];simp only [he,if_true];exact ves P (eqT P d) e (P.cellsOf e) xs ys _
theorem wrap_i64 {n:Int} (h1:-9223372036854775808≤n) (h2:n≤9223372036854775807):vsg.wrap n=n:=by
 simp only [vsj,vsh,vsf];simp only [Bool.true_and,decide_eq_true_eq,ge_iff_le];rw [show ((2:Int) ^ (64 - 1))=9223372036854775808 from rfl,show ((2:Int) ^ 64)=18446744073709551616 from rfl];split <;> omega
theorem vg3 (D:Nat→Bool) (x:PV):qdx D 9 (.p x)=.ret x:=rfl
theorem q5f (D:Nat→Bool):qdx D 9 .nils=.ret (.slc []):=rfl
theorem q7v (D:Nat→Bool) (cs:List AV):qdx D 9 (.agg cs)=(qau (qdx D 8) cs).bind fun xs=>.ret (.agg xs):=rfl
theorem q7w (D:Nat→Bool) (cs:List AV):qdx D 9 (.tup cs)=(qau (qdx D 8) cs).bind fun xs=>.ret (.tup xs):=rfl
theorem q5g (D:Nat→Bool) (fn:Fn) (cs:List AV):qdx D 9 (.func fn cs)=(qau (qdx D 8) cs).bind fun xs=>.ret (.func fn xs):=rfl
theorem vg4 (D:Nat→Bool) (x:PV):qdx D 8 (.p x)=.ret x:=rfl
theorem q5h (D:Nat→Bool):qdx D 8 .nils=.ret (.slc []):=rfl
theorem q7x (D:Nat→Bool) (cs:List AV):qdx D 8 (.agg cs)=(qau (qdx D 7) cs).bind fun xs=>.ret (.agg xs):=rfl
theorem vg5 (D:Nat→Bool) (x:PV):qdx D 7 (.p x)=.ret x:=rfl
theorem q5i (D:Nat→Bool):qdx D 7 .nils=.ret (.slc []):=rfl
theorem q7y (D:Nat→Bool) (cs:List AV):qdx D 7 (.agg cs)=(qau (qdx D 6) cs).bind fun xs=>.ret (.agg xs):=rfl
theorem vg6 (D:Nat→Bool) (x:PV):qdx D 6 (.p x)=.ret x:=rfl
theorem q5j (D:Nat→Bool):qdx D 6 .nils=.ret (.slc []):=rfl
def qq1 (D : Nat → Bool) (n l g off len : Nat) : L PV := if D l then .look l fun o => match o with
      | .arr _ _ g' es => if g = g' ∧ off + len ≤ es.length then (qau (qdx D n) ((es.drop off).take len)).bind fun xs => .ret (.slc xs) else .fail
      | _ => .fail
    else .fail
def qxh (D : Nat → Bool) (n l g i off : Nat) : L PV := if D l then .look l fun o => match o with
      | .arr _ _ g' es => if g = g' then (match es[i]? with
        | some x => (qau (qdx D n) (x.cells.drop off)).bind fun ys => .ret (.imm ys)
        | none => .fail) else .fail
      | _ => .fail
    else .fail
theorem q7z (D:Nat→Bool) (l g off len:Nat):qdx D 9 (.own l g off len)=qq1 D 8 l g off len:=rfl
theorem q70 (D:Nat→Bool) (l g off len:Nat):qdx D 8 (.own l g off len)=qq1 D 7 l g off len:=rfl
theorem q71 (D:Nat→Bool) (l g off len:Nat):qdx D 7 (.own l g off len)=qq1 D 6 l g off len:=rfl
theorem q72 (D:Nat→Bool) (l g i off:Nat):qdx D 9 (.loc l g i off)=qxh D 8 l g i off:=rfl
theorem q73 (D:Nat→Bool) (l g i off:Nat):qdx D 8 (.loc l g i off)=qxh D 7 l g i off:=rfl
theorem q74 (D:Nat→Bool) (l g i off:Nat):qdx D 7 (.loc l g i off)=qxh D 6 l g i off:=rfl
theorem q5k (D:Nat→Bool) (xs:List PV):qau (qdx D 9) (xs.map .p)=.ret xs:=qll D 8 xs
theorem q5l (D:Nat→Bool) (xs:List PV):qau (qdx D 8) (xs.map .p)=.ret xs:=qll D 7 xs
theorem q5m (D:Nat→Bool) (xs:List PV):qau (qdx D 7) (xs.map .p)=.ret xs:=qll D 6 xs
theorem q5n (D:Nat→Bool) (xs:List PV):qau (qdx D 6) (xs.map .p)=.ret xs:=qll D 5 xs
theorem q1r (f:AV→L PV):qau f []=.ret []:=rfl
theorem qzh (f:AV→L PV) (c:AV) (cs:List AV):qau f (c :: cs)=(f c).bind fun x=>(qau f cs).bind fun xs=>.ret (x :: xs):=rfl
attribute [go_sem] vg3 q5f q7v q7w q5g vg4 q5h q7x vg5 q5i q7y vg6 q5j q7z q70 q71 q72 q73 q74 qq1 qxh q5k q5l q5m q5n q1r qzh if_true if_false ite_true ite_false decide_true decide_false Bool.not_true Bool.not_false Bool.and_true Bool.true_and Bool.and_false vse Bool.or_true Bool.true_or Bool.or_false Bool.false_or vqt vqu vsv vqo vqn vr0 vtt vrv Option.bind_none vst vss vsu vso vq2 vp1 List.drop_zero List.drop_succ_cons List.drop_nil List.take_zero List.take_succ_cons List.take_nil vtg List.set_cons_succ and_true true_and and_false false_and or_true true_or or_false false_or beq_self_eq_true vps Bool.true_eq_false eq_self not_true_eq_false not_false_eq_true List.all_cons List.all_nil Option.isSome_some vts Option.getD_some Option.getD_none Int.toNat_natCast List.any_cons List.any_nil AV.loc.injEq AV.own.injEq AV.p.injEq PV.int.injEq PV.bool.injEq PV.str.injEq PV.slc.injEq PV.agg.injEq PV.tup.injEq vr1 vr2 List.cons.injEq List.countP_nil Int.natCast_zero implies_true forall_const
end Go.Ab
namespace Go.Ab
variable {D:Prop}
open Go
theorem qs5 (P:Program) (B:Nat) {ρ ρ':Operand→AV} (o:Oper) (h:∀x∈o.op.operands,ρ x=ρ' x):aop P B ρ o=aop P B ρ' o:=by
 obtain ⟨dst,op,type,pos,after,guard⟩:=o;have pairs:∀ps:Array (Nat×Operand),(∀x∈ps.toList.map (·.2),ρ x=ρ' x)→(ps.toList.map fun p=>(p.1,ρ p.2))=(ps.toList.map fun p=>(p.1,ρ' p.2)):=fun ps hp =>
  vs4 fun p hm=>by rw [hp p.2 (vtb.2 ⟨p,hm,rfl⟩)]
 cases op <;> simp only [Op.operands] at h <;> simp only [aop]
 case move x=>rw [h x (by simp)]
 case assign x=>rw [h x (by simp)]
 case pick c x y=>rw [h c (by simp),h x (by simp),h y (by simp)]
 case box t x=>rw [h x (by simp)]
 case build t ps=>rw [pairs ps fun x hx=>h x (by simpa using hx)]
 case buildSlice t n ps=>rw [pairs ps fun x hx=>h x (by simpa using hx)]
 case load t x=>rw [h x (by simp)]
 case store t x y=>rw [h x (by simp),h y (by simp)]
 case binOp op t x y yt=>rw [h x (by simp),h y (by simp)]
 case unOp op t x=>rw [h x (by simp)]
 case convert s d x=>rw [h x (by simp)]
 case makeFunc fn first captured =>
  have e:captured.toList.map ρ=captured.toList.map ρ':=vs4 fun x hx=>h x (by simp at hx ⊢;exact .inr hx)
  rw [e]
 case makeSlice t l c=>rw [h l (by simp),h c (by simp)]
 case slice t x lo hi mx =>
  cases mx with
  | some m =>
   cases lo with
   | some l=>rfl
   | none=>cases hi with
    | none=>rfl
    | some hi=>simp only [aop];rw [h x (by simp),h hi (by simp),h m (by simp)]
  | none =>
   have e1:lo.map ρ=lo.map ρ':=by cases lo <;> simp;exact h _ (by simp)
   have e2:hi.map ρ=hi.map ρ':=by cases hi <;> simp;exact h _ (by simp)
   simp only [aop];rw [h x (by simp),e1,e2]
 case fieldAddr s x f=>rw [h x (by simp)]
 case indexAddr t x ix=>rw [h x (by simp),h ix (by simp)]
 case index t x ix=>rw [h x (by simp),h ix (by simp)]
 case makeMap t r=>cases r <;> rfl
 case lookup t m k c=>rw [h m (by simp),h k (by simp)]
 case mapUpdate t m k v=>rw [h m (by simp),h k (by simp),h v (by simp)]
 case insert t m k v=>rw [h m (by simp),h k (by simp),h v (by simp)]
 case field s x f=>rw [h x (by simp)]
 case nilCheck x=>rw [h x (by simp)]
 case extract x i=>rw [h x (by simp)]
 case call c =>
  obtain ⟨callee,args,argTypes⟩:=c;cases callee with
  | value f=>rfl
  | invoke r m=>rfl
  | builtin b =>
   have ha:∀x∈args.toList,ρ x=ρ' x:=fun x hx=>h x (by simpa [Call.operands] using hx)
   have e:args.toList.map ρ=args.toList.map ρ':=vs4 ha;cases b <;> simp only [aop]
   case len =>
    split
    ·rename_i x t hxs hts;rw [ha x (by rw [hxs];simp)]
    ·rfl
   case append =>
    split
    ·rename_i s x t u hxs hts;rw [ha s (by rw [hxs];simp),ha x (by rw [hxs];simp)]
    ·rfl
   case clear =>
    split
    ·rename_i x t hxs hts;rw [ha x (by rw [hxs];simp)]
    ·rfl
   case max=>rw [e]
   case min=>rw [e]
structure Evt where
 v:AV
 u:Upd
 reads:List Nat
def Evt.wr (e:Evt):Option Nat:=e.u.map (·.1)
def qd8 (ρ:Operand→AV) (f:Operand) (args:List Operand):Option (FuncId×List AV) :=
 match ρ f with
 | .p (.func (.func k) cs)=>some (k,args.map ρ++cs.map .p)
 | .func (.func k) cs=>some (k,args.map ρ++cs)
 | _=>none
structure Cln (P:Program) (k:FuncId) (e sz by':Nat):Prop where
 body:HasBody P k
 ptr:∀(b off n c:Nat) (news:List Value) (w:World),news.length=n * sz→n≤maxLen→n * by'≤140737488355328→(∀j u,news[j]?=some u→w.cell? ⟨b,off+j,none⟩=some u)→(∀u∈news,u.oneCell'=true) →
  Calls P k #[.slice (some ⟨b,off,none⟩) n c] w fun e' w'=>∃v,e'=.returned v∧w'.ownsRow w.heap.size e sz v n news∧RowKit.Below w.heap.size w w'
 zero:∀(a:Addr) (c:Nat) (w:World),Calls P k #[.slice (some a) 0 c] w fun e' w'=>∃v,e'=.returned v∧w'.ownsRow w.heap.size e sz v 0 []∧RowKit.Below w.heap.size w w'
 nil:∀(n c:Nat) (w:World),Calls P k #[.slice none n c] w fun e' w'=>e'=.returned (.slice none 0 0)∧w'=w
def OpU (D:Prop) (P:Program) (o:Oper) (ρ:Operand→AV) (σ:Nat→AO) (v:AV) (u:Upd) (rs:List Nat):Prop :=
 ∀(X:Nat→Prop) (ρ':Operand→AV) (σ':Nat→AO),(∀x∈o.op.operands,ρ' x=ρ x)→(∀l∈rs,σ' l=σ l) →
  ∀{inj:Inj} {w:World} {a:Act} {next:Act→World→Prop} {Q:Exit→Act→World→Prop},HR X inj σ' w→TabOk P (fun b=>X b∨F inj σ' b) w→(∀x,AR X inj σ' w (ρ' x) (a.eval x)) →
   (∀val w' inj',HR X inj' (upd σ' u) w'→Ev D X inj σ' w inj' (upd σ' u) w'→AR X inj' (upd σ' u) w' v val→next (a.put o.dst val) w')→o.wp P a w next Q
inductive Does (C:Cx) (o:Oper) (ρ:Operand→AV) (σ:Nat→AO):Evt→Prop
 | op {v u} (h:(aop C.P C.B ρ o).run σ=some (v,u)):Does C o ρ σ ⟨v,u,(aop C.P C.B ρ o).reads σ⟩
 | call {f args ats k avs pargs r} (hp:ven C.D C.P k pargs r) (ho:o.op=.call ⟨.value f,args,ats⟩) (hk:HasBody C.P k) (hc:qd8 ρ f args.toList=some (k,avs))
   (hv:(qau (qdx (fun _=>true) 9) avs).run σ=some pargs) (hfl:(ql7 avs).isSome=true∨r.flat=true) :
   Does C o ρ σ ⟨.p r,none,(qau (qdx (fun _=>true) 9) avs).reads σ⟩
 | built {t len qap v u x} (ho:o.op=.buildSlice t len qap) (h:(aop C.P C.B ρ o).run σ=some (v,u)) (hv:(qdx (fun l=>l == qhl C.B o) 9 v).run (upd σ u)=some x) :
   Does C o ρ σ ⟨.p x,none,(aop C.P C.B ρ o).reads σ++(qdx (fun l=>l == qhl C.B o) 9 v).reads (upd σ u)⟩
 | cloned {f args ats k e sz by' g xs} (S:Cln C.P k e sz by') (hw:¬C.D) (ho:o.op=.call ⟨.value f,args,ats⟩) (hc:qd8 ρ f args.toList=some (k,[.p (.slc xs)]))
   (hel:(xs.map AV.p).all (qd0 sz)=true) (hn:xs.length≤maxLen) (hby:xs.length * by'≤140737488355328) (hg:σ (qhl C.B o)=.dead g) :
   Does C o ρ σ ⟨.own (qhl C.B o) (g+1) 0 xs.length,some (qhl C.B o,.arr e sz (g+1) (xs.map AV.p)),[qhl C.B o]⟩
 | ext {v u rs} (h:OpU C.D C.P o ρ σ v u rs):Does C o ρ σ ⟨v,u,rs⟩
theorem qs6 {X:Nat→Prop} {inj:Inj} {P:Program} {σ:Nat→AO} {w:World} (h:HR X inj σ w) {k:Nat} {t:TypeId} {len:Nat} {qap:List (Nat×AV)} {vparts:Array (Nat×Value)} {r:AV} {up:Upd} (hp:PartsR X inj σ w qap vparts.toList)
  (hr:(qft P k t len qap).run σ=some (r,up)) :
  ∃cs e,(Instr.buildSlice t len vparts).run P w=.ok (.slice (some ⟨w.heap.size,0,none⟩) len len) (w.alloc (.cells cs e)):=by
 unfold qft at hr;split at hr
 case h_2=>simp at hr
 rename_i e hu;split at hr
 case isFalse=>simp at hr
 rename_i hc;obtain ⟨hfst,hall,hsm,hpos,hmx,hzs⟩:=hc;obtain ⟨i,z,hi,hz,hzl',his,hib⟩:=qox hzs;obtain ⟨hf,hars⟩:=hp.fst;obtain ⟨hsz,hone⟩:=qhp hall hars;have hlen:(vparts.toList.map (·.2)).length=len:=by
  have:=congrArg List.length (hf ▸ hfst);simpa using this
 have hdense:vparts.toList=((vparts.toList.map (·.2)).zipIdx 0).map fun x=>(x.2,x.1):=qza 0 (by rw [←hf,hfst,List.range_eq_range'])
 have hflen:(flat (vparts.toList.map (·.2))).length=len * P.cellsOf e:=by rw [qa9 hsz,hlen]
 refine ⟨(flat (vparts.toList.map (·.2))).toArray,e,?_⟩;by_cases h0:len * P.cellsOf e=0
 ·have hl0:len=0:=by
   rcases Nat.mul_eq_zero.1 h0 with h1 | h1
   ·exact h1
   ·omega
  have hfl0:flat (vparts.toList.map (·.2))=[]:=vp6 (by rw [hflen,h0]);have hv0:vparts.toList=[]:=vp6 (by rw [hl0] at hlen;simpa using hlen);have hv1:vparts=#[]:=by apply vpd;simpa using hv0
  subst hl0;subst hv1;simp [Instr.buildSlice,run_underlying hu,sizeOf,typeInfo,hi,Instr.fill,newRow,flat];rw [show vpk 0=#[] from by simp [vpk]];simp
 ·have hw:=Great.fill_whole (s:=P.cellsOf e) hpos (vparts.toList.map (·.2)) ((vpk (len * P.cellsOf e)).map (z.cells[· % z.cells.size]!)) hsz (by rw [hlen];simp);rw [←hdense] at hw;have:=run_buildSlice (P:=P) w t e len vparts _ i z hu hi hz (by rw [his];omega) (by rw [his];exact h0) (by rw [his];exact hw);rw [this];rfl
theorem Fr.alloc (w:World) (c:Array Value) (t:TypeId):Fr D w (w.alloc (.cells c t)):=by
 have hh:(w.alloc (.cells c t)).heap=w.heap.push (.cells c t):=rfl;refine ⟨rfl,rfl,rfl,fun _=>vrj _,by rw [hh,vsb];omega,fun a _=>qkv w c t a,fun b hb=>?_⟩;rw [hh,vpg,if_neg (Nat.ne_of_lt hb)]
theorem q1s {σ:Nat→AO} {u:Upd} {l:Nat} (h:u.map (·.1)≠some l):upd σ u l=σ l:=by
 cases u with
 | none=>rfl
 | some p=>simp only [upd,qit];rw [if_neg (fun e=>h (by simp [e]))]
theorem vg7 {σ τ:Nat→AO} {u:Upd} {l:Nat} (h:u.map (·.1)=some l):upd σ u l=upd τ u l:=by
 cases u with
 | none=>cases h
 | some p=>simp only [vr0,vr1] at h;simp [upd,qit,h]
theorem Does.frame {C:Cx} {o:Oper} {ρ ρ':Operand→AV} {σ τ:Nat→AO} {e:Evt} (h:Does C o ρ σ e) (hρ:∀x∈o.op.operands,ρ x=ρ' x) (hσ:∀l∈e.reads,τ l=σ l):Does C o ρ' τ e:=by
 cases h with
 | @op v u h =>
  rw [qs5 C.P C.B o hρ] at h hσ ⊢;obtain ⟨h1,h2⟩:=L.frame _ h hσ;rw [←h2];exact .op h1
 | @call f args ats k avs pargs r hp ho hk hc hv hfl =>
  have hf:ρ f=ρ' f:=hρ f (by rw [ho];simp [Op.operands,Call.operands]);have ha:args.toList.map ρ=args.toList.map ρ':=vs4 fun x hx=>hρ x (by rw [ho];simp [Op.operands,Call.operands] at hx ⊢;exact .inr hx)
  have hc':qd8 ρ' f args.toList=some (k,avs):=by
   unfold qd8 at hc ⊢;rw [←hf,←ha];exact hc
  obtain ⟨h1,h2⟩:=L.frame _ hv hσ;rw [←h2];exact .call hp ho hk hc' h1 hfl
 | @built t len qap v u x ho h hv =>
  rw [qs5 C.P C.B o hρ] at h hσ ⊢;obtain ⟨h1,h2⟩:=L.frame _ h fun l hl=>hσ l (vqv.2 (.inl hl))
  have hσ2:∀l∈(qdx (fun l=>l == qhl C.B o) 9 v).reads (upd σ u),upd τ u l=upd σ u l:=fun l hl=>by
   by_cases hw:u.map (·.1)=some l
   ·exact vg7 hw
   ·rw [q1s hw,q1s hw];exact hσ l (vqv.2 (.inr hl))
  obtain ⟨h3,h4⟩:=L.frame _ hv hσ2;rw [←h2,←h4];exact .built ho h1 h3
 | @cloned f args ats k e sz by' g xs S hw ho hc hel hn hby hg =>
  have hf:ρ f=ρ' f:=hρ f (by rw [ho];simp [Op.operands,Call.operands]);have ha:args.toList.map ρ=args.toList.map ρ':=vs4 fun x hx=>hρ x (by rw [ho];simp [Op.operands,Call.operands] at hx ⊢;exact .inr hx)
  have hc':qd8 ρ' f args.toList=some (k,[.p (.slc xs)]):=by
   unfold qd8 at hc ⊢;rw [←hf,←ha];exact hc
  exact .cloned S hw ho hc' hel hn hby (by rw [hσ _ (by simp)];exact hg)
 | @ext v u rs h=>exact .ext fun X ρ2 σ2 h1 h2=>h X ρ2 σ2 (fun x hx=>(h1 x hx).trans (hρ x hx).symm) fun l hl=>(h2 l hl).trans (hσ l hl)
structure SRf (C:Cx) (ef:Nat→AV) (σ:Nat→AO) (inj:Inj) (a:Act) (w:World):Prop where
 env:∀t,AR C.X inj σ w (ef t) (a.tmps.getD t undef)
 size:a.tmps.size=C.N
 defers:a.defers=[]
 hr:HR C.X inj σ w
 ev:Ev C.D C.X C.inj0 (qcq C.H0) C.w0 inj σ w
theorem SR.f {C:Cx} {st:St} {inj:Inj} {a:Act} {w:World} (h:SR C st inj a w):SRf C st.env.get st.sig inj a w:=⟨h.env,h.size,h.defers,h.hr,h.ev⟩
def evf (ef:Nat→AV):Operand→AV
 | .tmp t=>ef t
 | .const v=>ofV v
 | .func f=>.p (.func (.func f) [])
 | .global _=>.any
theorem qq2 (env:Env):evf env.get=ev env:=by funext x;cases x <;> rfl
theorem SRf.eval {C:Cx} {ef:Nat→AV} {σ:Nat→AO} {inj:Inj} {a:Act} {w:World} (h:SRf C ef σ inj a w) (x:Operand):AR C.X inj σ w (evf ef x) (a.eval x):=by
 cases x with
 | tmp t=>exact h.env t
 | const v=>exact qpk v
 | global g=>trivial
 | func f=>exact ⟨[],rfl,rfl⟩
def qkf (ef:Nat→AV) (d:Option Tmp) (v:AV):Nat→AV:=fun t=>if d=some t then v else ef t
theorem SRf.put {C:Cx} {ef:Nat→AV} {σ:Nat→AO} {inj:Inj} {a:Act} {w:World} (h:SRf C ef σ inj a w) {o:Oper} (hd:qba C.N o=true) {v:AV} {val:Value} {u:Upd} {inj':Inj} {w':World}
  (h1:HR C.X inj' (upd σ u) w') (h2:Ev C.D C.X inj σ w inj' (upd σ u) w') (h3:AR C.X inj' (upd σ u) w' v val) :
  SRf C (qkf ef o.dst v) (upd σ u) inj' (a.put o.dst val) w':=by
 refine ⟨fun t=>?_,?_,?_,h1,h.ev.trans h2⟩
 ·unfold qkf;cases hdst:o.dst with
  | none=>simpa [Act.put] using AR.ev h2 h.hr.xlt _ _ (h.env t)
  | some d =>
   simp only [qba,hdst,decide_eq_true_eq] at hd;simp only [Act.put,vr1];by_cases ht:d=t
   ·subst ht;rw [if_pos rfl];have:(a.tmps.setIfInBounds d val).getD d undef=val:=by simp [h.size,hd]
    rw [this];exact h3
   ·rw [if_neg ht];have:(a.tmps.setIfInBounds d val).getD t undef=a.tmps.getD t undef:=by simp [vph ht]
    rw [this];exact AR.ev h2 h.hr.xlt _ _ (h.env t)
 ·cases hdst:o.dst <;> simp [Act.put,h.size]
 ·cases hdst:o.dst <;> simp [Act.put,h.defers]
theorem Does.sound {C:Cx} {ef:Nat→AV} {σ:Nat→AO} {inj:Inj} {a:Act} {w:World} {o:Oper} {e:Evt} {next:Act→World→Prop} {Q:Exit→Act→World→Prop}
  (h:Does C o (evf ef) σ e) (hs:SRf C ef σ inj a w) (hd:qba C.N o=true) (hnx:∀a' w' inj',SRf C (qkf ef o.dst e.v) (upd σ e.u) inj' a' w'→next a' w'):o.wp C.P a w next Q:=by
 cases h with
 | @op v u h =>
  exact q3a C.B o (evf ef) hs.hr (fun x=>hs.eval x) h fun val w' inj' h1 h2 h3=>hnx _ _ _ (hs.put hd h1 h2.weak.weak h3)
 | @call f args ats k avs pargs r hp ho hk hc hv hfl =>
  have hf:=hs.eval f;have hargs:=qmc (fun x=>hs.eval x) args.toList;have hcall:∃vs,(execOp a.eval o).run C.P w=.ok (.enter k vs.toArray) w∧ARs C.X inj σ w avs vs:=by
   obtain ⟨dst,op,type,pos,after,guard⟩:=o;simp only at ho;subst ho;unfold qd8 at hc;have run:∀cap:Array Value,a.eval f=.func (.func k) #[] cap→(execOp a.eval ⟨dst,.call ⟨.value f,args,ats⟩,type,pos,after,guard⟩).run C.P w=.ok (.enter k (args.map a.eval++cap)) w:=by
    intro cap he;simp only [execOp,resolve,Deferred.ofValue,he,vr5,vr6,vr3,invoke];rw [hk];simp
   split at hc
   ·rename_i k' cs hev;simp only [vr1,vr2] at hc;obtain ⟨rfl,rfl⟩:=hc;rw [hev] at hf;obtain ⟨vs,h1,h2⟩:=hf;refine ⟨args.toList.map a.eval++vs,?_,hargs.append (qbc.2 h2)⟩;rw [run vs.toArray h1];congr 2;apply vpd;simp
   ·rename_i k' cs hev;simp only [vr1,vr2] at hc;obtain ⟨rfl,rfl⟩:=hc;rw [hev] at hf;obtain ⟨vs,h1,h2⟩:=hf;refine ⟨args.toList.map a.eval++vs,?_,hargs.append h2⟩;rw [run vs.toArray h1];congr 2;apply vpd;simp
   ·cases hc
  obtain ⟨vs,hrun,hars⟩:=hcall;unfold Oper.wp;rw [hrun];simp only [Oper.upon];rcases hfl with hfl | hfl
  ·obtain ⟨xs,hxs⟩:=vry.1 hfl;have hav:=qow hxs;subst hav;rw [qll] at hv;simp only [L.run_ret,vr1] at hv;subst hv;refine (hp (fun b=>C.X b∨F inj σ b) w vs (fun b hb=>hb.elim (hs.hr.xlt b) fun hf=>(hs.hr.flt hf).1) (qnb hs.ev) (qbc.1 hars)).mono ?_;rintro e w' ⟨v,rfl,h1,h2⟩;exact hnx _ _ inj (hs.put (u:=none) hd (hs.hr.fr h2) h2.ev h1)
  ·have hpr:=qdh (qdq hs.hr (fun _=>true) 9) avs vs pargs hars hv;have hpr':PRs C.X w pargs vs:=PRs.keep ⟨vrj _,fun _ _ _=>rfl,fun b _ hx hn=>hx (.inl hn)⟩ pargs vs hpr;refine (hp C.X w vs hs.hr.xlt ((qnb hs.ev).keep ⟨vrj _,fun _ _ _=>rfl,fun b _ hx hn=>hx (.inl hn)⟩) hpr').mono ?_;rintro e w' ⟨v,rfl,h1,h2⟩;exact hnx _ _ inj (hs.put (u:=none) hd (hs.hr.fr h2) h2.ev (PR.flat r v hfl h1))
 | @built t len qap v u x ho h hv =>
  obtain ⟨dst,op,type,pos,after,guard⟩:=o;simp only at ho;subst ho;have hr:(qft C.P (qhl C.B ⟨dst,.buildSlice t len qap,type,pos,after,guard⟩) t len (qap.toList.map fun p=>(p.1,evf ef p.2))).run σ=some (v,u):=h;have hp:PartsR C.X inj σ w (qap.toList.map fun p=>(p.1,evf ef p.2)) (qap.map fun p=>(p.1,a.eval p.2)).toList:=by simpa using qn5 (fun x=>hs.eval x) qap.toList
  obtain ⟨val,w',inj',h1,h2,h3,h4⟩:=qlo (P:=C.P) (D:=C.D) hs.hr hp hr;obtain ⟨cs,e,h5⟩:=qs6 (P:=C.P) hs.hr hp hr;rw [h5] at h1;simp only [Result.ok.injEq] at h1;obtain ⟨rfl,rfl⟩:=h1;have hfr:Fr C.D w (w.alloc (.cells cs e)):=Fr.alloc w _ _;have hx0:=qdq h2 (fun l=>l == qhl C.B ⟨dst,.buildSlice t len qap,type,pos,after,guard⟩) 9 v _ x h4 hv;have hx:AR C.X inj σ (w.alloc (.cells cs e)) (.p x) (Value.slice (some ⟨w.heap.size,0,none⟩) len len):=by
   refine PR.keep ⟨vrj _,fun _ _ _=>rfl,fun b _ hx hn=>hx ?_⟩ x _ hx0;rcases hn with hn | hn
   ·exact .inl hn
   ·refine .inr ?_;obtain ⟨l,c,o,g1,g2,g3,g4⟩:=hn;have hw:∃g,σ (qhl C.B ⟨dst,.buildSlice t len qap,type,pos,after,guard⟩)=.dead g∧u.map (·.1)=some (qhl C.B ⟨dst,.buildSlice t len qap,type,pos,after,guard⟩):=by
     unfold qft at hr;split at hr
     case h_2=>simp at hr
     split at hr
     case isFalse=>simp at hr
     obtain ⟨g,q1,_,q3⟩:=qw7 hr;exact ⟨g,q1,by rw [q3];rfl⟩
    obtain ⟨g,q1,q2⟩:=hw;have hne:l≠qhl C.B ⟨dst,.buildSlice t len qap,type,pos,after,guard⟩:=fun he=>by
     subst he;rw [q1] at g1;subst g1;cases g2
    have hu':upd σ u l=σ l:=q1s (by rw [q2];intro he;exact hne (by simpa using he.symm));have ho:=(h3.objs l).2;rw [hu',g1] at ho;refine ⟨l,c,o,by rw [hu',g1],g2,by simpa using hne,?_⟩;rw [(ho g2 rfl).1];exact g4
  have e':(qap.map fun p=>(p.1,a.eval p.2))=(qap.map fun (i,x)=>(i,a.eval x)):=rfl;rw [e'] at h5;have he:execOp a.eval ⟨dst,.buildSlice t len qap,type,pos,after,guard⟩=(do pure (Next.value (←Instr.buildSlice t len (qap.map fun (i,x)=>(i,a.eval x))))):=by
   simp only [execOp]
  exact qlp he h5 (hnx _ _ inj (hs.put (u:=none) hd (hs.hr.fr hfr) hfr.ev hx))
 | @cloned f args ats k e sz by' g xs S hw ho hc hel hn hby hg =>
  have hf:=hs.eval f;have hargs:=qmc (fun x=>hs.eval x) args.toList;obtain ⟨avs,havs⟩:∃avs,avs=[AV.p (.slc xs)]:=⟨_,rfl⟩;rw [←havs] at hc;have hnext:=hnx;have hk:HasBody C.P k:=S.body;have hcall:∃vs,(execOp a.eval o).run C.P w=.ok (.enter k vs.toArray) w∧ARs C.X inj σ w avs vs:=by
   obtain ⟨dst,op,type,pos,after,guard⟩:=o;simp only at ho;subst ho;unfold qd8 at hc;have run:∀cap:Array Value,a.eval f=.func (.func k) #[] cap→(execOp a.eval ⟨dst,.call ⟨.value f,args,ats⟩,type,pos,after,guard⟩).run C.P w=.ok (.enter k (args.map a.eval++cap)) w:=by
    intro cap he;simp only [execOp,resolve,Deferred.ofValue,he,vr5,vr6,vr3,invoke];rw [hk];simp
   split at hc
   ·rename_i k' cs hev;simp only [vr1,vr2] at hc;obtain ⟨rfl,rfl⟩:=hc;rw [hev] at hf;obtain ⟨vs,h1,h2⟩:=hf;refine ⟨args.toList.map a.eval++vs,?_,hargs.append (qbc.2 h2)⟩;rw [run vs.toArray h1];congr 2;apply vpd;simp
   ·rename_i k' cs hev;simp only [vr1,vr2] at hc;obtain ⟨rfl,rfl⟩:=hc;rw [hev] at hf;obtain ⟨vs,h1,h2⟩:=hf;refine ⟨args.toList.map a.eval++vs,?_,hargs.append h2⟩;rw [run vs.toArray h1];congr 2;apply vpd;simp
   ·cases hc
  obtain ⟨vs,hrun,hars⟩:=hcall;rw [havs] at hars;unfold Oper.wp;rw [hrun];simp only [Oper.upon];obtain ⟨v1,r1,rfl,ha1,rfl⟩:=hars;have ha2:PR (fun b=>C.X b∨F inj σ b) w (.slc xs) v1:=ha1;simp only [PR] at ha2;obtain ⟨a0,cap,us,rfl,hcap,hus,hat⟩:=ha2;have hus':ARs C.X inj σ w (xs.map AV.p) us:=qbc.2 hus;obtain ⟨hsz,hone⟩:=qhp hel hus';have hlen:us.length=xs.length:=by have:=hus'.length;simpa using this.symm
  have hfl:(flat us).length=xs.length * sz:=by rw [qa9 hsz,hlen]
  have fin:∀v w',World.ownsRow w' w.heap.size e sz v xs.length (flat us)→RowKit.Below w.heap.size w w'→next (a.put o.dst v) w':=by
   intro v w' hrow hbel;have hfz:∀a:Addr,a.block < w.heap.size→w'.frozen? a=w.frozen? a:=fun a ha=>by unfold World.frozen?;rw [hbel.block _ ha]
   obtain ⟨_,hrow⟩:=hrow;rcases hrow with ⟨rfl,hz⟩ | ⟨gb,cp,cur,rfl,hbase,hgb,q1,q2,q3,q4⟩
   ·have hxs:xs=[]:=vsw.1 hz;have hup:=hs.hr.update (D:=C.D) (w':=w') (l:=qhl C.B o) (o:=.dead g) (o':=.arr e sz (g+1) (xs.map AV.p)) (x:=none) hg hbel.os hbel.tape hbel.output (fun hd=>absurd hd hw) hbel.size hfz
     (fun b hb _=>hbel.block b hb) (fun b1 c1 h1=>by cases h1) ⟨by simp [AO.gen],fun _ he=>by simp [AO.gen] at he⟩
    obtain ⟨hev,hhr⟩:=hup;refine hnext _ _ _ (hs.put (u:=some (qhl C.B o,.arr e sz (g+1) (xs.map AV.p))) hd (hhr ⟨us,ARs.ev hev hs.hr.xlt _ us hus',hsz,hone,.inl ⟨by simp,by rw [hxs];rfl⟩⟩) hev ?_);refine ⟨⟨_,_,_,rfl⟩,fun oo hoo=>?_⟩;have:oo=.arr e sz (g+1) (xs.map AV.p):=by rw [←hoo];exact qc3 _ _ _
    subst this;exact ⟨vrj _,fun _ e1 sz1 es1 he=>by cases he;exact ⟨by simp,.inl ⟨by simp,rfl,rfl,hz⟩⟩⟩
   ·have hup:=hs.hr.update (D:=C.D) (w':=w') (l:=qhl C.B o) (o:=.dead g) (o':=.arr e sz (g+1) (xs.map AV.p)) (x:=some (gb,cp)) hg hbel.os hbel.tape hbel.output (fun hd=>absurd hd hw) hbel.size hfz
     (fun b hb _=>hbel.block b hb) (fun b1 c1 h1=>by cases h1;exact .inl hbase) ⟨by simp [AO.gen],fun _ he=>by simp [AO.gen] at he⟩
    obtain ⟨hev,hhr⟩:=hup;have hH:=hhr ⟨us,ARs.ev hev hs.hr.xlt _ us hus',hsz,hone,.inr ⟨gb,cp,cur,by simp,fun hX=>by have:=hs.hr.xlt gb hX;omega,hgb,by simpa using q1,q2,q3,by simpa using q4⟩⟩;refine hnext _ _ _ (hs.put (u:=some (qhl C.B o,.arr e sz (g+1) (xs.map AV.p))) hd hH hev ?_);have hown:va0 (fun q=>if q=qhl C.B o then some (gb,cp) else inj q) (qit σ (qhl C.B o) (.arr e sz (g+1) (xs.map AV.p))) (qhl C.B o) (g+1) 0 xs.length (.slice (some ⟨gb,0,none⟩) xs.length cp):=qiu (qc3 _ _ _) (if_pos rfl) (by simp) q1;exact hown
  rcases hat with rfl | ⟨b,off,sz',rfl,hsz2,hone2,hrow⟩
  ·have hx0:xs.length=0:=by rw [←hlen];rfl
   cases a0 with
   | none =>
    refine (S.nil _ _ w).mono ?_;rintro e' w' ⟨rfl,rfl⟩;exact fin _ _ (by rw [hx0];exact ⟨by simp [flat],.inl ⟨rfl,rfl⟩⟩) (RowKit.Below.refl _ _)
   | some ad =>
    rw [hx0];refine (S.zero ad _ w).mono ?_;rintro e' w' ⟨v,rfl,h1,h2⟩;exact fin _ _ (by rw [hx0];exact h1) h2
  ·obtain ⟨_,_,hcell⟩:=hrow;refine (S.ptr b off _ _ (flat us) w hfl hn hby hcell hone).mono ?_;rintro e' w' ⟨v,rfl,h1,h2⟩;exact fin _ _ h1 h2
 | @ext v u rs h=>exact h C.X _ _ (fun _ _=>rfl) (fun _ _=>rfl) hs.hr (qnb hs.ev) (fun x=>hs.eval x) fun val w' inj' h1 h2 h3=>hnx _ _ _ (hs.put hd h1 h2 h3)
def qlq (ops:Array Oper) (ef:Nat→AV) (o:Oper):Option Bool :=
 match o.guard with
 | none=>some true
 | some (j,want)=>match (ops[j]?).bind (·.dst) with
  | some d=>(match ef d with | .p (.bool b)=>some (b == want) | .p (.tup [])=>some false | _=>none)
  | none=>none
theorem qlr (ops:Array Oper) (env:Env) (o:Oper):qlq ops env.get o=qaq ops env o:=rfl
theorem qhq {C:Cx} {ef:Nat→AV} {σ:Nat→AO} {inj:Inj} {a:Act} {w:World} {ops:Array Oper} {o:Oper} {b:Bool} (h:SRf C ef σ inj a w) (hg:qlq ops ef o=some b) :
  Region.wanted o (yielded ops a.tmps)=b:=by
 unfold qlq at hg;unfold Region.wanted;split at hg
 ·rename_i hgd;simp only [vr1] at hg;subst hg;rw [hgd]
 ·rename_i j want hgd;rw [hgd];split at hg
  ·rename_i d hd;have he:=h.env d;split at hg
   ·rename_i b' hb;simp only [vr1] at hg;subst hg;rw [hb] at he;simp only [AR,PR] at he;have ht:a.tmps[d]?=some (.bool b'):=by
     cases hx:a.tmps[d]? with
     | none=>simp [hx,undef] at he
     | some x=>simp [hx] at he;rw [he]
    simp only [yielded,hd,vrv,ht];cases b' <;> cases want <;> rfl
   ·rename_i hb;simp only [vr1] at hg;subst hg;rw [hb] at he;obtain ⟨vs,he,_⟩:=he;have ht:a.tmps[d]?=none∨a.tmps[d]?=some (.tuple vs.toArray):=by
     cases hx:a.tmps[d]? with
     | none=>exact .inl rfl
     | some x=>simp [hx] at he;exact .inr (by rw [he])
    rcases ht with ht | ht <;> simp only [yielded,hd,vrv,ht] <;> cases want <;> rfl
   ·cases hg
  ·cases hg
def q1t (C:Cx) (ops:Array Oper) (o:Oper) (ef:Nat→AV) (σ:Nat→AO) (e:Evt):Prop :=
 qba C.N o=true∧((qlq ops ef o=some true∧Does C o (evf ef) σ e)∨(qlq ops ef o=some false∧e=⟨.p (.tup []),none,[]⟩))
theorem qls {ops:Array Oper} {o:Oper} {t:Tmp} (h:Operand.tmp t∈o.op.operands):t∈o.looksAt ops:=by
 unfold Oper.looksAt;refine vqv.2 (.inl ?_);exact List.mem_filterMap.2 ⟨.tmp t,by simpa using h,rfl⟩
theorem q1t.frame {C:Cx} {ops:Array Oper} {o:Oper} {ef ef':Nat→AV} {σ τ:Nat→AO} {e:Evt} (h:q1t C ops o ef σ e) (hs:∀t∈o.looksAt ops,ef' t=ef t) (hσ:∀l∈e.reads,τ l=σ l) :
  q1t C ops o ef' τ e:=by
 obtain ⟨hd,h⟩:=h;have hg:qlq ops ef' o=qlq ops ef o:=by
  unfold qlq;split
  ·rfl
  ·rename_i j want hgd;split
   ·rename_i d hdd;rw [hs d (by unfold Oper.looksAt;refine vqv.2 (.inr ?_);rw [hgd];simp [hdd])]
   ·rfl
 refine ⟨hd,?_⟩;rw [hg];rcases h with ⟨h1,h2⟩ | h
 ·refine .inl ⟨h1,h2.frame (fun x hx=>?_) hσ⟩;cases x with
  | tmp t=>exact (hs t (qls hx)).symm
  | _=>rfl
 ·exact .inr h
def apD (ops:Array Oper):List Evt→Nat→(Nat→Bool)→(Nat→AV)×(Nat→AO)→(Nat→AV)×(Nat→AO)
 | [],_,_,s=>s
 | e :: es,i,D,s=>apD ops es (i+1) D (if D i then (qkf s.1 ((ops[i]?).bind (·.dst)) e.v,upd s.2 e.u) else s)
def qs7 (C:Cx) (ops:Array Oper):List Evt→Nat→(Nat→AV)×(Nat→AO)→Prop
 | [],i,_=>ops.size≤i
 | e :: es,i,s=>(∃o,ops[i]?=some o∧q1t C ops o s.1 s.2 e)∧qs7 C ops es (i+1) (qkf s.1 ((ops[i]?).bind (·.dst)) e.v,upd s.2 e.u)
theorem qxi (ops:Array Oper) (t:Nat):∀(es:List Evt) (i:Nat) (D D':Nat→Bool) (s s':(Nat→AV)×(Nat→AO)),s.1 t=s'.1 t →
  (∀j,i≤j→j < i+es.length→(ops[j]?).bind (·.dst)=some t→D j=D' j)→(apD ops es i D s).1 t=(apD ops es i D' s').1 t
 | [],_,_,_,_,_,h,_=>h
 | e :: es,i,D,D',s,s',h,hD=>by
  simp only [apD];refine qxi ops t es (i+1) D D' _ _ ?_ fun j h1 h2 h3=>hD j (by omega) (by simp only [vsv];omega) h3
  by_cases hd:(ops[i]?).bind (·.dst)=some t
  ·rw [hD i (vrj _) (by simp) hd];split
   ·simp [qkf,hd]
   ·exact h
  ·split <;> split <;> simp [qkf,hd,h]
theorem qv5 {σ:Nat→AO} {u:Upd} {l:Nat} (h:u.map (·.1)≠some l):upd σ u l=σ l:=by
 cases u with
 | none=>rfl
 | some p=>simp only [upd,qit];rw [if_neg (fun e=>h (by simp [e]))]
theorem q75 {σ τ:Nat→AO} {u:Upd} {l:Nat} (h:u.map (·.1)=some l):upd σ u l=upd τ u l:=by
 cases u with
 | none=>cases h
 | some p=>simp only [vr0,vr1] at h;simp [upd,qit,h]
theorem q1u (ops:Array Oper) (l:Nat):∀(es:List Evt) (i:Nat) (D D':Nat→Bool) (s s':(Nat→AV)×(Nat→AO)),s.2 l=s'.2 l →
  (∀j e,i≤j→es[j - i]?=some e→e.wr=some l→D j=D' j)→(apD ops es i D s).2 l=(apD ops es i D' s').2 l
 | [],_,_,_,_,_,h,_=>h
 | e :: es,i,D,D',s,s',h,hD=>by
  simp only [apD];refine q1u ops l es (i+1) D D' _ _ ?_ fun j e' h1 h2 h3=>hD j e' (by omega) (by rw [show j - i=(j - (i+1))+1 by omega];simpa using h2) h3
  by_cases hd:e.wr=some l
  ·rw [hD i e (vrj _) (by simp) hd];split
   ·exact q75 hd
   ·exact h
  ·have hd':e.u.map (·.1)≠some l:=hd;split <;> split <;> simp only [qv5 hd',h]
theorem qxj (ops:Array Oper) (i:Nat) (ei:Evt):∀(es:List Evt) (k:Nat) (D:Nat→Bool) (s:(Nat→AV)×(Nat→AO)),k≤i→es[i - k]?=some ei→D i=false →
  (∀j e,i < j→es[j - k]?=some e→D j=true→((ops[j]?).bind (·.dst)=none∨(ops[j]?).bind (·.dst)≠(ops[i]?).bind (·.dst))∧(e.wr=none∨e.wr≠ei.wr)) →
  apD ops es k (fun j=>j == i || D j) s=(qkf (apD ops es k D s).1 ((ops[i]?).bind (·.dst)) ei.v,upd (apD ops es k D s).2 ei.u)
 | [],k,D,s,_,h,_,_=>by simp at h
 | e :: es,k,D,s,hk,h,hi,hj=>by
  by_cases hki:k=i
  ·subst hki;simp only [vto,vst,vr1] at h;subst h;simp only [apD,beq_self_eq_true,Bool.true_or,if_true,hi,vps,if_false]
   -- the rest commutes
   have comm:∀(es':List Evt) (m:Nat) (D1 D2:Nat→Bool) (s:(Nat→AV)×(Nat→AO)),(∀j,m≤j→D1 j=D2 j) →
     (∀j e',m≤j→es'[j - m]?=some e'→D2 j=true→((ops[j]?).bind (·.dst)=none∨(ops[j]?).bind (·.dst)≠(ops[k]?).bind (·.dst))∧(e'.wr=none∨e'.wr≠e.wr)) →
     apD ops es' m D1 (qkf s.1 ((ops[k]?).bind (·.dst)) e.v,upd s.2 e.u)=(qkf (apD ops es' m D2 s).1 ((ops[k]?).bind (·.dst)) e.v,upd (apD ops es' m D2 s).2 e.u):=by
    intro es'
    induction es' with
    | nil=>intro m D1 D2 s _ _;rfl
    | cons e' es' ih =>
     intro m D1 D2 s hD hw;simp only [apD,hD m (vrj _)];cases hm:D2 m with
     | false =>
      simp only [vps,if_false];exact ih (m+1) D1 D2 s (fun j hj=>hD j (by omega)) fun j e1 h1 h2 h3=>hw j e1 (by omega) (by rw [show j - m=(j - (m+1))+1 by omega];simpa using h2) h3
     | true =>
      simp only [if_true];obtain ⟨w1,w2⟩:=hw m e' (vrj _) (by simp) hm;have e1:qkf (qkf s.1 ((ops[k]?).bind (·.dst)) e.v) ((ops[m]?).bind (·.dst)) e'.v=qkf (qkf s.1 ((ops[m]?).bind (·.dst)) e'.v) ((ops[k]?).bind (·.dst)) e.v:=by
       funext t;simp only [qkf];by_cases c1:(ops[m]?).bind (·.dst)=some t
       ·by_cases c2:(ops[k]?).bind (·.dst)=some t
        ·rcases w1 with w1 | w1
         ·rw [c1] at w1;cases w1
         ·rw [c1,c2] at w1;exact (w1 rfl).elim
        ·simp [c1,c2]
       ·simp [c1]
      have e2:upd (upd s.2 e.u) e'.u=upd (upd s.2 e'.u) e.u:=by
       funext l;by_cases c1:e'.wr=some l
       ·by_cases c2:e.wr=some l
        ·rcases w2 with w2 | w2
         ·rw [c1] at w2;cases w2
         ·rw [c1,c2] at w2;exact (w2 rfl).elim
        ·have c2':e.u.map (·.1)≠some l:=c2;rw [qv5 (σ:=upd s.2 e'.u) c2'];exact q75 c1
       ·have c1':e'.u.map (·.1)≠some l:=c1;rw [qv5 (σ:=upd s.2 e.u) c1'];by_cases c2:e.wr=some l
        ·exact q75 c2
        ·have c2':e.u.map (·.1)≠some l:=c2;rw [qv5 c2',qv5 c2',qv5 c1']
      rw [e1,e2];exact ih (m+1) D1 D2 (qkf s.1 ((ops[m]?).bind (·.dst)) e'.v,upd s.2 e'.u) (fun j hj=>hD j (by omega)) fun j e1 h1 h2 h3=>hw j e1 (by omega) (by rw [show j - m=(j - (m+1))+1 by omega];simpa using h2) h3
   exact comm es (k+1) _ D s (fun j hj=>by have:(j == k)=false:=(by simp;omega);simp [this]) fun j e' h1 h2 h3=>hj j e' (by omega) (by rw [show j - k=(j - (k+1))+1 by omega];simpa using h2) h3
  ·have hb:(k == i)=false:=by simpa using hki
   simp only [apD,hb,Bool.false_or];exact qxj ops i ei es (k+1) D _ (by omega) (by rw [show i - k=(i - (k+1))+1 by omega] at h;simpa using h) hi fun j e' h1 h2 h3=>hj j e' h1 (by rw [show j - k=(j - (k+1))+1 by omega];simpa using h2) h3
def qc7 (ops:Array Oper) (j:Nat):List Nat :=
 match ops[j]? with
 | some o=>(o.after.toList.filter (Region.binds .any)).map (·.on)
 | none=>[]
def ancM (A:Nat) (l:List Nat):Nat:=l.foldl (fun m p=>m ||| ((1 <<< p) ||| (A >>> (256 * p)))) 0
def q3f (ops:Array Oper):Nat→Nat
 | 0=>0
 | k+1=>q3f ops k ||| ((ancM (q3f ops k) (qc7 ops k) % 2 ^ 256) <<< (256 * k))
def qu8 (A j i:Nat):Bool:=decide (i < 256) && A.testBit (256 * j+i)
inductive Reach (ops:Array Oper):Nat→Nat→Prop
 | one {j i} (h:i∈qc7 ops j):Reach ops j i
 | more {j m i} (h:m∈qc7 ops j) (h2:Reach ops m i):Reach ops j i
theorem q3g (A i:Nat):∀(l:List Nat) (m:Nat),(l.foldl (fun m p=>m ||| ((1 <<< p) ||| (A >>> (256 * p)))) m).testBit i=true→m.testBit i=true∨∃p∈l,p=i∨A.testBit (256 * p+i)=true
 | [],m,h=>.inl h
 | p :: l,m,h=>by
  rw [List.foldl_cons] at h;rcases q3g A i l _ h with h | ⟨q,h1,h2⟩
  ·simp only [Nat.testBit_or,vtp,Nat.testBit_shiftRight,vpv,vpq,decide_eq_true_eq] at h;rcases h with h | ⟨h1,h2⟩ | h
   ·exact .inl h
   ·refine .inr ⟨p,by simp,.inl ?_⟩;have:i - p=0:=by
     apply Classical.byContradiction;intro hn;have hz:Nat.testBit 1 (i - p)=false:=Nat.testBit_lt_two_pow (Nat.one_lt_two_pow hn);rw [hz] at h2;cases h2
    omega
   ·exact .inr ⟨p,by simp,.inr h⟩
  ·exact .inr ⟨q,by simp [h1],h2⟩
theorem qq3 (ops:Array Oper):∀(k j i:Nat),i < 256→(q3f ops k).testBit (256 * j+i)=true→Reach ops j i
 | 0,j,i,_,h=>by simp [q3f] at h
 | k+1,j,i,hi,h=>by
  simp only [q3f,Nat.testBit_or,vtp,Nat.testBit_mod_two_pow,vpv,vpq,decide_eq_true_eq] at h;rcases h with h | ⟨h1,h2,h3⟩
  ·exact qq3 ops k j i hi h
  ·have hjk:j=k:=by omega
   subst hjk;rw [show 256 * j+i - 256 * j=i by omega] at h3;rcases q3g _ i _ 0 h3 with h | ⟨p,q1,q2⟩
   ·simp at h
   ·rcases q2 with rfl | q2
    ·exact .one q1
    ·exact .more q1 (qq3 ops j p i hi q2)
theorem qj3 {ops:Array Oper} {k j i:Nat} (h:qu8 (q3f ops k) j i=true):Reach ops j i:=by
 simp only [qu8,vpq,decide_eq_true_eq] at h;exact qq3 ops k j i h.1 h.2
def qv6 (ops:Array Oper) (D:Nat→Bool):Prop:=∀j,D j=true→∀i∈qc7 ops j,D i=true
theorem Reach.closed {ops:Array Oper} {D:Nat→Bool} (hc:qv6 ops D) {j i:Nat} (h:Reach ops j i):D j=true→D i=true:=by
 induction h with
 | one h=>exact fun hj=>hc _ hj _ h
 | more h _ ih=>exact fun hj=>ih (hc _ hj _ h)
theorem Reach.ready {ops:Array Oper} {D:Nat→Bool} (hc:qv6 ops D) {j i:Nat} (hp:∀i∈qc7 ops j,D i=true) (h:Reach ops j i):D i=true:=by
 cases h with
 | one h=>exact hp _ h
 | more h h2=>exact h2.closed hc (hp _ h)
def qgm (ops:Array Oper):Bool :=
  let A:=q3f ops ops.size
  (vq3 ops.size).all fun j=>(qc7 ops j).all (fun m=>decide (m < j)) && (vq3 j).all fun i=>qu8 A j i ||
    (match ops[i]?,ops[j]? with
     | some x,some y=>x.apart ops y
     | _,_=>true)
def evOk (x y:Evt):Prop:=(∀l,x.wr=some l→l ∉ y.reads∧y.wr≠some l)∧(∀l,y.wr=some l→l ∉ x.reads)
def q5o (x y:Evt):Bool :=
  (match x.wr with
   | some l=>!y.reads.contains l && y.wr != some l
   | none=>true) && (match y.wr with
   | some l=>!x.reads.contains l
   | none=>true)
theorem q5p {x y:Evt} (h:q5o x y=true):evOk x y:=by
 constructor
 ·intro l hl;simp [q5o,hl] at h;exact h.1
 ·intro l hl;simp [q5o,hl] at h;exact h.2
def qr4 (ops:Array Oper) (es:List Evt):Bool :=
  let A:=q3f ops ops.size
  (vq3 ops.size).all fun j=>(vq3 j).all fun i=>qu8 A j i ||
    (match es[i]?,es[j]? with
     | some x,some y=>q5o x y
     | _,_=>true)
theorem qep {ops:Array Oper} (h:qgm ops=true) {i j:Nat} {x y:Oper} (hij:i < j) (hx:ops[i]?=some x) (hy:ops[j]?=some y):Reach ops j i∨x.apart ops y=true:=by
 have hj:=(vpf.1 hy).1;simp only [qgm,vsn,vtc,vpq,vpv] at h;rcases (h j hj).2 i hij with h | h
 ·exact .inl (qj3 h)
 ·rw [hx,hy] at h;exact .inr h
theorem qhz {ops:Array Oper} (h:qgm ops=true) {j:Nat} (hj:j < ops.size):∀m∈qc7 ops j,m < j:=by
 simp only [qgm,vsn,vtc,vpq,vpv,decide_eq_true_eq] at h;exact (h j hj).1
theorem qjt {ops:Array Oper} {es:List Evt} (h:qr4 ops es=true) {i j:Nat} {x y:Evt} (hij:i < j) (hj:j < ops.size) (hx:es[i]?=some x) (hy:es[j]?=some y):Reach ops j i∨evOk x y:=by
 simp only [qr4,vsn,vtc,vpv] at h;rcases h j hj i hij with h | h
 ·exact .inl (qj3 h)
 ·rw [hx,hy] at h;exact .inr (q5p h)
theorem qs7.at {C:Cx} {ops:Array Oper}:∀{es:List Evt} {i:Nat} {s:(Nat→AV)×(Nat→AO)},qs7 C ops es i s→∀j e,i≤j→es[j - i]?=some e →
  ∃o,ops[j]?=some o∧q1t C ops o (apD ops es i (fun m=>decide (m < j)) s).1 (apD ops es i (fun m=>decide (m < j)) s).2 e
 | [],i,s,h,j,e,hj,he=>by simp at he
 | e0 :: es,i,s,h,j,e,hj,he=>by
  obtain ⟨⟨o,ho,hst⟩,hrest⟩:=h;have skip:∀(es':List Evt) (m:Nat) (s':(Nat→AV)×(Nat→AO)),j≤m→apD ops es' m (fun m=>decide (m < j)) s'=s':=by
   intro es'
   induction es' with
   | nil=>intro m s' _;rfl
   | cons x xs ih=>intro m s' hm;simp only [apD];rw [if_neg (by simp;omega)];exact ih (m+1) s' (by omega)
  by_cases hji:j=i
  ·subst hji;simp only [vto,vst,vr1] at he;subst he;rw [skip _ _ _ (vrj _)];exact ⟨o,ho,hst⟩
  ·have hlt:i < j:=by omega
   have:=qs7.at hrest j e (by omega) (by rw [show j - i=(j - (i+1))+1 by omega] at he;simpa using he);simp only [apD];rw [if_pos (by simpa using hlt)];exact this
theorem qs7.len {C:Cx} {ops:Array Oper}:∀{es:List Evt} {i:Nat} {s:(Nat→AV)×(Nat→AO)},qs7 C ops es i s→i≤ops.size→i+es.length=ops.size
 | [],i,s,h,hi=>by simp only [qs7] at h;simp only [vqo];omega
 | e0 :: es,i,s,h,hi=>by
  obtain ⟨⟨o,ho,hst⟩,hrest⟩:=h;have:=qs7.len hrest (vpf.1 ho).1;simp only [vsv];omega
theorem qo2 (ops:Array Oper):∀(es:List Evt) (i:Nat) (D D':Nat→Bool) (s:(Nat→AV)×(Nat→AO)),(∀j,i≤j→j < i+es.length→D j=D' j)→apD ops es i D s=apD ops es i D' s
 | [],_,_,_,_,_=>rfl
 | e :: es,i,D,D',s,h=>by
  simp only [apD];rw [h i (vrj _) (by simp)];exact qo2 ops es (i+1) D D' _ fun j h1 h2=>h j (by omega) (by simp only [vsv];omega)
theorem vbq {C:Cx} {ops:Array Oper} {es:List Evt} {s0:(Nat→AV)×(Nat→AO)} {Q:Exit→Act→World→Prop} (hch:qs7 C ops es 0 s0) (hsl:qgm ops=true) (hev:qr4 ops es=true)
  (hQ:∀a w inj,SRf C (apD ops es 0 (fun _=>true) s0).1 (apD ops es 0 (fun _=>true) s0).2 inj a w→Q .normal a w) :
  ∀(fuel:Nat) (listed:Array Bool) (a:Act) (w:World) (inj:Inj),listed.size=ops.size→qv6 ops (fun j=>listed.getD j false)→(listed.toList.filter (! ·)).length≤fuel →
   SRf C (apD ops es 0 (fun j=>listed.getD j false) s0).1 (apD ops es 0 (fun j=>listed.getD j false) s0).2 inj a w→wpAny C.P .any ops Q fuel listed a w:=by
 have hlen:es.length=ops.size:=by have:=hch.len (vtq _);omega
 -- nothing ready means all is listed
 have done:∀(listed:Array Bool) (a:Act) (w:World) (inj:Inj),listed.size=ops.size→Region.ready .any ops listed=[] →
   SRf C (apD ops es 0 (fun j=>listed.getD j false) s0).1 (apD ops es 0 (fun j=>listed.getD j false) s0).2 inj a w→Q .normal a w:=by
  intro listed a w inj hsz hr hs;have all:∀j,j < ops.size→listed.getD j false=true:=by
   intro j
   induction j using vtn with
   | _ j ih =>
    intro hj;by_cases hl:listed.getD j false=true
    ·exact hl
    ·have:j∈Region.ready .any ops listed:=by
      refine mem_ready.2 ⟨getD_in (by omega) (by simpa using hl),ops[j],by simp [hj],fun e he hb=>?_⟩;have hp:e.on∈qc7 ops j:=by
       unfold qc7;simp only [hj,getElem?_pos];exact vtb.2 ⟨e,vta.2 ⟨by simpa using he,hb⟩,rfl⟩
      have hlt:=qhz hsl hj _ hp;exact ih _ hlt (by omega)
     rw [hr] at this;cases this
  rw [qo2 ops es 0 _ (fun _=>true) s0 fun j _ h2=>all j (by omega)] at hs;exact hQ a w inj hs
 intro fuel
 induction fuel with
 | zero =>
  intro listed a w inj hsz hcl hf hs;have hr:Region.ready .any ops listed=[]:=by
   cases hrd:Region.ready .any ops listed with
   | nil=>rfl
   | cons i _ =>
    exfalso;have hi:i∈Region.ready .any ops listed:=by rw [hrd];exact vs9
    obtain ⟨h0,o,ho,_⟩:=mem_ready.1 hi;have hlt:=(vpf.1 ho).1;have hm:listed[i]'(by omega)∈listed.toList:=by simp
    have h0':listed[i]'(by omega)=false:=by simpa [show i < listed.size by omega] using h0
    have:listed[i]'(by omega)∈listed.toList.filter (! ·):=vta.2 ⟨hm,by rw [h0'];rfl⟩;have:0 < (listed.toList.filter (! ·)).length:=vsy this;omega
  exact ⟨hr,done listed a w inj hsz hr hs⟩
 | succ fuel ih =>
  intro listed a w inj hsz hcl hf hs;refine ⟨fun hr=>done listed a w inj hsz hr hs,fun i hi=>?_⟩;obtain ⟨h0,o,ho,hpre⟩:=mem_ready.1 hi;have hlt:=(vpf.1 ho).1;have hoi:ops[i]=o:=(vpf.1 ho).2;have h0f:listed.getD i false=false:=getD_both h0;have hpre':∀m∈qc7 ops i,listed.getD m false=true:=by
   intro m hm;unfold qc7 at hm;rw [ho] at hm;obtain ⟨e,he,rfl⟩:=vtb.1 hm;obtain ⟨he1,he2⟩:=vta.1 he;exact hpre e (by simpa using he1) he2
  obtain ⟨e,he⟩:∃e,es[i]?=some e:=⟨es[i],by simp [hlen,hlt]⟩;obtain ⟨o',ho',hst⟩:=hch.at i e (vtq _) (by simpa using he);have:o'=o:=vtu (ho'.symm.trans ho);subst this
  -- which are listed,compared with the text's order
  have cmpSlot:∀t∈o'.looksAt ops,(apD ops es 0 (fun j=>listed.getD j false) s0).1 t=(apD ops es 0 (fun m=>decide (m < i)) s0).1 t:=by
   intro t ht;refine qxi ops t es 0 _ _ s0 s0 rfl fun j _ hj hd=>?_
   obtain ⟨oj,hoj⟩:∃oj,ops[j]?=some oj:=⟨ops[j]'(by omega),by simp [show j < ops.size by omega]⟩;rw [hoj] at hd;simp only [vrv] at hd;rcases vtk j i with hji | hji | hji
   ·simp only [hji,decide_true];rcases qep hsl hji hoj ho with hr | hr
    ·exact hr.ready (D:=fun j=>listed.getD j false) hcl hpre'
    ·exact absurd ht ((Oper.apart_spec hr).1 t hd)
   ·subst hji;simpa using h0f
   ·have:decide (j < i)=false:=by simp;omega
    rw [this];rcases qep hsl hji ho hoj with hr | hr
    ·by_cases hl:listed.getD j false=true
     ·have:=hr.closed (D:=fun j=>listed.getD j false) hcl hl;simp only [h0f] at this;cases this
     ·simpa using hl
    ·exact absurd ht ((Oper.apart_spec hr).2.2 t hd)
  have cmpLoc:∀l∈e.reads,(apD ops es 0 (fun j=>listed.getD j false) s0).2 l=(apD ops es 0 (fun m=>decide (m < i)) s0).2 l:=by
   intro l hl;refine q1u ops l es 0 _ _ s0 s0 rfl fun j ej _ hej hw=>?_
   simp only [vrt] at hej;have hjn:j < ops.size:=by have:=(vqf.1 hej).1;omega
   rcases vtk j i with hji | hji | hji
   ·simp only [hji,decide_true];rcases qjt hev hji hlt hej he with hr | hr
    ·exact hr.ready (D:=fun j=>listed.getD j false) hcl hpre'
    ·exact absurd hl (hr.1 l hw).1
   ·subst hji;simpa using h0f
   ·have:decide (j < i)=false:=by simp;omega
    rw [this];rcases qjt hev hji hjn he hej with hr | hr
    ·by_cases hl':listed.getD j false=true
     ·have:=hr.closed (D:=fun j=>listed.getD j false) hcl hl';simp only [h0f] at this;cases this
     ·simpa using hl'
    ·exact absurd hl (hr.2 l hw)
  have hst':=hst.frame cmpSlot cmpLoc;obtain ⟨hdst,hst'⟩:=hst';have hjoin:=qxj ops i e es 0 (fun j=>listed.getD j false) s0 (vtq _) (by simpa using he) h0f (by
   intro j ej hij hej hD;simp only [vrt] at hej;have hjn:j < ops.size:=by have:=(vqf.1 hej).1;omega
   obtain ⟨oj,hoj⟩:∃oj,ops[j]?=some oj:=⟨ops[j]'(by omega),by simp [show j < ops.size by omega]⟩;have nr:¬Reach ops j i:=fun hr=>by
    have:=hr.closed (D:=fun j=>listed.getD j false) hcl hD;simp only [h0f] at this;cases this
   constructor
   ·rcases qep hsl hij ho hoj with hr | hr
    ·exact (nr hr).elim
    ·rw [hoj,ho];simp only [vrv];cases hd:oj.dst with
     | none=>exact .inl rfl
     | some d =>
      refine .inr fun hh=>?_
      exact (Oper.apart_spec hr).2.1 d hh.symm hd
   ·rcases qjt hev hij hjn he hej with hr | hr
    ·exact (nr hr).elim
    ·cases hw:ej.wr with
     | none=>exact .inl rfl
     | some l =>
      refine .inr fun hh=>?_
      exact (hr.1 l hh.symm).2 hw)
  have hD':apD ops es 0 (fun j=>(listed.setIfInBounds i true).getD j false) s0=apD ops es 0 (fun j=>j == i || listed.getD j false) s0:=by
   refine qo2 ops es 0 _ _ s0 fun j _ hj=>?_
   by_cases hji:i=j
   ·subst hji;simp [hsz,hlt]
   ·rw [getD_set_ne false hji];have:(j == i)=false:=by simp;omega
    simp [this]
  have next:∀a' w' inj',SRf C (qkf (apD ops es 0 (fun j=>listed.getD j false) s0).1 o'.dst e.v) (upd (apD ops es 0 (fun j=>listed.getD j false) s0).2 e.u) inj' a' w' →
    wpAny C.P .any ops Q fuel (listed.setIfInBounds i true) a' w':=by
   intro a' w' inj' hs';refine ih (listed.setIfInBounds i true) a' w' inj' (by simp [hsz]) ?_ ?_ ?_
   ·intro j hj m hm;by_cases hji:i=j
    ·subst hji;exact getD_set_true (hpre' m hm)
    ·have hj':(listed.setIfInBounds i true).getD j false=true:=hj;rw [getD_set_ne false hji] at hj';exact getD_set_true (hcl j hj' m hm)
   ·have hli:listed[i]?=some false:=by
     have:i < listed.size:=by omega
     simp [this] at h0f ⊢;exact h0f
    have key:∀(l:List Bool) (i:Nat),l[i]?=some false→((l.set i true).filter (! ·)).length+1=(l.filter (! ·)).length:=by
     intro l
     induction l with
     | nil=>intro i h;simp at h
     | cons b l ihl =>
      intro i h;cases i with
      | zero=>simp at h;subst h;simp
      | succ i =>
       simp only [vss] at h;have:=ihl i h;cases b <;> simp [this] <;> omega
    have:=key listed.toList i (by simpa using hli);rw [vsc];omega
   ·rw [hD',hjoin,ho];exact hs'
  unfold wpOp;rw [ho];simp only;rcases hst' with ⟨hg,hdo⟩ | ⟨hg,rfl⟩
  ·rw [qhq hs hg];simp only [if_true];exact .inl (hdo.sound hs hdst next)
  ·rw [qhq hs hg];simp only [vps,if_false];exact next _ _ inj (hs.put (u:=none) hdst hs.hr (Ev.refl _ _ _ _) ⟨[],rfl,rfl⟩)
def qpt {α β:Type} (f:α→L β) (σ:Nat→AO):Option α→List Nat
 | some a=>(f a).reads σ
 | none=>[]
theorem qu9 {α β:Type} (f:α→L β) (σ:Nat→AO) (a:α):qpt f σ (some a)=(f a).reads σ:=rfl
theorem qva {α β:Type} (f:α→L β) (σ:Nat→AO):qpt f σ none=[]:=rfl
theorem L.reads_ret {α:Type} (a:α) (σ):(L.ret a).reads σ=[]:=rfl
theorem L.reads_fail {α:Type} (σ):(L.fail:L α).reads σ=[]:=rfl
theorem L.reads_look {α:Type} (l k σ):(L.look l k:L α).reads σ=l :: (k (σ l)).reads σ:=rfl
theorem L.reads_bind {α β:Type} (m:L α) (f:α→L β) (σ):(m.bind f).reads σ=m.reads σ++qpt f σ (m.run σ):=by
 induction m with
 | ret a=>rfl
 | look l k ih=>simp only [L.bind,L.reads,L.run,ih (σ l),vso]
 | fail=>rfl
theorem L.reads_ofOpt {α:Type} (o:Option α) (σ):(L.ofOpt o).reads σ=[]:=by cases o <;> rfl
theorem qzi (m:L AV) (σ):(qa1 m).reads σ=m.reads σ:=by
 unfold qa1;rw [L.reads_bind];cases m.run σ <;> simp [qpt,L.reads]
variable {C:Cx} {Q:Exit→St→Prop}
inductive DCh (C:Cx) (ops:Array Oper):List Oper→St→List Evt→St→Prop
 | nil {st}:DCh C ops [] st [] st
 | cons {o rest st e es st'} (hd:qba C.N o=true) (h:(qaq ops st.env o=some true∧Does C o (ev st.env) st.sig e)∨(qaq ops st.env o=some false∧e=⟨.p (.tup []),none,[]⟩))
   (hr:DCh C ops rest ⟨qd7 st.env o.dst e.v,qm9 st.heap e.u⟩ es st'):DCh C ops (o :: rest) st (e :: es) st'
theorem qjk (env:Env) (d:Option Tmp) (v:AV):Env.get (qd7 env d v)=qkf env.get d v:=by
 funext t;cases d with
 | none=>simp [qd7,qkf]
 | some d=>simp [qd7,qkf,Env.get]
theorem DCh.chain {ops:Array Oper} {l:List Oper} {st:St} {es:List Evt} {st':St} (h:DCh C ops l st es st'):∀i,(∀j,ops[i+j]?=l[j]?) →
  qs7 C ops es i (st.env.get,st.sig)∧apD ops es i (fun _=>true) (st.env.get,st.sig)=(st'.env.get,st'.sig):=by
 induction h with
 | nil =>
  intro i hi;refine ⟨?_,rfl⟩;have:=hi 0;simp only [vrf,vsu] at this;simp only [qs7];exact Array.getElem?_eq_none_iff.1 this
 | @cons o rest st e es st' hd h hr ih =>
  intro i hi;have h0:ops[i]?=some o:=by have:=hi 0;simpa using this
  obtain ⟨h1,h2⟩:=ih (i+1) (fun j=>by have:=hi (j+1);rw [show i+1+j=i+(j+1) by omega,this];simp);have e1:((qkf st.env.get ((ops[i]?).bind (·.dst)) e.v,upd st.sig e.u):(Nat→AV)×(Nat→AO))=((⟨qd7 st.env o.dst e.v,qm9 st.heap e.u⟩:St).env.get,(⟨qd7 st.env o.dst e.v,qm9 st.heap e.u⟩:St).sig):=by
   rw [h0];simp only [vrv,qjk,St.sig,qna]
  refine ⟨⟨⟨o,h0,hd,?_⟩,?_⟩,?_⟩
  ·rw [qq2,qlr];exact h
  ·rw [e1];exact h1
  ·simp only [apD,if_true];rw [e1];exact h2
theorem q76 {id:Nat} {l:List Oper} {st st':St} {es:List Evt} (hm:C.P.follows .mixedOrders=true) (hch:DCh C l.toArray l st es st') (hsl:qgm l.toArray=true) (hev:qr4 l.toArray es=true)
  (h:Q .normal st'):AWp C (.region id l.toArray true) Q st:=by
 intro inj a w hs;obtain ⟨h1,h2⟩:=hch.chain 0 (fun j=>by simp);refine wp_region_any hm ?_;have hf:Fr C.D w { w with drawn:=w.drawn+1 }:=⟨rfl,rfl,rfl,fun _=>vrk _,vrj _,fun _ _=>rfl,fun _ _=>rfl⟩;have hE:Ev C.D C.X inj st.sig w inj st.sig { w with drawn:=w.drawn+1 }:=hf.ev;refine vbq h1 hsl hev ?_ _ _ _ _ inj (by simp) ?_ ?_ ?_
 ·intro a' w' inj' hs';rw [h2] at hs';exact ⟨st',inj',⟨hs'.env,hs'.size,hs'.defers,hs'.hr,hs'.ev⟩,h⟩
 ·intro j hj;simp only [getD_replicate_false] at hj;cases hj
 ·refine vrl (vsx _ _) (by simp)
 ·rw [qo2 l.toArray es 0 _ (fun _=>false) _ fun j _ _=>getD_replicate_false _ _];have hnone:∀(es:List Evt) (i:Nat) (s:(Nat→AV)×(Nat→AO)),apD l.toArray es i (fun _=>false) s=s:=by
   intro es
   induction es with
   | nil=>intro i s;rfl
   | cons e es ih=>intro i s;simp only [apD,vps,if_false];exact ih (i+1) s
  rw [hnone];exact ⟨fun t=>AR.ev hE hs.hr.xlt _ _ (hs.env t),hs.size,hs.defers,hs.hr.fr hf,hs.ev.trans hE⟩
def qs8 (m:L (AV×Upd)) (σ:Nat→AO):Option Bool→List Nat
 | some true=>m.reads σ
 | _=>[]
theorem qzj (m:L (AV×Upd)) (σ):qs8 m σ (some true)=m.reads σ:=rfl
theorem qxk (m:L (AV×Upd)) (σ):qs8 m σ (some false)=[]:=rfl
def qis (P:Program) (N B:Nat) (ops:Array Oper):List Oper→St→List Evt→List Evt×St×List Oper
 | [],st,acc=>(acc,st,[])
 | o :: rest,st,acc =>
  match go1 P N B ops o st with
  | .on v u=>qis P N B ops rest ⟨qd7 st.env o.dst v,qm9 st.heap u⟩ (⟨v,u,qs8 (aop P B (ev st.env) o) st.sig (qaq ops st.env o)⟩ :: acc)
  | .stop=>(acc,st,o :: rest)
def qv7 (P:Program) (N B:Nat) (ops:Array Oper) (o:Oper) (rest:List Oper) (st:St) (acc:List Evt):Go1→List Evt×St×List Oper
 | .on v u=>qis P N B ops rest ⟨qd7 st.env o.dst v,qm9 st.heap u⟩ (⟨v,u,qs8 (aop P B (ev st.env) o) st.sig (qaq ops st.env o)⟩ :: acc)
 | .stop=>(acc,st,o :: rest)
theorem q1v (P:Program) (N B:Nat) (ops:Array Oper) (st:St) (acc:List Evt):qis P N B ops [] st acc=(acc,st,[]):=rfl
theorem qnf (P:Program) (N B:Nat) (ops:Array Oper) (o:Oper) (rest:List Oper) (st:St) (acc:List Evt):qis P N B ops (o :: rest) st acc=qv7 P N B ops o rest st acc (go1 P N B ops o st):=by
 simp only [qis,qv7]
theorem qs9 (P:Program) (N B:Nat) (ops:Array Oper) (o:Oper) (rest:List Oper) (st:St) (acc:List Evt) (v:AV) (u:Upd):qv7 P N B ops o rest st acc (.on v u) =
  qis P N B ops rest ⟨qd7 st.env o.dst v,qm9 st.heap u⟩ (⟨v,u,qs8 (aop P B (ev st.env) o) (qcq st.heap) (qaq ops st.env o)⟩ :: acc):=rfl
theorem q1w (P:Program) (N B:Nat) (ops:Array Oper) (o:Oper) (rest:List Oper) (st:St) (acc:List Evt):qv7 P N B ops o rest st acc .stop=(acc,st,o :: rest):=rfl
def DGo (C:Cx) (ops:Array Oper) (l:List Oper) (st:St) (acc:List Evt) (K:List Evt→St→Prop):Prop :=
 ∃es st',DCh C ops l st es st'∧K (acc.reverse++es) st'
theorem DGo.one {ops:Array Oper} {o:Oper} {rest:List Oper} {st:St} {acc:List Evt} {K:List Evt→St→Prop} {e:Evt} (hd:qba C.N o=true)
  (h:(qaq ops st.env o=some true∧Does C o (ev st.env) st.sig e)∨(qaq ops st.env o=some false∧e=⟨.p (.tup []),none,[]⟩))
  (hr:DGo C ops rest ⟨qd7 st.env o.dst e.v,qm9 st.heap e.u⟩ (e :: acc) K):DGo C ops (o :: rest) st acc K:=by
 obtain ⟨es,st',h1,h2⟩:=hr;refine ⟨e :: es,st',.cons hd h h1,?_⟩;simpa using h2
theorem DGo.run {ops:Array Oper} {K:List Evt→St→Prop}:∀(l:List Oper) (st:St) (acc:List Evt) {acc':List Evt} {st':St} {l':List Oper},qis C.P C.N C.B ops l st acc=(acc',st',l')→DGo C ops l' st' acc' K→DGo C ops l st acc K
 | [],st,acc,acc',st',l',hr,h=>by
  simp only [qis,vr2] at hr;obtain ⟨rfl,rfl,rfl⟩:=hr;exact h
 | o :: rest,st,acc,acc',st',l',hr,h=>by
  rw [qnf] at hr;cases hg:go1 C.P C.N C.B ops o st with
  | stop =>
   rw [hg] at hr;simp only [qv7,vr2] at hr;obtain ⟨rfl,rfl,rfl⟩:=hr;exact h
  | on v u =>
   rw [hg,qs9] at hr;have hrec:=DGo.run rest _ _ hr h;unfold go1 at hg;split at hg
   case isFalse=>cases hg
   rename_i hd;split at hg
   ·rename_i hgd;split at hg
    ·rename_i v' u' hrun;cases hg;refine DGo.one hd (.inl ⟨hgd,.op hrun⟩) ?_;rw [hgd] at hrec;exact hrec
    ·cases hg
   ·rename_i hgd;cases hg;refine DGo.one hd (.inr ⟨hgd,rfl⟩) ?_;rw [hgd] at hrec;exact hrec
   ·cases hg
theorem qjl (env:Env) (f:Operand) (args:List Operand):qd8 (ev env) f args=qcg env f args:=by
 unfold qd8 qcg;rfl
theorem DGo.call {ops:Array Oper} {K:List Evt→St→Prop} {d:Option Tmp} {f:Operand} {args:Array Operand} {ats:Array TypeId} {ty:TypeId} {pos:String} {af:Array Edge} {rest:List Oper} {st:St} {acc:List Evt}
  {k:FuncId} {avs:List AV} {pargs:List PV} {r:PV} {rs:List Nat}
  (hp:ven C.D C.P k pargs r) (hd:qba C.N ⟨d,.call ⟨.value f,args,ats⟩,ty,pos,af,none⟩=true) (hk:HasBody C.P k)
  (hc:qcg st.env f args.toList=some (k,avs)) (hv:(qau (qdx (fun _=>true) 9) avs).run (qcq st.heap)=some pargs) (hrs:(qau (qdx (fun _=>true) 9) avs).reads (qcq st.heap)=rs)
  (hfl:(ql7 avs).isSome=true∨r.flat=true)
  (h:DGo C ops rest ⟨qd7 st.env d (.p r),st.heap⟩ (⟨.p r,none,rs⟩ :: acc) K):DGo C ops (⟨d,.call ⟨.value f,args,ats⟩,ty,pos,af,none⟩ :: rest) st acc K:=by
 subst hrs;refine DGo.one hd (.inl ⟨rfl,.call hp rfl hk (by rw [qjl];exact hc) hv hfl⟩) ?_;exact h
theorem DGo.built {ops:Array Oper} {K:List Evt→St→Prop} {o:Oper} {t:TypeId} {len:Nat} {qap:Array (Nat×Operand)} {rest:List Oper} {st st':St} {acc:List Evt} {v:AV} {u:Upd} {x:PV} {k:Nat} {r1 r2:List Nat}
  (ho:o.op=.buildSlice t len qap) (hg:qaq ops st.env o=some true) (hd:qba C.N o=true) (hk:qhl C.B o=k)
  (hr:(aop C.P C.B (ev st.env) o).run (qcq st.heap)=some (v,u)) (h1:(aop C.P C.B (ev st.env) o).reads (qcq st.heap)=r1)
  (hv:(qdx (fun l=>l == k) 9 v).run (qcq (qm9 st.heap u))=some x) (h2:(qdx (fun l=>l == k) 9 v).reads (qcq (qm9 st.heap u))=r2)
  (hs:(⟨qd7 st.env o.dst (.p x),st.heap⟩:St)=st') (h:DGo C ops rest st' (⟨.p x,none,r1++r2⟩ :: acc) K):DGo C ops (o :: rest) st acc K:=by
 subst hk;subst h1;subst h2;subst hs;rw [qna] at hv;refine DGo.one hd (.inl ⟨hg,.built ho hr hv⟩) ?_;rw [qna] at h;exact h
theorem DGo.cloned {ops:Array Oper} {K:List Evt→St→Prop} {o:Oper} {f:Operand} {args:Array Operand} {ats:Array TypeId} {rest:List Oper} {st st':St} {acc:List Evt} {c:FuncId} {e sz by' g k n:Nat} {xs:List PV}
  (S:Cln C.P c e sz by') (hw:¬C.D) (ho:o.op=.call ⟨.value f,args,ats⟩) (hgd:qaq ops st.env o=some true) (hd:qba C.N o=true) (hk:qhl C.B o=k)
  (hc:qcg st.env f args.toList=some (c,[.p (.slc xs)])) (hel:(xs.map AV.p).all (qd0 sz)=true) (hn:xs.length≤maxLen) (hby:xs.length * by'≤140737488355328) (hg:qcq st.heap k=.dead g) (hl:xs.length=n)
  (hs:(⟨qd7 st.env o.dst (.own k (g+1) 0 n),qw9 st.heap k (.arr e sz (g+1) (xs.map AV.p))⟩:St)=st')
  (h:DGo C ops rest st' (⟨.own k (g+1) 0 n,some (k,.arr e sz (g+1) (xs.map AV.p)),[k]⟩ :: acc) K):DGo C ops (o :: rest) st acc K:=by
 subst hk;subst hs;subst hl;refine DGo.one hd (.inl ⟨hgd,.cloned S hw ho (by rw [qjl];exact hc) hel hn hby hg⟩) ?_;exact h
theorem DGo.ext {ops:Array Oper} {K:List Evt→St→Prop} {o:Oper} {rest:List Oper} {st st':St} {acc:List Evt} {v:AV} {u:Upd} {rs:List Nat}
  (hO:OpU C.D C.P o (ev st.env) (qcq st.heap) v u rs) (hgd:qaq ops st.env o=some true) (hd:qba C.N o=true) (hs:(⟨qd7 st.env o.dst v,qm9 st.heap u⟩:St)=st')
  (h:DGo C ops rest st' (⟨v,u,rs⟩ :: acc) K):DGo C ops (o :: rest) st acc K:=by
 subst hs;exact DGo.one hd (.inl ⟨hgd,.ext hO⟩) h
theorem DGo.done {ops:Array Oper} {K:List Evt→St→Prop} {st:St} {acc:List Evt} (h:K acc.reverse st):DGo C ops [] st acc K:=⟨[],st,.nil,by simpa using h⟩
attribute [go_sem] qu9 qva L.reads_ret L.reads_fail L.reads_look L.reads_bind L.reads_ofOpt qzi qzj qxk q1v qnf qs9 q1w
end Go.Ab
namespace Go.Ab
variable {D:Prop}
open Go
def vl5:Op→Bool
 | .call ⟨.value _,_,_⟩=>true
 | _=>false
def vl6:List Oper→List Oper→List Oper×List Oper
 | [],acc=>(acc.reverse,[])
 | o :: r,acc=>match o.guard.isNone && !vl5 o.op with
  | true=>vl6 r (o :: acc)
  | false=>(acc.reverse,o :: r)
def spl (l:List Oper):List Oper×List Oper:=vl6 l []
theorem qta:∀l acc:List Oper,(vl6 l acc).1++(vl6 l acc).2=acc.reverse++l
 | [],acc=>rfl
 | o :: r,acc=>by
  simp only [vl6];split
  ·rw [qta r];simp
  ·rfl
theorem qv8 (l:List Oper):(spl l).1++(spl l).2=l:=qta l []
variable {C:Cx} {Q:Exit→St→Prop} {st:St}
theorem qjm {ops:Array Oper} {l2:List Oper} {st':St} (h:AL C ops l2 Q st'):∀(l:List Oper) (st:St),qmq C.P C.N C.B ops l st=(st',[])→AL C ops (l++l2) Q st
 | [],st,hr=>by
  simp only [qmq,vr2,and_true] at hr;subst hr;exact h
 | o :: rest,st,hr=>by
  rw [qsz] at hr;cases hg:go1 C.P C.N C.B ops o st with
  | stop=>rw [hg] at hr;simp [q7f] at hr
  | on v u =>
   rw [hg,q3b] at hr;unfold go1 at hg;split at hg
   case isFalse=>cases hg
   rename_i hd;split at hg
   ·rename_i hgd;split at hg
    ·rename_i v' u' hrun;cases hg;exact vld hgd hd (q3a C.B o (ev st.env)) hrun (qjm h rest _ hr)
    ·cases hg
   ·rename_i hgd;cases hg;exact q1l hgd hd (qjm h rest _ hr)
   ·cases hg
theorem qxl {ops:Array Oper} {o:Oper} {l l1 l2:List Oper} {st':St} (hs:spl l=(o :: l1,l2)) (hr:qmq C.P C.N C.B ops (o :: l1) st=(st',[])) (h:AL C ops l2 Q st'):AL C ops l Q st:=by
 have e:=qv8 l;rw [hs] at e;rw [←e];exact qjm h _ _ hr
theorem AL_gt {ops:Array Oper} {o:Oper} {rest:List Oper} {v:AV} {u:Upd} (hg:qaq ops st.env o=some true) (hd:qba C.N o=true)
  (hr:(aop C.P C.B (ev st.env) o).run (qcq st.heap)=some (v,u)) (h:AL C ops rest Q ⟨qd7 st.env o.dst v,qm9 st.heap u⟩):AL C ops (o :: rest) Q st :=
 vld hg hd (q3a C.B o (ev st.env)) hr h
def qtb (ops:Array Oper) (o:Oper):Option Nat:=o.guard.bind fun g=>(ops[g.1]?).bind (·.dst)
theorem qzk (env:Env) {d:Nat} {v:AV} (h:env.get d=v):Env.get ((d,v) :: env)=env.get:=by
 funext t;simp only [Env.get];split
 ·rename_i e;subst e;exact h.symm
 ·rfl
theorem SR.known {inj:Inj} {a:Act} {w:World} {env:Env} {hp:List (Nat×AO)} {d:Nat} {v:AV} (h:env.get d=v) (hs:SR C ⟨env,hp⟩ inj a w):SR C ⟨(d,v) :: env,hp⟩ inj a w :=
 ⟨fun t=>by have:=hs.env t;rw [qzk env h];exact this,hs.size,hs.defers,hs.hr,hs.ev⟩
theorem DGo.append {ops:Array Oper} {K:List Evt→St→Prop} {l2:List Oper} {acc':List Evt} {st':St} (h:DGo C ops l2 st' acc' K):∀(l:List Oper) (st:St) (acc:List Evt),qis C.P C.N C.B ops l st acc=(acc',st',[])→DGo C ops (l++l2) st acc K
 | [],st,acc,hr=>by
  simp only [qis,vr2,and_true] at hr;obtain ⟨rfl,rfl⟩:=hr;exact h
 | o :: rest,st,acc,hr=>by
  rw [qnf] at hr;cases hg:go1 C.P C.N C.B ops o st with
  | stop=>rw [hg] at hr;simp [qv7] at hr
  | on v u =>
   rw [hg,qs9] at hr;have hrec:=DGo.append h rest _ _ hr;unfold go1 at hg;split at hg
   case isFalse=>cases hg
   rename_i hd;split at hg
   ·rename_i hgd;split at hg
    ·rename_i v' u' hrun;cases hg;refine DGo.one hd (.inl ⟨hgd,.op hrun⟩) ?_;rw [hgd] at hrec;exact hrec
    ·cases hg
   ·rename_i hgd;cases hg;refine DGo.one hd (.inr ⟨hgd,rfl⟩) ?_;rw [hgd] at hrec;exact hrec
   ·cases hg
theorem DGo.upto {ops:Array Oper} {K:List Evt→St→Prop} {o:Oper} {l l1 l2:List Oper} {acc acc':List Evt} {st':St} (hs:spl l=(o :: l1,l2)) (hr:qis C.P C.N C.B ops (o :: l1) st acc=(acc',st',[]))
  (h:DGo C ops l2 st' acc' K):DGo C ops l st acc K:=by
 have e:=qv8 l;rw [hs] at e;rw [←e];exact DGo.append h _ _ _ hr
theorem DGo.gt {ops:Array Oper} {K:List Evt→St→Prop} {o:Oper} {rest:List Oper} {acc:List Evt} {v:AV} {u:Upd} {rs:List Nat} (hg:qaq ops st.env o=some true) (hd:qba C.N o=true)
  (hr:(aop C.P C.B (ev st.env) o).run (qcq st.heap)=some (v,u)) (hrs:(aop C.P C.B (ev st.env) o).reads (qcq st.heap)=rs) (h:DGo C ops rest ⟨qd7 st.env o.dst v,qm9 st.heap u⟩ (⟨v,u,rs⟩ :: acc) K):DGo C ops (o :: rest) st acc K:=by
 subst hrs;exact DGo.one hd (.inl ⟨hg,.op hr⟩) h
theorem DGo.gf {ops:Array Oper} {K:List Evt→St→Prop} {o:Oper} {rest:List Oper} {acc:List Evt} (hg:qaq ops st.env o=some false) (hd:qba C.N o=true)
  (h:DGo C ops rest ⟨qd7 st.env o.dst (.p (.tup [])),st.heap⟩ (⟨.p (.tup []),none,[]⟩ :: acc) K):DGo C ops (o :: rest) st acc K :=
 DGo.one hd (.inr ⟨hg,rfl⟩) h
theorem Does.env {o:Oper} {ρ:Operand→AV} {ρ':Operand→AV} {σ:Nat→AO} {e:Evt} (h:Does C o ρ σ e) (he:ρ'=ρ):Does C o ρ' σ e:=he ▸ h
theorem DCh.known {ops:Array Oper} {l:List Oper} {es:List Evt} {st st' st1:St} (h:DCh C ops l st1 es st') (hg:st1.env.get=st.env.get) (hh:st1.heap=st.heap):∃st'',DCh C ops l st es st''∧st'.env.get=st''.env.get∧st'.heap=st''.heap:=by
 induction h generalizing st with
 | nil=>exact ⟨st,.nil,hg,hh⟩
 | @cons o rest st1 e es st' hd h hr ih =>
  obtain ⟨st'',h1,h2⟩:=ih (st:=⟨qd7 st.env o.dst e.v,qm9 st.heap e.u⟩) (by simp only [qjk,hg]) (by simp only [hh]);have e1:ev st1.env=ev st.env:=by rw [←qq2,←qq2,hg]
  have e2:qaq ops st1.env o=qaq ops st.env o:=by rw [←qlr,←qlr,hg]
  refine ⟨st'',.cons hd ?_ h1,h2⟩;rw [e1,e2,show st1.sig=st.sig from congrArg qcq hh] at h;exact h
def DK (C:Cx) (l:Array Oper) (Q:Exit→St→Prop):List Evt→St→Prop:=fun es st'=>qr4 l es=true∧∀inj a w,SR C st' inj a w→vbe C Q .normal a w
theorem DK.congr {l:Array Oper} (es:List Evt) (s s':St) (h1:s.env.get=s'.env.get) (h2:s.heap=s'.heap) (h:DK C l Q es s):DK C l Q es s':=by
 refine ⟨h.1,fun inj a w hs=>h.2 inj a w ?_⟩;obtain ⟨e,hp⟩:=s;obtain ⟨e',hp'⟩:=s';simp only at h1 h2;subst h2;exact ⟨fun t=>by show AR _ _ _ _ (e.get t) _;rw [h1];exact hs.env t,hs.size,hs.defers,hs.hr,hs.ev⟩
theorem qvb {id:Nat} {l:List Oper} (hm:C.P.follows .mixedOrders=true) (hsl:qgm l.toArray=true) (h:DGo C l.toArray l st [] (DK C l.toArray Q)):AWp C (.region id l.toArray true) Q st:=by
 obtain ⟨es,st',h1,h2⟩:=h;have h3:AWp C (.region id l.toArray true) (fun e s=>e=.normal∧s=st') st:=q76 hm h1 hsl (by simpa using h2.1) ⟨rfl,rfl⟩;intro inj a w hs;refine wp_mono (h3 inj a w hs) ?_;rintro e a' w' ⟨s,i,k1,rfl,rfl⟩;exact h2.2 i a' w' k1
theorem DGo.fin {l:Array Oper} {acc:List Evt} (hev:qr4 l acc.reverse=true) (h:Q .normal st):DGo C l [] st acc (DK C l Q):=DGo.done ⟨hev,fun inj a w hs=>⟨st,inj,hs,h⟩⟩
structure Con (D:Prop) (P:Program) (k:FuncId) (args:List PV) (r:PV):Prop where
 body:HasBody P k
 pure:ven D P k args r
theorem Con.of {P:Program} {k:FuncId} {args:List PV} {r r':PV} (h:Con D P k args r) (e:r=r'):Con D P k args r':=e ▸ h
theorem vl7 {ops:Array Oper} {o:Oper} {rest:List Oper} {f:Operand} {args:Array Operand} {ats:Array TypeId} {k:FuncId} {avs:List AV} {pargs:List PV} {r:PV}
  (ho:o.op=.call ⟨.value f,args,ats⟩) (hg:qaq ops st.env o=some true) (hd:qba C.N o=true)
  (hc:qcg st.env f args.toList=some (k,avs)) (hv:(qau (qdx (fun _=>true) 9) avs).run (qcq st.heap)=some pargs) (hp:Con C.D C.P k pargs r) (hfl:(ql7 avs).isSome=true∨r.flat=true)
  (h:AL C ops rest Q ⟨qd7 st.env o.dst (.p r),st.heap⟩):AL C ops (o :: rest) Q st :=
 vf1 hp.pure ho hg hd hp.body hc hv hfl h
theorem DGo.con {ops:Array Oper} {K:List Evt→St→Prop} {o:Oper} {f:Operand} {args:Array Operand} {ats:Array TypeId} {rest:List Oper} {acc:List Evt}
  {k:FuncId} {avs:List AV} {pargs:List PV} {r:PV} {rs:List Nat}
  (ho:o.op=.call ⟨.value f,args,ats⟩) (hg:qaq ops st.env o=some true) (hd:qba C.N o=true)
  (hc:qcg st.env f args.toList=some (k,avs)) (hv:(qau (qdx (fun _=>true) 9) avs).run (qcq st.heap)=some pargs) (hrs:(qau (qdx (fun _=>true) 9) avs).reads (qcq st.heap)=rs)
  (hp:Con C.D C.P k pargs r) (hfl:(ql7 avs).isSome=true∨r.flat=true)
  (h:DGo C ops rest ⟨qd7 st.env o.dst (.p r),st.heap⟩ (⟨.p r,none,rs⟩ :: acc) K):DGo C ops (o :: rest) st acc K:=by
 subst hrs;exact DGo.one hd (.inl ⟨hg,.call hp.pure ho hp.body (by rw [qjl];exact hc) hv hfl⟩) h
theorem qxm {P:Program} {fn:Func} {r:PV} {s:St} {v:AV} (h1:q7g P s fn.results.toList=some v) (h2:(qdx (fun _=>true) 9 v).run s.sig=some r):vjo P fn r .ret s:=⟨.inr rfl,v,h1,h2⟩
theorem qbe {ops:Array Oper} {env:Env} {o:Oper} (h:o.guard=none):qaq ops env o=some true:=by
 unfold qaq;rw [h]
theorem q5q {ops:Array Oper} {env:Env} {o:Oper} {j d:Nat} {b:Bool} (h:o.guard=some (j,b)) (hd:qtb ops o=some d) (hv:env.get d=.p (.bool b)):qaq ops env o=some true:=by
 unfold qtb at hd;unfold qaq;rw [h] at hd ⊢;simp only [vrv] at hd;simp only [hd,hv,beq_self_eq_true]
theorem q77 {ops:Array Oper} {o:Oper} {rest:List Oper} {st':St} (hg:qaq ops st.env o=some true) (hd:qba C.N o=true)
  (hr:((aop C.P C.B (ev st.env) o).run (qcq st.heap)).map (fun vu=>(⟨qd7 st.env o.dst vu.1,qm9 st.heap vu.2⟩:St))=some st') (h:AL C ops rest Q st'):AL C ops (o :: rest) Q st:=by
 cases hx:(aop C.P C.B (ev st.env) o).run (qcq st.heap) with
 | none=>rw [hx] at hr;cases hr
 | some vu =>
  rw [hx] at hr;simp only [vr0,vr1] at hr;subst hr;exact AL_gt hg hd hx h
theorem DGo.gt' {ops:Array Oper} {K:List Evt→St→Prop} {o:Oper} {rest:List Oper} {acc:List Evt} {st':St} {e:Evt} (hg:qaq ops st.env o=some true) (hd:qba C.N o=true)
  (hr:((aop C.P C.B (ev st.env) o).run (qcq st.heap)).map (fun vu=>((⟨vu.1,vu.2,(aop C.P C.B (ev st.env) o).reads (qcq st.heap)⟩:Evt),(⟨qd7 st.env o.dst vu.1,qm9 st.heap vu.2⟩:St)))=some (e,st'))
  (h:DGo C ops rest st' (e :: acc) K):DGo C ops (o :: rest) st acc K:=by
 cases hx:(aop C.P C.B (ev st.env) o).run (qcq st.heap) with
 | none=>rw [hx] at hr;cases hr
 | some vu =>
  rw [hx] at hr;simp only [vr0,vr1,vr2] at hr;obtain ⟨rfl,rfl⟩:=hr;exact DGo.gt hg hd hx rfl h
theorem vg8 {ops:Array Oper} {o:Oper} {rest:List Oper} {f:Operand} {args:Array Operand} {ats:Array TypeId} {k:FuncId} {avs:List AV} {pargs:List PV} {r:PV} {st':St}
  (ho:o.op=.call ⟨.value f,args,ats⟩) (hg:qaq ops st.env o=some true) (hd:qba C.N o=true)
  (hc:qcg st.env f args.toList=some (k,avs)) (hv:(qau (qdx (fun _=>true) 9) avs).run (qcq st.heap)=some pargs) (hp:Con C.D C.P k pargs r) (hfl:(ql7 avs).isSome=true∨r.flat=true)
  (hs:(⟨qd7 st.env o.dst (.p r),st.heap⟩:St)=st') (h:AL C ops rest Q st'):AL C ops (o :: rest) Q st:=by
 subst hs;exact vl7 ho hg hd hc hv hp hfl h
theorem DGo.con' {ops:Array Oper} {K:List Evt→St→Prop} {o:Oper} {f:Operand} {args:Array Operand} {ats:Array TypeId} {rest:List Oper} {acc:List Evt}
  {k:FuncId} {avs:List AV} {pargs:List PV} {r:PV} {rs:List Nat} {st':St}
  (ho:o.op=.call ⟨.value f,args,ats⟩) (hg:qaq ops st.env o=some true) (hd:qba C.N o=true)
  (hc:qcg st.env f args.toList=some (k,avs)) (hv:(qau (qdx (fun _=>true) 9) avs).run (qcq st.heap)=some pargs) (hrs:(qau (qdx (fun _=>true) 9) avs).reads (qcq st.heap)=rs)
  (hp:Con C.D C.P k pargs r) (hfl:(ql7 avs).isSome=true∨r.flat=true)
  (hs:(⟨qd7 st.env o.dst (.p r),st.heap⟩:St)=st') (h:DGo C ops rest st' (⟨.p r,none,rs⟩ :: acc) K):DGo C ops (o :: rest) st acc K:=by
 subst hs;exact DGo.con ho hg hd hc hv hrs hp hfl h
theorem qb4 {ops:Array Oper} {env:Env} {o:Oper} {j d:Nat} {b b':Bool} (h:o.guard=some (j,b)) (hd:qtb ops o=some d) (hv:env.get d=.p (.bool b')) (hx:b'=b):qaq ops env o=some true :=
 q5q h hd (by rw [hv,hx])
end Go.Ab
namespace Go.Ab
open Go
variable {C:Cx} {Q:Exit→St→Prop} {st:St}
theorem vg9 {ops:Array Oper} {d:Option Tmp} {k:FuncId} {x y:Operand} {ats:Array TypeId} {ty:TypeId} {pos:String} {af:Array Edge} {rest:List Oper} {a b:List UInt8} {r:Int}
  (hk:∀w,(callFunc k #[.string ⟨a.toArray⟩,.string ⟨b.toArray⟩]).run C.P w=.ok (.value (.int .i64 r)) w)
  (hx:ev st.env x=.p (.str a)) (hy:ev st.env y=.p (.str b)) (hd:qba C.N ⟨d,.call ⟨.value (.func k),#[x,y],ats⟩,ty,pos,af,none⟩=true)
  (h:AL C ops rest Q ⟨qd7 st.env d (.p (.int .i64 r)),st.heap⟩):AL C ops (⟨d,.call ⟨.value (.func k),#[x,y],ats⟩,ty,pos,af,none⟩ :: rest) Q st:=by
 intro inj act w hs;simp only [wpList,qbm (ops:=ops) (o:=⟨d,.call ⟨.value (.func k),#[x,y],ats⟩,ty,pos,af,none⟩) hs (qbe rfl),if_true];refine .inl ?_;have e1:=hs.eval x;have e2:=hs.eval y;rw [hx] at e1;rw [hy] at e2;simp only [AR,PR] at e1 e2;have hrun:(execOp act.eval ⟨d,.call ⟨.value (.func k),#[x,y],ats⟩,ty,pos,af,none⟩).run C.P w=.ok (.value (.int .i64 r)) w:=by
  simp only [execOp,resolve,Deferred.ofValue,Act.eval,vr5,vr6,vr3,invoke];have:(#[]++#[x,y].map act.eval++#[]:Array Value)=#[.string ⟨a.toArray⟩,.string ⟨b.toArray⟩]:=by simp [e1,e2]
  rw [show (#[]++#[x,y].map act.eval++#[]:Array Value)=#[.string ⟨a.toArray⟩,.string ⟨b.toArray⟩] from this,hk]
 unfold Oper.wp;rw [hrun];simp only [Oper.upon];exact h inj _ _ (hs.put (u:=none) hd hs.hr (Ev.refl _ _ _ _) rfl)
@[go_sem] theorem range0:vq3 0=[]:=rfl
@[go_sem] theorem range1:vq3 1=[0]:=rfl
@[go_sem] theorem range2:vq3 2=[0,1]:=rfl
@[go_sem] theorem range3:vq3 3=[0,1,2]:=rfl
@[go_sem] theorem range4:vq3 4=[0,1,2,3]:=rfl
@[go_sem] theorem range5:vq3 5=[0,1,2,3,4]:=rfl
@[go_sem] theorem range6:vq3 6=[0,1,2,3,4,5]:=rfl
@[go_sem] theorem range7:vq3 7=[0,1,2,3,4,5,6]:=rfl
@[go_sem] theorem range8:vq3 8=[0,1,2,3,4,5,6,7]:=rfl
@[go_sem] theorem range9:vq3 9=[0,1,2,3,4,5,6,7,8]:=rfl
@[go_sem] theorem range10:vq3 10=[0,1,2,3,4,5,6,7,8,9]:=rfl
@[go_sem] theorem range11:vq3 11=[0,1,2,3,4,5,6,7,8,9,10]:=rfl
@[go_sem] theorem range12:vq3 12=[0,1,2,3,4,5,6,7,8,9,10,11]:=rfl
@[go_sem] theorem range13:vq3 13=[0,1,2,3,4,5,6,7,8,9,10,11,12]:=rfl
@[go_sem] theorem range14:vq3 14=[0,1,2,3,4,5,6,7,8,9,10,11,12,13]:=rfl
@[go_sem] theorem range15:vq3 15=[0,1,2,3,4,5,6,7,8,9,10,11,12,13,14]:=rfl
@[go_sem] theorem range16:vq3 16=[0,1,2,3,4,5,6,7,8,9,10,11,12,13,14,15]:=rfl
end Go.Ab
namespace Go.Ab
open Go
inductive LS (σ τ:Type) where
 | next (s:σ)
 | done (t:τ)
section
variable {σ τ:Type}
def qo3 (B:σ→Option (LS σ τ)):Nat→σ→Option τ
 | 0,_=>none
 | n+1,s=>match B s with
  | some (.next s')=>qo3 B n s'
  | some (.done t)=>some t
  | none=>none
theorem qv9 (B:σ→Option (LS σ τ)):∀(n:Nat) (s:σ) (t:τ),qo3 B n s=some t→qo3 B (n+1) s=some t
 | 0,_,_,h=>by cases h
 | n+1,s,t,h=>by
  rw [qo3] at h ⊢;split
  ·rename_i s' hs;rw [hs] at h;exact qv9 B n s' t h
  ·rename_i t' hs;rw [hs] at h;exact h
  ·rename_i hs;rw [hs] at h;cases h
theorem q3h {B:σ→Option (LS σ τ)} {n m:Nat} {s:σ} {t:τ} (h:qo3 B n s=some t) (hm:n≤m):qo3 B m s=some t:=by
 induction hm with
 | refl=>exact h
 | step _ ih=>exact qv9 B _ s t ih
open Classical in
def qal (B:σ→Option (LS σ τ)) (s:σ):Option τ:=if h:∃t n,qo3 B n s=some t then some h.choose else none
theorem q1x {B:σ→Option (LS σ τ)} {n:Nat} {s:σ} {t:τ} (h:qo3 B n s=some t):qal B s=some t:=by
 have hx:∃t n,qo3 B n s=some t:=⟨t,n,h⟩;unfold qal;rw [dif_pos hx];obtain ⟨m,hm⟩:=hx.choose_spec;have h1:=q3h h (Nat.le_max_left n m);have h2:=q3h hm (Nat.le_max_right n m);rw [h1] at h2;exact h2.symm
theorem qtc {B:σ→Option (LS σ τ)} {s:σ} {t:τ} (h:qal B s=some t):∃n,qo3 B n s=some t:=by
 unfold qal at h;split at h
 ·rename_i hx;obtain ⟨m,hm⟩:=hx.choose_spec;simp only [vr1] at h;exact ⟨m,by rw [←h];exact hm⟩
 ·cases h
theorem qbd {B:σ→Option (LS σ τ)} {s s':σ} (h:B s=some (.next s')):qal B s=qal B s':=by
 cases h1:qal B s' with
 | some t =>
  obtain ⟨n,hn⟩:=qtc h1;exact q1x (n:=n+1) (by rw [qo3,h];exact hn)
 | none =>
  cases h2:qal B s with
  | none=>rfl
  | some t =>
   obtain ⟨n,hn⟩:=qtc h2;cases n with
   | zero=>cases hn
   | succ n =>
    rw [qo3,h] at hn;rw [q1x hn] at h1;cases h1
theorem qat {B:σ→Option (LS σ τ)} {s:σ} {t:τ} (h:B s=some (.done t)):qal B s=some t:=q1x (n:=1) (by rw [qo3,h])
end
variable {C:Cx} {Q:Exit→St→Prop} {st:St}
def Wk (C:Cx) (Q:Exit→St→Prop) (e:Exit) (s:St):Prop:=Q e s∨∃s',Le C s s'∧Q e s'
theorem Wk.now {e:Exit} {s:St} (h:Q e s):Wk C Q e s:=.inl h
theorem Wk.to {e:Exit} {s s':St} (h:Le C s s') (h':Q e s'):Wk C Q e s:=.inr ⟨s',h,h'⟩
theorem qxn {c:Code} {T:Exit→St→Prop} (h:AWp C c T st) (hq:∀e s,T e s→Wk C Q e s):AWp C c Q st:=fun inj a w hs =>
 wp_mono (h inj a w hs) fun e a w ⟨s,i,h1,h2⟩=>by
  rcases hq e s h2 with h3 | ⟨s',h3,h4⟩
  ·exact ⟨s,i,h1,h3⟩
  ·exact ⟨s',_,h3.sr h1,h4⟩
theorem vbr {x y:Code} {T:Exit→St→Prop} (h:AWp C x T st) (hq:∀e s,T e s→Wk C (qr3 (fun s=>AWp C y Q s) Q) e s):AWp C (.seq x y) Q st :=
 qmd (qxn h hq)
def LP {σ τ:Type} (C:Cx) (S:σ→St) (T:τ→Exit→St→Prop):LS σ τ→Exit→St→Prop
 | .next s',e,st'=>e=.normal∧Le C st' (S s')
 | .done t,e,st'=>T t e st'
theorem q5r {σ τ:Type} {c:Code} {B:σ→Option (LS σ τ)} {s0:σ} {t:τ} (S:σ→St) (T:τ→Exit→St→Prop) (hn:∀t s,¬T t .normal s) (hL:qal B s0=some t) (h0:Le C st (S s0))
  (round:∀s x,B s=some x→AWp C c (LP C S T x) (S s)) (post:∀e s,T t e s→Wk C Q e s):AWp C (.loop c) Q st:=by
 refine qxn (T:=T t) ?_ post;obtain ⟨n,hN⟩:=qtc hL;refine qv4 h0 (vbf (fun (g:Nat×σ) s=>qo3 B g.1 g.2=some t∧s=S g.2) (fun g=>g.1) (n,s0) ⟨hN,rfl⟩ ?_);rintro ⟨k,s⟩ st' ⟨hk,rfl⟩;simp only at hk ⊢;cases k with
 | zero=>cases hk
 | succ k =>
  rw [qo3] at hk;cases hB:B s with
  | none=>rw [hB] at hk;cases hk
  | some x =>
   rw [hB] at hk;intro inj a w hs;refine wp_mono (round s x hB inj a w hs) ?_;rintro e a w ⟨s1,i,h1,hq⟩;cases x with
   | next s' =>
    obtain ⟨rfl,hle⟩:=hq;exact ⟨S s',_,hle.sr h1,(k,s'),⟨hk,rfl⟩,vrn k⟩
   | done t' =>
    simp only [vr1] at hk;subst hk;cases e with
    | normal=>exact (hn _ _ hq).elim
    | _=>exact ⟨s1,i,h1,hq⟩
theorem vet {c:Operand} {x y:Code} (hc:ev st.env c=.p (.bool true)) (h:AWp C x Q st):AWp C (.cond c x y) Q st:=qxc hc (fun _=>h) (fun hb=>Bool.noConfusion hb)
theorem veu {c:Operand} {x y:Code} (hc:ev st.env c=.p (.bool false)) (h:AWp C y Q st):AWp C (.cond c x y) Q st:=qxc hc (fun hb=>Bool.noConfusion hb) (fun _=>h)
theorem q78 {ops:Array Oper} {l:List Oper} (n:Nat) {st':St} (hr:qmq C.P C.N C.B ops (l.take n) st=(st',[])) (h:AL C ops (l.drop n) Q st'):AL C ops l Q st:=by
 rw [←vti n l];exact qjm h _ _ hr
def idx {α:Type} (l:List α) (i:Int):Option α:=if 0≤i then l[i.toNat]? else none
theorem vbs {α:Type} {l:List α} {i:Int} {x:α} (h:idx l i=some x):0≤i∧l[i.toNat]?=some x∧i < (l.length:Int):=by
 unfold idx at h;split at h
 ·rename_i h0;refine ⟨h0,h,?_⟩;have:=(vqf.1 h).1;omega
 ·cases h
theorem q79 {α:Type} (l:List α) (k:Nat):idx l (k:Int)=l[k]?:=by simp [idx]
theorem qcr {α:Type} {l:List α} {k:Nat} {x:α} (h:l[k]?=some x):k < l.length:=(vqf.1 h).1
def qdi (n b:Nat):Bool:=decide (n * b≤140737488355328∧n≤9223372036854775807)
@[go_sem] theorem roomOk_B (P:Program) (e n:Nat):qi9 P e n=qdi n (P.bytesOf e):=rfl
theorem q8a (x:PV) (r:List AV):ql7 (.p x :: r)=(ql7 r).map (x :: ·):=by
 show (match ql7 r with | some xs=>some (x :: xs) | none=>none)=_;cases ql7 r <;> rfl
@[go_sem] theorem allP_map (xs:List PV):ql7 (xs.map .p)=some xs:=by
 induction xs with
 | nil=>rfl
 | cons x r ih=>rw [vqt,q8a,ih];rfl
theorem qh0 {α:Type} (f:α→PV) (sz:Nat) (xs:List α) (h:∀x,((f x).isTup=false∧(f x).cells.length=sz)):((xs.map f).map AV.p).all (qd0 sz)=true:=by
 rw [vsn];intro y hy;simp only [List.map_map,vtb,Function.comp_apply] at hy;obtain ⟨x,_,rfl⟩:=hy;simp [qd0,AV.known,AV.cells,(h x).1,(h x).2]
@[go_sem] theorem AVs_app (xs ys:List PV):xs.map AV.p++ys.map AV.p=(xs++ys).map AV.p:=by simp
@[go_sem] theorem AVs_app1 (xs:List PV) (y:PV):xs.map AV.p++[AV.p y]=(xs++[y]).map AV.p:=by simp
@[go_sem] theorem vha (σ σ':Nat→AO) (xs ys:List PV):qlk σ σ' (xs.map .p) (ys.map .p)=(xs=ys):=by
 apply propext;constructor
 ·intro h
  induction ys generalizing xs with
  | nil =>
   simp only [vqu,qlk] at h;exact List.map_eq_nil_iff.1 h
  | cons y ys ih =>
   cases xs with
   | nil=>exact h.elim
   | cons x xs =>
    simp only [vqt,qs3,veo] at h;rw [h.1,ih xs h.2]
 ·rintro rfl;exact qzd σ σ' xs
@[go_sem] theorem LeVs_0p (σ σ':Nat→AO) (ys:List PV):qlk σ σ' [] (ys.map .p)=([]=ys):=vha σ σ' [] ys
attribute [go_sem] vrj List.take_length vru vrf vql vqg Int.le_refl
@[go_sem] theorem take_map {α β:Type} (f:α→β) (l:List α) (n:Nat):(l.map f).take n=(l.take n).map f:=by rw [vs7]
@[go_sem] theorem drop_map {α β:Type} (f:α→β) (l:List α) (n:Nat):(l.map f).drop n=(l.drop n).map f:=by rw [vs5]
def qbh {α:Type} (f:α→PV) (l:List α):PV:=.slc (l.map f)
@[go_sem] theorem encL_eq {α:Type} (f:α→PV) (l:List α):qbh f l=.slc (l.map f):=rfl
theorem qaf {c:Prop} [Decidable c] {α:Type} {a:Option α} {r:α} (h:(if c then a else none)=some r):c∧a=some r:=by
 split at h
 ·exact ⟨‹c›,h⟩
 ·cases h
theorem qiv {c:Prop} [Decidable c] {α:Type} {a:Option α} {r:α} (h:(if c then none else a)=some r):¬c∧a=some r:=by
 split at h
 ·cases h
 ·exact ⟨‹¬c›,h⟩
end Go.Ab
namespace Go.Ab
theorem qpu {α:Type} {l:List α} {o n k:Nat} {x:α} (h:((l.drop o).take n)[k]?=some x):l[o+k]?=some x∧k < n:=by
 have h1:=(vqf.1 h).1;simp only [vqr,vqm] at h1;rw [List.getElem?_take_of_lt (by omega),vqc] at h;exact ⟨h,by omega⟩
theorem qtd {n:Nat} {i:Int} (h:i.toNat < n) (h0:0≤i):i < (n:Int):=by omega
def qo4 (l:List Int):List UInt8:=l.map fun n=>UInt8.ofNat n.toNat
@[go_sem] theorem vhb:qk8 []=some []:=rfl
@[go_sem] theorem vev (n:Int) (r:List AV):qk8 (.p (.int .u8 n) :: r)=(qk8 r).map (UInt8.ofNat n.toNat :: ·):=rfl
@[go_sem] theorem vhc:qo4 []=[]:=rfl
@[go_sem] theorem vew (n:Int) (l:List Int):qo4 (n :: l)=UInt8.ofNat n.toNat :: qo4 l:=rfl
@[go_sem] theorem vhd (l m:List Int):qo4 (l++m)=qo4 l++qo4 m:=by simp [qo4]
@[go_sem] theorem ok_int (k:IntKind) (l:List Int):((l.map (PV.int k)).map AV.p).all (qd0 1)=true:=qh0 _ _ _ fun _=>⟨rfl,rfl⟩
@[go_sem] theorem ok_str (l:List (List UInt8)):((l.map PV.str).map AV.p).all (qd0 1)=true:=qh0 _ _ _ fun _=>⟨rfl,rfl⟩
@[go_sem] theorem ok_list {α:Type} (f:α→PV) (l:List (List α)):((l.map (qbh f)).map AV.p).all (qd0 1)=true:=qh0 _ _ _ fun _=>⟨rfl,rfl⟩
@[go_sem] theorem sl_int (k:IntKind) (l:List Int):((l.map (PV.int k)).all fun y=>y.cells.length == 1)=true:=by simp [PV.cells]
@[go_sem] theorem sl_bool (l:List Bool):((l.map PV.bool).all fun y=>y.cells.length == 1)=true:=by simp [PV.cells]
@[go_sem] theorem sl_str (l:List (List UInt8)):((l.map PV.str).all fun y=>y.cells.length == 1)=true:=by simp [PV.cells]
@[go_sem] theorem sl_list {α:Type} (f:α→PV) (l:List (List α)):((l.map (qbh f)).all fun y=>y.cells.length == 1)=true:=by simp [PV.cells,qbh]
attribute [go_sem] vrt
end Go.Ab
namespace Go.Ab
open Go
variable {C:Cx} {Q:Exit→St→Prop} {st:St}
theorem q3i {ops:Array Oper} {d:Option Tmp} {t:TypeId} {x y:Operand} {yt:TypeId} {ty:TypeId} {pos:String} {af:Array Edge} {rest:List Oper} {l:List PV} {e:TypeId}
  (hx:ev st.env x=.p (.slc l)) (hy:ev st.env y=.nils) (hu:C.P.underlying t=some (.slice e)) (hd:qba C.N ⟨d,.binOp .eql t x y yt,ty,pos,af,none⟩=true)
  (h:∀b,(l≠[]→b=false)→AL C ops rest Q ⟨qd7 st.env d (.p (.bool b)),st.heap⟩):AL C ops (⟨d,.binOp .eql t x y yt,ty,pos,af,none⟩ :: rest) Q st:=by
 intro inj act w hs;simp only [wpList,qbm (ops:=ops) (o:=⟨d,.binOp .eql t x y yt,ty,pos,af,none⟩) hs (qbe rfl),if_true];refine .inl ?_;have e1:=hs.eval x;have e2:=hs.eval y;rw [hx] at e1;rw [hy] at e2;simp only [AR,PR] at e1 e2;obtain ⟨a,cap,vs,hv,hc,h1,h2⟩:=e1;have hg:(eqGuard .eql t x y (.slice a l.length cap) (.slice none 0 0)).run C.P w=.ok () w:=by simp [eqGuard]
 refine qlp (s:=do eqGuard .eql t x y (act.eval x) (act.eval y);binOp .eql t (act.eval x) (act.eval y)) (val:=.bool a.isNone) (w':=w) rfl ?_ ?_
 ·rw [hv,e2];simp only [vr5,hg,vr3];exact vpx w t e _ _ _ _ _ hu
 ·refine h a.isNone (fun hne=>?_) inj _ _ (hs.put (u:=none) hd hs.hr (Ev.refl _ _ _ _) rfl);rcases h2 with h2 | ⟨b,o,sz,ha,_⟩
  ·subst h2;have:=h1.length;simp at this;exact (hne this).elim
  ·rw [ha];rfl
def qte (N:Nat) (ops:Array Oper):List Oper→Env→List Oper×Env
 | [],env=>([],env)
 | o :: r,env=>match o.guard with
  | none=>(o :: r,env)
  | some _=>match qba N o,qaq ops env o with
   | true,some false=>qte N ops r (qd7 env o.dst (.p (.tup [])))
   | _,_=>(o :: r,env)
theorem q3j {ops:Array Oper}:∀{l l':List Oper} {env env':Env} {h:List (Nat×AO)},qte C.N ops l env=(l',env')→AL C ops l' Q ⟨env',h⟩→AL C ops l Q ⟨env,h⟩
 | [],_,_,_,_,he,k=>by
  simp only [qte,vr2] at he;obtain ⟨rfl,rfl⟩:=he;exact k
 | o :: r,l',env,env',hp,he,k=>by
  simp only [qte] at he;split at he
  ·simp only [vr2] at he;obtain ⟨rfl,rfl⟩:=he;exact k
  ·split at he
   ·rename_i h1 h2;exact q1l h2 h1 (q3j he k)
   ·simp only [vr2] at he;obtain ⟨rfl,rfl⟩:=he;exact k
theorem vbt {ops:Array Oper} {l:List Oper} {d:Nat} {v:AV} {h:List (Nat×AO)} {env:Env} (hv:env.get d=v) (k:AL C ops l Q ⟨(d,v) :: env,h⟩):AL C ops l Q ⟨env,h⟩:=fun inj a w hs=>k inj a w (SR.known hv hs)
def qpv (N:Nat) (ops:Array Oper):List Oper→Env→List Evt→List Oper×Env×List Evt
 | [],env,acc=>([],env,acc)
 | o :: r,env,acc=>match o.guard with
  | none=>(o :: r,env,acc)
  | some _=>match qba N o,qaq ops env o with
   | true,some false=>qpv N ops r (qd7 env o.dst (.p (.tup []))) (⟨.p (.tup []),none,[]⟩ :: acc)
   | _,_=>(o :: r,env,acc)
theorem DGo.skips {l0:Array Oper} {K:List Evt→St→Prop}:∀{l l':List Oper} {env env':Env} {acc acc':List Evt} {h:List (Nat×AO)},qpv C.N l0 l env acc=(l',env',acc')→DGo C l0 l' ⟨env',h⟩ acc' K→DGo C l0 l ⟨env,h⟩ acc K
 | [],_,_,_,_,_,_,he,k=>by
  simp only [qpv,vr2] at he;obtain ⟨rfl,rfl,rfl⟩:=he;exact k
 | o :: r,l',env,env',acc,acc',hp,he,k=>by
  simp only [qpv] at he;split at he
  ·simp only [vr2] at he;obtain ⟨rfl,rfl,rfl⟩:=he;exact k
  ·split at he
   ·rename_i h1 h2;exact DGo.gf h2 h1 (DGo.skips he k)
   ·simp only [vr2] at he;obtain ⟨rfl,rfl,rfl⟩:=he;exact k
theorem DGo.known' {l0:Array Oper} {l:List Oper} {d:Nat} {v:AV} {h:List (Nat×AO)} {env:Env} {acc:List Evt} (hv:env.get d=v) (k:DGo C l0 l ⟨(d,v) :: env,h⟩ acc (DK C l0 Q)):DGo C l0 l ⟨env,h⟩ acc (DK C l0 Q):=by
 obtain ⟨es,st',k1,k2⟩:=k;obtain ⟨st'',k3,k4,k5⟩:=k1.known (st:=⟨env,h⟩) (qzk env hv) rfl;exact ⟨es,st'',k3,DK.congr _ _ _ k4 k5 k2⟩
end Go.Ab
namespace Go.Ab
variable {D:Prop}
open Go
structure Bulk (b:(H:Type)→DataW H→Nat):Prop where
 str:∀(H:Type) (s:List UInt8),s.length≤b H (.lit (.string s))
 slen:∀(H:Type) (es sp:List (DataW H)),es.length≤b H (.slice es sp)
 selem:∀(H:Type) (es sp:List (DataW H)) (d:DataW H),d∈es→b H d≤b H (.slice es sp)
 part:∀(H:Type) (ps:List (DataW H)) (d:DataW H),d∈ps→b H d≤b H (.agg ps)
abbrev NoX:Nat→Prop:=fun _=>False
theorem PRs.one {X:Nat→Prop} {w:World}:∀{ps:List PV} {vs:List Value},PRs X w ps vs→(∀y∈ps,y.isAgg=false∧y.isTup=false)→qa0 vs
 | [],vs,h,_=>by simp only [PRs] at h;subst h;intro u hu;cases hu
 | p :: ps,vs,h,hp=>by
  obtain ⟨v,r,rfl,h1,h2⟩:=h;have hr:=PRs.one h2 fun y hy=>hp y (vs8 _ hy)
  have h0:=hp p (by simp);intro u hu;rcases List.mem_cons.1 hu with e | e
  ·subst e;cases p <;> simp only [PR] at h1 <;> first | (subst h1;rfl) | (rcases h1 with ⟨e,_⟩ | ⟨_,_,_,e,_⟩ <;> (subst e;rfl)) | (obtain ⟨_,_,_,e,_⟩:=h1;subst e;rfl) | (obtain ⟨_,_,e,_⟩:=h1;subst e;rfl) | (obtain ⟨_,e,_⟩:=h1;subst e;first | rfl | simp [PV.isAgg,PV.isTup] at h0) | simp [PV.isAgg,PV.isTup] at h0
  ·exact hr u e
structure Rd (P:Program) (b:(H:Type)→DataW H→Nat) (t:TypeId) {α:Type} (f:α→PV) (ok:α→Prop):Prop where
 cells:∀x,(f x).cells.length=P.cellsOf t
 plain:∀x,∀y∈(f x).cells,y.isAgg=false∧y.isTup=false
 agg:∀x,qaj P t=some (f x).isAgg
 read:∀{H:Type} {enc:TypeId×Value→H} {w:World} {sp:Nat→Bool} {n:Nat} {cs:List Value} {x:DataW H×List MemPlace},DataW.trod enc P w 0 sp true n t cs=some x→b H x.1≤1048576→∃a,PRs NoX w (f a).cells cs∧ok a
variable {P:Program} {b:(H:Type)→DataW H→Nat} {t:TypeId}
def ofCells (g:Bool) (cs:List Value):Value:=if g then .agg cs.toArray else cs.headD undef
theorem PR.ofCells {α:Type} {f:α→PV} {ok:α→Prop} (R:Rd P b t f ok) {w:World} {cs:List Value} {a:α} (h:PRs NoX w (f a).cells cs) :
  PR NoX w (f a) (ofCells (f a).isAgg cs)∧(ofCells (f a).isAgg cs).cells.toList=cs:=by
 have hone:=h.one (R.plain a);unfold Ab.ofCells;cases hf:f a with
 | agg ps =>
  rw [hf] at h;simp only [PV.isAgg,if_true];exact ⟨⟨cs,rfl,h,hone⟩,by simp [Value.cells]⟩
 | _ =>
  rw [hf] at h;simp only [PV.isAgg,vps,if_false];simp only [PV.cells] at h;obtain ⟨v,r,rfl,h1,h2⟩:=h;simp only [PRs] at h2;subst h2;refine ⟨h1,?_⟩;have:=hone v (by simp);simp only [List.headD_cons];cases v <;> first | rfl | simp [Value.oneCell'] at this
theorem vl8 {k:IntKind} (hu:P.underlying t=some (.int k)) (hc:P.cellsOf t=1):Rd P b t (PV.int k) (fun n=>(Lit.int k n).wf=true):=by
 refine ⟨fun x=>by rw [hc];rfl,fun x y hy=>?_,fun x=>by simp [qaj,hu];rfl,fun h _=>?_⟩
 ·simp only [PV.cells,vtd] at hy;subst hy;exact ⟨rfl,rfl⟩
 ·obtain ⟨n,rfl,_,hw⟩:=DataW.trod_int hu h;exact ⟨n,⟨_,_,rfl,rfl,rfl⟩,hw⟩
theorem q5s {w:World} {a:Addr} {n:Nat} {cs:List Value} (h:w.cells? 0 a n=some cs):cs.length=n∧∀i u,cs[i]?=some u→w.cell? (a.add i)=some u:=by
 unfold World.cells? at h;rw [if_pos (vtq _)] at h;have hl:=(mapM_some_length h);simp only [vsz] at hl;refine ⟨hl,fun i u hu=>?_⟩;have hi:i < n:=by have:=qcr hu;omega
 have:=mapM_some_get h i i (by simp [hi]);rw [this];exact hu
theorem PRs.app {X:Nat→Prop} {w:World}:∀{ps:List PV} {vs:List Value} {qs:List PV} {us:List Value},PRs X w ps vs→PRs X w qs us→PRs X w (ps++qs) (vs++us)
 | [],_,_,_,h,h'=>by simp only [PRs] at h;subst h;exact h'
 | p :: ps,_,_,_,h,h'=>by
  obtain ⟨v,r,rfl,h1,h2⟩:=h;exact ⟨v,r++_,rfl,h1,PRs.app h2 h'⟩
theorem qsc {e:TypeId} {α:Type} {f:α→PV} {ok:α→Prop} (hu:P.underlying t=some (.slice e)) (hc:P.cellsOf t=1) (hs:0 < P.cellsOf e) (B:Bulk b) (R:Rd P b e f ok) :
  Rd P b t (qbh f) (fun l=>l.length≤1048576∧∀x∈l,ok x):=by
 refine ⟨fun x=>by rw [hc];rfl,fun x y hy=>?_,fun x=>by simp [qaj,hu];rfl,fun {H enc w sp n cs x} h hb=>?_⟩
 ·simp only [qbh,PV.cells,vtd] at hy;subst hy;exact ⟨rfl,rfl⟩
 rcases Deep.open_slice hu h with ⟨rfl,rfl⟩ | ⟨a,len,cap,m,n',D,Pl,rfl,_,hl,hm,hmm,rfl,hx⟩
 ·exact ⟨[],⟨_,_,rfl,⟨_,_,_,rfl,vrj _,rfl,.inl rfl⟩,rfl⟩,vtq _,(fun x hx=>absurd hx (by simp))⟩
 simp only at hb;have hlen:len≤1048576:=by
  have:=B.slen H ((vq3 len).map D) ((vq3 (m - len)).map fun j=>D (len+j));simp only [vqn,vsz] at this;omega
 have hlm:len≤m:=by rw [hmm];split <;> omega
 have key:∀k,k≤len→∃(l:List α) (vs:List Value),l.length=k∧PRs NoX w (l.map f) vs∧(∀v∈vs,v.cells.size=P.cellsOf e)∧qa0 (flat vs)∧(flat vs).length=k * P.cellsOf e ∧
   (∀j u,(flat vs)[j]?=some u→w.cell? (a.add j)=some u)∧∀x∈l,ok x:=by
  intro k
  induction k with
  | zero =>
   intro _;exact ⟨[],[],rfl,rfl,(fun v hv=>absurd hv (by simp)),(fun u hu=>absurd hu (by simp [flat])),(by simp [flat]),(fun j u hu=>absurd hu (by simp [flat])),(fun x hx=>absurd hx (by simp))⟩
  | succ k ih =>
   intro hk;obtain ⟨l,vs,h1,h2,h3,h4,h5,h6,h7⟩:=ih (by omega);obtain ⟨cs',h8,h9⟩:=hx k (by omega);have hbk:b H (D k)≤1048576:=vrl (B.selem H _ _ (D k) (vtb.2 ⟨k,vtc.2 (by omega),rfl⟩)) hb;obtain ⟨y,h10,h11⟩:=R.read h9 hbk;obtain ⟨hl8,hg8⟩:=q5s h8;obtain ⟨h12,h13⟩:=PR.ofCells R h10;have hf:flat (vs++[ofCells (f y).isAgg cs'])=flat vs++cs':=by simp [flat,h13]
   refine ⟨l++[y],vs++[ofCells (f y).isAgg cs'],by simp [h1],?_,?_,?_,?_,?_,?_⟩
   ·rw [vqs];exact h2.app ⟨_,_,rfl,h12,rfl⟩
   ·intro v hv;rcases vqv.1 hv with hv | hv
    ·exact h3 v hv
    ·simp only [vtd] at hv;subst hv;rw [←vpj,h13,hl8]
   ·rw [hf];intro u hu;rcases vqv.1 hu with hu | hu
    ·exact h4 u hu
    ·exact h10.one (R.plain y) u hu
   ·rw [hf,vql,h5,hl8,Nat.succ_mul]
   ·rw [hf];intro j u hu;by_cases hj:j < (flat vs).length
    ·rw [vqa hj] at hu;exact h6 j u hu
    ·rw [vqb (by omega),h5] at hu;have:=hg8 _ _ hu;rw [Deep.add_add] at this;have e1:k * P.cellsOf e+(j - k * P.cellsOf e)=j:=by omega
     rwa [e1] at this
   ·intro x hx;rcases vqv.1 hx with hx | hx
    ·exact h7 x hx
    ·simp only [vtd] at hx;subst hx;exact h11
 obtain ⟨l,vs,h1,h2,h3,h4,h5,h6,h7⟩:=key len (vrj _);refine ⟨l,⟨_,_,rfl,⟨some a,cap,vs,by simp [h1],by simp [h1,hl],h2,?_⟩,rfl⟩,by omega,h7⟩;by_cases h0:len=0
 ·refine .inl ?_;have:=h2.length;simp only [vqn,h1,h0] at this;exact vsw.1 this.symm
 ·have hpos:0 < (flat vs).length:=by rw [h5];exact Nat.mul_pos (by omega) hs
  have hc0:=h6 0 _ (vqd hpos);have e0:a.add 0=a:=rfl;rw [e0] at hc0;have hspot:a=⟨a.block,a.off,none⟩∧a.block < w.heap.size:=by
   unfold World.cell? at hc0;split at hc0
   ·rename_i c e2 fr hb2;refine ⟨?_,(vpf.1 hb2).1⟩;split at hc0
    ·cases hc0
    ·rename_i hsp;cases a with
     | mk bl off spot=>cases spot <;> simp_all
   ·cases hc0
  refine .inr ⟨a.block,a.off,P.cellsOf e,by rw [←hspot.1],h3,h4,hspot.2,fun h=>h,fun j u hu=>?_⟩;have:=h6 j u hu;rw [hspot.1] at this;unfold Addr.add at this;by_cases hj:j=0
  ·subst hj;exact this
  ·rw [if_neg hj] at this;exact this
structure RdFs (P:Program) (b:(H:Type)→DataW H→Nat) (fs:List Field) {α:Type} (g:α→List PV) (ok:α→Prop):Prop where
 read:∀{H:Type} {enc:TypeId×Value→H} {w:World} {sp:Nat→Bool} {n:Nat} (cs:Field→List Value),(∀fd∈fs,∃y,DataW.trod enc P w 0 sp true n fd.type (cs fd)=some y∧b H y.1≤1048576)→∃a,PRs NoX w (g a) (fs.flatMap cs)∧ok a
theorem RdFs.nil:RdFs P b [] (fun _:Unit=>[]) (fun _=>True):=⟨fun cs h=>⟨(),rfl,trivial⟩⟩
theorem RdFs.cons {fd:Field} {fs:List Field} {α β:Type} {f:α→PV} {ok:α→Prop} {g:β→List PV} {ok':β→Prop} (R:Rd P b fd.type f ok) (R':RdFs P b fs g ok') :
  RdFs P b (fd :: fs) (fun x:α×β=>(f x.1).cells++g x.2) (fun x=>ok x.1∧ok' x.2):=⟨fun cs h=>by
 obtain ⟨y,h1,h2⟩:=h fd (by simp);obtain ⟨a,h3,h4⟩:=R.read h1 h2;obtain ⟨c,h5,h6⟩:=R'.read cs (fun fd' h'=>h fd' (by simp [h']));exact ⟨(a,c),by rw [vsq];exact h3.app h5,h4,h6⟩⟩
def vl9 (P:Program):Nat→List Field→Option Nat
 | o,[]=>some o
 | o,f :: r=>if f.offset=o then vl9 P (o+P.cellsOf f.type) r else none
theorem qzl {P:Program}:∀{fs:List Field} {o s:Nat} {cs:List Value},vl9 P o fs=some s→cs.length=s→fs.flatMap (fun f=>(cs.drop f.offset).take (P.cellsOf f.type))=cs.drop o∧o≤s
 | [],o,s,cs,h,hl=>by
  simp only [vl9,vr1] at h;subst h;refine ⟨?_,vrj _⟩;rw [List.flatMap_nil,List.drop_of_length_le (by omega)]
 | f :: r,o,s,cs,h,hl=>by
  simp only [vl9] at h;split at h
  ·rename_i ho;obtain ⟨h1,h2⟩:=qzl h hl;refine ⟨?_,by omega⟩;rw [vsq,h1,ho,←List.drop_drop];exact vti _ _
  ·cases h
theorem qh1 {fs:Array Field} {α β:Type} {f:α→PV} {ok:α→Prop} {g:β→List PV} {ok':β→Prop} (hu:P.underlying t=some (.struct fs)) (hlay:vl9 P 0 fs.toList=some (P.cellsOf t)) (B:Bulk b) (R:RdFs P b fs.toList g ok') (mk:β→α)
  (hcells:∀x,(f x).cells.length=P.cellsOf t) (hplain:∀x,∀y∈(f x).cells,y.isAgg=false∧y.isTup=false) (hagg:∀x,(f x).isAgg=true) (hmk:∀y,(f (mk y)).cells=g y) (hok:∀y,ok' y→ok (mk y)):Rd P b t f ok:=by
 refine ⟨hcells,hplain,fun x=>by rw [hagg];simp [qaj,hu],fun {H enc w sp n cs x} h hb=>?_⟩;obtain ⟨xs,m,rfl,rfl,hl,hxl,hx⟩:=DataW.trod_struct hu h;have hall:∀fd∈fs.toList,∃y,DataW.trod enc P w 0 sp true m fd.type ((cs.drop fd.offset).take (P.cellsOf fd.type))=some y∧b H y.1≤1048576:=by
  intro fd hfd;obtain ⟨i,hi⟩:=List.mem_iff_getElem?.1 hfd;have hi':fs[i]?=some fd:=by simpa using hi
  have h1:=hx i fd hi';have hlt:i < xs.length:=by rw [hxl];exact (vpf.1 hi').1
  rw [vqd hlt] at h1;exact ⟨_,h1,vrl (B.part H _ _ (vtb.2 ⟨_,List.getElem_mem hlt,rfl⟩)) hb⟩
 obtain ⟨y,h1,h2⟩:=R.read _ hall;refine ⟨mk y,?_,hok y h2⟩;rw [hmk];obtain ⟨h3,_⟩:=qzl (cs:=cs) hlay hl;rw [h3] at h1;exact h1
theorem Rd.val {α:Type} {f:α→PV} {ok:α→Prop} (R:Rd P b t f ok) {H:Type} {enc:TypeId×Value→H} {w:World} {sp:Nat→Bool} {base:Nat} {v:Value} {d:DataW H} {ps:List MemPlace}
  (hval:Value.okWide P w .any base t v) (h:DataW.Trod enc P w 0 sp true t v d ps) (hb:b H d≤1048576):∃a,PR NoX w (f a) v∧ok a:=by
 obtain ⟨n,hn⟩:=h;obtain ⟨a,h1,h2⟩:=R.read hn hb;refine ⟨a,?_,h2⟩;obtain ⟨h3,h4⟩:=PR.ofCells R h1;have hag:=R.agg a;have:ofCells (f a).isAgg v.cells.toList=v:=by
  unfold Ab.ofCells;unfold Value.okWide at hval;unfold qaj at hag;cases hu:P.underlying t with
  | none=>rw [hu] at hag;cases hag
  | some u =>
   rw [hu] at hag hval;have hone:=h1.one (R.plain a);cases hf:(f a).isAgg with
   | true =>
    rw [hf] at hag;simp only [if_true];cases u <;> simp at hag hval
    ·obtain ⟨cs,rfl,_⟩:=hval;simp [Value.cells]
    ·obtain ⟨cs,rfl,_⟩:=hval;simp [Value.cells]
   | false =>
    rw [hf] at hag;simp only [vps,if_false];have hnag:∀cs,v≠.agg cs:=by
     rintro cs rfl;cases u <;> simp [Cell.okWide,Cell.ok,hu] at hval hag
    cases v <;> first | rfl | exact absurd rfl (hnag _)
 rw [this] at h3;exact h3
theorem Fr.kept {w w':World} (h:Fr D w w'):w.keptBut w' (fun _=>False):=by
 refine ⟨h.os,h.output,fun i hi=>?_⟩;rw [h.blk i hi];cases hx:w.heap[i]? with
 | none=>trivial
 | some o=>cases o <;> first | exact ⟨rfl,rfl,rfl,fun _ _=>rfl⟩ | exact .inr ⟨rfl,rfl⟩ | rfl
theorem Fr.same {w w':World} (h:Fr D w w') {p:MemPlace} (hp:p.block < w.heap.size):w.sameAt w' p:=by
 cases p with
 | cell c o=>exact World.cell?_of_block (h.blk c hp)
 | map c=>exact h.blk c hp
theorem qpw {H:Type} {enc:TypeId×Value→H} {w w':World} {base:Nat} {sp:Nat→Bool} {held:Bool}:∀{ts:List TypeId} {vs:List Value} {ds:List (DataW H)} {ps:List MemPlace},
  DataW.TrodAll enc P w base sp held ts vs ds ps→(∀p∈ps,w.sameAt w' p)→DataW.TrodAll enc P w' base sp held ts vs ds ps
 | [],[],[],_,h,_=>h
 | _ :: _,_ :: _,_ :: _,_,⟨p,q,⟨n,h1⟩,h2,e⟩,hs=>⟨p,q,⟨n,DataW.trod_carry n _ _ _ h1 fun x hx=>hs x (by rw [e];exact List.mem_append_left _ hx)⟩,qpw h2 (fun x hx=>hs x (by rw [e];exact List.mem_append_right _ hx)),e⟩
theorem q8b {H:Type} {enc:TypeId×Value→H} {f:Func} {s:ChangeSpec} {apart fresh handsOn again:Bool} {W W':World} {args:Array Value} {v:Value} {ds gs:List (DataW H)} {qjc pa pv:List MemPlace}
  (hW:DataW.Whole enc P f.params.toList s.vars apart W args.toList ds gs qjc)
  (hres:∀(b:Nat) (sp:Nat→Bool) (hd:Bool),DataW.TrodAll enc P W' b sp hd f.resultTypes.toList (v.resultList f.resultTypes.size) (s.fn H (ds++gs)).results [])
  (hargs:∀sp:Nat→Bool,(∀p∈qjc,sp p.block=true)→DataW.TrodAll enc P W' 0 sp true f.params.toList args.toList (s.fn H (ds++gs)).args pa)
  (hvars:∀sp:Nat→Bool,(∀p∈qjc,sp p.block=true)→DataW.TrodVars enc P W' sp s.vars (s.fn H (ds++gs)).vars pv)
  (hps:qjc=pa++pv) (hk:W.keptBut W' (·∈qjc)) (hfz:∀b off,MemPlace.cell b off∈qjc→W'.frozen? ⟨b,off,none⟩=W.frozen? ⟨b,off,none⟩)
  (hok:∀(j:Nat) (t:TypeId) (r:Value),f.resultTypes[j]?=some t→(v.resultList f.resultTypes.size)[j]?=some r→Value.okWide P W' .any 0 t r) :
  s.post enc P f apart fresh handsOn again W args v W':=by
 have hold:∀p∈qjc,(fun b=>decide (b < W.heap.size)) p.block=true:=fun p hp=>by simpa using hW.lt p hp
 refine ⟨ds,gs,qjc,[],pa,pv,hW,hres _ _ _,hargs _ hold,hvars _ hold,World.keptBut_mono (fun p hp=>⟨hp,?_⟩) hk,fun _=>?_⟩
 ·rw [hps,vqv] at hp;exact Or.inr hp
 obtain ⟨_,_,_,_,_,hz,hn⟩:=hW;refine ⟨hok,_,_,([]++pa)++pv,⟨[]++pa,pv,ChangeShapes.trodAll_append (hargs _ (fun _ _=>rfl)) (hres _ _ _),hvars _ (fun _ _=>rfl),rfl,?_,?_⟩,?_⟩
 ·intro b off hp;have hp':MemPlace.cell b off∈qjc:=by rw [hps];simpa using hp
  rw [hfz b off hp'];exact hz b off hp'
 ·intro ha;have:=hn ha;rw [hps] at this;simpa using this
 ·intro p hp _;rw [hps];simpa using hp
theorem vbu {H:Type} {enc:TypeId×Value→H} {f:Func} {s:ChangeSpec} {W:World} {args:Array Value} {ds gs:List (DataW H)} {qjc:List MemPlace} {k:FuncId} {tb:TypeId} {pvs:List PV}
  (hW:DataW.Whole enc P f.params.toList s.vars false W args.toList ds gs qjc) (hv:s.vars=[]) (hfn:s.fn H ds={ results:=[.lit (.bool true)],args:=ds }) (hres:f.resultTypes=#[tb]) (htb:P.underlying tb=some .bool)
  (hl:laidOutB P=true) (hm:mapsRowed P=true) (hz:((vq3 P.types.size).all fun t=>match P.underlying t with | some (.slice e)=>decide (0 < P.cellsOf e) | _=>true)=true) (hts:∀t∈f.params.toList,t < P.types.size)
  (hcon:Con D P k pvs (.bool true)) (htab:TabOk P NoX W) (hpr:PRs NoX W pvs args.toList) :
  Calls P k args W fun e W'=>∃v,e=.returned v∧s.post enc P f false true false false W args v W':=by
 have hW':=hW;obtain ⟨p,q,hA,hV,rfl,hfz,hnd⟩:=hW;rw [hv] at hV;obtain ⟨rfl,rfl⟩:=ChangeShapes.trodVars_none hV;have hlt:=hW'.lt;simp only [vp1] at hW' hlt;have hc:=hcon.pure NoX W args.toList (fun b hb=>hb.elim) htab hpr;rw [Array.toArray_toList] at hc;refine hc.mono ?_;rintro e W' ⟨v,rfl,hv',hfr⟩;simp only [PR] at hv';subst hv';refine ⟨_,rfl,?_⟩;have K:=kids_rows hl hm;have hss:=slices_full_of P hz;refine q8b (pa:=p) (pv:=[]) hW' ?_ ?_ ?_ (by simp) (World.keptBut_mono (fun _ h=>h.elim) hfr.kept) (fun b off hp=>hfr.fz ⟨b,off,none⟩ (hlt _ hp)) ?_
 ·intro b0 sp hd;simp only [vp1,hfn,hres];exact trodAll_cons_mk (RowKit.shut_bool htb _) ChangeShapes.trodAll_mk0
 ·intro sp hsp;simp only [vp1,hfn];exact qpw (DataW.TrodAll.respare K hss hts hA (fun x hx=>hsp x hx)) (fun x hx=>hfr.same (hlt x hx))
 ·intro sp _;rw [hv];simp only [vp1,hfn];rfl
 ·exact RowKit.ok_one hres rfl (RowKit.okWide_bool_mk htb _)
end Go.Ab
namespace Go.Ab
open Go
def qrv {K V:Type} [DecidableEq K]:List (K×V)→K→Option V
 | [],_=>none
 | (a,v) :: r,k=>if k=a then some v else qrv r k
def qvc {K V:Type} [DecidableEq K]:List (K×V)→K→V→List (K×V)
 | [],k,v=>[(k,v)]
 | (a,u) :: r,k,v=>if k=a then (a,v) :: r else (a,u) :: qvc r k v
def qfq {K V:Type} (f:K→PV) (m:List (K×V)):List PV:=m.map fun p=>f p.1
def qfz {K V:Type} (f:V→PV) (m:List (K×V)):List PV:=m.map fun p=>f p.2
def encM {K V:Type} (f:K→PV) (g:V→PV) (m:List (K×V)):PV:=.mapv (qfq f m) (qfz g m)
@[go_sem] theorem encM_eq {K V:Type} (f:K→PV) (g:V→PV) (m:List (K×V)):encM f g m=.mapv (qfq f m) (qfz g m):=rfl
@[go_sem] theorem encK_len {K V:Type} (f:K→PV) (m:List (K×V)):(qfq f m).length=m.length:=by simp [qfq]
theorem q8c {K V:Type} [DecidableEq K] (P:Program) (kt:TypeId) (f:K→PV) (hk:∀a b,qmp P kt (f a) (f b)=some (decide (a=b))) (k:K) (m:List (K×V)) (g:V→PV):qoz P kt (f k) (qfq f m) ((qfz g m).map AV.p)=some ((qrv m k).map fun v=>AV.p (g v)):=by
 induction m with
 | nil=>rfl
 | cons p r ih =>
  obtain ⟨a,v⟩:=p;simp only [qfq,qfz,vqt,qoz,hk,qrv] at ih ⊢;by_cases h:k=a
  ·simp [h]
  ·simp only [decide_eq_false h,if_neg h];exact ih
theorem vbv {K V:Type} [DecidableEq K] (P:Program) (kt:TypeId) (f:K→PV) (hk:∀a b,qmp P kt (f a) (f b)=some (decide (a=b))) (k:K) (m:List (K×V)) (g:V→PV) (v:V):q27 P kt (f k) (.p (g v)) (qfq f m) ((qfz g m).map AV.p)=some (qfq f (qvc m k v),(qfz g (qvc m k v)).map AV.p):=by
 induction m with
 | nil=>rfl
 | cons p r ih =>
  obtain ⟨a,u⟩:=p;simp only [qfq,qfz,vqt,q27,hk,qvc] at ih ⊢;by_cases h:k=a
  ·simp [h]
  ·simp only [decide_eq_false h,if_neg h,ih];rfl
@[go_sem] theorem getD_map {α β:Type} (F:α→β) (o:Option α) (z:α):(o.map F).getD (F z)=F (o.getD z):=by cases o <;> rfl
attribute [go_sem] Option.isSome_map
def qxo (D : Nat → Bool) (n l g : Nat) : L PV := if D l then .look l fun o => match o with
      | .map g' ks vs => if g = g' then (qau (qdx D n) ks).bind fun xs => (qau (qdx D n) vs).bind fun ys => .ret (.mapv xs ys) else .fail
      | _ => .fail
    else .fail
theorem q5t (D:Nat→Bool) (l g:Nat):qdx D 9 (.mapo l g)=qxo D 8 l g:=rfl
theorem q5u (D:Nat→Bool) (l g:Nat):qdx D 8 (.mapo l g)=qxo D 7 l g:=rfl
theorem q5v (D:Nat→Bool) (l g:Nat):qdx D 7 (.mapo l g)=qxo D 6 l g:=rfl
attribute [go_sem] q5t q5u q5v qxo
end Go.Ab
namespace Go.Ab
variable {D:Prop}
open Go
variable {C:Cx} {Q:Exit→St→Prop} {st:St}
def qh2:Nat→List AV→Env
 | _,[]=>[]
 | k,x :: r=>(k,x) :: qh2 (k+1) r
theorem qng:∀(ps:List AV) (vs:List Value) (k t:Nat) {X:Nat→Prop} {inj:Inj} {σ:Nat→AO} {w:World},ARs X inj σ w ps vs →
  AR X inj σ w ((qh2 k ps).get t) (if k≤t then vs.getD (t - k) undef else undef)
 | [],_,k,t,_,_,_,_,_=>trivial
 | p :: ps,_,k,t,X,inj,σ,w,h=>by
  obtain ⟨v,r,rfl,h2,h3⟩:=h;simp only [qh2,Env.get];by_cases hk:k=t
  ·subst hk;rw [if_pos rfl,if_pos (vrj _)];simpa using h2
  ·rw [if_neg hk];have:=qng ps r (k+1) t (X:=X) (inj:=inj) h3;by_cases hle:k≤t
   ·rw [if_pos hle];rw [if_pos (by omega)] at this;have e:t - k=(t - (k+1))+1:=by omega
    rw [e];simpa using this
   ·rw [if_neg hle];rw [if_neg (by omega)] at this;exact this
def inlQ (C:Cx) (ops:Array Oper) (o:Oper) (rest:List Oper) (Q:Exit→St→Prop) (st:St) (fn:Func):Exit→St→Prop :=
 fun e s=>(e=.normal∨e=.ret)∧∃v,q7g C.P s fn.results.toList=some v∧AL C ops rest Q ⟨qd7 st.env o.dst v,s.heap⟩
theorem qgn {ops:Array Oper} {o:Oper} {rest:List Oper} {f:Operand} {args:Array Operand} {ats:Array TypeId} {k:FuncId} {avs:List AV} {fn:Func} {c:Code} {N':Nat} (B':Nat)
  (ho:o.op=.call ⟨.value f,args,ats⟩) (hg:qaq ops st.env o=some true) (hd:qba C.N o=true) (hf:C.P.funcs[k]?=some fn) (hb:fn.body=some c) (hk:HasBody C.P k) (hN:fn.ntmps=N') (hn:avs.length≤N')
  (hc:qcg st.env f args.toList=some (k,avs))
  (h:∀inj w hT,AWp ⟨C.P,N',B',C.X,st.heap,inj,w,C.D,hT⟩ c (inlQ C ops o rest Q st fn) ⟨qh2 0 avs,st.heap⟩):AL C ops (o :: rest) Q st:=by
 subst hN;intro inj a w hs;simp only [wpList,qbm hs hg,if_true];refine .inl ?_;obtain ⟨vs,hrun,hars⟩:=qn6 hs ho hk hc;unfold Oper.wp;rw [hrun];simp only [Oper.upon];have hl:=hars.length;refine calls_of_wp hf hb (wp_mono (h inj w (qnb hs.ev) inj _ w ⟨fun t=>?_,?_,rfl,hs.hr,Ev.refl _ _ _ _⟩) ?_)
 ·have:=qng avs vs 0 t hars;simp only [vtq,if_true,vrt] at this;have e:(vs.toArray++Array.replicate (fn.ntmps - vs.toArray.size) undef).getD t undef=vs.getD t undef:=by
   by_cases ht:t < vs.length
   ·simp [vpe,ht]
   ·simp only [Array.getD_eq_getD_getElem?,vpe,vq6,ht,if_false,Array.getElem?_replicate];rw [vsr,vqe (by omega)];split <;> rfl
  rw [e];exact this
 ·simp [←hl];omega
 ·intro e a' w' ⟨s,inj',hs',hq⟩;obtain ⟨hex,v,hv,hal⟩:=hq;obtain ⟨val,h1,h2⟩:=qq0 hs' hv;have hev:Ev C.D C.X inj st.sig w inj' s.sig w':=hs'.ev;have hput:SR C ⟨qd7 st.env o.dst v,s.heap⟩ inj' (a.put o.dst val) w':=by
   have h3:=hs.put (o:=o) (u:=none) hd hs.hr (Ev.refl _ _ _ _) (v:=.any) (val:=val) trivial;refine ⟨fun t=>?_,h3.size,h3.defers,hs'.hr,hs.ev.trans hev⟩;cases hdst:o.dst with
   | none =>
    have:=h3.env t;rw [hdst] at this;simpa [qd7,Act.put] using AR.ev hev hs.hr.xlt _ _ (hs.env t)
   | some d =>
    simp only [qba,hdst,decide_eq_true_eq] at hd;simp only [qd7,Act.put,Env.get];by_cases ht:d=t
    ·subst ht;rw [if_pos rfl];have:(a.tmps.setIfInBounds d val).getD d undef=val:=by simp [hs.size,hd]
     rw [this];exact h2
    ·rw [if_neg ht];have:(a.tmps.setIfInBounds d val).getD t undef=a.tmps.getD t undef:=by simp [vph ht]
     rw [this];exact AR.ev hev hs.hr.xlt _ _ (hs.env t)
  rcases hex with rfl | rfl
  ·exact ⟨hs'.defers,val,h1,hal inj' _ _ hput⟩
  ·exact ⟨hs'.defers,val,h1,hal inj' _ _ hput⟩
theorem qbb {ops:Array Oper} {o:Oper} {rest:List Oper} {fn:Func} {s:St} {v:AV} (h1:q7g C.P s fn.results.toList=some v) (h2:AL C ops rest Q ⟨qd7 st.env o.dst v,s.heap⟩):inlQ C ops o rest Q st fn .ret s:=⟨.inr rfl,v,h1,h2⟩
theorem vbw {ops:Array Oper} {o:Oper} {rest:List Oper} {fn:Func} {s:St} {v:AV} {e:Exit} (he:e=.normal∨e=.ret) (h1:q7g C.P s fn.results.toList=some v) (h2:AL C ops rest Q ⟨qd7 st.env o.dst v,s.heap⟩):inlQ C ops o rest Q st fn e s:=⟨he,v,h1,h2⟩
@[go_sem] theorem vma {α β:Type} (f:α→β) (l:List α) (i:Nat) (y:α):(l.map f).set i (f y)=(l.set i y).map f:=by rw [List.map_set]
@[go_sem] theorem vex {α:Type} (f:α→PV) (l:List (List α)) (i:Nat) (y:List α):(l.map (qbh f)).set i (.slc (vs3 f y))=(l.set i y).map (qbh f):=by rw [List.map_set];rfl
attribute [go_sem] qh2
theorem zF {P:Prop} (h:P:=by (repeat' refine And.intro ?_ ?_) <;> first | rfl | (simp;done) | (simp;rfl) | (simp [*];done) | (simp [*];rfl)):P:=h
theorem zV {P:Prop} (h:P:=by simp only [go_sem,seval, *];all_goals exact zF):P:=h
theorem zs {x y:Code} (h:AWp C x (qr3 (fun s=>AWp C y Q s) Q) st):AWp C (.seq x y) Q st:=qmd h
theorem zr {id:Nat} {l:List Oper} (h:AL C l.toArray l Q st):AWp C (.region id l.toArray false) Q st:=qjs h
theorem zb {id:Nat} {c:Code} (h:AWp C c (qnc id Q) st):AWp C (.block id c) Q st:=qs0 h
theorem zk (h:Q .normal st):AWp C .skip Q st:=qxa h
theorem zq (h:Q .ret st):AWp C .ret Q st:=qxb h
theorem zx {id:Nat} (h:Q (.exit id) st):AWp C (.exit id) Q st:=q3c h
theorem zl {ops:Array Oper} (h:Q .normal st):AL C ops [] Q st:=qv2 h
theorem zn {K:St→Prop} {s:St} (h:K s):qr3 K Q .normal s:=h
theorem zt {K:St→Prop} {s:St} (h:Q .ret s):qr3 K Q .ret s:=h
theorem ze {K:St→Prop} {s:St} {i:Nat} (h:Q (.exit i) s):qr3 K Q (.exit i) s:=h
theorem yn {i:Nat} {s:St} (h:Q .normal s):qnc i Q .normal s:=h
theorem yr {i:Nat} {s:St} (h:Q .ret s):qnc i Q .ret s:=h
theorem yh {i:Nat} {s:St} (h:Q .normal s):qnc i Q (.exit i) s:=q1m h
theorem yd {l:Array Oper} {acc:List Evt} (h:Q .normal st) (hev:qr4 l acc.reverse=true:=by kernel_rfl):DGo C l [] st acc (DK C l Q):=DGo.fin hev h
theorem zU {ops:Array Oper} {o:Oper} {l l1 l2:List Oper} {st':St} (h:AL C ops l2 Q st') (hs:spl l=(o :: l1,l2):=by exact rfl) (hr:qmq C.P C.N C.B ops (o :: l1) st=(st',[]):=by simp only [go_sem,seval, *];exact rfl):AL C ops l Q st:=qxl hs hr h
theorem zW {ops:Array Oper} {l:List Oper} (n:Nat) {st':St} (h:AL C ops (l.drop n) Q st') (hr:qmq C.P C.N C.B ops (l.take n) st=(st',[]):=by simp only [go_sem,seval, *];exact rfl):AL C ops l Q st:=q78 n hr h
theorem yU {ops:Array Oper} {K:List Evt→St→Prop} {o:Oper} {l l1 l2:List Oper} {acc acc':List Evt} {st':St} (h:DGo C ops l2 st' acc' K) (hs:spl l=(o :: l1,l2):=by exact rfl)
  (hr:qis C.P C.N C.B ops (o :: l1) st acc=(acc',st',[]):=by simp only [go_sem,seval, *];first | exact ⟨rfl,rfl⟩ | exact rfl):DGo C ops l st acc K:=DGo.upto hs hr h
theorem zg {ops:Array Oper} {o:Oper} {rest:List Oper} {st':St} (h:AL C ops rest Q st') (hg:qaq ops st.env o=some true:=by first | exact qb4 rfl rfl (by exact rfl) (by exact rfl) | exact qbe rfl) (hd:qba C.N o=true:=by rfl)
  (hr:((aop C.P C.B (ev st.env) o).run (qcq st.heap)).map (fun vu=>(⟨qd7 st.env o.dst vu.1,qm9 st.heap vu.2⟩:St))=some st':=by simp only [go_sem,seval, *];exact rfl):AL C ops (o :: rest) Q st:=q77 hg hd hr h
theorem yg {ops:Array Oper} {K:List Evt→St→Prop} {o:Oper} {rest:List Oper} {acc:List Evt} {st':St} {e:Evt} (h:DGo C ops rest st' (e :: acc) K) (hg:qaq ops st.env o=some true:=by first | exact qb4 rfl rfl (by exact rfl) (by exact rfl) | exact qbe rfl) (hd:qba C.N o=true:=by rfl)
  (hr:((aop C.P C.B (ev st.env) o).run (qcq st.heap)).map (fun vu=>((⟨vu.1,vu.2,(aop C.P C.B (ev st.env) o).reads (qcq st.heap)⟩:Evt),(⟨qd7 st.env o.dst vu.1,qm9 st.heap vu.2⟩:St)))=some (e,st'):=by simp only [go_sem,seval, *];first | exact ⟨rfl,rfl⟩ | exact rfl):DGo C ops (o :: rest) st acc K:=DGo.gt' hg hd hr h
theorem zc {ops:Array Oper} {o:Oper} {rest:List Oper} {f:Operand} {args:Array Operand} {ats:Array TypeId} {k:FuncId} {avs:List AV} {pargs:List PV} {r:PV} {st':St}
  (hp:Con C.D C.P k pargs r) (h:AL C ops rest Q st')
  (ho:o.op=.call ⟨.value f,args,ats⟩:=by rfl) (hg:qaq ops st.env o=some true:=by first | exact qbe rfl | exact qb4 rfl rfl (by exact rfl) (by exact rfl)) (hd:qba C.N o=true:=by rfl)
  (hc:qcg st.env f args.toList=some (k,avs):=by simp only [go_sem,seval, *];exact rfl) (hv:(qau (qdx (fun _=>true) 9) avs).run (qcq st.heap)=some pargs:=by simp only [go_sem,seval, *];all_goals exact zF)
  (hfl:(ql7 avs).isSome=true∨r.flat=true:=by first | exact .inr rfl | exact .inl rfl | exact .inl (by simp only [go_sem]))
  (hs:(⟨qd7 st.env o.dst (.p r),st.heap⟩:St)=st':=by rfl):AL C ops (o :: rest) Q st:=vg8 ho hg hd hc hv hp hfl hs h
theorem yc {ops:Array Oper} {K:List Evt→St→Prop} {o:Oper} {f:Operand} {args:Array Operand} {ats:Array TypeId} {rest:List Oper} {acc:List Evt}
  {k:FuncId} {avs:List AV} {pargs:List PV} {r:PV} {rs:List Nat} {st':St}
  (hp:Con C.D C.P k pargs r) (h:DGo C ops rest st' (⟨.p r,none,rs⟩ :: acc) K)
  (ho:o.op=.call ⟨.value f,args,ats⟩:=by rfl) (hg:qaq ops st.env o=some true:=by first | exact qbe rfl | exact qb4 rfl rfl (by exact rfl) (by exact rfl)) (hd:qba C.N o=true:=by rfl)
  (hc:qcg st.env f args.toList=some (k,avs):=by simp only [go_sem,seval, *];exact rfl) (hv:(qau (qdx (fun _=>true) 9) avs).run (qcq st.heap)=some pargs:=by simp only [go_sem,seval, *];all_goals exact zF)
  (hrs:(qau (qdx (fun _=>true) 9) avs).reads (qcq st.heap)=rs:=by simp only [go_sem,seval, *];exact rfl)
  (hfl:(ql7 avs).isSome=true∨r.flat=true:=by first | exact .inr rfl | exact .inl rfl | exact .inl (by simp only [go_sem]))
  (hs:(⟨qd7 st.env o.dst (.p r),st.heap⟩:St)=st':=by rfl):DGo C ops (o :: rest) st acc K:=DGo.con' ho hg hd hc hv hrs hp hfl hs h
theorem yV {ops:Array Oper} {K:List Evt→St→Prop} {l:List Oper} {acc acc':List Evt} (n:Nat) {st':St} (h:DGo C ops (l.drop n) st' acc' K)
  (hr:qis C.P C.N C.B ops (l.take n) st acc=(acc',st',[]):=by simp only [go_sem,seval, *];first | exact ⟨rfl,rfl⟩ | exact rfl):DGo C ops l st acc K:=by
 rw [←vti n l];exact DGo.append h _ _ _ hr
theorem yS {ops:Array Oper} {K:List Evt→St→Prop} {o:Oper} {t:TypeId} {len:Nat} {qap:Array (Nat×Operand)} {rest:List Oper} {st':St} {acc:List Evt} {v:AV} {u:Upd} {x:PV} {r1 r2:List Nat} (k:Nat)
  (h:DGo C ops rest st' (⟨.p x,none,r1++r2⟩ :: acc) K) (ho:o.op=.buildSlice t len qap:=by rfl) (hg:qaq ops st.env o=some true:=by first | exact qbe rfl | exact qb4 rfl rfl (by exact rfl) (by exact rfl)) (hd:qba C.N o=true:=by rfl) (hk:qhl C.B o=k:=by rfl)
  (hr:(aop C.P C.B (ev st.env) o).run (qcq st.heap)=some (v,u):=by simp only [go_sem,seval, *];first | exact ⟨rfl,rfl⟩ | exact rfl) (h1:(aop C.P C.B (ev st.env) o).reads (qcq st.heap)=r1:=by simp only [go_sem,seval, *];exact rfl)
  (hv:(qdx (fun l=>l == k) 9 v).run (qcq (qm9 st.heap u))=some x:=by simp only [go_sem,seval, *];all_goals exact zF) (h2:(qdx (fun l=>l == k) 9 v).reads (qcq (qm9 st.heap u))=r2:=by simp only [go_sem,seval, *];exact rfl)
  (hs:(⟨qd7 st.env o.dst (.p x),st.heap⟩:St)=st':=by rfl):DGo C ops (o :: rest) st acc K:=DGo.built ho hg hd hk hr h1 hv h2 hs h
theorem zw {ops:Array Oper} {l:List Oper} (d:Nat) (b:Bool) {h:List (Nat×AO)} {env:Env} (k:AL C ops l Q ⟨(d,.p (.bool b)) :: env,h⟩) (hv:env.get d=.p (.bool b):=by simp only [go_sem,seval, *];all_goals first | assumption | exact Bool.eq_false_iff.2 (by assumption)):AL C ops l Q ⟨env,h⟩:=vbt hv k
theorem yw {l0:Array Oper} {l:List Oper} (d:Nat) (b:Bool) {h:List (Nat×AO)} {env:Env} {acc:List Evt} (k:DGo C l0 l ⟨(d,.p (.bool b)) :: env,h⟩ acc (DK C l0 Q)) (hv:env.get d=.p (.bool b):=by simp only [go_sem,seval, *];all_goals first | assumption | exact Bool.eq_false_iff.2 (by assumption)):DGo C l0 l ⟨env,h⟩ acc (DK C l0 Q):=DGo.known' hv k
theorem zi {c:Operand} {x y:Code} (h:AWp C x Q st) (hc:ev st.env c=.p (.bool true):=by simp only [go_sem,seval, *];all_goals first | assumption | exact Bool.eq_false_iff.2 (by assumption)):AWp C (.cond c x y) Q st:=vet hc h
theorem zj {c:Operand} {x y:Code} (h:AWp C y Q st) (hc:ev st.env c=.p (.bool false):=by simp only [go_sem,seval, *];all_goals first | assumption | exact Bool.eq_false_iff.2 (by assumption)):AWp C (.cond c x y) Q st:=veu hc h
theorem zh {ops:Array Oper} {l l':List Oper} {env env':Env} {h:List (Nat×AO)} (k:AL C ops l' Q ⟨env',h⟩) (he:qte C.N ops l env=(l',env'):=by exact rfl):AL C ops l Q ⟨env,h⟩:=q3j he k
theorem yk {l0:Array Oper} {K:List Evt→St→Prop} {l l':List Oper} {env env':Env} {acc acc':List Evt} {h:List (Nat×AO)} (k:DGo C l0 l' ⟨env',h⟩ acc' K) (he:qpv C.N l0 l env acc=(l',env',acc'):=by exact rfl):DGo C l0 l ⟨env,h⟩ acc K:=DGo.skips he k
theorem zE {s s':St} (h:Le C s s':=by simp only [go_sem,seval, *];all_goals exact zF):Le C s s':=h
theorem zL {c:Code} (st':St) (k:AWp C c Q st') (h:Le C st st':=by simp only [go_sem,seval, *];all_goals exact zF):AWp C c Q st:=qv4 h k
theorem zM {ops:Array Oper} {l:List Oper} (st':St) (k:AL C ops l Q st') (h:Le C st st':=by simp only [go_sem,seval, *];all_goals exact zF):AL C ops l Q st:=vf3 h k
theorem zT {P:Program} {fn:Func} {r:PV} {s:St} {v:AV} {rs:_} (he:fn.results=rs) (h1:q7g P s rs.toList=some v:=by simp only [go_sem,seval, *];exact rfl) (h2:(qdx (fun _=>true) 9 v).run s.sig=some r:=by simp only [go_sem,seval, *];all_goals exact zF):vjo P fn r .ret s:=qxm (by rw [he];exact h1) h2
theorem q1y (k:Nat):argsEnv k []=[]:=rfl
theorem qzm (k:Nat) (x:PV) (r:List PV):argsEnv k (x :: r)=(k,.p x) :: argsEnv (k+1) r:=rfl
theorem zP {P:Program} {f:FuncId} {fn:Func} {c:Code} {args:List PV} {r:PV} {N:Nat} {env:Env} (hk:HasBody P f) (hf:P.funcs[f]?=some fn) (hb:fn.body=some c) (hN:fn.ntmps=N)
  (h:∀X w hT,AWp ⟨P,N,0,X,[],fun _=>none,w,D,hT⟩ c (vjo P fn r) ⟨env,[]⟩) (hn:args.length≤N:=by simp) (he:argsEnv 0 args=env:=by simp only [q1y,qzm,Nat.reduceAdd];exact rfl):Con D P f args r :=
 ⟨hk,qs2 hf hb hN hn (by subst he;exact h)⟩
theorem zB {α β:Type} {x:Option α} {f:α→Option β} {r:β} (h:x.bind f=some r):∃a,x=some a∧f a=some r:=vtr.1 h
theorem zI {c:Prop} [Decidable c] {α:Type} {a b:Option α} {r:α} (h:(if c then a else b)=some r):(c∧a=some r)∨(¬c∧b=some r):=by
 split at h
 ·exact .inl ⟨‹c›,h⟩
 ·exact .inr ⟨‹_›,h⟩
theorem zX {α β:Type} {l:List α} {i:Int} {f:α→Option β} {r:β} (h:(idx l i).bind f=some r):∃x,l[i.toNat]?=some x∧0≤i∧i < (l.length:Int)∧f x=some r:=by
 obtain ⟨x,h1,h2⟩:=vtr.1 h;obtain ⟨a,b,c⟩:=vbs h1;exact ⟨x,b,a,c,h2⟩
theorem zY {α β:Type} {l:List α} {n:Nat} (k:Int) {f:α→Option β} {r:β} (h:(l[n]?).bind f=some r) (hk:(n:Int)=k:=by rfl):∃x,l[n]?=some x∧n < l.length∧k < (l.length:Int)∧f x=some r:=by
 obtain ⟨x,h1,h2⟩:=vtr.1 h;have:=qcr h1;exact ⟨x,h1,this,by omega,h2⟩
def tE (C:Cx) (k:Exit) (t:St) (e:Exit) (s:St):Prop:=e=k∧Le C s t
def tR (P:Program) (fn:Func) (r:PV) (e:Exit) (s:St):Prop:=e=.ret∧vjo P fn r .ret s
theorem zO {σ τ:Type} {c:Code} {B:σ→Option (LS σ τ)} {s0:σ} {t:τ} (S:σ→St) (T:τ→Exit→St→Prop) (hL:qal B s0=some t)
  (round:∀s x,B s=some x→AWp C c (LP C S T x) (S s)) (post:∀e s,T t e s→Wk C Q e s) (h0:Le C st (S s0):=by simp only [go_sem,seval, *];all_goals exact zF)
  (hn:∀t s,¬T t .normal s:=by intro o s hT;first | (have hh:=hT.1;cases hh;done) | (rcases o with _ | _ <;> (have hh:=hT.1;cases hh);done) | (rcases o with _ | (_ | _) <;> (have hh:=hT.1;cases hh);done) | (rcases o with _ | (_ | (_ | _)) <;> (have hh:=hT.1;cases hh);done)):AWp C (.loop c) Q st:=q5r S T hn hL h0 round post
theorem zA {k:Exit} {t:St} (h:Q k t):∀e s,tE C k t e s→Wk C Q e s:=by
 rintro e s ⟨rfl,hl⟩;exact Wk.to hl h
theorem zZ {P:Program} {fn:Func} {r:PV} (h:∀s,vjo P fn r .ret s→Q .ret s):∀e s,tR P fn r e s→Wk C Q e s:=by
 rintro e s ⟨rfl,hq⟩;exact Wk.now (h s hq)
theorem zJ {τ:Type} {x y:Code} (T:τ→Exit→St→Prop) (o:τ) (h:AWp C x (T o) st) (hq:∀e s,T o e s→Wk C (qr3 (fun s=>AWp C y Q s) Q) e s):AWp C (.seq x y) Q st:=vbr h hq
end Go.Ab
namespace Go.Ab
variable {D:Prop}
open Go
variable {X:Nat→Prop} {inj:Inj} {σ:Nat→AO} {w:World}
theorem qxp (F cur:Array Value) (h:F.size≤cur.size):(Sort.putCells id 0 F cur).toList.take F.size=F.toList∧(Sort.putCells id 0 F cur).size=cur.size:=by
 refine ⟨?_,by simp [Sort.putCells]⟩;apply vp7;intro k;simp only [Sort.putCells,vqj,vpi,vr9];by_cases hk:k < F.size
 ·have hc:k < cur.size:=by omega
  simp [hk,hc]
 ·simp [hk]
theorem HR.rows (h:HR X inj σ w) {l e sz g b c m:Nat} {es es':List AV} {vs':List Value} {os:Array Obj} (hl:σ l=.arr e sz g es) (hi:inj l=some (b,c))
  (hlen:es'.length=es.length) (hes:ARs X inj σ w es' vs') (hs:∀v∈vs',v.cells.size=sz) (hone:qa0 (flat vs')) :
  HR X inj (qit σ l (.arr e sz g es')) (Sort.grow (Sort.putRow id (Sort.ahead w m) b 0 (flat vs').toArray) os) ∧
  Ev D X inj σ w inj (qit σ l (.arr e sz g es')) (Sort.grow (Sort.putRow id (Sort.ahead w m) b 0 (flat vs').toArray) os):=by
 obtain ⟨vs,h1,h2,h3,h4⟩:=h.obj l _ hl;rcases h4 with ⟨h4,_⟩ | ⟨b',c',cur,h5,h6,h7,h8,h9,h10,h11⟩
 ·rw [hi] at h4;cases h4
 rw [hi] at h5;cases h5;have hb:b < w.heap.size:=(vpf.1 h7).1;have hold:∀k,k < w.heap.size→k≠b→(Sort.grow (Sort.putRow id (Sort.ahead w m) b 0 (flat vs').toArray) os).heap[k]?=w.heap[k]?:=by
  intro k hk hne;rw [Sort.heap_grow_old _ _ (by simp [Sort.putRow,Sort.mapBlock,Sort.ahead];exact hk)];simp [Sort.putRow,Sort.mapBlock,Sort.ahead,vsa,Ne.symm hne]
 have hnew:(Sort.grow (Sort.putRow id (Sort.ahead w m) b 0 (flat vs').toArray) os).heap[b]?=some (.cells (Sort.putCells id 0 (flat vs').toArray cur) e (0,0)):=by
  rw [Sort.heap_grow_old _ _ (by simp [Sort.putRow,Sort.mapBlock,Sort.ahead];exact hb)];simp [Sort.putRow,Sort.mapBlock,Sort.ahead,vsa,h7,Sort.onCells]
 have hup:=h.update (D:=D) (w':=Sort.grow (Sort.putRow id (Sort.ahead w m) b 0 (flat vs').toArray) os) (l:=l) (o:=.arr e sz g es) (o':=.arr e sz g es') (x:=inj l) hl rfl rfl rfl
  (fun _=>by simp [Sort.grow,Sort.putRow,Sort.mapBlock,Sort.ahead]) (by simp [Sort.grow,Sort.putRow,Sort.mapBlock,Sort.ahead])
  (fun a ha=>by
   unfold World.frozen?;by_cases hab:a.block=b
   ·rw [hab,hnew,h7]
   ·rw [hold _ ha hab])
  (fun k hk hne=>hold k hk (fun e=>hne rfl c (by rw [e];exact hi)))
  (fun b1 c1 h1=>.inr ⟨rfl,_,h1⟩) ⟨vrj _,fun _ _=>⟨rfl,.inl ⟨e,sz,es,es',rfl,rfl,hlen.symm⟩⟩⟩
 obtain ⟨hev,hhr⟩:=hup;have hinj:(fun k=>if k=l then inj l else inj k)=inj:=by
  funext k;by_cases hk:k=l
  ·rw [if_pos hk,hk]
  ·rw [if_neg hk]
 rw [hinj] at hev hhr;have hvl:vs'.length=es'.length:=hes.length.symm;have hfl:(flat vs').length=es'.length * sz:=by rw [qa9 hs,hvl]
 have hle:(flat vs').toArray.size≤cur.size:=by
  rw [vq6,hfl,h10,hlen];exact vrq _ h8
 obtain ⟨t1,t2⟩:=qxp (flat vs').toArray cur hle;refine ⟨hhr ⟨vs',ARs.ev hev h.xlt _ _ hes,hs,hone,.inr ⟨b,c,_,hi,h6,hnew,by omega,h9,by rw [t2];exact h10,?_⟩⟩,hev⟩;rw [vq6,hfl] at t1;exact t1
theorem Keeps.rows {Y:Nat→Prop} {b m:Nat} {F:Array Value} {os:Array Obj} (hY:Y b):Keeps Y Y w (Sort.grow (Sort.putRow id (Sort.ahead w m) b 0 F) os):=by
 refine ⟨by simp [Sort.grow,Sort.putRow,Sort.mapBlock,Sort.ahead],fun k hk hn=>?_,fun _ _ h=>h⟩;rw [Sort.heap_grow_old _ _ (by simp [Sort.putRow,Sort.mapBlock,Sort.ahead];exact hk)];have:b≠k:=fun e=>hn (e ▸ hY)
 simp [Sort.putRow,Sort.mapBlock,Sort.ahead,vsa,this]
theorem Fr.grow {w':World} (h:Fr True w w'):∃q os,w'=Sort.grow (w.drewN q) os:=by
 refine ⟨w'.drawn - w.drawn,w'.heap.extract w.heap.size w'.heap.size,?_⟩;have hh:w'.heap=w.heap++w'.heap.extract w.heap.size w'.heap.size:=by
  apply vr7;intro k;rw [vpe];by_cases hk:k < w.heap.size
  ·rw [if_pos hk,h.blk k hk]
  ·rw [if_neg hk,Array.getElem?_extract];have hsz:=h.size;by_cases hk':k < w'.heap.size
   ·rw [if_pos (by omega)];congr 1;omega
   ·rw [if_neg (by omega),Array.getElem?_eq_none (by omega)]
 cases w' with
 | mk heap tape drawn os output =>
  have h1:=h.os;have h2:=h.tape;have h3:=h.output;have h4:=h.dr trivial;simp only at h1 h2 h3 h4 hh;subst h1 h2 h3;simp only [Sort.grow,World.drewN,World.mk.injEq,and_true,true_and];exact ⟨hh,by omega⟩
open Go.Proofs Go.Sort in
structure Srt1 (P:Program) (k:FuncId):Prop where
 body:HasBody P k
 rows:∀{α:Type} [Inhabited α] (enc:α→Value) (h1:OneCell enc) (cf:α→α→Int) (hO:SWO (ltOf cf)) (g:Nat) (cb:Array Value) (blk off cap:Nat) (d:Array α) (w:World),
  (∀args w,(callFunc g args).run P w=.ok (.enter g args) w)→CmpLays1 P g cb enc cf blk off d.size w→Holds enc w blk off d→blk < w.heap.size→d.size < 4611686018427387904 →
  Calls P k #[.slice (some ⟨blk,off,none⟩) d.size cap,.func (.func g) #[] cb] w fun e w' =>
   e=.returned (.tuple #[])∧∃n os,w'=sortWorld enc w blk off n (pdq (ltOf cf) d 0 d.size (vsl d.size) true true) os
 none:∀(p:Option Addr) (cap:Nat) (fv:Value) (w:World),Calls P k #[.slice p 0 cap,fv] w fun e w'=>e=.returned (.tuple #[])∧w'=w
def qc8 {α:Type} (a:α) (r:List α) (i:Nat):α:=(a :: r).getD i a
theorem qnh {α:Type} (a:α) (r:List α) (i:Nat):qc8 a r i∈a :: r:=by
 unfold qc8;rw [vsr];cases h:(a :: r)[i]? with
 | none=>simp
 | some x=>exact vqx h
def srt {α:Type} (c:α→α→Int):List α→List α
 | []=>[]
 | a :: r=>(Sort.pdq (Go.Proofs.ltOf fun i j=>c (qc8 a r i) (qc8 a r j)) (vpk (r.length+1)) 0 (r.length+1) (vsl (r.length+1)) true true).toList.map (qc8 a r)
def qzn {α:Type} (c:α→α→Int) (l:List α):Prop :=
 (∀x∈l,¬c x x < 0)∧(∀x∈l,∀y∈l,∀z∈l,c x y < 0→c y z < 0→c x z < 0)∧(∀x∈l,∀y∈l,∀z∈l,¬c x y < 0→¬c y z < 0→¬c x z < 0)
open Classical in
def q62 {α:Type} (c:α→α→Option Int) (l:List α):Option (List α) :=
 if (∀x∈l,∀y∈l,(c x y).isSome=true)∧qzn (fun x y=>(c x y).getD 0) l∧l.length < 4611686018427387904 then some (srt (fun x y=>(c x y).getD 0) l) else none
theorem qzn.swo {α:Type} {c:α→α→Int} {a:α} {r:List α} (h:qzn c (a :: r)):Sort.SWO (Go.Proofs.ltOf fun i j=>c (qc8 a r i) (qc8 a r j)):=by
 obtain ⟨h1,h2,h3⟩:=h;have m:=qnh a r;refine ⟨fun x=>?_,fun x y z a b=>?_,fun x y z a b=>?_⟩
 ·simp only [Go.Proofs.ltOf,decide_eq_false_iff_not];exact h1 _ (m x)
 ·simp only [Go.Proofs.ltOf,decide_eq_true_eq] at *;exact h2 _ (m x) _ (m y) _ (m z) a b
 ·simp only [Go.Proofs.ltOf,decide_eq_false_iff_not] at *;exact h3 _ (m x) _ (m y) _ (m z) a b
theorem qxq {α:Type} {c:α→α→Int} {a:α} {r:List α} (h:qzn c (a :: r)) :
  Sort.PermIn 0 (r.length+1) (vpk (r.length+1)) (Sort.pdq (Go.Proofs.ltOf fun i j=>c (qc8 a r i) (qc8 a r j)) (vpk (r.length+1)) 0 (r.length+1) (vsl (r.length+1)) true true) ∧
  Sort.SortedIn (Go.Proofs.ltOf fun i j=>c (qc8 a r i) (qc8 a r j)) 0 (r.length+1) (Sort.pdq (Go.Proofs.ltOf fun i j=>c (qc8 a r i) (qc8 a r j)) (vpk (r.length+1)) 0 (r.length+1) (vsl (r.length+1)) true true):=by
 have:=Sort.pdq_sorts _ h.swo (vpk (r.length+1)) 0 (r.length+1) (vsl (r.length+1)) true true (vtq _) (by simp) (Or.inl rfl);exact ⟨this.1,this.2⟩
theorem q8d {α:Type} (a:α) (r:List α):(vq3 (r.length+1)).map (qc8 a r)=a :: r:=by
 apply vp7;intro i;rw [vqg];by_cases hi:i < r.length+1
 ·rw [List.getElem?_range hi,vqd (by simpa using hi)];simp [qc8,List.getD,vqd (show i < (a :: r).length by simpa using hi)]
 ·rw [vqe (by simpa using hi),vqe (by simpa using hi)];rfl
theorem qxr {α:Type} {c:α→α→Int} {l:List α} (h:qzn c l):(srt c l).Perm l:=by
 cases l with
 | nil=>exact List.Perm.refl _
 | cons a r =>
  obtain ⟨⟨p1,_,p3⟩,_⟩:=qxq h;have e:∀d:Array Nat,d.size=r.length+1→d.extract 0 (r.length+1)=d:=fun d hd=>by rw [←hd];simp
  rw [e _ (by rw [p1];simp),e _ (by simp)] at p3;have:=p3.map (qc8 a r);simp only [Array.toList_range,q8d] at this;exact this
theorem q5w {α:Type} {c:α→α→Int} {l:List α} (h:qzn c l):(srt c l).Pairwise fun x y=>¬c y x < 0:=by
 cases l with
 | nil=>exact List.Pairwise.nil
 | cons a r =>
  obtain ⟨⟨p1,_,p3⟩,hs⟩:=qxq h;show List.Pairwise _ ((Sort.pdq (Go.Proofs.ltOf fun i j=>c (qc8 a r i) (qc8 a r j)) (vpk (r.length+1)) 0 (r.length+1) (vsl (r.length+1)) true true).toList.map (qc8 a r));generalize Sort.pdq (Go.Proofs.ltOf fun i j=>c (qc8 a r i) (qc8 a r j)) (vpk (r.length+1)) 0 (r.length+1) (vsl (r.length+1)) true true=d at p1 hs ⊢;rw [List.pairwise_map,List.pairwise_iff_getElem];intro i j hi hj hij;simp only [vpj] at hi hj;have:=hs i j (vtq _) hij (by rw [p1] at hj;simpa using hj);rw [getElem!_pos d i hi,getElem!_pos d j hj] at this;simpa [Go.Proofs.ltOf] using this
theorem qq4 {α:Type} [Inhabited α] (enc:α→Value) (w:World) (b:Nat) (d:Array α):Sort.putRow enc w b 0 d=Sort.putRow id w b 0 (d.map enc):=by
 unfold Sort.putRow;refine Sort.mapBlock_congr _ _ _ _ fun c _ _ _=>?_
 unfold Sort.putCells;apply vr7;intro k;simp only [vr9,Array.size_map,vrt,vru,vtq,true_and];cases c[k]? with
 | none=>rfl
 | some x =>
  simp only [vr0];by_cases hk:k < d.size
  ·rw [if_pos hk,if_pos hk,getElem!_pos d k hk,getElem!_pos (d.map enc) k (by simpa using hk)];simp
  ·rw [if_neg hk,if_neg hk]
theorem qiw:∀{vs:List Value},(∀v∈vs,v.oneCell'=true)→flat vs=vs
 | [],_=>rfl
 | v :: vs,h=>by
  rw [qha,qiw fun u hu=>h u (vs8 _ hu)];have h1:=h v (vs9);have:v.cells=#[v]:=by
   cases v <;> first | rfl | simp [Value.oneCell'] at h1
  rw [this];rfl
variable {C:Cx} {Q:Exit→St→Prop} {st:St}
theorem vhe {α:Type} {ops:Array Oper} {o:Oper} {rest:List Oper} {f:Operand} {args:Array Operand} {ats:Array TypeId} {k kc:FuncId} {caps:List PV} {fv:AV} {e g n L:Nat}
  (S:Srt1 C.P k) (enc:α→PV) (h1:∀x,(AV.p (enc x)).one=true) (c:α→α→Option Int) {l l':List α} (hl:q62 c l=some l')
  (hc:∀x y r,c x y=some r→Con True C.P kc (enc x :: enc y :: caps) (.int .i64 r))
  (ho:o.op=.call ⟨.value f,args,ats⟩) (hg:qaq ops st.env o=some true) (hd:qba C.N o=true)
  (hk:qcg st.env f args.toList=some (k,[.own L g 0 n,fv])) (hfv:(qdx (fun q=>q != L) 9 fv).run st.sig=some (.func (.func kc) caps))
  (hobj:qcq st.heap L=.arr e 1 g (vs3 AV.p (vs3 enc l))) (hn:n=l.length)
  (h:AL C ops rest Q ⟨qd7 st.env o.dst (.p (.tup [])),qw9 st.heap L (.arr e 1 g (vs3 AV.p (vs3 enc l')))⟩):AL C ops (o :: rest) Q st:=by
 intro inj a w hs;simp only [wpList,qbm hs hg,if_true];refine .inl ?_;obtain ⟨vs,hrun,hars⟩:=qn6 hs ho S.body hk;unfold Oper.wp;rw [hrun];simp only [Oper.upon];obtain ⟨v1,r1,rfl,ha1,v2,r2,rfl,ha2,rfl⟩:=hars;have hp2:=qdq hs.hr (fun q=>q != L) 9 fv v2 _ ha2 hfv;obtain ⟨cvs,rfl,hcaps⟩:=hp2;obtain ⟨⟨sa,sn,sc,rfl⟩,hown⟩:=ha1;obtain ⟨_,hown⟩:=hown _ hobj;obtain ⟨hle,hcase⟩:=hown rfl e 1 _ rfl;unfold q62 at hl;split at hl
 case isFalse=>cases hl
 rename_i hcond;obtain ⟨hdef,hok,hlt⟩:=hcond;obtain rfl:=vtu hl;cases l with
 | nil =>
  subst hn;have hnone:∃p cap,Value.slice sa sn sc=.slice p 0 cap:=by
   rcases hcase with ⟨_,h2,_⟩ | ⟨b,c0,a0,_,h2,_⟩
   ·exact ⟨none,0,h2⟩
   ·exact ⟨_,_,h2⟩
  obtain ⟨p,cap,hpc⟩:=hnone;rw [hpc];refine (S.none p cap _ w).mono ?_;rintro e' w' ⟨rfl,rfl⟩;have hsame:upd st.sig (some (L,.arr e 1 g (vs3 AV.p (vs3 enc []))))=st.sig:=by
   funext q;simp only [upd,qit];by_cases hq:q=L
   ·rw [if_pos hq,hq];exact hobj.symm
   ·rw [if_neg hq]
  exact h inj _ _ (hs.put (u:=some (L,.arr e 1 g (vs3 AV.p (vs3 enc [])))) hd (by rw [hsame];exact hs.hr) (by rw [hsame];exact Ev.refl _ _ _ _) (v:=.p (.tup [])) ⟨[],rfl,rfl⟩)
 | cons x0 r =>
  obtain ⟨vs,o1,o2,o3,o4⟩:=hs.hr.obj L _ hobj;have hvl:vs.length=r.length+1:=by rw [←o1.length];simp
  rcases hcase with ⟨_,_,_,h4⟩ | ⟨b,cp,a0,hi,h2,h3,h4⟩
  ·rw [hn] at h4;simp at h4
  have ha0:a0=some ⟨b,0,none⟩:=by
   rcases h4 with ⟨h4,_⟩ | h4
   ·exact absurd rfl h4
   ·simpa using h4
  rw [h2,ha0,hn];rcases o4 with ⟨o4,_⟩ | ⟨b',c',cur,i1,i2,i3,i4,i5,i6,i7⟩
  ·rw [hi] at o4;cases o4
  rw [hi] at i1;cases i1;have hb:b < w.heap.size:=(vpf.1 i3).1;have hone:∀v∈vs,v.oneCell'=true:=by
   intro v hv;obtain ⟨j,hj,rfl⟩:=List.getElem_of_mem hv;have hj':j < (x0 :: r).length:=by simp;omega
   obtain ⟨u,hu,hr⟩:=o1.get (i:=j) (p:=.p (enc ((x0 :: r)[j]))) (by rw [vqg,vqg,vqd hj'];rfl);rw [vqd hj] at hu;cases hu;exact AR.one_of (h1 _) hr
  obtain ⟨v0,vr,hv0⟩:∃v0 vr,vs=v0 :: vr:=by cases vs with | nil=>simp at hvl | cons v0 vr=>exact ⟨v0,vr,rfl⟩
  have hvr:vr.length=r.length:=by rw [hv0] at hvl;simpa using hvl
  -- what lies at i
  have hat:∀i,AR C.X inj st.sig w (.p (enc (qc8 x0 r i))) (qc8 v0 vr i):=by
   intro i;unfold qc8;by_cases hii:i < r.length+1
   ·obtain ⟨u,hu,hr⟩:=o1.get (i:=i) (p:=.p (enc ((x0 :: r)[i]'(by simpa using hii)))) (by rw [vqg,vqg,vqd (show i < (x0 :: r).length by simpa using hii)];rfl);rw [hv0] at hu;rw [vsr,vsr,hu,vqd (show i < (x0 :: r).length by simpa using hii)];exact hr
   ·obtain ⟨u,hu,hr⟩:=o1.get (i:=0) (p:=.p (enc x0)) (by simp);rw [hv0] at hu;simp only [vst,vr1] at hu;subst hu;rw [vsr,vsr,vqe (by simp;omega),vqe (by simp;omega)];exact hr
  have honeAt:∀i,(qc8 v0 vr i).oneCell'=true:=fun i=>hone _ (by rw [hv0];exact qnh v0 vr i)
  have hfl:flat vs=vs:=qiw hone;have hY:∀q,(C.X q∨q23 (fun q=>q != L) inj st.sig q)→q < w.heap.size:=fun q hq=>hq.elim (hs.hr.xlt q) fun hf=>(hs.hr.flt hf).1
  have hYb:C.X b∨q23 (fun q=>q != L) inj st.sig b:=.inr ⟨L,cp,_,hobj,rfl,by simp,hi⟩;have hK0:Keeps (fun q=>C.X q∨F inj st.sig q) (fun q=>C.X q∨q23 (fun q=>q != L) inj st.sig q) w w :=
   ⟨vrj _,fun _ _ _=>rfl,fun q _ hn hq=>hn (hq.imp id fun ⟨l,c,o,a1,a2,_,a4⟩=>⟨l,c,o,a1,a2,rfl,a4⟩)⟩
  have hsome:∀i j,c (qc8 x0 r i) (qc8 x0 r j)=some ((c (qc8 x0 r i) (qc8 x0 r j)).getD 0):=by
   intro i j;obtain ⟨z,hz⟩:=vry.1 (hdef _ (qnh x0 r i) _ (qnh x0 r j));rw [hz];rfl
  have hcon0:=hc _ _ _ (hsome 0 0);have hrows:=S.rows (qc8 v0 vr) honeAt (fun i j=>(c (qc8 x0 r i) (qc8 x0 r j)).getD 0) hok.swo kc cvs.toArray b 0 (cp - 0) (vpk (r.length+1)) w hcon0.body;rw [Array.size_range] at hrows;refine (hrows ?_ ?_ hb (by simpa using hlt)).mono ?_
  ·intro m os dk hdk x y;have hW:Go.Proofs.sortWorld (qc8 v0 vr) w b 0 m dk os=Sort.grow (Sort.putRow id (Sort.ahead w m) b 0 (dk.map (qc8 v0 vr))) os:=by
    unfold Go.Proofs.sortWorld;rw [qq4]
   rw [hW];have hK:=Keeps.rows (w:=w) (b:=b) (m:=m) (F:=dk.map (qc8 v0 vr)) (os:=os) (Y:=fun q=>C.X q∨q23 (fun q=>q != L) inj st.sig q) hYb;generalize hWW:Sort.grow (Sort.putRow id (Sort.ahead w m) b 0 (dk.map (qc8 v0 vr))) os=W at hK;have hcon:=hc _ _ _ (hsome x y);have hcall:=hcon.pure (fun q=>C.X q∨q23 (fun q=>q != L) inj st.sig q) W (qc8 v0 vr x :: qc8 v0 vr y :: cvs) (fun q hq=>Nat.lt_of_lt_of_le (hY q hq) hK.size) (((qnb hs.ev).keep hK0).keep hK)
    ⟨_,_,rfl,PR.keep hK _ _ (PR.keep hK0 _ _ (hat x)),_,_,rfl,PR.keep hK _ _ (PR.keep hK0 _ _ (hat y)),PRs.keep hK _ _ hcaps⟩
   have hargs:#[qc8 v0 vr x,qc8 v0 vr y]++cvs.toArray=(qc8 v0 vr x :: qc8 v0 vr y :: cvs).toArray:=by simp
   rw [hargs];refine hcall.mono ?_;rintro e' w' ⟨v,rfl,hv,hfr⟩;simp only [PR] at hv;subst hv;exact ⟨rfl,hfr.grow⟩
  ·intro j hj;have hj':j < r.length+1:=by simpa using hj
   have hcj:cur[j]?=some (qc8 v0 vr j):=by
    have h5:(cur.toList.take ((vs3 AV.p (vs3 enc (x0 :: r))).length * 1))[j]?=vs[j]?:=by rw [i7,hfl]
    rw [vqj,if_pos (by simpa using hj'),vpi] at h5;rw [h5,hv0];have:j < (v0 :: vr).length:=by simp;omega
    simp [qc8,vqd this,List.getD]
   have hr:(vpk (r.length+1))[j]! = j:=by rw [getElem!_pos _ j (by simpa using hj')];simp
   rw [hr];refine ⟨?_,?_⟩
   ·simp only [World.cell?,i3,vru];simpa using hcj
   ·simp [World.frozen?,i3]
  ·rintro e' w' ⟨rfl,m,os,rfl⟩;have hp:=qxq hok;have hsr:srt (fun x y=>(c x y).getD 0) (x0 :: r)=(Sort.pdq (Go.Proofs.ltOf fun i j=>(c (qc8 x0 r i) (qc8 x0 r j)).getD 0) (vpk (r.length+1)) 0 (r.length+1) (vsl (r.length+1)) true true).toList.map (qc8 x0 r):=rfl;rw [hsr] at h;generalize Sort.pdq (Go.Proofs.ltOf fun i j=>(c (qc8 x0 r i) (qc8 x0 r j)).getD 0) (vpk (r.length+1)) 0 (r.length+1) (vsl (r.length+1)) true true=d at h hp ⊢;have hds:d.size=r.length+1:=by have:=hp.1.1;simpa using this
   have hfl':(flat (d.toList.map (qc8 v0 vr))).toArray=d.map (qc8 v0 vr):=by
    rw [qiw (fun v hv=>by obtain ⟨i,_,rfl⟩:=vtb.1 hv;exact honeAt i)];apply vpd;simp
   have hW:Go.Proofs.sortWorld (qc8 v0 vr) w b 0 m d os=Sort.grow (Sort.putRow id (Sort.ahead w m) b 0 (flat (d.toList.map (qc8 v0 vr))).toArray) os:=by
    unfold Go.Proofs.sortWorld;rw [qq4,hfl']
   rw [hW];have hars:∀l:List Nat,ARs C.X inj st.sig w (vs3 AV.p (vs3 enc (l.map (qc8 x0 r)))) (l.map (qc8 v0 vr)):=by
    intro l
    induction l with
    | nil=>rfl
    | cons i l ih=>exact ⟨_,_,rfl,hat i,ih⟩
   obtain ⟨hH,hE⟩:=HR.rows hs.hr (m:=m) (os:=os) hobj hi (by simp [hds]) (hars d.toList)
    (fun v hv=>by obtain ⟨i,_,rfl⟩:=vtb.1 hv;exact o2 _ (by rw [hv0];exact qnh v0 vr i))
    (by rw [qiw (fun v hv=>by obtain ⟨i,_,rfl⟩:=vtb.1 hv;exact honeAt i)];intro u hu;obtain ⟨i,_,rfl⟩:=vtb.1 hu;exact honeAt i)
   exact h inj _ _ (hs.put (u:=some (L,_)) hd hH hE (v:=.p (.tup [])) ⟨[],rfl,rfl⟩)
structure SrtI (P:Program) (k:FuncId):Prop where
 body:HasBody P k
 rows:∀(blk off cap:Nat) (zs:List Int) (w:World),Sort.Holds (Value.int .i64) w blk off zs.toArray→blk < w.heap.size→zs.length < 4611686018427387904 →
  Calls P k #[.slice (some ⟨blk,off,none⟩) zs.length cap] w fun e w' =>
   e=.returned (.tuple #[])∧∃n os,w'=Sort.grow (Sort.putRow (Value.int .i64) (Sort.ahead w n) blk off (zs.mergeSort fun x y=>decide (x≤y)).toArray) os
 none:∀(p:Option Addr) (cap:Nat) (w:World),Calls P k #[.slice p 0 cap] w fun e w'=>e=.returned (.tuple #[])∧w'=w
def vbx (l:List Int):List Int:=l.mergeSort fun x y=>decide (x≤y)
def qtf (l:List Int):Option (List Int):=if l.length < 4611686018427387904 then some (vbx l) else none
theorem qsd {X:Nat→Prop} {inj:Inj} {σ:Nat→AO} {w:World}:∀{l:List Int} {vs:List Value},ARs X inj σ w (vs3 AV.p (vs3 (PV.int .i64) l)) vs→vs=l.map (Value.int .i64)
 | [],vs,h=>h
 | x :: l,vs,h=>by
  obtain ⟨v,r,rfl,h2,h3⟩:=h;simp only [AR,PR] at h2;rw [h2,qsd h3];rfl
theorem qtg {X:Nat→Prop} {inj:Inj} {σ:Nat→AO} {w:World}:∀(l:List Int),ARs X inj σ w (vs3 AV.p (vs3 (PV.int .i64) l)) (l.map (Value.int .i64))
 | []=>rfl
 | x :: l=>⟨_,_,rfl,rfl,qtg l⟩
theorem vhf {ops:Array Oper} {o:Oper} {rest:List Oper} {f:Operand} {args:Array Operand} {ats:Array TypeId} {k:FuncId} {e g n L:Nat}
  (S:SrtI C.P k) {l l':List Int} (hl:qtf l=some l')
  (ho:o.op=.call ⟨.value f,args,ats⟩) (hg:qaq ops st.env o=some true) (hd:qba C.N o=true)
  (hk:qcg st.env f args.toList=some (k,[.own L g 0 n]))
  (hobj:qcq st.heap L=.arr e 1 g (vs3 AV.p (vs3 (PV.int .i64) l))) (hn:n=l.length)
  (h:AL C ops rest Q ⟨qd7 st.env o.dst (.p (.tup [])),qw9 st.heap L (.arr e 1 g (vs3 AV.p (vs3 (PV.int .i64) l')))⟩):AL C ops (o :: rest) Q st:=by
 intro inj a w hs;simp only [wpList,qbm hs hg,if_true];refine .inl ?_;obtain ⟨vs,hrun,hars⟩:=qn6 hs ho S.body hk;unfold Oper.wp;rw [hrun];simp only [Oper.upon];obtain ⟨v1,r1,rfl,ha1,rfl⟩:=hars;obtain ⟨⟨sa,sn,sc,rfl⟩,hown⟩:=ha1;obtain ⟨_,hown⟩:=hown _ hobj;obtain ⟨hle,hcase⟩:=hown rfl e 1 _ rfl;unfold qtf at hl;split at hl
 case isFalse=>cases hl
 rename_i hlt;obtain rfl:=vtu hl;rcases hcase with ⟨_,h2,_,hn0⟩ | ⟨b,cp,a0,hi,h2,h3,h4⟩
 ·have hl0:l=[]:=vp6 (by omega);subst hl0;have e0:vbx []=[]:=by simp [vbx]
  rw [e0] at h;rw [h2];refine (S.none none 0 w).mono ?_;rintro e' w' ⟨rfl,rfl⟩;have hsame:upd st.sig (some (L,.arr e 1 g (vs3 AV.p (vs3 (PV.int .i64) []))))=st.sig:=by
   funext q;simp only [upd,qit];by_cases hq:q=L
   ·rw [if_pos hq,hq];exact hobj.symm
   ·rw [if_neg hq]
  exact h inj _ _ (hs.put (u:=some (L,.arr e 1 g (vs3 AV.p (vs3 (PV.int .i64) [])))) hd (by rw [hsame];exact hs.hr) (by rw [hsame];exact Ev.refl _ _ _ _) (v:=.p (.tup [])) ⟨[],rfl,rfl⟩)
 ·obtain ⟨vs,o1,o2,o3,o4⟩:=hs.hr.obj L _ hobj;have ha0:a0=some ⟨b,0,none⟩:=by
   rcases h4 with ⟨h4,_⟩ | h4
   ·exact absurd rfl h4
   ·simpa using h4
  rw [h2,ha0,hn];rcases o4 with ⟨o4,_⟩ | ⟨b',c',cur,i1,i2,i3,i4,i5,i6,i7⟩
  ·rw [hi] at o4;cases o4
  rw [hi] at i1;cases i1;have hb:b < w.heap.size:=(vpf.1 i3).1;have hvs:=qsd o1;have hone:∀l:List Int,∀v∈l.map (Value.int .i64),v.oneCell'=true:=fun l v hv=>by obtain ⟨x,_,rfl⟩:=vtb.1 hv;rfl
  refine (S.rows b 0 (cp - 0) l w ?_ hb hlt).mono ?_
  ·intro j hj;have hj':j < l.length:=by simpa using hj
   have hcj:cur[j]?=some (Value.int .i64 l[j]):=by
    have h5:(cur.toList.take ((vs3 AV.p (vs3 (PV.int .i64) l)).length * 1))[j]?=vs[j]?:=by rw [i7,hvs,qiw (hone l)]
    rw [vqj,if_pos (by simpa using hj'),vpi] at h5;rw [h5,hvs,vqg,vqd hj'];rfl
   have hr:l.toArray[j]! = l[j]:=by rw [getElem!_pos _ j (by simpa using hj')];simp
   rw [hr];refine ⟨?_,?_⟩
   ·simp only [World.cell?,i3,vru];simpa using hcj
   ·simp [World.frozen?,i3]
  ·rintro e' w' ⟨rfl,m,os,rfl⟩;have hfl':(flat ((vbx l).map (Value.int .i64))).toArray=((l.mergeSort fun x y=>decide (x≤y)).toArray).map (Value.int .i64):=by
    rw [qiw (hone _)];apply vpd;simp [vbx]
   rw [qq4,←hfl'];obtain ⟨hH,hE⟩:=HR.rows hs.hr (m:=m) (os:=os) hobj hi (by simp [vbx]) (qtg (vbx l))
    (fun v hv=>by obtain ⟨i,_,rfl⟩:=vtb.1 hv;rfl) (by rw [qiw (hone _)];exact hone _)
   exact h inj _ _ (hs.put (u:=some (L,_)) hd hH hE (v:=.p (.tup [])) ⟨[],rfl,rfl⟩)
theorem qth (l:List Int):(vbx l).Perm l:=List.mergeSort_perm _ _
theorem qpx {l l':List Int} (h:qtf l=some l'):l'.length=l.length:=by
 unfold qtf at h;split at h
 ·cases h;exact (qth l).length_eq
 ·cases h
theorem q3k {α:Type} {c:α→α→Option Int} {l l':List α} (h:q62 c l=some l'):l'.length=l.length:=by
 unfold q62 at h;split at h
 ·rename_i hc;cases h;exact (qxr hc.2.1).length_eq
 ·cases h
theorem zSI {ops:Array Oper} {o:Oper} {rest:List Oper} {f:Operand} {args:Array Operand} {ats:Array TypeId} {k:FuncId} {e g n L:Nat}
  (S:SrtI C.P k) {l l':List Int} (hl:qtf l=some l') (h:AL C ops rest Q ⟨qd7 st.env o.dst (.p (.tup [])),qw9 st.heap L (.arr e 1 g (vs3 AV.p (vs3 (PV.int .i64) l')))⟩)
  (ho:o.op=.call ⟨.value f,args,ats⟩:=by rfl) (hg:qaq ops st.env o=some true:=by first | exact qbe rfl | exact qb4 rfl rfl (by exact rfl) (by exact rfl)) (hd:qba C.N o=true:=by rfl)
  (hk:qcg st.env f args.toList=some (k,[.own L g 0 n]):=by simp only [go_sem,seval, *];first | exact ⟨rfl,rfl,rfl⟩ | exact rfl)
  (hobj:qcq st.heap L=.arr e 1 g (List.map AV.p (List.map (PV.int .i64) l)):=by simp only [go_sem,seval, *];exact rfl) (hn:n=l.length:=by rfl):AL C ops (o :: rest) Q st:=vhf S hl ho hg hd hk hobj hn h
theorem zSF {α:Type} {ops:Array Oper} {o:Oper} {rest:List Oper} {f:Operand} {args:Array Operand} {ats:Array TypeId} {k kc:FuncId} {caps:List PV} {fv:AV} {e g n L:Nat}
  (S:Srt1 C.P k) (enc:α→PV) (c:α→α→Option Int) {l l':List α} (hl:q62 c l=some l') (hc:∀x y r,c x y=some r→Con True C.P kc (enc x :: enc y :: caps) (.int .i64 r))
  (h:AL C ops rest Q ⟨qd7 st.env o.dst (.p (.tup [])),qw9 st.heap L (.arr e 1 g (vs3 AV.p (vs3 enc l')))⟩)
  (h1:∀x,(AV.p (enc x)).one=true:=by intro x;rfl)
  (ho:o.op=.call ⟨.value f,args,ats⟩:=by rfl) (hg:qaq ops st.env o=some true:=by first | exact qbe rfl | exact qb4 rfl rfl (by exact rfl) (by exact rfl)) (hd:qba C.N o=true:=by rfl)
  (hk:qcg st.env f args.toList=some (k,[.own L g 0 n,fv]):=by simp only [go_sem,seval, *];first | exact ⟨⟨rfl,rfl,rfl⟩,rfl⟩ | exact ⟨rfl,rfl,rfl,rfl⟩ | exact rfl) (hfv:(qdx (fun q=>q != L) 9 fv).run st.sig=some (.func (.func kc) caps):=by simp only [go_sem,seval, *];all_goals exact zF)
  (hobj:qcq st.heap L=.arr e 1 g (List.map AV.p (List.map enc l)):=by simp only [go_sem,seval, *];exact rfl) (hn:n=l.length:=by rfl):AL C ops (o :: rest) Q st:=vhe S enc h1 c hl hc ho hg hd hk hfv hobj hn h
end Go.Ab
namespace Go.Ab
variable {D:Prop}
open Go
def q8e (n₀:Nat) (W:World) (sv:Value) (zs:List Int):Prop :=
 (∃a cap,sv=.slice a 0 cap∧zs=[])∨∃b off cap,sv=.slice (some ⟨b,off,none⟩) zs.length cap∧b < n₀∧∀j,j < zs.length→W.cell? ⟨b,off+j,none⟩=some (.int .i64 (zs[j]?.getD 0))
theorem q8e.below {n₀:Nat} {A B:World} (h:RowKit.Below n₀ A B) {sv:Value} {zs:List Int}:q8e n₀ A sv zs→q8e n₀ B sv zs
 | .inl e=>.inl e
 | .inr ⟨b,off,cap,e,hb,hc⟩=>.inr ⟨b,off,cap,e,hb,fun j hj=>(h.cell (p:=⟨b,off+j,none⟩) hb).trans (hc j hj)⟩
theorem q3l {X:Nat→Prop} {w:World}:∀{l:List Int} {vs:List Value},PRs X w (vs3 (PV.int .i64) l) vs→vs=l.map (Value.int .i64)
 | [],vs,h=>h
 | x :: l,vs,h=>by
  obtain ⟨v,r,rfl,h2,h3⟩:=h;simp only [PR] at h2;rw [h2,q3l h3];rfl
variable {C:Cx} {Q:Exit→St→Prop} {st:St}
end Go.Ab
namespace Go.Ab
variable {D:Prop}
open Go
def qwa (C:Cx) (ops:Array Oper):List Evt→Nat→(Nat→AV)×(Nat→AO)→Prop
 | [],_,_=>True
 | e :: es,i,s=>(∃o,ops[i]?=some o∧q1t C ops o s.1 s.2 e)∧qwa C ops es (i+1) (qkf s.1 ((ops[i]?).bind (·.dst)) e.v,upd s.2 e.u)
theorem qwa.at {C:Cx} {ops:Array Oper}:∀{es:List Evt} {i:Nat} {s:(Nat→AV)×(Nat→AO)},qwa C ops es i s→∀j e,i≤j→es[j - i]?=some e →
  ∃o,ops[j]?=some o∧q1t C ops o (apD ops es i (fun m=>decide (m < j)) s).1 (apD ops es i (fun m=>decide (m < j)) s).2 e
 | [],i,s,h,j,e,hj,he=>by simp at he
 | e0 :: es,i,s,h,j,e,hj,he=>by
  obtain ⟨⟨o,ho,hst⟩,hrest⟩:=h;have skip:∀(es':List Evt) (m:Nat) (s':(Nat→AV)×(Nat→AO)),j≤m→apD ops es' m (fun m=>decide (m < j)) s'=s':=by
   intro es'
   induction es' with
   | nil=>intro m s' _;rfl
   | cons x xs ih=>intro m s' hm;simp only [apD];rw [if_neg (by simp;omega)];exact ih (m+1) s' (by omega)
  by_cases hji:j=i
  ·subst hji;simp only [vto,vst,vr1] at he;subst he;rw [skip _ _ _ (vrj _)];exact ⟨o,ho,hst⟩
  ·have hlt:i < j:=by omega
   have:=qwa.at hrest j e (by omega) (by rw [show j - i=(j - (i+1))+1 by omega] at he;simpa using he);simp only [apD];rw [if_pos (by simpa using hlt)];exact this
theorem DCh.chainP {C:Cx} {ops:Array Oper} {l:List Oper} {st:St} {es:List Evt} {st':St} (h:DCh C ops l st es st'):∀i,(∀j,j < l.length→ops[i+j]?=l[j]?) →
  es.length=l.length∧qwa C ops es i (st.env.get,st.sig)∧apD ops es i (fun _=>true) (st.env.get,st.sig)=(st'.env.get,st'.sig):=by
 induction h with
 | nil=>intro i hi;exact ⟨rfl,trivial,rfl⟩
 | @cons o rest st e es st' hd h hr ih =>
  intro i hi;have h0:ops[i]?=some o:=by have:=hi 0 (by simp);simpa using this
  obtain ⟨h3,h1,h2⟩:=ih (i+1) (fun j hj=>by have:=hi (j+1) (by simp;omega);rw [show i+1+j=i+(j+1) by omega,this];simp);have e1:((qkf st.env.get ((ops[i]?).bind (·.dst)) e.v,upd st.sig e.u):(Nat→AV)×(Nat→AO))=((⟨qd7 st.env o.dst e.v,qm9 st.heap e.u⟩:St).env.get,(⟨qd7 st.env o.dst e.v,qm9 st.heap e.u⟩:St).sig):=by
   rw [h0];simp only [vrv,qjk,St.sig,qna]
  refine ⟨by simp [h3],⟨⟨o,h0,hd,?_⟩,?_⟩,?_⟩
  ·rw [qq2,qlr];exact h
  ·rw [e1];exact h1
  ·simp only [apD,if_true];rw [e1];exact h2
theorem qwb {P:Program} {ops:Array Oper} {Q:Exit→Act→World→Prop} (hsl:qgm ops=true) {n:Nat} (hlast:∀j,n≤j→j < ops.size→∀i,i < j→Reach ops j i) :
  ∀(k m fuel:Nat) (listed:Array Bool) (a:Act) (w:World),n≤m→m+k=ops.size→listed.size=ops.size→(∀j,j < m→listed.getD j false=true)→(∀j,m≤j→j < ops.size→listed.getD j false=false)→k≤fuel →
   wpOps P ops Q (vte m k) a w→wpAny P .any ops Q fuel listed a w:=by
 intro k
 induction k with
 | zero =>
  intro m fuel listed a w hnm hm hsz hall hno hk hq;have hr:Region.ready .any ops listed=[]:=by
   cases hrd:Region.ready .any ops listed with
   | nil=>rfl
   | cons i _ =>
    exfalso;have hi:i∈Region.ready .any ops listed:=by rw [hrd];exact vs9
    obtain ⟨h0,o,ho,_⟩:=mem_ready.1 hi;have hlt:=(vpf.1 ho).1;have:=hall i (by omega);rw [getD_both h0] at this;cases this
  have hq':Q .normal a w:=hq;cases fuel with
  | zero=>exact ⟨hr,hq'⟩
  | succ fuel=>exact ⟨fun _=>hq',fun i hi=>by rw [hr] at hi;cases hi⟩
 | succ k ih =>
  intro m fuel listed a w hnm hm hsz hall hno hk hq;cases fuel with
  | zero=>omega
  | succ fuel =>
  have hcl:qv6 ops (fun j=>listed.getD j false):=by
   intro j hj p hp;have hjm:j < m:=by
    by_cases hjm:j < m
    ·exact hjm
    ·have hjs:j < ops.size:=by
      by_cases hjs:j < ops.size
      ·exact hjs
      ·have:listed.getD j false=false:=by simp [show ¬j < listed.size by omega]
       simp only [this] at hj;cases hj
     have:=hno j (by omega) hjs;simp only [this] at hj;cases hj
   by_cases hp':p < m
   ·exact hall p hp'
   ·exfalso;obtain ⟨oj,hoj⟩:∃oj,ops[j]?=some oj:=⟨ops[j]'(by omega),by simp [show j < ops.size by omega]⟩;have:=qhz hsl (by omega:j < ops.size) p hp;omega
  refine ⟨fun hr=>?_,fun i hi=>?_⟩
  ·exfalso;have:m∈Region.ready .any ops listed:=by
    refine mem_ready.2 ⟨getD_in (by omega) (hno m (vrj _) (by omega)),ops[m]'(by omega),by simp [show m < ops.size by omega],fun e he hb=>?_⟩;have hp:e.on∈qc7 ops m:=by
     unfold qc7;simp only [show m < ops.size by omega,getElem?_pos];exact vtb.2 ⟨e,vta.2 ⟨by simpa using he,hb⟩,rfl⟩
    exact hall _ (qhz hsl (by omega) _ hp)
   rw [hr] at this;cases this
  ·obtain ⟨h0,o,ho,hpre⟩:=mem_ready.1 hi;have hlt:=(vpf.1 ho).1;have him:i=m:=by
    rcases vtk i m with h | h | h
    ·have:=hall i h;rw [getD_both h0] at this;cases this
    ·exact h
    ·exfalso;have hpre':∀m∈qc7 ops i,listed.getD m false=true:=by
      intro m hm;unfold qc7 at hm;rw [ho] at hm;obtain ⟨e,he,rfl⟩:=vtb.1 hm;obtain ⟨he1,he2⟩:=vta.1 he;exact hpre e (by simpa using he1) he2
     have:=(hlast i (by omega) hlt m h).ready (D:=fun j=>listed.getD j false) hcl hpre';simp only [hno m (vrj _) (by omega)] at this;cases this
   subst him;rw [List.range'_succ,wpOps_cons] at hq;refine wpOp_mono (fun a' w' hq'=>ih (i+1) fuel _ a' w' (by omega) (by omega) (by simp [hsz]) (fun j hj=>?_) (fun j hj hjs=>?_) (by omega) hq') hq
   ·by_cases hji:i=j
    ·subst hji;simp [hsz,hlt]
    ·rw [getD_set_ne false hji];exact hall j (by omega)
   ·rw [getD_set_ne false (by omega)];exact hno j (by omega) hjs
theorem q5x {C:Cx} {ops:Array Oper} {es:List Evt} {s0:(Nat→AV)×(Nat→AO)} {Q:Exit→Act→World→Prop} {n:Nat} (hn:n < ops.size) (hlen:es.length=n) (hch:qwa C ops es 0 s0) (hsl:qgm ops=true) (hev:qr4 ops es=true)
  (hlast:∀j,n≤j→j < ops.size→∀i,i < j→Reach ops j i) (hQ:∀a w inj,SRf C (apD ops es 0 (fun _=>true) s0).1 (apD ops es 0 (fun _=>true) s0).2 inj a w→wpOps C.P ops Q (vte n (ops.size - n)) a w) :
  ∀(fuel:Nat) (listed:Array Bool) (a:Act) (w:World) (inj:Inj),listed.size=ops.size→qv6 ops (fun j=>listed.getD j false)→(∀j,n≤j→j < ops.size→listed.getD j false=false)→(listed.toList.filter (! ·)).length≤fuel →
   SRf C (apD ops es 0 (fun j=>listed.getD j false) s0).1 (apD ops es 0 (fun j=>listed.getD j false) s0).2 inj a w→wpAny C.P .any ops Q fuel listed a w:=by
 have some_ready:∀(listed:Array Bool),listed.size=ops.size→listed.getD n false=false→Region.ready .any ops listed≠[]:=by
  intro listed hsz hnl hr;have all:∀j,j < ops.size→listed.getD j false=true:=by
   intro j
   induction j using vtn with
   | _ j ih =>
    intro hj;by_cases hl:listed.getD j false=true
    ·exact hl
    ·have:j∈Region.ready .any ops listed:=by
      refine mem_ready.2 ⟨getD_in (by omega) (by simpa using hl),ops[j],by simp [hj],fun e he hb=>?_⟩;have hp:e.on∈qc7 ops j:=by
       unfold qc7;simp only [hj,getElem?_pos];exact vtb.2 ⟨e,vta.2 ⟨by simpa using he,hb⟩,rfl⟩
      have hlt:=qhz hsl hj _ hp;exact ih _ hlt (by omega)
     rw [hr] at this;cases this
  have:=all n hn;rw [hnl] at this;cases this
 have count:∀(k:Nat) (l:List Bool) (m:Nat),m+k=l.length→(∀j,m≤j→j < l.length→l[j]?=some false)→k≤(l.filter (! ·)).length:=by
  intro k l m hm h;have h1:(l.drop m).length=k:=by rw [vqm];omega
  have h2:((l.drop m).filter (! ·))=l.drop m:=by
   rw [List.filter_eq_self];intro b hb;obtain ⟨j,hj,rfl⟩:=List.mem_iff_getElem.1 hb;have:=h (m+j) (by omega) (by rw [vqm] at hj;omega);rw [List.getElem_drop];obtain ⟨_,h3⟩:=vqf.1 this;rw [h3];rfl
  have h3:((l.drop m).filter (! ·)).length≤(l.filter (! ·)).length:=by
   conv=>rhs;rw [←vti m l,List.filter_append,vql]
   omega
  rw [h2,h1] at h3;exact h3
 intro fuel
 induction fuel with
 | zero =>
  intro listed a w inj hsz hcl hnl hf hs;exfalso;have hlt:n < listed.size:=by omega
  have hm:listed[n]'hlt∈listed.toList:=by simp
  have h0':listed[n]'hlt=false:=by simpa [hlt] using hnl n (vrj _) hn
  have:listed[n]'hlt∈listed.toList.filter (! ·):=vta.2 ⟨hm,by rw [h0'];rfl⟩;have:0 < (listed.toList.filter (! ·)).length:=vsy this;omega
 | succ fuel ih =>
  intro listed a w inj hsz hcl hnl hf hs;by_cases hfull:∀j,j < n→listed.getD j false=true
  ·rw [qo2 ops es 0 _ (fun _=>true) s0 fun j _ h2=>hfull j (by omega)] at hs;refine qwb hsl hlast (ops.size - n) n _ listed a w (vrj _) (by omega) hsz hfull hnl ?_ (hQ a w inj hs);refine vrl (count _ listed.toList n (by simp;omega) (fun j h1 h2=>?_)) hf;have:=hnl j h1 (by simp at h2;omega);have h3:j < listed.size:=by simpa using h2
   rw [vpi];simpa [h3] using this
  refine ⟨fun hr=>absurd hr (some_ready listed hsz (hnl n (vrj _) hn)),fun i hi=>?_⟩;obtain ⟨h0,o,ho,hpre⟩:=mem_ready.1 hi;have hlt:=(vpf.1 ho).1;have hltn:i < n:=by
   by_cases hltn:i < n
   ·exact hltn
   ·exfalso;apply hfull;intro j hj;have hpre':∀m∈qc7 ops i,listed.getD m false=true:=by
     intro m hm;unfold qc7 at hm;rw [ho] at hm;obtain ⟨e,he,rfl⟩:=vtb.1 hm;obtain ⟨he1,he2⟩:=vta.1 he;exact hpre e (by simpa using he1) he2
    exact (hlast i (by omega) hlt j (by omega)).ready (D:=fun j=>listed.getD j false) hcl hpre'
  have h0f:listed.getD i false=false:=getD_both h0;have hpre':∀m∈qc7 ops i,listed.getD m false=true:=by
   intro m hm;unfold qc7 at hm;rw [ho] at hm;obtain ⟨e,he,rfl⟩:=vtb.1 hm;obtain ⟨he1,he2⟩:=vta.1 he;exact hpre e (by simpa using he1) he2
  obtain ⟨e,he⟩:∃e,es[i]?=some e:=⟨es[i]'(by omega),vqd (by omega)⟩;obtain ⟨o',ho',hst⟩:=hch.at i e (vtq _) (by simpa using he);have:o'=o:=vtu (ho'.symm.trans ho);subst this
  -- which are listed,compared with the text's order
  have cmpSlot:∀t∈o'.looksAt ops,(apD ops es 0 (fun j=>listed.getD j false) s0).1 t=(apD ops es 0 (fun m=>decide (m < i)) s0).1 t:=by
   intro t ht;refine qxi ops t es 0 _ _ s0 s0 rfl fun j _ hj hd=>?_
   obtain ⟨oj,hoj⟩:∃oj,ops[j]?=some oj:=⟨ops[j]'(by omega),by simp [show j < ops.size by omega]⟩;rw [hoj] at hd;simp only [vrv] at hd;rcases vtk j i with hji | hji | hji
   ·simp only [hji,decide_true];rcases qep hsl hji hoj ho with hr | hr
    ·exact hr.ready (D:=fun j=>listed.getD j false) hcl hpre'
    ·exact absurd ht ((Oper.apart_spec hr).1 t hd)
   ·subst hji;simpa using h0f
   ·have:decide (j < i)=false:=by simp;omega
    rw [this];rcases qep hsl hji ho hoj with hr | hr
    ·by_cases hl:listed.getD j false=true
     ·have:=hr.closed (D:=fun j=>listed.getD j false) hcl hl;simp only [h0f] at this;cases this
     ·simpa using hl
    ·exact absurd ht ((Oper.apart_spec hr).2.2 t hd)
  have cmpLoc:∀l∈e.reads,(apD ops es 0 (fun j=>listed.getD j false) s0).2 l=(apD ops es 0 (fun m=>decide (m < i)) s0).2 l:=by
   intro l hl;refine q1u ops l es 0 _ _ s0 s0 rfl fun j ej _ hej hw=>?_
   simp only [vrt] at hej;have hjn:j < ops.size:=by have:=(vqf.1 hej).1;omega
   rcases vtk j i with hji | hji | hji
   ·simp only [hji,decide_true];rcases qjt hev hji hlt hej he with hr | hr
    ·exact hr.ready (D:=fun j=>listed.getD j false) hcl hpre'
    ·exact absurd hl (hr.1 l hw).1
   ·subst hji;simpa using h0f
   ·have:decide (j < i)=false:=by simp;omega
    rw [this];rcases qjt hev hji hjn he hej with hr | hr
    ·by_cases hl':listed.getD j false=true
     ·have:=hr.closed (D:=fun j=>listed.getD j false) hcl hl';simp only [h0f] at this;cases this
     ·simpa using hl'
    ·exact absurd hl (hr.2 l hw)
  have hst':=hst.frame cmpSlot cmpLoc;obtain ⟨hdst,hst'⟩:=hst';have hjoin:=qxj ops i e es 0 (fun j=>listed.getD j false) s0 (vtq _) (by simpa using he) h0f (by
   intro j ej hij hej hD;simp only [vrt] at hej;have hjn:j < ops.size:=by have:=(vqf.1 hej).1;omega
   obtain ⟨oj,hoj⟩:∃oj,ops[j]?=some oj:=⟨ops[j]'(by omega),by simp [show j < ops.size by omega]⟩;have nr:¬Reach ops j i:=fun hr=>by
    have:=hr.closed (D:=fun j=>listed.getD j false) hcl hD;simp only [h0f] at this;cases this
   constructor
   ·rcases qep hsl hij ho hoj with hr | hr
    ·exact (nr hr).elim
    ·rw [hoj,ho];simp only [vrv];cases hd:oj.dst with
     | none=>exact .inl rfl
     | some d =>
      refine .inr fun hh=>?_
      exact (Oper.apart_spec hr).2.1 d hh.symm hd
   ·rcases qjt hev hij hjn he hej with hr | hr
    ·exact (nr hr).elim
    ·cases hw:ej.wr with
     | none=>exact .inl rfl
     | some l =>
      refine .inr fun hh=>?_
      exact (hr.1 l hh.symm).2 hw)
  have hD':apD ops es 0 (fun j=>(listed.setIfInBounds i true).getD j false) s0=apD ops es 0 (fun j=>j == i || listed.getD j false) s0:=by
   refine qo2 ops es 0 _ _ s0 fun j _ hj=>?_
   by_cases hji:i=j
   ·subst hji;simp [hsz,hlt]
   ·rw [getD_set_ne false hji];have:(j == i)=false:=by simp;omega
    simp [this]
  have next:∀a' w' inj',SRf C (qkf (apD ops es 0 (fun j=>listed.getD j false) s0).1 o'.dst e.v) (upd (apD ops es 0 (fun j=>listed.getD j false) s0).2 e.u) inj' a' w' →
    wpAny C.P .any ops Q fuel (listed.setIfInBounds i true) a' w':=by
   intro a' w' inj' hs';refine ih (listed.setIfInBounds i true) a' w' inj' (by simp [hsz]) ?_ (fun j hj hjs=>by rw [getD_set_ne false (by omega)];exact hnl j hj hjs) ?_ ?_
   ·intro j hj m hm;by_cases hji:i=j
    ·subst hji;exact getD_set_true (hpre' m hm)
    ·have hj':(listed.setIfInBounds i true).getD j false=true:=hj;rw [getD_set_ne false hji] at hj';exact getD_set_true (hcl j hj' m hm)
   ·have hli:listed[i]?=some false:=by
     have:i < listed.size:=by omega
     simp [this] at h0f ⊢;exact h0f
    have key:∀(l:List Bool) (i:Nat),l[i]?=some false→((l.set i true).filter (! ·)).length+1=(l.filter (! ·)).length:=by
     intro l
     induction l with
     | nil=>intro i h;simp at h
     | cons b l ihl =>
      intro i h;cases i with
      | zero=>simp at h;subst h;simp
      | succ i =>
       simp only [vss] at h;have:=ihl i h;cases b <;> simp [this] <;> omega
    have:=key listed.toList i (by simpa using hli);rw [vsc];omega
   ·rw [hD',hjoin,ho];exact hs'
  unfold wpOp;rw [ho];simp only;rcases hst' with ⟨hg,hdo⟩ | ⟨hg,rfl⟩
  ·rw [qhq hs hg];simp only [if_true];exact .inl (hdo.sound hs hdst next)
  ·rw [qhq hs hg];simp only [vps,if_false];exact next _ _ inj (hs.put (u:=none) hdst hs.hr (Ev.refl _ _ _ _) ⟨[],rfl,rfl⟩)
def q3m (ops:Array Oper) (n:Nat):Bool:=decide (n < ops.size) && (vte n (ops.size - n)).all fun j=>(vq3 j).all fun i=>qu8 (q3f ops ops.size) j i
theorem q1z {ops:Array Oper} {n:Nat} (h:q3m ops n=true):n < ops.size∧∀j,n≤j→j < ops.size→∀i,i < j→Reach ops j i:=by
 simp only [q3m,vpq,decide_eq_true_eq,vsn,vtc,List.mem_range'_1] at h;exact ⟨h.1,fun j h1 h2 i hi=>qj3 (h.2 j ⟨h1,by omega⟩ i hi)⟩
variable {C:Cx} {Q:Exit→St→Prop} {st:St}
def DKL (C:Cx) (l:Array Oper) (r:List Oper) (Q:Exit→St→Prop):List Evt→St→Prop:=fun es st'=>qr4 l es=true∧AL C l r Q st'
theorem qvd (n:Nat) {id:Nat} {l:List Oper} (hm:C.P.follows .mixedOrders=true) (hsl:qgm l.toArray=true) (hls:q3m l.toArray n=true) (h:DGo C l.toArray (l.take n) st [] (DKL C l.toArray (l.drop n) Q)):AWp C (.region id l.toArray true) Q st:=by
 obtain ⟨es,st',h1,h2,h3⟩:=h;obtain ⟨hsize,hreach⟩:=q1z hls;have hsz:n < l.length:=by simpa using hsize
 obtain ⟨hel,hcp,hap⟩:=h1.chainP 0 (fun j hj=>by
  rw [vqr] at hj;rw [vqj,if_pos (by omega)];simp)
 have hel':es.length=n:=by rw [hel,vqr];omega
 simp only [List.reverse_nil,vq2] at h2;intro inj a w hs;refine wp_region_any hm ?_;have hf:Fr C.D w { w with drawn:=w.drawn+1 }:=⟨rfl,rfl,rfl,fun _=>vrk _,vrj _,fun _ _=>rfl,fun _ _=>rfl⟩;have hE:Ev C.D C.X inj st.sig w inj st.sig { w with drawn:=w.drawn+1 }:=hf.ev;refine q5x hsize hel' hcp hsl h2 hreach ?_ _ _ _ _ inj (by simp) ?_ ?_ ?_ ?_
 ·intro a' w' inj' hs';rw [hap] at hs';have hal:=h3 inj' a' w' ⟨hs'.env,hs'.size,hs'.defers,hs'.hr,hs'.ev⟩;have heq:=wpOps_eq_wpList (P:=C.P) (ops:=l.toArray) (Q:=vbe C Q) (l.drop n) n (fun j=>by rw [vqc];simp);rw [vqm] at heq;rw [vq6,heq];exact hal
 ·intro j hj;simp only [getD_replicate_false] at hj;cases hj
 ·intro j _ _;exact getD_replicate_false _ _
 ·refine vrl (vsx _ _) (by simp)
 ·rw [qo2 l.toArray es 0 _ (fun _=>false) _ fun j _ _=>getD_replicate_false _ _];have hnone:∀(es:List Evt) (i:Nat) (s:(Nat→AV)×(Nat→AO)),apD l.toArray es i (fun _=>false) s=s:=by
   intro es
   induction es with
   | nil=>intro i s;rfl
   | cons e es ih=>intro i s;simp only [apD,vps,if_false];exact ih (i+1) s
  rw [hnone];exact ⟨fun t=>AR.ev hE hs.hr.xlt _ _ (hs.env t),hs.size,hs.defers,hs.hr.fr hf,hs.ev.trans hE⟩
@[go_sem] theorem ex_func (σ σ':Nat→AO) (f f':Fn) (cs0 cs':List AV):(∃cs,AV.func f cs0=AV.func f' cs∧qlk σ σ' cs cs')=(f=f'∧qlk σ σ' cs0 cs'):=by
 refine propext ⟨?_,?_⟩
 ·rintro ⟨cs,h,h2⟩;cases h;exact ⟨rfl,h2⟩
 ·rintro ⟨rfl,h⟩;exact ⟨_,rfl,h⟩
end Go.Ab
namespace Go.Ab
variable {D:Prop}
open Go
structure Grw (P:Program) (k:FuncId) (e sz:TypeId):Prop where
 body:HasBody P k
 rows:∀(n:Int) (w:World),0≤n→n≤1000000000000→Calls P k #[.slice none 0 0,.int .i64 n] w fun e' w'=>∃v,e'=.returned v∧w'.ownsRow w.heap.size e sz v 0 []∧RowKit.Below w.heap.size w w'∧w.drawn≤w'.drawn
variable {C:Cx} {Q:Exit→St→Prop} {st:St}
theorem vhg {ops:Array Oper} {o:Oper} {rest:List Oper} {f:Operand} {args:Array Operand} {ats:Array TypeId} {k:FuncId} {e sz K g:Nat} {n:Int}
  (S:Grw C.P k e sz) (h0:0≤n) (hn:n≤1000000000000)
  (ho:o.op=.call ⟨.value f,args,ats⟩) (hg:qaq ops st.env o=some true) (hd:qba C.N o=true)
  (hk:qcg st.env f args.toList=some (k,[.nils,.p (.int .i64 n)]))
  (hobj:qcq st.heap K=.dead g)
  (h:AL C ops rest Q ⟨qd7 st.env o.dst (.own K (g+1) 0 0),qw9 st.heap K (.arr e sz (g+1) [])⟩):AL C ops (o :: rest) Q st:=by
 intro inj a w hs;simp only [wpList,qbm hs hg,if_true];refine .inl ?_;obtain ⟨vs,hrun,hars⟩:=qn6 hs ho S.body hk;unfold Oper.wp;rw [hrun];simp only [Oper.upon];obtain ⟨v1,r1,rfl,ha1,hars⟩:=hars;obtain ⟨v2,r2,rfl,ha2,rfl⟩:=hars;have hv1:v1=.slice none 0 0:=ha1;have hv2:v2=Value.int .i64 n:=ha2;subst hv1;subst hv2;refine (S.rows n w h0 hn).mono ?_;rintro e' w' ⟨v,rfl,hrow,hbel,hdr⟩;have hfz:∀a:Addr,a.block < w.heap.size→w'.frozen? a=w.frozen? a:=fun a ha=>by unfold World.frozen?;rw [hbel.block _ ha]
 obtain ⟨_,hrow⟩:=hrow;rcases hrow with ⟨rfl,_⟩ | ⟨gb,cp,cur,rfl,hbase,hgb,q1,q2,q3,q4⟩
 ·have hup:=hs.hr.update (D:=C.D) (w':=w') (l:=K) (o:=.dead g) (o':=.arr e sz (g+1) []) (x:=none) hobj hbel.os hbel.tape hbel.output (fun _=>hdr) hbel.size hfz
   (fun b hb _=>hbel.block b hb) (fun b1 c1 h1=>by cases h1) ⟨by simp [AO.gen],fun _ he=>by simp [AO.gen] at he⟩
  obtain ⟨hev,hhr⟩:=hup;refine h _ _ _ (hs.put (u:=some (K,.arr e sz (g+1) [])) hd (hhr ⟨[],rfl,by simp,by simp [flat,qa0],.inl ⟨by simp,rfl⟩⟩) hev ?_);refine ⟨⟨_,_,_,rfl⟩,fun oo hoo=>?_⟩;have:oo=.arr e sz (g+1) []:=by rw [←hoo];exact qc3 _ _ _
  subst this;exact ⟨vrj _,fun _ e1 sz1 es1 he=>by cases he;exact ⟨by simp,.inl ⟨by simp,rfl,rfl,rfl⟩⟩⟩
 ·have hup:=hs.hr.update (D:=C.D) (w':=w') (l:=K) (o:=.dead g) (o':=.arr e sz (g+1) []) (x:=some (gb,cp)) hobj hbel.os hbel.tape hbel.output (fun _=>hdr) hbel.size hfz
   (fun b hb _=>hbel.block b hb) (fun b1 c1 h1=>by cases h1;exact .inl hbase) ⟨by simp [AO.gen],fun _ he=>by simp [AO.gen] at he⟩
  obtain ⟨hev,hhr⟩:=hup;have hH:=hhr ⟨[],rfl,by simp,by simp [flat,qa0],.inr ⟨gb,cp,cur,by simp,fun hX=>by have:=hs.hr.xlt gb hX;omega,hgb,by simp,q2,q3,by simp [flat]⟩⟩;refine h _ _ _ (hs.put (u:=some (K,.arr e sz (g+1) [])) hd hH hev ?_);have hown:va0 (fun q=>if q=K then some (gb,cp) else inj q) (qit st.sig K (.arr e sz (g+1) [])) K (g+1) 0 0 (.slice (some ⟨gb,0,none⟩) 0 cp):=qiu (qc3 _ _ _) (if_pos rfl) (vrj _) q1;exact hown
theorem zN {ops:Array Oper} {o:Oper} {rest:List Oper} {f:Operand} {args:Array Operand} {ats:Array TypeId} {k:FuncId} {e sz g:Nat} {n:Int}
  (S:Grw C.P k e sz) (K:Nat) (h0:0≤n) (hn:n≤1000000000000)
  (h:AL C ops rest Q ⟨qd7 st.env o.dst (.own K (g+1) 0 0),qw9 st.heap K (.arr e sz (g+1) [])⟩)
  (ho:o.op=.call ⟨.value f,args,ats⟩:=by rfl) (hg:qaq ops st.env o=some true:=by first | exact qbe rfl | exact qb4 rfl rfl (by exact rfl) (by exact rfl)) (hd:qba C.N o=true:=by rfl)
  (hk:qcg st.env f args.toList=some (k,[.nils,.p (.int .i64 n)]):=by simp only [go_sem,seval, *];all_goals first | exact rfl | exact ⟨rfl,rfl⟩)
  (hobj:qcq st.heap K=.dead g:=by simp only [go_sem,seval, *];all_goals first | exact rfl | exact qps rfl):AL C ops (o :: rest) Q st:=vhg S h0 hn ho hg hd hk hobj h
end Go.Ab
namespace Go.Ab
open Go
theorem qse {n:Int} (h1:0≤n) (h2:n≤4294967295):vsi.wrap n=n:=by
 simp only [vsj,vsh,vsf];simp only [vse,vps,if_false];rw [show ((2:Int) ^ 32)=4294967296 from rfl];omega
theorem q8f (b:BitVec 32):vsi.wrap ((b.toNat:Nat):Int)=((b.toNat:Nat):Int):=by
 have:=b.isLt;exact qse (by omega) (by omega)
theorem qpy {a:Nat} (h:a < 4294967296):(BitVec.ofInt 32 (a:Int)).toNat=a:=by
 rw [BitVec.ofInt_natCast,BitVec.toNat_ofNat];exact Nat.mod_eq_of_lt h
theorem qpz (a i:Nat):Int.fdiv (a:Int) (2 ^ i)=((a / 2 ^ i:Nat):Int):=by
 have:((2:Int) ^ i)=((2 ^ i:Nat):Int):=by simp
 rw [this];generalize 2 ^ i=p;rw [Int.fdiv_eq_ediv_of_nonneg _ (by omega)];exact (Int.natCast_ediv a p).symm
def pop8 (i:Nat):Nat:=((vq3 8).filter fun k=>i.testBit k).length
theorem vmb (n:Nat) (k:Nat) (hk:k≤32):Int.fdiv (n:Int) (2 ^ (min k 32))=((n / 2 ^ k:Nat):Int):=by rw [vtm hk,qpz]
def q3n (n:Nat):Nat:=pop8 (n / 16777216)+pop8 (n / 65536 % 256)+pop8 (n / 256 % 256)+pop8 (n % 256)
end Go.Ab
namespace Go.Ab
open Go
variable {C:Cx} {Q:Exit→St→Prop} {st:St}
theorem zCl {α:Type} (f:α→PV) (l:List α) (z:α) (K off len:Nat) (hle:off+len≤l.length) {ops:Array Oper} {o:Oper} {rest:List Oper} {g e sz:Nat} {t:TypeId} {x:Operand} {st':St}
  (h:AL C ops rest Q st') (ho:o.op=.call ⟨.builtin .clear,#[x],#[t]⟩:=by rfl) (hg:qaq ops st.env o=some true:=by first | exact qbe rfl | exact qb4 rfl rfl (by exact rfl) (by exact rfl)) (hd:qba C.N o=true:=by rfl)
  (hu:C.P.underlying t=some (.slice e):=by simp only [go_sem,seval];all_goals exact rfl) (hx:ev st.env x=.own K g off len:=by simp only [go_sem,seval, *];all_goals exact zF)
  (hs:qcq st.heap K=.arr e sz g ((l.map f).map .p):=by simp only [go_sem,seval, *];all_goals exact zF) (hsz:sz=C.P.cellsOf e:=by simp only [go_sem,seval];all_goals rfl) (hz:qa2 C.P e=some (.p (f z)):=by simp only [go_sem,seval];all_goals rfl)
  (hok:qd0 sz (.p (f z))=true:=by rfl)
  (hst:(⟨qd7 st.env o.dst (.p (.tup [])),qm9 st.heap (some (K,.arr e sz g (((l.take off++List.replicate len z++l.drop (off+len)).map f).map .p)))⟩:St)=st':=by exact rfl):AL C ops (o :: rest) Q st:=by
 obtain ⟨dst,op,type,pos,after,guard⟩:=o;simp only at ho;subst ho;subst hsz;have hr:(aop C.P C.B (ev st.env) ⟨dst,.call ⟨.builtin .clear,#[x],#[t]⟩,type,pos,after,guard⟩).run (qcq st.heap)=some (.p (.tup []),some (K,.arr e (C.P.cellsOf e) g (((l.take off++vq5 len z++l.drop (off+len)).map f).map .p))):=by
  show (qon C.P t (ev st.env x)).run (qcq st.heap)=_;unfold qon;rw [hu,hx];simp only [L.run,hs];rw [if_pos ⟨trivial,trivial,trivial,by simpa using hle⟩,hz];simp only [hok,if_true,L.run_ret];simp only [vqs,vs7,vs5,vs6]
 subst hst;refine q77 hg hd ?_ h;rw [hr];rfl
end Go.Ab
namespace Go.Proofs
open Go.Shelf Go.RowKit Go.Lib
variable {P:Program} {ρ:Ren}
set_option maxHeartbeats 2000000 in
set_option maxRecDepth 100000 in
theorem AbE.clone_zero (L:SlLaysE0.n41 P ρ) (i0:TypeInfo) (z:Value) (size bytes:Nat) (hi:P.info? (ρ.t 23)=some i0) (hz0:i0.zero=some z) (hz1:i0.size=size) (hz2:i0.bytes=bytes) (hzs:z.cells.size=size) (hsz:0 < size)
  (z23:∀w,(Go.sizeOf (ρ.t 23)).run P w=.ok size w) (a:Addr) (c:Nat) (w:World) :
  Calls P (ρ.f 41) #[.slice (some a) 0 c] w fun e w'=>∃v',e=.returned v'∧w'.ownsRow w.heap.size (ρ.t 23) size v' 0 []∧Below w.heap.size w w':=by
 have mixed:=L.mixed;have t4:=L.t4;have a4:=L.a4;have z4:=L.z4;have v4:=L.v4;have t22:=L.t22;have a22:=L.a22;have z22:=L.z22;have v22:=L.v22
 have q22:∀(w:World) (a:Option Addr) (n c n' c':Nat),(binOp .eql (ρ.t 22) (.slice a n c) (.slice none n' c')).run P w=.ok (.bool a.isNone) w:=fun w a n c n' c'=>vpx w _ _ a n c n' c' L.t22
 have u22:∀w,Sem.run P (underlying (ρ.t 22)) w=.ok (TypeDesc.slice (ρ.t 23)) w:=run_underlying t22
 obtain ⟨_,_,FG⟩:=L.f41
 go_enter FG,SlBodyN.n41_ntmps ρ
 go_wp2_with (at_builtin;refine wpList_append_own _ rfl _ _ (ρ.t 22) rfl w.heap.size (ρ.t 23) i0 z size bytes t22 hi hz0 hz1 hz2 hzs hsz _ _ _ rfl (World.ownsRow_made w #[] 0 (vrj _) (vtq _) (by simp)) a 0 c [] rfl (by simp) (by intro j u hj;simp at hj) (by intro u hu;cases hu) (by unfold maxLen;omega) (by omega) (by simp) ?_)
 intro v' w1 hown hgrow hnil
 go_wp2
 go_ret
 refine ⟨v',rfl,by simpa using hown,?_⟩
 exact ((Below.refl _ w).alloc (vrj _) _).grown hgrow (by simp) (by intro k hk;simp [Value.ownBlock] at hk;omega)
theorem AbE.cln (L:SlLaysE0.n41 P ρ) (hb:Ab.HasBody P (ρ.f 41)) (i0:TypeInfo) (z:Value) (size bytes:Nat) (hi:P.info? (ρ.t 23)=some i0) (hz0:i0.zero=some z) (hz1:i0.size=size) (hz2:i0.bytes=bytes) (hzs:z.cells.size=size) (hsz:0 < size):Ab.Cln P (ρ.f 41) (ρ.t 23) size bytes :=
 have z23:∀w,(Go.sizeOf (ρ.t 23)).run P w=.ok size w:=fun w=>by subst hz1;simp [Go.sizeOf,typeInfo,hi]
 ⟨hb,fun b off n c news w h1 h2 h3 h4 h5=>(AnyE.slices_Clone L i0 z size bytes hi hz0 hz1 hz2 hzs hsz z23 b off n c news w h1 h2 h3 h4 h5).mono fun e w' ⟨v,p1,p2,_,p4⟩=>⟨v,p1,p2,p4⟩,
  fun a c w=>AbE.clone_zero L i0 z size bytes hi hz0 hz1 hz2 hzs hsz z23 a c w,fun n c w=>AnyE.slices_Clone_nil L n c w⟩
end Go.Proofs
namespace Go.Ab
variable {D:Prop}
open Go
@[go_sem] theorem qsf {α:Type} (i n j:Nat) (l:List α):vth (i+(n - j)) (vth i l++vth (n - j) (List.drop j l))=vth i l++vth (n - j) (List.drop j l) :=
 vq9 (by rw [vql,vqr,vqr];omega)
variable {C:Cx} {Q:Exit→St→Prop} {st:St}
theorem yK {ops:Array Oper} {K:List Evt→St→Prop} {o:Oper} {f:Operand} {args:Array Operand} {ats:Array TypeId} {rest:List Oper} {acc:List Evt} {c:FuncId} {e sz by' g:Nat} {α:Type}
  (S:Cln C.P c e sz by') (k:Nat) (enc:α→PV) (l:List α) (n:Nat) (hl:l.length=n) (hn:n≤maxLen∧n * by'≤140737488355328)
  (h:DGo C ops rest ⟨qd7 st.env o.dst (.own k (g+1) 0 n),qw9 st.heap k (.arr e sz (g+1) ((l.map enc).map AV.p))⟩ (⟨.own k (g+1) 0 n,some (k,.arr e sz (g+1) ((l.map enc).map AV.p)),[k]⟩ :: acc) K)
  (hw:¬C.D:=by exact id) (ho:o.op=.call ⟨.value f,args,ats⟩:=by rfl) (hgd:qaq ops st.env o=some true:=by first | exact qbe rfl | exact qb4 rfl rfl (by exact rfl) (by exact rfl)) (hd:qba C.N o=true:=by rfl) (hk:qhl C.B o=k:=by rfl)
  (hc:qcg st.env f args.toList=some (c,[.p (.slc (l.map enc))]):=by simp only [go_sem,seval, *];all_goals first | exact rfl | exact ⟨rfl,rfl⟩)
  (hel:((l.map enc).map AV.p).all (qd0 sz)=true:=by exact qh0 _ _ _ fun _=>⟨rfl,rfl⟩)
  (hg:qcq st.heap k=.dead g:=by simp only [go_sem,seval, *];all_goals first | exact rfl | exact qps rfl):DGo C ops (o :: rest) st acc K :=
 DGo.cloned S hw ho hgd hd hk hc hel (by rw [vqn,hl];exact hn.1) (by rw [vqn,hl];exact hn.2) hg (by rw [vqn,hl]) rfl h
end Go.Ab
namespace Go.Ab
variable {D:Prop}
open Go
variable {X:Nat→Prop} {inj:Inj} {σ:Nat→AO} {w:World}
variable {C:Cx} {Q:Exit→St→Prop} {st:St}
open Go.Proofs Go.Sort in
structure SrtQ (P:Program) (k:FuncId) (sz:Nat):Prop where
 body:HasBody P k
 rows:∀{α:Type} [Inhabited α] (enc:α→List Value) (hk:∀x,(enc x).length=sz) (h1:∀x,∀v∈enc x,v.oneCell'=true) (cf:α→α→Int) (hO:SWO (ltOf cf)) (g:Nat) (cb:Array Value) (blk off cap:Nat) (d:Array α) (w:World),
  (∀args w,(callFunc g args).run P w=.ok (.enter g args) w)→CmpLays P g cb enc sz cf blk off d.size w→HoldsK enc sz w blk off d→blk < w.heap.size→d.size < 4611686018427387904 →
  Calls P k #[.slice (some ⟨blk,off,none⟩) d.size cap,.func (.func g) #[] cb] w fun e w' =>
   e=.returned (.tuple #[])∧∃n os,w'=sortWorldK enc sz w blk off n (pdq (ltOf cf) d 0 d.size (vsl d.size) true true) os
 none:∀(p:Option Addr) (cap:Nat) (fv:Value) (w:World),Calls P k #[.slice p 0 cap,fv] w fun e w'=>e=.returned (.tuple #[])∧w'=w
end Go.Ab
namespace Go.Ab
open Go
variable {C:Cx} {Q:Exit→St→Prop} {st:St}
end Go.Ab
namespace Go.Ab
open Go
variable {C:Cx} {Q:Exit→St→Prop} {st:St} {inj:Inj} {a:Act} {w:World}
attribute [go_sem] vs6
@[go_sem,simp] theorem q8g (σ σ':Nat→AO) (n:Nat):qlk σ σ' (vq5 n .nils) (vq5 n (.p (.slc []))):=by
 induction n with
 | zero=>rfl
 | succ n ih =>
  rw [vtf,vtf,qs3];exact ⟨by simp [LeV,qdx],ih⟩
theorem SR.shrink (h:SR C st inj a w) {t l g m e sz:Nat} {es:List AV} (hobj:qcq st.heap l=.arr e sz g es) (ht:st.env.get t=.own l g 0 m) :
  SR C ⟨qd7 st.env (some t) (.own l (g+1) 0 m),qw9 st.heap l (.arr e sz (g+1) (es.take m))⟩ inj a w:=by
 have hup:=h.hr.update (D:=C.D) (w':=w) (l:=l) (o:=.arr e sz g es) (o':=.arr e sz (g+1) (es.take m)) (x:=inj l) hobj rfl rfl rfl
  (fun _=>vrj _) (vrj _) (fun _ _=>rfl) (fun _ _ _=>rfl) (fun b c h1=>.inr ⟨rfl,_,h1⟩)
  ⟨vrk _,fun _ hg=>absurd hg (by simp [AO.gen])⟩
 obtain ⟨hev,hhr⟩:=hup;have hinj:(fun k=>if k=l then inj l else inj k)=inj:=by
  funext k;by_cases hk:k=l
  ·rw [if_pos hk,hk]
  ·rw [if_neg hk]
 rw [hinj] at hev hhr;obtain ⟨vs,h1,h2,h3,h4⟩:=h.hr.obj l _ hobj;have hs:(St.mk (qd7 st.env (some t) (.own l (g+1) 0 m)) (qw9 st.heap l (.arr e sz (g+1) (es.take m)))).sig=qit st.sig l (.arr e sz (g+1) (es.take m)):=qj2 _ _ _;have hob:=h.env t;rw [ht] at hob;obtain ⟨q1,q2⟩:=hob;obtain ⟨q3,q4⟩:=q2 _ hobj;obtain ⟨q5,q6⟩:=q4 rfl e sz es rfl;rw [vru] at q5;have hvl:vs.length=es.length:=h1.length.symm;have hor:OR C.X inj (qit st.sig l (.arr e sz (g+1) (es.take m))) w l (.arr e sz (g+1) (es.take m)):=by
  refine ⟨vs.take m,ARs.ev hev h.hr.xlt _ _ (h1.take m),fun v hv=>h2 v (vqz hv),fun u hu=>?_,?_⟩
  ·rw [qhb m h2] at hu;exact h3 u (vqz hu)
  ·rcases h4 with ⟨h4,h5⟩ | ⟨b,c,cur,i1,i2,i3,i4,i5,i6,i7⟩
   ·exact .inl ⟨h4,by rw [h5,List.take_nil]⟩
   ·refine .inr ⟨b,c,cur,i1,i2,i3,by rw [vqr];omega,i5,i6,?_⟩;rw [qhb m h2,←i7,List.take_take,vqr];congr 1;rw [vtm q5,vtm (vrq _ q5)]
 have hHR:=hhr hor;refine ⟨fun t'=>?_,h.size,h.defers,by rw [hs];exact hHR,by rw [hs];exact h.ev.trans hev⟩;rw [hs];simp only [qd7,Env.get];by_cases hte:t=t'
 ·rw [if_pos hte,←hte];refine ⟨q1,fun o ho=>?_⟩;have ho':o=.arr e sz (g+1) (es.take m):=by rw [←ho];simp [qit]
  subst ho';refine ⟨vrj _,fun _ e' sz' es' heq=>?_⟩;cases heq;refine ⟨by rw [vqr];omega,?_⟩;rcases q6 with ⟨q7,q8,q9,q10⟩ | ⟨b,c,a0,q7,q8,q9,q10⟩
  ·exact .inl ⟨q7,q8,rfl,q10⟩
  ·exact .inr ⟨b,c,a0,q7,q8,q9,q10⟩
 ·rw [if_neg hte];exact AR.ev hev h.hr.xlt _ _ (h.env t')
theorem qwc {c:Code} (t l g m e sz:Nat) {es es':List AV} {st':St} (hobj:qcq st.heap l=.arr e sz g es) (ht:st.env.get t=.own l g 0 m) (he:es.take m=es')
  (hs:(⟨qd7 st.env (some t) (.own l (g+1) 0 m),qw9 st.heap l (.arr e sz (g+1) es')⟩:St)=st') (h:AWp C c Q st'):AWp C c Q st:=by
 subst he;subst hs;exact fun inj a w hs=>h inj a w (hs.shrink hobj ht)
end Go.Ab
namespace Go.Ab
open Go
theorem vhh {α:Type} {l:List α} {n:Nat} {x:α} (h:l[((n:Nat):Int).toNat]?=some x):l[n]?=some x:=h
theorem qti:∃g:Nat→Nat→Nat,(∀f i k,k < 1048576→k≠g f i)∧(∀f i j,g f i=g f j→i=j)∧∀f f' i j,f < 1048576→f' < 1048576→f≠f'→g f i≠g f' j :=
 ⟨fun f i=>1048576 * (i+1)+f,fun f i k h=>by show k≠1048576 * (i+1)+f;omega,fun f i j h=>by simp only at h;omega,fun f f' i j h h' hn=>by show 1048576 * (i+1)+f≠1048576 * (j+1)+f';omega⟩
def fx:Nat→Nat→Nat:=Classical.choose qti
theorem vmc {f i k:Nat} (h:k < 1048576):k≠fx f i:=(Classical.choose_spec qti).1 f i k h
theorem fx_ne {f f' i j:Nat} (h:f < 1048576) (h':f' < 1048576) (hn:f≠f'):(fx f i=fx f' j)=False:=eq_false ((Classical.choose_spec qti).2.2 f f' i j h h' hn)
variable {α:Type}
def famR (f e sz G:Nat) (enc:α→PV) (ll:List (List α)):List AV:=ll.mapIdx fun i x=>.own (fx f i) G 0 x.length
def famL (f e sz G:Nat) (enc:α→PV) (ll:List (List α)) (rest:List (Nat×AO)):List (Nat×AO) :=
 (ll.mapIdx fun i x=>(fx f i,AO.arr e sz G (vs3 AV.p (vs3 enc x))))++rest
theorem vby (f e sz G:Nat) (enc:α→PV):famR f e sz G enc []=[]:=rfl
theorem vbz (f e sz G:Nat) (enc:α→PV) (rest:List (Nat×AO)):famL f e sz G enc [] rest=rest:=rfl
def q8h (h:List (Nat×AO)) (f:Nat):Prop:=∀i,(qcq h (fx f i)).alive=false
section
variable {h h' H0 rest:List (Nat×AO)} {f f' i k e sz G G' e' sz':Nat} {o:AO} {enc enc':α→PV} {ll ll':List (List α)}
theorem qzo:q8h (famL f e sz G enc [] rest) f=q8h rest f:=rfl
end
end Go.Ab
namespace Go.Ab
open Go
mutual
def renV (π:Nat→Nat):AV→AV
 | .any=>.any
 | .p x=>.p x
 | .nils=>.nils
 | .loc l g i off=>.loc (π l) g i off
 | .own l g off n=>.own (π l) g off n
 | .mapo l g=>.mapo (π l) g
 | .func fn cs=>.func fn (q8i π cs)
 | .agg cs=>.agg (q8i π cs)
 | .tup cs=>.tup (q8i π cs)
def q8i (π:Nat→Nat):List AV→List AV
 | []=>[]
 | c :: r=>renV π c :: q8i π r
end
section
variable {X:Nat→Prop} {inj:Inj} {σ:Nat→AO} {w:World} {π:Nat→Nat}
end
def renE (π:Nat→Nat) (env:Env):Env:=env.map fun x=>(x.1,renV π x.2)
variable {C:Cx} {Q:Exit→St→Prop} {st:St} {inj:Inj} {a:Act} {w:World}
section
variable {α:Type} {h:List (Nat×AO)} {f i d e sz G:Nat} {enc:α→PV} {ll:List (List α)}
end
end Go.Ab
namespace Go.Ab
open Go
section
variable {α:Type} {h:List (Nat×AO)} {f e sz G:Nat} {enc:α→PV} {ll:List (List α)}
theorem q8j (c:Prop) [Decidable c] (a b:AO):(if c then a else b).alive=if c then a.alive else b.alive:=by split <;> rfl
end
theorem q8k (π:Nat→Nat) (t:Nat) (v:AV) (r:Env):renE π ((t,v) :: r)=(t,renV π v) :: renE π r:=rfl
theorem vb0 (π:Nat→Nat):renE π []=[]:=rfl
theorem q11 {β:Type} {l:List β} {n:Nat} (h:l.length=n):l.take n=l:=vq9 (by omega)
theorem q3o {β:Type} (l:List PV) (f:β→PV) (x:List β):(PV.slc l=qbh f x)=(l=vs3 f x):=by simp [qbh]
attribute [simp] q3o
attribute [go_sem] q11 q3o vby vbz Option.elim_some Option.elim_none qzo q8j renV q8i q8k vb0
variable {C:Cx} {Q:Exit→St→Prop} {st:St}
end Go.Ab
namespace Go.Ab
open Go
section
variable {α:Type} {h h' H0 rest:List (Nat×AO)} {f e sz G:Nat} {enc:α→PV}
end
end Go.Ab
namespace Go.Ab
open Go
section
variable {α:Type} {h h' H0 rest:List (Nat×AO)} {f e sz G:Nat} {enc:α→PV} {ll:List (List α)}
end
end Go.Ab
namespace Go.Ab
open Go
section
variable {C:Cx} {Q:Exit→St→Prop} {st:St}
theorem zCn {α:Type} (f:α→PV) (l:List α) (K off len:Nat) (hle:off+len≤l.length) {ops:Array Oper} {o:Oper} {rest:List Oper} {g e sz:Nat} {t:TypeId} {x:Operand} {st':St}
  (h:AL C ops rest Q st') (ho:o.op=.call ⟨.builtin .clear,#[x],#[t]⟩:=by rfl) (hg:qaq ops st.env o=some true:=by first | exact qbe rfl | exact qb4 rfl rfl (by exact rfl) (by exact rfl)) (hd:qba C.N o=true:=by rfl)
  (hu:C.P.underlying t=some (.slice e):=by simp only [go_sem,seval];all_goals exact rfl) (hx:ev st.env x=.own K g off len:=by simp only [go_sem,seval, *];all_goals exact zF)
  (hs:qcq st.heap K=.arr e sz g ((l.map f).map .p):=by simp only [go_sem,seval, *];all_goals exact zF) (hsz:sz=C.P.cellsOf e:=by simp only [go_sem,seval];all_goals rfl) (hz:qa2 C.P e=some .nils:=by simp only [go_sem,seval];all_goals rfl)
  (hok:qd0 sz .nils=true:=by rfl)
  (hst:(⟨qd7 st.env o.dst (.p (.tup [])),qm9 st.heap (some (K,.arr e sz g (List.map AV.p (List.map f (l.take off))++List.replicate len .nils++List.map AV.p (List.map f (l.drop (off+len))))))⟩:St)=st':=by exact rfl):AL C ops (o :: rest) Q st:=by
 obtain ⟨dst,op,type,pos,after,guard⟩:=o;simp only at ho;subst ho;subst hsz;have hr:(aop C.P C.B (ev st.env) ⟨dst,.call ⟨.builtin .clear,#[x],#[t]⟩,type,pos,after,guard⟩).run (qcq st.heap)=some (.p (.tup []),some (K,.arr e (C.P.cellsOf e) g (vs3 AV.p (vs3 f (l.take off))++vq5 len .nils++vs3 AV.p (vs3 f (l.drop (off+len)))))):=by
  show (qon C.P t (ev st.env x)).run (qcq st.heap)=_;unfold qon;rw [hu,hx];simp only [L.run,hs];rw [if_pos ⟨trivial,trivial,trivial,by simpa using hle⟩,hz];simp only [hok,if_true,L.run_ret];simp only [vs7,vs5]
 subst hst;refine q77 hg hd ?_ h;rw [hr];rfl
theorem qtj {σ σ':Nat→AO}:∀{a a' b b':List AV},qlk σ σ' a a'→qlk σ σ' b b'→qlk σ σ' (a++b) (a'++b')
 | [],[],_,_,_,h=>h
 | [],_ :: _,_,_,h,_=>h.elim
 | _ :: _,[],_,_,h,_=>by simp [qlk] at h
 | c :: a,c' :: a',b,b',h,k=>⟨h.1,qtj h.2 k⟩
theorem vb1 {α:Type} {σ σ':Nat→AO} {f:α→PV} {a b:List α} {n:Nat} {z:α} (hz:f z=.slc []) :
  qlk σ σ' (vs3 AV.p (vs3 f a)++vq5 n .nils++vs3 AV.p (vs3 f b)) (vs3 AV.p (vs3 f (a++vq5 n z++b)))=True:=by
 rw [eq_iff_iff,iff_true];simp only [vqs,vs6,hz];exact qtj (qtj (qzd _ _ _) (q8g _ _ _)) (qzd _ _ _)
end
attribute [go_sem] vb1
end Go.Ab
namespace Go.Ab
open Go
theorem qq5:∃p:Nat→Nat,(∀k,k < 1048576→p k=k)∧∀f i,f < 1048576→p (fx f i)=1048576+f:=by
 refine ⟨fun l=>open Classical in if l < 1048576 then l else if h:∃f i,f < 1048576∧l=fx f i then 1048576+h.choose else 0,fun k hk=>if_pos hk,fun f i hf=>?_⟩;have h1:¬fx f i < 1048576:=fun h=>vmc h rfl
 have h2:∃f' i',f' < 1048576∧fx f i=fx f' i':=⟨f,i,hf,rfl⟩;simp only [h1,if_false];rw [dif_pos h2];obtain ⟨i',h3,h4⟩:=h2.choose_spec;by_cases hn:f=h2.choose
 ·rw [←hn]
 ·rw [fx_ne hf h3 hn] at h4;exact h4.elim
def plc:Nat→Nat:=Classical.choose qq5
theorem vhi {k:Nat} (h:k < 1048576):plc k=k:=(Classical.choose_spec qq5).1 k h
theorem vmd {f i:Nat} (h:f < 1048576):plc (fx f i)=1048576+f:=(Classical.choose_spec qq5).2 f i h
def vhj (p:Nat→Nat) (e:Evt):Option Nat×List Nat:=(e.wr.map p,e.reads.map p)
def vhk (x y:Option Nat×List Nat):Bool :=
  (match x.1 with
   | some l=>!y.2.contains l && y.1 != some l
   | none=>true) && (match y.1 with
   | some l=>!x.2.contains l
   | none=>true)
def vb2 (ops:Array Oper) (es:List (Option Nat×List Nat)):Bool :=
  let A:=q3f ops ops.size
  (vq3 ops.size).all fun j=>(vq3 j).all fun i=>qu8 A j i ||
    (match es[i]?,es[j]? with
     | some x,some y=>vhk x y
     | _,_=>true)
theorem vb3 {p:Nat→Nat} {x y:Evt} (h:vhk (vhj p x) (vhj p y)=true):q5o x y=true:=by
 unfold vhk vhj at h;unfold q5o;simp only [vpq] at h ⊢;obtain ⟨h1,h2⟩:=h;constructor
 ·cases hx:x.wr with
  | none=>rfl
  | some l =>
   rw [hx] at h1;simp only [vr0,vpq,vpu,bne_iff_ne,ne_eq] at h1 ⊢;obtain ⟨q1,q2⟩:=h1;refine ⟨?_,fun e=>q2 (by rw [e];rfl)⟩;cases hc:y.reads.contains l with
   | false=>rfl
   | true =>
    have:(y.reads.map p).contains (p l)=true:=by
     simp only [vsp,vtb] at hc ⊢;exact ⟨l,hc,rfl⟩
    rw [this] at q1;cases q1
 ·cases hy:y.wr with
  | none=>rfl
  | some l =>
   rw [hy] at h2;simp only [vr0,vpu] at h2 ⊢;cases hc:x.reads.contains l with
   | false=>rfl
   | true =>
    have:(x.reads.map p).contains (p l)=true:=by
     simp only [vsp,vtb] at hc ⊢;exact ⟨l,hc,rfl⟩
    rw [this] at h2;cases h2
theorem vb4 {ops:Array Oper} {es:List Evt} {p:Nat→Nat} (h:vb2 ops (es.map (vhj p))=true):qr4 ops es=true:=by
 simp only [vb2,qr4,vsn,vtc,vpv] at h ⊢;intro j hj i hi;rcases h j hj i hi with h1 | h1
 ·exact .inl h1
 ·right;rw [vqg,vqg] at h1;cases hx:es[i]? with
  | none=>rfl
  | some x =>
   cases hy:es[j]? with
   | none=>rfl
   | some y =>
    rw [hx,hy] at h1;exact vb3 h1
theorem q8l {ops:Array Oper} {acc:List Evt} {sh:List (Option Nat×List Nat)} (hsh:acc.map (vhj plc)=sh) (hev:vb2 ops sh.reverse=true):qr4 ops acc.reverse=true:=by
 subst hsh;rw [←List.map_reverse] at hev;exact vb4 hev
variable {C:Cx} {Q:Exit→St→Prop} {st:St}
theorem ydlS {l:Array Oper} {r:List Oper} {acc:List Evt} {sh:List (Option Nat×List Nat)} (h:AL C l r Q st) (hsh:acc.map (vhj plc)=sh:=by simp only [List.map_cons,List.map_nil,vhj,Evt.wr,Option.map_some,Option.map_none,vhi,vmd,seval,go_sem];exact rfl) (hev:vb2 l sh.reverse=true:=by kernel_rfl):DGo C l [] st acc (DKL C l r Q):=DGo.done ⟨q8l hsh hev,h⟩
end Go.Ab
namespace Go.Ab
variable {D:Prop}
open Go
def q12 (n₀:Nat) (W:World) (sv:Value) (n:Nat) (news:List Value):Prop :=
 (∃a cap,sv=.slice a 0 cap∧n=0)∨∃b off cap,sv=.slice (some ⟨b,off,none⟩) n cap∧b < n₀∧∀j u,news[j]?=some u→W.cell? ⟨b,off+j,none⟩=some u
theorem q12.below {n₀ n:Nat} {A B:World} (h:RowKit.Below n₀ A B) {sv:Value} {news:List Value}:q12 n₀ A sv n news→q12 n₀ B sv n news
 | .inl e=>.inl e
 | .inr ⟨b,off,cap,e,hb,hc⟩=>.inr ⟨b,off,cap,e,hb,fun j u hj=>(h.cell (p:=⟨b,off+j,none⟩) hb).trans (hc j u hj)⟩
variable {C:Cx} {Q:Exit→St→Prop} {st:St}
end Go.Ab
namespace Go.Lib
open Go.RowKit
section
variable {P:Program} (w:World)
end
end Go.Lib
namespace Go.Proofs
open Go.Shelf Go.RowKit
variable {P:Program} {ρ:Ren}
end Go.Proofs
namespace Go.Lib
end Go.Lib
namespace Go.Proofs
open Go.Shelf Go.RowKit
variable {P:Program} {ρ:Ren}
end Go.Proofs
namespace Go.Ab
variable {D:Prop}
open Go
def vme (bs:List UInt8):List AV:=bs.map fun c=>.p (.int .u8 ((c.toNat:Nat):Int))
variable {C:Cx} {Q:Exit→St→Prop} {st:St}
end Go.Ab
namespace Go.Ab
variable {D:Prop}
open Go
variable {C:Cx} {Q:Exit→St→Prop} {st:St}
@[go_sem] theorem vjp:vme []=[]:=rfl
theorem vb5 {C : Cx} {st : St} {inj : Inj} {a : Act} {w : World} (hs : SR C st inj a w) {g : Nat} (hg : C.P.globalNamed "math/bits.deBruijn32tab" = some g) : q06 (fun b => C.X b ∨ F inj st.sig b) w g 0 (qkg.map (Value.int .u8)) := qnb hs.ev g hg
theorem vmf {ops : Array Oper} {o : Oper} {rest : List Oper} {t te g : Nat} {x : Operand} {k : IntKind} {i : Nat} (hgn : C.P.globalNamed "math/bits.deBruijn32tab" = some g) (ho : o.op = .indexAddr t (.global g) x) (hg : qaq ops st.env o = some true) (hd : qba C.N o = true)
    (hu : C.P.underlying t = some (.array 32 te)) (hte : qmo C.P te = true) (hc : C.P.cellsOf te = 1) (hx : ev st.env x = .p (.int k (i : Int))) (hi : i < 32)
    (h : AL C ops rest Q ⟨qd7 st.env o.dst (.p (.imm [.int .u8 (qkg.getD i 0)])), st.heap⟩) : AL C ops (o :: rest) Q st := by
  intro inj a w hs
  simp only [wpList, qbm hs hg, if_true]
  refine .inl ?_
  have hr := vb5 hs hgn
  have he := hs.eval x
  rw [hx] at he
  simp only [AR, PR] at he
  have hsz := qdz hte w
  rw [hc] at hsz
  have hrun : (Instr.indexAt t (.pointer (some ⟨g, 0, none⟩)) (a.eval x)).run C.P w = .ok (.pointer (some ⟨g, i, none⟩)) w := by
    rw [he]
    have h1 : ((i : Int) < 32) := by omega
    simp [Instr.indexAt, asIntOf, run_underlying hu, Instr.sureAddr, hi, h1, hsz, Addr.add_lit]
  have hlen : i < qkg.length := by simpa [qkg] using hi
  have hcell : PR (fun b => C.X b ∨ F inj st.sig b) w (.imm [.int .u8 (qkg.getD i 0)]) (.pointer (some ⟨g, i, none⟩)) := by
    refine ⟨g, i, [.int .u8 (qkg.getD i 0)], rfl, ⟨_, _, rfl, rfl, rfl⟩, by intro u hu; have h1z : u = .int .u8 (qkg.getD i 0) := (by simpa using hu); subst h1z; rfl, hr.1, hr.2.1, ?_⟩
    intro j u hj
    cases j with
    | zero =>
      simp only [vst, vr1] at hj
      subst hj
      have := hr.2.2 i (.int .u8 (qkg.getD i 0)) (by rw [vqg, vsr, vqd hlen]; rfl)
      simpa using this
    | succ j => simp at hj
  obtain ⟨dst, op, ty, pos, af, gd⟩ := o
  simp only at ho
  subst ho
  refine qlp (s := Instr.indexAt t (a.eval (.global g)) (a.eval x)) rfl hrun ?_
  · exact h inj _ _ (hs.put (u := none) hd hs.hr (Ev.refl _ _ _ _) hcell)
theorem zTab {ops : Array Oper} {o : Oper} {rest : List Oper} {t te g : Nat} {x : Operand} {k : IntKind} (i : Nat) (hgn : C.P.globalNamed "math/bits.deBruijn32tab" = some g) (hu : C.P.underlying t = some (.array 32 te)) (hi : i < 32) (hx : ev st.env x = .p (.int k (i : Int)))
  (h:AL C ops rest Q ⟨qd7 st.env o.dst (.p (.imm [.int .u8 (qkg.getD i 0)])),st.heap⟩) (hte:qmo C.P te=true:=by kernel_rfl) (hc:C.P.cellsOf te=1:=by kernel_rfl)
  (ho:o.op=.indexAddr t (.global g) x:=by rfl) (hg:qaq ops st.env o=some true:=by exact qbe rfl) (hd:qba C.N o=true:=by rfl):AL C ops (o :: rest) Q st:=vmf hgn ho hg hd hu hte hc hx hi h
def tzI (n:Nat):Nat:=(n &&& (4294967296 - n)) * 125613361 % 4294967296 / 134217728
def vjq (n:Nat):Int:=if n=0 then 32 else qkg.getD (tzI n) 0
theorem vey (n:Nat):tzI n < 32:=by unfold tzI;omega
theorem wrapU (n:Nat):vsi.wrap (n:Int)=((n % 4294967296:Nat):Int):=by
 simp only [vsj,vsh,vsf];simp only [vse,vps,if_false];rw [show ((2:Int) ^ 32)=4294967296 from rfl];omega
theorem vmg {n:Nat} (h0:n≠0) (h:n < 4294967296):Int.fdiv (vsi.wrap ((vsi.wrap ((BitVec.ofInt 32 (n:Int) &&& BitVec.ofInt 32 (vsi.wrap (0 - (n:Int)))).toNat:Int)) * 125613361)) (2 ^ (min 27 32))=((tzI n:Nat):Int):=by
 have e1:vsi.wrap (0 - (n:Int))=((4294967296 - n:Nat):Int):=by
  simp only [vsj,vsh,vsf];simp only [vse,vps,if_false];rw [show ((2:Int) ^ 32)=4294967296 from rfl];omega
 rw [e1,q8f,BitVec.toNat_and,qpy h,qpy (a:=4294967296 - n) (by omega)];have e2:((n &&& (4294967296 - n):Nat):Int) * 125613361=(((n &&& (4294967296 - n)) * 125613361:Nat):Int):=by simp
 rw [e2,wrapU];unfold tzI;exact vmb _ 27 (by omega)
theorem vmh:∀i,i < 32→0≤qkg.getD i 0∧qkg.getD i 0 < 32:=by decide
theorem q8m {n:Nat}:vsg.wrap (qkg.getD (tzI n) 0)=qkg.getD (tzI n) 0:=by
 have h:=vmh (tzI n) (vey n);exact wrap_i64 (by omega) (by omega)
end Go.Ab
namespace Go.Ab
variable {D:Prop}
open Go
variable {X:Nat→Prop} {inj:Inj} {σ:Nat→AO} {w:World} {P:Program}
theorem qtk (h:HR X inj σ w) {l g i off e sz b c:Nat} {es:List AV} {x y v:AV} {uv:Value} (ho:σ l=.arr e sz g es) (a4:inj l=some (b,c)) (hx:es[i]?=some x) (hp:qjz x off v=some y) (hv:AR X inj σ w v uv) :
  ∃w',(storeCells ⟨b,i * sz+off,none⟩ uv.cells.toList).run P w=.ok () w'∧HR X inj (upd σ (some (l,.arr e sz g (es.set i y)))) w'∧Ev D X inj σ w inj (upd σ (some (l,.arr e sz g (es.set i y)))) w':=by
 obtain ⟨vs,o1,o2,o3,o4⟩:=(ho ▸ h.obj l _ rfl:OR X inj σ w l (.arr e sz g es));obtain ⟨u,hu,hau⟩:=o1.get hx;have hum:u∈vs:=vqx hu;have hone:qa0 u.cells.toList:=fun c hc=>o3 c (vqw.2 ⟨u,hum,hc⟩)
 obtain ⟨s1,s2,s3,u',s4,s5,s6⟩:=qm5 hau hv (o2 u hum) hone hp;rcases o4 with ⟨o4,_⟩ | ⟨b',c',cur,p1,p2,p3,p4,p5,p6,p7⟩
 ·rw [a4] at o4;cases o4
 rw [a4] at p1;cases p1;have hi:i < vs.length:=(vqf.1 hu).1;have hel:es.length=vs.length:=o1.length;have hmul:(i+1) * sz≤vs.length * sz:=vrq _ hi;have hmul2:es.length * sz≤c * sz:=vrq _ p4;rw [hel] at hmul2;rw [Nat.add_mul,Nat.one_mul] at hmul;have hvl:uv.cells.toList.length=v.cells.length:=by rw [vpj,s3]
 have hst:=run_storeCells_at P b (i * sz+off) e uv.cells.toList 0 cur w p3 (by rw [hvl,p6];omega) s2;simp only [vrf] at hst;have hct:cur.toList.length=c * sz:=by rw [vpj,p6]
 have hcurlen:i * sz+off+uv.cells.toList.length≤cur.toList.length:=by rw [hvl,hct];omega
 have hup:=h.update (D:=D) (w':=w.setRow b (splice cur.toList (i * sz+off) uv.cells.toList).toArray) (l:=l) (o:=.arr e sz g es) (o':=.arr e sz g (es.set i y)) (x:=inj l) ho rfl rfl rfl (fun _=>vrj _) (by simp)
  (fun a _=>qjj w b _ a) (fun k hk hne=>setRow_other w b k _ (fun e=>hne rfl c (by rw [e];exact a4)))
  (fun b1 c1 h1=>.inr ⟨rfl,c1,h1⟩) ⟨vrj _,fun _ _=>⟨rfl,.inl ⟨e,sz,es,_,rfl,rfl,by simp⟩⟩⟩
 rw [ql9] at hup;obtain ⟨hev,hhr⟩:=hup;refine ⟨_,hst,hhr ?_,hev⟩;refine ⟨vs.set i u',(ARs.ev hev h.xlt es vs o1).set (AR.ev hev h.xlt y u' s4),?_,?_,.inr ⟨b,c,_,a4,p2,setRow_heap w b cur _ e _ p3,by simpa using p4,p5,?_,?_⟩⟩
 ·intro q hq;rcases vq0 hq with h1 | h1
  ·exact o2 q h1
  ·rw [h1,←vpj,s5,qfs _ _ _ (by rw [hvl,show u.cells.toList.length=sz by rw [vpj,o2 u hum]];exact s1),vpj,o2 u hum]
 ·intro q hq;obtain ⟨z,hz,hq⟩:=vqw.1 hq;rcases vq0 hz with h1 | h1
  ·exact o3 q (vqw.2 ⟨z,h1,hq⟩)
  ·rw [h1] at hq;exact s6 q hq
 ·rw [vq6,qfs _ _ _ hcurlen,hct]
 ·rw [q25 o2 hu s5 (by rw [hvl];exact s1),←p7,List.length_set];apply vp7;intro k;have hA:i * sz+off+uv.cells.toList.length≤(cur.toList.take (es.length * sz)).length:=by
   rw [vqr,hct,hel,hvl];omega
  rw [vqj,qir _ _ _ hcurlen,qir _ _ _ hA,vqj];by_cases hk:k < es.length * sz
  ·simp only [hk,if_true]
  ·simp only [hk,if_false];rw [if_neg (by rw [hel] at hk;omega),if_neg (by rw [hel] at hk;rw [hvl];omega)]
theorem qsg {l:Nat} {o:AO} (h:σ l=o):upd σ (some (l,o))=σ:=by
 funext k;simp only [upd,qit];by_cases hk:k=l
 ·subst hk;simp [h]
 ·simp [hk]
theorem qrw (at_:Array TypeId) (ty:TypeId) (cs:Array Bool) (args:Array Value):builtin .copy at_ ty cs args=(do pure (Next.value (←Builtin.copy_ at_ ty args))):=rfl
def q05 (a b c:Int):AV:=.p (.agg [.int .i64 a,.int .i64 b,.int .i64 c])
theorem qzp (c0 c1 c2:Int) (L:List Int) (h:L≠[]):qjz (q05 c0 c1 c2) 0 (.p (.agg ((L.take 3).map (PV.int .i64))))=some (q05 (L.getD 0 c0) (L.getD 1 c1) (L.getD 2 c2)):=by
 cases L with
 | nil=>exact absurd rfl h
 | cons a L =>
  cases L with
  | nil=>rfl
  | cons b L =>
   cases L with
   | nil=>rfl
   | cons c L =>
    have e:(a :: b :: c :: L).take 3=[a,b,c]:=rfl;rw [e];rfl
theorem q8n (L:List Int) (X:Nat→Prop) (inj:Inj) (σ:Nat→AO) (w:World):AR X inj σ w (.p (.agg (L.map (PV.int .i64)))) (.agg (L.map (Value.int .i64)).toArray):=by
 simp only [AR,PR];refine ⟨L.map (Value.int .i64),rfl,?_,?_⟩
 ·induction L with
  | nil=>simp [PRs]
  | cons a L ih=>exact ⟨_,_,rfl,rfl,ih⟩
 ·intro u hu;obtain ⟨a,_,rfl⟩:=vtb.1 hu;rfl
theorem qsh {a:Act} {d:Nat} {v:Value} (h:d < a.tmps.size):(a.put (some d) v).eval (.tmp d)=v:=by
 simp [Act.eval,Act.put,h]
theorem qzq {a:Act} {d t:Nat} {v:Value} (h:t≠d):(a.put (some d) v).eval (.tmp t)=a.eval (.tmp t):=by
 simp [Act.eval,Act.put,vph (Ne.symm h)]
variable {C:Cx} {Q:Exit→St→Prop} {st:St}
theorem vmi {ops:Array Oper} {o1 o2 o3:Oper} {rest:List Oper} {tA te dT sT:TypeId} {x y:Operand} {d1 d2 l g:Nat} {c0 c1 c2:Int} {L:List Int}
  (h1:o1.op=.slice tA x none none none) (hd1:o1.dst=some d1) (h2:o2.op=.move y) (hd2:o2.dst=some d2) (h3:o3.op=.call ⟨.builtin .copy,#[.tmp d1,.tmp d2],#[dT,sT]⟩)
  (g1:o1.guard=none) (g2:o2.guard=none) (g3:o3.guard=none) (n1:qba C.N o1=true) (n2:qba C.N o2=true) (n3:qba C.N o3=true) (hne:d1≠d2)
  (hu:C.P.underlying tA=some (.array 3 te)) (hte:qmo C.P te=true) (hc:C.P.cellsOf te=1) (hdT:C.P.underlying dT=some (.slice te)) (hy:y≠.tmp d1)
  (hx:ev st.env x=.loc l g 0 0) (ho:qcq st.heap l=.arr tA 3 g [q05 c0 c1 c2]) (hyv:ev st.env y=.p (.slc (L.map (PV.int .i64))))
  (h:AL C ops rest Q ⟨qd7 (qd7 (qd7 st.env o1.dst .any) o2.dst (.p (.slc (L.map (PV.int .i64))))) o3.dst .any,qw9 st.heap l (.arr tA 3 g [q05 (L.getD 0 c0) (L.getD 1 c1) (L.getD 2 c2)])⟩):AL C ops (o1 :: o2 :: o3 :: rest) Q st:=by
 intro inj a w hs;have hg:∀(o:Oper) (st':St),o.guard=none→qaq ops st'.env o=some true:=fun o st' e=>by unfold qaq;rw [e]
 have hloc:=hs.eval x;rw [hx] at hloc;obtain ⟨_,a2⟩:=hloc;have hσ:st.sig l=.arr tA 3 g [q05 c0 c1 c2]:=ho;obtain ⟨_,a3⟩:=a2 _ hσ;obtain ⟨b,c,a4,hptr⟩:=a3 rfl tA 3 _ rfl;simp only [Nat.zero_mul,vru] at hptr
 -- the slice
 have r1:(Instr.sliceAt tA (a.eval x) none none none).run C.P w=.ok (.slice (some ⟨b,0,none⟩) 3 3) w:=by
  rw [hptr];simp [Instr.sliceAt,run_underlying hu,Instr.sureAddr,Instr.sliceBounds,qdz hte w,Addr.add_lit]
 simp only [wpList,qbm hs (hg o1 st g1),if_true];refine .inl ?_;obtain ⟨dst1,op1,ty1,pos1,af1,gd1⟩:=o1;simp only at h1 hd1;subst h1 hd1;refine qlp (s:=Instr.sliceAt tA (a.eval x) none none none) rfl r1 ?_;have hs1:=hs.put (o:=⟨some d1,.slice tA x none none none,ty1,pos1,af1,gd1⟩) (v:=.any) (val:=.slice (some ⟨b,0,none⟩) 3 3) (u:=none) n1 hs.hr (Ev.refl _ _ _ _) trivial;simp only [qm9] at hs1
 -- the source
 have hd1N:d1 < C.N:=by simpa [qba] using n1
 have e1:∀t,t≠d1→(a.put (some d1) (.slice (some ⟨b,0,none⟩) 3 3)).tmps.getD t undef=a.tmps.getD t undef:=fun t ht=>by
  simp [Act.put,vph (Ne.symm ht)]
 have hy1:ev (qd7 st.env (some d1) .any) y=.p (.slc (L.map (PV.int .i64))):=by
  cases y with
  | tmp t =>
   have ht:t≠d1:=fun e=>hy (by rw [e])
   simp only [ev,qd7,Env.get];rw [if_neg (Ne.symm ht)];exact hyv
  | const v=>exact hyv
  | global g=>exact hyv
  | func f=>exact hyv
 simp only [wpList,qbm hs1 (hg o2 _ g2),if_true];refine .inl ?_;obtain ⟨dst2,op2,ty2,pos2,af2,gd2⟩:=o2;simp only at h2 hd2;subst h2 hd2;have hsrc:=hs1.eval y;simp only at hsrc;rw [hy1] at hsrc;refine qlp (s:=pure ((a.put (some d1) (.slice (some ⟨b,0,none⟩) 3 3)).eval y)) (by simp [execOp]) (vr6 _ _ _) ?_;have hs2:=hs1.put (o:=⟨some d2,.move y,ty2,pos2,af2,gd2⟩) (v:=.p (.slc (L.map (PV.int .i64)))) (u:=none) n2 hs1.hr (Ev.refl _ _ _ _) hsrc;simp only [qm9] at hs2;simp only [AR,PR] at hsrc;obtain ⟨sa,cap,vs,hva,hcap,hvs,hsl⟩:=hsrc;have hvs':=q3l hvs;subst hvs';rw [vqn] at hva hcap;generalize hV:(a.put (some d1) (.slice (some ⟨b,0,none⟩) 3 3)).eval y=vy at *;subst hva
 -- the copy
 simp only [wpList,qbm hs2 (hg o3 _ g3),if_true];refine .inl ?_;obtain ⟨dst3,op3,ty3,pos3,af3,gd3⟩:=o3;simp only at h3;subst h3;have hd2N:d2 < C.N:=by simpa [qba] using n2
 have v1:((a.put (some d1) (.slice (some ⟨b,0,none⟩) 3 3)).put (some d2) (.slice sa L.length cap)).eval (.tmp d1)=.slice (some ⟨b,0,none⟩) 3 3:=by
  rw [qzq hne];exact qsh (by rw [hs.size];exact hd1N)
 have v2:((a.put (some d1) (.slice (some ⟨b,0,none⟩) 3 3)).put (some d2) (.slice sa L.length cap)).eval (.tmp d2)=.slice sa L.length cap:=qsh (by rw [hs1.size];exact hd2N);have key:∃(rv:Value) (w':World),(Builtin.copy_ #[dT,sT] ty3 #[.slice (some ⟨b,0,none⟩) 3 3,.slice sa L.length cap]).run C.P w=.ok rv w'∧HR C.X inj (upd st.sig (some (l,.arr tA 3 g [q05 (L.getD 0 c0) (L.getD 1 c1) (L.getD 2 c2)]))) w'∧Ev C.D C.X inj st.sig w inj (upd st.sig (some (l,.arr tA 3 g [q05 (L.getD 0 c0) (L.getD 1 c1) (L.getD 2 c2)]))) w':=by
  obtain ⟨inf,hinf⟩:=vry.1 hte;have hsize:inf.size=1:=by
   unfold Program.cellsOf at hc;rw [hinf] at hc;simpa using hc
  have hinfs:(C.P.info? te).map (·.size)=some 1:=by rw [hinf];simp [hsize]
  by_cases hL:L=[]
  ·subst hL;refine ⟨goInt 0,w,?_,?_,?_⟩
   ·exact run_copy_none w dT sT ty3 te _ _ _ _ _ _ hdT hinfs rfl
   ·have:=qsg hσ;simp only [List.getD_nil] at this ⊢;rw [this];exact hs.hr
   ·have:=qsg hσ;simp only [List.getD_nil] at this ⊢;rw [this];exact Ev.refl _ _ _ _
  ·obtain ⟨w',q1,q2,q3⟩:=qtk (D:=C.D) (P:=C.P) hs.hr hσ a4 (i:=0) (off:=0) (x:=q05 c0 c1 c2) rfl (qzp c0 c1 c2 L hL) (q8n (L.take 3) _ _ _ _);simp only [Nat.zero_mul,vru,vtg] at q1 q2 q3;refine ⟨goInt (Nat.min L.length 3),w',?_,q2,q3⟩;rcases hsl with hsl | ⟨sb,so,sz,rfl,hcs,hone,hrow⟩
   ·exact absurd (by simpa using hsl) hL
   ·have hflat:flat (L.map (Value.int .i64))=L.map (Value.int .i64):=by
     unfold flat;rw [List.flatMap_map];have:∀l:List Int,(l.flatMap fun n=>(Value.int .i64 n).cells.toList)=l.map (Value.int .i64):=by
      intro l
      induction l with
      | nil=>rfl
      | cons n l ih=>rw [vsq,ih];rfl
     exact this L
    rw [hflat] at hrow;have hcl:((L.take 3).map (Value.int .i64)).length=Nat.min L.length 3:=by rw [vqn,vqr];exact Nat.min_comm _ _
    have hload:=run_loadCells_list (P:=C.P) w ⟨sb,so,none⟩ ((L.take 3).map (Value.int .i64)) (fun j v hv=>by
     rw [vs7,vqj] at hv;split at hv
     ·have:=hrow.2.2 j v hv;simpa [Addr.add_lit] using this
     ·cases hv)
    rw [hcl] at hload;have hq1:(storeCells ⟨b,0,none⟩ (vth 3 (L.map (Value.int .i64)))).run C.P w=.ok () w':=by
     rw [←vs7];exact q1
    simp [Builtin.copy_,run_underlying hdT,Builtin.lenOf,Builtin.firstCells,sizeOf,typeInfo,hinf,hsize,hload,hq1]
 obtain ⟨rv,w',k1,k2,k3⟩:=key;have hexec:(execOp ((a.put (some d1) (.slice (some ⟨b,0,none⟩) 3 3)).put (some d2) (.slice sa L.length cap)).eval ⟨dst3,.call ⟨.builtin .copy,#[.tmp d1,.tmp d2],#[dT,sT]⟩,ty3,pos3,af3,gd3⟩).run C.P w=.ok (Next.value rv) w':=by
  simp only [execOp,resolve,vr5,vr6,vr3,invoke,qrw];have:(#[Operand.tmp d1,Operand.tmp d2]:Array Operand).map ((a.put (some d1) (.slice (some ⟨b,0,none⟩) 3 3)).put (some d2) (.slice sa L.length cap)).eval=#[.slice (some ⟨b,0,none⟩) 3 3,.slice sa L.length cap]:=by
   simp [v1,v2]
  rw [this,k1];simp
 unfold Oper.wp;rw [hexec];simp only [Oper.upon];refine h inj _ _ ?_;have hs3:=hs2.put (o:=⟨dst3,.call ⟨.builtin .copy,#[.tmp d1,.tmp d2],#[dT,sT]⟩,ty3,pos3,af3,gd3⟩) (v:=.any) (val:=rv) (u:=some (l,.arr tA 3 g [q05 (L.getD 0 c0) (L.getD 1 c1) (L.getD 2 c2)])) n3 k2 k3 trivial;exact hs3
theorem vmj {ops:Array Oper} {o1 o2 o3:Oper} {rest:List Oper} {tA te dT sT:TypeId} {x y:Operand} {d1 d2 g:Nat} (l:Nat) (c0 c1 c2:Int) (L:List Int)
  (hu:C.P.underlying tA=some (.array 3 te)) (hdT:C.P.underlying dT=some (.slice te))
  (h:AL C ops rest Q ⟨qd7 (qd7 (qd7 st.env o1.dst .any) o2.dst (.p (.slc (L.map (PV.int .i64))))) o3.dst .any,qw9 st.heap l (.arr tA 3 g [.p (.agg [.int .i64 (L.getD 0 c0),.int .i64 (L.getD 1 c1),.int .i64 (L.getD 2 c2)])])⟩)
  (h1:o1.op=.slice tA x none none none:=by rfl) (hd1:o1.dst=some d1:=by rfl) (h2:o2.op=.move y:=by rfl) (hd2:o2.dst=some d2:=by rfl) (h3:o3.op=.call ⟨.builtin .copy,#[.tmp d1,.tmp d2],#[dT,sT]⟩:=by rfl)
  (g1:o1.guard=none:=by rfl) (g2:o2.guard=none:=by rfl) (g3:o3.guard=none:=by rfl) (n1:qba C.N o1=true:=by rfl) (n2:qba C.N o2=true:=by rfl) (n3:qba C.N o3=true:=by rfl) (hne:d1≠d2:=by decide)
  (hte:qmo C.P te=true:=by kernel_rfl) (hc:C.P.cellsOf te=1:=by kernel_rfl) (hy:y≠.tmp d1:=by simp)
  (hx:ev st.env x=.loc l g 0 0:=by simp only [go_sem,seval, *];all_goals first | exact rfl | exact ⟨rfl,rfl⟩)
  (ho:qcq st.heap l=.arr tA 3 g [.p (.agg [.int .i64 c0,.int .i64 c1,.int .i64 c2])]:=by simp only [go_sem,seval, *];all_goals first | exact rfl | exact ⟨rfl,rfl⟩)
  (hyv:ev st.env y=.p (.slc (L.map (PV.int .i64))):=by simp only [go_sem,seval, *];all_goals first | exact rfl | exact ⟨rfl,rfl⟩):AL C ops (o1 :: o2 :: o3 :: rest) Q st :=
 vmi h1 hd1 h2 hd2 h3 g1 g2 g3 n1 n2 n3 hne hu hte hc hdT hy hx ho hyv h
end Go.Ab
namespace Go.Ab
open Go
variable {C:Cx} {Q:Exit→St→Prop} {st:St} {inj:Inj} {a:Act} {w:World}
end Go.Ab
namespace Go.Ab
open Go
variable {C:Cx} {Q:Exit→St→Prop} {st:St}
def vjr:AO→Bool
 | .arr _ _ _ [_]=>true
 | _=>false
theorem vb6 (e sz g:Nat) (x:AV):vjr (.arr e sz g [x])=true:=rfl
def vb7 (h:List (Nat×AO)):List Nat→Prop
 | []=>True
 | p :: ps=>vjr (qcq h p)=true∧vb7 h ps
theorem q8o (h:List (Nat×AO)):vb7 h []=True:=rfl
theorem q5y (h:List (Nat×AO)) (p:Nat) (ps:List Nat):vb7 h (p :: ps)=(vjr (qcq h p)=true∧vb7 h ps):=rfl
attribute [go_sem] vb6 q8o q5y
def isLoc:AV→Bool
 | .loc _ _ _ _=>true
 | _=>false
theorem q8p (l g i off:Nat):isLoc (.loc l g i off)=true:=rfl
attribute [go_sem] q8p
section
variable {α:Type} {h h' H0 rest:List (Nat×AO)} {f f' k e sz G G' e' sz':Nat} {o:AO} {enc:α→PV} {ll:List (List α)}
end
section
variable {β:Type} {f n e sz G:Nat} {ll ll':List β}
end
attribute [go_sem] true_or
end Go.Ab
namespace Go.Ab
open Go
variable {C:Cx} {Q:Exit→St→Prop} {st:St}
end Go.Ab
namespace Go.Ab
open Go
theorem q8q (D:Nat→Bool) (l g off len:Nat):qdx D 6 (.own l g off len)=qq1 D 5 l g off len:=rfl
theorem q8r (D:Nat→Bool) (cs:List AV):qdx D 6 (.agg cs)=(qau (qdx D 5) cs).bind fun xs=>.ret (.agg xs):=rfl
theorem vhl (D:Nat→Bool) (x:PV):qdx D 5 (.p x)=.ret x:=rfl
theorem q5z (D:Nat→Bool):qdx D 5 .nils=.ret (.slc []):=rfl
theorem q8s (D:Nat→Bool) (l g off len:Nat):qdx D 5 (.own l g off len)=qq1 D 4 l g off len:=rfl
theorem vhm (D:Nat→Bool) (x:PV):qdx D 4 (.p x)=.ret x:=rfl
attribute [go_sem] q8q q8r vhl q5z q8s vhm
end Go.Ab
namespace Go.Ab
open Go Go.Proofs Go.Shelf Go.RowKit Go.Lib
structure InsLay (P:Program) (ρ:Ren):Prop where
 mixed:P.follows .mixedOrders=true
 fi:∃nm,P.funcs[ρ.f 22]?=some { Body2.n22 ρ with name:=nm }
 fo:∀(args:Array Value) (w:World),(callFunc (ρ.f 29) args).run P w=((Extern.SlicesOverlaps.overlaps #[ρ.t 24,ρ.t 24] #[ρ.t 4] args).run P w).andThen fun v w'=>.ok (.value v) w'
 t0:P.underlying (ρ.t 0)=some (TypeDesc.tuple #[])
 a0:∀w,(isAgg (ρ.t 0)).run P w=.ok false w
 z0:∀w,(Go.sizeOf (ρ.t 0)).run P w=.ok 1 w
 v0:∀w,(zeroValue (ρ.t 0)).run P w=.ok (Value.tuple #[]) w
 t3:P.underlying (ρ.t 3)=some (TypeDesc.int vsg)
 a3:∀w,(isAgg (ρ.t 3)).run P w=.ok false w
 z3:∀w,(Go.sizeOf (ρ.t 3)).run P w=.ok 1 w
 v3:∀w,(zeroValue (ρ.t 3)).run P w=.ok (Value.int vsg 0) w
 t4:P.underlying (ρ.t 4)=some (TypeDesc.bool)
 a4:∀w,(isAgg (ρ.t 4)).run P w=.ok false w
 z4:∀w,(Go.sizeOf (ρ.t 4)).run P w=.ok 1 w
 v4:∀w,(zeroValue (ρ.t 4)).run P w=.ok (Value.bool false) w
 t24:P.underlying (ρ.t 24)=some (TypeDesc.slice (ρ.t 9))
 a24:∀w,(isAgg (ρ.t 24)).run P w=.ok false w
 z24:∀w,(Go.sizeOf (ρ.t 24)).run P w=.ok 1 w
 v24:∀w,(zeroValue (ρ.t 24)).run P w=.ok (Value.slice none 0 0) w
 z9:∀w,(Go.sizeOf (ρ.t 9)).run P w=.ok 1 w
 i9:∃i z,P.info? (ρ.t 9)=some i∧i.zero=some z∧i.size=1∧i.bytes≤16∧z.cells=#[z]
variable {P:Program} {ρ:Ren}
set_option maxHeartbeats 4000000 in
set_option maxRecDepth 100000 in
theorem q8t (L:InsLay P ρ) (b n c i vb vc:Nat) (cs:List Value) (x:Value) (w:World) (hi:i < n) (hroom:n+1≤c) (hc:c≤9223372036854775807) (hvb:vb≠b) (hcl:cs.length=n)
  (hcs:∀j v,cs[j]?=some v→w.cell? ⟨b,j,none⟩=some v) (hsp:∀j,j < n+1→(w.cell? ⟨b,j,none⟩).isSome=true) (hfz:∀j,j < n+1→w.frozen? ⟨b,j,none⟩=false)
  (hx:w.cell? ⟨vb,0,none⟩=some x) (h1c:∀v∈cs,v.oneCell'=true) (h1x:x.oneCell'=true)
  (tA tB:TypeId) (kA kB:Nat) (hsa:w.shape? vb=some (tA,kA)) (hsb:w.shape? b=some (tB,kB)) (hkB:kB≠0) (hfa:w.frozen? ⟨vb,0,none⟩=false) (hfe:w.frozen? ⟨vb,kA,none⟩=false) :
  Calls P (ρ.f 22) #[.slice (some ⟨b,0,none⟩) n c,.int .i64 i,.slice (some ⟨vb,0,none⟩) 1 vc] w fun e w' =>
   e=.returned (.slice (some ⟨b,0,none⟩) (n+1) c)∧w'=(w.drew.setCells b (i+1) (cs.drop i)).setCells b i [x]:=by
 obtain ⟨nm,hf⟩:=L.fi
 have mixed:=L.mixed
 have t0:=L.t0;have a0:=L.a0;have z0:=L.z0;have v0:=L.v0;have t3:=L.t3;have a3:=L.a3;have z3:=L.z3;have v3:=L.v3;have t4:=L.t4;have a4:=L.a4;have z4:=L.z4;have v4:=L.v4;have z9:=L.z9
 have t24:=L.t24;have a24:=L.a24;have z24:=L.z24;have v24:=L.v24
 have u0:=run_underlying L.t0;have u3:=run_underlying L.t3;have u4:=run_underlying L.t4;have u24:=run_underlying L.t24
 obtain ⟨i0,z,hi0,hz0,hzs,hzb,hzc⟩:=L.i9
 have hsz:(P.info? (ρ.t 9)).map (·.size)=some 1:=by rw [hi0];simp [hzs]
 have hne:¬((i:Int)=(n:Int)):=by omega
 have hov:∀lb cb,(callFunc (ρ.f 29) #[.slice (some ⟨vb,0,none⟩) 1 vc,.slice (some ⟨b,i+1,none⟩) lb cb]).run P w=.ok (.value (.bool false)) w:=fun lb cb=>by
  rw [L.fo,Lib.run_overlaps_apart w (ρ.t 24) (ρ.t 4) (ρ.t 9) L.t24 1 L.z9 ⟨vb,0,none⟩ ⟨b,i+1,none⟩ 1 vc lb cb hvb tA tB kA kB hsa hsb hkB hfa hfe]
  rfl
 have hdl:(cs.drop i).length=n - i:=by rw [vqm,hcl]
 have hw1:vsg.wrap ((i:Int)+1)=(i:Int)+1:=by rw [vsk];omega
 have hw2:vsg.wrap ((n:Int)+1)=(n:Int)+1:=by rw [vsk];omega
 have hb1:(0:Int)≤(i:Int)+1:=by omega
 have hin:i≤n:=by omega
 have htn:((i:Int)+1).toNat=i+1:=by omega
 have hb2:¬(c=i+1):=by omega
 have hb3:(i:Int)≤(n:Int)+1:=by omega
 have hb4:¬(c=i):=by omega
 have cp1:∀ty dc sc,(Builtin.copy_ #[(ρ.t 24),(ρ.t 24)] ty #[.slice (some ⟨b,i+1,none⟩) (n - i) dc,.slice (some ⟨b,i,none⟩) (n+1 - i) sc]).run P w.drew=.ok (goInt (cs.drop i).length) (w.drew.setCells b (i+1) (cs.drop i)):=fun ty dc sc =>
  run_copy_cells w.drew _ _ ty (ρ.t 9) b (i+1) (n - i) dc ⟨b,i,none⟩ (n+1 - i) sc (cs.drop i) L.t24 hsz (by rw [hdl];simp only [vtl];split <;> omega)
   (fun j v hj=>by rw [Addr.add_lit];exact hcs (i+j) v (by rwa [vqc] at hj))
   (fun j hj=>hsp _ (by omega)) (fun j hj=>hfz _ (by omega)) (fun v hv=>h1c v (vqy hv))
 obtain ⟨W1,hW1⟩:∃W1,W1=w.drew.setCells b (i+1) (cs.drop i):=⟨_,rfl⟩
 have hsp1:∀k,k < n+1→(W1.cell? ⟨b,k,none⟩).isSome=true:=fun k hk=>by
  rw [hW1]
  exact Go.Proofs.isSome_setCells b _ _ w.drew (fun j hj=>hsp _ (by rw [hdl] at hj;omega)) k (hsp k hk)
 have cp2:∀(W:World),(∀y,W.cell? y=W1.cell? y)→(∀y,W.frozen? y=W1.frozen? y)→∀ty dc,(Builtin.copy_ #[(ρ.t 24),(ρ.t 24)] ty #[.slice (some ⟨b,i,none⟩) (n+1 - i) dc,.slice (some ⟨vb,0,none⟩) 1 vc]).run P W=.ok (goInt [x].length) (W.setCells b i [x]):=fun W hWc hWf ty dc =>
  run_copy_cells W _ _ ty (ρ.t 9) b i (n+1 - i) dc ⟨vb,0,none⟩ 1 vc [x] L.t24 hsz (by simp only [vtl,vsv,vqo];split <;> omega)
   (fun j v hj=>by
    cases j with
    | zero =>
     simp only [vst,vr1] at hj
     subst hj
     rw [Addr.add_lit,hWc,hW1,World.cell?_setCells_out b _ _ _ _ (fun h _=>absurd h hvb)]
     exact hx
    | succ j=>simp at hj)
   (fun j hj=>by rw [hWc];exact hsp1 _ (by simp at hj;omega)) (fun j hj=>by rw [hWf,hW1,World.frozen?_setCells];exact hfz _ (by simp at hj;omega)) (fun v hv=>by rw [vtd.1 hv];exact h1x)
 rw [←hW1] at cp1
 go_enter hf,Body2.n22_ntmps ρ
 go_wp2_with (simp only [hov])
 go_region_law_o (refine step_copy_runI rfl _ _ (ρ.t 24) (ρ.t 24) rfl _ _ (by simp [Act.eval,Act.put]) (by simp [Act.eval,Act.put]) (cp1 _ _ _) ?_)
 go_wp2_with (at_builtin;refine wpList_copy_runI _ rfl _ _ (ρ.t 24) (ρ.t 24) rfl _ _ rfl rfl (cp2 _ (fun _=>rfl) (fun _=>rfl) _ _) ?_)
 go_ret
 exact ⟨rfl,rfl⟩
theorem vhn (L:InsLay P ρ) (sv:Value) (n c vb vc:Nat) (w w':World) (val:Value) (hs:sv=.slice none 0 0∧n=0∧c=0∨∃a,sv=.slice (some a) n c)
  (hrun:(Builtin.append_ #[ρ.t 24,ρ.t 24] (ρ.t 24) #[sv,.slice (some ⟨vb,0,none⟩) 1 vc]).run P w=.ok val w') (hnc:n≤c) :
  Calls P (ρ.f 22) #[sv,.int .i64 n,.slice (some ⟨vb,0,none⟩) 1 vc] w fun e w1=>e=.returned val∧w1=w':=by
 obtain ⟨nm,hf⟩:=L.fi;have mixed:=L.mixed;have t0:=L.t0;have a0:=L.a0;have z0:=L.z0;have v0:=L.v0;have t3:=L.t3;have a3:=L.a3;have z3:=L.z3;have v3:=L.v3;have t4:=L.t4;have a4:=L.a4;have z4:=L.z4;have v4:=L.v4;have z9:=L.z9;have t24:=L.t24;have a24:=L.a24;have z24:=L.z24;have v24:=L.v24;have u0:=run_underlying L.t0;have u3:=run_underlying L.t3;have u4:=run_underlying L.t4;have u24:=run_underlying L.t24;rcases hs with ⟨rfl,rfl,rfl⟩ | ⟨a,rfl⟩
 ·go_enter hf,Body2.n22_ntmps ρ
  go_wp2_with (at_builtin;refine vsm _ rfl _ _ _ _ rfl _ _ rfl rfl _ _ hrun ?_)
  go_ret
  exact ⟨rfl,rfl⟩
 ·obtain ⟨ab,ao,asp⟩:=a
  go_enter hf,Body2.n22_ntmps ρ
  go_wp2_with (at_builtin;refine vsm _ rfl _ _ _ _ rfl _ _ rfl rfl _ _ hrun ?_)
  all_goals (go_ret;exact ⟨rfl,rfl⟩)
set_option maxHeartbeats 4000000 in
set_option maxRecDepth 100000 in
theorem vb8 (L:InsLay P ρ) (b n i vb vc:Nat) (cs:List Value) (x z:Value) (w:World) (hi:i < n) (hbig:(n+1) * 16≤140737488355328) (hcl:cs.length=n)
  (hcs:∀j v,cs[j]?=some v→w.cell? ⟨b,j,none⟩=some v) (hx:w.cell? ⟨vb,0,none⟩=some x) (h1c:∀v∈cs,v.oneCell'=true) (h1x:x.oneCell'=true) (hz:∃i,P.info? (ρ.t 9)=some i∧i.zero=some z) :
  Calls P (ρ.f 22) #[.slice (some ⟨b,0,none⟩) n n,.int .i64 i,.slice (some ⟨vb,0,none⟩) 1 vc] w fun e w' =>
   e=.returned (.slice (some ⟨w.heap.size,0,none⟩) (n+1) (grownCap w (n+1) n (ρ.t 9))) ∧
   w'=(((w.alloc (.cells ((cs.take i).toArray++Builtin.zeroCells z.cells (n+1 - i)++Builtin.zeroCells z.cells (grownCap w (n+1) n (ρ.t 9) - (n+1))) (ρ.t 9))).drew.setCells w.heap.size i [x]).drew).setCells w.heap.size (i+1) (cs.drop i):=by
 obtain ⟨nm,hf⟩:=L.fi
 have mixed:=L.mixed
 have t0:=L.t0;have a0:=L.a0;have z0:=L.z0;have v0:=L.v0;have t3:=L.t3;have a3:=L.a3;have z3:=L.z3;have v3:=L.v3;have t4:=L.t4;have a4:=L.a4;have z4:=L.z4;have v4:=L.v4;have z9:=L.z9
 have t24:=L.t24;have a24:=L.a24;have z24:=L.z24;have v24:=L.v24
 have u0:=run_underlying L.t0;have u3:=run_underlying L.t3;have u4:=run_underlying L.t4;have u24:=run_underlying L.t24
 obtain ⟨i0,z',hi0,hz0,hzs,hzb,hzc⟩:=L.i9
 obtain rfl:z=z':=by
  obtain ⟨i1,q1,q2⟩:=hz
  rw [hi0] at q1;cases q1
  rw [hz0] at q2;exact (vtu q2).symm
 clear hz
 have hsz:(P.info? (ρ.t 9)).map (·.size)=some 1:=by rw [hi0];simp [hzs]
 have hne:¬((i:Int)=(n:Int)):=by omega
 have hbw:b < w.heap.size:=block_lt_of_cell (hcs 0 _ (vqd (by omega)))
 have hvw:vb < w.heap.size:=block_lt_of_cell hx
 have hkk:(n:Int)+1 - (i:Int)=((n+1 - i:Nat):Int):=by omega
 have hik:i+(n+1 - i)=n+1:=by omega
 have hold:(Builtin.firstCells i0.size i (.slice (some ⟨b,0,none⟩) i n)).run P w.drew=.ok (cs.take i).toArray w.drew:=by
  rw [hzs]
  exact run_firstCells_some w.drew 1 i ⟨b,0,none⟩ i n (cs.take i) (by rw [vqr];omega) (fun j v hj=>by
   rw [Addr.add_lit,vru]
   rw [vqj] at hj
   split at hj
   ·exact hcs j v hj
   ·cases hj)
 have hrz:∀ty,(Builtin.append_ #[(ρ.t 24),(ρ.t 3)] ty #[.slice (some ⟨b,0,none⟩) i n,.int .i64 ((n:Int)+1 - (i:Int))]).run P w =
   .ok (.slice (some ⟨w.heap.size,0,none⟩) (n+1) (grownCap w (n+1) n (ρ.t 9))) (w.drew.alloc (.cells ((cs.take i).toArray++Builtin.zeroCells z.cells (n+1 - i)++Builtin.zeroCells z.cells (grownCap w (n+1) n (ρ.t 9) - (n+1))) (ρ.t 9))):=fun ty=>by
  have hnb:(n+1) * i0.bytes≤140737488355328:=vrl (Nat.mul_le_mul_left _ hzb) hbig
  have h48:(n+1 - i) * i0.bytes≤281474976710656:=vrl (vrq _ (Nat.sub_le _ _)) (by omega)
  have h:=Lib.run_append_grow_zeros w (ρ.t 24) (ρ.t 3) ty (ρ.t 9) i0 _ .i64 .i64 L.t24 L.t3 hi0 hz0 (some ⟨b,0,none⟩) i n (cs.take i) hold (n+1 - i) (by omega) (by omega) (by omega) (by omega) h48 (by rw [hik];exact growslice_fits (vrn n) hnb)
  rw [hik] at h
  rw [hkk]
  exact h
 obtain ⟨G,hG⟩:∃G,G=grownCap w (n+1) n (ρ.t 9):=⟨_,rfl⟩
 obtain ⟨ROW,hROW⟩:∃ROW:Array Value,ROW=(cs.take i).toArray++Builtin.zeroCells z.cells (n+1 - i)++Builtin.zeroCells z.cells (G - (n+1)):=⟨_,rfl⟩
 rw [←hG] at hrz ⊢
 rw [←hROW] at hrz ⊢
 have hRl:n+1≤ROW.size:=by
  rw [hROW]
  simp only [vpl,size_zeroCells,hzc,vq6,vqr,vs2]
  omega
 obtain ⟨W1,hW1⟩:∃W1,W1=w.drew.alloc (.cells ROW (ρ.t 9)):=⟨_,rfl⟩
 rw [←hW1] at hrz
 have hN:∀j,j < n+1→(W1.cell? ⟨w.heap.size,j,none⟩).isSome=true:=fun j hj=>by
  rw [hW1,World.cell?_alloc_at (w:=w.drew) ROW _ w.heap.size j rfl,vr8 (by omega)];rfl
 have hNf:∀j,W1.frozen? ⟨w.heap.size,j,none⟩=false:=fun j=>by rw [hW1];exact World.frozen?_alloc_at (w:=w.drew) ROW _ w.heap.size j rfl
 have hOb:∀j v,w.cell? ⟨b,j,none⟩=some v→W1.cell? ⟨b,j,none⟩=some v:=fun j v h=>by rw [hW1,World.cell?_alloc_past (w:=w.drew) _ b j hbw];exact h
 have hOv:∀j v,w.cell? ⟨vb,j,none⟩=some v→W1.cell? ⟨vb,j,none⟩=some v:=fun j v h=>by rw [hW1,World.cell?_alloc_past (w:=w.drew) _ vb j hvw];exact h
 have cpA:∀(W:World),(∀y,W.cell? y=W1.cell? y)→(∀y,W.frozen? y=W1.frozen? y)→∀ty dc,(Builtin.copy_ #[(ρ.t 24),(ρ.t 24)] ty #[.slice (some ⟨w.heap.size,i,none⟩) (n+1 - i) dc,.slice (some ⟨vb,0,none⟩) 1 vc]).run P W=.ok (goInt [x].length) (W.setCells w.heap.size i [x]):=fun W hWc hWf ty dc =>
  run_copy_cells W _ _ ty (ρ.t 9) w.heap.size i (n+1 - i) dc ⟨vb,0,none⟩ 1 vc [x] L.t24 hsz (by simp only [vtl,vsv,vqo];split <;> omega)
   (fun j v hj=>by
    cases j with
    | zero =>
     simp only [vst,vr1] at hj
     subst hj
     rw [Addr.add_lit,hWc]
     exact hOv 0 _ hx
    | succ j=>simp at hj)
   (fun j hj=>by rw [hWc];exact hN _ (by simp at hj;omega)) (fun j hj=>by rw [hWf];exact hNf _) (fun v hv=>by rw [vtd.1 hv];exact h1x)
 have hGn:n+1≤G:=by rw [hG];exact grownCap_ge w _ _ _
 have hG63:G≤9223372036854775807:=by
  have:=grownCap_le_maxLen w (n+1) n (ρ.t 9) (by unfold maxLen;omega)
  rw [←hG] at this
  unfold maxLen at this
  omega
 have hGi:¬(G=i):=by omega
 have hGim:¬(G=i+1):=by omega
 have hci:¬(n=i):=by omega
 have hbN:b≠w.heap.size:=by omega
 have hdl:(cs.drop i).length=n - i:=by rw [vqm,hcl]
 have cpB:∀(W:World),(∀y,W.cell? y=(W1.setCells w.heap.size i [x]).cell? y)→(∀y,W.frozen? y=(W1.setCells w.heap.size i [x]).frozen? y)→∀ty dc sc,(Builtin.copy_ #[(ρ.t 24),(ρ.t 24)] ty #[.slice (some ⟨w.heap.size,i+1,none⟩) (n - i) dc,.slice (some ⟨b,i,none⟩) (n - i) sc]).run P W=.ok (goInt (cs.drop i).length) (W.setCells w.heap.size (i+1) (cs.drop i)):=fun W hWc hWf ty dc sc =>
  run_copy_cells W _ _ ty (ρ.t 9) w.heap.size (i+1) (n - i) dc ⟨b,i,none⟩ (n - i) sc (cs.drop i) L.t24 hsz (by rw [hdl];simp only [vtl];split <;> omega)
   (fun j v hj=>by
    rw [Addr.add_lit,hWc,World.cell?_setCells_out _ _ _ _ _ (fun h _=>absurd h hbN)]
    exact hOb _ v (hcs (i+j) v (by rwa [vqc] at hj)))
   (fun j hj=>by rw [hWc];exact Go.Proofs.isSome_setCells _ _ _ W1 (fun t ht=>hN _ (by simp at ht;omega)) _ (hN _ (by omega)))
   (fun j hj=>by rw [hWf,World.frozen?_setCells];exact hNf _) (fun v hv=>h1c v (vqy hv))
 subst hW1
 have hE1:∀y,((w.alloc (.cells ROW (ρ.t 9))).drew).cell? y=(w.drew.alloc (.cells ROW (ρ.t 9))).cell? y:=fun y=>rfl
 have hE2:∀y,((w.alloc (.cells ROW (ρ.t 9))).drew).frozen? y=(w.drew.alloc (.cells ROW (ρ.t 9))).frozen? y:=fun y=>rfl
 have hF1:∀y,(((w.alloc (.cells ROW (ρ.t 9))).drew.setCells w.heap.size i [x]).drew).cell? y=((w.drew.alloc (.cells ROW (ρ.t 9))).setCells w.heap.size i [x]).cell? y:=fun y=>rfl
 have hF2:∀y,(((w.alloc (.cells ROW (ρ.t 9))).drew.setCells w.heap.size i [x]).drew).frozen? y=((w.drew.alloc (.cells ROW (ρ.t 9))).setCells w.heap.size i [x]).frozen? y:=fun y=>rfl
 have hw1:vsg.wrap ((i:Int)+1)=(i:Int)+1:=by rw [vsk];omega
 have hw2:vsg.wrap ((n:Int)+1)=(n:Int)+1:=by rw [vsk];omega
 have hb1:(0:Int)≤(i:Int)+1:=by omega
 have hin:i≤n:=by omega
 have htn:((i:Int)+1).toNat=i+1:=by omega
 have hb3:(i:Int)≤(n:Int):=by omega
 clear hkk hik hold hROW hG hRl
 go_enter hf,Body2.n22_ntmps ρ
 go_wp2_with (first
  | (at_builtin;refine vsm _ rfl _ _ _ _ rfl _ _ rfl rfl _ _ (hrz _) ?_)
  | (at_builtin;refine wpList_copy_runI _ rfl _ _ (ρ.t 24) (ρ.t 24) rfl _ _ rfl rfl (cpA _ hE1 hE2 _ _) ?_)
  | (at_builtin;refine wpList_copy_runI _ rfl _ _ (ρ.t 24) (ρ.t 24) rfl _ _ rfl rfl (cpB _ (fun _=>rfl) (fun _=>rfl) _ _ _) ?_))
 go_region_law_o (refine step_copy_runI rfl _ _ (ρ.t 24) (ρ.t 24) rfl (.slice (some ⟨w.heap.size,i+1,none⟩) (n - i) (G - (i+1))) (.slice (some ⟨b,i,none⟩) (n - i) (n - i)) (by simp [Act.eval,Act.put]) (by simp [Act.eval,Act.put]) (cpB _ hF1 hF2 (ρ.t 3) (G - (i+1)) (n - i)) ?_)
 go_wp2
 go_ret
 exact ⟨rfl,rfl⟩
end Go.Ab
namespace Go.Ab
open Go Go.Proofs Go.Shelf
def q13 (cur:Array Value):Nat→List Value→Array Value
 | _,[]=>cur
 | o,v :: vs=>q13 (cur.setIfInBounds o v) (o+1) vs
theorem qgo:∀(vs:List Value) (o:Nat) (cur:Array Value),(q13 cur o vs).size=cur.size
 | [],_,_=>rfl
 | v :: vs,o,cur=>by rw [q13,qgo vs];simp
theorem qky:∀(vs:List Value) (o:Nat) (cur:Array Value) (j:Nat),j < o∨o+vs.length≤j→(q13 cur o vs)[j]?=cur[j]?
 | [],_,_,_,_=>rfl
 | v :: vs,o,cur,j,h=>by
  rw [q13,qky vs (o+1) _ j (by simp only [vsv] at h;omega),vph (by simp only [vsv] at h;omega)]
theorem qtl:∀(vs:List Value) (o:Nat) (cur:Array Value) (j:Nat),j < vs.length→o+vs.length≤cur.size→(q13 cur o vs)[o+j]?=vs[j]?
 | v :: vs,o,cur,0,_,hs=>by
  simp only [vsv] at hs;rw [q13,qky vs (o+1) _ _ (.inl (by omega))];simp [Array.getElem?_setIfInBounds,show o < cur.size by omega]
 | v :: vs,o,cur,j+1,hj,hs=>by
  simp only [vsv] at hs hj;rw [q13,show o+(j+1)=(o+1)+j by omega,qtl vs (o+1) _ j (by omega) (by simp;omega)];simp
theorem qh3 {b:Nat} {e:TypeId} {f:Nat×Nat}:∀(vs:List Value) (o:Nat) (w:World) (cur:Array Value),w.heap[b]?=some (.cells cur e f) →
  (w.setCells b o vs).heap[b]?=some (.cells (q13 cur o vs) e f)
 | [],_,_,_,h=>h
 | v :: vs,o,w,cur,h=>by
  rw [World.setCells,q13];refine qh3 vs (o+1) _ _ ?_;have hb:b < w.heap.size:=(vpf.1 h).1;simp only [World.setCell,vsa,if_true,h,vr0,vts,vps,if_false]
theorem qh4 {b:Nat}:∀(vs:List Value) (o:Nat) (w:World),(w.setCells b o vs).os=w.os∧(w.setCells b o vs).tape=w.tape∧(w.setCells b o vs).output=w.output∧(w.setCells b o vs).drawn=w.drawn ∧
  (w.setCells b o vs).heap.size=w.heap.size∧∀k,k≠b→(w.setCells b o vs).heap[k]?=w.heap[k]?
 | [],_,_=>⟨rfl,rfl,rfl,rfl,rfl,fun _ _=>rfl⟩
 | v :: vs,o,w=>by
  rw [World.setCells];obtain ⟨h1,h2,h3,h4,h5,h6⟩:=qh4 (b:=b) vs (o+1) (w.setCell ⟨b,o,none⟩ v);refine ⟨h1,h2,h3,h4,h5.trans (by simp [World.setCell]),fun k hk=>(h6 k hk).trans ?_⟩;simp only [World.setCell,vsa];rw [if_neg (Ne.symm hk)]
def qm3 {α:Type} (l:List α) (i:Nat) (x:α):List α:=l.take i++x :: l.drop i
theorem qo5 {α:Type} {l:List α} {i:Nat} {x:α} (h:i≤l.length):(qm3 l i x).length=l.length+1:=by
 simp [qm3];omega
theorem vb9 {α β:Type} (f:α→β) (l:List α) (i:Nat) (x:α):(qm3 l i x).map f=qm3 (l.map f) i (f x):=by simp [qm3]
theorem q8u {cur:Array Value} {cs:List Value} {x:Value} {i:Nat} (hi:i≤cs.length) (hs:cs.length+1≤cur.size) (hc:∀j,j < i→cur[j]?=cs[j]?) :
  (q13 (q13 cur (i+1) (cs.drop i)) i [x]).toList.take (cs.length+1)=qm3 cs i x∧(q13 (q13 cur i [x]) (i+1) (cs.drop i)).toList.take (cs.length+1)=qm3 cs i x:=by
 have hd:(cs.drop i).length=cs.length - i:=vqm;have key:∀A:Array Value,A.size=cur.size→(∀j,j < i→A[j]?=cs[j]?)→A[i]?=some x→(∀j,j < cs.length - i→A[i+1+j]?=cs[i+j]?)→A.toList.take (cs.length+1)=qm3 cs i x:=by
  intro A hA h1 h2 h3;refine vp7 fun j=>?_
  rw [vqj,qm3];split
  ·rename_i hj;rw [vpi];rcases vtk j i with h | h | h
   ·rw [h1 j h,vqa (by rw [vqr];omega),vqj,if_pos h]
   ·subst h;rw [h2,vqb (by rw [vqr];omega),vqr,vtm hi];simp
   ·rw [show j=i+1+(j - i - 1) by omega,h3 (j - i - 1) (by omega),vqb (by rw [vqr];omega),vqr,vtm hi,
     show i+1+(j - i - 1) - i=(j - i - 1)+1 by omega,vss,vqc]
  ·rename_i hj;refine (vqe ?_).symm;rw [vql,vqr,vsv,hd];omega
 constructor
 ·refine key _ (by rw [qgo,qgo]) (fun j hj=>?_) ?_ (fun j hj=>?_)
  ·rw [qky _ _ _ _ (.inl hj),qky _ _ _ _ (.inl (by omega))];exact hc j hj
  ·have:=qtl [x] i (q13 cur (i+1) (cs.drop i)) 0 (by simp) (by rw [qgo];simp only [vsv,vqo];omega);simpa using this
  ·rw [qky _ _ _ _ (.inr (by simp only [vsv,vqo];omega)),qtl _ _ _ _ (by rw [hd];exact hj) (by rw [hd];omega),vqc]
 ·refine key _ (by rw [qgo,qgo]) (fun j hj=>?_) ?_ (fun j hj=>?_)
  ·rw [qky _ _ _ _ (.inl (by omega)),qky _ _ _ _ (.inl hj)];exact hc j hj
  ·rw [qky _ _ _ _ (.inl (by omega))];have:=qtl [x] i cur 0 (by simp) (by simp only [vsv,vqo];omega);simpa using this
  ·rw [qtl _ _ _ _ (by rw [hd];exact hj) (by rw [hd,qgo];omega),vqc]
theorem qp0 (zs:List Int):∀v∈zs.map (Value.int .i64),v.oneCell'=true:=fun v hv=>by obtain ⟨x,_,rfl⟩:=vtb.1 hv;rfl
theorem qzr (zs:List Int):∀v∈zs.map (Value.int .i64),v.cells.size=1:=fun v hv=>by obtain ⟨x,_,rfl⟩:=vtb.1 hv;rfl
theorem qni (zs:List Int):flat (zs.map (Value.int .i64))=zs.map (Value.int .i64):=qiw (qp0 zs)
theorem q8v {P:Program} {X:Nat→Prop} {inj:Inj} {σ:Nat→AO} {w:World} {a:Act} {o:Oper} {f:Operand} {args:Array Operand} {ats:Array TypeId} {ρ:Operand→AV} {k:FuncId} {avs:List AV}
  (hk:HasBody P k) (ha:∀x,AR X inj σ w (ρ x) (a.eval x)) (ho:o.op=.call ⟨.value f,args,ats⟩) (hc:qd8 ρ f args.toList=some (k,avs)) :
  ∃vs,(execOp a.eval o).run P w=.ok (.enter k vs.toArray) w∧ARs X inj σ w avs vs:=by
 have hf:=ha f;have hargs:=qmc ha args.toList;obtain ⟨dst,op,type,pos,after,guard⟩:=o;simp only at ho;subst ho;unfold qd8 at hc;have run:∀cap:Array Value,a.eval f=.func (.func k) #[] cap→(execOp a.eval ⟨dst,.call ⟨.value f,args,ats⟩,type,pos,after,guard⟩).run P w=.ok (.enter k (args.map a.eval++cap)) w:=by
  intro cap he;simp only [execOp,resolve,Deferred.ofValue,he,vr5,vr6,vr3,invoke];rw [hk];simp
 split at hc
 ·rename_i k' cs hev;simp only [vr1,vr2] at hc;obtain ⟨rfl,rfl⟩:=hc;rw [hev] at hf;obtain ⟨vs,h1,h2⟩:=hf;refine ⟨args.toList.map a.eval++vs,?_,hargs.append (qbc.2 h2)⟩;rw [run vs.toArray h1];congr 2;apply vpd;simp
 ·rename_i k' cs hev;simp only [vr1,vr2] at hc;obtain ⟨rfl,rfl⟩:=hc;rw [hev] at hf;obtain ⟨vs,h1,h2⟩:=hf;refine ⟨args.toList.map a.eval++vs,?_,hargs.append h2⟩;rw [run vs.toArray h1];congr 2;apply vpd;simp
 ·cases hc
variable {P:Program} {ρ:Ren} {D:Prop}
theorem q50 (LY:InsLay P ρ) (hb:HasBody P (ρ.f 22)) (hz0:qa2 P (ρ.t 9)=some (.p (.int .i64 0))) (hz1:qb3.zeroLen P (ρ.t 9)=1) (hc1:P.cellsOf (ρ.t 9)=1)
  {o:Oper} {f:Operand} {args:Array Operand} {ats:Array TypeId} {ρe:Operand→AV} {σ:Nat→AO} {l g l2 g2 i:Nat} {zs:List Int} {x:Int} {n:Nat}
  (ho:o.op=.call ⟨.value f,args,ats⟩) (hc:qd8 ρe f args.toList=some (ρ.f 22,[.own l g 0 n,.p (.int .i64 i),.own l2 g2 0 1]))
  (h1:σ l=.arr (ρ.t 9) 1 g ((zs.map (PV.int .i64)).map AV.p)) (h2:σ l2=.arr (ρ.t 9) 1 g2 [.p (.int .i64 x)]) (hn:zs.length=n) (hll:l≠l2) (hi:i≤n) (hroom:qi9 P (ρ.t 9) (n+1)=true) (hbig:(n+1) * 16≤140737488355328) :
  OpU D P o ρe σ (.own l (g+1) 0 (n+1)) (some (l,.arr (ρ.t 9) 1 (g+1) (((qm3 zs i x).map (PV.int .i64)).map AV.p))) [l,l2]:=by
 intro X ρ' σ' hρ hσ inj w a next Q hr hT ha hnx
 have hf':ρ' f=ρe f:=hρ f (by rw [ho];simp [Op.operands,Call.operands]);have ha':args.toList.map ρ'=args.toList.map ρe:=vs4 fun y hy=>hρ y (by rw [ho];simp [Op.operands,Call.operands] at hy ⊢;exact .inr hy)
 have hc':qd8 ρ' f args.toList=some (ρ.f 22,[.own l g 0 n,.p (.int .i64 i),.own l2 g2 0 1]):=by
  unfold qd8 at hc ⊢;rw [hf',ha'];exact hc
 obtain ⟨vs,hrun,hars⟩:=q8v hb ha ho hc';obtain ⟨sv,r1,rfl,hs,r2⟩:=hars;obtain ⟨iv,r3,rfl,hiv,r4⟩:=r2;obtain ⟨xv,r5,rfl,hxv,rfl⟩:=r4;have hiv':iv=.int .i64 i:=hiv;subst hiv';have e1:=(hσ l (by simp)).trans h1;have e2:=(hσ l2 (by simp)).trans h2;unfold Oper.wp;rw [hrun];simp only [Oper.upon]
 -- what is known of the two rows
 have hs':=hs;obtain ⟨_,hs2⟩:=hs;obtain ⟨_,hs3⟩:=hs2 _ e1;obtain ⟨hs4,hs5⟩:=hs3 rfl _ _ _ rfl;obtain ⟨_,hx2⟩:=id hxv;obtain ⟨_,hx3⟩:=hx2 _ e2;obtain ⟨_,hx5⟩:=hx3 rfl _ _ _ rfl;obtain ⟨xs,q1,q2,q3,q4⟩:=(e2 ▸ hr.obj l2 _ rfl:OR X inj σ' w l2 (.arr (ρ.t 9) 1 g2 [.p (.int .i64 x)]));have hxs:xs=[Value.int .i64 x]:=qsd (l:=[x]) q1;subst hxs;rcases q4 with ⟨_,q4⟩ | ⟨vb,vc,vcur,k1,k2,k3,k4,k5,k6,k7⟩
 ·cases q4
 rcases hx5 with ⟨j1,_⟩ | ⟨b2,c2,a2,j1,j2,j3,j4⟩
 ·rw [k1] at j1;cases j1
 rw [k1] at j1;cases j1;have hva:xv=.slice (some ⟨vb,0,none⟩) 1 vc:=by
  rcases j4 with ⟨h,_⟩ | h
  ·exact absurd rfl h
  ·rw [j2,h];simp
 subst hva;have hvb:vb < w.heap.size:=(vpf.1 k3).1;have hx0:w.cell? ⟨vb,0,none⟩=some (.int .i64 x):=by
  have k8:vcur.toList[0]?=some (.int .i64 x):=by
   have:=congrArg (fun l=>l[0]?) k7;simpa [flat,Value.cells,vqj] using this
  exact qks k3 k8
 obtain ⟨cs,p1,p2,p3,p4⟩:=(e1 ▸ hr.obj l _ rfl:OR X inj σ' w l (.arr (ρ.t 9) 1 g ((zs.map (PV.int .i64)).map AV.p)));have hcs:cs=zs.map (Value.int .i64):=qsd p1;subst hcs;have hcl:(zs.map (Value.int .i64)).length=n:=by simp [hn]
 have hfin:qm3 (zs.map (Value.int .i64)) i (.int .i64 x)=(qm3 zs i x).map (Value.int .i64):=(vb9 _ _ _ _).symm;have hlen':(qm3 zs i x).length=n+1:=by rw [qo5 (by omega),hn]
 by_cases hin:i=n
 · -- an append
  subst hin;have hrA:(qb3 P l (ρ.t 24) (.own l g 0 i) (.own l2 g2 0 1)).run σ'=some (.own l (g+1) 0 (i+1),some (l,.arr (ρ.t 9) 1 (g+1) (((qm3 zs i x).map (PV.int .i64)).map AV.p))):=by
   have hins:((qm3 zs i x).map (PV.int .i64)).map AV.p=(zs.map (PV.int .i64)).map AV.p++[.p (.int .i64 x)]:=by
    rw [qm3,vq9 (by omega),List.drop_eq_nil_of_le (by omega)];simp
   rw [hins];have hz0':(qa2 P (ρ.t 9)).isSome=true:=by rw [hz0];rfl
   simp [qb3,LY.t24,qi8,L.run_bind',L.run_look,e1,e2,hc1,hn,hz0',hz1,hroom,qd0,AV.cells,PV.cells,AV.known,PV.isTup]
  obtain ⟨val,w',inj',t1,t2,t3,t4⟩:=qma (D:=D) (ty:=ρ.t 24) hr (k:=l) hs' hxv hrA;have done:∀c,(sv=.slice none 0 0∧i=0∧c=0∨∃a,sv=.slice (some a) i c)→i≤c→Calls P (ρ.f 22) [sv,.int .i64 i,.slice (some ⟨vb,0,none⟩) 1 vc].toArray w fun e w1=>e=.returned val∧w1=w' :=
   fun c h1 h2=>vhn LY sv i c vb vc w w' val h1 t1 h2
  have key:Calls P (ρ.f 22) [sv,.int .i64 i,.slice (some ⟨vb,0,none⟩) 1 vc].toArray w fun e w1=>e=.returned val∧w1=w':=by
   rcases hs5 with ⟨_,h,_,h0⟩ | ⟨b,c,a0,_,h,hle,h0⟩
   ·exact done 0 (.inl ⟨h,h0,rfl⟩) (by omega)
   ·rcases h0 with ⟨h0,_⟩ | h0
    ·exact absurd rfl h0
    ·exact done c (.inr ⟨⟨b,0,none⟩,by rw [h,h0];simp⟩) (by omega)
  refine key.mono ?_;rintro e w1 ⟨rfl,rfl⟩;exact hnx _ _ _ t2 t3 t4
 ·have hlt:i < n:=by omega
  rcases hs5 with ⟨_,_,_,h0⟩ | ⟨b,c,a0,m1,m2,m3,m4⟩
  ·omega
  have ha0:a0=some ⟨b,0,none⟩:=by
   rcases m4 with ⟨h,_⟩ | h
   ·exact absurd rfl h
   ·simpa using h
  subst ha0;rcases p4 with ⟨p4,_⟩ | ⟨b',c',cur,n1,n2,n3,n4,n5,n6,n7⟩
  ·rw [m1] at p4;cases p4
  rw [m1] at n1;cases n1;subst m2;have hbw:b < w.heap.size:=(vpf.1 n3).1;have hvb':vb≠b:=fun h=>by
   subst h;exact hll (hr.inj1 l l2 _ _ vb c vc e1 e2 rfl rfl m1 k1)
  rw [qni] at n7;have hlen0:((zs.map (PV.int .i64)).map AV.p).length * 1=n:=by simp [hn]
  rw [hlen0] at n7;have hcur:∀j,j < n→cur[j]?=(zs.map (Value.int .i64))[j]?:=fun j hj=>by
   have:=congrArg (fun q=>q[j]?) n7;simp only [vqj,if_pos hj,vpi] at this;exact this
  have hcell:∀j v,(zs.map (Value.int .i64))[j]?=some v→w.cell? ⟨b,j,none⟩=some v:=fun j v hv=>by
   have hj:j < n:=by
    have:=(vqf.1 hv).1;simp only [vqn] at this;omega
   exact qks n3 (by rw [vpi,hcur j hj];exact hv)
  have hfrz:∀j,w.frozen? ⟨b,j,none⟩=false:=fun j=>by unfold World.frozen?;rw [n3];simp
  have hfrv:∀j,w.frozen? ⟨vb,j,none⟩=false:=fun j=>by unfold World.frozen?;rw [k3];simp
  have hmul:c * 1=c:=Nat.mul_one c;rw [hmul] at n6;have hnew:∀inj2 σ2 w2,ARs X inj2 σ2 w2 (((qm3 zs i x).map (PV.int .i64)).map AV.p) ((qm3 zs i x).map (Value.int .i64)):=fun inj2 σ2 w2=>qtg _
  have hnl:(((qm3 zs i x).map (PV.int .i64)).map AV.p).length * 1=n+1:=by simp [hlen']
  have hnl':(((qm3 zs i x).map (PV.int .i64)).map AV.p).length=n+1:=by simp [hlen']
  by_cases hcap:n+1≤c
  ·refine (q8t LY b n c i vb vc _ (.int .i64 x) w hlt hcap (by unfold maxLen at n5;omega) hvb' hcl hcell (fun j hj=>?_) (fun j _=>hfrz j) hx0 (qp0 zs) rfl (ρ.t 9) (ρ.t 9) vcur.size cur.size ?_ ?_ (by omega) (hfrv 0) (hfrv _)).mono ?_
   ·have:cur.toList[j]?=some cur[j]:=by rw [vpi];exact vr8 (by omega)
    rw [qks n3 this];rfl
   ·unfold World.shape?;rw [k3]
   ·unfold World.shape?;rw [n3]
   rintro e w1 ⟨rfl,rfl⟩;have hh1:w.drew.heap[b]?=some (.cells cur (ρ.t 9) (0,0)):=n3;have hh2:=qh3 ((zs.map (Value.int .i64)).drop i) (i+1) w.drew cur hh1;have hh3:=qh3 [Value.int .i64 x] i _ _ hh2;obtain ⟨s1,s2,s3,s4,s5,s6⟩:=qh4 (b:=b) ((zs.map (Value.int .i64)).drop i) (i+1) w.drew;obtain ⟨u1,u2,u3,u4,u5,u6⟩:=qh4 (b:=b) [Value.int .i64 x] i (w.drew.setCells b (i+1) ((zs.map (Value.int .i64)).drop i));have hup:=hr.update (D:=D) (w':=(w.drew.setCells b (i+1) ((zs.map (Value.int .i64)).drop i)).setCells b i [.int .i64 x]) (l:=l) (o:=.arr (ρ.t 9) 1 g ((zs.map (PV.int .i64)).map AV.p)) (o':=.arr (ρ.t 9) 1 (g+1) (((qm3 zs i x).map (PV.int .i64)).map AV.p)) (x:=some (b,c)) e1
    (u1.trans s1) (u2.trans s2) (u3.trans s3) (fun _=>by rw [u4,s4];exact vrk _) (by rw [u5,s5];exact vrj _)
    (fun a' _=>by rw [World.frozen?_setCells,World.frozen?_setCells];rfl)
    (fun k _ hk=>by
     have hkb:k≠b:=fun h=>by subst h;exact hk rfl c m1
     rw [u6 k hkb,s6 k hkb];rfl)
    (fun b1 c1 h=>by cases h;exact .inr ⟨rfl,c,m1⟩) ⟨by simp [AO.gen],fun _ he=>by simp [AO.gen] at he⟩
   obtain ⟨hev,hhr⟩:=hup;have hown:va0 (fun q=>if q=l then some (b,c) else inj q) (qit σ' l (.arr (ρ.t 9) 1 (g+1) (((qm3 zs i x).map (PV.int .i64)).map AV.p))) l (g+1) 0 (n+1) (.slice (some ⟨b,0,none⟩) (n+1) c) :=
    qiu (qc3 _ _ _) (if_pos rfl) (by rw [hnl'];exact vrj _) hcap
   refine hnx _ _ _ (hhr ⟨_,hnew _ _ _,qzr _,by rw [qni];exact qp0 _,.inr ⟨b,c,_,by simp,n2,hh3,by rw [hnl'];exact hcap,n5,by rw [qgo,qgo,n6,hmul],?_⟩⟩) hev hown;rw [hnl,qni,←hfin];have:=(q8u (cur:=cur) (cs:=zs.map (Value.int .i64)) (x:=.int .i64 x) (i:=i) (by rw [hcl];omega) (by rw [hcl];omega) (fun j hj=>hcur j (by omega))).1;rw [hcl] at this;exact this
  ·have hcn:c=n:=by omega
   subst hcn;obtain ⟨i0,z,hi0,hz2,hzs,hzb,hzc⟩:=LY.i9;refine (vb8 LY b c i vb vc _ (.int .i64 x) z w hlt hbig hcl hcell hx0 (qp0 zs) rfl ⟨i0,hi0,hz2⟩).mono ?_;rintro e w1 ⟨rfl,rfl⟩;obtain ⟨G,hG⟩:∃G,G=grownCap w (c+1) c (ρ.t 9):=⟨_,rfl⟩;have hGn:c+1≤G:=by rw [hG];exact grownCap_ge w _ _ _
   have hGm:G≤maxLen:=by rw [hG];exact grownCap_le_maxLen w _ _ _ (by unfold maxLen;omega)
   rw [←hG];obtain ⟨ROW,hROW⟩:∃ROW:Array Value,ROW=((zs.map (Value.int .i64)).take i).toArray++Builtin.zeroCells z.cells (c+1 - i)++Builtin.zeroCells z.cells (G - (c+1)):=⟨_,rfl⟩;rw [←hROW];have hRs:ROW.size=G:=by
    rw [hROW];simp only [vpl,size_zeroCells,hzc,vq6,vqr,vs2,vqn,hn];omega
   have hRc:∀j,j < i→ROW[j]?=(zs.map (Value.int .i64))[j]?:=fun j hj=>by
    rw [hROW,Array.append_assoc,Array.getElem?_append_left (by simp [hn];omega)];simp only [List.getElem?_toArray,vqj,if_pos hj]
   have hal:(w.alloc (.cells ROW (ρ.t 9))).heap=w.heap.push (.cells ROW (ρ.t 9)):=rfl;have hh1:(w.alloc (.cells ROW (ρ.t 9))).drew.heap[w.heap.size]?=some (.cells ROW (ρ.t 9) (0,0)):=by
    show (w.alloc (.cells ROW (ρ.t 9))).heap[w.heap.size]?=_;rw [hal];simp
   have hh2:=qh3 [Value.int .i64 x] i _ _ hh1;have hh3:=qh3 ((zs.map (Value.int .i64)).drop i) (i+1) ((w.alloc (.cells ROW (ρ.t 9))).drew.setCells w.heap.size i [Value.int .i64 x]).drew _ hh2;obtain ⟨s1,s2,s3,s4,s5,s6⟩:=qh4 (b:=w.heap.size) [Value.int .i64 x] i (w.alloc (.cells ROW (ρ.t 9))).drew;obtain ⟨u1,u2,u3,u4,u5,u6⟩:=qh4 (b:=w.heap.size) ((zs.map (Value.int .i64)).drop i) (i+1) ((w.alloc (.cells ROW (ρ.t 9))).drew.setCells w.heap.size i [Value.int .i64 x]).drew;have hsz:w.heap.size≤(w.alloc (.cells ROW (ρ.t 9))).heap.size:=by rw [hal,vsb];omega
   have hup:=hr.update (D:=D) (w':=((w.alloc (.cells ROW (ρ.t 9))).drew.setCells w.heap.size i [Value.int .i64 x]).drew.setCells w.heap.size (i+1) ((zs.map (Value.int .i64)).drop i)) (l:=l) (o:=.arr (ρ.t 9) 1 g ((zs.map (PV.int .i64)).map AV.p)) (o':=.arr (ρ.t 9) 1 (g+1) (((qm3 zs i x).map (PV.int .i64)).map AV.p)) (x:=some (w.heap.size,G)) e1
    (u1.trans s1) (u2.trans s2) (u3.trans s3)
    (fun _=>by
     rw [u4];show w.drawn≤((w.alloc (.cells ROW (ρ.t 9))).drew.setCells w.heap.size i [Value.int .i64 x]).drawn+1;rw [s4];show w.drawn≤w.drawn+1+1;omega)
    (by
     rw [u5];show w.heap.size≤((w.alloc (.cells ROW (ρ.t 9))).drew.setCells w.heap.size i [Value.int .i64 x]).heap.size;rw [s5];exact hsz)
    (fun a' _=>by
     rw [World.frozen?_setCells];show ((w.alloc (.cells ROW (ρ.t 9))).drew.setCells w.heap.size i [Value.int .i64 x]).frozen? a'=_;rw [World.frozen?_setCells];exact qkv w ROW (ρ.t 9) a')
    (fun k hk0 hk=>by
     have hkb:k≠w.heap.size:=by omega
     rw [u6 k hkb];show ((w.alloc (.cells ROW (ρ.t 9))).drew.setCells w.heap.size i [Value.int .i64 x]).heap[k]?=_;rw [s6 k hkb];show (w.alloc (.cells ROW (ρ.t 9))).heap[k]?=_;rw [hal,vpg,if_neg hkb])
    (fun b1 c1 h=>by cases h;exact .inl (vrj _)) ⟨by simp [AO.gen],fun _ he=>by simp [AO.gen] at he⟩
   obtain ⟨hev,hhr⟩:=hup;have hown:va0 (fun q=>if q=l then some (w.heap.size,G) else inj q) (qit σ' l (.arr (ρ.t 9) 1 (g+1) (((qm3 zs i x).map (PV.int .i64)).map AV.p))) l (g+1) 0 (c+1) (.slice (some ⟨w.heap.size,0,none⟩) (c+1) G) :=
    qiu (qc3 _ _ _) (if_pos rfl) (by rw [hnl'];exact vrj _) hGn
   refine hnx _ _ _ (hhr ⟨_,hnew _ _ _,qzr _,by rw [qni];exact qp0 _,.inr ⟨w.heap.size,G,_,by simp,fun hX=>by have:=hr.xlt _ hX;omega,hh3,by rw [hnl'];exact hGn,hGm,by rw [qgo,qgo,hRs,Nat.mul_one],?_⟩⟩) hev hown;rw [hnl,qni,←hfin];have:=(q8u (cur:=ROW) (cs:=zs.map (Value.int .i64)) (x:=.int .i64 x) (i:=i) (by rw [hcl];omega) (by rw [hcl];omega) hRc).2;rw [hcl] at this;exact this
end Go.Ab
