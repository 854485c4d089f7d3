/- An abstract logic for calls that only compute: what each operation does to values that are trees, and rules for walking a text. -/
import Derived.StillTail
import Derived.Lib.Bytealg
import Derived.Deep.Slices
import Derived.ReadAgain
import Derived.ChangeArms
import Derived.ChangeSame
import Derived.RowKit
import Derived.RowKit3
import Derived.OpenShut
import Derived.JoinedCond
import Derived.KernelRfl
import Derived.Shelf.SlSortCmp.Kit1
import Derived.Sort.AssemblyPlain
import Derived.Laws.AppendOwn
import Derived.Below
import Derived.LoopN
import Derived.Lib.AppendZeros
import Derived.Shelf.SlicesE.Clone
import Derived.Sort.EncStr
import Derived.Shelf.GgSortFunc.RowK
import Derived.Shelf.SlSortCmp.InsertionK
import Derived.Lib.Repeat
import Derived.Shelf.Strings.Builder1
import Derived.Lib.AppendStr
import Derived.ProofKit
import Derived.Laws.IdiomCopy
import Derived.Test.YtgklegblfboelaaGreatDoorA1
set_option linter.unusedVariables false
set_option linter.unusedSimpArgs false
open Array renaming ext'→vd3,getElem?_append→vd4,getElem?_eq_some_iff→vd5,getElem?_setIfInBounds_ne→vd7,length_toList→vd9,range→vea,toList_setIfInBounds→vgx
open Bool renaming and_eq_true→veg,eq_false_iff→vgy,false_and→vgz,false_eq_true→vei,not_eq_true'→vek,or_eq_true→vel
open Go.IntKind renaming bits→vg0,signed→vg1,u32→vg2,wrap→vg3
open Go.Lib renaming run_eql_slice_nil→ven
open List renaming all_eq_true→vg4,any_cons→vg5,any_eq_true→vg6,append_nil→ver,cons_append→vg7,contains_iff_mem→vg8,eq_nil_of_length_eq_zero→vew,flatMap_cons→vg9,getD_eq_getElem?_getD→vha,getElem?_append_left→ve0,getElem?_append_right→ve1,getElem?_cons_succ→vhb,getElem?_cons_zero→vhc,getElem?_eq_getElem→ve3,getElem?_eq_none→ve4,getElem?_eq_some_iff→ve5,getElem?_map→ve6,getElem?_nil→vhd,getElem?_take→ve9,length_append→vfb,length_cons→vhe,length_drop→vfc,length_eq_zero_iff→vhf,length_filter_le→vhg,length_map→vfd,length_nil→vfe,length_pos_of_mem→vhh,length_range→vhi,length_replicate→vff,length_take→vfh,map→vhj,map_congr_left→vhk,map_cons→vfj,map_nil→vfk,map_replicate→vhl,map_take→vhm,mem_append→vfl,mem_append_left→vhn,mem_append_right→vho,mem_cons→vhp,mem_cons_of_mem→vhq,mem_cons_self→vhr,mem_filter→vhs,mem_flatMap→vfm,mem_map→vht,mem_mapIdx→vhu,mem_of_mem_take→vfp,mem_or_eq_of_mem_set→vfq,mem_range→vhv,mem_replicate→vfr,mem_singleton→vhw,nil_append→vfs,range→vft,range'→vhx,replicate→vfv,set_cons_zero→vhy,size_toArray→vfw,take→vhz,take_append_drop→vh0,take_of_length_le→vfz,toArray→vh1
open Nat renaming add→vh2,add_zero→vf5,beq→vh3,ble→vh4,blt→vh5,le_refl→vf9,le_succ→vga,le_trans→vgb,lt_succ_self→vgd,lt_trichotomy→vh6,min_eq_left→vh7,mul_le_mul_right→vgg,strongRecOn→vh8,sub→vh9,sub_self→vib,sub_zero→vgj,succ→vic,testBit_shiftLeft→vid,zero_add→vgk,zero_le→vie
open Option renaming bind_eq_some_iff→vif,bind_some→vgl,isSome_iff_exists→vgo,map_none→vig,map_some→vgq
open Option.some renaming inj→vih,injEq→vgr
open Prod.mk renaming injEq→vgs
open Go.Result renaming andThen_ok→vgt
open Go.Sem renaming run_bind→vgv,run_pure→vgw
noncomputable section
namespace Go.Ab
open Go
section
variable (P:Program) (B d':Nat) (ρ:Operand→AV) (d:Option Tmp) (ty:TypeId) (pos:String) (af:Array Edge) (g:Option (Nat×Bool))
theorem q4m (x:Operand):aop P B ρ ⟨d,.move x,ty,pos,af,g⟩=.ret (ρ x,none):=rfl
theorem qy1 (x:Operand):aop P B ρ ⟨d,.assign x,ty,pos,af,g⟩=.ret (ρ x,none):=rfl
theorem q4n (c x y:Operand):aop P B ρ ⟨d,.pick c x y,ty,pos,af,g⟩=(match ρ c with | .p (.bool t)=>.ret (if t then ρ x else ρ y,none) | _=>.fail):=rfl
theorem q04 (t:TypeId):aop P B ρ ⟨some d',.alloc t,ty,pos,af,g⟩=(match qbo P t with
  | some z=>if z.cells.length=P.cellsOf t then q4e P (B+d') t z else .fail
  | none=>.fail):=rfl
theorem q7z (t:TypeId) (x:Operand):aop P B ρ ⟨some d',.box t x,ty,pos,af,g⟩=q4e P (B+d') t (ρ x):=rfl
theorem q05 (t:TypeId) (parts:List (Nat×Operand)):aop P B ρ ⟨d,.build t parts.toArray,ty,pos,af,g⟩=qar (.ofOpt (qk6 P t (parts.map fun p=>(p.1,ρ p.2)))):=rfl
theorem qpv (t:TypeId) (n:Nat) (parts:List (Nat×Operand)):aop P B ρ ⟨some d',.buildSlice t n parts.toArray,ty,pos,af,g⟩=qdv P (B+d') t n (parts.map fun p=>(p.1,ρ p.2)):=rfl
theorem q4o (t:TypeId) (x:Operand):aop P B ρ ⟨d,.load t x,ty,pos,af,g⟩=qar (qmf P t (ρ x)):=rfl
theorem q06 (t:TypeId) (x y:Operand):aop P B ρ ⟨d,.store t x y,ty,pos,af,g⟩=qnx P t (ρ x) (ρ y):=rfl
theorem q07 (op:BinOp) (t:TypeId) (x y:Operand) (yt:TypeId):aop P B ρ ⟨d,.binOp op t x y yt,ty,pos,af,g⟩=qar (.ofOpt (q62 P op t (ρ x) (ρ y))):=rfl
theorem q4p (op:UnOp) (t:TypeId) (x:Operand):aop P B ρ ⟨d,.unOp op t x,ty,pos,af,g⟩=qar (.ofOpt (unA op (ρ x))):=rfl
theorem qvk (s t:TypeId) (x:Operand):aop P B ρ ⟨d,.convert s t x,ty,pos,af,g⟩=qar (qqc P s t (ρ x)):=rfl
theorem qtc (fn:Fn) (cap:List Operand):aop P B ρ ⟨d,.makeFunc fn (vh1 []) cap.toArray,ty,pos,af,g⟩=.ret (qss fn (cap.map ρ),none):=rfl
theorem qrl (t:TypeId) (l c:Operand):aop P B ρ ⟨some d',.makeSlice t l c,ty,pos,af,g⟩=qhz P (B+d') t (ρ l) (ρ c):=rfl
theorem q08 (t:TypeId) (x:Operand) (lo hi:Option Operand):aop P B ρ ⟨d,.slice t x lo hi none,ty,pos,af,g⟩=(match P.underlying t,qj7 (lo.map ρ),qj7 (hi.map ρ) with
  | some .string,some l,some h=>(match ρ x with | .p (.str _)=>qar (qhd (ρ x) l h) | _=>.fail)
  | some (.slice e),some l,some h=>(match ρ x with | .p (.str _)=>.fail | _=>if qmv P e=true then qar (aop.sliceT P e (ρ x) l h) else .fail)
  | _,_,_=>.fail):=rfl
theorem qy2 (t:TypeId) (x hi mx:Operand):aop P B ρ ⟨d,.slice t x none (some hi) (some mx),ty,pos,af,g⟩=(match P.underlying t,ρ x,ρ hi,ρ mx with
  | some (.slice e),.p (.slc es),.p (.int _ hi),.p (.int _ mx)=>if mx=hi∧0≤hi∧hi≤es.length∧qmv P e=true then qar (.ret (.p (.clip (es.take hi.toNat)))) else .fail
  | _,_,_,_=>.fail):=rfl
theorem qrm (s:TypeId) (x:Operand) (f:Nat):aop P B ρ ⟨d,.fieldAddr s x f,ty,pos,af,g⟩=qar (.ofOpt (qgk P s f (ρ x))):=rfl
theorem qrn (t:TypeId) (x ix:Operand):aop P B ρ ⟨d,.indexAddr t x ix,ty,pos,af,g⟩=(match qj6 (ρ ix) with
  | some i=>qar (qfo P t (ρ x) i)
  | none=>.fail):=rfl
theorem q09 (t:TypeId) (x ix:Operand):aop P B ρ ⟨d,.index t x ix,ty,pos,af,g⟩=(match qj6 (ρ ix) with
  | some i=>qar (.ofOpt (qqa P t (ρ x) i))
  | none=>.fail):=rfl
theorem qvl (t:TypeId):aop P B ρ ⟨some d',.makeMap t none,ty,pos,af,g⟩=qk9 P (B+d') t:=rfl
theorem qy3 (t:TypeId) (m k:Operand) (c:Bool):aop P B ρ ⟨d,.lookup t m k c,ty,pos,af,g⟩=qar (qmg P t (ρ m) (ρ k) c):=rfl
theorem qro (t:TypeId) (m k v:Operand):aop P B ρ ⟨d,.mapUpdate t m k v,ty,pos,af,g⟩=qiz P t (ρ m) (ρ k) (ρ v):=rfl
theorem qy4 (t:TypeId) (m k v:Operand):aop P B ρ ⟨d,.insert t m k v,ty,pos,af,g⟩=qiz P t (ρ m) (ρ k) (ρ v):=rfl
theorem qtd (x:Operand):aop P B ρ ⟨d,.nilCheck x,ty,pos,af,g⟩=qar (.ofOpt (vbd (ρ x))):=rfl
theorem q1a (s:TypeId) (x:Operand) (f:Nat):aop P B ρ ⟨d,.field s x f,ty,pos,af,g⟩=qar (.ofOpt (qsv P s f (ρ x))):=rfl
theorem qvm (x:Operand) (i:Nat):aop P B ρ ⟨d,.extract x i,ty,pos,af,g⟩=(match ρ x with
  | .p (.tup vs)=>qar (.ofOpt ((vs[i]?).map .p))
  | .tup vs=>qar (.ofOpt (vs[i]?))
  | _=>.fail):=rfl
theorem q70 (x:Operand) (t:TypeId):aop P B ρ ⟨d,.call ⟨.builtin .len,vh1 [x],vh1 [t]⟩,ty,pos,af,g⟩=if (P.underlying t).isSome then qar (aop.lenT P t (ρ x)) else .fail:=rfl
theorem q1b (x:Operand) (t:TypeId):aop P B ρ ⟨some d',.call ⟨.builtin .clear,vh1 [x],vh1 [t]⟩,ty,pos,af,g⟩=qqb P t (ρ x):=rfl
theorem qy5 (x:Operand) (t:TypeId):aop P B ρ ⟨none,.call ⟨.builtin .clear,vh1 [x],vh1 [t]⟩,ty,pos,af,g⟩=qqb P t (ρ x):=rfl
theorem qy6 (s x:Operand) (t u:TypeId):aop P B ρ ⟨some d',.call ⟨.builtin .append,vh1 [s,x],vh1 [t,u]⟩,ty,pos,af,g⟩=if t=u then qb8 P (B+d') t (ρ s) (ρ x) else .fail:=rfl
theorem q71 (xs:List Operand) (ts:Array TypeId):aop P B ρ ⟨d,.call ⟨.builtin .max,xs.toArray,ts⟩,ty,pos,af,g⟩=qar (.ofOpt (q0r q0p (xs.map ρ))):=rfl
theorem q72 (xs:List Operand) (ts:Array TypeId):aop P B ρ ⟨d,.call ⟨.builtin .min,xs.toArray,ts⟩,ty,pos,af,g⟩=qar (.ofOpt (q0r q0q (xs.map ρ))):=rfl
theorem q4q (f:Operand) (xs:Array Operand) (ts:Array TypeId):aop P B ρ ⟨d,.call ⟨.value f,xs,ts⟩,ty,pos,af,g⟩=.fail:=rfl
end
theorem qy7 (P:Program) (N B:Nat) (ops:Array Oper) (st:St):qir P N B ops [] st=(st,[]):=rfl
def onR:Option (AV×Upd)→Go1
 | some (v,u)=>.on v u
 | none=>.stop
theorem q4r (v:AV) (u:Upd):onR (some (v,u))=.on v u:=rfl
theorem q4s:onR none=.stop:=rfl
theorem q1c (P:Program) (N B:Nat) (ops:Array Oper) (d:Option Tmp) (op:Op) (ty:TypeId) (pos:String) (af:Array Edge) (st:St) :
  go1 P N B ops ⟨d,op,ty,pos,af,none⟩ st=if qbc N ⟨d,op,ty,pos,af,none⟩ then onR ((aop P B (ev st.env) ⟨d,op,ty,pos,af,none⟩).run (qag st.heap)) else .stop:=by
 unfold go1 qal onR;rfl
def onG (r:Option (AV×Upd)):Option Bool→Go1
 | some true=>onR r
 | some false=>.on (.p (.tup [])) none
 | none=>.stop
theorem q4t (r:Option (AV×Upd)):onG r (some true)=onR r:=rfl
theorem q1d (r:Option (AV×Upd)):onG r (some false)=.on (.p (.tup [])) none:=rfl
theorem qy8 (N t:Nat) (op:Op) (ty:TypeId) (pos:String) (af:Array Edge) (g:Option (Nat×Bool)):qbc N ⟨some t,op,ty,pos,af,g⟩=decide (t < N):=rfl
theorem qy9 (N:Nat) (op:Op) (ty:TypeId) (pos:String) (af:Array Edge) (g:Option (Nat×Bool)):qbc N ⟨none,op,ty,pos,af,g⟩=true:=rfl
theorem qvn (m:L AV) (σ:Nat→AO):(qar m).run σ=(m.run σ).map fun v=>(v,none):=by
 unfold qar;rw [L.run_bind'];cases m.run σ <;> rfl
section
variable (k:IntKind) (n:Int) (b:Bool) (l:List UInt8) (ps qs:List PV) (fn:Fn)
theorem vbs:(PV.int k n).cells=[.int k n]:=rfl
theorem q73:(PV.bool b).cells=[.bool b]:=rfl
theorem vbt:(PV.str l).cells=[.str l]:=rfl
theorem q74:PV.nilp.cells=[.nilp]:=rfl
theorem q75:PV.nilf.cells=[.nilf]:=rfl
theorem q76:PV.nili.cells=[.nili]:=rfl
theorem q77:PV.nilm.cells=[.nilm]:=rfl
theorem vbu:(PV.slc ps).cells=[.slc ps]:=rfl
theorem q78:(PV.nnil ps).cells=[.nnil ps]:=rfl
theorem q79:(PV.clip ps).cells=[.clip ps]:=rfl
theorem vbv:(PV.imm ps).cells=[.imm ps]:=rfl
theorem q8a:(PV.mapv ps qs).cells=[.mapv ps qs]:=rfl
theorem q8b:(PV.func fn ps).cells=[.func fn ps]:=rfl
theorem vbw:(PV.agg ps).cells=ps:=rfl
theorem vbx:(PV.int k n).isAgg=false:=rfl
theorem q8c:(PV.bool b).isAgg=false:=rfl
theorem vby:(PV.str l).isAgg=false:=rfl
theorem q8d:PV.nilp.isAgg=false:=rfl
theorem q8e:PV.nilf.isAgg=false:=rfl
theorem q8f:PV.nili.isAgg=false:=rfl
theorem q8g:PV.nilm.isAgg=false:=rfl
theorem vbz:(PV.slc ps).isAgg=false:=rfl
theorem q8h:(PV.nnil ps).isAgg=false:=rfl
theorem q8i:(PV.clip ps).isAgg=false:=rfl
theorem vb0:(PV.imm ps).isAgg=false:=rfl
theorem q8j:(PV.mapv ps qs).isAgg=false:=rfl
theorem q8k:(PV.func fn ps).isAgg=false:=rfl
theorem vb1:(PV.agg ps).isAgg=true:=rfl
theorem vb2:(PV.int k n).isTup=false:=rfl
theorem q8l:(PV.bool b).isTup=false:=rfl
theorem vb3:(PV.str l).isTup=false:=rfl
theorem q8m:PV.nilp.isTup=false:=rfl
theorem q8n:PV.nilf.isTup=false:=rfl
theorem q8o:PV.nili.isTup=false:=rfl
theorem q8p:PV.nilm.isTup=false:=rfl
theorem vb4:(PV.slc ps).isTup=false:=rfl
theorem q8q:(PV.nnil ps).isTup=false:=rfl
theorem q8r:(PV.clip ps).isTup=false:=rfl
theorem vb5:(PV.imm ps).isTup=false:=rfl
theorem q8s:(PV.mapv ps qs).isTup=false:=rfl
theorem q8t:(PV.func fn ps).isTup=false:=rfl
theorem vb6:(PV.agg ps).isTup=false:=rfl
theorem vb7:(PV.tup ps).isTup=true:=rfl
theorem vb8:(PV.int k n).flat=true:=rfl
theorem q8u:(PV.bool b).flat=true:=rfl
theorem vb9:(PV.str l).flat=true:=rfl
theorem q8v:PV.nilp.flat=true:=rfl
theorem vca:(PV.slc ps).flat=false:=rfl
theorem vcb:(PV.imm ps).flat=false:=rfl
theorem vcc:(PV.agg ps).flat=PV.flat.flatAll ps:=rfl
theorem vcd:(PV.tup ps).flat=PV.flat.flatAll ps:=rfl
theorem vce:PV.flat.flatAll []=true:=rfl
theorem q8w (x:PV):PV.flat.flatAll (x :: ps)=(x.flat && PV.flat.flatAll ps):=rfl
end
attribute [go_sem] vbs q73 vbt q74 q75 q76 q77 vbu q78 q79 vbv q8a q8b vbw vbx q8c vby q8d q8e q8f q8g vbz q8h q8i vb0 q8j q8k vb1 vb2 q8l vb3 q8m q8n q8o q8p vb4 q8q q8r vb5 q8s q8t vb6 vb7 vb8 q8u vb9 q8v vca vcb vcc vcd vce q8w
theorem hgetC (k:Nat) (o:AO) (r:List (Nat×AO)) (l:Nat):qag ((k,o) :: r) l=if k=l then o else qag r l:=rfl
theorem genD (g:Nat):(AO.dead g).gen=g:=rfl
theorem genA (e sz g:Nat) (es:List AV):(AO.arr e sz g es).gen=g:=rfl
theorem genM (g:Nat) (ks vs:List AV):(AO.map g ks vs).gen=g:=rfl
theorem vcf (g:Nat):(AO.dead g).alive=false:=rfl
theorem vcg (e sz g:Nat) (es:List AV):(AO.arr e sz g es).alive=true:=rfl
theorem vch (g:Nat) (ks vs:List AV):(AO.map g ks vs).alive=true:=rfl
theorem hgetN (l:Nat):qag [] l=.dead 0:=rfl
attribute [go_sem] qtd vbd qvl qy3 qro qy4 q1a qk9 qmg qiz qk7 q4g qra qk8 qyq qny AV.mapo.injEq qsv q4m qy1 q4n q04 q7z q05 qpv q4o q06 q07 q4p qvk qtc qrl q08 qy2 qrm qrn q09 qvm q70 qy6 q1b qy5 qqb q71 q72 q4q qy7 qn8 qxc qyz q4r q4s q1c q4t q1d qy8 qy9 qvn L.run_ofOpt L.run_ret L.run_fail L.run_look L.run_bind' qal ev ofV q60 Env.get qd0 qle q0w hgetC hgetN q4e q0j qmf qjl qpq qnx qgr qu6 qgk qfo qj6 qqa q4f qqc q0s qj7 qhd aop.sliceT aop.lenT qu0 qf5 qb8 qdg qm4 qdv qhz q62 q61 vbb strA unA q0r qyp q0p q0q AV.cells AV.known AV.isAgg AV.one qme qu5 qss qie splice qke true_or or_true false_or or_false q0y qlf qmw qcg Le q4l qe1 qxe LeV qta q4k q65 q01 q00 qs9 genD genA genM vcf vcg vch St.sig PV.flat PV.flat.flatAll Ab.argsEnv qm8 qi5
end Go.Ab
namespace Go.Ab
open Go
theorem qqj (P:Program) (fs:Array Field) {l:List (Nat×Nat)} (h:(fs.toList.map fun f=>(f.offset,P.cellsOf f.type))=l) (j:Nat):qke P fs j=l[j]?:=by
 subst h;simp [qke]
theorem qte (P:Program) (t:TypeId) {z:AV} (hz:qbo P t=some z) (hk:z.known=true) (hu:P.underlying t=some (.struct (P.fieldsOf t)))
  (hall:((P.fieldsOf t).toList.all fun f=>(P.info? f.type).isSome)=true) {pl:Nat→Option (Nat×Nat)} (hp:qke P (P.fieldsOf t)=pl) {parts:List (Nat×AV)} :
  qk6 P t parts=(qm4 pl z.cells parts).map qme:=by
 unfold qk6;rw [hu,hz];simp only [hk,hall,Bool.and_self,if_true,hp]
theorem wrap_i64 {n:Int} (h1:-9223372036854775808≤n) (h2:n≤9223372036854775807):IntKind.i64.wrap n=n:=by
 simp only [vg3,vg1,vg0];simp only [Bool.true_and,decide_eq_true_eq,ge_iff_le];rw [show ((2:Int) ^ (64 - 1))=9223372036854775808 from rfl,show ((2:Int) ^ 64)=18446744073709551616 from rfl];split <;> omega
theorem q8x (D:Nat→Bool) (x:PV):qcn D 9 (.p x)=.ret x:=rfl
theorem qza (D:Nat→Bool):qcn D 9 .nils=.ret (.slc []):=rfl
theorem q1e (D:Nat→Bool) (cs:List AV):qcn D 9 (.agg cs)=(qai (qcn D 8) cs).bind fun xs=>.ret (.agg xs):=rfl
theorem q1f (D:Nat→Bool) (cs:List AV):qcn D 9 (.tup cs)=(qai (qcn D 8) cs).bind fun xs=>.ret (.tup xs):=rfl
theorem qzb (D:Nat→Bool) (fn:Fn) (cs:List AV):qcn D 9 (.func fn cs)=(qai (qcn D 8) cs).bind fun xs=>.ret (.func fn xs):=rfl
theorem q8y (D:Nat→Bool) (x:PV):qcn D 8 (.p x)=.ret x:=rfl
theorem qzc (D:Nat→Bool):qcn D 8 .nils=.ret (.slc []):=rfl
theorem q1g (D:Nat→Bool) (cs:List AV):qcn D 8 (.agg cs)=(qai (qcn D 7) cs).bind fun xs=>.ret (.agg xs):=rfl
theorem q8z (D:Nat→Bool) (x:PV):qcn D 7 (.p x)=.ret x:=rfl
theorem qzd (D:Nat→Bool):qcn D 7 .nils=.ret (.slc []):=rfl
theorem q1h (D:Nat→Bool) (cs:List AV):qcn D 7 (.agg cs)=(qai (qcn D 6) cs).bind fun xs=>.ret (.agg xs):=rfl
theorem q80 (D:Nat→Bool) (x:PV):qcn D 6 (.p x)=.ret x:=rfl
theorem qze (D:Nat→Bool):qcn D 6 .nils=.ret (.slc []):=rfl
def qmj (D : Nat → Bool) (n l g off len : Nat) : L PV := if D l then .look l fun o => match o with
      | .arr _ _ g' es => if g = g' ∧ off + len ≤ es.length then (qai (qcn D n) ((es.drop off).take len)).bind fun xs => .ret (.slc xs) else .fail
      | _ => .fail
    else .fail
def qrp (D : Nat → Bool) (n l g i off : Nat) : L PV := if D l then .look l fun o => match o with
      | .arr _ _ g' es => if g = g' then (match es[i]? with
        | some x => (qai (qcn D n) (x.cells.drop off)).bind fun ys => .ret (.imm ys)
        | none => .fail) else .fail
      | _ => .fail
    else .fail
theorem q1i (D:Nat→Bool) (l g off len:Nat):qcn D 9 (.own l g off len)=qmj D 8 l g off len:=rfl
theorem q1j (D:Nat→Bool) (l g off len:Nat):qcn D 8 (.own l g off len)=qmj D 7 l g off len:=rfl
theorem q1k (D:Nat→Bool) (l g off len:Nat):qcn D 7 (.own l g off len)=qmj D 6 l g off len:=rfl
theorem q1l (D:Nat→Bool) (l g i off:Nat):qcn D 9 (.loc l g i off)=qrp D 8 l g i off:=rfl
theorem q1m (D:Nat→Bool) (l g i off:Nat):qcn D 8 (.loc l g i off)=qrp D 7 l g i off:=rfl
theorem q1n (D:Nat→Bool) (l g i off:Nat):qcn D 7 (.loc l g i off)=qrp D 6 l g i off:=rfl
theorem qzf (D:Nat→Bool) (xs:List PV):qai (qcn D 9) (xs.map .p)=.ret xs:=qgo D 8 xs
theorem qzg (D:Nat→Bool) (xs:List PV):qai (qcn D 8) (xs.map .p)=.ret xs:=qgo D 7 xs
theorem qzh (D:Nat→Bool) (xs:List PV):qai (qcn D 7) (xs.map .p)=.ret xs:=qgo D 6 xs
theorem qvo (f:AV→L PV):qai f []=.ret []:=rfl
theorem qtf (f:AV→L PV) (c:AV) (cs:List AV):qai f (c :: cs)=(f c).bind fun x=>(qai f cs).bind fun xs=>.ret (x :: xs):=rfl
attribute [go_sem] q8x qza q1e q1f qzb q8y qzc q1g q8z qzd q1h q80 qze q1i q1j q1k q1l q1m q1n qmj qrp qzf qzg qzh qvo qtf if_true if_false ite_true ite_false decide_true decide_false Bool.not_true Bool.not_false Bool.and_true Bool.true_and Bool.and_false vgz Bool.or_true Bool.true_or Bool.or_false Bool.false_or vfj vfk vhe vfe vfd vgq vig vgl Option.bind_none vhc vhb vhd vg7 vfs ver List.drop_zero List.drop_succ_cons List.drop_nil List.take_zero List.take_succ_cons List.take_nil vhy List.set_cons_succ and_true true_and and_false false_and or_true true_or or_false false_or beq_self_eq_true vei Bool.true_eq_false eq_self not_true_eq_false not_false_eq_true List.all_cons List.all_nil Option.isSome_some Option.isSome_none Option.getD_some Option.getD_none Int.toNat_natCast vg5 List.any_nil AV.loc.injEq AV.own.injEq AV.p.injEq PV.int.injEq PV.bool.injEq PV.str.injEq PV.slc.injEq PV.agg.injEq PV.tup.injEq vgr vgs List.cons.injEq List.countP_nil Int.natCast_zero implies_true forall_const
end Go.Ab
namespace Go.Ab
variable {D:Prop}
open Go
theorem qoe (P:Program) (B:Nat) {ρ ρ':Operand→AV} (o:Oper) (h:∀x∈o.op.operands,ρ x=ρ' x):aop P B ρ o=aop P B ρ' o:=by
 obtain ⟨dst,op,type,pos,after,guard⟩:=o;have pairs:∀ps:Array (Nat×Operand),(∀x∈ps.toList.map (·.2),ρ x=ρ' x)→(ps.toList.map fun p=>(p.1,ρ p.2))=(ps.toList.map fun p=>(p.1,ρ' p.2)):=fun ps hp =>
  vhk fun p hm=>by rw [hp p.2 (vht.2 ⟨p,hm,rfl⟩)]
 cases op <;> simp only [Op.operands] at h <;> simp only [aop]
 case move x=>rw [h x (by simp)]
 case assign x=>rw [h x (by simp)]
 case pick c x y=>rw [h c (by simp),h x (by simp),h y (by simp)]
 case box t x=>rw [h x (by simp)]
 case build t ps=>rw [pairs ps fun x hx=>h x (by simpa using hx)]
 case buildSlice t n ps=>rw [pairs ps fun x hx=>h x (by simpa using hx)]
 case load t x=>rw [h x (by simp)]
 case store t x y=>rw [h x (by simp),h y (by simp)]
 case binOp op t x y yt=>rw [h x (by simp),h y (by simp)]
 case unOp op t x=>rw [h x (by simp)]
 case convert s d x=>rw [h x (by simp)]
 case makeFunc fn first captured =>
  have e:captured.toList.map ρ=captured.toList.map ρ':=vhk fun x hx=>h x (by simp at hx ⊢;exact .inr hx)
  rw [e]
 case makeSlice t l c=>rw [h l (by simp),h c (by simp)]
 case slice t x lo hi mx =>
  cases mx with
  | some m =>
   cases lo with
   | some l=>rfl
   | none=>cases hi with
    | none=>rfl
    | some hi=>simp only [aop];rw [h x (by simp),h hi (by simp),h m (by simp)]
  | none =>
   have e1:lo.map ρ=lo.map ρ':=by cases lo <;> simp;exact h _ (by simp)
   have e2:hi.map ρ=hi.map ρ':=by cases hi <;> simp;exact h _ (by simp)
   simp only [aop];rw [h x (by simp),e1,e2]
 case fieldAddr s x f=>rw [h x (by simp)]
 case indexAddr t x ix=>rw [h x (by simp),h ix (by simp)]
 case index t x ix=>rw [h x (by simp),h ix (by simp)]
 case makeMap t r=>cases r <;> rfl
 case lookup t m k c=>rw [h m (by simp),h k (by simp)]
 case mapUpdate t m k v=>rw [h m (by simp),h k (by simp),h v (by simp)]
 case insert t m k v=>rw [h m (by simp),h k (by simp),h v (by simp)]
 case field s x f=>rw [h x (by simp)]
 case nilCheck x=>rw [h x (by simp)]
 case extract x i=>rw [h x (by simp)]
 case call c =>
  obtain ⟨callee,args,argTypes⟩:=c;cases callee with
  | value f=>rfl
  | invoke r m=>rfl
  | builtin b =>
   have ha:∀x∈args.toList,ρ x=ρ' x:=fun x hx=>h x (by simpa [Call.operands] using hx)
   have e:args.toList.map ρ=args.toList.map ρ':=vhk ha;cases b <;> simp only [aop]
   case len =>
    split
    ·rename_i x t hxs hts;rw [ha x (by rw [hxs];simp)]
    ·rfl
   case append =>
    split
    ·rename_i s x t u hxs hts;rw [ha s (by rw [hxs];simp),ha x (by rw [hxs];simp)]
    ·rfl
   case clear =>
    split
    ·rename_i x t hxs hts;rw [ha x (by rw [hxs];simp)]
    ·rfl
   case max=>rw [e]
   case min=>rw [e]
structure Evt where
 v:AV
 u:Upd
 reads:List Nat
def Evt.wr (e:Evt):Option Nat:=e.u.map (·.1)
def qcv (ρ:Operand→AV) (f:Operand) (args:List Operand):Option (FuncId×List AV) :=
 match ρ f with
 | .p (.func (.func k) cs)=>some (k,args.map ρ++cs.map .p)
 | .func (.func k) cs=>some (k,args.map ρ++cs)
 | _=>none
structure Cln (P:Program) (k:FuncId) (e sz by':Nat):Prop where
 body:HasBody P k
 ptr:∀(b off n c:Nat) (news:List Value) (w:World),news.length=n * sz→n≤maxLen→n * by'≤140737488355328→(∀j u,news[j]?=some u→w.cell? ⟨b,off+j,none⟩=some u)→(∀u∈news,u.oneCell'=true) →
  Calls P k #[.slice (some ⟨b,off,none⟩) n c] w fun e' w'=>∃v,e'=.returned v∧w'.ownsRow w.heap.size e sz v n news∧RowKit.Below w.heap.size w w'
 zero:∀(a:Addr) (c:Nat) (w:World),Calls P k #[.slice (some a) 0 c] w fun e' w'=>∃v,e'=.returned v∧w'.ownsRow w.heap.size e sz v 0 []∧RowKit.Below w.heap.size w w'
 nil:∀(n c:Nat) (w:World),Calls P k #[.slice none n c] w fun e' w'=>e'=.returned (.slice none 0 0)∧w'=w
def OpU (D:Prop) (P:Program) (o:Oper) (ρ:Operand→AV) (σ:Nat→AO) (v:AV) (u:Upd) (rs:List Nat):Prop :=
 ∀(X:Nat→Prop) (ρ':Operand→AV) (σ':Nat→AO),(∀x∈o.op.operands,ρ' x=ρ x)→(∀l∈rs,σ' l=σ l) →
  ∀{inj:Inj} {w:World} {a:Act} {next:Act→World→Prop} {Q:Exit→Act→World→Prop},HR X inj σ' w→TabOk P (fun b=>X b∨F inj σ' b) w→(∀x,AR X inj σ' w (ρ' x) (a.eval x)) →
   (∀val w' inj',HR X inj' (upd σ' u) w'→Ev D X inj σ' w inj' (upd σ' u) w'→AR X inj' (upd σ' u) w' v val→next (a.put o.dst val) w')→o.wp P a w next Q
inductive Does (C:Cx) (o:Oper) (ρ:Operand→AV) (σ:Nat→AO):Evt→Prop
 | op {v u} (h:(aop C.P C.B ρ o).run σ=some (v,u)):Does C o ρ σ ⟨v,u,(aop C.P C.B ρ o).reads σ⟩
 | call {f args ats k avs pargs r} (hp:q4j C.D C.P k pargs r) (ho:o.op=.call ⟨.value f,args,ats⟩) (hk:HasBody C.P k) (hc:qcv ρ f args.toList=some (k,avs))
   (hv:(qai (qcn (fun _=>true) 9) avs).run σ=some pargs) (hfl:(qie avs).isSome=true∨r.flat=true) :
   Does C o ρ σ ⟨.p r,none,(qai (qcn (fun _=>true) 9) avs).reads σ⟩
 | built {t len parts v u x} (ho:o.op=.buildSlice t len parts) (h:(aop C.P C.B ρ o).run σ=some (v,u)) (hv:(qcn (fun l=>l == qe6 C.B o) 9 v).run (upd σ u)=some x) :
   Does C o ρ σ ⟨.p x,none,(aop C.P C.B ρ o).reads σ++(qcn (fun l=>l == qe6 C.B o) 9 v).reads (upd σ u)⟩
 | cloned {f args ats k e sz by' g xs} (S:Cln C.P k e sz by') (hw:¬C.D) (ho:o.op=.call ⟨.value f,args,ats⟩) (hc:qcv ρ f args.toList=some (k,[.p (.slc xs)]))
   (hel:(xs.map AV.p).all (qdg sz)=true) (hn:xs.length≤maxLen) (hby:xs.length * by'≤140737488355328) (hg:σ (qe6 C.B o)=.dead g) :
   Does C o ρ σ ⟨.own (qe6 C.B o) (g+1) 0 xs.length,some (qe6 C.B o,.arr e sz (g+1) (xs.map AV.p)),[qe6 C.B o]⟩
 | ext {v u rs} (h:OpU C.D C.P o ρ σ v u rs):Does C o ρ σ ⟨v,u,rs⟩
theorem qof {X:Nat→Prop} {inj:Inj} {P:Program} {σ:Nat→AO} {w:World} (h:HR X inj σ w) {k:Nat} {t:TypeId} {len:Nat} {parts:List (Nat×AV)} {vparts:Array (Nat×Value)} {r:AV} {up:Upd} (hp:PartsR X inj σ w parts vparts.toList)
  (hr:(qdv P k t len parts).run σ=some (r,up)) :
  ∃cs e,(Instr.buildSlice t len vparts).run P w=.ok (.slice (some ⟨w.heap.size,0,none⟩) len len) (w.alloc (.cells cs e)):=by
 unfold qdv at hr;split at hr
 case h_2=>simp at hr
 rename_i e hu;split at hr
 case isFalse=>simp at hr
 rename_i hc;obtain ⟨hfst,hall,hsm,hpos,hmx,hzs⟩:=hc;obtain ⟨i,z,hi,hz,hzl',his,hib⟩:=qkd hzs;obtain ⟨hf,hars⟩:=hp.fst;obtain ⟨hsz,hone⟩:=qe0 hall hars;have hlen:(vparts.toList.map (·.2)).length=len:=by
  have:=congrArg List.length (hf ▸ hfst);simpa using this
 have hdense:vparts.toList=((vparts.toList.map (·.2)).zipIdx 0).map fun x=>(x.2,x.1):=qs6 0 (by rw [←hf,hfst,List.range_eq_range'])
 have hflen:(flat (vparts.toList.map (·.2))).length=len * P.cellsOf e:=by rw [qa0 hsz,hlen]
 refine ⟨(flat (vparts.toList.map (·.2))).toArray,e,?_⟩;by_cases h0:len * P.cellsOf e=0
 ·have hl0:len=0:=by
   rcases Nat.mul_eq_zero.1 h0 with h1 | h1
   ·exact h1
   ·omega
  have hfl0:flat (vparts.toList.map (·.2))=[]:=vew (by rw [hflen,h0]);have hv0:vparts.toList=[]:=vew (by rw [hl0] at hlen;simpa using hlen);have hv1:vparts=#[]:=by apply vd3;simpa using hv0
  subst hl0;subst hv1;simp [Instr.buildSlice,run_underlying hu,sizeOf,typeInfo,hi,Instr.fill,newRow,flat];rw [show vea 0=#[] from by simp [vea]];simp
 ·have hw:=Great.fill_whole (s:=P.cellsOf e) hpos (vparts.toList.map (·.2)) ((vea (len * P.cellsOf e)).map (z.cells[· % z.cells.size]!)) hsz (by rw [hlen];simp);rw [←hdense] at hw;have:=run_buildSlice (P:=P) w t e len vparts _ i z hu hi hz (by rw [his];omega) (by rw [his];exact h0) (by rw [his];exact hw);rw [this];rfl
theorem Fr.alloc (w:World) (c:Array Value) (t:TypeId):Fr D w (w.alloc (.cells c t)):=by
 have hh:(w.alloc (.cells c t)).heap=w.heap.push (.cells c t):=rfl;refine ⟨rfl,rfl,rfl,fun _=>vf9 _,by rw [hh,Array.size_push];omega,fun a _=>qhf w c t a,fun b hb=>?_⟩;rw [hh,Array.getElem?_push,if_neg (Nat.ne_of_lt hb)]
theorem qvp {σ:Nat→AO} {u:Upd} {l:Nat} (h:u.map (·.1)≠some l):upd σ u l=σ l:=by
 cases u with
 | none=>rfl
 | some p=>simp only [upd,qg6];rw [if_neg (fun e=>h (by simp [e]))]
theorem q81 {σ τ:Nat→AO} {u:Upd} {l:Nat} (h:u.map (·.1)=some l):upd σ u l=upd τ u l:=by
 cases u with
 | none=>cases h
 | some p=>simp only [vgq,vgr] at h;simp [upd,qg6,h]
theorem Does.frame {C:Cx} {o:Oper} {ρ ρ':Operand→AV} {σ τ:Nat→AO} {e:Evt} (h:Does C o ρ σ e) (hρ:∀x∈o.op.operands,ρ x=ρ' x) (hσ:∀l∈e.reads,τ l=σ l):Does C o ρ' τ e:=by
 cases h with
 | @op v u h =>
  rw [qoe C.P C.B o hρ] at h hσ ⊢;obtain ⟨h1,h2⟩:=L.frame _ h hσ;rw [←h2];exact .op h1
 | @call f args ats k avs pargs r hp ho hk hc hv hfl =>
  have hf:ρ f=ρ' f:=hρ f (by rw [ho];simp [Op.operands,Call.operands]);have ha:args.toList.map ρ=args.toList.map ρ':=vhk fun x hx=>hρ x (by rw [ho];simp [Op.operands,Call.operands] at hx ⊢;exact .inr hx)
  have hc':qcv ρ' f args.toList=some (k,avs):=by
   unfold qcv at hc ⊢;rw [←hf,←ha];exact hc
  obtain ⟨h1,h2⟩:=L.frame _ hv hσ;rw [←h2];exact .call hp ho hk hc' h1 hfl
 | @built t len parts v u x ho h hv =>
  rw [qoe C.P C.B o hρ] at h hσ ⊢;obtain ⟨h1,h2⟩:=L.frame _ h fun l hl=>hσ l (vfl.2 (.inl hl))
  have hσ2:∀l∈(qcn (fun l=>l == qe6 C.B o) 9 v).reads (upd σ u),upd τ u l=upd σ u l:=fun l hl=>by
   by_cases hw:u.map (·.1)=some l
   ·exact q81 hw
   ·rw [qvp hw,qvp hw];exact hσ l (vfl.2 (.inr hl))
  obtain ⟨h3,h4⟩:=L.frame _ hv hσ2;rw [←h2,←h4];exact .built ho h1 h3
 | @cloned f args ats k e sz by' g xs S hw ho hc hel hn hby hg =>
  have hf:ρ f=ρ' f:=hρ f (by rw [ho];simp [Op.operands,Call.operands]);have ha:args.toList.map ρ=args.toList.map ρ':=vhk fun x hx=>hρ x (by rw [ho];simp [Op.operands,Call.operands] at hx ⊢;exact .inr hx)
  have hc':qcv ρ' f args.toList=some (k,[.p (.slc xs)]):=by
   unfold qcv at hc ⊢;rw [←hf,←ha];exact hc
  exact .cloned S hw ho hc' hel hn hby (by rw [hσ _ (by simp)];exact hg)
 | @ext v u rs h=>exact .ext fun X ρ2 σ2 h1 h2=>h X ρ2 σ2 (fun x hx=>(h1 x hx).trans (hρ x hx).symm) fun l hl=>(h2 l hl).trans (hσ l hl)
structure SRf (C:Cx) (ef:Nat→AV) (σ:Nat→AO) (inj:Inj) (a:Act) (w:World):Prop where
 env:∀t,AR C.X inj σ w (ef t) (a.tmps.getD t undef)
 size:a.tmps.size=C.N
 defers:a.defers=[]
 hr:HR C.X inj σ w
 ev:Ev C.D C.X C.inj0 (qag C.H0) C.w0 inj σ w
theorem SR.f {C:Cx} {st:St} {inj:Inj} {a:Act} {w:World} (h:SR C st inj a w):SRf C st.env.get st.sig inj a w:=⟨h.env,h.size,h.defers,h.hr,h.ev⟩
def evf (ef:Nat→AV):Operand→AV
 | .tmp t=>ef t
 | .const v=>ofV v
 | .func f=>.p (.func (.func f) [])
 | .global _=>.any
theorem qmk (env:Env):evf env.get=ev env:=by funext x;cases x <;> rfl
theorem SRf.eval {C:Cx} {ef:Nat→AV} {σ:Nat→AO} {inj:Inj} {a:Act} {w:World} (h:SRf C ef σ inj a w) (x:Operand):AR C.X inj σ w (evf ef x) (a.eval x):=by
 cases x with
 | tmp t=>exact h.env t
 | const v=>exact qk5 v
 | global g=>trivial
 | func f=>exact ⟨[],rfl,rfl⟩
def qg7 (ef:Nat→AV) (d:Option Tmp) (v:AV):Nat→AV:=fun t=>if d=some t then v else ef t
theorem SRf.put {C:Cx} {ef:Nat→AV} {σ:Nat→AO} {inj:Inj} {a:Act} {w:World} (h:SRf C ef σ inj a w) {o:Oper} (hd:qbc C.N o=true) {v:AV} {val:Value} {u:Upd} {inj':Inj} {w':World}
  (h1:HR C.X inj' (upd σ u) w') (h2:Ev C.D C.X inj σ w inj' (upd σ u) w') (h3:AR C.X inj' (upd σ u) w' v val) :
  SRf C (qg7 ef o.dst v) (upd σ u) inj' (a.put o.dst val) w':=by
 refine ⟨fun t=>?_,?_,?_,h1,h.ev.trans h2⟩
 ·unfold qg7;cases hdst:o.dst with
  | none=>simpa [Act.put] using AR.ev h2 h.hr.xlt _ _ (h.env t)
  | some d =>
   simp only [qbc,hdst,decide_eq_true_eq] at hd;simp only [Act.put,vgr];by_cases ht:d=t
   ·subst ht;rw [if_pos rfl];have:(a.tmps.setIfInBounds d val).getD d undef=val:=by simp [h.size,hd]
    rw [this];exact h3
   ·rw [if_neg ht];have:(a.tmps.setIfInBounds d val).getD t undef=a.tmps.getD t undef:=by simp [vd7 ht]
    rw [this];exact AR.ev h2 h.hr.xlt _ _ (h.env t)
 ·cases hdst:o.dst <;> simp [Act.put,h.size]
 ·cases hdst:o.dst <;> simp [Act.put,h.defers]
theorem Does.sound {C:Cx} {ef:Nat→AV} {σ:Nat→AO} {inj:Inj} {a:Act} {w:World} {o:Oper} {e:Evt} {next:Act→World→Prop} {Q:Exit→Act→World→Prop}
  (h:Does C o (evf ef) σ e) (hs:SRf C ef σ inj a w) (hd:qbc C.N o=true) (hnx:∀a' w' inj',SRf C (qg7 ef o.dst e.v) (upd σ e.u) inj' a' w'→next a' w'):o.wp C.P a w next Q:=by
 cases h with
 | @op v u h =>
  exact qxb C.B o (evf ef) hs.hr (fun x=>hs.eval x) h fun val w' inj' h1 h2 h3=>hnx _ _ _ (hs.put hd h1 h2.weak.weak h3)
 | @call f args ats k avs pargs r hp ho hk hc hv hfl =>
  have hf:=hs.eval f;have hargs:=qij (fun x=>hs.eval x) args.toList;have hcall:∃vs,(execOp a.eval o).run C.P w=.ok (.enter k vs.toArray) w∧ARs C.X inj σ w avs vs:=by
   obtain ⟨dst,op,type,pos,after,guard⟩:=o;simp only at ho;subst ho;unfold qcv at hc;have run:∀cap:Array Value,a.eval f=.func (.func k) #[] cap→(execOp a.eval ⟨dst,.call ⟨.value f,args,ats⟩,type,pos,after,guard⟩).run C.P w=.ok (.enter k (args.map a.eval++cap)) w:=by
    intro cap he;simp only [execOp,resolve,Deferred.ofValue,he,vgv,vgw,vgt,invoke];rw [hk];simp
   split at hc
   ·rename_i k' cs hev;simp only [vgr,vgs] at hc;obtain ⟨rfl,rfl⟩:=hc;rw [hev] at hf;obtain ⟨vs,h1,h2⟩:=hf;refine ⟨args.toList.map a.eval++vs,?_,hargs.append (qav.2 h2)⟩;rw [run vs.toArray h1];congr 2;apply vd3;simp
   ·rename_i k' cs hev;simp only [vgr,vgs] at hc;obtain ⟨rfl,rfl⟩:=hc;rw [hev] at hf;obtain ⟨vs,h1,h2⟩:=hf;refine ⟨args.toList.map a.eval++vs,?_,hargs.append h2⟩;rw [run vs.toArray h1];congr 2;apply vd3;simp
   ·cases hc
  obtain ⟨vs,hrun,hars⟩:=hcall;unfold Oper.wp;rw [hrun];simp only [Oper.upon];rcases hfl with hfl | hfl
  ·obtain ⟨xs,hxs⟩:=vgo.1 hfl;have hav:=qkc hxs;subst hav;rw [qgo] at hv;simp only [L.run_ret,vgr] at hv;subst hv;refine (hp (fun b=>C.X b∨F inj σ b) w vs (fun b hb=>hb.elim (hs.hr.xlt b) fun hf=>(hs.hr.flt hf).1) (qi4 hs.ev) (qav.1 hars)).mono ?_;rintro e w' ⟨v,rfl,h1,h2⟩;exact hnx _ _ inj (hs.put (u:=none) hd (hs.hr.fr h2) h2.ev h1)
  ·have hpr:=qcf (qcs hs.hr (fun _=>true) 9) avs vs pargs hars hv;have hpr':PRs C.X w pargs vs:=PRs.keep ⟨vf9 _,fun _ _ _=>rfl,fun b _ hx hn=>hx (.inl hn)⟩ pargs vs hpr;refine (hp C.X w vs hs.hr.xlt ((qi4 hs.ev).keep ⟨vf9 _,fun _ _ _=>rfl,fun b _ hx hn=>hx (.inl hn)⟩) hpr').mono ?_;rintro e w' ⟨v,rfl,h1,h2⟩;exact hnx _ _ inj (hs.put (u:=none) hd (hs.hr.fr h2) h2.ev (PR.flat r v hfl h1))
 | @built t len parts v u x ho h hv =>
  obtain ⟨dst,op,type,pos,after,guard⟩:=o;simp only at ho;subst ho;have hr:(qdv C.P (qe6 C.B ⟨dst,.buildSlice t len parts,type,pos,after,guard⟩) t len (parts.toList.map fun p=>(p.1,evf ef p.2))).run σ=some (v,u):=h;have hp:PartsR C.X inj σ w (parts.toList.map fun p=>(p.1,evf ef p.2)) (parts.map fun p=>(p.1,a.eval p.2)).toList:=by simpa using qjp (fun x=>hs.eval x) parts.toList
  obtain ⟨val,w',inj',h1,h2,h3,h4⟩:=qh2 (P:=C.P) (D:=C.D) hs.hr hp hr;obtain ⟨cs,e,h5⟩:=qof (P:=C.P) hs.hr hp hr;rw [h5] at h1;simp only [Result.ok.injEq] at h1;obtain ⟨rfl,rfl⟩:=h1;have hfr:Fr C.D w (w.alloc (.cells cs e)):=Fr.alloc w _ _;have hx0:=qcs h2 (fun l=>l == qe6 C.B ⟨dst,.buildSlice t len parts,type,pos,after,guard⟩) 9 v _ x h4 hv;have hx:AR C.X inj σ (w.alloc (.cells cs e)) (.p x) (Value.slice (some ⟨w.heap.size,0,none⟩) len len):=by
   refine PR.keep ⟨vf9 _,fun _ _ _=>rfl,fun b _ hx hn=>hx ?_⟩ x _ hx0;rcases hn with hn | hn
   ·exact .inl hn
   ·refine .inr ?_;obtain ⟨l,c,o,g1,g2,g3,g4⟩:=hn;have hw:∃g,σ (qe6 C.B ⟨dst,.buildSlice t len parts,type,pos,after,guard⟩)=.dead g∧u.map (·.1)=some (qe6 C.B ⟨dst,.buildSlice t len parts,type,pos,after,guard⟩):=by
     unfold qdv at hr;split at hr
     case h_2=>simp at hr
     split at hr
     case isFalse=>simp at hr
     obtain ⟨g,q1,_,q3⟩:=qrg hr;exact ⟨g,q1,by rw [q3];rfl⟩
    obtain ⟨g,q1,q2⟩:=hw;have hne:l≠qe6 C.B ⟨dst,.buildSlice t len parts,type,pos,after,guard⟩:=fun he=>by
     subst he;rw [q1] at g1;subst g1;cases g2
    have hu':upd σ u l=σ l:=qvp (by rw [q2];intro he;exact hne (by simpa using he.symm));have ho:=(h3.objs l).2;rw [hu',g1] at ho;refine ⟨l,c,o,by rw [hu',g1],g2,by simpa using hne,?_⟩;rw [(ho g2 rfl).1];exact g4
  have e':(parts.map fun p=>(p.1,a.eval p.2))=(parts.map fun (i,x)=>(i,a.eval x)):=rfl;rw [e'] at h5;have he:execOp a.eval ⟨dst,.buildSlice t len parts,type,pos,after,guard⟩=(do pure (Next.value (←Instr.buildSlice t len (parts.map fun (i,x)=>(i,a.eval x))))):=by
   simp only [execOp]
  exact qi2 he h5 (hnx _ _ inj (hs.put (u:=none) hd (hs.hr.fr hfr) hfr.ev hx))
 | @cloned f args ats k e sz by' g xs S hw ho hc hel hn hby hg =>
  have hf:=hs.eval f;have hargs:=qij (fun x=>hs.eval x) args.toList;obtain ⟨avs,havs⟩:∃avs,avs=[AV.p (.slc xs)]:=⟨_,rfl⟩;rw [←havs] at hc;have hnext:=hnx;have hk:HasBody C.P k:=S.body;have hcall:∃vs,(execOp a.eval o).run C.P w=.ok (.enter k vs.toArray) w∧ARs C.X inj σ w avs vs:=by
   obtain ⟨dst,op,type,pos,after,guard⟩:=o;simp only at ho;subst ho;unfold qcv at hc;have run:∀cap:Array Value,a.eval f=.func (.func k) #[] cap→(execOp a.eval ⟨dst,.call ⟨.value f,args,ats⟩,type,pos,after,guard⟩).run C.P w=.ok (.enter k (args.map a.eval++cap)) w:=by
    intro cap he;simp only [execOp,resolve,Deferred.ofValue,he,vgv,vgw,vgt,invoke];rw [hk];simp
   split at hc
   ·rename_i k' cs hev;simp only [vgr,vgs] at hc;obtain ⟨rfl,rfl⟩:=hc;rw [hev] at hf;obtain ⟨vs,h1,h2⟩:=hf;refine ⟨args.toList.map a.eval++vs,?_,hargs.append (qav.2 h2)⟩;rw [run vs.toArray h1];congr 2;apply vd3;simp
   ·rename_i k' cs hev;simp only [vgr,vgs] at hc;obtain ⟨rfl,rfl⟩:=hc;rw [hev] at hf;obtain ⟨vs,h1,h2⟩:=hf;refine ⟨args.toList.map a.eval++vs,?_,hargs.append h2⟩;rw [run vs.toArray h1];congr 2;apply vd3;simp
   ·cases hc
  obtain ⟨vs,hrun,hars⟩:=hcall;rw [havs] at hars;unfold Oper.wp;rw [hrun];simp only [Oper.upon];obtain ⟨v1,r1,rfl,ha1,rfl⟩:=hars;have ha2:PR (fun b=>C.X b∨F inj σ b) w (.slc xs) v1:=ha1;simp only [PR] at ha2;obtain ⟨a0,cap,us,rfl,hcap,hus,hat⟩:=ha2;have hus':ARs C.X inj σ w (xs.map AV.p) us:=qav.2 hus;obtain ⟨hsz,hone⟩:=qe0 hel hus';have hlen:us.length=xs.length:=by have:=hus'.length;simpa using this.symm
  have hfl:(flat us).length=xs.length * sz:=by rw [qa0 hsz,hlen]
  have fin:∀v w',World.ownsRow w' w.heap.size e sz v xs.length (flat us)→RowKit.Below w.heap.size w w'→next (a.put o.dst v) w':=by
   intro v w' hrow hbel;have hfz:∀a:Addr,a.block < w.heap.size→w'.frozen? a=w.frozen? a:=fun a ha=>by unfold World.frozen?;rw [hbel.block _ ha]
   obtain ⟨_,hrow⟩:=hrow;rcases hrow with ⟨rfl,hz⟩ | ⟨gb,cp,cur,rfl,hbase,hgb,q1,q2,q3,q4⟩
   ·have hxs:xs=[]:=vhf.1 hz;have hup:=hs.hr.update (D:=C.D) (w':=w') (l:=qe6 C.B o) (o:=.dead g) (o':=.arr e sz (g+1) (xs.map AV.p)) (x:=none) hg hbel.os hbel.tape hbel.output (fun hd=>absurd hd hw) hbel.size hfz
     (fun b hb _=>hbel.block b hb) (fun b1 c1 h1=>by cases h1) ⟨by simp [AO.gen],fun _ he=>by simp [AO.gen] at he⟩
    obtain ⟨hev,hhr⟩:=hup;refine hnext _ _ _ (hs.put (u:=some (qe6 C.B o,.arr e sz (g+1) (xs.map AV.p))) hd (hhr ⟨us,ARs.ev hev hs.hr.xlt _ us hus',hsz,hone,.inl ⟨by simp,by rw [hxs];rfl⟩⟩) hev ?_);refine ⟨⟨_,_,_,rfl⟩,fun oo hoo=>?_⟩;have:oo=.arr e sz (g+1) (xs.map AV.p):=by rw [←hoo];exact qcp _ _ _
    subst this;exact ⟨vf9 _,fun _ e1 sz1 es1 he=>by cases he;exact ⟨by simp,.inl ⟨by simp,rfl,rfl,hz⟩⟩⟩
   ·have hup:=hs.hr.update (D:=C.D) (w':=w') (l:=qe6 C.B o) (o:=.dead g) (o':=.arr e sz (g+1) (xs.map AV.p)) (x:=some (gb,cp)) hg hbel.os hbel.tape hbel.output (fun hd=>absurd hd hw) hbel.size hfz
     (fun b hb _=>hbel.block b hb) (fun b1 c1 h1=>by cases h1;exact .inl hbase) ⟨by simp [AO.gen],fun _ he=>by simp [AO.gen] at he⟩
    obtain ⟨hev,hhr⟩:=hup;have hH:=hhr ⟨us,ARs.ev hev hs.hr.xlt _ us hus',hsz,hone,.inr ⟨gb,cp,cur,by simp,fun hX=>by have:=hs.hr.xlt gb hX;omega,hgb,by simpa using q1,q2,q3,by simpa using q4⟩⟩;refine hnext _ _ _ (hs.put (u:=some (qe6 C.B o,.arr e sz (g+1) (xs.map AV.p))) hd hH hev ?_);have hown:q0n (fun q=>if q=qe6 C.B o then some (gb,cp) else inj q) (qg6 σ (qe6 C.B o) (.arr e sz (g+1) (xs.map AV.p))) (qe6 C.B o) (g+1) 0 xs.length (.slice (some ⟨gb,0,none⟩) xs.length cp):=qgb (qcp _ _ _) (if_pos rfl) (by simp) q1;exact hown
  rcases hat with rfl | ⟨b,off,sz',rfl,hsz2,hone2,hrow⟩
  ·have hx0:xs.length=0:=by rw [←hlen];rfl
   cases a0 with
   | none =>
    refine (S.nil _ _ w).mono ?_;rintro e' w' ⟨rfl,rfl⟩;exact fin _ _ (by rw [hx0];exact ⟨by simp [flat],.inl ⟨rfl,rfl⟩⟩) (RowKit.Below.refl _ _)
   | some ad =>
    rw [hx0];refine (S.zero ad _ w).mono ?_;rintro e' w' ⟨v,rfl,h1,h2⟩;exact fin _ _ (by rw [hx0];exact h1) h2
  ·obtain ⟨_,_,hcell⟩:=hrow;refine (S.ptr b off _ _ (flat us) w hfl hn hby hcell hone).mono ?_;rintro e' w' ⟨v,rfl,h1,h2⟩;exact fin _ _ h1 h2
 | @ext v u rs h=>exact h C.X _ _ (fun _ _=>rfl) (fun _ _=>rfl) hs.hr (qi4 hs.ev) (fun x=>hs.eval x) fun val w' inj' h1 h2 h3=>hnx _ _ _ (hs.put hd h1 h2 h3)
def qh4 (ops:Array Oper) (ef:Nat→AV) (o:Oper):Option Bool :=
 match o.guard with
 | none=>some true
 | some (j,want)=>match (ops[j]?).bind (·.dst) with
  | some d=>(match ef d with | .p (.bool b)=>some (b == want) | .p (.tup [])=>some false | _=>none)
  | none=>none
theorem qh5 (ops:Array Oper) (env:Env) (o:Oper):qh4 ops env.get o=qal ops env o:=rfl
theorem qe2 {C:Cx} {ef:Nat→AV} {σ:Nat→AO} {inj:Inj} {a:Act} {w:World} {ops:Array Oper} {o:Oper} {b:Bool} (h:SRf C ef σ inj a w) (hg:qh4 ops ef o=some b) :
  Region.wanted o (yielded ops a.tmps)=b:=by
 unfold qh4 at hg;unfold Region.wanted;split at hg
 ·rename_i hgd;simp only [vgr] at hg;subst hg;rw [hgd]
 ·rename_i j want hgd;rw [hgd];split at hg
  ·rename_i d hd;have he:=h.env d;split at hg
   ·rename_i b' hb;simp only [vgr] at hg;subst hg;rw [hb] at he;simp only [AR,PR] at he;have ht:a.tmps[d]?=some (.bool b'):=by
     cases hx:a.tmps[d]? with
     | none=>simp [hx,undef] at he
     | some x=>simp [hx] at he;rw [he]
    simp only [yielded,hd,vgl,ht];cases b' <;> cases want <;> rfl
   ·rename_i hb;simp only [vgr] at hg;subst hg;rw [hb] at he;obtain ⟨vs,he,_⟩:=he;have ht:a.tmps[d]?=none∨a.tmps[d]?=some (.tuple vs.toArray):=by
     cases hx:a.tmps[d]? with
     | none=>exact .inl rfl
     | some x=>simp [hx] at he;exact .inr (by rw [he])
    rcases ht with ht | ht <;> simp only [yielded,hd,vgl,ht] <;> cases want <;> rfl
   ·cases hg
  ·cases hg
def qvq (C:Cx) (ops:Array Oper) (o:Oper) (ef:Nat→AV) (σ:Nat→AO) (e:Evt):Prop :=
 qbc C.N o=true∧((qh4 ops ef o=some true∧Does C o (evf ef) σ e)∨(qh4 ops ef o=some false∧e=⟨.p (.tup []),none,[]⟩))
theorem qh6 {ops:Array Oper} {o:Oper} {t:Tmp} (h:Operand.tmp t∈o.op.operands):t∈o.looksAt ops:=by
 unfold Oper.looksAt;refine vfl.2 (.inl ?_);exact List.mem_filterMap.2 ⟨.tmp t,by simpa using h,rfl⟩
theorem qvq.frame {C:Cx} {ops:Array Oper} {o:Oper} {ef ef':Nat→AV} {σ τ:Nat→AO} {e:Evt} (h:qvq C ops o ef σ e) (hs:∀t∈o.looksAt ops,ef' t=ef t) (hσ:∀l∈e.reads,τ l=σ l) :
  qvq C ops o ef' τ e:=by
 obtain ⟨hd,h⟩:=h;have hg:qh4 ops ef' o=qh4 ops ef o:=by
  unfold qh4;split
  ·rfl
  ·rename_i j want hgd;split
   ·rename_i d hdd;rw [hs d (by unfold Oper.looksAt;refine vfl.2 (.inr ?_);rw [hgd];simp [hdd])]
   ·rfl
 refine ⟨hd,?_⟩;rw [hg];rcases h with ⟨h1,h2⟩ | h
 ·refine .inl ⟨h1,h2.frame (fun x hx=>?_) hσ⟩;cases x with
  | tmp t=>exact (hs t (qh6 hx)).symm
  | _=>rfl
 ·exact .inr h
def apD (ops:Array Oper):List Evt→Nat→(Nat→Bool)→(Nat→AV)×(Nat→AO)→(Nat→AV)×(Nat→AO)
 | [],_,_,s=>s
 | e :: es,i,D,s=>apD ops es (i+1) D (if D i then (qg7 s.1 ((ops[i]?).bind (·.dst)) e.v,upd s.2 e.u) else s)
def qog (C:Cx) (ops:Array Oper):List Evt→Nat→(Nat→AV)×(Nat→AO)→Prop
 | [],i,_=>ops.size≤i
 | e :: es,i,s=>(∃o,ops[i]?=some o∧qvq C ops o s.1 s.2 e)∧qog C ops es (i+1) (qg7 s.1 ((ops[i]?).bind (·.dst)) e.v,upd s.2 e.u)
theorem qrq (ops:Array Oper) (t:Nat):∀(es:List Evt) (i:Nat) (D D':Nat→Bool) (s s':(Nat→AV)×(Nat→AO)),s.1 t=s'.1 t →
  (∀j,i≤j→j < i+es.length→(ops[j]?).bind (·.dst)=some t→D j=D' j)→(apD ops es i D s).1 t=(apD ops es i D' s').1 t
 | [],_,_,_,_,_,h,_=>h
 | e :: es,i,D,D',s,s',h,hD=>by
  simp only [apD];refine qrq ops t es (i+1) D D' _ _ ?_ fun j h1 h2 h3=>hD j (by omega) (by simp only [vhe];omega) h3
  by_cases hd:(ops[i]?).bind (·.dst)=some t
  ·rw [hD i (vf9 _) (by simp) hd];split
   ·simp [qg7,hd]
   ·exact h
  ·split <;> split <;> simp [qg7,hd,h]
theorem qqk {σ:Nat→AO} {u:Upd} {l:Nat} (h:u.map (·.1)≠some l):upd σ u l=σ l:=by
 cases u with
 | none=>rfl
 | some p=>simp only [upd,qg6];rw [if_neg (fun e=>h (by simp [e]))]
theorem q1o {σ τ:Nat→AO} {u:Upd} {l:Nat} (h:u.map (·.1)=some l):upd σ u l=upd τ u l:=by
 cases u with
 | none=>cases h
 | some p=>simp only [vgq,vgr] at h;simp [upd,qg6,h]
theorem qvr (ops:Array Oper) (l:Nat):∀(es:List Evt) (i:Nat) (D D':Nat→Bool) (s s':(Nat→AV)×(Nat→AO)),s.2 l=s'.2 l →
  (∀j e,i≤j→es[j - i]?=some e→e.wr=some l→D j=D' j)→(apD ops es i D s).2 l=(apD ops es i D' s').2 l
 | [],_,_,_,_,_,h,_=>h
 | e :: es,i,D,D',s,s',h,hD=>by
  simp only [apD];refine qvr ops l es (i+1) D D' _ _ ?_ fun j e' h1 h2 h3=>hD j e' (by omega) (by rw [show j - i=(j - (i+1))+1 by omega];simpa using h2) h3
  by_cases hd:e.wr=some l
  ·rw [hD i e (vf9 _) (by simp) hd];split
   ·exact q1o hd
   ·exact h
  ·have hd':e.u.map (·.1)≠some l:=hd;split <;> split <;> simp only [qqk hd',h]
theorem qrr (ops:Array Oper) (i:Nat) (ei:Evt):∀(es:List Evt) (k:Nat) (D:Nat→Bool) (s:(Nat→AV)×(Nat→AO)),k≤i→es[i - k]?=some ei→D i=false →
  (∀j e,i < j→es[j - k]?=some e→D j=true→((ops[j]?).bind (·.dst)=none∨(ops[j]?).bind (·.dst)≠(ops[i]?).bind (·.dst))∧(e.wr=none∨e.wr≠ei.wr)) →
  apD ops es k (fun j=>j == i || D j) s=(qg7 (apD ops es k D s).1 ((ops[i]?).bind (·.dst)) ei.v,upd (apD ops es k D s).2 ei.u)
 | [],k,D,s,_,h,_,_=>by simp at h
 | e :: es,k,D,s,hk,h,hi,hj=>by
  by_cases hki:k=i
  ·subst hki;simp only [vib,vhc,vgr] at h;subst h;simp only [apD,beq_self_eq_true,Bool.true_or,if_true,hi,vei,if_false]
   -- the rest commutes
   have comm:∀(es':List Evt) (m:Nat) (D1 D2:Nat→Bool) (s:(Nat→AV)×(Nat→AO)),(∀j,m≤j→D1 j=D2 j) →
     (∀j e',m≤j→es'[j - m]?=some e'→D2 j=true→((ops[j]?).bind (·.dst)=none∨(ops[j]?).bind (·.dst)≠(ops[k]?).bind (·.dst))∧(e'.wr=none∨e'.wr≠e.wr)) →
     apD ops es' m D1 (qg7 s.1 ((ops[k]?).bind (·.dst)) e.v,upd s.2 e.u)=(qg7 (apD ops es' m D2 s).1 ((ops[k]?).bind (·.dst)) e.v,upd (apD ops es' m D2 s).2 e.u):=by
    intro es'
    induction es' with
    | nil=>intro m D1 D2 s _ _;rfl
    | cons e' es' ih =>
     intro m D1 D2 s hD hw;simp only [apD,hD m (vf9 _)];cases hm:D2 m with
     | false =>
      simp only [vei,if_false];exact ih (m+1) D1 D2 s (fun j hj=>hD j (by omega)) fun j e1 h1 h2 h3=>hw j e1 (by omega) (by rw [show j - m=(j - (m+1))+1 by omega];simpa using h2) h3
     | true =>
      simp only [if_true];obtain ⟨w1,w2⟩:=hw m e' (vf9 _) (by simp) hm;have e1:qg7 (qg7 s.1 ((ops[k]?).bind (·.dst)) e.v) ((ops[m]?).bind (·.dst)) e'.v=qg7 (qg7 s.1 ((ops[m]?).bind (·.dst)) e'.v) ((ops[k]?).bind (·.dst)) e.v:=by
       funext t;simp only [qg7];by_cases c1:(ops[m]?).bind (·.dst)=some t
       ·by_cases c2:(ops[k]?).bind (·.dst)=some t
        ·rcases w1 with w1 | w1
         ·rw [c1] at w1;cases w1
         ·rw [c1,c2] at w1;exact (w1 rfl).elim
        ·simp [c1,c2]
       ·simp [c1]
      have e2:upd (upd s.2 e.u) e'.u=upd (upd s.2 e'.u) e.u:=by
       funext l;by_cases c1:e'.wr=some l
       ·by_cases c2:e.wr=some l
        ·rcases w2 with w2 | w2
         ·rw [c1] at w2;cases w2
         ·rw [c1,c2] at w2;exact (w2 rfl).elim
        ·have c2':e.u.map (·.1)≠some l:=c2;rw [qqk (σ:=upd s.2 e'.u) c2'];exact q1o c1
       ·have c1':e'.u.map (·.1)≠some l:=c1;rw [qqk (σ:=upd s.2 e.u) c1'];by_cases c2:e.wr=some l
        ·exact q1o c2
        ·have c2':e.u.map (·.1)≠some l:=c2;rw [qqk c2',qqk c2',qqk c1']
      rw [e1,e2];exact ih (m+1) D1 D2 (qg7 s.1 ((ops[m]?).bind (·.dst)) e'.v,upd s.2 e'.u) (fun j hj=>hD j (by omega)) fun j e1 h1 h2 h3=>hw j e1 (by omega) (by rw [show j - m=(j - (m+1))+1 by omega];simpa using h2) h3
   exact comm es (k+1) _ D s (fun j hj=>by have:(j == k)=false:=(by simp;omega);simp [this]) fun j e' h1 h2 h3=>hj j e' (by omega) (by rw [show j - k=(j - (k+1))+1 by omega];simpa using h2) h3
  ·have hb:(k == i)=false:=by simpa using hki
   simp only [apD,hb,Bool.false_or];exact qrr ops i ei es (k+1) D _ (by omega) (by rw [show i - k=(i - (k+1))+1 by omega] at h;simpa using h) hi fun j e' h1 h2 h3=>hj j e' h1 (by rw [show j - k=(j - (k+1))+1 by omega];simpa using h2) h3
def qca (ops:Array Oper) (j:Nat):List Nat :=
 match ops[j]? with
 | some o=>(o.after.toList.filter (Region.binds .any)).map (·.on)
 | none=>[]
def ancM (A:Nat) (l:List Nat):Nat:=l.foldl (fun m p=>m ||| ((1 <<< p) ||| (A >>> (256 * p)))) 0
def qxf (ops:Array Oper):Nat→Nat
 | 0=>0
 | k+1=>qxf ops k ||| ((ancM (qxf ops k) (qca ops k) % 2 ^ 256) <<< (256 * k))
def qpw (A j i:Nat):Bool:=decide (i < 256) && A.testBit (256 * j+i)
inductive Reach (ops:Array Oper):Nat→Nat→Prop
 | one {j i} (h:i∈qca ops j):Reach ops j i
 | more {j m i} (h:m∈qca ops j) (h2:Reach ops m i):Reach ops j i
theorem qxg (A i:Nat):∀(l:List Nat) (m:Nat),(l.foldl (fun m p=>m ||| ((1 <<< p) ||| (A >>> (256 * p)))) m).testBit i=true→m.testBit i=true∨∃p∈l,p=i∨A.testBit (256 * p+i)=true
 | [],m,h=>.inl h
 | p :: l,m,h=>by
  rw [List.foldl_cons] at h;rcases qxg A i l _ h with h | ⟨q,h1,h2⟩
  ·simp only [Nat.testBit_or,vid,Nat.testBit_shiftRight,vel,veg,decide_eq_true_eq] at h;rcases h with h | ⟨h1,h2⟩ | h
   ·exact .inl h
   ·refine .inr ⟨p,by simp,.inl ?_⟩;have:i - p=0:=by
     apply Classical.byContradiction;intro hn;have hz:Nat.testBit 1 (i - p)=false:=Nat.testBit_lt_two_pow (Nat.one_lt_two_pow hn);rw [hz] at h2;cases h2
    omega
   ·exact .inr ⟨p,by simp,.inr h⟩
  ·exact .inr ⟨q,by simp [h1],h2⟩
theorem qml (ops:Array Oper):∀(k j i:Nat),i < 256→(qxf ops k).testBit (256 * j+i)=true→Reach ops j i
 | 0,j,i,_,h=>by simp [qxf] at h
 | k+1,j,i,hi,h=>by
  simp only [qxf,Nat.testBit_or,vid,Nat.testBit_mod_two_pow,vel,veg,decide_eq_true_eq] at h;rcases h with h | ⟨h1,h2,h3⟩
  ·exact qml ops k j i hi h
  ·have hjk:j=k:=by omega
   subst hjk;rw [show 256 * j+i - 256 * j=i by omega] at h3;rcases qxg _ i _ 0 h3 with h | ⟨p,q1,q2⟩
   ·simp at h
   ·rcases q2 with rfl | q2
    ·exact .one q1
    ·exact .more q1 (qml ops j p i hi q2)
theorem qgu {ops:Array Oper} {k j i:Nat} (h:qpw (qxf ops k) j i=true):Reach ops j i:=by
 simp only [qpw,veg,decide_eq_true_eq] at h;exact qml ops k j i h.1 h.2
def qql (ops:Array Oper) (D:Nat→Bool):Prop:=∀j,D j=true→∀i∈qca ops j,D i=true
theorem Reach.closed {ops:Array Oper} {D:Nat→Bool} (hc:qql ops D) {j i:Nat} (h:Reach ops j i):D j=true→D i=true:=by
 induction h with
 | one h=>exact fun hj=>hc _ hj _ h
 | more h _ ih=>exact fun hj=>ih (hc _ hj _ h)
theorem Reach.ready {ops:Array Oper} {D:Nat→Bool} (hc:qql ops D) {j i:Nat} (hp:∀i∈qca ops j,D i=true) (h:Reach ops j i):D i=true:=by
 cases h with
 | one h=>exact hp _ h
 | more h h2=>exact h2.closed hc (hp _ h)
def qee (ops:Array Oper):Bool :=
  let A:=qxf ops ops.size
  (vft ops.size).all fun j=>(qca ops j).all (fun m=>decide (m < j)) && (vft j).all fun i=>qpw A j i ||
    (match ops[i]?,ops[j]? with
     | some x,some y=>x.apart ops y
     | _,_=>true)
def evOk (x y:Evt):Prop:=(∀l,x.wr=some l→l ∉ y.reads∧y.wr≠some l)∧(∀l,y.wr=some l→l ∉ x.reads)
def qzi (x y:Evt):Bool :=
  (match x.wr with
   | some l=>!y.reads.contains l && y.wr != some l
   | none=>true) && (match y.wr with
   | some l=>!x.reads.contains l
   | none=>true)
theorem qzj {x y:Evt} (h:qzi x y=true):evOk x y:=by
 constructor
 ·intro l hl;simp [qzi,hl] at h;exact h.1
 ·intro l hl;simp [qzi,hl] at h;exact h.2
def qmm (ops:Array Oper) (es:List Evt):Bool :=
  let A:=qxf ops ops.size
  (vft ops.size).all fun j=>(vft j).all fun i=>qpw A j i ||
    (match es[i]?,es[j]? with
     | some x,some y=>qzi x y
     | _,_=>true)
theorem qc5 {ops:Array Oper} (h:qee ops=true) {i j:Nat} {x y:Oper} (hij:i < j) (hx:ops[i]?=some x) (hy:ops[j]?=some y):Reach ops j i∨x.apart ops y=true:=by
 have hj:=(vd5.1 hy).1;simp only [qee,vg4,vhv,veg,vel] at h;rcases (h j hj).2 i hij with h | h
 ·exact .inl (qgu h)
 ·rw [hx,hy] at h;exact .inr h
theorem qe9 {ops:Array Oper} (h:qee ops=true) {j:Nat} (hj:j < ops.size):∀m∈qca ops j,m < j:=by
 simp only [qee,vg4,vhv,veg,vel,decide_eq_true_eq] at h;exact (h j hj).1
theorem qgn {ops:Array Oper} {es:List Evt} (h:qmm ops es=true) {i j:Nat} {x y:Evt} (hij:i < j) (hj:j < ops.size) (hx:es[i]?=some x) (hy:es[j]?=some y):Reach ops j i∨evOk x y:=by
 simp only [qmm,vg4,vhv,vel] at h;rcases h j hj i hij with h | h
 ·exact .inl (qgu h)
 ·rw [hx,hy] at h;exact .inr (qzj h)
theorem qog.at {C:Cx} {ops:Array Oper}:∀{es:List Evt} {i:Nat} {s:(Nat→AV)×(Nat→AO)},qog C ops es i s→∀j e,i≤j→es[j - i]?=some e →
  ∃o,ops[j]?=some o∧qvq C ops o (apD ops es i (fun m=>decide (m < j)) s).1 (apD ops es i (fun m=>decide (m < j)) s).2 e
 | [],i,s,h,j,e,hj,he=>by simp at he
 | e0 :: es,i,s,h,j,e,hj,he=>by
  obtain ⟨⟨o,ho,hst⟩,hrest⟩:=h;have skip:∀(es':List Evt) (m:Nat) (s':(Nat→AV)×(Nat→AO)),j≤m→apD ops es' m (fun m=>decide (m < j)) s'=s':=by
   intro es'
   induction es' with
   | nil=>intro m s' _;rfl
   | cons x xs ih=>intro m s' hm;simp only [apD];rw [if_neg (by simp;omega)];exact ih (m+1) s' (by omega)
  by_cases hji:j=i
  ·subst hji;simp only [vib,vhc,vgr] at he;subst he;rw [skip _ _ _ (vf9 _)];exact ⟨o,ho,hst⟩
  ·have hlt:i < j:=by omega
   have:=qog.at hrest j e (by omega) (by rw [show j - i=(j - (i+1))+1 by omega] at he;simpa using he);simp only [apD];rw [if_pos (by simpa using hlt)];exact this
theorem qog.len {C:Cx} {ops:Array Oper}:∀{es:List Evt} {i:Nat} {s:(Nat→AV)×(Nat→AO)},qog C ops es i s→i≤ops.size→i+es.length=ops.size
 | [],i,s,h,hi=>by simp only [qog] at h;simp only [vfe];omega
 | e0 :: es,i,s,h,hi=>by
  obtain ⟨⟨o,ho,hst⟩,hrest⟩:=h;have:=qog.len hrest (vd5.1 ho).1;simp only [vhe];omega
theorem qkh (ops:Array Oper):∀(es:List Evt) (i:Nat) (D D':Nat→Bool) (s:(Nat→AV)×(Nat→AO)),(∀j,i≤j→j < i+es.length→D j=D' j)→apD ops es i D s=apD ops es i D' s
 | [],_,_,_,_,_=>rfl
 | e :: es,i,D,D',s,h=>by
  simp only [apD];rw [h i (vf9 _) (by simp)];exact qkh ops es (i+1) D D' _ fun j h1 h2=>h j (by omega) (by simp only [vhe];omega)
theorem q4u {C:Cx} {ops:Array Oper} {es:List Evt} {s0:(Nat→AV)×(Nat→AO)} {Q:Exit→Act→World→Prop} (hch:qog C ops es 0 s0) (hsl:qee ops=true) (hev:qmm ops es=true)
  (hQ:∀a w inj,SRf C (apD ops es 0 (fun _=>true) s0).1 (apD ops es 0 (fun _=>true) s0).2 inj a w→Q .normal a w) :
  ∀(fuel:Nat) (listed:Array Bool) (a:Act) (w:World) (inj:Inj),listed.size=ops.size→qql ops (fun j=>listed.getD j false)→(listed.toList.filter (! ·)).length≤fuel →
   SRf C (apD ops es 0 (fun j=>listed.getD j false) s0).1 (apD ops es 0 (fun j=>listed.getD j false) s0).2 inj a w→wpAny C.P .any ops Q fuel listed a w:=by
 have hlen:es.length=ops.size:=by have:=hch.len (vie _);omega
 -- nothing ready means all is listed
 have done:∀(listed:Array Bool) (a:Act) (w:World) (inj:Inj),listed.size=ops.size→Region.ready .any ops listed=[] →
   SRf C (apD ops es 0 (fun j=>listed.getD j false) s0).1 (apD ops es 0 (fun j=>listed.getD j false) s0).2 inj a w→Q .normal a w:=by
  intro listed a w inj hsz hr hs;have all:∀j,j < ops.size→listed.getD j false=true:=by
   intro j
   induction j using vh8 with
   | _ j ih =>
    intro hj;by_cases hl:listed.getD j false=true
    ·exact hl
    ·have:j∈Region.ready .any ops listed:=by
      refine mem_ready.2 ⟨getD_in (by omega) (by simpa using hl),ops[j],by simp [hj],fun e he hb=>?_⟩;have hp:e.on∈qca ops j:=by
       unfold qca;simp only [hj,getElem?_pos];exact vht.2 ⟨e,vhs.2 ⟨by simpa using he,hb⟩,rfl⟩
      have hlt:=qe9 hsl hj _ hp;exact ih _ hlt (by omega)
     rw [hr] at this;cases this
  rw [qkh ops es 0 _ (fun _=>true) s0 fun j _ h2=>all j (by omega)] at hs;exact hQ a w inj hs
 intro fuel
 induction fuel with
 | zero =>
  intro listed a w inj hsz hcl hf hs;have hr:Region.ready .any ops listed=[]:=by
   cases hrd:Region.ready .any ops listed with
   | nil=>rfl
   | cons i _ =>
    exfalso;have hi:i∈Region.ready .any ops listed:=by rw [hrd];exact vhr
    obtain ⟨h0,o,ho,_⟩:=mem_ready.1 hi;have hlt:=(vd5.1 ho).1;have hm:listed[i]'(by omega)∈listed.toList:=by simp
    have h0':listed[i]'(by omega)=false:=by simpa [show i < listed.size by omega] using h0
    have:listed[i]'(by omega)∈listed.toList.filter (! ·):=vhs.2 ⟨hm,by rw [h0'];rfl⟩;have:0 < (listed.toList.filter (! ·)).length:=vhh this;omega
  exact ⟨hr,done listed a w inj hsz hr hs⟩
 | succ fuel ih =>
  intro listed a w inj hsz hcl hf hs;refine ⟨fun hr=>done listed a w inj hsz hr hs,fun i hi=>?_⟩;obtain ⟨h0,o,ho,hpre⟩:=mem_ready.1 hi;have hlt:=(vd5.1 ho).1;have hoi:ops[i]=o:=(vd5.1 ho).2;have h0f:listed.getD i false=false:=getD_both h0;have hpre':∀m∈qca ops i,listed.getD m false=true:=by
   intro m hm;unfold qca at hm;rw [ho] at hm;obtain ⟨e,he,rfl⟩:=vht.1 hm;obtain ⟨he1,he2⟩:=vhs.1 he;exact hpre e (by simpa using he1) he2
  obtain ⟨e,he⟩:∃e,es[i]?=some e:=⟨es[i],by simp [hlen,hlt]⟩;obtain ⟨o',ho',hst⟩:=hch.at i e (vie _) (by simpa using he);have:o'=o:=vih (ho'.symm.trans ho);subst this
  -- which are listed,compared with the text's order
  have cmpSlot:∀t∈o'.looksAt ops,(apD ops es 0 (fun j=>listed.getD j false) s0).1 t=(apD ops es 0 (fun m=>decide (m < i)) s0).1 t:=by
   intro t ht;refine qrq ops t es 0 _ _ s0 s0 rfl fun j _ hj hd=>?_
   obtain ⟨oj,hoj⟩:∃oj,ops[j]?=some oj:=⟨ops[j]'(by omega),by simp [show j < ops.size by omega]⟩;rw [hoj] at hd;simp only [vgl] at hd;rcases vh6 j i with hji | hji | hji
   ·simp only [hji,decide_true];rcases qc5 hsl hji hoj ho with hr | hr
    ·exact hr.ready (D:=fun j=>listed.getD j false) hcl hpre'
    ·exact absurd ht ((Oper.apart_spec hr).1 t hd)
   ·subst hji;simpa using h0f
   ·have:decide (j < i)=false:=by simp;omega
    rw [this];rcases qc5 hsl hji ho hoj with hr | hr
    ·by_cases hl:listed.getD j false=true
     ·have:=hr.closed (D:=fun j=>listed.getD j false) hcl hl;simp only [h0f] at this;cases this
     ·simpa using hl
    ·exact absurd ht ((Oper.apart_spec hr).2.2 t hd)
  have cmpLoc:∀l∈e.reads,(apD ops es 0 (fun j=>listed.getD j false) s0).2 l=(apD ops es 0 (fun m=>decide (m < i)) s0).2 l:=by
   intro l hl;refine qvr ops l es 0 _ _ s0 s0 rfl fun j ej _ hej hw=>?_
   simp only [vgj] at hej;have hjn:j < ops.size:=by have:=(ve5.1 hej).1;omega
   rcases vh6 j i with hji | hji | hji
   ·simp only [hji,decide_true];rcases qgn hev hji hlt hej he with hr | hr
    ·exact hr.ready (D:=fun j=>listed.getD j false) hcl hpre'
    ·exact absurd hl (hr.1 l hw).1
   ·subst hji;simpa using h0f
   ·have:decide (j < i)=false:=by simp;omega
    rw [this];rcases qgn hev hji hjn he hej with hr | hr
    ·by_cases hl':listed.getD j false=true
     ·have:=hr.closed (D:=fun j=>listed.getD j false) hcl hl';simp only [h0f] at this;cases this
     ·simpa using hl'
    ·exact absurd hl (hr.2 l hw)
  have hst':=hst.frame cmpSlot cmpLoc;obtain ⟨hdst,hst'⟩:=hst';have hjoin:=qrr ops i e es 0 (fun j=>listed.getD j false) s0 (vie _) (by simpa using he) h0f (by
   intro j ej hij hej hD;simp only [vgj] at hej;have hjn:j < ops.size:=by have:=(ve5.1 hej).1;omega
   obtain ⟨oj,hoj⟩:∃oj,ops[j]?=some oj:=⟨ops[j]'(by omega),by simp [show j < ops.size by omega]⟩;have nr:¬Reach ops j i:=fun hr=>by
    have:=hr.closed (D:=fun j=>listed.getD j false) hcl hD;simp only [h0f] at this;cases this
   constructor
   ·rcases qc5 hsl hij ho hoj with hr | hr
    ·exact (nr hr).elim
    ·rw [hoj,ho];simp only [vgl];cases hd:oj.dst with
     | none=>exact .inl rfl
     | some d =>
      refine .inr fun hh=>?_
      exact (Oper.apart_spec hr).2.1 d hh.symm hd
   ·rcases qgn hev hij hjn he hej with hr | hr
    ·exact (nr hr).elim
    ·cases hw:ej.wr with
     | none=>exact .inl rfl
     | some l =>
      refine .inr fun hh=>?_
      exact (hr.1 l hh.symm).2 hw)
  have hD':apD ops es 0 (fun j=>(listed.setIfInBounds i true).getD j false) s0=apD ops es 0 (fun j=>j == i || listed.getD j false) s0:=by
   refine qkh ops es 0 _ _ s0 fun j _ hj=>?_
   by_cases hji:i=j
   ·subst hji;simp [hsz,hlt]
   ·rw [getD_set_ne false hji];have:(j == i)=false:=by simp;omega
    simp [this]
  have next:∀a' w' inj',SRf C (qg7 (apD ops es 0 (fun j=>listed.getD j false) s0).1 o'.dst e.v) (upd (apD ops es 0 (fun j=>listed.getD j false) s0).2 e.u) inj' a' w' →
    wpAny C.P .any ops Q fuel (listed.setIfInBounds i true) a' w':=by
   intro a' w' inj' hs';refine ih (listed.setIfInBounds i true) a' w' inj' (by simp [hsz]) ?_ ?_ ?_
   ·intro j hj m hm;by_cases hji:i=j
    ·subst hji;exact getD_set_true (hpre' m hm)
    ·have hj':(listed.setIfInBounds i true).getD j false=true:=hj;rw [getD_set_ne false hji] at hj';exact getD_set_true (hcl j hj' m hm)
   ·have hli:listed[i]?=some false:=by
     have:i < listed.size:=by omega
     simp [this] at h0f ⊢;exact h0f
    have key:∀(l:List Bool) (i:Nat),l[i]?=some false→((l.set i true).filter (! ·)).length+1=(l.filter (! ·)).length:=by
     intro l
     induction l with
     | nil=>intro i h;simp at h
     | cons b l ihl =>
      intro i h;cases i with
      | zero=>simp at h;subst h;simp
      | succ i =>
       simp only [vhb] at h;have:=ihl i h;cases b <;> simp [this] <;> omega
    have:=key listed.toList i (by simpa using hli);rw [vgx];omega
   ·rw [hD',hjoin,ho];exact hs'
  unfold wpOp;rw [ho];simp only;rcases hst' with ⟨hg,hdo⟩ | ⟨hg,rfl⟩
  ·rw [qe2 hs hg];simp only [if_true];exact .inl (hdo.sound hs hdst next)
  ·rw [qe2 hs hg];simp only [vei,if_false];exact next _ _ inj (hs.put (u:=none) hdst hs.hr (Ev.refl _ _ _ _) ⟨[],rfl,rfl⟩)
def qlg {α β:Type} (f:α→L β) (σ:Nat→AO):Option α→List Nat
 | some a=>(f a).reads σ
 | none=>[]
theorem qpx {α β:Type} (f:α→L β) (σ:Nat→AO) (a:α):qlg f σ (some a)=(f a).reads σ:=rfl
theorem qpy {α β:Type} (f:α→L β) (σ:Nat→AO):qlg f σ none=[]:=rfl
theorem L.reads_ret {α:Type} (a:α) (σ):(L.ret a).reads σ=[]:=rfl
theorem L.reads_fail {α:Type} (σ):(L.fail:L α).reads σ=[]:=rfl
theorem L.reads_look {α:Type} (l k σ):(L.look l k:L α).reads σ=l :: (k (σ l)).reads σ:=rfl
theorem L.reads_bind {α β:Type} (m:L α) (f:α→L β) (σ):(m.bind f).reads σ=m.reads σ++qlg f σ (m.run σ):=by
 induction m with
 | ret a=>rfl
 | look l k ih=>simp only [L.bind,L.reads,L.run,ih (σ l),vg7]
 | fail=>rfl
theorem L.reads_ofOpt {α:Type} (o:Option α) (σ):(L.ofOpt o).reads σ=[]:=by cases o <;> rfl
theorem qtg (m:L AV) (σ):(qar m).reads σ=m.reads σ:=by
 unfold qar;rw [L.reads_bind];cases m.run σ <;> simp [qlg,L.reads]
variable {C:Cx} {Q:Exit→St→Prop}
inductive DCh (C:Cx) (ops:Array Oper):List Oper→St→List Evt→St→Prop
 | nil {st}:DCh C ops [] st [] st
 | cons {o rest st e es st'} (hd:qbc C.N o=true) (h:(qal ops st.env o=some true∧Does C o (ev st.env) st.sig e)∨(qal ops st.env o=some false∧e=⟨.p (.tup []),none,[]⟩))
   (hr:DCh C ops rest ⟨qd0 st.env o.dst e.v,qle st.heap e.u⟩ es st'):DCh C ops (o :: rest) st (e :: es) st'
theorem qgc (env:Env) (d:Option Tmp) (v:AV):Env.get (qd0 env d v)=qg7 env.get d v:=by
 funext t;cases d with
 | none=>simp [qd0,qg7]
 | some d=>simp [qd0,qg7,Env.get]
theorem DCh.chain {ops:Array Oper} {l:List Oper} {st:St} {es:List Evt} {st':St} (h:DCh C ops l st es st'):∀i,(∀j,ops[i+j]?=l[j]?) →
  qog C ops es i (st.env.get,st.sig)∧apD ops es i (fun _=>true) (st.env.get,st.sig)=(st'.env.get,st'.sig):=by
 induction h with
 | nil =>
  intro i hi;refine ⟨?_,rfl⟩;have:=hi 0;simp only [vf5,vhd] at this;simp only [qog];exact Array.getElem?_eq_none_iff.1 this
 | @cons o rest st e es st' hd h hr ih =>
  intro i hi;have h0:ops[i]?=some o:=by have:=hi 0;simpa using this
  obtain ⟨h1,h2⟩:=ih (i+1) (fun j=>by have:=hi (j+1);rw [show i+1+j=i+(j+1) by omega,this];simp);have e1:((qg7 st.env.get ((ops[i]?).bind (·.dst)) e.v,upd st.sig e.u):(Nat→AV)×(Nat→AO))=((⟨qd0 st.env o.dst e.v,qle st.heap e.u⟩:St).env.get,(⟨qd0 st.env o.dst e.v,qle st.heap e.u⟩:St).sig):=by
   rw [h0];simp only [vgl,qgc,St.sig,qi3]
  refine ⟨⟨⟨o,h0,hd,?_⟩,?_⟩,?_⟩
  ·rw [qmk,qh5];exact h
  ·rw [e1];exact h1
  ·simp only [apD,if_true];rw [e1];exact h2
theorem q1p {id:Nat} {l:List Oper} {st st':St} {es:List Evt} (hm:C.P.follows .mixedOrders=true) (hch:DCh C l.toArray l st es st') (hsl:qee l.toArray=true) (hev:qmm l.toArray es=true)
  (h:Q .normal st'):AWp C (.region id l.toArray true) Q st:=by
 intro inj a w hs;obtain ⟨h1,h2⟩:=hch.chain 0 (fun j=>by simp);refine wp_region_any hm ?_;have hf:Fr C.D w { w with drawn:=w.drawn+1 }:=⟨rfl,rfl,rfl,fun _=>vga _,vf9 _,fun _ _=>rfl,fun _ _=>rfl⟩;have hE:Ev C.D C.X inj st.sig w inj st.sig { w with drawn:=w.drawn+1 }:=hf.ev;refine q4u h1 hsl hev ?_ _ _ _ _ inj (by simp) ?_ ?_ ?_
 ·intro a' w' inj' hs';rw [h2] at hs';exact ⟨st',inj',⟨hs'.env,hs'.size,hs'.defers,hs'.hr,hs'.ev⟩,h⟩
 ·intro j hj;simp only [getD_replicate_false] at hj;cases hj
 ·refine vgb (vhg _ _) (by simp)
 ·rw [qkh l.toArray es 0 _ (fun _=>false) _ fun j _ _=>getD_replicate_false _ _];have hnone:∀(es:List Evt) (i:Nat) (s:(Nat→AV)×(Nat→AO)),apD l.toArray es i (fun _=>false) s=s:=by
   intro es
   induction es with
   | nil=>intro i s;rfl
   | cons e es ih=>intro i s;simp only [apD,vei,if_false];exact ih (i+1) s
  rw [hnone];exact ⟨fun t=>AR.ev hE hs.hr.xlt _ _ (hs.env t),hs.size,hs.defers,hs.hr.fr hf,hs.ev.trans hE⟩
def qoh (m:L (AV×Upd)) (σ:Nat→AO):Option Bool→List Nat
 | some true=>m.reads σ
 | _=>[]
theorem qth (m:L (AV×Upd)) (σ):qoh m σ (some true)=m.reads σ:=rfl
theorem qrs (m:L (AV×Upd)) (σ):qoh m σ (some false)=[]:=rfl
def qf0 (P:Program) (N B:Nat) (ops:Array Oper):List Oper→St→List Evt→List Evt×St×List Oper
 | [],st,acc=>(acc,st,[])
 | o :: rest,st,acc =>
  match go1 P N B ops o st with
  | .on v u=>qf0 P N B ops rest ⟨qd0 st.env o.dst v,qle st.heap u⟩ (⟨v,u,qoh (aop P B (ev st.env) o) st.sig (qal ops st.env o)⟩ :: acc)
  | .stop=>(acc,st,o :: rest)
def qqm (P:Program) (N B:Nat) (ops:Array Oper) (o:Oper) (rest:List Oper) (st:St) (acc:List Evt):Go1→List Evt×St×List Oper
 | .on v u=>qf0 P N B ops rest ⟨qd0 st.env o.dst v,qle st.heap u⟩ (⟨v,u,qoh (aop P B (ev st.env) o) st.sig (qal ops st.env o)⟩ :: acc)
 | .stop=>(acc,st,o :: rest)
theorem qvs (P:Program) (N B:Nat) (ops:Array Oper) (st:St) (acc:List Evt):qf0 P N B ops [] st acc=(acc,st,[]):=rfl
theorem qi8 (P:Program) (N B:Nat) (ops:Array Oper) (o:Oper) (rest:List Oper) (st:St) (acc:List Evt):qf0 P N B ops (o :: rest) st acc=qqm P N B ops o rest st acc (go1 P N B ops o st):=by
 simp only [qf0,qqm]
theorem qoi (P:Program) (N B:Nat) (ops:Array Oper) (o:Oper) (rest:List Oper) (st:St) (acc:List Evt) (v:AV) (u:Upd):qqm P N B ops o rest st acc (.on v u) =
  qf0 P N B ops rest ⟨qd0 st.env o.dst v,qle st.heap u⟩ (⟨v,u,qoh (aop P B (ev st.env) o) (qag st.heap) (qal ops st.env o)⟩ :: acc):=rfl
theorem qvt (P:Program) (N B:Nat) (ops:Array Oper) (o:Oper) (rest:List Oper) (st:St) (acc:List Evt):qqm P N B ops o rest st acc .stop=(acc,st,o :: rest):=rfl
def DGo (C:Cx) (ops:Array Oper) (l:List Oper) (st:St) (acc:List Evt) (K:List Evt→St→Prop):Prop :=
 ∃es st',DCh C ops l st es st'∧K (acc.reverse++es) st'
theorem DGo.one {ops:Array Oper} {o:Oper} {rest:List Oper} {st:St} {acc:List Evt} {K:List Evt→St→Prop} {e:Evt} (hd:qbc C.N o=true)
  (h:(qal ops st.env o=some true∧Does C o (ev st.env) st.sig e)∨(qal ops st.env o=some false∧e=⟨.p (.tup []),none,[]⟩))
  (hr:DGo C ops rest ⟨qd0 st.env o.dst e.v,qle st.heap e.u⟩ (e :: acc) K):DGo C ops (o :: rest) st acc K:=by
 obtain ⟨es,st',h1,h2⟩:=hr;refine ⟨e :: es,st',.cons hd h h1,?_⟩;simpa using h2
theorem DGo.run {ops:Array Oper} {K:List Evt→St→Prop}:∀(l:List Oper) (st:St) (acc:List Evt) {acc':List Evt} {st':St} {l':List Oper},qf0 C.P C.N C.B ops l st acc=(acc',st',l')→DGo C ops l' st' acc' K→DGo C ops l st acc K
 | [],st,acc,acc',st',l',hr,h=>by
  simp only [qf0,vgs] at hr;obtain ⟨rfl,rfl,rfl⟩:=hr;exact h
 | o :: rest,st,acc,acc',st',l',hr,h=>by
  rw [qi8] at hr;cases hg:go1 C.P C.N C.B ops o st with
  | stop =>
   rw [hg] at hr;simp only [qqm,vgs] at hr;obtain ⟨rfl,rfl,rfl⟩:=hr;exact h
  | on v u =>
   rw [hg,qoi] at hr;have hrec:=DGo.run rest _ _ hr h;unfold go1 at hg;split at hg
   case isFalse=>cases hg
   rename_i hd;split at hg
   ·rename_i hgd;split at hg
    ·rename_i v' u' hrun;cases hg;refine DGo.one hd (.inl ⟨hgd,.op hrun⟩) ?_;rw [hgd] at hrec;exact hrec
    ·cases hg
   ·rename_i hgd;cases hg;refine DGo.one hd (.inr ⟨hgd,rfl⟩) ?_;rw [hgd] at hrec;exact hrec
   ·cases hg
theorem qgd (env:Env) (f:Operand) (args:List Operand):qcv (ev env) f args=qcg env f args:=by
 unfold qcv qcg;rfl
theorem DGo.call {ops:Array Oper} {K:List Evt→St→Prop} {d:Option Tmp} {f:Operand} {args:Array Operand} {ats:Array TypeId} {ty:TypeId} {pos:String} {af:Array Edge} {rest:List Oper} {st:St} {acc:List Evt}
  {k:FuncId} {avs:List AV} {pargs:List PV} {r:PV} {rs:List Nat}
  (hp:q4j C.D C.P k pargs r) (hd:qbc C.N ⟨d,.call ⟨.value f,args,ats⟩,ty,pos,af,none⟩=true) (hk:HasBody C.P k)
  (hc:qcg st.env f args.toList=some (k,avs)) (hv:(qai (qcn (fun _=>true) 9) avs).run (qag st.heap)=some pargs) (hrs:(qai (qcn (fun _=>true) 9) avs).reads (qag st.heap)=rs)
  (hfl:(qie avs).isSome=true∨r.flat=true)
  (h:DGo C ops rest ⟨qd0 st.env d (.p r),st.heap⟩ (⟨.p r,none,rs⟩ :: acc) K):DGo C ops (⟨d,.call ⟨.value f,args,ats⟩,ty,pos,af,none⟩ :: rest) st acc K:=by
 subst hrs;refine DGo.one hd (.inl ⟨rfl,.call hp rfl hk (by rw [qgd];exact hc) hv hfl⟩) ?_;exact h
theorem DGo.built {ops:Array Oper} {K:List Evt→St→Prop} {o:Oper} {t:TypeId} {len:Nat} {parts:Array (Nat×Operand)} {rest:List Oper} {st st':St} {acc:List Evt} {v:AV} {u:Upd} {x:PV} {k:Nat} {r1 r2:List Nat}
  (ho:o.op=.buildSlice t len parts) (hg:qal ops st.env o=some true) (hd:qbc C.N o=true) (hk:qe6 C.B o=k)
  (hr:(aop C.P C.B (ev st.env) o).run (qag st.heap)=some (v,u)) (h1:(aop C.P C.B (ev st.env) o).reads (qag st.heap)=r1)
  (hv:(qcn (fun l=>l == k) 9 v).run (qag (qle st.heap u))=some x) (h2:(qcn (fun l=>l == k) 9 v).reads (qag (qle st.heap u))=r2)
  (hs:(⟨qd0 st.env o.dst (.p x),st.heap⟩:St)=st') (h:DGo C ops rest st' (⟨.p x,none,r1++r2⟩ :: acc) K):DGo C ops (o :: rest) st acc K:=by
 subst hk;subst h1;subst h2;subst hs;rw [qi3] at hv;refine DGo.one hd (.inl ⟨hg,.built ho hr hv⟩) ?_;rw [qi3] at h;exact h
theorem DGo.cloned {ops:Array Oper} {K:List Evt→St→Prop} {o:Oper} {f:Operand} {args:Array Operand} {ats:Array TypeId} {rest:List Oper} {st st':St} {acc:List Evt} {c:FuncId} {e sz by' g k n:Nat} {xs:List PV}
  (S:Cln C.P c e sz by') (hw:¬C.D) (ho:o.op=.call ⟨.value f,args,ats⟩) (hgd:qal ops st.env o=some true) (hd:qbc C.N o=true) (hk:qe6 C.B o=k)
  (hc:qcg st.env f args.toList=some (c,[.p (.slc xs)])) (hel:(xs.map AV.p).all (qdg sz)=true) (hn:xs.length≤maxLen) (hby:xs.length * by'≤140737488355328) (hg:qag st.heap k=.dead g) (hl:xs.length=n)
  (hs:(⟨qd0 st.env o.dst (.own k (g+1) 0 n),q0w st.heap k (.arr e sz (g+1) (xs.map AV.p))⟩:St)=st')
  (h:DGo C ops rest st' (⟨.own k (g+1) 0 n,some (k,.arr e sz (g+1) (xs.map AV.p)),[k]⟩ :: acc) K):DGo C ops (o :: rest) st acc K:=by
 subst hk;subst hs;subst hl;refine DGo.one hd (.inl ⟨hgd,.cloned S hw ho (by rw [qgd];exact hc) hel hn hby hg⟩) ?_;exact h
theorem DGo.ext {ops:Array Oper} {K:List Evt→St→Prop} {o:Oper} {rest:List Oper} {st st':St} {acc:List Evt} {v:AV} {u:Upd} {rs:List Nat}
  (hO:OpU C.D C.P o (ev st.env) (qag st.heap) v u rs) (hgd:qal ops st.env o=some true) (hd:qbc C.N o=true) (hs:(⟨qd0 st.env o.dst v,qle st.heap u⟩:St)=st')
  (h:DGo C ops rest st' (⟨v,u,rs⟩ :: acc) K):DGo C ops (o :: rest) st acc K:=by
 subst hs;exact DGo.one hd (.inl ⟨hgd,.ext hO⟩) h
theorem DGo.done {ops:Array Oper} {K:List Evt→St→Prop} {st:St} {acc:List Evt} (h:K acc.reverse st):DGo C ops [] st acc K:=⟨[],st,.nil,by simpa using h⟩
attribute [go_sem] qpx qpy L.reads_ret L.reads_fail L.reads_look L.reads_bind L.reads_ofOpt qtg qth qrs qvs qi8 qoi qvt
end Go.Ab
namespace Go.Ab
variable {D:Prop}
open Go
def vci:Op→Bool
 | .call ⟨.value _,_,_⟩=>true
 | _=>false
def vcj:List Oper→List Oper→List Oper×List Oper
 | [],acc=>(acc.reverse,[])
 | o :: r,acc=>match o.guard.isNone && !vci o.op with
  | true=>vcj r (o :: acc)
  | false=>(acc.reverse,o :: r)
def spl (l:List Oper):List Oper×List Oper:=vcj l []
theorem qoj:∀l acc:List Oper,(vcj l acc).1++(vcj l acc).2=acc.reverse++l
 | [],acc=>rfl
 | o :: r,acc=>by
  simp only [vcj];split
  ·rw [qoj r];simp
  ·rfl
theorem qqn (l:List Oper):(spl l).1++(spl l).2=l:=qoj l []
variable {C:Cx} {Q:Exit→St→Prop} {st:St}
theorem qge {ops:Array Oper} {l2:List Oper} {st':St} (h:AL C ops l2 Q st'):∀(l:List Oper) (st:St),qir C.P C.N C.B ops l st=(st',[])→AL C ops (l++l2) Q st
 | [],st,hr=>by
  simp only [qir,vgs,and_true] at hr;subst hr;exact h
 | o :: rest,st,hr=>by
  rw [qn8] at hr;cases hg:go1 C.P C.N C.B ops o st with
  | stop=>rw [hg] at hr;simp [q0x] at hr
  | on v u =>
   rw [hg,qxc] at hr;unfold go1 at hg;split at hg
   case isFalse=>cases hg
   rename_i hd;split at hg
   ·rename_i hgd;split at hg
    ·rename_i v' u' hrun;cases hg;exact vbr hgd hd (qxb C.B o (ev st.env)) hrun (qge h rest _ hr)
    ·cases hg
   ·rename_i hgd;cases hg;exact qvi hgd hd (qge h rest _ hr)
   ·cases hg
theorem qrt {ops:Array Oper} {o:Oper} {l l1 l2:List Oper} {st':St} (hs:spl l=(o :: l1,l2)) (hr:qir C.P C.N C.B ops (o :: l1) st=(st',[])) (h:AL C ops l2 Q st'):AL C ops l Q st:=by
 have e:=qqn l;rw [hs] at e;rw [←e];exact qge h _ _ hr
theorem AL_gt {ops:Array Oper} {o:Oper} {rest:List Oper} {v:AV} {u:Upd} (hg:qal ops st.env o=some true) (hd:qbc C.N o=true)
  (hr:(aop C.P C.B (ev st.env) o).run (qag st.heap)=some (v,u)) (h:AL C ops rest Q ⟨qd0 st.env o.dst v,qle st.heap u⟩):AL C ops (o :: rest) Q st :=
 vbr hg hd (qxb C.B o (ev st.env)) hr h
def qok (ops:Array Oper) (o:Oper):Option Nat:=o.guard.bind fun g=>(ops[g.1]?).bind (·.dst)
theorem qti (env:Env) {d:Nat} {v:AV} (h:env.get d=v):Env.get ((d,v) :: env)=env.get:=by
 funext t;simp only [Env.get];split
 ·rename_i e;subst e;exact h.symm
 ·rfl
theorem SR.known {inj:Inj} {a:Act} {w:World} {env:Env} {hp:List (Nat×AO)} {d:Nat} {v:AV} (h:env.get d=v) (hs:SR C ⟨env,hp⟩ inj a w):SR C ⟨(d,v) :: env,hp⟩ inj a w :=
 ⟨fun t=>by have:=hs.env t;rw [qti env h];exact this,hs.size,hs.defers,hs.hr,hs.ev⟩
theorem DGo.append {ops:Array Oper} {K:List Evt→St→Prop} {l2:List Oper} {acc':List Evt} {st':St} (h:DGo C ops l2 st' acc' K):∀(l:List Oper) (st:St) (acc:List Evt),qf0 C.P C.N C.B ops l st acc=(acc',st',[])→DGo C ops (l++l2) st acc K
 | [],st,acc,hr=>by
  simp only [qf0,vgs,and_true] at hr;obtain ⟨rfl,rfl⟩:=hr;exact h
 | o :: rest,st,acc,hr=>by
  rw [qi8] at hr;cases hg:go1 C.P C.N C.B ops o st with
  | stop=>rw [hg] at hr;simp [qqm] at hr
  | on v u =>
   rw [hg,qoi] at hr;have hrec:=DGo.append h rest _ _ hr;unfold go1 at hg;split at hg
   case isFalse=>cases hg
   rename_i hd;split at hg
   ·rename_i hgd;split at hg
    ·rename_i v' u' hrun;cases hg;refine DGo.one hd (.inl ⟨hgd,.op hrun⟩) ?_;rw [hgd] at hrec;exact hrec
    ·cases hg
   ·rename_i hgd;cases hg;refine DGo.one hd (.inr ⟨hgd,rfl⟩) ?_;rw [hgd] at hrec;exact hrec
   ·cases hg
theorem DGo.upto {ops:Array Oper} {K:List Evt→St→Prop} {o:Oper} {l l1 l2:List Oper} {acc acc':List Evt} {st':St} (hs:spl l=(o :: l1,l2)) (hr:qf0 C.P C.N C.B ops (o :: l1) st acc=(acc',st',[]))
  (h:DGo C ops l2 st' acc' K):DGo C ops l st acc K:=by
 have e:=qqn l;rw [hs] at e;rw [←e];exact DGo.append h _ _ _ hr
theorem DGo.gt {ops:Array Oper} {K:List Evt→St→Prop} {o:Oper} {rest:List Oper} {acc:List Evt} {v:AV} {u:Upd} {rs:List Nat} (hg:qal ops st.env o=some true) (hd:qbc C.N o=true)
  (hr:(aop C.P C.B (ev st.env) o).run (qag st.heap)=some (v,u)) (hrs:(aop C.P C.B (ev st.env) o).reads (qag st.heap)=rs) (h:DGo C ops rest ⟨qd0 st.env o.dst v,qle st.heap u⟩ (⟨v,u,rs⟩ :: acc) K):DGo C ops (o :: rest) st acc K:=by
 subst hrs;exact DGo.one hd (.inl ⟨hg,.op hr⟩) h
theorem DGo.gf {ops:Array Oper} {K:List Evt→St→Prop} {o:Oper} {rest:List Oper} {acc:List Evt} (hg:qal ops st.env o=some false) (hd:qbc C.N o=true)
  (h:DGo C ops rest ⟨qd0 st.env o.dst (.p (.tup [])),st.heap⟩ (⟨.p (.tup []),none,[]⟩ :: acc) K):DGo C ops (o :: rest) st acc K :=
 DGo.one hd (.inr ⟨hg,rfl⟩) h
theorem Does.env {o:Oper} {ρ:Operand→AV} {ρ':Operand→AV} {σ:Nat→AO} {e:Evt} (h:Does C o ρ σ e) (he:ρ'=ρ):Does C o ρ' σ e:=he ▸ h
theorem DCh.known {ops:Array Oper} {l:List Oper} {es:List Evt} {st st' st1:St} (h:DCh C ops l st1 es st') (hg:st1.env.get=st.env.get) (hh:st1.heap=st.heap):∃st'',DCh C ops l st es st''∧st'.env.get=st''.env.get∧st'.heap=st''.heap:=by
 induction h generalizing st with
 | nil=>exact ⟨st,.nil,hg,hh⟩
 | @cons o rest st1 e es st' hd h hr ih =>
  obtain ⟨st'',h1,h2⟩:=ih (st:=⟨qd0 st.env o.dst e.v,qle st.heap e.u⟩) (by simp only [qgc,hg]) (by simp only [hh]);have e1:ev st1.env=ev st.env:=by rw [←qmk,←qmk,hg]
  have e2:qal ops st1.env o=qal ops st.env o:=by rw [←qh5,←qh5,hg]
  refine ⟨st'',.cons hd ?_ h1,h2⟩;rw [e1,e2,show st1.sig=st.sig from congrArg qag hh] at h;exact h
def DK (C:Cx) (l:Array Oper) (Q:Exit→St→Prop):List Evt→St→Prop:=fun es st'=>qmm l es=true∧∀inj a w,SR C st' inj a w→q4h C Q .normal a w
theorem DK.congr {l:Array Oper} (es:List Evt) (s s':St) (h1:s.env.get=s'.env.get) (h2:s.heap=s'.heap) (h:DK C l Q es s):DK C l Q es s':=by
 refine ⟨h.1,fun inj a w hs=>h.2 inj a w ?_⟩;obtain ⟨e,hp⟩:=s;obtain ⟨e',hp'⟩:=s';simp only at h1 h2;subst h2;exact ⟨fun t=>by show AR _ _ _ _ (e.get t) _;rw [h1];exact hs.env t,hs.size,hs.defers,hs.hr,hs.ev⟩
theorem qpz {id:Nat} {l:List Oper} (hm:C.P.follows .mixedOrders=true) (hsl:qee l.toArray=true) (h:DGo C l.toArray l st [] (DK C l.toArray Q)):AWp C (.region id l.toArray true) Q st:=by
 obtain ⟨es,st',h1,h2⟩:=h;have h3:AWp C (.region id l.toArray true) (fun e s=>e=.normal∧s=st') st:=q1p hm h1 hsl (by simpa using h2.1) ⟨rfl,rfl⟩;intro inj a w hs;refine wp_mono (h3 inj a w hs) ?_;rintro e a' w' ⟨s,i,k1,rfl,rfl⟩;exact h2.2 i a' w' k1
theorem DGo.fin {l:Array Oper} {acc:List Evt} (hev:qmm l acc.reverse=true) (h:Q .normal st):DGo C l [] st acc (DK C l Q):=DGo.done ⟨hev,fun inj a w hs=>⟨st,inj,hs,h⟩⟩
structure Con (D:Prop) (P:Program) (k:FuncId) (args:List PV) (r:PV):Prop where
 body:HasBody P k
 pure:q4j D P k args r
theorem Con.of {P:Program} {k:FuncId} {args:List PV} {r r':PV} (h:Con D P k args r) (e:r=r'):Con D P k args r':=e ▸ h
theorem vck {ops:Array Oper} {o:Oper} {rest:List Oper} {f:Operand} {args:Array Operand} {ats:Array TypeId} {k:FuncId} {avs:List AV} {pargs:List PV} {r:PV}
  (ho:o.op=.call ⟨.value f,args,ats⟩) (hg:qal ops st.env o=some true) (hd:qbc C.N o=true)
  (hc:qcg st.env f args.toList=some (k,avs)) (hv:(qai (qcn (fun _=>true) 9) avs).run (qag st.heap)=some pargs) (hp:Con C.D C.P k pargs r) (hfl:(qie avs).isSome=true∨r.flat=true)
  (h:AL C ops rest Q ⟨qd0 st.env o.dst (.p r),st.heap⟩):AL C ops (o :: rest) Q st :=
 q7y hp.pure ho hg hd hp.body hc hv hfl h
theorem DGo.con {ops:Array Oper} {K:List Evt→St→Prop} {o:Oper} {f:Operand} {args:Array Operand} {ats:Array TypeId} {rest:List Oper} {acc:List Evt}
  {k:FuncId} {avs:List AV} {pargs:List PV} {r:PV} {rs:List Nat}
  (ho:o.op=.call ⟨.value f,args,ats⟩) (hg:qal ops st.env o=some true) (hd:qbc C.N o=true)
  (hc:qcg st.env f args.toList=some (k,avs)) (hv:(qai (qcn (fun _=>true) 9) avs).run (qag st.heap)=some pargs) (hrs:(qai (qcn (fun _=>true) 9) avs).reads (qag st.heap)=rs)
  (hp:Con C.D C.P k pargs r) (hfl:(qie avs).isSome=true∨r.flat=true)
  (h:DGo C ops rest ⟨qd0 st.env o.dst (.p r),st.heap⟩ (⟨.p r,none,rs⟩ :: acc) K):DGo C ops (o :: rest) st acc K:=by
 subst hrs;exact DGo.one hd (.inl ⟨hg,.call hp.pure ho hp.body (by rw [qgd];exact hc) hv hfl⟩) h
theorem qru {P:Program} {fn:Func} {r:PV} {s:St} {v:AV} (h1:q0y P s fn.results.toList=some v) (h2:(qcn (fun _=>true) 9 v).run s.sig=some r):vbf P fn r .ret s:=⟨.inr rfl,v,h1,h2⟩
theorem qcb {ops:Array Oper} {env:Env} {o:Oper} (h:o.guard=none):qal ops env o=some true:=by
 unfold qal;rw [h]
theorem qzk {ops:Array Oper} {env:Env} {o:Oper} {j d:Nat} {b:Bool} (h:o.guard=some (j,b)) (hd:qok ops o=some d) (hv:env.get d=.p (.bool b)):qal ops env o=some true:=by
 unfold qok at hd;unfold qal;rw [h] at hd ⊢;simp only [vgl] at hd;simp only [hd,hv,beq_self_eq_true]
theorem vcl {ops:Array Oper} {o:Oper} {rest:List Oper} {st':St} (hg:qal ops st.env o=some true) (hd:qbc C.N o=true)
  (hr:((aop C.P C.B (ev st.env) o).run (qag st.heap)).map (fun vu=>(⟨qd0 st.env o.dst vu.1,qle st.heap vu.2⟩:St))=some st') (h:AL C ops rest Q st'):AL C ops (o :: rest) Q st:=by
 cases hx:(aop C.P C.B (ev st.env) o).run (qag st.heap) with
 | none=>rw [hx] at hr;cases hr
 | some vu =>
  rw [hx] at hr;simp only [vgq,vgr] at hr;subst hr;exact AL_gt hg hd hx h
theorem DGo.gt' {ops:Array Oper} {K:List Evt→St→Prop} {o:Oper} {rest:List Oper} {acc:List Evt} {st':St} {e:Evt} (hg:qal ops st.env o=some true) (hd:qbc C.N o=true)
  (hr:((aop C.P C.B (ev st.env) o).run (qag st.heap)).map (fun vu=>((⟨vu.1,vu.2,(aop C.P C.B (ev st.env) o).reads (qag st.heap)⟩:Evt),(⟨qd0 st.env o.dst vu.1,qle st.heap vu.2⟩:St)))=some (e,st'))
  (h:DGo C ops rest st' (e :: acc) K):DGo C ops (o :: rest) st acc K:=by
 cases hx:(aop C.P C.B (ev st.env) o).run (qag st.heap) with
 | none=>rw [hx] at hr;cases hr
 | some vu =>
  rw [hx] at hr;simp only [vgq,vgr,vgs] at hr;obtain ⟨rfl,rfl⟩:=hr;exact DGo.gt hg hd hx rfl h
theorem q82 {ops:Array Oper} {o:Oper} {rest:List Oper} {f:Operand} {args:Array Operand} {ats:Array TypeId} {k:FuncId} {avs:List AV} {pargs:List PV} {r:PV} {st':St}
  (ho:o.op=.call ⟨.value f,args,ats⟩) (hg:qal ops st.env o=some true) (hd:qbc C.N o=true)
  (hc:qcg st.env f args.toList=some (k,avs)) (hv:(qai (qcn (fun _=>true) 9) avs).run (qag st.heap)=some pargs) (hp:Con C.D C.P k pargs r) (hfl:(qie avs).isSome=true∨r.flat=true)
  (hs:(⟨qd0 st.env o.dst (.p r),st.heap⟩:St)=st') (h:AL C ops rest Q st'):AL C ops (o :: rest) Q st:=by
 subst hs;exact vck ho hg hd hc hv hp hfl h
theorem DGo.con' {ops:Array Oper} {K:List Evt→St→Prop} {o:Oper} {f:Operand} {args:Array Operand} {ats:Array TypeId} {rest:List Oper} {acc:List Evt}
  {k:FuncId} {avs:List AV} {pargs:List PV} {r:PV} {rs:List Nat} {st':St}
  (ho:o.op=.call ⟨.value f,args,ats⟩) (hg:qal ops st.env o=some true) (hd:qbc C.N o=true)
  (hc:qcg st.env f args.toList=some (k,avs)) (hv:(qai (qcn (fun _=>true) 9) avs).run (qag st.heap)=some pargs) (hrs:(qai (qcn (fun _=>true) 9) avs).reads (qag st.heap)=rs)
  (hp:Con C.D C.P k pargs r) (hfl:(qie avs).isSome=true∨r.flat=true)
  (hs:(⟨qd0 st.env o.dst (.p r),st.heap⟩:St)=st') (h:DGo C ops rest st' (⟨.p r,none,rs⟩ :: acc) K):DGo C ops (o :: rest) st acc K:=by
 subst hs;exact DGo.con ho hg hd hc hv hrs hp hfl h
theorem qdw {ops:Array Oper} {env:Env} {o:Oper} {j d:Nat} {b b':Bool} (h:o.guard=some (j,b)) (hd:qok ops o=some d) (hv:env.get d=.p (.bool b')) (hx:b'=b):qal ops env o=some true :=
 qzk h hd (by rw [hv,hx])
end Go.Ab
namespace Go.Ab
open Go
variable {C:Cx} {Q:Exit→St→Prop} {st:St}
theorem q83 {ops:Array Oper} {d:Option Tmp} {k:FuncId} {x y:Operand} {ats:Array TypeId} {ty:TypeId} {pos:String} {af:Array Edge} {rest:List Oper} {a b:List UInt8} {r:Int}
  (hk:∀w,(callFunc k #[.string ⟨a.toArray⟩,.string ⟨b.toArray⟩]).run C.P w=.ok (.value (.int .i64 r)) w)
  (hx:ev st.env x=.p (.str a)) (hy:ev st.env y=.p (.str b)) (hd:qbc C.N ⟨d,.call ⟨.value (.func k),#[x,y],ats⟩,ty,pos,af,none⟩=true)
  (h:AL C ops rest Q ⟨qd0 st.env d (.p (.int .i64 r)),st.heap⟩):AL C ops (⟨d,.call ⟨.value (.func k),#[x,y],ats⟩,ty,pos,af,none⟩ :: rest) Q st:=by
 intro inj act w hs;simp only [wpList,qb9 (ops:=ops) (o:=⟨d,.call ⟨.value (.func k),#[x,y],ats⟩,ty,pos,af,none⟩) hs (qcb rfl),if_true];refine .inl ?_;have e1:=hs.eval x;have e2:=hs.eval y;rw [hx] at e1;rw [hy] at e2;simp only [AR,PR] at e1 e2;have hrun:(execOp act.eval ⟨d,.call ⟨.value (.func k),#[x,y],ats⟩,ty,pos,af,none⟩).run C.P w=.ok (.value (.int .i64 r)) w:=by
  simp only [execOp,resolve,Deferred.ofValue,Act.eval,vgv,vgw,vgt,invoke];have:(#[]++#[x,y].map act.eval++#[]:Array Value)=#[.string ⟨a.toArray⟩,.string ⟨b.toArray⟩]:=by simp [e1,e2]
  rw [show (#[]++#[x,y].map act.eval++#[]:Array Value)=#[.string ⟨a.toArray⟩,.string ⟨b.toArray⟩] from this,hk]
 unfold Oper.wp;rw [hrun];simp only [Oper.upon];exact h inj _ _ (hs.put (u:=none) hd hs.hr (Ev.refl _ _ _ _) rfl)
@[go_sem] theorem range0:vft 0=[]:=rfl
@[go_sem] theorem range1:vft 1=[0]:=rfl
@[go_sem] theorem range2:vft 2=[0,1]:=rfl
@[go_sem] theorem range3:vft 3=[0,1,2]:=rfl
@[go_sem] theorem range4:vft 4=[0,1,2,3]:=rfl
@[go_sem] theorem range5:vft 5=[0,1,2,3,4]:=rfl
@[go_sem] theorem range6:vft 6=[0,1,2,3,4,5]:=rfl
@[go_sem] theorem range7:vft 7=[0,1,2,3,4,5,6]:=rfl
@[go_sem] theorem range8:vft 8=[0,1,2,3,4,5,6,7]:=rfl
@[go_sem] theorem range9:vft 9=[0,1,2,3,4,5,6,7,8]:=rfl
@[go_sem] theorem range10:vft 10=[0,1,2,3,4,5,6,7,8,9]:=rfl
@[go_sem] theorem range11:vft 11=[0,1,2,3,4,5,6,7,8,9,10]:=rfl
@[go_sem] theorem range12:vft 12=[0,1,2,3,4,5,6,7,8,9,10,11]:=rfl
@[go_sem] theorem range13:vft 13=[0,1,2,3,4,5,6,7,8,9,10,11,12]:=rfl
@[go_sem] theorem range14:vft 14=[0,1,2,3,4,5,6,7,8,9,10,11,12,13]:=rfl
@[go_sem] theorem range15:vft 15=[0,1,2,3,4,5,6,7,8,9,10,11,12,13,14]:=rfl
@[go_sem] theorem range16:vft 16=[0,1,2,3,4,5,6,7,8,9,10,11,12,13,14,15]:=rfl
end Go.Ab
namespace Go.Ab
open Go
inductive LS (σ τ:Type) where
 | next (s:σ)
 | done (t:τ)
section
variable {σ τ:Type}
def qki (B:σ→Option (LS σ τ)):Nat→σ→Option τ
 | 0,_=>none
 | n+1,s=>match B s with
  | some (.next s')=>qki B n s'
  | some (.done t)=>some t
  | none=>none
theorem qqo (B:σ→Option (LS σ τ)):∀(n:Nat) (s:σ) (t:τ),qki B n s=some t→qki B (n+1) s=some t
 | 0,_,_,h=>by cases h
 | n+1,s,t,h=>by
  rw [qki] at h ⊢;split
  ·rename_i s' hs;rw [hs] at h;exact qqo B n s' t h
  ·rename_i t' hs;rw [hs] at h;exact h
  ·rename_i hs;rw [hs] at h;cases h
theorem qxh {B:σ→Option (LS σ τ)} {n m:Nat} {s:σ} {t:τ} (h:qki B n s=some t) (hm:n≤m):qki B m s=some t:=by
 induction hm with
 | refl=>exact h
 | step _ ih=>exact qqo B _ s t ih
open Classical in
def qas (B:σ→Option (LS σ τ)) (s:σ):Option τ:=if h:∃t n,qki B n s=some t then some h.choose else none
theorem qvu {B:σ→Option (LS σ τ)} {n:Nat} {s:σ} {t:τ} (h:qki B n s=some t):qas B s=some t:=by
 have hx:∃t n,qki B n s=some t:=⟨t,n,h⟩;unfold qas;rw [dif_pos hx];obtain ⟨m,hm⟩:=hx.choose_spec;have h1:=qxh h (Nat.le_max_left n m);have h2:=qxh hm (Nat.le_max_right n m);rw [h1] at h2;exact h2.symm
theorem qol {B:σ→Option (LS σ τ)} {s:σ} {t:τ} (h:qas B s=some t):∃n,qki B n s=some t:=by
 unfold qas at h;split at h
 ·rename_i hx;obtain ⟨m,hm⟩:=hx.choose_spec;simp only [vgr] at h;exact ⟨m,by rw [←h];exact hm⟩
 ·cases h
theorem qd1 {B:σ→Option (LS σ τ)} {s s':σ} (h:B s=some (.next s')):qas B s=qas B s':=by
 cases h1:qas B s' with
 | some t =>
  obtain ⟨n,hn⟩:=qol h1;exact qvu (n:=n+1) (by rw [qki,h];exact hn)
 | none =>
  cases h2:qas B s with
  | none=>rfl
  | some t =>
   obtain ⟨n,hn⟩:=qol h2;cases n with
   | zero=>cases hn
   | succ n =>
    rw [qki,h] at hn;rw [qvu hn] at h1;cases h1
theorem qbp {B:σ→Option (LS σ τ)} {s:σ} {t:τ} (h:B s=some (.done t)):qas B s=some t:=qvu (n:=1) (by rw [qki,h])
end
variable {C:Cx} {Q:Exit→St→Prop} {st:St}
def Wk (C:Cx) (Q:Exit→St→Prop) (e:Exit) (s:St):Prop:=Q e s∨∃s',Le C s s'∧Q e s'
theorem Wk.now {e:Exit} {s:St} (h:Q e s):Wk C Q e s:=.inl h
theorem Wk.to {e:Exit} {s s':St} (h:Le C s s') (h':Q e s'):Wk C Q e s:=.inr ⟨s',h,h'⟩
theorem qxi {c:Code} {T:Exit→St→Prop} (h:AWp C c T st) (hq:∀e s,T e s→Wk C Q e s):AWp C c Q st:=fun inj a w hs =>
 wp_mono (h inj a w hs) fun e a w ⟨s,i,h1,h2⟩=>by
  rcases hq e s h2 with h3 | ⟨s',h3,h4⟩
  ·exact ⟨s,i,h1,h3⟩
  ·exact ⟨s',_,h3.sr h1,h4⟩
theorem q4v {x y:Code} {T:Exit→St→Prop} (h:AWp C x T st) (hq:∀e s,T e s→Wk C (qm8 (fun s=>AWp C y Q s) Q) e s):AWp C (.seq x y) Q st :=
 qik (qxi h hq)
def LP {σ τ:Type} (C:Cx) (S:σ→St) (T:τ→Exit→St→Prop):LS σ τ→Exit→St→Prop
 | .next s',e,st'=>e=.normal∧Le C st' (S s')
 | .done t,e,st'=>T t e st'
theorem qzl {σ τ:Type} {c:Code} {B:σ→Option (LS σ τ)} {s0:σ} {t:τ} (S:σ→St) (T:τ→Exit→St→Prop) (hn:∀t s,¬T t .normal s) (hL:qas B s0=some t) (h0:Le C st (S s0))
  (round:∀s x,B s=some x→AWp C c (LP C S T x) (S s)) (post:∀e s,T t e s→Wk C Q e s):AWp C (.loop c) Q st:=by
 refine qxi (T:=T t) ?_ post;obtain ⟨n,hN⟩:=qol hL;refine q02 h0 (q4i (fun (g:Nat×σ) s=>qki B g.1 g.2=some t∧s=S g.2) (fun g=>g.1) (n,s0) ⟨hN,rfl⟩ ?_);rintro ⟨k,s⟩ st' ⟨hk,rfl⟩;simp only at hk ⊢;cases k with
 | zero=>cases hk
 | succ k =>
  rw [qki] at hk;cases hB:B s with
  | none=>rw [hB] at hk;cases hk
  | some x =>
   rw [hB] at hk;intro inj a w hs;refine wp_mono (round s x hB inj a w hs) ?_;rintro e a w ⟨s1,i,h1,hq⟩;cases x with
   | next s' =>
    obtain ⟨rfl,hle⟩:=hq;exact ⟨S s',_,hle.sr h1,(k,s'),⟨hk,rfl⟩,vgd k⟩
   | done t' =>
    simp only [vgr] at hk;subst hk;cases e with
    | normal=>exact (hn _ _ hq).elim
    | _=>exact ⟨s1,i,h1,hq⟩
theorem q67 {c:Operand} {x y:Code} (hc:ev st.env c=.p (.bool true)) (h:AWp C x Q st):AWp C (.cond c x y) Q st:=qrk hc (fun _=>h) (fun hb=>Bool.noConfusion hb)
theorem q68 {c:Operand} {x y:Code} (hc:ev st.env c=.p (.bool false)) (h:AWp C y Q st):AWp C (.cond c x y) Q st:=qrk hc (fun hb=>Bool.noConfusion hb) (fun _=>h)
theorem q1q {ops:Array Oper} {l:List Oper} (n:Nat) {st':St} (hr:qir C.P C.N C.B ops (l.take n) st=(st',[])) (h:AL C ops (l.drop n) Q st'):AL C ops l Q st:=by
 rw [←vh0 n l];exact qge h _ _ hr
def idx {α:Type} (l:List α) (i:Int):Option α:=if 0≤i then l[i.toNat]? else none
theorem q4w {α:Type} {l:List α} {i:Int} {x:α} (h:idx l i=some x):0≤i∧l[i.toNat]?=some x∧i < (l.length:Int):=by
 unfold idx at h;split at h
 ·rename_i h0;refine ⟨h0,h,?_⟩;have:=(ve5.1 h).1;omega
 ·cases h
theorem q84 {α:Type} (l:List α) (k:Nat):idx l (k:Int)=l[k]?:=by simp [idx]
theorem qap {α:Type} {l:List α} {k:Nat} {x:α} (h:l[k]?=some x):k < l.length:=(ve5.1 h).1
def qfa (n b:Nat):Bool:=decide (n * b≤140737488355328∧n≤9223372036854775807)
@[go_sem] theorem roomOk_B (P:Program) (e n:Nat):qf6 P e n=qfa n (P.bytesOf e):=rfl
theorem q1r (x:PV) (r:List AV):qie (.p x :: r)=(qie r).map (x :: ·):=by
 show (match qie r with | some xs=>some (x :: xs) | none=>none)=_;cases qie r <;> rfl
@[go_sem] theorem allP_map (xs:List PV):qie (xs.map .p)=some xs:=by
 induction xs with
 | nil=>rfl
 | cons x r ih=>rw [vfj,q1r,ih];rfl
theorem qlh {α:Type} (f:α→PV) (sz:Nat) (xs:List α) (h:∀x,((f x).isTup=false∧(f x).cells.length=sz)):((xs.map f).map AV.p).all (qdg sz)=true:=by
 rw [vg4];intro y hy;simp only [List.map_map,vht,Function.comp_apply] at hy;obtain ⟨x,_,rfl⟩:=hy;simp [qdg,AV.known,AV.cells,(h x).1,(h x).2]
@[go_sem] theorem AVs_app1 (xs:List PV) (y:PV):xs.map AV.p++[AV.p y]=(xs++[y]).map AV.p:=by simp
@[go_sem] theorem q85 (σ σ':Nat→AO) (xs ys:List PV):qgm σ σ' (xs.map .p) (ys.map .p)=(xs=ys):=by
 apply propext;constructor
 ·intro h
  induction ys generalizing xs with
  | nil =>
   simp only [vfk,qgm] at h;exact List.map_eq_nil_iff.1 h
  | cons y ys ih =>
   cases xs with
   | nil=>exact h.elim
   | cons x xs =>
    simp only [vfj,qta,q65] at h;rw [h.1,ih xs h.2]
 ·rintro rfl;exact qs9 σ σ' xs
@[go_sem] theorem LeVs_0p (σ σ':Nat→AO) (ys:List PV):qgm σ σ' [] (ys.map .p)=([]=ys):=q85 σ σ' [] ys
attribute [go_sem] vf9 List.take_length vgk vf5 vfb ve6 Int.le_refl
@[go_sem] theorem take_map {α β:Type} (f:α→β) (l:List α) (n:Nat):(l.map f).take n=(l.take n).map f:=by rw [vhm]
@[go_sem] theorem drop_map {α β:Type} (f:α→β) (l:List α) (n:Nat):(l.map f).drop n=(l.drop n).map f:=by rw [List.map_drop]
def qc1 {α:Type} (f:α→PV) (l:List α):PV:=.slc (l.map f)
@[go_sem] theorem encL_eq {α:Type} (f:α→PV) (l:List α):qc1 f l=.slc (l.map f):=rfl
theorem qa1 {c:Prop} [Decidable c] {α:Type} {a:Option α} {r:α} (h:(if c then a else none)=some r):c∧a=some r:=by
 split at h
 ·exact ⟨‹c›,h⟩
 ·cases h
theorem qem {c:Prop} [Decidable c] {α:Type} {a:Option α} {r:α} (h:(if c then none else a)=some r):¬c∧a=some r:=by
 split at h
 ·cases h
 ·exact ⟨‹¬c›,h⟩
end Go.Ab
namespace Go.Ab
def qkj (l:List Int):List UInt8:=l.map fun n=>UInt8.ofNat n.toNat
@[go_sem] theorem q86:qhs []=some []:=rfl
@[go_sem] theorem q69 (n:Int) (r:List AV):qhs (.p (.int .u8 n) :: r)=(qhs r).map (UInt8.ofNat n.toNat :: ·):=rfl
@[go_sem] theorem q87:qkj []=[]:=rfl
@[go_sem] theorem q7a (n:Int) (l:List Int):qkj (n :: l)=UInt8.ofNat n.toNat :: qkj l:=rfl
@[go_sem] theorem q88 (l m:List Int):qkj (l++m)=qkj l++qkj m:=by simp [qkj]
@[go_sem] theorem ok_int (k:IntKind) (l:List Int):((l.map (PV.int k)).map AV.p).all (qdg 1)=true:=qlh _ _ _ fun _=>⟨rfl,rfl⟩
@[go_sem] theorem sl_int (k:IntKind) (l:List Int):((l.map (PV.int k)).all fun y=>y.cells.length == 1)=true:=by simp [PV.cells]
@[go_sem] theorem sl_bool (l:List Bool):((l.map PV.bool).all fun y=>y.cells.length == 1)=true:=by simp [PV.cells]
@[go_sem] theorem sl_str (l:List (List UInt8)):((l.map PV.str).all fun y=>y.cells.length == 1)=true:=by simp [PV.cells]
@[go_sem] theorem sl_list {α:Type} (f:α→PV) (l:List (List α)):((l.map (qc1 f)).all fun y=>y.cells.length == 1)=true:=by simp [PV.cells,qc1]
attribute [go_sem] vgj
end Go.Ab
namespace Go.Ab
open Go
variable {C:Cx} {Q:Exit→St→Prop} {st:St}
theorem q4x {ops:Array Oper} {d:Option Tmp} {t:TypeId} {x y:Operand} {yt:TypeId} {ty:TypeId} {pos:String} {af:Array Edge} {rest:List Oper} {l:List PV} {e:TypeId}
  (hx:ev st.env x=.p (.slc l)) (hy:ev st.env y=.nils) (hu:C.P.underlying t=some (.slice e)) (hd:qbc C.N ⟨d,.binOp .eql t x y yt,ty,pos,af,none⟩=true)
  (h:∀b,(l≠[]→b=false)→AL C ops rest Q ⟨qd0 st.env d (.p (.bool b)),st.heap⟩):AL C ops (⟨d,.binOp .eql t x y yt,ty,pos,af,none⟩ :: rest) Q st:=by
 intro inj act w hs;simp only [wpList,qb9 (ops:=ops) (o:=⟨d,.binOp .eql t x y yt,ty,pos,af,none⟩) hs (qcb rfl),if_true];refine .inl ?_;have e1:=hs.eval x;have e2:=hs.eval y;rw [hx] at e1;rw [hy] at e2;simp only [AR,PR] at e1 e2;obtain ⟨a,cap,vs,hv,hc,h1,h2⟩:=e1;have hg:(eqGuard .eql t x y (.slice a l.length cap) (.slice none 0 0)).run C.P w=.ok () w:=by simp [eqGuard]
 refine qi2 (s:=do eqGuard .eql t x y (act.eval x) (act.eval y);binOp .eql t (act.eval x) (act.eval y)) (val:=.bool a.isNone) (w':=w) rfl ?_ ?_
 ·rw [hv,e2];simp only [vgv,hg,vgt];exact ven w t e _ _ _ _ _ hu
 ·refine h a.isNone (fun hne=>?_) inj _ _ (hs.put (u:=none) hd hs.hr (Ev.refl _ _ _ _) rfl);rcases h2 with h2 | ⟨b,o,sz,ha,_⟩
  ·subst h2;have:=h1.length;simp at this;exact (hne this).elim
  ·rw [ha];rfl
def qom (N:Nat) (ops:Array Oper):List Oper→Env→List Oper×Env
 | [],env=>([],env)
 | o :: r,env=>match o.guard with
  | none=>(o :: r,env)
  | some _=>match qbc N o,qal ops env o with
   | true,some false=>qom N ops r (qd0 env o.dst (.p (.tup [])))
   | _,_=>(o :: r,env)
theorem qxj {ops:Array Oper}:∀{l l':List Oper} {env env':Env} {h:List (Nat×AO)},qom C.N ops l env=(l',env')→AL C ops l' Q ⟨env',h⟩→AL C ops l Q ⟨env,h⟩
 | [],_,_,_,_,he,k=>by
  simp only [qom,vgs] at he;obtain ⟨rfl,rfl⟩:=he;exact k
 | o :: r,l',env,env',hp,he,k=>by
  simp only [qom] at he;split at he
  ·simp only [vgs] at he;obtain ⟨rfl,rfl⟩:=he;exact k
  ·split at he
   ·rename_i h1 h2;exact qvi h2 h1 (qxj he k)
   ·simp only [vgs] at he;obtain ⟨rfl,rfl⟩:=he;exact k
theorem q4y {ops:Array Oper} {l:List Oper} {d:Nat} {v:AV} {h:List (Nat×AO)} {env:Env} (hv:env.get d=v) (k:AL C ops l Q ⟨(d,v) :: env,h⟩):AL C ops l Q ⟨env,h⟩:=fun inj a w hs=>k inj a w (SR.known hv hs)
def qli (N:Nat) (ops:Array Oper):List Oper→Env→List Evt→List Oper×Env×List Evt
 | [],env,acc=>([],env,acc)
 | o :: r,env,acc=>match o.guard with
  | none=>(o :: r,env,acc)
  | some _=>match qbc N o,qal ops env o with
   | true,some false=>qli N ops r (qd0 env o.dst (.p (.tup []))) (⟨.p (.tup []),none,[]⟩ :: acc)
   | _,_=>(o :: r,env,acc)
theorem DGo.skips {l0:Array Oper} {K:List Evt→St→Prop}:∀{l l':List Oper} {env env':Env} {acc acc':List Evt} {h:List (Nat×AO)},qli C.N l0 l env acc=(l',env',acc')→DGo C l0 l' ⟨env',h⟩ acc' K→DGo C l0 l ⟨env,h⟩ acc K
 | [],_,_,_,_,_,_,he,k=>by
  simp only [qli,vgs] at he;obtain ⟨rfl,rfl,rfl⟩:=he;exact k
 | o :: r,l',env,env',acc,acc',hp,he,k=>by
  simp only [qli] at he;split at he
  ·simp only [vgs] at he;obtain ⟨rfl,rfl,rfl⟩:=he;exact k
  ·split at he
   ·rename_i h1 h2;exact DGo.gf h2 h1 (DGo.skips he k)
   ·simp only [vgs] at he;obtain ⟨rfl,rfl,rfl⟩:=he;exact k
theorem DGo.known' {l0:Array Oper} {l:List Oper} {d:Nat} {v:AV} {h:List (Nat×AO)} {env:Env} {acc:List Evt} (hv:env.get d=v) (k:DGo C l0 l ⟨(d,v) :: env,h⟩ acc (DK C l0 Q)):DGo C l0 l ⟨env,h⟩ acc (DK C l0 Q):=by
 obtain ⟨es,st',k1,k2⟩:=k;obtain ⟨st'',k3,k4,k5⟩:=k1.known (st:=⟨env,h⟩) (qti env hv) rfl;exact ⟨es,st'',k3,DK.congr _ _ _ k4 k5 k2⟩
end Go.Ab
namespace Go.Ab
variable {D:Prop}
open Go
structure Bulk (b:(H:Type)→DataW H→Nat):Prop where
 str:∀(H:Type) (s:List UInt8),s.length≤b H (.lit (.string s))
 slen:∀(H:Type) (es sp:List (DataW H)),es.length≤b H (.slice es sp)
 selem:∀(H:Type) (es sp:List (DataW H)) (d:DataW H),d∈es→b H d≤b H (.slice es sp)
 part:∀(H:Type) (ps:List (DataW H)) (d:DataW H),d∈ps→b H d≤b H (.agg ps)
abbrev NoX:Nat→Prop:=fun _=>False
theorem PRs.one {X:Nat→Prop} {w:World}:∀{ps:List PV} {vs:List Value},PRs X w ps vs→(∀y∈ps,y.isAgg=false∧y.isTup=false)→qat vs
 | [],vs,h,_=>by simp only [PRs] at h;subst h;intro u hu;cases hu
 | p :: ps,vs,h,hp=>by
  obtain ⟨v,r,rfl,h1,h2⟩:=h;have hr:=PRs.one h2 fun y hy=>hp y (vhq _ hy)
  have h0:=hp p (by simp);intro u hu;rcases vhp.1 hu with e | e
  ·subst e;cases p <;> simp only [PR] at h1 <;> first | (subst h1;rfl) | (rcases h1 with ⟨e,_⟩ | ⟨_,_,_,e,_⟩ <;> (subst e;rfl)) | (obtain ⟨_,_,_,e,_⟩:=h1;subst e;rfl) | (obtain ⟨_,_,e,_⟩:=h1;subst e;rfl) | (obtain ⟨_,e,_⟩:=h1;subst e;first | rfl | simp [PV.isAgg,PV.isTup] at h0) | simp [PV.isAgg,PV.isTup] at h0
  ·exact hr u e
structure Rd (P:Program) (b:(H:Type)→DataW H→Nat) (t:TypeId) {α:Type} (f:α→PV) (ok:α→Prop):Prop where
 cells:∀x,(f x).cells.length=P.cellsOf t
 plain:∀x,∀y∈(f x).cells,y.isAgg=false∧y.isTup=false
 agg:∀x,qaq P t=some (f x).isAgg
 read:∀{H:Type} {enc:TypeId×Value→H} {w:World} {sp:Nat→Bool} {n:Nat} {cs:List Value} {x:DataW H×List MemPlace},DataW.trod enc P w 0 sp true n t cs=some x→b H x.1≤1048576→∃a,PRs NoX w (f a).cells cs∧ok a
variable {P:Program} {b:(H:Type)→DataW H→Nat} {t:TypeId}
def ofCells (g:Bool) (cs:List Value):Value:=if g then .agg cs.toArray else cs.headD undef
theorem PR.ofCells {α:Type} {f:α→PV} {ok:α→Prop} (R:Rd P b t f ok) {w:World} {cs:List Value} {a:α} (h:PRs NoX w (f a).cells cs) :
  PR NoX w (f a) (ofCells (f a).isAgg cs)∧(ofCells (f a).isAgg cs).cells.toList=cs:=by
 have hone:=h.one (R.plain a);unfold Ab.ofCells;cases hf:f a with
 | agg ps =>
  rw [hf] at h;simp only [PV.isAgg,if_true];exact ⟨⟨cs,rfl,h,hone⟩,by simp [Value.cells]⟩
 | _ =>
  rw [hf] at h;simp only [PV.isAgg,vei,if_false];simp only [PV.cells] at h;obtain ⟨v,r,rfl,h1,h2⟩:=h;simp only [PRs] at h2;subst h2;refine ⟨h1,?_⟩;have:=hone v (by simp);simp only [List.headD_cons];cases v <;> first | rfl | simp [Value.oneCell'] at this
theorem vcm {k:IntKind} (hu:P.underlying t=some (.int k)) (hc:P.cellsOf t=1):Rd P b t (PV.int k) (fun n=>(Lit.int k n).wf=true):=by
 refine ⟨fun x=>by rw [hc];rfl,fun x y hy=>?_,fun x=>by simp [qaq,hu];rfl,fun h _=>?_⟩
 ·simp only [PV.cells,vhw] at hy;subst hy;exact ⟨rfl,rfl⟩
 ·obtain ⟨n,rfl,_,hw⟩:=DataW.trod_int hu h;exact ⟨n,⟨_,_,rfl,rfl,rfl⟩,hw⟩
theorem qzm {w:World} {a:Addr} {n:Nat} {cs:List Value} (h:w.cells? 0 a n=some cs):cs.length=n∧∀i u,cs[i]?=some u→w.cell? (a.add i)=some u:=by
 unfold World.cells? at h;rw [if_pos (vie _)] at h;have hl:=(mapM_some_length h);simp only [vhi] at hl;refine ⟨hl,fun i u hu=>?_⟩;have hi:i < n:=by have:=qap hu;omega
 have:=mapM_some_get h i i (by simp [hi]);rw [this];exact hu
theorem PRs.app {X:Nat→Prop} {w:World}:∀{ps:List PV} {vs:List Value} {qs:List PV} {us:List Value},PRs X w ps vs→PRs X w qs us→PRs X w (ps++qs) (vs++us)
 | [],_,_,_,h,h'=>by simp only [PRs] at h;subst h;exact h'
 | p :: ps,_,_,_,h,h'=>by
  obtain ⟨v,r,rfl,h1,h2⟩:=h;exact ⟨v,r++_,rfl,h1,PRs.app h2 h'⟩
theorem q4z {e:TypeId} {α:Type} {f:α→PV} {ok:α→Prop} (hu:P.underlying t=some (.slice e)) (hc:P.cellsOf t=1) (hs:0 < P.cellsOf e) (B:Bulk b) (R:Rd P b e f ok) :
  Rd P b t (qc1 f) (fun l=>l.length≤1048576∧∀x∈l,ok x):=by
 refine ⟨fun x=>by rw [hc];rfl,fun x y hy=>?_,fun x=>by simp [qaq,hu];rfl,fun {H enc w sp n cs x} h hb=>?_⟩
 ·simp only [qc1,PV.cells,vhw] at hy;subst hy;exact ⟨rfl,rfl⟩
 rcases Deep.open_slice hu h with ⟨rfl,rfl⟩ | ⟨a,len,cap,m,n',D,Pl,rfl,_,hl,hm,hmm,rfl,hx⟩
 ·exact ⟨[],⟨_,_,rfl,⟨_,_,_,rfl,vf9 _,rfl,.inl rfl⟩,rfl⟩,vie _,(fun x hx=>absurd hx (by simp))⟩
 simp only at hb;have hlen:len≤1048576:=by
  have:=B.slen H ((vft len).map D) ((vft (m - len)).map fun j=>D (len+j));simp only [vfd,vhi] at this;omega
 have hlm:len≤m:=by rw [hmm];split <;> omega
 have key:∀k,k≤len→∃(l:List α) (vs:List Value),l.length=k∧PRs NoX w (l.map f) vs∧(∀v∈vs,v.cells.size=P.cellsOf e)∧qat (flat vs)∧(flat vs).length=k * P.cellsOf e ∧
   (∀j u,(flat vs)[j]?=some u→w.cell? (a.add j)=some u)∧∀x∈l,ok x:=by
  intro k
  induction k with
  | zero =>
   intro _;exact ⟨[],[],rfl,rfl,(fun v hv=>absurd hv (by simp)),(fun u hu=>absurd hu (by simp [flat])),(by simp [flat]),(fun j u hu=>absurd hu (by simp [flat])),(fun x hx=>absurd hx (by simp))⟩
  | succ k ih =>
   intro hk;obtain ⟨l,vs,h1,h2,h3,h4,h5,h6,h7⟩:=ih (by omega);obtain ⟨cs',h8,h9⟩:=hx k (by omega);have hbk:b H (D k)≤1048576:=vgb (B.selem H _ _ (D k) (vht.2 ⟨k,vhv.2 (by omega),rfl⟩)) hb;obtain ⟨y,h10,h11⟩:=R.read h9 hbk;obtain ⟨hl8,hg8⟩:=qzm h8;obtain ⟨h12,h13⟩:=PR.ofCells R h10;have hf:flat (vs++[ofCells (f y).isAgg cs'])=flat vs++cs':=by simp [flat,h13]
   refine ⟨l++[y],vs++[ofCells (f y).isAgg cs'],by simp [h1],?_,?_,?_,?_,?_,?_⟩
   ·rw [List.map_append];exact h2.app ⟨_,_,rfl,h12,rfl⟩
   ·intro v hv;rcases vfl.1 hv with hv | hv
    ·exact h3 v hv
    ·simp only [vhw] at hv;subst hv;rw [←vd9,h13,hl8]
   ·rw [hf];intro u hu;rcases vfl.1 hu with hu | hu
    ·exact h4 u hu
    ·exact h10.one (R.plain y) u hu
   ·rw [hf,vfb,h5,hl8,Nat.succ_mul]
   ·rw [hf];intro j u hu;by_cases hj:j < (flat vs).length
    ·rw [ve0 hj] at hu;exact h6 j u hu
    ·rw [ve1 (by omega),h5] at hu;have:=hg8 _ _ hu;rw [Deep.add_add] at this;have e1:k * P.cellsOf e+(j - k * P.cellsOf e)=j:=by omega
     rwa [e1] at this
   ·intro x hx;rcases vfl.1 hx with hx | hx
    ·exact h7 x hx
    ·simp only [vhw] at hx;subst hx;exact h11
 obtain ⟨l,vs,h1,h2,h3,h4,h5,h6,h7⟩:=key len (vf9 _);refine ⟨l,⟨_,_,rfl,⟨some a,cap,vs,by simp [h1],by simp [h1,hl],h2,?_⟩,rfl⟩,by omega,h7⟩;by_cases h0:len=0
 ·refine .inl ?_;have:=h2.length;simp only [vfd,h1,h0] at this;exact vhf.1 this.symm
 ·have hpos:0 < (flat vs).length:=by rw [h5];exact Nat.mul_pos (by omega) hs
  have hc0:=h6 0 _ (ve3 hpos);have e0:a.add 0=a:=rfl;rw [e0] at hc0;have hspot:a=⟨a.block,a.off,none⟩∧a.block < w.heap.size:=by
   unfold World.cell? at hc0;split at hc0
   ·rename_i c e2 fr hb2;refine ⟨?_,(vd5.1 hb2).1⟩;split at hc0
    ·cases hc0
    ·rename_i hsp;cases a with
     | mk bl off spot=>cases spot <;> simp_all
   ·cases hc0
  refine .inr ⟨a.block,a.off,P.cellsOf e,by rw [←hspot.1],h3,h4,hspot.2,fun h=>h,fun j u hu=>?_⟩;have:=h6 j u hu;rw [hspot.1] at this;unfold Addr.add at this;by_cases hj:j=0
  ·subst hj;exact this
  ·rw [if_neg hj] at this;exact this
structure RdFs (P:Program) (b:(H:Type)→DataW H→Nat) (fs:List Field) {α:Type} (g:α→List PV) (ok:α→Prop):Prop where
 read:∀{H:Type} {enc:TypeId×Value→H} {w:World} {sp:Nat→Bool} {n:Nat} (cs:Field→List Value),(∀fd∈fs,∃y,DataW.trod enc P w 0 sp true n fd.type (cs fd)=some y∧b H y.1≤1048576)→∃a,PRs NoX w (g a) (fs.flatMap cs)∧ok a
theorem RdFs.nil:RdFs P b [] (fun _:Unit=>[]) (fun _=>True):=⟨fun cs h=>⟨(),rfl,trivial⟩⟩
theorem RdFs.cons {fd:Field} {fs:List Field} {α β:Type} {f:α→PV} {ok:α→Prop} {g:β→List PV} {ok':β→Prop} (R:Rd P b fd.type f ok) (R':RdFs P b fs g ok') :
  RdFs P b (fd :: fs) (fun x:α×β=>(f x.1).cells++g x.2) (fun x=>ok x.1∧ok' x.2):=⟨fun cs h=>by
 obtain ⟨y,h1,h2⟩:=h fd (by simp);obtain ⟨a,h3,h4⟩:=R.read h1 h2;obtain ⟨c,h5,h6⟩:=R'.read cs (fun fd' h'=>h fd' (by simp [h']));exact ⟨(a,c),by rw [vg9];exact h3.app h5,h4,h6⟩⟩
def vcn (P:Program):Nat→List Field→Option Nat
 | o,[]=>some o
 | o,f :: r=>if f.offset=o then vcn P (o+P.cellsOf f.type) r else none
theorem qtj {P:Program}:∀{fs:List Field} {o s:Nat} {cs:List Value},vcn P o fs=some s→cs.length=s→fs.flatMap (fun f=>(cs.drop f.offset).take (P.cellsOf f.type))=cs.drop o∧o≤s
 | [],o,s,cs,h,hl=>by
  simp only [vcn,vgr] at h;subst h;refine ⟨?_,vf9 _⟩;rw [List.flatMap_nil,List.drop_of_length_le (by omega)]
 | f :: r,o,s,cs,h,hl=>by
  simp only [vcn] at h;split at h
  ·rename_i ho;obtain ⟨h1,h2⟩:=qtj h hl;refine ⟨?_,by omega⟩;rw [vg9,h1,ho,←List.drop_drop];exact vh0 _ _
  ·cases h
theorem q1s {fs:Array Field} {α β:Type} {f:α→PV} {ok:α→Prop} {g:β→List PV} {ok':β→Prop} (hu:P.underlying t=some (.struct fs)) (hlay:vcn P 0 fs.toList=some (P.cellsOf t)) (B:Bulk b) (R:RdFs P b fs.toList g ok') (mk:β→α)
  (hcells:∀x,(f x).cells.length=P.cellsOf t) (hplain:∀x,∀y∈(f x).cells,y.isAgg=false∧y.isTup=false) (hagg:∀x,(f x).isAgg=true) (hmk:∀y,(f (mk y)).cells=g y) (hok:∀y,ok' y→ok (mk y)):Rd P b t f ok:=by
 refine ⟨hcells,hplain,fun x=>by rw [hagg];simp [qaq,hu],fun {H enc w sp n cs x} h hb=>?_⟩;obtain ⟨xs,m,rfl,rfl,hl,hxl,hx⟩:=DataW.trod_struct hu h;have hall:∀fd∈fs.toList,∃y,DataW.trod enc P w 0 sp true m fd.type ((cs.drop fd.offset).take (P.cellsOf fd.type))=some y∧b H y.1≤1048576:=by
  intro fd hfd;obtain ⟨i,hi⟩:=List.mem_iff_getElem?.1 hfd;have hi':fs[i]?=some fd:=by simpa using hi
  have h1:=hx i fd hi';have hlt:i < xs.length:=by rw [hxl];exact (vd5.1 hi').1
  rw [ve3 hlt] at h1;exact ⟨_,h1,vgb (B.part H _ _ (vht.2 ⟨_,List.getElem_mem hlt,rfl⟩)) hb⟩
 obtain ⟨y,h1,h2⟩:=R.read _ hall;refine ⟨mk y,?_,hok y h2⟩;rw [hmk];obtain ⟨h3,_⟩:=qtj (cs:=cs) hlay hl;rw [h3] at h1;exact h1
theorem Rd.val {α:Type} {f:α→PV} {ok:α→Prop} (R:Rd P b t f ok) {H:Type} {enc:TypeId×Value→H} {w:World} {sp:Nat→Bool} {base:Nat} {v:Value} {d:DataW H} {ps:List MemPlace}
  (hval:Value.okWide P w .any base t v) (h:DataW.Trod enc P w 0 sp true t v d ps) (hb:b H d≤1048576):∃a,PR NoX w (f a) v∧ok a:=by
 obtain ⟨n,hn⟩:=h;obtain ⟨a,h1,h2⟩:=R.read hn hb;refine ⟨a,?_,h2⟩;obtain ⟨h3,h4⟩:=PR.ofCells R h1;have hag:=R.agg a;have:ofCells (f a).isAgg v.cells.toList=v:=by
  unfold Ab.ofCells;unfold Value.okWide at hval;unfold qaq at hag;cases hu:P.underlying t with
  | none=>rw [hu] at hag;cases hag
  | some u =>
   rw [hu] at hag hval;have hone:=h1.one (R.plain a);cases hf:(f a).isAgg with
   | true =>
    rw [hf] at hag;simp only [if_true];cases u <;> simp at hag hval
    ·obtain ⟨cs,rfl,_⟩:=hval;simp [Value.cells]
    ·obtain ⟨cs,rfl,_⟩:=hval;simp [Value.cells]
   | false =>
    rw [hf] at hag;simp only [vei,if_false];have hnag:∀cs,v≠.agg cs:=by
     rintro cs rfl;cases u <;> simp [Cell.okWide,Cell.ok,hu] at hval hag
    cases v <;> first | rfl | exact absurd rfl (hnag _)
 rw [this] at h3;exact h3
theorem Fr.kept {w w':World} (h:Fr D w w'):w.keptBut w' (fun _=>False):=by
 refine ⟨h.os,h.output,fun i hi=>?_⟩;rw [h.blk i hi];cases hx:w.heap[i]? with
 | none=>trivial
 | some o=>cases o <;> first | exact ⟨rfl,rfl,rfl,fun _ _=>rfl⟩ | exact .inr ⟨rfl,rfl⟩ | rfl
theorem Fr.same {w w':World} (h:Fr D w w') {p:MemPlace} (hp:p.block < w.heap.size):w.sameAt w' p:=by
 cases p with
 | cell c o=>exact World.cell?_of_block (h.blk c hp)
 | map c=>exact h.blk c hp
theorem qlj {H:Type} {enc:TypeId×Value→H} {w w':World} {base:Nat} {sp:Nat→Bool} {held:Bool}:∀{ts:List TypeId} {vs:List Value} {ds:List (DataW H)} {ps:List MemPlace},
  DataW.TrodAll enc P w base sp held ts vs ds ps→(∀p∈ps,w.sameAt w' p)→DataW.TrodAll enc P w' base sp held ts vs ds ps
 | [],[],[],_,h,_=>h
 | _ :: _,_ :: _,_ :: _,_,⟨p,q,⟨n,h1⟩,h2,e⟩,hs=>⟨p,q,⟨n,DataW.trod_carry n _ _ _ h1 fun x hx=>hs x (by rw [e];exact vhn _ hx)⟩,qlj h2 (fun x hx=>hs x (by rw [e];exact vho _ hx)),e⟩
theorem q1t {H:Type} {enc:TypeId×Value→H} {f:Func} {s:ChangeSpec} {apart fresh handsOn again:Bool} {W W':World} {args:Array Value} {v:Value} {ds gs:List (DataW H)} {before pa pv:List MemPlace}
  (hW:DataW.Whole enc P f.params.toList s.vars apart W args.toList ds gs before)
  (hres:∀(b:Nat) (sp:Nat→Bool) (hd:Bool),DataW.TrodAll enc P W' b sp hd f.resultTypes.toList (v.resultList f.resultTypes.size) (s.fn H (ds++gs)).results [])
  (hargs:∀sp:Nat→Bool,(∀p∈before,sp p.block=true)→DataW.TrodAll enc P W' 0 sp true f.params.toList args.toList (s.fn H (ds++gs)).args pa)
  (hvars:∀sp:Nat→Bool,(∀p∈before,sp p.block=true)→DataW.TrodVars enc P W' sp s.vars (s.fn H (ds++gs)).vars pv)
  (hps:before=pa++pv) (hk:W.keptBut W' (·∈before)) (hfz:∀b off,MemPlace.cell b off∈before→W'.frozen? ⟨b,off,none⟩=W.frozen? ⟨b,off,none⟩)
  (hok:∀(j:Nat) (t:TypeId) (r:Value),f.resultTypes[j]?=some t→(v.resultList f.resultTypes.size)[j]?=some r→Value.okWide P W' .any 0 t r) :
  s.post enc P f apart fresh handsOn again W args v W':=by
 have hold:∀p∈before,(fun b=>decide (b < W.heap.size)) p.block=true:=fun p hp=>by simpa using hW.lt p hp
 refine ⟨ds,gs,before,[],pa,pv,hW,hres _ _ _,hargs _ hold,hvars _ hold,World.keptBut_mono (fun p hp=>⟨hp,?_⟩) hk,fun _=>?_⟩
 ·rw [hps,vfl] at hp;exact Or.inr hp
 obtain ⟨_,_,_,_,_,hz,hn⟩:=hW;refine ⟨hok,_,_,([]++pa)++pv,⟨[]++pa,pv,ChangeShapes.trodAll_append (hargs _ (fun _ _=>rfl)) (hres _ _ _),hvars _ (fun _ _=>rfl),rfl,?_,?_⟩,?_⟩
 ·intro b off hp;have hp':MemPlace.cell b off∈before:=by rw [hps];simpa using hp
  rw [hfz b off hp'];exact hz b off hp'
 ·intro ha;have:=hn ha;rw [hps] at this;simpa using this
 ·intro p hp _;rw [hps];simpa using hp
theorem q40 {H:Type} {enc:TypeId×Value→H} {f:Func} {s:ChangeSpec} {W:World} {args:Array Value} {ds gs:List (DataW H)} {before:List MemPlace} {k:FuncId} {tb:TypeId} {pvs:List PV}
  (hW:DataW.Whole enc P f.params.toList s.vars false W args.toList ds gs before) (hv:s.vars=[]) (hfn:s.fn H ds={ results:=[.lit (.bool true)],args:=ds }) (hres:f.resultTypes=#[tb]) (htb:P.underlying tb=some .bool)
  (hl:laidOutB P=true) (hm:mapsRowed P=true) (hz:((vft P.types.size).all fun t=>match P.underlying t with | some (.slice e)=>decide (0 < P.cellsOf e) | _=>true)=true) (hts:∀t∈f.params.toList,t < P.types.size)
  (hcon:Con D P k pvs (.bool true)) (htab:TabOk P NoX W) (hpr:PRs NoX W pvs args.toList) :
  Calls P k args W fun e W'=>∃v,e=.returned v∧s.post enc P f false true false false W args v W':=by
 have hW':=hW;obtain ⟨p,q,hA,hV,rfl,hfz,hnd⟩:=hW;rw [hv] at hV;obtain ⟨rfl,rfl⟩:=ChangeShapes.trodVars_none hV;have hlt:=hW'.lt;simp only [ver] at hW' hlt;have hc:=hcon.pure NoX W args.toList (fun b hb=>hb.elim) htab hpr;rw [Array.toArray_toList] at hc;refine hc.mono ?_;rintro e W' ⟨v,rfl,hv',hfr⟩;simp only [PR] at hv';subst hv';refine ⟨_,rfl,?_⟩;have K:=kids_rows hl hm;have hss:=slices_full_of P hz;refine q1t (pa:=p) (pv:=[]) hW' ?_ ?_ ?_ (by simp) (World.keptBut_mono (fun _ h=>h.elim) hfr.kept) (fun b off hp=>hfr.fz ⟨b,off,none⟩ (hlt _ hp)) ?_
 ·intro b0 sp hd;simp only [ver,hfn,hres];exact trodAll_cons_mk (RowKit.shut_bool htb _) ChangeShapes.trodAll_mk0
 ·intro sp hsp;simp only [ver,hfn];exact qlj (DataW.TrodAll.respare K hss hts hA (fun x hx=>hsp x hx)) (fun x hx=>hfr.same (hlt x hx))
 ·intro sp _;rw [hv];simp only [ver,hfn];rfl
 ·exact RowKit.ok_one hres rfl (RowKit.okWide_bool_mk htb _)
end Go.Ab
namespace Go.Ab
open Go
def qk2 {K V:Type} [DecidableEq K]:List (K×V)→K→Option V
 | [],_=>none
 | (a,v) :: r,k=>if k=a then some v else qk2 r k
def qp0 {K V:Type} [DecidableEq K]:List (K×V)→K→V→List (K×V)
 | [],k,v=>[(k,v)]
 | (a,u) :: r,k,v=>if k=a then (a,v) :: r else (a,u) :: qp0 r k v
def qpn {K V:Type} (f:K→PV) (m:List (K×V)):List PV:=m.map fun p=>f p.1
def qqp {K V:Type} (f:V→PV) (m:List (K×V)):List PV:=m.map fun p=>f p.2
def encM {K V:Type} (f:K→PV) (g:V→PV) (m:List (K×V)):PV:=.mapv (qpn f m) (qqp g m)
@[go_sem] theorem encM_eq {K V:Type} (f:K→PV) (g:V→PV) (m:List (K×V)):encM f g m=.mapv (qpn f m) (qqp g m):=rfl
@[go_sem] theorem encK_len {K V:Type} (f:K→PV) (m:List (K×V)):(qpn f m).length=m.length:=by simp [qpn]
theorem q1u {K V:Type} [DecidableEq K] (P:Program) (kt:TypeId) (f:K→PV) (hk:∀a b,qiw P kt (f a) (f b)=some (decide (a=b))) (k:K) (m:List (K×V)) (g:V→PV):qk8 P kt (f k) (qpn f m) ((qqp g m).map AV.p)=some ((qk2 m k).map fun v=>AV.p (g v)):=by
 induction m with
 | nil=>rfl
 | cons p r ih =>
  obtain ⟨a,v⟩:=p;simp only [qpn,qqp,vfj,qk8,hk,qk2] at ih ⊢;by_cases h:k=a
  ·simp [h]
  ·simp only [decide_eq_false h,if_neg h];exact ih
theorem q41 {K V:Type} [DecidableEq K] (P:Program) (kt:TypeId) (f:K→PV) (hk:∀a b,qiw P kt (f a) (f b)=some (decide (a=b))) (k:K) (m:List (K×V)) (g:V→PV) (v:V):qyq P kt (f k) (.p (g v)) (qpn f m) ((qqp g m).map AV.p)=some (qpn f (qp0 m k v),(qqp g (qp0 m k v)).map AV.p):=by
 induction m with
 | nil=>rfl
 | cons p r ih =>
  obtain ⟨a,u⟩:=p;simp only [qpn,qqp,vfj,qyq,hk,qp0] at ih ⊢;by_cases h:k=a
  ·simp [h]
  ·simp only [decide_eq_false h,if_neg h,ih];rfl
theorem q1v (P:Program) (kt:TypeId) (q:IntKind) (a b:Int):qiw P kt (.int q a) (.int q b)=some (decide (a=b)):=by
 simp only [qiw,qny,if_true];by_cases h:a=b <;> simp [h]
@[go_sem] theorem vco {V:Type} (P:Program) (kt:TypeId) (q:IntKind) (k:Int) (m:List (Int×V)) (f:V→PV):qk8 P kt (.int q k) (qpn (PV.int q) m) ((qqp f m).map AV.p)=some ((qk2 m k).map fun v=>AV.p (f v)):=q1u P kt _ (q1v P kt q) k m f
@[go_sem] theorem updA_int {V:Type} (P:Program) (kt:TypeId) (q:IntKind) (k:Int) (m:List (Int×V)) (f:V→PV) (v:V):qyq P kt (.int q k) (.p (f v)) (qpn (PV.int q) m) ((qqp f m).map AV.p)=some (qpn (PV.int q) (qp0 m k v),(qqp f (qp0 m k v)).map AV.p):=q41 P kt _ (q1v P kt q) k m f v
@[go_sem] theorem getD_map {α β:Type} (F:α→β) (o:Option α) (z:α):(o.map F).getD (F z)=F (o.getD z):=by cases o <;> rfl
attribute [go_sem] Option.isSome_map
def qrv (D : Nat → Bool) (n l g : Nat) : L PV := if D l then .look l fun o => match o with
      | .map g' ks vs => if g = g' then (qai (qcn D n) ks).bind fun xs => (qai (qcn D n) vs).bind fun ys => .ret (.mapv xs ys) else .fail
      | _ => .fail
    else .fail
theorem qzn (D:Nat→Bool) (l g:Nat):qcn D 9 (.mapo l g)=qrv D 8 l g:=rfl
theorem qzo (D:Nat→Bool) (l g:Nat):qcn D 8 (.mapo l g)=qrv D 7 l g:=rfl
theorem qzp (D:Nat→Bool) (l g:Nat):qcn D 7 (.mapo l g)=qrv D 6 l g:=rfl
attribute [go_sem] qzn qzo qzp qrv
end Go.Ab
namespace Go.Ab
variable {D:Prop}
open Go
variable {C:Cx} {Q:Exit→St→Prop} {st:St}
def qex:Nat→List AV→Env
 | _,[]=>[]
 | k,x :: r=>(k,x) :: qex (k+1) r
theorem qhi:∀(ps:List AV) (vs:List Value) (k t:Nat) {X:Nat→Prop} {inj:Inj} {σ:Nat→AO} {w:World},ARs X inj σ w ps vs →
  AR X inj σ w ((qex k ps).get t) (if k≤t then vs.getD (t - k) undef else undef)
 | [],_,k,t,_,_,_,_,_=>trivial
 | p :: ps,_,k,t,X,inj,σ,w,h=>by
  obtain ⟨v,r,rfl,h2,h3⟩:=h;simp only [qex,Env.get];by_cases hk:k=t
  ·subst hk;rw [if_pos rfl,if_pos (vf9 _)];simpa using h2
  ·rw [if_neg hk];have:=qhi ps r (k+1) t (X:=X) (inj:=inj) h3;by_cases hle:k≤t
   ·rw [if_pos hle];rw [if_pos (by omega)] at this;have e:t - k=(t - (k+1))+1:=by omega
    rw [e];simpa using this
   ·rw [if_neg hle];rw [if_neg (by omega)] at this;exact this
def inlQ (C:Cx) (ops:Array Oper) (o:Oper) (rest:List Oper) (Q:Exit→St→Prop) (st:St) (fn:Func):Exit→St→Prop :=
 fun e s=>(e=.normal∨e=.ret)∧∃v,q0y C.P s fn.results.toList=some v∧AL C ops rest Q ⟨qd0 st.env o.dst v,s.heap⟩
theorem qgv {ops:Array Oper} {o:Oper} {rest:List Oper} {f:Operand} {args:Array Operand} {ats:Array TypeId} {k:FuncId} {avs:List AV} {fn:Func} {c:Code} {N':Nat} (B':Nat)
  (ho:o.op=.call ⟨.value f,args,ats⟩) (hg:qal ops st.env o=some true) (hd:qbc C.N o=true) (hf:C.P.funcs[k]?=some fn) (hb:fn.body=some c) (hk:HasBody C.P k) (hN:fn.ntmps=N') (hn:avs.length≤N')
  (hc:qcg st.env f args.toList=some (k,avs))
  (h:∀inj w hT,AWp ⟨C.P,N',B',C.X,st.heap,inj,w,C.D,hT⟩ c (inlQ C ops o rest Q st fn) ⟨qex 0 avs,st.heap⟩):AL C ops (o :: rest) Q st:=by
 subst hN;intro inj a w hs;simp only [wpList,qb9 hs hg,if_true];refine .inl ?_;obtain ⟨vs,hrun,hars⟩:=qnh hs ho hk hc;unfold Oper.wp;rw [hrun];simp only [Oper.upon];have hl:=hars.length;refine calls_of_wp hf hb (wp_mono (h inj w (qi4 hs.ev) inj _ w ⟨fun t=>?_,?_,rfl,hs.hr,Ev.refl _ _ _ _⟩) ?_)
 ·have:=qhi avs vs 0 t hars;simp only [vie,if_true,vgj] at this;have e:(vs.toArray++Array.replicate (fn.ntmps - vs.toArray.size) undef).getD t undef=vs.getD t undef:=by
   by_cases ht:t < vs.length
   ·simp [vd4,ht]
   ·simp only [Array.getD_eq_getD_getElem?,vd4,vfw,ht,if_false,Array.getElem?_replicate];rw [vha,ve4 (by omega)];split <;> rfl
  rw [e];exact this
 ·simp [←hl];omega
 ·intro e a' w' ⟨s,inj',hs',hq⟩;obtain ⟨hex,v,hv,hal⟩:=hq;obtain ⟨val,h1,h2⟩:=qjq hs' hv;have hev:Ev C.D C.X inj st.sig w inj' s.sig w':=hs'.ev;have hput:SR C ⟨qd0 st.env o.dst v,s.heap⟩ inj' (a.put o.dst val) w':=by
   have h3:=hs.put (o:=o) (u:=none) hd hs.hr (Ev.refl _ _ _ _) (v:=.any) (val:=val) trivial;refine ⟨fun t=>?_,h3.size,h3.defers,hs'.hr,hs.ev.trans hev⟩;cases hdst:o.dst with
   | none =>
    have:=h3.env t;rw [hdst] at this;simpa [qd0,Act.put] using AR.ev hev hs.hr.xlt _ _ (hs.env t)
   | some d =>
    simp only [qbc,hdst,decide_eq_true_eq] at hd;simp only [qd0,Act.put,Env.get];by_cases ht:d=t
    ·subst ht;rw [if_pos rfl];have:(a.tmps.setIfInBounds d val).getD d undef=val:=by simp [hs.size,hd]
     rw [this];exact h2
    ·rw [if_neg ht];have:(a.tmps.setIfInBounds d val).getD t undef=a.tmps.getD t undef:=by simp [vd7 ht]
     rw [this];exact AR.ev hev hs.hr.xlt _ _ (hs.env t)
  rcases hex with rfl | rfl
  ·exact ⟨hs'.defers,val,h1,hal inj' _ _ hput⟩
  ·exact ⟨hs'.defers,val,h1,hal inj' _ _ hput⟩
theorem qgf {ops:Array Oper} {o:Oper} {rest:List Oper} {fn:Func} {s:St} {v:AV} (h1:q0y C.P s fn.results.toList=some v) (h2:AL C ops rest Q ⟨qd0 st.env o.dst v,s.heap⟩):inlQ C ops o rest Q st fn .ret s:=⟨.inr rfl,v,h1,h2⟩
@[go_sem] theorem vcp {α β:Type} (f:α→β) (l:List α) (i:Nat) (y:α):(l.map f).set i (f y)=(l.set i y).map f:=by rw [List.map_set]
@[go_sem] theorem q7b {α:Type} (f:α→PV) (l:List (List α)) (i:Nat) (y:List α):(l.map (qc1 f)).set i (.slc (vhj f y))=(l.set i y).map (qc1 f):=by rw [List.map_set];rfl
attribute [go_sem] qex
theorem zF {P:Prop} (h:P:=by (repeat' refine And.intro ?_ ?_) <;> first | rfl | (simp;done) | (simp;rfl) | (simp [*];done) | (simp [*];rfl)):P:=h
theorem zs {x y:Code} (h:AWp C x (qm8 (fun s=>AWp C y Q s) Q) st):AWp C (.seq x y) Q st:=qik h
theorem zr {id:Nat} {l:List Oper} (h:AL C l.toArray l Q st):AWp C (.region id l.toArray false) Q st:=qgl h
theorem zb {id:Nat} {c:Code} (h:AWp C c (qi5 id Q) st):AWp C (.block id c) Q st:=qn9 h
theorem zk (h:Q .normal st):AWp C .skip Q st:=qri h
theorem zq (h:Q .ret st):AWp C .ret Q st:=qrj h
theorem zx {id:Nat} (h:Q (.exit id) st):AWp C (.exit id) Q st:=qxd h
theorem zl {ops:Array Oper} (h:Q .normal st):AL C ops [] Q st:=qqh h
theorem zn {K:St→Prop} {s:St} (h:K s):qm8 K Q .normal s:=h
theorem zt {K:St→Prop} {s:St} (h:Q .ret s):qm8 K Q .ret s:=h
theorem ze {K:St→Prop} {s:St} {i:Nat} (h:Q (.exit i) s):qm8 K Q (.exit i) s:=h
theorem yn {i:Nat} {s:St} (h:Q .normal s):qi5 i Q .normal s:=h
theorem yr {i:Nat} {s:St} (h:Q .ret s):qi5 i Q .ret s:=h
theorem yh {i:Nat} {s:St} (h:Q .normal s):qi5 i Q (.exit i) s:=qvj h
theorem yd {l:Array Oper} {acc:List Evt} (h:Q .normal st) (hev:qmm l acc.reverse=true:=by kernel_rfl):DGo C l [] st acc (DK C l Q):=DGo.fin hev h
theorem zU {ops:Array Oper} {o:Oper} {l l1 l2:List Oper} {st':St} (h:AL C ops l2 Q st') (hs:spl l=(o :: l1,l2):=by exact rfl) (hr:qir C.P C.N C.B ops (o :: l1) st=(st',[]):=by simp only [go_sem,seval, *];exact rfl):AL C ops l Q st:=qrt hs hr h
theorem zW {ops:Array Oper} {l:List Oper} (n:Nat) {st':St} (h:AL C ops (l.drop n) Q st') (hr:qir C.P C.N C.B ops (l.take n) st=(st',[]):=by simp only [go_sem,seval, *];exact rfl):AL C ops l Q st:=q1q n hr h
theorem yU {ops:Array Oper} {K:List Evt→St→Prop} {o:Oper} {l l1 l2:List Oper} {acc acc':List Evt} {st':St} (h:DGo C ops l2 st' acc' K) (hs:spl l=(o :: l1,l2):=by exact rfl)
  (hr:qf0 C.P C.N C.B ops (o :: l1) st acc=(acc',st',[]):=by simp only [go_sem,seval, *];first | exact ⟨rfl,rfl⟩ | exact rfl):DGo C ops l st acc K:=DGo.upto hs hr h
theorem zg {ops:Array Oper} {o:Oper} {rest:List Oper} {st':St} (h:AL C ops rest Q st') (hg:qal ops st.env o=some true:=by first | exact qdw rfl rfl (by exact rfl) (by exact rfl) | exact qcb rfl) (hd:qbc C.N o=true:=by rfl)
  (hr:((aop C.P C.B (ev st.env) o).run (qag st.heap)).map (fun vu=>(⟨qd0 st.env o.dst vu.1,qle st.heap vu.2⟩:St))=some st':=by simp only [go_sem,seval, *];exact rfl):AL C ops (o :: rest) Q st:=vcl hg hd hr h
theorem yg {ops:Array Oper} {K:List Evt→St→Prop} {o:Oper} {rest:List Oper} {acc:List Evt} {st':St} {e:Evt} (h:DGo C ops rest st' (e :: acc) K) (hg:qal ops st.env o=some true:=by first | exact qdw rfl rfl (by exact rfl) (by exact rfl) | exact qcb rfl) (hd:qbc C.N o=true:=by rfl)
  (hr:((aop C.P C.B (ev st.env) o).run (qag st.heap)).map (fun vu=>((⟨vu.1,vu.2,(aop C.P C.B (ev st.env) o).reads (qag st.heap)⟩:Evt),(⟨qd0 st.env o.dst vu.1,qle st.heap vu.2⟩:St)))=some (e,st'):=by simp only [go_sem,seval, *];first | exact ⟨rfl,rfl⟩ | exact rfl):DGo C ops (o :: rest) st acc K:=DGo.gt' hg hd hr h
theorem zc {ops:Array Oper} {o:Oper} {rest:List Oper} {f:Operand} {args:Array Operand} {ats:Array TypeId} {k:FuncId} {avs:List AV} {pargs:List PV} {r:PV} {st':St}
  (hp:Con C.D C.P k pargs r) (h:AL C ops rest Q st')
  (ho:o.op=.call ⟨.value f,args,ats⟩:=by rfl) (hg:qal ops st.env o=some true:=by first | exact qcb rfl | exact qdw rfl rfl (by exact rfl) (by exact rfl)) (hd:qbc C.N o=true:=by rfl)
  (hc:qcg st.env f args.toList=some (k,avs):=by simp only [go_sem,seval, *];exact rfl) (hv:(qai (qcn (fun _=>true) 9) avs).run (qag st.heap)=some pargs:=by simp only [go_sem,seval, *];all_goals exact zF)
  (hfl:(qie avs).isSome=true∨r.flat=true:=by first | exact .inr rfl | exact .inl rfl | exact .inl (by simp only [go_sem]))
  (hs:(⟨qd0 st.env o.dst (.p r),st.heap⟩:St)=st':=by rfl):AL C ops (o :: rest) Q st:=q82 ho hg hd hc hv hp hfl hs h
theorem yc {ops:Array Oper} {K:List Evt→St→Prop} {o:Oper} {f:Operand} {args:Array Operand} {ats:Array TypeId} {rest:List Oper} {acc:List Evt}
  {k:FuncId} {avs:List AV} {pargs:List PV} {r:PV} {rs:List Nat} {st':St}
  (hp:Con C.D C.P k pargs r) (h:DGo C ops rest st' (⟨.p r,none,rs⟩ :: acc) K)
  (ho:o.op=.call ⟨.value f,args,ats⟩:=by rfl) (hg:qal ops st.env o=some true:=by first | exact qcb rfl | exact qdw rfl rfl (by exact rfl) (by exact rfl)) (hd:qbc C.N o=true:=by rfl)
  (hc:qcg st.env f args.toList=some (k,avs):=by simp only [go_sem,seval, *];exact rfl) (hv:(qai (qcn (fun _=>true) 9) avs).run (qag st.heap)=some pargs:=by simp only [go_sem,seval, *];all_goals exact zF)
  (hrs:(qai (qcn (fun _=>true) 9) avs).reads (qag st.heap)=rs:=by simp only [go_sem,seval, *];exact rfl)
  (hfl:(qie avs).isSome=true∨r.flat=true:=by first | exact .inr rfl | exact .inl rfl | exact .inl (by simp only [go_sem]))
  (hs:(⟨qd0 st.env o.dst (.p r),st.heap⟩:St)=st':=by rfl):DGo C ops (o :: rest) st acc K:=DGo.con' ho hg hd hc hv hrs hp hfl hs h
theorem zw {ops:Array Oper} {l:List Oper} (d:Nat) (b:Bool) {h:List (Nat×AO)} {env:Env} (k:AL C ops l Q ⟨(d,.p (.bool b)) :: env,h⟩) (hv:env.get d=.p (.bool b):=by simp only [go_sem,seval, *];all_goals first | assumption | exact Bool.eq_false_iff.2 (by assumption)):AL C ops l Q ⟨env,h⟩:=q4y hv k
theorem yw {l0:Array Oper} {l:List Oper} (d:Nat) (b:Bool) {h:List (Nat×AO)} {env:Env} {acc:List Evt} (k:DGo C l0 l ⟨(d,.p (.bool b)) :: env,h⟩ acc (DK C l0 Q)) (hv:env.get d=.p (.bool b):=by simp only [go_sem,seval, *];all_goals first | assumption | exact Bool.eq_false_iff.2 (by assumption)):DGo C l0 l ⟨env,h⟩ acc (DK C l0 Q):=DGo.known' hv k
theorem zi {c:Operand} {x y:Code} (h:AWp C x Q st) (hc:ev st.env c=.p (.bool true):=by simp only [go_sem,seval, *];all_goals first | assumption | exact Bool.eq_false_iff.2 (by assumption)):AWp C (.cond c x y) Q st:=q67 hc h
theorem zj {c:Operand} {x y:Code} (h:AWp C y Q st) (hc:ev st.env c=.p (.bool false):=by simp only [go_sem,seval, *];all_goals first | assumption | exact Bool.eq_false_iff.2 (by assumption)):AWp C (.cond c x y) Q st:=q68 hc h
theorem zh {ops:Array Oper} {l l':List Oper} {env env':Env} {h:List (Nat×AO)} (k:AL C ops l' Q ⟨env',h⟩) (he:qom C.N ops l env=(l',env'):=by exact rfl):AL C ops l Q ⟨env,h⟩:=qxj he k
theorem yk {l0:Array Oper} {K:List Evt→St→Prop} {l l':List Oper} {env env':Env} {acc acc':List Evt} {h:List (Nat×AO)} (k:DGo C l0 l' ⟨env',h⟩ acc' K) (he:qli C.N l0 l env acc=(l',env',acc'):=by exact rfl):DGo C l0 l ⟨env,h⟩ acc K:=DGo.skips he k
theorem zE {s s':St} (h:Le C s s':=by simp only [go_sem,seval, *];all_goals exact zF):Le C s s':=h
theorem zL {c:Code} (st':St) (k:AWp C c Q st') (h:Le C st st':=by simp only [go_sem,seval, *];all_goals exact zF):AWp C c Q st:=q02 h k
theorem zM {ops:Array Oper} {l:List Oper} (st':St) (k:AL C ops l Q st') (h:Le C st st':=by simp only [go_sem,seval, *];all_goals exact zF):AL C ops l Q st:=AL_le h k
theorem zT {P:Program} {fn:Func} {r:PV} {s:St} {v:AV} {rs:_} (he:fn.results=rs) (h1:q0y P s rs.toList=some v:=by simp only [go_sem,seval, *];exact rfl) (h2:(qcn (fun _=>true) 9 v).run s.sig=some r:=by simp only [go_sem,seval, *];all_goals exact zF):vbf P fn r .ret s:=qru (by rw [he];exact h1) h2
theorem qvv (k:Nat):argsEnv k []=[]:=rfl
theorem qtk (k:Nat) (x:PV) (r:List PV):argsEnv k (x :: r)=(k,.p x) :: argsEnv (k+1) r:=rfl
theorem zP {P:Program} {f:FuncId} {fn:Func} {c:Code} {args:List PV} {r:PV} {N:Nat} {env:Env} (hk:HasBody P f) (hf:P.funcs[f]?=some fn) (hb:fn.body=some c) (hN:fn.ntmps=N)
  (h:∀X w hT,AWp ⟨P,N,0,X,[],fun _=>none,w,D,hT⟩ c (vbf P fn r) ⟨env,[]⟩) (hn:args.length≤N:=by simp) (he:argsEnv 0 args=env:=by simp only [qvv,qtk,Nat.reduceAdd];exact rfl):Con D P f args r :=
 ⟨hk,qob hf hb hN hn (by subst he;exact h)⟩
theorem zB {α β:Type} {x:Option α} {f:α→Option β} {r:β} (h:x.bind f=some r):∃a,x=some a∧f a=some r:=vif.1 h
theorem zI {c:Prop} [Decidable c] {α:Type} {a b:Option α} {r:α} (h:(if c then a else b)=some r):(c∧a=some r)∨(¬c∧b=some r):=by
 split at h
 ·exact .inl ⟨‹c›,h⟩
 ·exact .inr ⟨‹_›,h⟩
theorem zX {α β:Type} {l:List α} {i:Int} {f:α→Option β} {r:β} (h:(idx l i).bind f=some r):∃x,l[i.toNat]?=some x∧0≤i∧i < (l.length:Int)∧f x=some r:=by
 obtain ⟨x,h1,h2⟩:=vif.1 h;obtain ⟨a,b,c⟩:=q4w h1;exact ⟨x,b,a,c,h2⟩
theorem zY {α β:Type} {l:List α} {n:Nat} (k:Int) {f:α→Option β} {r:β} (h:(l[n]?).bind f=some r) (hk:(n:Int)=k:=by rfl):∃x,l[n]?=some x∧n < l.length∧k < (l.length:Int)∧f x=some r:=by
 obtain ⟨x,h1,h2⟩:=vif.1 h;have:=qap h1;exact ⟨x,h1,this,by omega,h2⟩
def tE (C:Cx) (k:Exit) (t:St) (e:Exit) (s:St):Prop:=e=k∧Le C s t
def tR (P:Program) (fn:Func) (r:PV) (e:Exit) (s:St):Prop:=e=.ret∧vbf P fn r .ret s
theorem zO {σ τ:Type} {c:Code} {B:σ→Option (LS σ τ)} {s0:σ} {t:τ} (S:σ→St) (T:τ→Exit→St→Prop) (hL:qas B s0=some t)
  (round:∀s x,B s=some x→AWp C c (LP C S T x) (S s)) (post:∀e s,T t e s→Wk C Q e s) (h0:Le C st (S s0):=by simp only [go_sem,seval, *];all_goals exact zF)
  (hn:∀t s,¬T t .normal s:=by intro o s hT;first | (have hh:=hT.1;cases hh;done) | (rcases o with _ | _ <;> (have hh:=hT.1;cases hh);done) | (rcases o with _ | (_ | _) <;> (have hh:=hT.1;cases hh);done) | (rcases o with _ | (_ | (_ | _)) <;> (have hh:=hT.1;cases hh);done)):AWp C (.loop c) Q st:=qzl S T hn hL h0 round post
theorem zA {k:Exit} {t:St} (h:Q k t):∀e s,tE C k t e s→Wk C Q e s:=by
 rintro e s ⟨rfl,hl⟩;exact Wk.to hl h
theorem zZ {P:Program} {fn:Func} {r:PV} (h:∀s,vbf P fn r .ret s→Q .ret s):∀e s,tR P fn r e s→Wk C Q e s:=by
 rintro e s ⟨rfl,hq⟩;exact Wk.now (h s hq)
theorem zJ {τ:Type} {x y:Code} (T:τ→Exit→St→Prop) (o:τ) (h:AWp C x (T o) st) (hq:∀e s,T o e s→Wk C (qm8 (fun s=>AWp C y Q s) Q) e s):AWp C (.seq x y) Q st:=q4v h hq
end Go.Ab
namespace Go.Ab
variable {D:Prop}
open Go
variable {X:Nat→Prop} {inj:Inj} {σ:Nat→AO} {w:World}
theorem qtl:∀{vs:List Value},(∀v∈vs,v.oneCell'=true)→flat vs=vs
 | [],_=>rfl
 | v :: vs,h=>by
  rw [qeq,qtl fun u hu=>h u (vhq _ hu)];have h1:=h v (vhr);have:v.cells=#[v]:=by
   cases v <;> first | rfl | simp [Value.oneCell'] at h1
  rw [this];rfl
variable {C:Cx} {Q:Exit→St→Prop} {st:St}
theorem qrw {X:Nat→Prop} {inj:Inj} {σ:Nat→AO} {w:World}:∀{l:List Int} {vs:List Value},ARs X inj σ w (vhj AV.p (vhj (PV.int .i64) l)) vs→vs=l.map (Value.int .i64)
 | [],vs,h=>h
 | x :: l,vs,h=>by
  obtain ⟨v,r,rfl,h2,h3⟩:=h;simp only [AR,PR] at h2;rw [h2,qrw h3];rfl
theorem qtm {X:Nat→Prop} {inj:Inj} {σ:Nat→AO} {w:World}:∀(l:List Int),ARs X inj σ w (vhj AV.p (vhj (PV.int .i64) l)) (l.map (Value.int .i64))
 | []=>rfl
 | x :: l=>⟨_,_,rfl,rfl,qtm l⟩
end Go.Ab
namespace Go.Ab
variable {D:Prop}
open Go
def q1w (n₀:Nat) (W:World) (sv:Value) (zs:List Int):Prop :=
 (∃a cap,sv=.slice a 0 cap∧zs=[])∨∃b off cap,sv=.slice (some ⟨b,off,none⟩) zs.length cap∧b < n₀∧∀j,j < zs.length→W.cell? ⟨b,off+j,none⟩=some (.int .i64 (zs[j]?.getD 0))
theorem q1w.below {n₀:Nat} {A B:World} (h:RowKit.Below n₀ A B) {sv:Value} {zs:List Int}:q1w n₀ A sv zs→q1w n₀ B sv zs
 | .inl e=>.inl e
 | .inr ⟨b,off,cap,e,hb,hc⟩=>.inr ⟨b,off,cap,e,hb,fun j hj=>(h.cell (p:=⟨b,off+j,none⟩) hb).trans (hc j hj)⟩
variable {C:Cx} {Q:Exit→St→Prop} {st:St}
end Go.Ab
namespace Go.Ab
variable {D:Prop}
open Go
def qqq (C:Cx) (ops:Array Oper):List Evt→Nat→(Nat→AV)×(Nat→AO)→Prop
 | [],_,_=>True
 | e :: es,i,s=>(∃o,ops[i]?=some o∧qvq C ops o s.1 s.2 e)∧qqq C ops es (i+1) (qg7 s.1 ((ops[i]?).bind (·.dst)) e.v,upd s.2 e.u)
theorem qqq.at {C:Cx} {ops:Array Oper}:∀{es:List Evt} {i:Nat} {s:(Nat→AV)×(Nat→AO)},qqq C ops es i s→∀j e,i≤j→es[j - i]?=some e →
  ∃o,ops[j]?=some o∧qvq C ops o (apD ops es i (fun m=>decide (m < j)) s).1 (apD ops es i (fun m=>decide (m < j)) s).2 e
 | [],i,s,h,j,e,hj,he=>by simp at he
 | e0 :: es,i,s,h,j,e,hj,he=>by
  obtain ⟨⟨o,ho,hst⟩,hrest⟩:=h;have skip:∀(es':List Evt) (m:Nat) (s':(Nat→AV)×(Nat→AO)),j≤m→apD ops es' m (fun m=>decide (m < j)) s'=s':=by
   intro es'
   induction es' with
   | nil=>intro m s' _;rfl
   | cons x xs ih=>intro m s' hm;simp only [apD];rw [if_neg (by simp;omega)];exact ih (m+1) s' (by omega)
  by_cases hji:j=i
  ·subst hji;simp only [vib,vhc,vgr] at he;subst he;rw [skip _ _ _ (vf9 _)];exact ⟨o,ho,hst⟩
  ·have hlt:i < j:=by omega
   have:=qqq.at hrest j e (by omega) (by rw [show j - i=(j - (i+1))+1 by omega] at he;simpa using he);simp only [apD];rw [if_pos (by simpa using hlt)];exact this
theorem DCh.chainP {C:Cx} {ops:Array Oper} {l:List Oper} {st:St} {es:List Evt} {st':St} (h:DCh C ops l st es st'):∀i,(∀j,j < l.length→ops[i+j]?=l[j]?) →
  es.length=l.length∧qqq C ops es i (st.env.get,st.sig)∧apD ops es i (fun _=>true) (st.env.get,st.sig)=(st'.env.get,st'.sig):=by
 induction h with
 | nil=>intro i hi;exact ⟨rfl,trivial,rfl⟩
 | @cons o rest st e es st' hd h hr ih =>
  intro i hi;have h0:ops[i]?=some o:=by have:=hi 0 (by simp);simpa using this
  obtain ⟨h3,h1,h2⟩:=ih (i+1) (fun j hj=>by have:=hi (j+1) (by simp;omega);rw [show i+1+j=i+(j+1) by omega,this];simp);have e1:((qg7 st.env.get ((ops[i]?).bind (·.dst)) e.v,upd st.sig e.u):(Nat→AV)×(Nat→AO))=((⟨qd0 st.env o.dst e.v,qle st.heap e.u⟩:St).env.get,(⟨qd0 st.env o.dst e.v,qle st.heap e.u⟩:St).sig):=by
   rw [h0];simp only [vgl,qgc,St.sig,qi3]
  refine ⟨by simp [h3],⟨⟨o,h0,hd,?_⟩,?_⟩,?_⟩
  ·rw [qmk,qh5];exact h
  ·rw [e1];exact h1
  ·simp only [apD,if_true];rw [e1];exact h2
theorem qqr {P:Program} {ops:Array Oper} {Q:Exit→Act→World→Prop} (hsl:qee ops=true) {n:Nat} (hlast:∀j,n≤j→j < ops.size→∀i,i < j→Reach ops j i) :
  ∀(k m fuel:Nat) (listed:Array Bool) (a:Act) (w:World),n≤m→m+k=ops.size→listed.size=ops.size→(∀j,j < m→listed.getD j false=true)→(∀j,m≤j→j < ops.size→listed.getD j false=false)→k≤fuel →
   wpOps P ops Q (vhx m k) a w→wpAny P .any ops Q fuel listed a w:=by
 intro k
 induction k with
 | zero =>
  intro m fuel listed a w hnm hm hsz hall hno hk hq;have hr:Region.ready .any ops listed=[]:=by
   cases hrd:Region.ready .any ops listed with
   | nil=>rfl
   | cons i _ =>
    exfalso;have hi:i∈Region.ready .any ops listed:=by rw [hrd];exact vhr
    obtain ⟨h0,o,ho,_⟩:=mem_ready.1 hi;have hlt:=(vd5.1 ho).1;have:=hall i (by omega);rw [getD_both h0] at this;cases this
  have hq':Q .normal a w:=hq;cases fuel with
  | zero=>exact ⟨hr,hq'⟩
  | succ fuel=>exact ⟨fun _=>hq',fun i hi=>by rw [hr] at hi;cases hi⟩
 | succ k ih =>
  intro m fuel listed a w hnm hm hsz hall hno hk hq;cases fuel with
  | zero=>omega
  | succ fuel =>
  have hcl:qql ops (fun j=>listed.getD j false):=by
   intro j hj p hp;have hjm:j < m:=by
    by_cases hjm:j < m
    ·exact hjm
    ·have hjs:j < ops.size:=by
      by_cases hjs:j < ops.size
      ·exact hjs
      ·have:listed.getD j false=false:=by simp [show ¬j < listed.size by omega]
       simp only [this] at hj;cases hj
     have:=hno j (by omega) hjs;simp only [this] at hj;cases hj
   by_cases hp':p < m
   ·exact hall p hp'
   ·exfalso;obtain ⟨oj,hoj⟩:∃oj,ops[j]?=some oj:=⟨ops[j]'(by omega),by simp [show j < ops.size by omega]⟩;have:=qe9 hsl (by omega:j < ops.size) p hp;omega
  refine ⟨fun hr=>?_,fun i hi=>?_⟩
  ·exfalso;have:m∈Region.ready .any ops listed:=by
    refine mem_ready.2 ⟨getD_in (by omega) (hno m (vf9 _) (by omega)),ops[m]'(by omega),by simp [show m < ops.size by omega],fun e he hb=>?_⟩;have hp:e.on∈qca ops m:=by
     unfold qca;simp only [show m < ops.size by omega,getElem?_pos];exact vht.2 ⟨e,vhs.2 ⟨by simpa using he,hb⟩,rfl⟩
    exact hall _ (qe9 hsl (by omega) _ hp)
   rw [hr] at this;cases this
  ·obtain ⟨h0,o,ho,hpre⟩:=mem_ready.1 hi;have hlt:=(vd5.1 ho).1;have him:i=m:=by
    rcases vh6 i m with h | h | h
    ·have:=hall i h;rw [getD_both h0] at this;cases this
    ·exact h
    ·exfalso;have hpre':∀m∈qca ops i,listed.getD m false=true:=by
      intro m hm;unfold qca at hm;rw [ho] at hm;obtain ⟨e,he,rfl⟩:=vht.1 hm;obtain ⟨he1,he2⟩:=vhs.1 he;exact hpre e (by simpa using he1) he2
     have:=(hlast i (by omega) hlt m h).ready (D:=fun j=>listed.getD j false) hcl hpre';simp only [hno m (vf9 _) (by omega)] at this;cases this
   subst him;rw [List.range'_succ,wpOps_cons] at hq;refine wpOp_mono (fun a' w' hq'=>ih (i+1) fuel _ a' w' (by omega) (by omega) (by simp [hsz]) (fun j hj=>?_) (fun j hj hjs=>?_) (by omega) hq') hq
   ·by_cases hji:i=j
    ·subst hji;simp [hsz,hlt]
    ·rw [getD_set_ne false hji];exact hall j (by omega)
   ·rw [getD_set_ne false (by omega)];exact hno j (by omega) hjs
theorem qzq {C:Cx} {ops:Array Oper} {es:List Evt} {s0:(Nat→AV)×(Nat→AO)} {Q:Exit→Act→World→Prop} {n:Nat} (hn:n < ops.size) (hlen:es.length=n) (hch:qqq C ops es 0 s0) (hsl:qee ops=true) (hev:qmm ops es=true)
  (hlast:∀j,n≤j→j < ops.size→∀i,i < j→Reach ops j i) (hQ:∀a w inj,SRf C (apD ops es 0 (fun _=>true) s0).1 (apD ops es 0 (fun _=>true) s0).2 inj a w→wpOps C.P ops Q (vhx n (ops.size - n)) a w) :
  ∀(fuel:Nat) (listed:Array Bool) (a:Act) (w:World) (inj:Inj),listed.size=ops.size→qql ops (fun j=>listed.getD j false)→(∀j,n≤j→j < ops.size→listed.getD j false=false)→(listed.toList.filter (! ·)).length≤fuel →
   SRf C (apD ops es 0 (fun j=>listed.getD j false) s0).1 (apD ops es 0 (fun j=>listed.getD j false) s0).2 inj a w→wpAny C.P .any ops Q fuel listed a w:=by
 have some_ready:∀(listed:Array Bool),listed.size=ops.size→listed.getD n false=false→Region.ready .any ops listed≠[]:=by
  intro listed hsz hnl hr;have all:∀j,j < ops.size→listed.getD j false=true:=by
   intro j
   induction j using vh8 with
   | _ j ih =>
    intro hj;by_cases hl:listed.getD j false=true
    ·exact hl
    ·have:j∈Region.ready .any ops listed:=by
      refine mem_ready.2 ⟨getD_in (by omega) (by simpa using hl),ops[j],by simp [hj],fun e he hb=>?_⟩;have hp:e.on∈qca ops j:=by
       unfold qca;simp only [hj,getElem?_pos];exact vht.2 ⟨e,vhs.2 ⟨by simpa using he,hb⟩,rfl⟩
      have hlt:=qe9 hsl hj _ hp;exact ih _ hlt (by omega)
     rw [hr] at this;cases this
  have:=all n hn;rw [hnl] at this;cases this
 have count:∀(k:Nat) (l:List Bool) (m:Nat),m+k=l.length→(∀j,m≤j→j < l.length→l[j]?=some false)→k≤(l.filter (! ·)).length:=by
  intro k l m hm h;have h1:(l.drop m).length=k:=by rw [vfc];omega
  have h2:((l.drop m).filter (! ·))=l.drop m:=by
   rw [List.filter_eq_self];intro b hb;obtain ⟨j,hj,rfl⟩:=List.mem_iff_getElem.1 hb;have:=h (m+j) (by omega) (by rw [vfc] at hj;omega);rw [List.getElem_drop];obtain ⟨_,h3⟩:=ve5.1 this;rw [h3];rfl
  have h3:((l.drop m).filter (! ·)).length≤(l.filter (! ·)).length:=by
   conv=>rhs;rw [←vh0 m l,List.filter_append,vfb]
   omega
  rw [h2,h1] at h3;exact h3
 intro fuel
 induction fuel with
 | zero =>
  intro listed a w inj hsz hcl hnl hf hs;exfalso;have hlt:n < listed.size:=by omega
  have hm:listed[n]'hlt∈listed.toList:=by simp
  have h0':listed[n]'hlt=false:=by simpa [hlt] using hnl n (vf9 _) hn
  have:listed[n]'hlt∈listed.toList.filter (! ·):=vhs.2 ⟨hm,by rw [h0'];rfl⟩;have:0 < (listed.toList.filter (! ·)).length:=vhh this;omega
 | succ fuel ih =>
  intro listed a w inj hsz hcl hnl hf hs;by_cases hfull:∀j,j < n→listed.getD j false=true
  ·rw [qkh ops es 0 _ (fun _=>true) s0 fun j _ h2=>hfull j (by omega)] at hs;refine qqr hsl hlast (ops.size - n) n _ listed a w (vf9 _) (by omega) hsz hfull hnl ?_ (hQ a w inj hs);refine vgb (count _ listed.toList n (by simp;omega) (fun j h1 h2=>?_)) hf;have:=hnl j h1 (by simp at h2;omega);have h3:j < listed.size:=by simpa using h2
   rw [Array.getElem?_toList];simpa [h3] using this
  refine ⟨fun hr=>absurd hr (some_ready listed hsz (hnl n (vf9 _) hn)),fun i hi=>?_⟩;obtain ⟨h0,o,ho,hpre⟩:=mem_ready.1 hi;have hlt:=(vd5.1 ho).1;have hltn:i < n:=by
   by_cases hltn:i < n
   ·exact hltn
   ·exfalso;apply hfull;intro j hj;have hpre':∀m∈qca ops i,listed.getD m false=true:=by
     intro m hm;unfold qca at hm;rw [ho] at hm;obtain ⟨e,he,rfl⟩:=vht.1 hm;obtain ⟨he1,he2⟩:=vhs.1 he;exact hpre e (by simpa using he1) he2
    exact (hlast i (by omega) hlt j (by omega)).ready (D:=fun j=>listed.getD j false) hcl hpre'
  have h0f:listed.getD i false=false:=getD_both h0;have hpre':∀m∈qca ops i,listed.getD m false=true:=by
   intro m hm;unfold qca at hm;rw [ho] at hm;obtain ⟨e,he,rfl⟩:=vht.1 hm;obtain ⟨he1,he2⟩:=vhs.1 he;exact hpre e (by simpa using he1) he2
  obtain ⟨e,he⟩:∃e,es[i]?=some e:=⟨es[i]'(by omega),ve3 (by omega)⟩;obtain ⟨o',ho',hst⟩:=hch.at i e (vie _) (by simpa using he);have:o'=o:=vih (ho'.symm.trans ho);subst this
  -- which are listed,compared with the text's order
  have cmpSlot:∀t∈o'.looksAt ops,(apD ops es 0 (fun j=>listed.getD j false) s0).1 t=(apD ops es 0 (fun m=>decide (m < i)) s0).1 t:=by
   intro t ht;refine qrq ops t es 0 _ _ s0 s0 rfl fun j _ hj hd=>?_
   obtain ⟨oj,hoj⟩:∃oj,ops[j]?=some oj:=⟨ops[j]'(by omega),by simp [show j < ops.size by omega]⟩;rw [hoj] at hd;simp only [vgl] at hd;rcases vh6 j i with hji | hji | hji
   ·simp only [hji,decide_true];rcases qc5 hsl hji hoj ho with hr | hr
    ·exact hr.ready (D:=fun j=>listed.getD j false) hcl hpre'
    ·exact absurd ht ((Oper.apart_spec hr).1 t hd)
   ·subst hji;simpa using h0f
   ·have:decide (j < i)=false:=by simp;omega
    rw [this];rcases qc5 hsl hji ho hoj with hr | hr
    ·by_cases hl:listed.getD j false=true
     ·have:=hr.closed (D:=fun j=>listed.getD j false) hcl hl;simp only [h0f] at this;cases this
     ·simpa using hl
    ·exact absurd ht ((Oper.apart_spec hr).2.2 t hd)
  have cmpLoc:∀l∈e.reads,(apD ops es 0 (fun j=>listed.getD j false) s0).2 l=(apD ops es 0 (fun m=>decide (m < i)) s0).2 l:=by
   intro l hl;refine qvr ops l es 0 _ _ s0 s0 rfl fun j ej _ hej hw=>?_
   simp only [vgj] at hej;have hjn:j < ops.size:=by have:=(ve5.1 hej).1;omega
   rcases vh6 j i with hji | hji | hji
   ·simp only [hji,decide_true];rcases qgn hev hji hlt hej he with hr | hr
    ·exact hr.ready (D:=fun j=>listed.getD j false) hcl hpre'
    ·exact absurd hl (hr.1 l hw).1
   ·subst hji;simpa using h0f
   ·have:decide (j < i)=false:=by simp;omega
    rw [this];rcases qgn hev hji hjn he hej with hr | hr
    ·by_cases hl':listed.getD j false=true
     ·have:=hr.closed (D:=fun j=>listed.getD j false) hcl hl';simp only [h0f] at this;cases this
     ·simpa using hl'
    ·exact absurd hl (hr.2 l hw)
  have hst':=hst.frame cmpSlot cmpLoc;obtain ⟨hdst,hst'⟩:=hst';have hjoin:=qrr ops i e es 0 (fun j=>listed.getD j false) s0 (vie _) (by simpa using he) h0f (by
   intro j ej hij hej hD;simp only [vgj] at hej;have hjn:j < ops.size:=by have:=(ve5.1 hej).1;omega
   obtain ⟨oj,hoj⟩:∃oj,ops[j]?=some oj:=⟨ops[j]'(by omega),by simp [show j < ops.size by omega]⟩;have nr:¬Reach ops j i:=fun hr=>by
    have:=hr.closed (D:=fun j=>listed.getD j false) hcl hD;simp only [h0f] at this;cases this
   constructor
   ·rcases qc5 hsl hij ho hoj with hr | hr
    ·exact (nr hr).elim
    ·rw [hoj,ho];simp only [vgl];cases hd:oj.dst with
     | none=>exact .inl rfl
     | some d =>
      refine .inr fun hh=>?_
      exact (Oper.apart_spec hr).2.1 d hh.symm hd
   ·rcases qgn hev hij hjn he hej with hr | hr
    ·exact (nr hr).elim
    ·cases hw:ej.wr with
     | none=>exact .inl rfl
     | some l =>
      refine .inr fun hh=>?_
      exact (hr.1 l hh.symm).2 hw)
  have hD':apD ops es 0 (fun j=>(listed.setIfInBounds i true).getD j false) s0=apD ops es 0 (fun j=>j == i || listed.getD j false) s0:=by
   refine qkh ops es 0 _ _ s0 fun j _ hj=>?_
   by_cases hji:i=j
   ·subst hji;simp [hsz,hlt]
   ·rw [getD_set_ne false hji];have:(j == i)=false:=by simp;omega
    simp [this]
  have next:∀a' w' inj',SRf C (qg7 (apD ops es 0 (fun j=>listed.getD j false) s0).1 o'.dst e.v) (upd (apD ops es 0 (fun j=>listed.getD j false) s0).2 e.u) inj' a' w' →
    wpAny C.P .any ops Q fuel (listed.setIfInBounds i true) a' w':=by
   intro a' w' inj' hs';refine ih (listed.setIfInBounds i true) a' w' inj' (by simp [hsz]) ?_ (fun j hj hjs=>by rw [getD_set_ne false (by omega)];exact hnl j hj hjs) ?_ ?_
   ·intro j hj m hm;by_cases hji:i=j
    ·subst hji;exact getD_set_true (hpre' m hm)
    ·have hj':(listed.setIfInBounds i true).getD j false=true:=hj;rw [getD_set_ne false hji] at hj';exact getD_set_true (hcl j hj' m hm)
   ·have hli:listed[i]?=some false:=by
     have:i < listed.size:=by omega
     simp [this] at h0f ⊢;exact h0f
    have key:∀(l:List Bool) (i:Nat),l[i]?=some false→((l.set i true).filter (! ·)).length+1=(l.filter (! ·)).length:=by
     intro l
     induction l with
     | nil=>intro i h;simp at h
     | cons b l ihl =>
      intro i h;cases i with
      | zero=>simp at h;subst h;simp
      | succ i =>
       simp only [vhb] at h;have:=ihl i h;cases b <;> simp [this] <;> omega
    have:=key listed.toList i (by simpa using hli);rw [vgx];omega
   ·rw [hD',hjoin,ho];exact hs'
  unfold wpOp;rw [ho];simp only;rcases hst' with ⟨hg,hdo⟩ | ⟨hg,rfl⟩
  ·rw [qe2 hs hg];simp only [if_true];exact .inl (hdo.sound hs hdst next)
  ·rw [qe2 hs hg];simp only [vei,if_false];exact next _ _ inj (hs.put (u:=none) hdst hs.hr (Ev.refl _ _ _ _) ⟨[],rfl,rfl⟩)
def qxk (ops:Array Oper) (n:Nat):Bool:=decide (n < ops.size) && (vhx n (ops.size - n)).all fun j=>(vft j).all fun i=>qpw (qxf ops ops.size) j i
theorem qvw {ops:Array Oper} {n:Nat} (h:qxk ops n=true):n < ops.size∧∀j,n≤j→j < ops.size→∀i,i < j→Reach ops j i:=by
 simp only [qxk,veg,decide_eq_true_eq,vg4,vhv,List.mem_range'_1] at h;exact ⟨h.1,fun j h1 h2 i hi=>qgu (h.2 j ⟨h1,by omega⟩ i hi)⟩
variable {C:Cx} {Q:Exit→St→Prop} {st:St}
def DKL (C:Cx) (l:Array Oper) (r:List Oper) (Q:Exit→St→Prop):List Evt→St→Prop:=fun es st'=>qmm l es=true∧AL C l r Q st'
theorem qp1 (n:Nat) {id:Nat} {l:List Oper} (hm:C.P.follows .mixedOrders=true) (hsl:qee l.toArray=true) (hls:qxk l.toArray n=true) (h:DGo C l.toArray (l.take n) st [] (DKL C l.toArray (l.drop n) Q)):AWp C (.region id l.toArray true) Q st:=by
 obtain ⟨es,st',h1,h2,h3⟩:=h;obtain ⟨hsize,hreach⟩:=qvw hls;have hsz:n < l.length:=by simpa using hsize
 obtain ⟨hel,hcp,hap⟩:=h1.chainP 0 (fun j hj=>by
  rw [vfh] at hj;rw [ve9,if_pos (by omega)];simp)
 have hel':es.length=n:=by rw [hel,vfh];omega
 simp only [List.reverse_nil,vfs] at h2;intro inj a w hs;refine wp_region_any hm ?_;have hf:Fr C.D w { w with drawn:=w.drawn+1 }:=⟨rfl,rfl,rfl,fun _=>vga _,vf9 _,fun _ _=>rfl,fun _ _=>rfl⟩;have hE:Ev C.D C.X inj st.sig w inj st.sig { w with drawn:=w.drawn+1 }:=hf.ev;refine qzq hsize hel' hcp hsl h2 hreach ?_ _ _ _ _ inj (by simp) ?_ ?_ ?_ ?_
 ·intro a' w' inj' hs';rw [hap] at hs';have hal:=h3 inj' a' w' ⟨hs'.env,hs'.size,hs'.defers,hs'.hr,hs'.ev⟩;have heq:=wpOps_eq_wpList (P:=C.P) (ops:=l.toArray) (Q:=q4h C Q) (l.drop n) n (fun j=>by rw [List.getElem?_drop];simp);rw [vfc] at heq;rw [vfw,heq];exact hal
 ·intro j hj;simp only [getD_replicate_false] at hj;cases hj
 ·intro j _ _;exact getD_replicate_false _ _
 ·refine vgb (vhg _ _) (by simp)
 ·rw [qkh l.toArray es 0 _ (fun _=>false) _ fun j _ _=>getD_replicate_false _ _];have hnone:∀(es:List Evt) (i:Nat) (s:(Nat→AV)×(Nat→AO)),apD l.toArray es i (fun _=>false) s=s:=by
   intro es
   induction es with
   | nil=>intro i s;rfl
   | cons e es ih=>intro i s;simp only [apD,vei,if_false];exact ih (i+1) s
  rw [hnone];exact ⟨fun t=>AR.ev hE hs.hr.xlt _ _ (hs.env t),hs.size,hs.defers,hs.hr.fr hf,hs.ev.trans hE⟩
theorem ydl {l:Array Oper} {r:List Oper} {acc:List Evt} (h:AL C l r Q st) (hev:qmm l acc.reverse=true:=by rfl):DGo C l [] st acc (DKL C l r Q):=DGo.done ⟨hev,h⟩
@[go_sem] theorem ex_func (σ σ':Nat→AO) (f f':Fn) (cs0 cs':List AV):(∃cs,AV.func f cs0=AV.func f' cs∧qgm σ σ' cs cs')=(f=f'∧qgm σ σ' cs0 cs'):=by
 refine propext ⟨?_,?_⟩
 ·rintro ⟨cs,h,h2⟩;cases h;exact ⟨rfl,h2⟩
 ·rintro ⟨rfl,h⟩;exact ⟨_,rfl,h⟩
end Go.Ab
namespace Go.Ab
open Go
set_option linter.constructorNameAsVariable false
theorem qpo (a b:Nat):vh3 a b=decide (a=b):=by
 by_cases h:a=b
 ·subst h;simp [Nat.beq_eq]
 ·simp only [h,decide_false];exact vgy.2 fun e=>h (Nat.eq_of_beq_eq_true e)
theorem nmod (a b:Nat):Nat.mod a b=a % b:=rfl
theorem ndiv (a b:Nat):Nat.div a b=a / b:=rfl
inductive Ps where
 | z | o (p:Ps) | i (p:Ps)
 deriving DecidableEq
def Ps.of:Nat→Nat→Ps
 | 0,_=>.z
 | f+1,k=>bif vh3 k 0 then .z else bif vh3 (Nat.mod k 2) 1 then .o (Ps.of f (Nat.div k 2)) else .i (Ps.of f (Nat.pred (Nat.div k 2)))
abbrev pth (k:Nat):Ps:=Ps.of (vic k) k
def Ps.num:Ps→Nat
 | .z=>0
 | .o p=>2 * p.num+1
 | .i p=>2 * p.num+2
theorem Ps.num_of:∀(f k:Nat),k < f→(Ps.of f k).num=k
 | 0,k,h=>by omega
 | f+1,k,h=>by
  simp only [Ps.of,qpo,nmod,ndiv,Nat.pred_eq_sub_one,cond_eq_ite,decide_eq_true_eq];by_cases hk:k=0
  ·subst hk;rfl
  ·simp only [hk,if_false];by_cases hm:k % 2=1
   ·simp only [hm,if_true,Ps.num];rw [Ps.num_of f (k / 2) (by omega)];omega
   ·simp only [hm,if_false,Ps.num];rw [Ps.num_of f (k / 2 - 1) (by omega)];omega
theorem q1x {j k:Nat} (h:pth j=pth k):j=k:=by
 have h1:=Ps.num_of (j+1) j (by omega);have h2:=Ps.num_of (k+1) k (by omega);unfold pth at h;rw [←h1,←h2];exact congrArg Ps.num h
inductive Ty (α:Type) where
 | e
 | n (v:α) (l r:Ty α)
def Ty.get {α:Type} (d:α) (t:Ty α) (p:Ps):α :=
 @Ps.rec (fun _=>Ty α→α) (fun t=>@Ty.rec α (fun _=>α) d (fun v _ _ _ _=>v) t) (fun _ ih t=>@Ty.rec α (fun _=>α) d (fun _ l _ _ _=>ih l) t) (fun _ ih t=>@Ty.rec α (fun _=>α) d (fun _ _ r _ _=>ih r) t) p t
def Ty.set {α:Type} (d:α) (v:α) (t:Ty α) (p:Ps):Ty α :=
 @Ps.rec (fun _=>Ty α→Ty α) (fun t=>@Ty.rec α (fun _=>Ty α) (.n v .e .e) (fun _ l r _ _=>.n v l r) t) (fun _ ih t=>@Ty.rec α (fun _=>Ty α) (.n d (ih .e) .e) (fun w l r _ _=>.n w (ih l) r) t)
  (fun _ ih t=>@Ty.rec α (fun _=>Ty α) (.n d .e (ih .e)) (fun w l r _ _=>.n w l (ih r)) t) p t
theorem Ty.get_e {α:Type} (d:α) (p:Ps):Ty.get d .e p=d:=by cases p <;> rfl
theorem Ty.get_set {α:Type} (d v:α):∀(p:Ps) (t:Ty α) (q:Ps),Ty.get d (Ty.set d v t p) q=if p=q then v else Ty.get d t q
 | .z,t,q=>by
  cases t <;> cases q <;> simp <;> first | rfl | (rw [Ty.get_e];exact Ty.get_e d _)
 | .o p,t,q=>by
  have ih:=Ty.get_set d v p;cases t with
  | e=>cases q with
   | o q=>simp only [Ps.o.injEq,Ty.get_e];have:=ih .e q;rw [Ty.get_e] at this;exact this
   | z=>simp;rfl
   | i q=>simp only [reduceCtorEq,if_false,Ty.get_e];exact Ty.get_e d q
  | n w l r=>cases q with
   | o q=>simp only [Ps.o.injEq];exact ih l q
   | z=>simp;rfl
   | i q=>simp;rfl
 | .i p,t,q=>by
  have ih:=Ty.get_set d v p;cases t with
  | e=>cases q with
   | i q=>simp only [Ps.i.injEq,Ty.get_e];have:=ih .e q;rw [Ty.get_e] at this;exact this
   | z=>simp;rfl
   | o q=>simp only [reduceCtorEq,if_false,Ty.get_e];exact Ty.get_e d q
  | n w l r=>cases q with
   | i q=>simp only [Ps.i.injEq];exact ih r q
   | z=>simp;rfl
   | o q=>simp;rfl
def ho (h:Ty AO) (l:Nat):AO:=Ty.get (.dead 0) h (pth l)
def qrx (h:Ty AO) (l:Nat) (o:AO):Ty AO:=Ty.set (.dead 0) o h (pth l)
theorem qi9 (h:Ty AO) (l:Nat) (o:AO):ho (qrx h l o)=qg6 (ho h) l o:=by
 funext k;unfold ho qrx qg6;rw [Ty.get_set];by_cases hk:l=k
 ·subst hk;simp
 ·rw [if_neg (fun h=>hk (q1x h)),if_neg (Ne.symm hk)]
theorem vbg:ho .e=qag []:=by funext l;exact Ty.get_e _ _
def eo (e:Ty AV) (t:Nat):AV:=Ty.get .any e (pth t)
theorem q7c (e:Ty AV) (t:Nat) (v:AV):eo (Ty.set .any v e (pth t))=qg7 (eo e) (some t) v:=by
 funext k;unfold eo qg7;rw [Ty.get_set];by_cases hk:t=k
 ·subst hk;simp
 ·rw [if_neg (fun h=>hk (q1x h)),if_neg (fun h=>hk (vih h))]
mutual
def qis:AV→List Nat
 | .own l _ _ _=>[l]
 | .loc l _ _ _=>[l]
 | .mapo l _=>[l]
 | .func _ cs=>qef cs
 | .agg cs=>qef cs
 | .tup cs=>qef cs
 | _=>[]
def qef:List AV→List Nat
 | []=>[]
 | v :: r=>qis v++qef r
end
def qkk:AO→List Nat
 | .arr _ _ _ es=>qef es
 | .map _ ks vs=>qef ks++qef vs
 | .dead _=>[]
def qon (l:Nat):List Nat→Bool
 | []=>false
 | k :: r=>bif vh3 k l then true else qon l r
theorem qgw {l:Nat}:∀{s:List Nat},qon l s=decide (l∈s)
 | []=>by simp [qon]
 | k :: r=>by
  simp only [qon,qpo,qgw (s:=r),vhp];by_cases h:k=l
  ·subst h;simp
  ·simp [h,Ne.symm h]
def qg8 (σ:Nat→AO):Nat→List Nat→List Nat→Option (List Nat)
 | _,[],seen=>some seen
 | 0,_,_=>none
 | n+1,l :: todo,seen=>bif qon l seen then qg8 σ n todo seen else qg8 σ n (qkk (σ l)++todo) (l :: seen)
theorem qjr {σ:Nat→AO}:∀{n:Nat} {todo seen S:List Nat},qg8 σ n todo seen=some S→(∀l∈seen,∀k∈qkk (σ l),k∈seen∨k∈todo) →
  (∀l∈seen,l∈S)∧(∀l∈todo,l∈S)∧∀l∈S,∀k∈qkk (σ l),k∈S
 | n,[],seen,S,h,hi=>by
  have:seen=S:=by cases n <;> simpa [qg8] using h
  subst this;exact ⟨fun _ h=>h,by simp,fun l hl k hk=>(hi l hl k hk).elim id (by simp)⟩
 | 0,_ :: _,_,_,h,_=>by cases h
 | n+1,l :: todo,seen,S,h,hi=>by
  simp only [qg8,qgw] at h;by_cases hl:l∈seen
  ·simp only [hl,decide_true,cond_true] at h;obtain ⟨h1,h2,h3⟩:=qjr h fun j hj k hk=>(hi j hj k hk).elim .inl fun h=>by
    rcases vhp.1 h with rfl | h
    ·exact .inl hl
    ·exact .inr h
   exact ⟨h1,fun j hj=>by
    rcases vhp.1 hj with rfl | hj
    ·exact h1 _ hl
    ·exact h2 _ hj,h3⟩
  ·simp only [hl,decide_false,cond_false] at h;obtain ⟨h1,h2,h3⟩:=qjr h fun j hj k hk=>by
    rcases vhp.1 hj with rfl | hj
    ·exact .inr (vhn _ hk)
    ·rcases hi j hj k hk with h | h
     ·exact .inl (vhq _ h)
     ·rcases vhp.1 h with rfl | h
      ·exact .inl vhr
      ·exact .inr (vho _ h)
   exact ⟨fun j hj=>h1 j (vhq _ hj),fun j hj=>by
    rcases vhp.1 hj with rfl | hj
    ·exact h1 _ vhr
    ·exact h2 _ (vho _ hj),h3⟩
def qxl:Fn→Fn→Bool
 | .func f,.func f'=>vh3 f f'
 | _,_=>false
theorem qtn {f f':Fn} (h:qxl f f'=true):f=f':=by
 cases f <;> cases f' <;> simp only [qxl,qpo,decide_eq_true_eq] at h <;> first | (rw [h];done) | cases h
mutual
def PV.same:PV→PV→Bool
 | .int k n,.int k' n'=>decide (k=k') && decide (n=n')
 | .bool a,.bool b=>a == b
 | .str s,.str s'=>decide (s=s')
 | .nilp,.nilp=>true
 | .nilf,.nilf=>true
 | .nili,.nili=>true
 | .nilm,.nilm=>true
 | .slc es,.slc es'=>PV.sames es es'
 | .nnil es,.nnil es'=>PV.sames es es'
 | .clip es,.clip es'=>PV.sames es es'
 | .imm es,.imm es'=>PV.sames es es'
 | .func f es,.func f' es'=>qxl f f' && PV.sames es es'
 | .agg es,.agg es'=>PV.sames es es'
 | .tup es,.tup es'=>PV.sames es es'
 | _,_=>false
def PV.sames:List PV→List PV→Bool
 | [],[]=>true
 | x :: xs,y :: ys=>PV.same x y && PV.sames xs ys
 | _,_=>false
end
mutual
theorem PV.same_eq:∀(x y:PV),PV.same x y=true→x=y
 | .int k n,y,h=>by cases y <;> simp_all [PV.same]
 | .bool a,y,h=>by cases y <;> simp_all [PV.same]
 | .str s,y,h=>by cases y <;> simp_all [PV.same]
 | .nilp,y,h=>by cases y <;> simp_all [PV.same]
 | .nilf,y,h=>by cases y <;> simp_all [PV.same]
 | .nili,y,h=>by cases y <;> simp_all [PV.same]
 | .nilm,y,h=>by cases y <;> simp_all [PV.same]
 | .slc es,y,h=>by cases y <;> simp only [PV.same] at h <;> first | (rw [PV.sames_eq _ _ h]) | cases h
 | .nnil es,y,h=>by cases y <;> simp only [PV.same] at h <;> first | (rw [PV.sames_eq _ _ h]) | cases h
 | .clip es,y,h=>by cases y <;> simp only [PV.same] at h <;> first | (rw [PV.sames_eq _ _ h]) | cases h
 | .imm es,y,h=>by cases y <;> simp only [PV.same] at h <;> first | (rw [PV.sames_eq _ _ h]) | cases h
 | .mapv ks vs,y,h=>by cases y <;> simp [PV.same] at h
 | .func f es,y,h=>by
  cases y <;> simp only [PV.same,veg] at h <;> first | (rw [qtn h.1,PV.sames_eq _ _ h.2]) | cases h
 | .agg es,y,h=>by cases y <;> simp only [PV.same] at h <;> first | (rw [PV.sames_eq _ _ h]) | cases h
 | .tup es,y,h=>by cases y <;> simp only [PV.same] at h <;> first | (rw [PV.sames_eq _ _ h]) | cases h
theorem PV.sames_eq:∀(x y:List PV),PV.sames x y=true→x=y
 | [],[],_=>rfl
 | [],_ :: _,h=>by simp [PV.sames] at h
 | _ :: _,[],h=>by simp [PV.sames] at h
 | x :: xs,y :: ys,h=>by
  simp only [PV.sames,veg] at h
  rw [PV.same_eq x y h.1,PV.sames_eq xs ys h.2]
end
mutual
def AV.same:AV→AV→Bool
 | .any,.any=>true
 | .p x,.p y=>PV.same x y
 | .nils,.nils=>true
 | .loc l g i o,.loc l' g' i' o'=>vh3 l l' && (vh3 g g' && (vh3 i i' && vh3 o o'))
 | .own l g i o,.own l' g' i' o'=>vh3 l l' && (vh3 g g' && (vh3 i i' && vh3 o o'))
 | .mapo l g,.mapo l' g'=>vh3 l l' && vh3 g g'
 | .func f es,.func f' es'=>qxl f f' && AV.sames es es'
 | .agg es,.agg es'=>AV.sames es es'
 | .tup es,.tup es'=>AV.sames es es'
 | _,_=>false
def AV.sames:List AV→List AV→Bool
 | [],[]=>true
 | x :: xs,y :: ys=>AV.same x y && AV.sames xs ys
 | _,_=>false
end
mutual
theorem AV.same_eq:∀(x y:AV),AV.same x y=true→x=y
 | .any,y,h=>by cases y <;> simp_all [AV.same]
 | .p x,y,h=>by cases y <;> simp only [AV.same] at h <;> first | (rw [PV.same_eq _ _ h]) | cases h
 | .nils,y,h=>by cases y <;> simp_all [AV.same]
 | .loc ..,y,h=>by cases y <;> simp_all [AV.same,qpo]
 | .own ..,y,h=>by cases y <;> simp_all [AV.same,qpo]
 | .mapo ..,y,h=>by cases y <;> simp_all [AV.same,qpo]
 | .func f es,y,h=>by
  cases y <;> simp only [AV.same,veg] at h <;> first | (rw [qtn h.1,AV.sames_eq _ _ h.2]) | cases h
 | .agg es,y,h=>by cases y <;> simp only [AV.same] at h <;> first | (rw [AV.sames_eq _ _ h]) | cases h
 | .tup es,y,h=>by cases y <;> simp only [AV.same] at h <;> first | (rw [AV.sames_eq _ _ h]) | cases h
theorem AV.sames_eq:∀(x y:List AV),AV.sames x y=true→x=y
 | [],[],_=>rfl
 | [],_ :: _,h=>by simp [AV.sames] at h
 | _ :: _,[],h=>by simp [AV.sames] at h
 | x :: xs,y :: ys,h=>by
  simp only [AV.sames,veg] at h
  rw [AV.same_eq x y h.1,AV.sames_eq xs ys h.2]
end
def AO.same:AO→AO→Bool
 | .dead g,.dead g'=>vh3 g g'
 | .arr e sz g es,.arr e' sz' g' es'=>(vh3 e e' && vh3 sz sz') && (vh3 g g' && AV.sames es es')
 | .map g ks vs,.map g' ks' vs'=>vh3 g g' && (AV.sames ks ks' && AV.sames vs vs')
 | _,_=>false
theorem AO.same_eq {x y:AO} (h:AO.same x y=true):x=y:=by
 cases x <;> cases y <;> simp only [AO.same,veg,qpo,decide_eq_true_eq] at h <;> first | (cases h;done) | skip
 ·rw [h]
 ·rw [h.1.1,h.1.2,h.2.1,AV.sames_eq _ _ h.2.2]
 ·rw [h.1,AV.sames_eq _ _ h.2.1,AV.sames_eq _ _ h.2.2]
end Go.Ab
namespace Go.Ab
open Go
def ovr:List (Nat×AO)→(Nat→AO)→Nat→AO
 | [],σ,l=>σ l
 | (k,o) :: r,σ,l=>if k=l then o else ovr r σ l
def Upd.list:Upd→List (Nat×AO)
 | none=>[]
 | some p=>[p]
theorem qoo (u:Upd) (σ:Nat→AO):ovr (Upd.list u) σ=upd σ u:=by
 cases u with
 | none=>rfl
 | some p =>
  funext l;simp only [Upd.list,ovr,upd,qg6];by_cases h:p.1=l
  ·rw [if_pos h,if_pos h.symm]
  ·rw [if_neg h,if_neg (Ne.symm h)]
theorem qni (us:List (Nat×AO)) (h:List (Nat×AO)):qag (us++h)=ovr us (qag h):=by
 funext l
 induction us with
 | nil=>rfl
 | cons p r ih =>
  obtain ⟨k,o⟩:=p;simp only [vg7,qag,ovr,ih]
theorem qlk {us:List (Nat×AO)} {σ:Nat→AO} {l:Nat} (h:l ∉ us.map (·.1)):ovr us σ l=σ l:=by
 induction us with
 | nil=>rfl
 | cons p r ih =>
  obtain ⟨k,o⟩:=p;simp only [vfj,vhp,not_or] at h;simp only [ovr];rw [if_neg (Ne.symm h.1),ih h.2]
theorem q1y {us:List (Nat×AO)} {σ τ:Nat→AO} {l:Nat} (h:l∈us.map (·.1)):ovr us σ l=ovr us τ l:=by
 induction us with
 | nil=>cases h
 | cons p r ih =>
  obtain ⟨k,o⟩:=p;simp only [ovr];by_cases hk:k=l
  ·rw [if_pos hk,if_pos hk]
  ·rw [if_neg hk,if_neg hk];rcases vhp.1 h with h | h
   ·exact absurd h.symm hk
   ·exact ih h
def OpM (P:Program) (o:Oper) (ρ:Operand→AV) (σ:Nat→AO) (v:AV) (us:List (Nat×AO)) (rs:List Nat):Prop :=
 ∀(D:Prop) (X:Nat→Prop) (ρ':Operand→AV) (σ':Nat→AO),(∀x∈o.op.operands,ρ' x=ρ x)→(∀l∈rs,σ' l=σ l) →
  ∀{inj:Inj} {w:World} {a:Act} {next:Act→World→Prop} {Q:Exit→Act→World→Prop},HR X inj σ' w→TabOk P (fun b=>X b∨F inj σ' b) w→(∀x,AR X inj σ' w (ρ' x) (a.eval x)) →
   (∀val w' inj',HR X inj' (ovr us σ') w'→Ev D X inj σ' w inj' (ovr us σ') w'→AR X inj' (ovr us σ') w' v val→next (a.put o.dst val) w')→o.wp P a w next Q
def vbh (D:Prop) (P:Program) (o:Oper) (ρ:Operand→AV) (σ:Nat→AO) (v:AV) (us:List (Nat×AO)) (rs:List Nat):Prop :=
 ∀(X:Nat→Prop) (ρ':Operand→AV) (σ':Nat→AO),(∀x∈o.op.operands,ρ' x=ρ x)→(∀l∈rs,σ' l=σ l) →
  ∀{inj:Inj} {w:World} {a:Act} {next:Act→World→Prop} {Q:Exit→Act→World→Prop},HR X inj σ' w→TabOk P (fun b=>X b∨F inj σ' b) w→(∀x,AR X inj σ' w (ρ' x) (a.eval x)) →
   (∀val w' inj',HR X inj' (ovr us σ') w'→Ev D X inj σ' w inj' (ovr us σ') w'→AR X inj' (ovr us σ') w' v val→next (a.put o.dst val) w')→o.wp P a w next Q
theorem OpM.md {D:Prop} {P:Program} {o:Oper} {ρ:Operand→AV} {σ:Nat→AO} {v:AV} {us:List (Nat×AO)} {rs:List Nat} (h:OpM P o ρ σ v us rs):vbh D P o ρ σ v us rs:=h D
theorem qop {P:Program} {B:Nat} {o:Oper} {ρ:Operand→AV} {σ:Nat→AO} {v:AV} {u:Upd} (h:(aop P B ρ o).run σ=some (v,u)):OpM P o ρ σ v (Upd.list u) ((aop P B ρ o).reads σ):=by
 intro D X ρ' σ' hρ hσ inj w a next Q hr hT ha hn
 have hc:aop P B ρ' o=aop P B ρ o:=qoe P B o hρ;obtain ⟨h1,_⟩:=L.frame _ h hσ;rw [←hc] at h1;refine qxb B o ρ' hr ha h1 fun val w' inj' k1 k2 k3=>?_
 rw [qoo] at hn;exact hn val w' inj' k1 k2.weak k3
theorem qoq {P:Program} {o:Oper} {ρ:Operand→AV} {σ:Nat→AO} {v:AV}
  (h:∀(X:Nat→Prop) (ρ':Operand→AV) (σ':Nat→AO) (inj:Inj) (w:World) (a:Act),(∀x∈o.op.operands,ρ' x=ρ x)→(∀x,AR X inj σ' w (ρ' x) (a.eval x))→∃val,(execOp a.eval o).run P w=.ok (.value val) w∧AR X inj σ' w v val):OpM P o ρ σ v [] []:=by
 intro D X ρ' σ' hρ _ inj w a next Q hr hT ha hn
 obtain ⟨val,h1,h2⟩:=h X ρ' σ' inj w a hρ ha;unfold Oper.wp;rw [h1];exact hn val w inj hr (Ev.refl _ _ _ _) h2
variable {C:Cx} {Q:Exit→St→Prop} {st:St}
theorem q1z {ops:Array Oper} {o:Oper} {rest:List Oper} {v:AV} {us:List (Nat×AO)} {rs:List Nat} (hg:qal ops st.env o=some true) (hd:qbc C.N o=true)
  (hop:OpM C.P o (ev st.env) st.sig v us rs) (h:AL C ops rest Q ⟨qd0 st.env o.dst v,us++st.heap⟩):AL C ops (o :: rest) Q st:=by
 intro inj a w hs;simp only [wpList,qb9 hs hg,if_true];refine .inl (hop C.D C.X (ev st.env) st.sig (fun _ _=>rfl) (fun _ _=>rfl) hs.hr (qi4 hs.ev) (fun x=>hs.eval x) fun val w' inj' h1 h2 h3=>?_);refine h inj' _ _ ?_;have hput:=hs.put (o:=o) (u:=none) hd hs.hr (Ev.refl _ _ _ _) (v:=.any) (val:=val) trivial;have hsg:(St.mk (qd0 st.env o.dst v) (us++st.heap)).sig=ovr us st.sig:=qni _ _;refine ⟨fun t=>?_,hput.size,hput.defers,by rw [hsg];exact h1,by rw [hsg];exact hs.ev.trans h2⟩;rw [hsg];cases hdst:o.dst with
 | none=>simpa [qd0,Act.put] using AR.ev h2 hs.hr.xlt _ _ (hs.env t)
 | some d =>
  simp only [qbc,hdst,decide_eq_true_eq] at hd;simp only [qd0,Act.put,Env.get];by_cases ht:d=t
  ·subst ht;rw [if_pos rfl];have:(a.tmps.setIfInBounds d val).getD d undef=val:=by simp [hs.size,hd]
   rw [this];exact h3
  ·rw [if_neg ht];have:(a.tmps.setIfInBounds d val).getD t undef=a.tmps.getD t undef:=by simp [vd7 ht]
   rw [this];exact AR.ev h2 hs.hr.xlt _ _ (hs.env t)
def qzr (op:BinOp) (t:Bool):Option AV:=match op with
 | .eql=>some (.p (.bool t))
 | .neq=>some (.p (.bool (!t)))
 | _=>none
def q10 (x y:AV):Option Bool:=match x,y with
 | .loc ..,.p .nilp=>some false
 | .p .nilp,.p .nilp=>some true
 | _,_=>none
def qto (P:Program) (t:TypeId):Bool:=match P.underlying t with
 | some (.pointer _)=>true
 | _=>false
def qh7 (P:Program) (t:TypeId):Bool:=match P.underlying t with
 | some (.slice _)=>true
 | _=>false
theorem qor {P:Program} {w:World} {op:BinOp} {t:TypeId} {x y:Value} {r:Bool} {v:AV} {ox oy:Operand} (hg:∀op:BinOp,(eqGuard op t ox oy x y).run P w=.ok () w)
  (he:(binOp .eql t x y).run P w=.ok (.bool r) w) (hn:(binOp .neq t x y).run P w=.ok (.bool (!r)) w) (h:qzr op r=some v) :
  ∃val,(do eqGuard op t ox oy x y;binOp op t x y:Sem Value).run P w=.ok val w∧∀X inj σ,AR X inj σ w v val:=by
 simp only [vgv,hg,vgt];unfold qzr at h;split at h
 ·cases h;exact ⟨_,he,fun _ _ _=>rfl⟩
 ·cases h;exact ⟨_,hn,fun _ _ _=>rfl⟩
 ·cases h
theorem q11 {P:Program} {t e:TypeId} (hu:P.underlying t=some (.pointer e)) (d:Nat) (b:Addr) (w:World):(Op.equalIn (d+1) t (.pointer (some b)) (.pointer none)).run P w=.ok false w:=by
 simp [Op.equalIn,run_underlying hu]
theorem q12 {P:Program} {t e:TypeId} (hu:P.underlying t=some (.pointer e)) (d:Nat) (w:World):(Op.equalIn (d+1) t (.pointer none) (.pointer none)).run P w=.ok true w:=by
 simp [Op.equalIn,run_underlying hu]
theorem q89 {P:Program} {dst:Option Tmp} {op:BinOp} {t yt ty:TypeId} {x y:Operand} {pos:String} {af:Array Edge} {gd:Option (Nat×Bool)} {ρ:Operand→AV} {σ:Nat→AO} {v:AV} {r:Bool}
  (ht:qto P t=true) (hr:q10 (ρ x) (ρ y)=some r) (hv:qzr op r=some v):OpM P ⟨dst,.binOp op t x y yt,ty,pos,af,gd⟩ ρ σ v [] []:=by
 refine qoq fun X ρ' σ' inj w a hρ ha=>?_
 have hx:=ha x;have hy:=ha y;rw [hρ x (by simp [Op.operands])] at hx;rw [hρ y (by simp [Op.operands])] at hy;unfold qto at ht;split at ht
 case h_2=>cases ht
 rename_i e hu;have key:∃val,(do eqGuard op t x y (a.eval x) (a.eval y);binOp op t (a.eval x) (a.eval y):Sem Value).run P w=.ok val w∧∀X inj σ,AR X inj σ w v val:=by
  unfold q10 at hr;split at hr
  ·rename_i l g i off h1 h2;rw [h1] at hx;rw [h2] at hy;obtain ⟨⟨b,hb⟩,_⟩:=hx;simp only [AR,PR] at hy;rw [hb,hy];cases hr;have hk:(Op.equal t (.pointer (some b)) (.pointer none)).run P w=.ok false w:=q11 hu 9999 b w;refine qor (fun op=>by cases op <;> simp [eqGuard]) ?_ ?_ hv
   ·simp [binOp,hk]
   ·simp [binOp,hk]
  ·rename_i h1 h2;rw [h1] at hx;rw [h2] at hy;simp only [AR,PR] at hx hy;rw [hx,hy];cases hr;have hk:(Op.equal t (.pointer none) (.pointer none)).run P w=.ok true w:=q12 hu 9999 w;refine qor (fun op=>by cases op <;> simp [eqGuard]) ?_ ?_ hv
   ·simp [binOp,hk]
   ·simp [binOp,hk]
  ·cases hr
 obtain ⟨val,h1,h2⟩:=key;refine ⟨val,?_,h2 _ _ _⟩;simp only [execOp,vgv];simp only [vgv] at h1;rw [h1];rfl
theorem q9a {P:Program} {dst:Option Tmp} {op:BinOp} {t yt ty:TypeId} {x y:Operand} {pos:String} {af:Array Edge} {gd:Option (Nat×Bool)} {ρ:Operand→AV} {σ:Nat→AO} {v:AV} {l g off len e sz:Nat} {es:List AV}
  (ht:qh7 P t=true) (hx0:ρ x=.own l g off (len+1)) (hy0:ρ y=.nils) (ho:σ l=.arr e sz g es) (hv:qzr op false=some v):OpM P ⟨dst,.binOp op t x y yt,ty,pos,af,gd⟩ ρ σ v [] [l]:=by
 intro D X ρ' σ' hρ hσ inj w a next Q hr hT ha hn
 have hx:=ha x;have hy:=ha y;rw [hρ x (by simp [Op.operands]),hx0] at hx;rw [hρ y (by simp [Op.operands]),hy0] at hy;unfold qh7 at ht;split at ht
 case h_2=>cases ht
 rename_i et hu;simp only [AR] at hy;obtain ⟨_,a2⟩:=hx;obtain ⟨_,a3⟩:=a2 _ ((hσ l (by simp)).trans ho);obtain ⟨a4,a5⟩:=a3 rfl _ _ _ rfl;have hval:∃aa n c,a.eval x=.slice (some aa) n c:=by
  rcases a5 with ⟨_,_,_,h0⟩ | ⟨b,c,aa,_,h1,h2,h3⟩
  ·omega
  ·rcases h3 with ⟨_,h3⟩ | h3
   ·omega
   ·exact ⟨_,_,_,by rw [h1,h3]⟩
 obtain ⟨aa,n,c,hval⟩:=hval;have key:∃val,(do eqGuard op t x y (a.eval x) (a.eval y);binOp op t (a.eval x) (a.eval y):Sem Value).run P w=.ok val w∧∀X inj σ,AR X inj σ w v val:=by
  rw [hval,hy];exact qor (fun op=>by cases op <;> simp [eqGuard]) (ven w t et _ _ _ _ _ hu) (run_neq_slice_nil_any w t et _ _ _ _ _ hu) hv
 obtain ⟨val,h1,h2⟩:=key;have hrun:(execOp a.eval ⟨dst,.binOp op t x y yt,ty,pos,af,gd⟩).run P w=.ok (.value val) w:=by
  simp only [execOp,vgv];simp only [vgv] at h1;rw [h1];rfl
 unfold Oper.wp;rw [hrun];exact hn val w inj hr (Ev.refl _ _ _ _) (h2 _ _ _)
theorem q9b {P:Program} {dst:Option Tmp} {ty:TypeId} {x:Operand} {t:TypeId} {pos:String} {af:Array Edge} {gd:Option (Nat×Bool)} {ρ:Operand→AV} {σ:Nat→AO}
  (ht:qh7 P t=true) (hx0:ρ x=.nils):OpM P ⟨dst,.call ⟨.builtin .cap,#[x],#[t]⟩,ty,pos,af,gd⟩ ρ σ (.p (.int .i64 0)) [] []:=by
 refine qoq fun X ρ' σ' inj w a hρ ha=>?_
 have hx:=ha x;rw [hρ x (by simp [Op.operands,Call.operands]),hx0] at hx;simp only [AR] at hx;unfold qh7 at ht;split at ht
 case h_2=>cases ht
 rename_i et hu;refine ⟨.int .i64 0,?_,rfl⟩;simp [execOp,resolve,invoke,builtin,hx,Builtin.cap_,goInt,run_underlying hu]
theorem q9c {P:Program} {dst:Option Tmp} {ty s d:TypeId} {x:Operand} {pos:String} {af:Array Edge} {gd:Option (Nat×Bool)} {ρ:Operand→AV} {σ:Nat→AO} {k kk:IntKind} {n:Nat}
  (hs:P.underlying s=some (.int kk)) (hd:P.underlying d=some .string) (hx0:ρ x=.p (.int k n)) (hn:n < 128):OpM P ⟨dst,.convert s d x,ty,pos,af,gd⟩ ρ σ (.p (.str [UInt8.ofNat n])) [] []:=by
 refine qoq fun X ρ' σ' inj w a hρ ha=>?_
 have hx:=ha x;rw [hρ x (by simp [Op.operands]),hx0] at hx;simp only [AR,PR] at hx;refine ⟨.string ⟨#[UInt8.ofNat n]⟩,?_,rfl⟩;have h128:∀m:Fin 128,(Utf8.encode (m.val:Int)).data=#[UInt8.ofNat m.val]:=by decide +kernel
 have he:Utf8.encode (n:Int)=⟨#[UInt8.ofNat n]⟩:=by
  have:=h128 ⟨n,hn⟩;cases hb:Utf8.encode (n:Int) with
  | mk d=>rw [hb] at this;exact congrArg ByteArray.mk this
 simp [execOp,convert,run_underlying hs,run_underlying hd,hx,Conv.intToString,he]
end Go.Ab
namespace Go.Ab
open Go
theorem qzs {z:Value} (n:Nat):(Builtin.zeroCells z.cells n).toList=flat (vfv n z):=qj8 z n
theorem q13 {P:Program} {dst:Option Tmp} {ty t tn e:TypeId} {s x:Operand} {pos:String} {af:Array Edge} {gd:Option (Nat×Bool)} {ρ:Operand→AV} {σ:Nat→AO} {k:IntKind} {kn:IntKind} {n B:Nat} {z:AV}
  (ht:P.underlying t=some (.slice e)) (htn:P.underlying tn=some (.int kn)) (hs0:ρ s=.nils) (hx0:ρ x=.p (.int k n)) (hz:qbo P e=some z) (hel:qdg (P.cellsOf e) z=true) (hpos:0 < n) (hc:0 < P.cellsOf e)
  (hroom:qf6 P e n=true) (hl:qb8.zeroLen P e=P.cellsOf e) (hB:σ B=.dead 0) :
  OpM P ⟨dst,.call ⟨.builtin .append,#[s,x],#[t,tn]⟩,ty,pos,af,gd⟩ ρ σ (.own B 1 0 n) [(B,.arr e (P.cellsOf e) 1 (vfv n z))] [B]:=by
 intro D X ρ' σ' hρ hσ inj w a next Q hr hT ha hn
 have hs:=ha s;have hx:=ha x;rw [hρ s (by simp [Op.operands,Call.operands]),hs0] at hs;rw [hρ x (by simp [Op.operands,Call.operands]),hx0] at hx;have ho:=(hσ B (by simp)).trans hB;simp only [AR,PR] at hs hx;simp only [qf6,decide_eq_true_eq] at hroom;obtain ⟨hby,h63⟩:=hroom;obtain ⟨i,z0,hi,hz0,hzl',his,hib⟩:=qkd (P:=P) (e:=e) (by rw [hz];rfl);have hzv:z=ofV z0:=by
  unfold qbo at hz;rw [hi] at hz;simpa [hz0] using hz.symm
 have hzr:∀X inj σ w,AR X inj σ w z z0:=fun X inj σ w=>by rw [hzv];exact qk5 z0
 have hrun:=Lib.run_append_nil_zeros (P:=P) w t tn ty e i z0 k kn ht htn hi hz0 n hpos (by omega) (by omega) (by rw [hib];omega);have hge:=grownCap_ge w n 0 e;have hz1:z0.cells.size=P.cellsOf e:=by rw [←hzl'];exact hl
 have hars:∀m,ARs X inj σ' w (vfv m z) (vfv m z0):=fun m=>by
  induction m with
  | zero=>rfl
  | succ m ih=>exact ⟨z0,_,rfl,hzr _ _ _ _,ih⟩
 obtain ⟨_,hone⟩:=AR.cells_of (X:=X) (inj:=inj) (σ:=σ') (w:=w) (by
  have:=hel;unfold qdg at this;simp only [veg] at this;exact this.1) (hzr X inj σ' w)
 have hone2:qat (flat (vfv n z0)):=by
  intro u hu;unfold flat at hu;obtain ⟨v,hv,hu⟩:=vfm.1 hu;rw [(vfr.1 hv).2] at hu;exact hone u hu
 have hall:=hr.alloc (D:=D) (l:=B) (g':=1) (e:=e) (sz:=P.cellsOf e) (es:=vfv n z) (vs:=vfv n z0) (w1:=w.drew) (c:=grownCap w n 0 e)
  (cur:=Builtin.zeroCells z0.cells n++Builtin.zeroCells z0.cells (grownCap w n 0 e - n)) (.inr rfl) (by rw [ho];exact vgd 0) (hars n) (fun v hv=>by rw [(vfr.1 hv).2];exact hz1) hone2
  (by simpa using hge) (grownCap_le_maxLen w _ 0 e (by simp only [maxLen];omega))
  (by
   simp only [Array.size_append,size_zeroCells];rw [hz1,←Nat.add_mul];congr 1;omega)
  (by
   simp only [Array.toList_append,vff];rw [qzs];refine List.take_left' ?_;rw [qa0 (sz:=P.cellsOf e) (fun v hv=>by rw [(vfr.1 hv).2];exact hz1),vff])
 have hexec:(execOp a.eval ⟨dst,.call ⟨.builtin .append,#[s,x],#[t,tn]⟩,ty,pos,af,gd⟩).run P w=.ok (.value (.slice (some ⟨w.heap.size,0,none⟩) n (grownCap w n 0 e))) (w.drew.alloc (.cells (Builtin.zeroCells z0.cells n++Builtin.zeroCells z0.cells (grownCap w n 0 e - n)) e)):=by
  simp only [execOp,resolve,vgv,vgw,vgt,invoke,qht];have:(#[s,x]:Array Operand).map a.eval=#[.slice none 0 0,.int k n]:=by simp [hs,hx]
  rw [this,hrun];simp
 unfold Oper.wp;rw [hexec];have hov:ovr [(B,.arr e (P.cellsOf e) 1 (vfv n z))] σ'=qg6 σ' B (.arr e (P.cellsOf e) 1 (vfv n z)):=by
  have:=qoo (some (B,.arr e (P.cellsOf e) 1 (vfv n z))) σ';exact this
 rw [hov] at hn;refine hn _ _ _ hall.1 hall.2 ?_;exact qgb (inj:=fun j=>if j=B then some (w.heap.size,grownCap w n 0 e) else inj j) (qcp _ _ _) (by simp) (by simp) hge
theorem HR.head {D:Prop} {X:Nat→Prop} {inj:Inj} {σ:Nat→AO} {w:World} {l e sz g len:Nat} {es:List AV} (h:HR X inj σ w) (ho:σ l=.arr e sz g es) (hl:len≤es.length) :
  HR X inj (qg6 σ l (.arr e sz (g+1) (es.take len))) w∧Ev D X inj σ w inj (qg6 σ l (.arr e sz (g+1) (es.take len))) w:=by
 have hup:=h.update (D:=D) (w':=w) (l:=l) (o:=.arr e sz g es) (o':=.arr e sz (g+1) (es.take len)) (x:=inj l) ho rfl rfl rfl (fun _=>vf9 _) (vf9 _) (fun _ _=>rfl) (fun _ _ _=>rfl)
  (fun b c hb=>.inr ⟨rfl,c,hb⟩) ⟨vga _,fun _ he=>by simp [AO.gen] at he⟩
 rw [qig] at hup;obtain ⟨hev,hhr⟩:=hup;refine ⟨hhr ?_,hev⟩;obtain ⟨vs,o1,o2,o3,o4⟩:=(ho ▸ h.obj l _ rfl:OR X inj σ w l (.arr e sz g es));have hvl:=o1.length;refine ⟨vs.take len,ARs.ev hev h.xlt _ _ (o1.take len),fun v hv=>o2 v (vfp hv),?_,?_⟩
 ·rw [qfv len o2];intro v hv;exact o3 v (vfp hv)
 ·rcases o4 with ⟨p1,p2⟩ | ⟨b,c,cur,p1,p2,p3,p4,p5,p6,p7⟩
  ·exact .inl ⟨p1,by rw [p2];simp⟩
  ·refine .inr ⟨b,c,cur,p1,p2,p3,by rw [vfh];omega,p5,p6,?_⟩;rw [vfh,vh7 hl,qfv len o2,←p7,List.take_take,vh7 (vgg _ hl)]
theorem qvx {P:Program} {dst:Option Tmp} {ty t e sz:TypeId} {s x:Operand} {pos:String} {af:Array Edge} {gd:Option (Nat×Bool)} {ρ:Operand→AV} {σ:Nat→AO} {l g len B:Nat} {es:List AV} {r:AV} {up:Upd} {rs:List Nat}
  (hs0:ρ s=.own l g 0 len) (ho:σ l=.arr e sz g es) (hl:len≤es.length)
  (hr0:(qb8 P B t (.own l (g+1) 0 len) (ρ x)).run (qg6 σ l (.arr e sz (g+1) (es.take len)))=some (r,up)) (hrs:(qb8 P B t (.own l (g+1) 0 len) (ρ x)).reads (qg6 σ l (.arr e sz (g+1) (es.take len)))=rs) :
  OpM P ⟨dst,.call ⟨.builtin .append,#[s,x],#[t,t]⟩,ty,pos,af,gd⟩ ρ σ r (Upd.list up++[(l,.arr e sz (g+1) (es.take len))]) (l :: rs):=by
 intro D X ρ' σ' hρ hσ inj w a next Q hr hT ha hn
 have hs:=ha s;have hx:=ha x;rw [hρ s (by simp [Op.operands,Call.operands]),hs0] at hs;rw [hρ x (by simp [Op.operands,Call.operands])] at hx;have ho':=(hσ l (by simp)).trans ho;obtain ⟨h1,h2⟩:=hr.head (D:=D) ho' hl;have hs':AR X inj (qg6 σ' l (.arr e sz (g+1) (es.take len))) w (.own l (g+1) 0 len) (a.eval s):=by
  obtain ⟨a1,a2⟩:=hs;obtain ⟨_,a3⟩:=a2 _ ho';obtain ⟨a4,a5⟩:=a3 rfl _ _ _ rfl;refine ⟨a1,fun o hoo=>?_⟩;rw [qcp] at hoo;subst hoo;refine ⟨vf9 _,fun _ e2 sz2 es2 he=>?_⟩;cases he;exact ⟨by rw [vfh];omega,a5⟩
 have hx':=AR.ev h2 hr.xlt _ _ hx;have hfr:(qb8 P B t (.own l (g+1) 0 len) (ρ x)).run (qg6 σ' l (.arr e sz (g+1) (es.take len)))=some (r,up):=by
  refine (L.frame _ hr0 fun k hk=>?_).1;rw [hrs] at hk;unfold qg6;by_cases hkl:k=l
  ·rw [if_pos hkl,if_pos hkl]
  ·rw [if_neg hkl,if_neg hkl];exact hσ k (by simp [hk])
 obtain ⟨val,w',inj',q1,q2,q3,q4⟩:=qih (D:=D) (ty:=ty) h1 hs' hx' hfr;have hov:ovr (Upd.list up++[(l,.arr e sz (g+1) (es.take len))]) σ'=upd (qg6 σ' l (.arr e sz (g+1) (es.take len))) up:=by
  rw [←qoo];funext k;cases up with
  | none =>
   have:=congrFun (qoo (some (l,.arr e sz (g+1) (es.take len))) σ') k;exact this
  | some p =>
   have:=congrFun (qoo (some (l,.arr e sz (g+1) (es.take len))) σ') k;simp only [Upd.list,vg7,vfs,ovr] at this ⊢;split
   ·rfl
   ·exact this
 have hexec:(execOp a.eval ⟨dst,.call ⟨.builtin .append,#[s,x],#[t,t]⟩,ty,pos,af,gd⟩).run P w=.ok (.value val) w':=by
  simp only [execOp,resolve,vgv,vgw,vgt,invoke,qht];have:(#[s,x]:Array Operand).map a.eval=#[a.eval s,a.eval x]:=by simp
  rw [this,q1];simp
 unfold Oper.wp;rw [hexec];rw [hov] at hn;exact hn val w' inj' q2 (h2.trans q3) q4
end Go.Ab
namespace Go.Ab
variable {D:Prop}
open Go
variable {C:Cx} {Q:Exit→St→Prop} {st:St}
end Go.Ab
namespace Go.Ab
open Go
theorem qxm {n:Int} (h1:0≤n) (h2:n≤4294967295):vg2.wrap n=n:=by
 simp only [vg3,vg1,vg0];simp only [vgz,vei,if_false];rw [show ((2:Int) ^ 32)=4294967296 from rfl];omega
theorem vcq (b:BitVec 32):vg2.wrap ((b.toNat:Nat):Int)=((b.toNat:Nat):Int):=by
 have:=b.isLt;exact qxm (by omega) (by omega)
theorem q14 {a:Nat} (h:a < 4294967296):(BitVec.ofInt 32 (a:Int)).toNat=a:=by
 rw [BitVec.ofInt_natCast,BitVec.toNat_ofNat];exact Nat.mod_eq_of_lt h
theorem qnj (a i:Nat):Int.fdiv (a:Int) (2 ^ i)=((a / 2 ^ i:Nat):Int):=by
 have:((2:Int) ^ i)=((2 ^ i:Nat):Int):=by simp
 rw [this];generalize 2 ^ i=p;rw [Int.fdiv_eq_ediv_of_nonneg _ (by omega)];exact (Int.natCast_ediv a p).symm
def pop8 (i:Nat):Nat:=((vft 8).filter fun k=>i.testBit k).length
theorem vcr (n:Nat) (k:Nat) (hk:k≤32):Int.fdiv (n:Int) (2 ^ (min k 32))=((n / 2 ^ k:Nat):Int):=by rw [vh7 hk,qnj]
def qxn (n:Nat):Nat:=pop8 (n / 16777216)+pop8 (n / 65536 % 256)+pop8 (n / 256 % 256)+pop8 (n % 256)
end Go.Ab
namespace Go.Ab
open Go
variable {C:Cx} {Q:Exit→St→Prop} {st:St}
end Go.Ab
namespace Go.Proofs
open Go.Shelf Go.RowKit Go.Lib
variable {P:Program} {ρ:Ren}
set_option maxHeartbeats 2000000 in
set_option maxRecDepth 100000 in
theorem AbE.clone_zero (L:SlLaysE0.n41 P ρ) (i0:TypeInfo) (z:Value) (size bytes:Nat) (hi:P.info? (ρ.t 23)=some i0) (hz0:i0.zero=some z) (hz1:i0.size=size) (hz2:i0.bytes=bytes) (hzs:z.cells.size=size) (hsz:0 < size)
  (z23:∀w,(Go.sizeOf (ρ.t 23)).run P w=.ok size w) (a:Addr) (c:Nat) (w:World) :
  Calls P (ρ.f 41) #[.slice (some a) 0 c] w fun e w'=>∃v',e=.returned v'∧w'.ownsRow w.heap.size (ρ.t 23) size v' 0 []∧Below w.heap.size w w':=by
 have mixed:=L.mixed;have t4:=L.t4;have a4:=L.a4;have z4:=L.z4;have v4:=L.v4;have t22:=L.t22;have a22:=L.a22;have z22:=L.z22;have v22:=L.v22
 have q22:∀(w:World) (a:Option Addr) (n c n' c':Nat),(binOp .eql (ρ.t 22) (.slice a n c) (.slice none n' c')).run P w=.ok (.bool a.isNone) w:=fun w a n c n' c'=>ven w _ _ a n c n' c' L.t22
 have u22:∀w,Sem.run P (underlying (ρ.t 22)) w=.ok (TypeDesc.slice (ρ.t 23)) w:=run_underlying t22
 obtain ⟨_,_,FG⟩:=L.f41
 go_enter FG,SlBodyN.n41_ntmps ρ
 go_wp2_with (at_builtin;refine wpList_append_own _ rfl _ _ (ρ.t 22) rfl w.heap.size (ρ.t 23) i0 z size bytes t22 hi hz0 hz1 hz2 hzs hsz _ _ _ rfl (World.ownsRow_made w #[] 0 (vf9 _) (vie _) (by simp)) a 0 c [] rfl (by simp) (by intro j u hj;simp at hj) (by intro u hu;cases hu) (by unfold maxLen;omega) (by omega) (by simp) ?_)
 intro v' w1 hown hgrow hnil
 go_wp2
 go_ret
 refine ⟨v',rfl,by simpa using hown,?_⟩
 exact ((Below.refl _ w).alloc (vf9 _) _).grown hgrow (by simp) (by intro k hk;simp [Value.ownBlock] at hk;omega)
theorem AbE.cln (L:SlLaysE0.n41 P ρ) (hb:Ab.HasBody P (ρ.f 41)) (i0:TypeInfo) (z:Value) (size bytes:Nat) (hi:P.info? (ρ.t 23)=some i0) (hz0:i0.zero=some z) (hz1:i0.size=size) (hz2:i0.bytes=bytes) (hzs:z.cells.size=size) (hsz:0 < size):Ab.Cln P (ρ.f 41) (ρ.t 23) size bytes :=
 have z23:∀w,(Go.sizeOf (ρ.t 23)).run P w=.ok size w:=fun w=>by subst hz1;simp [Go.sizeOf,typeInfo,hi]
 ⟨hb,fun b off n c news w h1 h2 h3 h4 h5=>(AnyE.slices_Clone L i0 z size bytes hi hz0 hz1 hz2 hzs hsz z23 b off n c news w h1 h2 h3 h4 h5).mono fun e w' ⟨v,p1,p2,_,p4⟩=>⟨v,p1,p2,p4⟩,
  fun a c w=>AbE.clone_zero L i0 z size bytes hi hz0 hz1 hz2 hzs hsz z23 a c w,fun n c w=>AnyE.slices_Clone_nil L n c w⟩
end Go.Proofs
namespace Go.Ab
variable {D:Prop}
open Go
@[go_sem] theorem q42 {α:Type} (i n j:Nat) (l:List α):vhz (i+(n - j)) (vhz i l++vhz (n - j) (List.drop j l))=vhz i l++vhz (n - j) (List.drop j l) :=
 vfz (by rw [vfb,vfh,vfh];omega)
variable {C:Cx} {Q:Exit→St→Prop} {st:St}
theorem yK {ops:Array Oper} {K:List Evt→St→Prop} {o:Oper} {f:Operand} {args:Array Operand} {ats:Array TypeId} {rest:List Oper} {acc:List Evt} {c:FuncId} {e sz by' g:Nat} {α:Type}
  (S:Cln C.P c e sz by') (k:Nat) (enc:α→PV) (l:List α) (n:Nat) (hl:l.length=n) (hn:n≤maxLen∧n * by'≤140737488355328)
  (h:DGo C ops rest ⟨qd0 st.env o.dst (.own k (g+1) 0 n),q0w st.heap k (.arr e sz (g+1) ((l.map enc).map AV.p))⟩ (⟨.own k (g+1) 0 n,some (k,.arr e sz (g+1) ((l.map enc).map AV.p)),[k]⟩ :: acc) K)
  (hw:¬C.D:=by exact id) (ho:o.op=.call ⟨.value f,args,ats⟩:=by rfl) (hgd:qal ops st.env o=some true:=by first | exact qcb rfl | exact qdw rfl rfl (by exact rfl) (by exact rfl)) (hd:qbc C.N o=true:=by rfl) (hk:qe6 C.B o=k:=by rfl)
  (hc:qcg st.env f args.toList=some (c,[.p (.slc (l.map enc))]):=by simp only [go_sem,seval, *];all_goals first | exact rfl | exact ⟨rfl,rfl⟩)
  (hel:((l.map enc).map AV.p).all (qdg sz)=true:=by exact qlh _ _ _ fun _=>⟨rfl,rfl⟩)
  (hg:qag st.heap k=.dead g:=by simp only [go_sem,seval, *];all_goals first | exact rfl | exact qoc rfl):DGo C ops (o :: rest) st acc K :=
 DGo.cloned S hw ho hgd hd hk hc hel (by rw [vfd,hl];exact hn.1) (by rw [vfd,hl];exact hn.2) hg (by rw [vfd,hl]) rfl h
end Go.Ab
namespace Go.Ab
variable {D:Prop}
open Go
variable {X:Nat→Prop} {inj:Inj} {σ:Nat→AO} {w:World}
variable {C:Cx} {Q:Exit→St→Prop} {st:St}
end Go.Ab
namespace Go.Ab
open Go
variable {C:Cx} {Q:Exit→St→Prop} {st:St}
end Go.Ab
namespace Go.Ab
open Go
variable {C:Cx} {Q:Exit→St→Prop} {st:St} {inj:Inj} {a:Act} {w:World}
attribute [go_sem] vhl
@[go_sem,simp] theorem LeVs_rep (σ σ':Nat→AO) (n:Nat) (x:PV):qgm σ σ' (vfv n (.p x)) (vfv n (.p x)):=by
 have:=qs9 σ σ' (vfv n x);simpa only [vhl] using this
end Go.Ab
namespace Go.Ab
open Go
theorem qll:∃g:Nat→Nat→Nat,(∀f i k,k < 1048576→k≠g f i)∧(∀f i j,g f i=g f j→i=j)∧∀f f' i j,f < 1048576→f' < 1048576→f≠f'→g f i≠g f' j :=
 ⟨fun f i=>1048576 * (i+1)+f,fun f i k h=>by show k≠1048576 * (i+1)+f;omega,fun f i j h=>by simp only at h;omega,fun f f' i j h h' hn=>by show 1048576 * (i+1)+f≠1048576 * (j+1)+f';omega⟩
def fx:Nat→Nat→Nat:=Classical.choose qll
theorem q15 {f i k:Nat} (h:k < 1048576):k≠fx f i:=(Classical.choose_spec qll).1 f i k h
theorem qtp {k f i:Nat} (h:k < 1048576):(k=fx f i)=False:=eq_false (q15 h)
theorem qtq {k f i:Nat} (h:k < 1048576):(fx f i=k)=False:=eq_false fun e=>q15 h e.symm
theorem qtr {f i j:Nat}:(fx f i=fx f j)=(i=j):=propext ⟨(Classical.choose_spec qll).2.1 f i j,fun h=>by rw [h]⟩
theorem fx_ne {f f' i j:Nat} (h:f < 1048576) (h':f' < 1048576) (hn:f≠f'):(fx f i=fx f' j)=False:=eq_false ((Classical.choose_spec qll).2.2 f f' i j h h' hn)
variable {α:Type}
def famR (f e sz G:Nat) (enc:α→PV) (ll:List (List α)):List AV:=ll.mapIdx fun i x=>.own (fx f i) G 0 x.length
def qnk (f e sz G:Nat) (enc:α→PV) (ll:List (List α)) (rest:List (Nat×AO)):List (Nat×AO) :=
 (ll.mapIdx fun i x=>(fx f i,AO.arr e sz G (vhj AV.p (vhj enc x))))++rest
theorem q43 (f e sz G:Nat) (enc:α→PV):famR f e sz G enc []=[]:=rfl
theorem q44 (f e sz G:Nat) (enc:α→PV) (rest:List (Nat×AO)):qnk f e sz G enc [] rest=rest:=rfl
theorem q9d {a b:List (Nat×AO)} {l:Nat} (h:(a.any fun x=>x.1 == l)=true):qag (a++b) l=qag a l:=by
 induction a with
 | nil=>simp at h
 | cons x a ih =>
  obtain ⟨k,o⟩:=x;simp only [vg7,qag];by_cases hk:k=l
  ·rw [if_pos hk,if_pos hk]
  ·rw [if_neg hk,if_neg hk];rw [vg5,vel] at h;rcases h with h | h
   ·exact absurd (by simpa using h) hk
   ·exact ih h
theorem qxo {a b:List (Nat×AO)} {l:Nat} (h:¬(a.any fun x=>x.1 == l)=true):qag (a++b) l=qag b l:=by
 induction a with
 | nil=>rfl
 | cons x a ih =>
  obtain ⟨k,o⟩:=x;rw [vg5,vel,not_or] at h;have hk:¬k=l:=by simpa using h.1
  simp only [vg7,qag];rw [if_neg hk];exact ih h.2
theorem q45 {a:List (Nat×AO)} {l:Nat} {o:AO} (hm:(l,o)∈a) (hu:∀o',(l,o')∈a→o'=o):qag a l=o:=by
 induction a with
 | nil=>cases hm
 | cons x a ih =>
  obtain ⟨k,o1⟩:=x;simp only [qag];by_cases h:k=l
  ·subst h;rw [if_pos rfl];exact hu o1 vhr
  ·rw [if_neg h];rcases vhp.1 hm with e | e
   ·cases e;exact absurd rfl h
   ·exact ih e fun o' ho=>hu o' (vhq _ ho)
theorem q46 {f e sz G:Nat} {enc:α→PV} {ll:List (List α)} {rest:List (Nat×AO)} {l:Nat} (h:l < 1048576):qag (qnk f e sz G enc ll rest) l=qag rest l:=by
 unfold qnk;rw [qxo];simp only [vg6,not_exists,not_and,vhu];rintro x ⟨i,hi,rfl⟩;simp only [beq_iff_eq,qtq h];exact fun h=>h
theorem qvy (f e sz G:Nat) (enc:α→PV) (ll:List (List α)) (rest:List (Nat×AO)) (i:Nat) :
  qag (qnk f e sz G enc ll rest) (fx f i)=(ll[i]?).elim (qag rest (fx f i)) fun x=>.arr e sz G (vhj AV.p (vhj enc x)):=by
 unfold qnk;by_cases hi:i < ll.length
 ·have hx:ll[i]?=some ll[i]:=ve3 hi;rw [q9d,hx]
  ·refine q45 (vhu.2 ⟨i,hi,rfl⟩) fun o' ho=>?_
   obtain ⟨j,hj,e⟩:=vhu.1 ho;simp only [vgs] at e;have:j=i:=by have:=e.1;rw [qtr] at this;exact this
   subst this;exact e.2.symm
  ·simp only [vg6];exact ⟨_,vhu.2 ⟨i,hi,rfl⟩,by simp⟩
 ·have hx:ll[i]?=none:=ve4 (by omega);rw [qxo,hx]
  ·rfl
  ·simp only [vg6,not_exists,not_and,vhu];rintro x ⟨j,hj,rfl⟩;simp only [beq_iff_eq,qtr];omega
theorem qzt {β:Type} (l:List β):l[l.length]?=none:=ve4 (vf9 _)
def qeo (h:List (Nat×AO)) (f e sz G:Nat) (enc:α→PV) (ll:List (List α)):Prop:=∀i x,ll[i]?=some x→qag h (fx f i)=.arr e sz G (vhj AV.p (vhj enc x))
def qgx (h:List (Nat×AO)) (f i e sz G:Nat) (enc:α→PV) (ll:List (List α)):Prop:=∀j x,j≠i→ll[j]?=some x→qag h (fx f j)=.arr e sz G (vhj AV.p (vhj enc x))
def qf1 (h:List (Nat×AO)) (f:Nat):Prop:=∀i,(qag h (fx f i)).alive=false
def qvz (h:List (Nat×AO)) (f G:Nat):Prop:=∀i,(qag h (fx f i)).alive=true→(qag h (fx f i)).gen < G
def qzu {β:Type} (m:Nat) (y:List β):Prop:=m=y.length
def q9e (h:List (Nat×AO)) (l:Nat):Prop:=(qag h l).alive=false
def qv0 (es:List AV) (enc:α→PV) (y:List α):Prop:=es=vhj AV.p (vhj enc y)
def q9f (o:AO) (e sz:Nat) (enc:α→PV) (y:List α):Prop:=match o with
 | .arr e' sz' _ es=>e'=e∧sz'=sz∧qv0 es enc y
 | _=>False
section
variable {h h' H0 rest:List (Nat×AO)} {f f' i k e sz G G' e' sz':Nat} {o:AO} {enc enc':α→PV} {ll ll':List (List α)}
theorem q16 {l:Nat}:q9e [] l=True:=by simp [q9e,qag,AO.alive]
theorem q17 {g:Nat} {es:List AV} {y:List α}:q9f (.arr e' sz' g es) e sz enc y=(e'=e∧sz'=sz∧qv0 es enc y):=propext Iff.rfl
theorem q47 {β:Type} {m:Nat} {y:List β} (h:y.length=m):qzu m y=True:=by simp [qzu,h]
theorem qv1 {x:List α} {v:PV} {y:α} (hv:v=enc y):qv0 (vhj AV.p (vhj enc x++[v])) enc (x++[y])=True:=by simp [qv0,hv]
theorem qkl (hk:k < 1048576):qag ((k,o) :: h) (fx f i)=qag h (fx f i):=by simp only [qag,qtp hk,if_false]
theorem qzv (hk:k < 1048576):qeo ((k,o) :: h) f e sz G enc ll=qeo h f e sz G enc ll:=by simp only [qeo,qkl hk]
theorem qv2:qeo (qnk f e sz G enc ll rest) f e sz G enc ll=True:=by
 simp only [qeo,qvy,eq_iff_iff,iff_true];intro i x hx;rw [hx];rfl
theorem qv3 (hk:k < 1048576):qgx ((k,o) :: h) f i e sz G enc ll=qgx h f i e sz G enc ll:=by simp only [qgx,qkl hk]
theorem qts:qgx ((fx f i,o) :: h) f i e sz G enc ll=qgx h f i e sz G enc ll:=by
 simp only [qgx,eq_iff_iff];constructor <;> intro H j x hj hx
 ·have:=H j x hj hx;simp only [qag,qtr] at this
  rwa [if_neg (fun e=>hj e.symm)] at this
 ·simp only [qag,qtr];rw [if_neg (fun e=>hj e.symm)];exact H j x hj hx
theorem qtt:qgx (qnk f e sz G enc ll rest) f i e sz G enc ll=True:=by
 simp only [qgx,qvy,eq_iff_iff,iff_true];intro j x _ hx;rw [hx];rfl
theorem qv4 (hk:k < 1048576):qf1 ((k,o) :: h) f=qf1 h f:=by simp only [qf1,qkl hk]
theorem qv5:qf1 [] f=True:=by simp [qf1,qag,AO.alive]
theorem qtu:qf1 (qnk f e sz G enc [] rest) f=qf1 rest f:=rfl
theorem qv6:qvz [] f G=True:=by simp [qvz,qag,AO.alive]
theorem qzw {σ σ':Nat→AO} {a b:List (Nat×AO)}:qe1 σ σ' H0 (a++b)↔qe1 σ σ' H0 a∧qe1 σ σ' H0 b:=by
 induction a with
 | nil=>simp [qe1]
 | cons x a ih =>
  obtain ⟨l,o⟩:=x;simp only [vg7,qe1,ih,and_assoc]
theorem qry {σ σ':Nat→AO} {a:List (Nat×AO)} (H:∀l o,(l,o)∈a→q01 σ σ' (qag H0 l).alive (qag H0 l).gen l):qe1 σ σ' H0 a:=by
 induction a with
 | nil=>trivial
 | cons x a ih =>
  obtain ⟨l,o⟩:=x;exact ⟨H l o vhr,ih fun l o hm=>H l o (vhq _ hm)⟩
theorem qil {σ σ':Nat→AO} (H:∀i x,ll[i]?=some x→q01 σ σ' (qag H0 (fx f i)).alive (qag H0 (fx f i)).gen (fx f i)):qe1 σ σ' H0 (qnk f e sz G enc ll rest)=qe1 σ σ' H0 rest:=by
 unfold qnk;rw [eq_iff_iff,qzw];refine ⟨fun h=>h.2,fun hr=>⟨qry fun l o hm=>?_,hr⟩⟩;obtain ⟨i,hi,ee⟩:=vhu.1 hm;simp only [vgs] at ee;obtain ⟨rfl,rfl⟩:=ee;exact H i _ (ve3 hi)
theorem qrz {σ σ':Nat→AO} {keep:Bool} {g0 l g g':Nat} {xs:List PV} (h1:σ l=.arr e sz g (xs.map .p)) (h2:σ' l=.arr e sz g' (xs.map .p)) (hg:1≤g') (hk:keep=true→g'=g∨g0 < g'):q01 σ σ' keep g0 l:=by
 unfold q01 q00;rw [h1,h2];exact ⟨hg,rfl,rfl,qs9 _ _ _,hk⟩
theorem q18 {σ σ':Nat→AO} {keep:Bool} {g0 l g g':Nat} (h1:σ l=.dead g) (h2:σ' l=.arr e sz g' []) (hg:1≤g') (hk:keep=false):q01 σ σ' keep g0 l:=by
 unfold q01 q00;rw [h1,h2];exact ⟨hg,hk,rfl⟩
theorem qr0 (h1:qeo h f e sz G enc ll) (h2:qeo h' f e sz G enc ll) (hg:1≤G):qe1 (qag h) (qag h') H0 (qnk f e sz G enc ll rest)=qe1 (qag h) (qag h') H0 rest :=
 qil fun i x hx=>qrz (h1 i x hx) (h2 i x hx) hg fun _=>.inl rfl
theorem qp2 {y:List α} (h1:qgx h f i e sz G enc ll) (h2:qeo h' f e sz G enc (ll.set i y)) (hm:q9f (qag h (fx f i)) e sz enc y) (hg:1≤G) (hk:(qag h (fx f i)).gen=G∨qvz H0 f G) :
  qe1 (qag h) (qag h') H0 (qnk f e sz G enc (ll.set i y) rest)=qe1 (qag h) (qag h') H0 rest:=by
 refine qil fun j x hx=>?_
 have h3:=h2 j x hx;by_cases hj:j=i
 ·subst hj;unfold q9f at hm;split at hm
  ·rename_i e' sz' g es ho;obtain ⟨rfl,rfl,hme⟩:=hm;unfold qv0 at hme;subst hme;have hxy:x=y:=by
    have hlt:j < ll.length:=by have:=(ve5.1 hx).1;simpa using this
    rw [List.getElem?_set_self hlt] at hx;exact (vih hx).symm
   subst hxy;exact qrz ho h3 hg fun ha=>by
    rcases hk with hk | hk
    ·rw [ho] at hk;exact .inl hk.symm
    ·exact .inr (hk j ha)
  ·exact hm.elim
 ·rw [List.getElem?_set_ne (fun e=>hj e.symm)] at hx;exact qrz (h1 j x hj hx) h3 hg fun _=>.inl rfl
theorem q19 {o:AO} (h:o.alive=false):∃g,o=.dead g:=by
 cases o with
 | dead g=>exact ⟨g,rfl⟩
 | arr _ _ _ _=>cases h
 | map _ _ _=>cases h
theorem qos (h1:qeo h f e sz G enc ll) (h2:qeo h' f e sz G enc (ll++[[]])) (hd:(qag h (fx f ll.length)).alive=false) (hd0:q9e H0 (fx f ll.length)) (hg:1≤G) :
  qe1 (qag h) (qag h') H0 (qnk f e sz G enc (ll++[[]]) rest)=qe1 (qag h) (qag h') H0 rest:=by
 refine qil fun j x hx=>?_
 have h3:=h2 j x hx;by_cases hj:j < ll.length
 ·rw [ve0 hj] at hx;exact qrz (h1 j x hx) h3 hg fun _=>.inl rfl
 ·have hjl:=(ve5.1 hx).1;simp only [vfb,List.length_singleton] at hjl;have:j=ll.length:=by omega
  subst this;have hx':x=[]:=by
   rw [ve1 (vf9 _),vib] at hx;exact (vih hx).symm
  subst hx';obtain ⟨g,hg'⟩:=q19 hd;exact q18 hg' h3 hg hd0
theorem qot {n:Nat} (hd:qf1 h f) (h2:qeo h' f e sz G enc (vfv n [])) (hd0:qf1 H0 f) (hg:1≤G) :
  qe1 (qag h) (qag h') H0 (qnk f e sz G enc (vfv n []) rest)=qe1 (qag h) (qag h') H0 rest:=by
 refine qil fun j x hx=>?_
 have h3:=h2 j x hx;have hx':x=[]:=by
  rw [List.getElem?_replicate] at hx;split at hx
  ·exact (vih hx).symm
  ·cases hx
 subst hx';obtain ⟨g,hg'⟩:=q19 (hd j);exact q18 hg' h3 hg (hd0 j)
theorem qgg {σ σ':Nat→AO}:∀{cs cs':List AV},cs.length=cs'.length→(∀(j:Nat) c c',cs[j]?=some c→cs'[j]?=some c'→LeV σ σ' c c')→qgm σ σ' cs cs'
 | [],[],_,_=>rfl
 | [],_ :: _,h,_=>by simp at h
 | _ :: _,[],h,_=>by simp at h
 | c :: cs,c' :: cs',h,H=>⟨H 0 c c' rfl rfl,qgg (by simpa using h) fun j d d' h1 h2=>H (j+1) d d' (by simpa using h1) (by simpa using h2)⟩
theorem qou {σ σ':Nat→AO} {l g g' off n:Nat} {es es':List AV} {e sz e' sz':Nat} (h1:σ l=.arr e sz g es) (h2:σ' l=.arr e' sz' g' es'):LeV σ σ' (.own l g off n) (.own l g' off n):=by
 refine .inl ⟨by rw [h1];rfl,by rw [h2];rfl,by rw [h2];rfl,by rw [h1];rfl⟩
end
end Go.Ab
namespace Go.Ab
open Go
mutual
def renV (π:Nat→Nat):AV→AV
 | .any=>.any
 | .p x=>.p x
 | .nils=>.nils
 | .loc l g i off=>.loc (π l) g i off
 | .own l g off n=>.own (π l) g off n
 | .mapo l g=>.mapo (π l) g
 | .func fn cs=>.func fn (q2a π cs)
 | .agg cs=>.agg (q2a π cs)
 | .tup cs=>.tup (q2a π cs)
def q2a (π:Nat→Nat):List AV→List AV
 | []=>[]
 | c :: r=>renV π c :: q2a π r
end
section
variable {X:Nat→Prop} {inj:Inj} {σ:Nat→AO} {w:World} {π:Nat→Nat}
end
def renE (π:Nat→Nat) (env:Env):Env:=env.map fun x=>(x.1,renV π x.2)
variable {C:Cx} {Q:Exit→St→Prop} {st:St} {inj:Inj} {a:Act} {w:World}
section
variable {α:Type} {h:List (Nat×AO)} {f i d e sz G:Nat} {enc:α→PV} {ll:List (List α)}
end
end Go.Ab
namespace Go.Ab
open Go
section
variable {α:Type} {h:List (Nat×AO)} {f e sz G:Nat} {enc:α→PV} {ll:List (List α)}
theorem q2b (c:Prop) [Decidable c] (a b:AO):(if c then a else b).alive=if c then a.alive else b.alive:=by split <;> rfl
end
theorem q2c (π:Nat→Nat) (t:Nat) (v:AV) (r:Env):renE π ((t,v) :: r)=(t,renV π v) :: renE π r:=rfl
theorem q48 (π:Nat→Nat):renE π []=[]:=rfl
theorem qv7 {β:Type} {l:List β} {n:Nat} (h:l.length=n):l.take n=l:=vfz (by omega)
theorem qxp {β:Type} (l:List PV) (f:β→PV) (x:List β):(PV.slc l=qc1 f x)=(l=vhj f x):=by simp [qc1]
attribute [simp] qxp
attribute [go_sem] qv7 qxp qtp qtq qtr q43 q44 q46 qvy qzt Option.elim_some Option.elim_none qzv qv2 qv3 qts qtt qv4 qv5 qtu qv6 q16 q17 q47 qv1 qr0 qp2 qos qot q2b renV q2a q2c q48
variable {C:Cx} {Q:Exit→St→Prop} {st:St}
end Go.Ab
namespace Go.Ab
open Go
section
variable {α:Type} {h h' H0 rest:List (Nat×AO)} {f e sz G:Nat} {enc:α→PV}
end
end Go.Ab
namespace Go.Ab
open Go
section
variable {α:Type} {h h' H0 rest:List (Nat×AO)} {f e sz G:Nat} {enc:α→PV} {ll:List (List α)}
end
end Go.Ab
namespace Go.Ab
open Go
section
variable {C:Cx} {Q:Exit→St→Prop} {st:St}
end
end Go.Ab
namespace Go.Ab
open Go
theorem qmn:∃p:Nat→Nat,(∀k,k < 1048576→p k=k)∧∀f i,f < 1048576→p (fx f i)=1048576+f:=by
 refine ⟨fun l=>open Classical in if l < 1048576 then l else if h:∃f i,f < 1048576∧l=fx f i then 1048576+h.choose else 0,fun k hk=>if_pos hk,fun f i hf=>?_⟩;have h1:¬fx f i < 1048576:=fun h=>q15 h rfl
 have h2:∃f' i',f' < 1048576∧fx f i=fx f' i':=⟨f,i,hf,rfl⟩;simp only [h1,if_false];rw [dif_pos h2];obtain ⟨i',h3,h4⟩:=h2.choose_spec;by_cases hn:f=h2.choose
 ·rw [←hn]
 ·rw [fx_ne hf h3 hn] at h4;exact h4.elim
def plc:Nat→Nat:=Classical.choose qmn
theorem q9g {k:Nat} (h:k < 1048576):plc k=k:=(Classical.choose_spec qmn).1 k h
theorem vcs {f i:Nat} (h:f < 1048576):plc (fx f i)=1048576+f:=(Classical.choose_spec qmn).2 f i h
def q9h (p:Nat→Nat) (e:Evt):Option Nat×List Nat:=(e.wr.map p,e.reads.map p)
def q9i (x y:Option Nat×List Nat):Bool :=
  (match x.1 with
   | some l=>!y.2.contains l && y.1 != some l
   | none=>true) && (match y.1 with
   | some l=>!x.2.contains l
   | none=>true)
def q49 (ops:Array Oper) (es:List (Option Nat×List Nat)):Bool :=
  let A:=qxf ops ops.size
  (vft ops.size).all fun j=>(vft j).all fun i=>qpw A j i ||
    (match es[i]?,es[j]? with
     | some x,some y=>q9i x y
     | _,_=>true)
theorem q5a {p:Nat→Nat} {x y:Evt} (h:q9i (q9h p x) (q9h p y)=true):qzi x y=true:=by
 unfold q9i q9h at h;unfold qzi;simp only [veg] at h ⊢;obtain ⟨h1,h2⟩:=h;constructor
 ·cases hx:x.wr with
  | none=>rfl
  | some l =>
   rw [hx] at h1;simp only [vgq,veg,vek,bne_iff_ne,ne_eq] at h1 ⊢;obtain ⟨q1,q2⟩:=h1;refine ⟨?_,fun e=>q2 (by rw [e];rfl)⟩;cases hc:y.reads.contains l with
   | false=>rfl
   | true =>
    have:(y.reads.map p).contains (p l)=true:=by
     simp only [vg8,vht] at hc ⊢;exact ⟨l,hc,rfl⟩
    rw [this] at q1;cases q1
 ·cases hy:y.wr with
  | none=>rfl
  | some l =>
   rw [hy] at h2;simp only [vgq,vek] at h2 ⊢;cases hc:x.reads.contains l with
   | false=>rfl
   | true =>
    have:(x.reads.map p).contains (p l)=true:=by
     simp only [vg8,vht] at hc ⊢;exact ⟨l,hc,rfl⟩
    rw [this] at h2;cases h2
theorem q5b {ops:Array Oper} {es:List Evt} {p:Nat→Nat} (h:q49 ops (es.map (q9h p))=true):qmm ops es=true:=by
 simp only [q49,qmm,vg4,vhv,vel] at h ⊢;intro j hj i hi;rcases h j hj i hi with h1 | h1
 ·exact .inl h1
 ·right;rw [ve6,ve6] at h1;cases hx:es[i]? with
  | none=>rfl
  | some x =>
   cases hy:es[j]? with
   | none=>rfl
   | some y =>
    rw [hx,hy] at h1;exact q5a h1
theorem q2d {ops:Array Oper} {acc:List Evt} {sh:List (Option Nat×List Nat)} (hsh:acc.map (q9h plc)=sh) (hev:q49 ops sh.reverse=true):qmm ops acc.reverse=true:=by
 subst hsh;rw [←List.map_reverse] at hev;exact q5b hev
variable {C:Cx} {Q:Exit→St→Prop} {st:St}
theorem ydS {l:Array Oper} {acc:List Evt} {sh:List (Option Nat×List Nat)} (h:Q .normal st) (hsh:acc.map (q9h plc)=sh:=by simp only [List.map_cons,List.map_nil,q9h,Evt.wr,Option.map_some,Option.map_none,q9g,vcs,seval,go_sem];exact rfl) (hev:q49 l sh.reverse=true:=by kernel_rfl):DGo C l [] st acc (DK C l Q):=DGo.fin (q2d hsh hev) h
end Go.Ab
namespace Go.Ab
variable {D:Prop}
open Go
def qv8 (n₀:Nat) (W:World) (sv:Value) (n:Nat) (news:List Value):Prop :=
 (∃a cap,sv=.slice a 0 cap∧n=0)∨∃b off cap,sv=.slice (some ⟨b,off,none⟩) n cap∧b < n₀∧∀j u,news[j]?=some u→W.cell? ⟨b,off+j,none⟩=some u
theorem qv8.below {n₀ n:Nat} {A B:World} (h:RowKit.Below n₀ A B) {sv:Value} {news:List Value}:qv8 n₀ A sv n news→qv8 n₀ B sv n news
 | .inl e=>.inl e
 | .inr ⟨b,off,cap,e,hb,hc⟩=>.inr ⟨b,off,cap,e,hb,fun j u hj=>(h.cell (p:=⟨b,off+j,none⟩) hb).trans (hc j u hj)⟩
variable {C:Cx} {Q:Exit→St→Prop} {st:St}
end Go.Ab
namespace Go.Lib
open Go.RowKit
section
variable {P:Program} (w:World)
end
structure PairAt (T b:Nat) (p v:Value) (n:Nat) (w:World):Prop where
 ex:∃cur,w.heap[b]?=some (.cells cur T (0,0))∧cur.size=n∧cur.toList.take 2=[p,v]
theorem PairAt.lt {T b p v n w} (h:PairAt T b p v n w):b < w.heap.size:=by
 obtain ⟨cur,h1,_⟩:=h.ex;exact (vd5.1 h1).1
end Go.Lib
namespace Go.Proofs
open Go.Shelf Go.RowKit
variable {P:Program} {ρ:Ren}
end Go.Proofs
namespace Go.Lib
end Go.Lib
namespace Go.Proofs
open Go.Shelf Go.RowKit
variable {P:Program} {ρ:Ren}
end Go.Proofs
namespace Go.Ab
variable {D:Prop}
open Go
def vct (bs:List UInt8):List AV:=bs.map fun c=>.p (.int .u8 ((c.toNat:Nat):Int))
variable {C:Cx} {Q:Exit→St→Prop} {st:St}
end Go.Ab
namespace Go.Ab
variable {D:Prop}
open Go
variable {C:Cx} {Q:Exit→St→Prop} {st:St}
@[go_sem] theorem vbi:vct []=[]:=rfl
theorem q5c {C : Cx} {st : St} {inj : Inj} {a : Act} {w : World} (hs : SR C st inj a w) {g : Nat} (hg : C.P.globalNamed "math/bits.deBruijn32tab" = some g) : qu3 (fun b => C.X b ∨ F inj st.sig b) w g 0 (qhr.map (Value.int .u8)) := qi4 hs.ev g hg
theorem vcu {ops : Array Oper} {o : Oper} {rest : List Oper} {t te g : Nat} {x : Operand} {k : IntKind} {i : Nat} (hgn : C.P.globalNamed "math/bits.deBruijn32tab" = some g) (ho : o.op = .indexAddr t (.global g) x) (hg : qal ops st.env o = some true) (hd : qbc C.N o = true)
  (hu:C.P.underlying t=some (.array 32 te)) (hte:qmv C.P te=true) (hc:C.P.cellsOf te=1) (hx:ev st.env x=.p (.int k (i:Int))) (hi:i < 32)
  (h:AL C ops rest Q ⟨qd0 st.env o.dst (.p (.imm [.int .u8 (qhr.getD i 0)])),st.heap⟩):AL C ops (o :: rest) Q st:=by
 intro inj a w hs;simp only [wpList,qb9 hs hg,if_true];refine .inl ?_;have hr:=q5c hs hgn;have he:=hs.eval x;rw [hx] at he;simp only [AR,PR] at he;have hsz:=qc4 hte w;rw [hc] at hsz;have hrun:(Instr.indexAt t (.pointer (some ⟨g,0,none⟩)) (a.eval x)).run C.P w=.ok (.pointer (some ⟨g,i,none⟩)) w:=by
  rw [he];have h1:((i:Int) < 32):=by omega
  simp [Instr.indexAt,asIntOf,run_underlying hu,Instr.sureAddr,hi,h1,hsz,Addr.add_lit]
 have hlen:i < qhr.length:=by simpa [qhr] using hi
 have hcell:PR (fun b=>C.X b∨F inj st.sig b) w (.imm [.int .u8 (qhr.getD i 0)]) (.pointer (some ⟨g,i,none⟩)):=by
  refine ⟨g,i,[.int .u8 (qhr.getD i 0)],rfl,⟨_,_,rfl,rfl,rfl⟩,by intro u hu;have h1z:u=.int .u8 (qhr.getD i 0):=(by simpa using hu);subst h1z;rfl,hr.1,hr.2.1,?_⟩;intro j u hj;cases j with
  | zero =>
   simp only [vhc,vgr] at hj;subst hj;have:=hr.2.2 i (.int .u8 (qhr.getD i 0)) (by rw [ve6,vha,ve3 hlen];rfl);simpa using this
  | succ j=>simp at hj
 obtain ⟨dst,op,ty,pos,af,gd⟩:=o;simp only at ho;subst ho;refine qi2 (s:=Instr.indexAt t (a.eval (.global g)) (a.eval x)) rfl hrun ?_
 ·exact h inj _ _ (hs.put (u:=none) hd hs.hr (Ev.refl _ _ _ _) hcell)
theorem zTab {ops : Array Oper} {o : Oper} {rest : List Oper} {t te g : Nat} {x : Operand} {k : IntKind} (i : Nat) (hgn : C.P.globalNamed "math/bits.deBruijn32tab" = some g) (hu : C.P.underlying t = some (.array 32 te)) (hi : i < 32) (hx : ev st.env x = .p (.int k (i : Int)))
  (h:AL C ops rest Q ⟨qd0 st.env o.dst (.p (.imm [.int .u8 (qhr.getD i 0)])),st.heap⟩) (hte:qmv C.P te=true:=by kernel_rfl) (hc:C.P.cellsOf te=1:=by kernel_rfl)
  (ho:o.op=.indexAddr t (.global g) x:=by rfl) (hg:qal ops st.env o=some true:=by exact qcb rfl) (hd:qbc C.N o=true:=by rfl):AL C ops (o :: rest) Q st:=vcu hgn ho hg hd hu hte hc hx hi h
def tzI (n:Nat):Nat:=(n &&& (4294967296 - n)) * 125613361 % 4294967296 / 134217728
def tz32 (n:Nat):Int:=if n=0 then 32 else qhr.getD (tzI n) 0
theorem q7d (n:Nat):tzI n < 32:=by unfold tzI;omega
theorem wrapU (n:Nat):vg2.wrap (n:Int)=((n % 4294967296:Nat):Int):=by
 simp only [vg3,vg1,vg0];simp only [vgz,vei,if_false];rw [show ((2:Int) ^ 32)=4294967296 from rfl];omega
theorem vcv {n:Nat} (h0:n≠0) (h:n < 4294967296):Int.fdiv (vg2.wrap ((vg2.wrap ((BitVec.ofInt 32 (n:Int) &&& BitVec.ofInt 32 (vg2.wrap (0 - (n:Int)))).toNat:Int)) * 125613361)) (2 ^ (min 27 32))=((tzI n:Nat):Int):=by
 have e1:vg2.wrap (0 - (n:Int))=((4294967296 - n:Nat):Int):=by
  simp only [vg3,vg1,vg0];simp only [vgz,vei,if_false];rw [show ((2:Int) ^ 32)=4294967296 from rfl];omega
 rw [e1,vcq,BitVec.toNat_and,q14 h,q14 (a:=4294967296 - n) (by omega)];have e2:((n &&& (4294967296 - n):Nat):Int) * 125613361=(((n &&& (4294967296 - n)) * 125613361:Nat):Int):=by simp
 rw [e2,wrapU];unfold tzI;exact vcr _ 27 (by omega)
theorem vcw:∀i,i < 32→0≤qhr.getD i 0∧qhr.getD i 0 < 32:=by decide
theorem q2e {n:Nat}:IntKind.i64.wrap (qhr.getD (tzI n) 0)=qhr.getD (tzI n) 0:=by
 have h:=vcw (tzI n) (q7d n);exact wrap_i64 (by omega) (by omega)
end Go.Ab
namespace Go.Ab
variable {D:Prop}
open Go
variable {X:Nat→Prop} {inj:Inj} {σ:Nat→AO} {w:World} {P:Program}
theorem qv9 (h:HR X inj σ w) {l g i off e sz b c:Nat} {es:List AV} {x y v:AV} {uv:Value} (ho:σ l=.arr e sz g es) (a4:inj l=some (b,c)) (hx:es[i]?=some x) (hp:qgr x off v=some y) (hv:AR X inj σ w v uv) :
  ∃w',(storeCells ⟨b,i * sz+off,none⟩ uv.cells.toList).run P w=.ok () w'∧HR X inj (upd σ (some (l,.arr e sz g (es.set i y)))) w'∧Ev D X inj σ w inj (upd σ (some (l,.arr e sz g (es.set i y)))) w':=by
 obtain ⟨vs,o1,o2,o3,o4⟩:=(ho ▸ h.obj l _ rfl:OR X inj σ w l (.arr e sz g es));obtain ⟨u,hu,hau⟩:=o1.get hx;have hum:u∈vs:=List.mem_of_getElem? hu;have hone:qat u.cells.toList:=fun c hc=>o3 c (vfm.2 ⟨u,hum,hc⟩)
 obtain ⟨s1,s2,s3,u',s4,s5,s6⟩:=qiy hau hv (o2 u hum) hone hp;rcases o4 with ⟨o4,_⟩ | ⟨b',c',cur,p1,p2,p3,p4,p5,p6,p7⟩
 ·rw [a4] at o4;cases o4
 rw [a4] at p1;cases p1;have hi:i < vs.length:=(ve5.1 hu).1;have hel:es.length=vs.length:=o1.length;have hmul:(i+1) * sz≤vs.length * sz:=vgg _ hi;have hmul2:es.length * sz≤c * sz:=vgg _ p4;rw [hel] at hmul2;rw [Nat.add_mul,Nat.one_mul] at hmul;have hvl:uv.cells.toList.length=v.cells.length:=by rw [vd9,s3]
 have hst:=run_storeCells_at P b (i * sz+off) e uv.cells.toList 0 cur w p3 (by rw [hvl,p6];omega) s2;simp only [vf5] at hst;have hct:cur.toList.length=c * sz:=by rw [vd9,p6]
 have hcurlen:i * sz+off+uv.cells.toList.length≤cur.toList.length:=by rw [hvl,hct];omega
 have hup:=h.update (D:=D) (w':=w.setRow b (splice cur.toList (i * sz+off) uv.cells.toList).toArray) (l:=l) (o:=.arr e sz g es) (o':=.arr e sz g (es.set i y)) (x:=inj l) ho rfl rfl rfl (fun _=>vf9 _) (by simp)
  (fun a _=>qga w b _ a) (fun k hk hne=>setRow_other w b k _ (fun e=>hne rfl c (by rw [e];exact a4)))
  (fun b1 c1 h1=>.inr ⟨rfl,c1,h1⟩) ⟨vf9 _,fun _ _=>⟨rfl,.inl ⟨e,sz,es,_,rfl,rfl,by simp⟩⟩⟩
 rw [qig] at hup;obtain ⟨hev,hhr⟩:=hup;refine ⟨_,hst,hhr ?_,hev⟩;refine ⟨vs.set i u',(ARs.ev hev h.xlt es vs o1).set (AR.ev hev h.xlt y u' s4),?_,?_,.inr ⟨b,c,_,a4,p2,setRow_heap w b cur _ e _ p3,by simpa using p4,p5,?_,?_⟩⟩
 ·intro q hq;rcases vfq hq with h1 | h1
  ·exact o2 q h1
  ·rw [h1,←vd9,s5,qdu _ _ _ (by rw [hvl,show u.cells.toList.length=sz by rw [vd9,o2 u hum]];exact s1),vd9,o2 u hum]
 ·intro q hq;obtain ⟨z,hz,hq⟩:=vfm.1 hq;rcases vfq hz with h1 | h1
  ·exact o3 q (vfm.2 ⟨z,h1,hq⟩)
  ·rw [h1] at hq;exact s6 q hq
 ·rw [vfw,qdu _ _ _ hcurlen,hct]
 ·rw [qw7 o2 hu s5 (by rw [hvl];exact s1),←p7,List.length_set];apply List.ext_getElem?;intro k;have hA:i * sz+off+uv.cells.toList.length≤(cur.toList.take (es.length * sz)).length:=by
   rw [vfh,hct,hel,hvl];omega
  rw [ve9,qfq _ _ _ hcurlen,qfq _ _ _ hA,ve9];by_cases hk:k < es.length * sz
  ·simp only [hk,if_true]
  ·simp only [hk,if_false];rw [if_neg (by rw [hel] at hk;omega),if_neg (by rw [hel] at hk;rw [hvl];omega)]
theorem qxq {l:Nat} {o:AO} (h:σ l=o):upd σ (some (l,o))=σ:=by
 funext k;simp only [upd,qg6];by_cases hk:k=l
 ·subst hk;simp [h]
 ·simp [hk]
theorem qtv (at_:Array TypeId) (ty:TypeId) (cs:Array Bool) (args:Array Value):builtin .copy at_ ty cs args=(do pure (Next.value (←Builtin.copy_ at_ ty args))):=rfl
def q5d (a b c:Int):AV:=.p (.agg [.int .i64 a,.int .i64 b,.int .i64 c])
theorem q2f (c0 c1 c2:Int) (L:List Int) (h:L≠[]):qgr (q5d c0 c1 c2) 0 (.p (.agg ((L.take 3).map (PV.int .i64))))=some (q5d (L.getD 0 c0) (L.getD 1 c1) (L.getD 2 c2)):=by
 cases L with
 | nil=>exact absurd rfl h
 | cons a L =>
  cases L with
  | nil=>rfl
  | cons b L =>
   cases L with
   | nil=>rfl
   | cons c L =>
    have e:(a :: b :: c :: L).take 3=[a,b,c]:=rfl;rw [e];rfl
theorem q9j (L:List Int) (X:Nat→Prop) (inj:Inj) (σ:Nat→AO) (w:World):AR X inj σ w (.p (.agg (L.map (PV.int .i64)))) (.agg (L.map (Value.int .i64)).toArray):=by
 simp only [AR,PR];refine ⟨L.map (Value.int .i64),rfl,?_,?_⟩
 ·induction L with
  | nil=>simp [PRs]
  | cons a L ih=>exact ⟨_,_,rfl,rfl,ih⟩
 ·intro u hu;obtain ⟨a,_,rfl⟩:=vht.1 hu;rfl
theorem qxr {a:Act} {d:Nat} {v:Value} (h:d < a.tmps.size):(a.put (some d) v).eval (.tmp d)=v:=by
 simp [Act.eval,Act.put,h]
theorem q2g {a:Act} {d t:Nat} {v:Value} (h:t≠d):(a.put (some d) v).eval (.tmp t)=a.eval (.tmp t):=by
 simp [Act.eval,Act.put,vd7 (Ne.symm h)]
variable {C:Cx} {Q:Exit→St→Prop} {st:St}
end Go.Ab
namespace Go.Ab
open Go
variable {C:Cx} {Q:Exit→St→Prop} {st:St}
theorem qxs {X:Nat→Prop} {inj:Inj} {σ:Nat→AO} {w:World}:∀{L:List Int} {vs:List Value},ARs X inj σ w (L.map fun n=>.p (.int .i64 n)) vs→vs=L.map (Value.int .i64)
 | [],_,h=>h
 | n :: L,_,h=>by
  obtain ⟨v,r,rfl,h1,h2⟩:=h;simp only [AR,PR] at h1;rw [h1,qxs h2];rfl
theorem vcx {ops:Array Oper} {o1 o2 o3:Oper} {rest:List Oper} {tA te dT sT:TypeId} {x y:Operand} {d1 d2 l g:Nat} {c0 c1 c2:Int} {L:List Int}
  (h1:o1.op=.slice tA x none none none) (hd1:o1.dst=some d1) (h2:o2.op=.move y) (hd2:o2.dst=some d2) (h3:o3.op=.call ⟨.builtin .copy,#[.tmp d1,.tmp d2],#[dT,sT]⟩)
  (g1:o1.guard=none) (g2:o2.guard=none) (g3:o3.guard=none) (n1:qbc C.N o1=true) (n2:qbc C.N o2=true) (n3:qbc C.N o3=true) (hne:d1≠d2)
  (hu:C.P.underlying tA=some (.array 3 te)) (hte:qmv C.P te=true) (hc:C.P.cellsOf te=1) (hdT:C.P.underlying dT=some (.slice te)) (hy:y≠.tmp d1)
  (hx:ev st.env x=.loc l g 0 0) (ho:qag st.heap l=.arr tA 3 g [q5d c0 c1 c2]) (hyv:(qf5 (ev st.env y)).run st.sig=some (L.map fun n=>.p (.int .i64 n)))
  (h:AL C ops rest Q ⟨qd0 (qd0 (qd0 st.env o1.dst .any) o2.dst (ev st.env y)) o3.dst .any,q0w st.heap l (.arr tA 3 g [q5d (L.getD 0 c0) (L.getD 1 c1) (L.getD 2 c2)])⟩):AL C ops (o1 :: o2 :: o3 :: rest) Q st:=by
 intro inj a w hs;have hg:∀(o:Oper) (st':St),o.guard=none→qal ops st'.env o=some true:=fun o st' e=>by unfold qal;rw [e]
 have hloc:=hs.eval x;rw [hx] at hloc;obtain ⟨_,a2⟩:=hloc;have hσ:st.sig l=.arr tA 3 g [q5d c0 c1 c2]:=ho;obtain ⟨_,a3⟩:=a2 _ hσ;obtain ⟨b,c,a4,hptr⟩:=a3 rfl tA 3 _ rfl;simp only [Nat.zero_mul,vgk] at hptr
 -- the slice
 have r1:(Instr.sliceAt tA (a.eval x) none none none).run C.P w=.ok (.slice (some ⟨b,0,none⟩) 3 3) w:=by
  rw [hptr];simp [Instr.sliceAt,run_underlying hu,Instr.sureAddr,Instr.sliceBounds,qc4 hte w,Addr.add_lit]
 simp only [wpList,qb9 hs (hg o1 st g1),if_true];refine .inl ?_;obtain ⟨dst1,op1,ty1,pos1,af1,gd1⟩:=o1;simp only at h1 hd1;subst h1 hd1;refine qi2 (s:=Instr.sliceAt tA (a.eval x) none none none) rfl r1 ?_;have hs1:=hs.put (o:=⟨some d1,.slice tA x none none none,ty1,pos1,af1,gd1⟩) (v:=.any) (val:=.slice (some ⟨b,0,none⟩) 3 3) (u:=none) n1 hs.hr (Ev.refl _ _ _ _) trivial;simp only [qle] at hs1
 -- the source
 have hd1N:d1 < C.N:=by simpa [qbc] using n1
 have e1:∀t,t≠d1→(a.put (some d1) (.slice (some ⟨b,0,none⟩) 3 3)).tmps.getD t undef=a.tmps.getD t undef:=fun t ht=>by
  simp [Act.put,vd7 (Ne.symm ht)]
 have hy1:ev (qd0 st.env (some d1) .any) y=ev st.env y:=by
  cases y with
  | tmp t =>
   have ht:t≠d1:=fun e=>hy (by rw [e])
   simp only [ev,qd0,Env.get];rw [if_neg (Ne.symm ht)]
  | const v=>rfl
  | global g=>rfl
  | func f=>rfl
 simp only [wpList,qb9 hs1 (hg o2 _ g2),if_true];refine .inl ?_;obtain ⟨dst2,op2,ty2,pos2,af2,gd2⟩:=o2;simp only at h2 hd2;subst h2 hd2;have hsrc:=hs1.eval y;simp only at hsrc;rw [hy1] at hsrc;refine qi2 (s:=pure ((a.put (some d1) (.slice (some ⟨b,0,none⟩) 3 3)).eval y)) (by simp [execOp]) (vgw _ _ _) ?_;have hs2:=hs1.put (o:=⟨some d2,.move y,ty2,pos2,af2,gd2⟩) (v:=ev st.env y) (u:=none) n2 hs1.hr (Ev.refl _ _ _ _) hsrc;simp only [qle] at hs2;obtain ⟨sa,cap,vs,hva,hcap,hvs,hsl⟩:=qhg hs1.hr hsrc hyv;have hvs':=qxs hvs;subst hvs';rw [vfd] at hva hcap;generalize hV:(a.put (some d1) (.slice (some ⟨b,0,none⟩) 3 3)).eval y=vy at *;subst hva
 -- the copy
 simp only [wpList,qb9 hs2 (hg o3 _ g3),if_true];refine .inl ?_;obtain ⟨dst3,op3,ty3,pos3,af3,gd3⟩:=o3;simp only at h3;subst h3;have hd2N:d2 < C.N:=by simpa [qbc] using n2
 have v1:((a.put (some d1) (.slice (some ⟨b,0,none⟩) 3 3)).put (some d2) (.slice sa L.length cap)).eval (.tmp d1)=.slice (some ⟨b,0,none⟩) 3 3:=by
  rw [q2g hne];exact qxr (by rw [hs.size];exact hd1N)
 have v2:((a.put (some d1) (.slice (some ⟨b,0,none⟩) 3 3)).put (some d2) (.slice sa L.length cap)).eval (.tmp d2)=.slice sa L.length cap:=qxr (by rw [hs1.size];exact hd2N);have key:∃(rv:Value) (w':World),(Builtin.copy_ #[dT,sT] ty3 #[.slice (some ⟨b,0,none⟩) 3 3,.slice sa L.length cap]).run C.P w=.ok rv w'∧HR C.X inj (upd st.sig (some (l,.arr tA 3 g [q5d (L.getD 0 c0) (L.getD 1 c1) (L.getD 2 c2)]))) w'∧Ev C.D C.X inj st.sig w inj (upd st.sig (some (l,.arr tA 3 g [q5d (L.getD 0 c0) (L.getD 1 c1) (L.getD 2 c2)]))) w':=by
  obtain ⟨inf,hinf⟩:=vgo.1 hte;have hsize:inf.size=1:=by
   unfold Program.cellsOf at hc;rw [hinf] at hc;simpa using hc
  have hinfs:(C.P.info? te).map (·.size)=some 1:=by rw [hinf];simp [hsize]
  by_cases hL:L=[]
  ·subst hL;refine ⟨goInt 0,w,?_,?_,?_⟩
   ·exact run_copy_none w dT sT ty3 te _ _ _ _ _ _ hdT hinfs rfl
   ·have:=qxq hσ;simp only [List.getD_nil] at this ⊢;rw [this];exact hs.hr
   ·have:=qxq hσ;simp only [List.getD_nil] at this ⊢;rw [this];exact Ev.refl _ _ _ _
  ·obtain ⟨w',q1,q2,q3⟩:=qv9 (D:=C.D) (P:=C.P) hs.hr hσ a4 (i:=0) (off:=0) (x:=q5d c0 c1 c2) rfl (q2f c0 c1 c2 L hL) (q9j (L.take 3) _ _ _ _);simp only [Nat.zero_mul,vgk,vhy] at q1 q2 q3;refine ⟨goInt (Nat.min L.length 3),w',?_,q2,q3⟩;rcases hsl with hsl | ⟨sb,so,sz,rfl,hcs,hrow⟩
   ·exact absurd (by simpa using hsl) hL
   ·have hflat:flat (L.map (Value.int .i64))=L.map (Value.int .i64):=by
     unfold flat;rw [List.flatMap_map];have:∀l:List Int,(l.flatMap fun n=>(Value.int .i64 n).cells.toList)=l.map (Value.int .i64):=by
      intro l
      induction l with
      | nil=>rfl
      | cons n l ih=>rw [vg9,ih];rfl
     exact this L
    rw [hflat] at hrow;have hcl:((L.take 3).map (Value.int .i64)).length=Nat.min L.length 3:=by rw [vfd,vfh];exact Nat.min_comm _ _
    have hload:=run_loadCells_list (P:=C.P) w ⟨sb,so,none⟩ ((L.take 3).map (Value.int .i64)) (fun j v hv=>by
     rw [vhm,ve9] at hv;split at hv
     ·have:=hrow j v hv;simpa [Addr.add_lit] using this
     ·cases hv)
    rw [hcl] at hload;have hq1:(storeCells ⟨b,0,none⟩ (vhz 3 (L.map (Value.int .i64)))).run C.P w=.ok () w':=by
     rw [←vhm];exact q1
    simp [Builtin.copy_,run_underlying hdT,Builtin.lenOf,Builtin.firstCells,sizeOf,typeInfo,hinf,hsize,hload,hq1]
 obtain ⟨rv,w',k1,k2,k3⟩:=key;have hexec:(execOp ((a.put (some d1) (.slice (some ⟨b,0,none⟩) 3 3)).put (some d2) (.slice sa L.length cap)).eval ⟨dst3,.call ⟨.builtin .copy,#[.tmp d1,.tmp d2],#[dT,sT]⟩,ty3,pos3,af3,gd3⟩).run C.P w=.ok (Next.value rv) w':=by
  simp only [execOp,resolve,vgv,vgw,vgt,invoke,qtv];have:(#[Operand.tmp d1,Operand.tmp d2]:Array Operand).map ((a.put (some d1) (.slice (some ⟨b,0,none⟩) 3 3)).put (some d2) (.slice sa L.length cap)).eval=#[.slice (some ⟨b,0,none⟩) 3 3,.slice sa L.length cap]:=by
   simp [v1,v2]
  rw [this,k1];simp
 unfold Oper.wp;rw [hexec];simp only [Oper.upon];refine h inj _ _ ?_;have hs3:=hs2.put (o:=⟨dst3,.call ⟨.builtin .copy,#[.tmp d1,.tmp d2],#[dT,sT]⟩,ty3,pos3,af3,gd3⟩) (v:=.any) (val:=rv) (u:=some (l,.arr tA 3 g [q5d (L.getD 0 c0) (L.getD 1 c1) (L.getD 2 c2)])) n3 k2 k3 trivial;exact hs3
end Go.Ab
namespace Go.Ab
open Go
set_option linter.constructorNameAsVariable false
inductive Opd where
 | t (p:Ps)
 | c (v:AV)
def opd:Operand→Opd
 | .tmp t=>.t (pth t)
 | .const v=>.c (ofV v)
 | .func f=>.c (.p (.func (.func f) []))
 | .global _=>.c .any
def vo (e:Ty AV) (x:Opd):AV:=@Opd.rec (fun _=>AV) (fun p=>Ty.get .any e p) (fun v=>v) x
theorem qdi (e:Ty AV) (x:Operand):vo e (opd x)=evf (eo e) x:=by cases x <;> rfl
inductive Ry where
 | no
 | v (x:AV) (rs:List Nat)
 | w (x:AV) (l:Nat) (o:AO) (rs:List Nat)
 | new (x:AV) (o:AO) (rs:List Nat)
abbrev G:=Ty AV→Ty AO→Nat→Ry
def q7e (h:Ty AO) (f:Nat):Prop:=∀l,f≤l→ho h l=.dead 0
def qzx (P:Program) (o:Oper) (e:Ty AV) (h:Ty AO) (f:Nat):Ry→Prop
 | .no=>True
 | .v x rs=>OpM P o (evf (eo e)) (ho h) x [] rs
 | .w x l ob rs=>OpM P o (evf (eo e)) (ho h) x [(l,ob)] rs
 | .new x ob rs=>OpM P o (evf (eo e)) (ho h) x [(f,ob)] rs
def GOk (P:Program) (o:Oper) (g:G):Prop:=∀e h f,q7e h f→o.dst.getD 0≤f→qzx P o e h f (g e h f)
def rdA (P:Program) (o:Oper) (e:Ty AV) (h:Ty AO) (f:Nat):List Nat:=(aop P (vh9 f (o.dst.getD 0)) (evf (eo e)) o).reads (ho h)
def ofA (P:Program) (o:Oper) (e:Ty AV) (h:Ty AO) (f:Nat) (r:Option (AV×Upd)):Ry:=match r with
 | some (x,some (l,ob))=>bif vh3 l f then .new x ob (rdA P o e h f) else .w x l ob (rdA P o e h f)
 | some (x,none)=>.v x (rdA P o e h f)
 | none=>.no
theorem q7f {P:Program} {o:Oper} {e:Ty AV} {h:Ty AO} {f:Nat} {r:Option (AV×Upd)} (hr:∀y,r=some y→(aop P (vh9 f (o.dst.getD 0)) (evf (eo e)) o).run (ho h)=some y):qzx P o e h f (ofA P o e h f r):=by
 unfold ofA;split
 ·rename_i x l ob;have:=qop (hr _ rfl);rw [qpo];by_cases hl:l=f
  ·subst hl;simp only [decide_true,cond_true];exact this
  ·simp only [hl,decide_false,cond_false];exact this
 ·exact qop (hr _ rfl)
 ·trivial
theorem q5e {P:Program} {o:Oper} {e:Ty AV} {h:Ty AO} {f:Nat} {x:AV} (hr:(aop P (vh9 f (o.dst.getD 0)) (evf (eo e)) o).run (ho h)=some (x,none)):qzx P o e h f (.v x (rdA P o e h f)):=qop hr
theorem wA_ok {P:Program} {o:Oper} {e:Ty AV} {h:Ty AO} {f:Nat} {x:AV} {l:Nat} {ob:AO} (hr:(aop P (vh9 f (o.dst.getD 0)) (evf (eo e)) o).run (ho h)=some (x,some (l,ob))):qzx P o e h f (.w x l ob (rdA P o e h f)):=qop hr
theorem nA_ok {P:Program} {o:Oper} {e:Ty AV} {h:Ty AO} {f:Nat} {x:AV} {ob:AO} (hr:(aop P (vh9 f (o.dst.getD 0)) (evf (eo e)) o).run (ho h)=some (x,some (f,ob))):qzx P o e h f (.new x ob (rdA P o e h f)):=qop hr
theorem q9k {o:Oper} {f:Nat} (h:o.dst.getD 0≤f):qe6 (vh9 f (o.dst.getD 0)) o=f:=by
 unfold qe6;exact Nat.sub_add_cancel h
def gL (P:Program) (o:Oper) (m:Nat→(Operand→AV)→L (AV×Upd)):G:=fun e h f=>ofA P o e h f ((m (vh9 f (o.dst.getD 0)) (evf (eo e))).run (ho h))
theorem qwa {P:Program} {o:Oper} {m:Nat→(Operand→AV)→L (AV×Upd)} (hm:∀B ρ,aop P B ρ o=m B ρ):GOk P o (gL P o m):=fun e h f _ _=>q7f fun y hy=>by rw [hm];exact hy
def nth {α:Type}:List α→Nat→Option α
 | [],_=>none
 | x :: r,k=>match k with
  | 0=>some x
  | k+1=>nth r k
theorem qlm {α:Type}:∀(l:List α) (k:Nat),nth l k=l[k]?
 | [],k=>by simp [nth]
 | x :: r,0=>by simp [nth]
 | x :: r,k+1=>by simp [nth,qlm r k]
section
variable (P:Program) (o:Oper)
def q4a (e:Ty AV) (h:Ty AO) (f:Nat) (r:Option AV):Ry:=match r with
 | some x=>.v x (rdA P o e h f)
 | none=>.no
theorem qja {P:Program} {o:Oper} {e:Ty AV} {h:Ty AO} {f:Nat} {r:Option AV} (hr:∀x,r=some x→(aop P (vh9 f (o.dst.getD 0)) (evf (eo e)) o).run (ho h)=some (x,none)):qzx P o e h f (q4a P o e h f r):=by
 unfold q4a;split
 ·exact q5e (hr _ rfl)
 ·trivial
def qzy (x:Opd):G:=fun e h f=>.v (vo e x) (rdA P o e h f)
def vcy (c a b:Opd):G:=fun e h f=>q4a P o e h f (match vo e c with
 | .p (.bool t)=>some (bif t then vo e a else vo e b)
 | _=>none)
def boxB (t:TypeId) (v:AV) (f:Nat) (rs:List Nat):Ry:=bif v.known then .new (.loc f 1 0 0) (.arr t v.cells.length 1 [v]) rs else .no
def gBox (t:TypeId) (x:Opd):G:=fun e h f=>boxB t (vo e x) f (rdA P o e h f)
def q7g (t:TypeId) (z:AV):G:=fun e h f=>boxB t z f (rdA P o e h f)
def q9l (n:Nat) (b:Bool) (x:AV) (off:Nat):Option AV :=
 bif b then (bif vh3 off 0 && (vh3 n x.cells.length && x.isAgg) then some x else bif vh4 (vh2 off n) x.cells.length then some (qme ((x.cells.drop off).take n)) else none)
 else nth x.cells off
def vcz (n:Nat) (b:Bool) (g i off:Nat) (ob:AO):Option AV:=match ob with
 | .arr _ _ g' es=>bif vh3 g g' then (match nth es i with
  | some x=>bif x.known then q9l n b x off else none
  | none=>none) else none
 | _=>none
def q9m (n:Nat) (b:Bool) (a:AV) (h:Ty AO):Option AV:=match a with
 | .loc l g i off=>vcz n b g i off (ho h l)
 | .p (.imm cs)=>bif b then (bif vh4 n cs.length then some (qme (((cs.map .p).drop 0).take n)) else none) else nth (cs.map .p) 0
 | _=>none
def vc0 (n:Nat) (b:Bool) (x:Opd):G:=fun e h f=>q4a P o e h f (q9m n b (vo e x) h)
def q7h (n:Nat) (l g i off:Nat) (v:AV) (rs:List Nat) (ob:AO):Ry:=match ob with
 | .arr e sz g' es=>bif vh3 g g' && vh3 v.cells.length n then (match nth es i with
  | some x=>(match qgr x off v with
   | some y=>.w .any l (.arr e sz g (es.set i y)) rs
   | none=>.no)
  | none=>.no) else .no
 | _=>.no
def q7i (n:Nat) (a v:AV) (h:Ty AO) (rs:List Nat):Ry:=match a with
 | .loc l g i off=>q7h n l g i off v rs (ho h l)
 | _=>.no
def q2h (n:Nat) (x y:Opd):G:=fun e h f=>q7i n (vo e x) (vo e y) h (rdA P o e h f)
def vc1 (P:Program) (op:BinOp) (t:TypeId):IntKind→Int→IntKind→Int→Option AV:=match op with
 | .add=>fun k a k' b=>bif decide (k=k') then some (.p (.int k (k.wrap (a+b)))) else none
 | .sub=>fun k a k' b=>bif decide (k=k') then some (.p (.int k (k.wrap (a - b)))) else none
 | .eql=>fun k a k' b=>bif decide (k=k') then some (.p (.bool (decide (a=b)))) else none
 | .neq=>fun k a k' b=>bif decide (k=k') then some (.p (.bool (!decide (a=b)))) else none
 | .lss=>fun k a k' b=>bif decide (k=k') then some (.p (.bool (decide (a < b)))) else none
 | .leq=>fun k a k' b=>bif decide (k=k') then some (.p (.bool (decide (a≤b)))) else none
 | .gtr=>fun k a k' b=>bif decide (k=k') then some (.p (.bool (decide (b < a)))) else none
 | .geq=>fun k a k' b=>bif decide (k=k') then some (.p (.bool (decide (b≤a)))) else none
 | op=>fun k a k' b=>q61 P op t (.int k a) (.int k' b)
theorem q9n (P:Program) (op:BinOp) (t:TypeId) (k:IntKind) (a:Int) (k':IntKind) (b:Int):vc1 P op t k a k' b=q61 P op t (.int k a) (.int k' b):=by
 by_cases hk:k=k'
 ·subst hk;cases op <;> simp only [vc1,q61,vbb,decide_true,cond_true,if_true] <;> rfl
 ·cases op <;> simp only [vc1,q61,hk,decide_false,cond_false,if_false]
def own2 (op:BinOp) (g l:Nat) (ob:AO):Ry:=match ob with
 | .arr _ _ g' _=>bif vh3 g g' then (match qzr op false with
  | some v=>.v v [l]
  | none=>.no) else .no
 | _=>.no
def bin2 (op:BinOp) (t:TypeId) (pt st:Bool) (x y:AV) (e:Ty AV) (h:Ty AO) (f:Nat):Ry:=match q62 P op t x y with
 | some v=>.v v (rdA P o e h f)
 | none=>bif pt then (match q10 x y with
   | some r=>(match qzr op r with
    | some v=>.v v []
    | none=>.no)
   | none=>.no)
  else bif st then (match x,y with
   | .own l g off (n+1),.nils=>own2 op g l (ho h l)
   | _,_=>.no) else .no
def bin1 (op:BinOp) (t:TypeId) (pt st:Bool) (fi:IntKind→Int→IntKind→Int→Option AV) (x y:AV) (e:Ty AV) (h:Ty AO) (f:Nat):Ry:=match x,y with
 | .p (.int k a),.p (.int k' b)=>q4a P o e h f (fi k a k' b)
 | x,y=>bin2 P o op t pt st x y e h f
def gBin (op:BinOp) (t:TypeId) (pt st:Bool) (fi:IntKind→Int→IntKind→Int→Option AV) (x y:Opd):G:=fun e h f=>bin1 P o op t pt st fi (vo e x) (vo e y) e h f
def q7j (off:Nat) (x:Opd):G:=fun e h f=>q4a P o e h f (match vo e x with
 | .loc l g i k=>some (.loc l g i (vh2 k off))
 | .p (.imm cs)=>some (.p (.imm (cs.drop off)))
 | _=>none)
def idx2 (sz' l g off len:Nat) (i:Int) (ob:AO):Option AV:=match ob,i with
 | .arr _ sz g' es,.ofNat i=>bif vh3 g g' && (vh3 sz sz' && vh5 i len) then some (.loc l g (vh2 off i) 0) else none
 | _,_=>none
def idx1 (t:TypeId) (sz':Nat) (ok:Bool) (x i:AV) (h:Ty AO):Option AV:=match x,i with
 | .own l g off len,.p (.int _ i)=>bif ok then idx2 sz' l g off len i (ho h l) else none
 | x,.p (.int _ i)=>(qfo P t x i).run (ho h)
 | _,_=>none
def gIdx (t:TypeId) (sz':Nat) (ok:Bool) (x i:Opd):G:=fun e h f=>q4a P o e h f (idx1 P t sz' ok (vo e x) (vo e i) h)
def gen2 (g len:Nat) (ob:AO):Option AV:=match ob with
 | .arr _ _ g' _=>bif vh3 g g' then some (.p (.int .i64 len)) else none
 | _=>none
def len1 (t:TypeId) (b:Bool) (x:AV) (h:Ty AO):Option AV:=match x with
 | .own l g off len=>bif b then gen2 g len (ho h l) else none
 | x=>(aop.lenT P t x).run (ho h)
def gLen (t:TypeId) (b:Bool) (x:Opd):G:=fun e h f=>q4a P o e h f (len1 P t b (vo e x) h)
def gExt (i:Nat) (x:Opd):G:=fun e h f=>q4a P o e h f (match vo e x with
 | .p (.tup vs)=>nth (vs.map .p) i
 | .tup vs=>nth vs i
 | _=>none)
def gNil (x:Opd):G:=fun e h f=>q4a P o e h f (vbd (vo e x))
def gCap (x:Opd):G:=fun e h f=>match vo e x with
 | .nils=>.v (.p (.int .i64 0)) []
 | _=>.no
def gChr (x:Opd):G:=fun e h f=>match vo e x with
 | .p (.int _ (.ofNat n))=>bif vh5 n 128 then .v (.p (.str [UInt8.ofNat n])) [] else .no
 | _=>.no
def appH (t:TypeId) (s x:AV) (h:Ty AO) (f:Nat):Ry:=match s with
 | .own l g 0 len=>(match ho h l with
  | .arr e sz g' es=>bif vh3 g g' && vh4 len es.length then (match (qb8 P f t (.own l (vic g) 0 len) x).run (qg6 (ho h) l (.arr e sz (vic g) (es.take len))) with
    | some (r,some (l',ob))=>bif vh3 l' l then .w r l ob (l :: (qb8 P f t (.own l (vic g) 0 len) x).reads (qg6 (ho h) l (.arr e sz (vic g) (es.take len)))) else .no
    | _=>.no) else .no
  | _=>.no)
 | _=>.no
def gApp (t:TypeId) (s x:Opd):G:=fun e h f=>match (qb8 P f t (vo e s) (vo e x)).run (ho h) with
 | some y=>ofA P o e h f (some y)
 | none=>appH P t (vo e s) (vo e x) h f
def q2i (t e':TypeId) (sz:Nat) (z:AV) (s x:Opd):G:=fun e h f=>match vo e s,vo e x with
 | .nils,.p (.int _ (.ofNat n))=>bif vh5 0 n && qf6 P e' n then .new (.own f 1 0 n) (.arr e' sz 1 (vfv n z)) [f] else .no
 | _,_=>.no
end
end Go.Ab
namespace Go.Ab
open Go
set_option linter.constructorNameAsVariable false
variable {P:Program} {dst:Option Tmp} {ty:TypeId} {pos:String} {af:Array Edge} {gd:Option (Nat×Bool)}
theorem bleT {a b:Nat}:vh4 a b=true↔a≤b:=by rw [Nat.ble_eq]
theorem q4b {a b:Nat}:vh5 a b=true↔a < b:=by rw [Nat.blt_eq]
theorem q5f {x:Operand}:GOk P ⟨dst,.move x,ty,pos,af,gd⟩ (qzy P ⟨dst,.move x,ty,pos,af,gd⟩ (opd x)):=by
 intro e h f hf hd;unfold qzy;rw [qdi];exact q5e rfl
theorem qzz {x:Operand}:GOk P ⟨dst,.assign x,ty,pos,af,gd⟩ (qzy P ⟨dst,.assign x,ty,pos,af,gd⟩ (opd x)):=by
 intro e h f hf hd;unfold qzy;rw [qdi];exact q5e rfl
theorem q5g {c a b:Operand}:GOk P ⟨dst,.pick c a b,ty,pos,af,gd⟩ (vcy P ⟨dst,.pick c a b,ty,pos,af,gd⟩ (opd c) (opd a) (opd b)):=by
 intro e h f hf hd;refine qja fun x hx=>?_
 simp only [qdi] at hx;simp only [aop];split at hx
 ·rename_i t ht;cases hx;rw [ht];cases t <;> rfl
 ·cases hx
theorem q2j {o:Oper} {t:TypeId} {v:AV} {e:Ty AV} {h:Ty AO} {f:Nat} (hf:q7e h f) (ha:aop P (vh9 f (o.dst.getD 0)) (evf (eo e)) o=q4e P f t v):qzx P o e h f (boxB t v f (rdA P o e h f)):=by
 unfold boxB;cases hk:v.known with
 | false=>trivial
 | true =>
  rw [cond_true];refine nA_ok ?_;rw [ha];unfold q4e;rw [hk];simp only [if_true,q0j,L.run,hf f (vf9 _)]
theorem q9o {t:TypeId} {x:Operand}:GOk P ⟨dst,.box t x,ty,pos,af,gd⟩ (gBox P ⟨dst,.box t x,ty,pos,af,gd⟩ t (opd x)):=by
 intro e h f hf hd;unfold gBox;rw [qdi];refine q2j hf ?_;simp only [aop];rw [q9k hd]
theorem q2k {t:TypeId} {z:AV} (hz:qbo P t=some z) (hc:z.cells.length=P.cellsOf t):GOk P ⟨dst,.alloc t,ty,pos,af,gd⟩ (q7g P ⟨dst,.alloc t,ty,pos,af,gd⟩ t z):=by
 intro e h f hf hd;refine q2j hf ?_;simp only [aop];rw [q9k hd,hz];simp only [hc,if_true]
theorem q5h {t:TypeId} {b:Bool} {x y:AV} {off:Nat} (hb:qaq P t=some b) (hk:x.known=true) (h:q9l (P.cellsOf t) b x off=some y):qjl P t x off=some y:=by
 unfold q9l at h;unfold qjl qpq;simp only [hk,Bool.not_true,vei,if_false,hb];cases b with
 | true =>
  simp only [cond_true,qpo] at h;by_cases h1:off=0∧P.cellsOf t=x.cells.length∧x.isAgg=true
  ·simp only [h1.1,h1.2.1,h1.2.2,decide_true,Bool.and_true,cond_true,vgr] at h;rw [if_pos ⟨h1.1,rfl,h1.2.1,h1.2.2⟩,h]
  ·have h2:(decide (off=0) && (decide (P.cellsOf t=x.cells.length) && x.isAgg))=false:=by
    rw [vgy];intro hh;simp only [veg,decide_eq_true_eq] at hh;exact h1 hh
   rw [h2,cond_false] at h;rw [if_neg (fun hh=>h1 ⟨hh.1,hh.2.2⟩)];simp only;by_cases h3:off+P.cellsOf t≤x.cells.length
   ·have:vh4 (vh2 off (P.cellsOf t)) x.cells.length=true:=bleT.2 h3;rw [this,cond_true] at h;rw [if_pos h3];exact h
   ·have:vh4 (vh2 off (P.cellsOf t)) x.cells.length=false:=vgy.2 fun hh=>h3 (bleT.1 hh)
    rw [this] at h;cases h
 | false =>
  rw [cond_false,qlm] at h;simp only [vgr,vei,false_and,and_false,if_false];exact h
theorem q5i {t:TypeId} {b:Bool} {a y:AV} {h:Ty AO} (hb:qaq P t=some b) (hl:q9m (P.cellsOf t) b a h=some y):(qmf P t a).run (ho h)=some y:=by
 unfold q9m at hl;split at hl
 ·rename_i l g i off;unfold vcz at hl;simp only [qmf,L.run];split at hl
  ·rename_i e sz g' es hob;rw [hob];simp only;rw [qpo] at hl;by_cases hg:g=g'
   ·subst hg;simp only [decide_true,cond_true] at hl;rw [if_pos rfl,←qlm];split at hl
    ·rename_i x hx;rw [hx];simp only;cases hk:x.known with
     | false=>rw [hk] at hl;cases hl
     | true =>
      rw [hk,cond_true] at hl;rw [q5h hb hk hl];rfl
    ·cases hl
   ·simp only [hg,decide_false,cond_false] at hl;cases hl
  ·cases hl
 ·rename_i cs;unfold qmf qpq;rw [hb];cases b with
  | true =>
   rw [cond_true] at hl;by_cases h3:P.cellsOf t≤cs.length
   ·have:vh4 (P.cellsOf t) cs.length=true:=bleT.2 h3;rw [this,cond_true] at hl;simp only [vgk,vfd,h3,if_true,L.run];exact hl
   ·have:vh4 (P.cellsOf t) cs.length=false:=vgy.2 fun hh=>h3 (bleT.1 hh)
    rw [this] at hl;cases hl
  | false =>
   rw [cond_false,qlm] at hl;simp only;rw [hl];rfl
 ·cases hl
theorem q5j {t:TypeId} {b:Bool} {x:Operand} (hb:qaq P t=some b):GOk P ⟨dst,.load t x,ty,pos,af,gd⟩ (vc0 P ⟨dst,.load t x,ty,pos,af,gd⟩ (P.cellsOf t) b (opd x)):=by
 intro e h f hf hd;refine qja fun y hy=>?_
 rw [qdi] at hy;have:=q5i hb hy;simp only [aop,qar,L.run_bind',this,vgl,L.run_ret]
theorem q2l {t:TypeId} {b:Bool} {x y:Operand} (hb:qaq P t=some b):GOk P ⟨dst,.store t x y,ty,pos,af,gd⟩ (q2h P ⟨dst,.store t x y,ty,pos,af,gd⟩ (P.cellsOf t) (opd x) (opd y)):=by
 intro e h f hf hd;unfold q2h;rw [qdi,qdi];unfold q7i;split
 ·rename_i l g i off hx;unfold q7h;split
  ·rename_i e1 sz g' es hob;cases hc:vh3 g g' && vh3 (evf (eo e) y).cells.length (P.cellsOf t) with
   | false=>trivial
   | true =>
    rw [cond_true];simp only [veg,qpo,decide_eq_true_eq] at hc;split
    ·rename_i z hz;split
     ·rename_i q hq;refine wA_ok ?_;rw [qlm] at hz;simp only [aop,hx,qnx,L.run,hob];rw [if_pos ⟨hc.1,hc.2,by rw [hb];rfl⟩,hz];simp only [hq,L.run]
     ·trivial
    ·trivial
  ·trivial
 ·trivial
theorem q9p {op:BinOp} {t yt:TypeId} {x y:Operand}:GOk P ⟨dst,.binOp op t x y yt,ty,pos,af,gd⟩ (gBin P ⟨dst,.binOp op t x y yt,ty,pos,af,gd⟩ op t (qto P t) (qh7 P t) (vc1 P op t) (opd x) (opd y)):=by
 intro e h f hf hd;have hq:∀v,q62 P op t (evf (eo e) x) (evf (eo e) y)=some v→(aop P (vh9 f (dst.getD 0)) (evf (eo e)) ⟨dst,.binOp op t x y yt,ty,pos,af,gd⟩).run (ho h)=some (v,none):=fun v hv=>by
  simp only [aop,qar,L.run_bind',L.run_ofOpt,hv,vgl,L.run_ret]
 unfold gBin;rw [qdi,qdi];unfold bin1;split
 ·rename_i k a k' b h1 h2;refine qja fun v hv=>hq v ?_
  rw [q9n] at hv;rw [h1,h2];unfold q62;simp only [PV.isAgg,Bool.and_false,vei,if_false];exact hv
 ·unfold bin2;split
  ·rename_i v hv;exact q5e (hq v hv)
  ·cases hp:qto P t with
   | true =>
    rw [cond_true];split
    ·rename_i r hr;split
     ·rename_i v hv;exact q89 hp hr hv
     ·trivial
    ·trivial
   | false =>
    rw [cond_false];cases hs:qh7 P t with
    | false=>trivial
    | true =>
     rw [cond_true];split
     ·rename_i l g off n h1 h2;unfold own2;split
      ·rename_i e1 sz g' es hob;rw [qpo];by_cases hg:g=g'
       ·subst hg;simp only [decide_true,cond_true];split
        ·rename_i v hv;exact q9a hs h1 h2 hob hv
        ·trivial
       ·simp only [hg,decide_false,cond_false];trivial
      ·trivial
     ·trivial
theorem q2m {s:TypeId} {fd off:Nat} {x:Operand} (ho':qe7 P s fd=some off):GOk P ⟨dst,.fieldAddr s x fd,ty,pos,af,gd⟩ (q7j P ⟨dst,.fieldAddr s x fd,ty,pos,af,gd⟩ off (opd x)):=by
 intro e h f hf hd;refine qja fun v hv=>?_
 rw [qdi] at hv;simp only [aop,qar,L.run_bind',L.run_ofOpt,qgk,ho'];split at hv
 ·rename_i l g i k hx;cases hv;rw [hx];rfl
 ·rename_i cs hx;cases hv;rw [hx];rfl
 ·cases hv
theorem q2n {t:TypeId} {sz:Nat} {ok:Bool} {x ix:Operand} (hok:ok=true→∃et,P.underlying t=some (.slice et)∧P.cellsOf et=sz∧qmv P et=true) :
  GOk P ⟨dst,.indexAddr t x ix,ty,pos,af,gd⟩ (gIdx P ⟨dst,.indexAddr t x ix,ty,pos,af,gd⟩ t sz ok (opd x) (opd ix)):=by
 intro e h f hf hd;refine qja fun v hv=>?_
 rw [qdi,qdi] at hv;unfold idx1 at hv;split at hv
 ·rename_i l g off len k i hx hi;cases ok with
  | false=>cases hv
  | true =>
   rw [cond_true] at hv;obtain ⟨et,h1,h2,h3⟩:=hok rfl;unfold idx2 at hv;split at hv
   ·rename_i e1 sz1 g' es j hob;cases hc:vh3 g g' && (vh3 sz1 sz && vh5 j len) with
    | false=>rw [hc] at hv;cases hv
    | true =>
     rw [hc,cond_true] at hv;simp only [veg,qpo,decide_eq_true_eq] at hc;obtain ⟨c1,c2,c3⟩:=hc;have c3:j < len:=q4b.1 c3;cases hv;simp only [aop,hi,qj6,qar,L.run_bind',qfo,h1,hx,L.run,hob];rw [if_pos ⟨c1,by rw [h2];exact c2,Int.natCast_nonneg _,Int.ofNat_lt.2 c3,h3⟩];rfl
   ·cases hv
 ·rename_i k i hi hne;simp only [aop,hi,qj6,qar,L.run_bind',hv,vgl,L.run_ret]
 ·cases hv
theorem q9q {t:TypeId} {b:Bool} {x:Operand} (hb:b=true→qh7 P t=true) (ht:(P.underlying t).isSome=true):GOk P ⟨dst,.call ⟨.builtin .len,#[x],#[t]⟩,ty,pos,af,gd⟩ (gLen P ⟨dst,.call ⟨.builtin .len,#[x],#[t]⟩,ty,pos,af,gd⟩ t b (opd x)):=by
 intro e h f hf hd;refine qja fun v hv=>?_
 rw [qdi] at hv;have key:(aop.lenT P t (evf (eo e) x)).run (ho h)=some v:=by
  unfold len1 at hv;split at hv
  ·rename_i l g off len hx;cases b with
   | false=>cases hv
   | true =>
    rw [cond_true] at hv;have hs:=hb rfl;unfold qh7 at hs;split at hs
    case h_2=>cases hs
    rename_i et hu;unfold gen2 at hv;rw [hx];unfold aop.lenT;rw [hu];simp only [qu0,L.run];split at hv
    ·rename_i e1 sz g' es hob;rw [hob];rw [qpo] at hv;by_cases hg:g=g'
     ·subst hg;simp only [decide_true,cond_true] at hv;simp only [if_true,L.run];exact hv
     ·simp only [hg,decide_false,cond_false] at hv;cases hv
    ·cases hv
  ·exact hv
 simp only [aop,ht,if_true,qar,L.run_bind',key,vgl,L.run_ret]
theorem q9r {i:Nat} {x:Operand}:GOk P ⟨dst,.extract x i,ty,pos,af,gd⟩ (gExt P ⟨dst,.extract x i,ty,pos,af,gd⟩ i (opd x)):=by
 intro e h f hf hd;refine qja fun v hv=>?_
 rw [qdi] at hv;simp only [aop];split at hv
 ·rename_i vs hx;rw [hx];rw [qlm,ve6] at hv;simp only [qar,L.run_bind',L.run_ofOpt,hv,vgl,L.run_ret]
 ·rename_i vs hx;rw [hx];rw [qlm] at hv;simp only [qar,L.run_bind',L.run_ofOpt,hv,vgl,L.run_ret]
 ·cases hv
theorem q9s {x:Operand}:GOk P ⟨dst,.nilCheck x,ty,pos,af,gd⟩ (gNil P ⟨dst,.nilCheck x,ty,pos,af,gd⟩ (opd x)):=by
 intro e h f hf hd;refine qja fun v hv=>?_
 rw [qdi] at hv;simp only [aop,qar,L.run_bind',L.run_ofOpt,hv,vgl,L.run_ret]
theorem q9t {t:TypeId} {x:Operand} (ht:qh7 P t=true):GOk P ⟨dst,.call ⟨.builtin .cap,#[x],#[t]⟩,ty,pos,af,gd⟩ (gCap (opd x)):=by
 intro e h f hf hd;unfold gCap;rw [qdi];split
 ·rename_i hx;exact q9b ht hx
 ·trivial
theorem q9u {s d:TypeId} {kk:IntKind} {x:Operand} (hs:P.underlying s=some (.int kk)) (hd':P.underlying d=some .string):GOk P ⟨dst,.convert s d x,ty,pos,af,gd⟩ (gChr (opd x)):=by
 intro e h f hf hd;unfold gChr;rw [qdi];split
 ·rename_i k n hx;cases hn:vh5 n 128 with
  | false=>trivial
  | true =>
   rw [cond_true];exact q9c hs hd' hx (q4b.1 hn)
 ·trivial
theorem q9v {t:TypeId} {s x:Operand}:GOk P ⟨dst,.call ⟨.builtin .append,#[s,x],#[t,t]⟩,ty,pos,af,gd⟩ (gApp P ⟨dst,.call ⟨.builtin .append,#[s,x],#[t,t]⟩,ty,pos,af,gd⟩ t (opd s) (opd x)):=by
 intro e h f hf hd;unfold gApp;rw [qdi,qdi];split
 ·rename_i y hy;refine q7f fun z hz=>?_
  cases hz;simp only [aop,if_true];rw [q9k hd];exact hy
 ·unfold appH;split
  ·rename_i l g len hs;split
   ·rename_i e1 sz g' es hob;cases hc:vh3 g g' && vh4 len es.length with
    | false=>trivial
    | true =>
     rw [cond_true];simp only [veg,qpo,decide_eq_true_eq] at hc;obtain ⟨rfl,c2⟩:=hc;have c2:=Nat.le_of_ble_eq_true c2;split
     ·rename_i r l' ob hr;rw [qpo];by_cases hl:l'=l
      ·subst hl;simp only [decide_true,cond_true];have:=qvx (P:=P) (dst:=dst) (ty:=ty) (pos:=pos) (af:=af) (gd:=gd) (ρ:=evf (eo e)) (x:=x) (t:=t) (B:=f) hs hob c2 hr rfl;have e2:∀σ:Nat→AO,ovr (Upd.list (some (l',ob))++[(l',.arr e1 sz (g+1) (es.take len))]) σ=ovr [(l',ob)] σ:=fun σ=>by
        funext k;simp only [Upd.list,vg7,vfs,ovr];by_cases hk:l'=k <;> simp [hk]
       intro D X ρ' σ' hρ hσ inj w a next Q hr hT ha hn
       refine this D X ρ' σ' hρ hσ hr hT ha ?_;rw [e2];exact hn
      ·simp only [hl,decide_false,cond_false];trivial
     ·trivial
   ·trivial
  ·trivial
theorem q2o {t tn et:TypeId} {kn:IntKind} {z:AV} {s x:Operand} (ht:P.underlying t=some (.slice et)) (htn:P.underlying tn=some (.int kn)) (hz:qbo P et=some z) (hel:qdg (P.cellsOf et) z=true)
  (hc:0 < P.cellsOf et) (hl:qb8.zeroLen P et=P.cellsOf et):GOk P ⟨dst,.call ⟨.builtin .append,#[s,x],#[t,tn]⟩,ty,pos,af,gd⟩ (q2i P t et (P.cellsOf et) z (opd s) (opd x)):=by
 intro e h f hf hd;unfold q2i;rw [qdi,qdi];split
 ·rename_i k n hs hx;cases hb:vh5 0 n && qf6 P et n with
  | false=>trivial
  | true =>
   rw [cond_true];simp only [veg] at hb;exact q13 ht htn hs hx hz hel (q4b.1 hb.1) hc hb.2 hl (hf f (vf9 _))
 ·trivial
end Go.Ab
