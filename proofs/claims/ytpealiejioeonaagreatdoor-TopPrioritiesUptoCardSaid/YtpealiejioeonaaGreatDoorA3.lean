/- -/
import Derived.Lib.AppendZeros
import Derived.Laws.IdiomCopy
import Derived.KernelRfl
import Derived.OrdersHeld
import Derived.Lib.SlicesCompact
import Derived.Shelf.Spec.SlicesInsertGrow
import Derived.Test.YtpealiejioeonaaGreatDoorA2
set_option linter.unusedVariables false
set_option linter.unusedSimpArgs false
open Array renaming ext'→vw4,getD_eq_getD_getElem?→v1q,getElem?_append→vw5,getElem?_eq_getElem→v1r,getElem?_eq_some_iff→vw6,getElem?_modify→vz0,getElem?_replicate→v1s,getElem?_setIfInBounds_ne→vw8,getElem?_toList→vw9,length_toList→vxa,replicate→v1t,size_append→vxc
open Bool renaming and_eq_true→vxh,eq_false_iff→vz4,false_eq_true→vxj,not_eq_true'→vxl
open Iff renaming rfl→v1u
open Int renaming eq_ofNat_of_zero_le→v1v,toNat_natCast→v1w
open Go.IntKind renaming i64→vz8,u16→v0a,wrap_i64→v1x
open Go.Lib renaming compact→v1y,wpList_append_run→v1z
open List renaming cons_append→v0h,eq_nil_of_length_eq_zero→vxx,ext_getElem?→vxy,flatMap_cons→v0j,flatMap_map→v10,getD_eq_getElem?_getD→v0k,getD_nil→v11,getElem?_append_right→vx2,getElem?_cons_succ→v0l,getElem?_cons_zero→v0m,getElem?_drop→vx3,getElem?_eq_getElem→vx4,getElem?_eq_none→vx5,getElem?_eq_some_iff→vx6,getElem?_map→vx7,getElem?_take→vya,length_append→vyc,length_cons→v0q,length_drop→vyd,length_filter_le→v0s,length_map→vye,length_nil→vyf,length_replicate→vyg,length_singleton→v12,length_take→vyi,map→v0v,map_congr_left→v0w,map_cons→vyk,map_take→v0z,mem_append→vym,mem_append_left→v00,mem_append_right→v01,mem_cons→v02,mem_cons_of_mem→v03,mem_cons_self→v04,mem_filter→v05,mem_flatMap→vyn,mem_map→v06,mem_of_mem_drop→vyp,mem_of_mem_take→vyq,mem_or_eq_of_mem_set→vyr,mem_range→v08,mem_replicate→vys,mem_singleton→v09,nil_append→vyt,range→vyu,replicate→vyw,set_cons_zero→v13,size_toArray→vyx,take_left'→vyz
open Nat renaming add→v14,add_right_cancel→v15,add_zero→vy6,beq→v1f,ble→v16,blt→v17,le_of_ble_eq_true→v18,le_of_succ_le→v19,le_refl→vza,le_succ→vzb,le_succ_of_le→v2a,le_trans→vzc,lt_of_lt_of_le→vzd,lt_succ_self→vze,lt_trichotomy→v1g,min→v2b,min_def→v2c,min_eq_left→v1h,mul_le_mul_right→vzh,strongRecOn→v1j,sub→v2d,sub_zero→vzk,succ→v2e,zero_add→vzl,zero_le→v1m,zero_mul→v2f
open Option renaming bind_some→vzm,isSome_iff_exists→vzp,map_eq_some_iff→vzq
open Option.some renaming inj→v1p,injEq→vzs
open Prod.mk renaming injEq→vzt
open Go.Result renaming andThen_ok→vzu
open Go.Sem renaming run_bind→vzw,run_pure→vzx
noncomputable section
namespace Go.Ab
open Go
section
def ovr:List (Nat×AO)→(Nat→AO)→Nat→AO
 | [],σ,l=>σ l
 | (k,o) :: r,σ,l=>if k=l then o else ovr r σ l
def Upd.list:Upd→List (Nat×AO)
 | none=>[]
 | some p=>[p]
theorem qxt (u:Upd) (σ:Nat→AO):ovr (Upd.list u) σ=upd σ u:=by
 cases u with
 | none=>rfl
 | some p =>
  funext l;simp only [Upd.list,ovr,upd,qiq];by_cases h:p.1=l
  ·rw [if_pos h,if_pos h.symm]
  ·rw [if_neg h,if_neg (Ne.symm h)]
theorem qwp (us:List (Nat×AO)) (h:List (Nat×AO)):qa0 (us++h)=ovr us (qa0 h):=by
 funext l
 induction us with
 | nil=>rfl
 | cons p r ih =>
  obtain⟨k,o⟩:=p;simp only [v0h,qa0,ovr,ih]
theorem qtx {us:List (Nat×AO)} {σ:Nat→AO} {l:Nat} (h:l ∉ us.map (·.1)):ovr us σ l=σ l:=by
 induction us with
 | nil=>rfl
 | cons p r ih =>
  obtain⟨k,o⟩:=p;simp only [vyk,v02,not_or] at h;simp only [ovr];rw [if_neg (Ne.symm h.1),ih h.2]
theorem ven {us:List (Nat×AO)} {σ τ:Nat→AO} {l:Nat} (h:l∈us.map (·.1)):ovr us σ l=ovr us τ l:=by
 induction us with
 | nil=>cases h
 | cons p r ih =>
  obtain⟨k,o⟩:=p;simp only [ovr];by_cases hk:k=l
  ·rw [if_pos hk,if_pos hk]
  ·rw [if_neg hk,if_neg hk];rcases v02.1 h with h | h
   ·exact absurd h.symm hk
   ·exact ih h
def OpM (P:Program) (o:Oper) (ρ:Operand→AV) (σ:Nat→AO) (v:AV) (us:List (Nat×AO)) (rs:List Nat):Prop :=
 ∀(D:Prop) (X:Nat→Prop) (ρ':Operand→AV) (σ':Nat→AO),(∀x∈o.op.operands,ρ' x=ρ x)→(∀l∈rs,σ' l=σ l) →
  ∀{inj:Inj} {w:World} {a:Act} {next:Act→World→Prop} {Q:Exit→Act→World→Prop},HR X inj σ' w→TabOk P (fun b=>X b∨F inj σ' b) w→(∀x,AR X inj σ' w (ρ' x) (a.eval x)) →
   (∀val w' inj',HR X inj' (ovr us σ') w'→Ev D X inj σ' w inj' (ovr us σ') w'→AR X inj' (ovr us σ') w' v val→next (a.put o.dst val) w')→o.wp P a w next Q
def vq3 (D:Prop) (P:Program) (o:Oper) (ρ:Operand→AV) (σ:Nat→AO) (v:AV) (us:List (Nat×AO)) (rs:List Nat):Prop :=
 ∀(X:Nat→Prop) (ρ':Operand→AV) (σ':Nat→AO),(∀x∈o.op.operands,ρ' x=ρ x)→(∀l∈rs,σ' l=σ l) →
  ∀{inj:Inj} {w:World} {a:Act} {next:Act→World→Prop} {Q:Exit→Act→World→Prop},HR X inj σ' w→TabOk P (fun b=>X b∨F inj σ' b) w→(∀x,AR X inj σ' w (ρ' x) (a.eval x)) →
   (∀val w' inj',HR X inj' (ovr us σ') w'→Ev D X inj σ' w inj' (ovr us σ') w'→AR X inj' (ovr us σ') w' v val→next (a.put o.dst val) w')→o.wp P a w next Q
theorem OpM.md {D:Prop} {P:Program} {o:Oper} {ρ:Operand→AV} {σ:Nat→AO} {v:AV} {us:List (Nat×AO)} {rs:List Nat} (h:OpM P o ρ σ v us rs):vq3 D P o ρ σ v us rs:=h D
theorem qxu {P:Program} {B:Nat} {o:Oper} {ρ:Operand→AV} {σ:Nat→AO} {v:AV} {u:Upd} (h:(aop P B ρ o).run σ=some (v,u)):OpM P o ρ σ v (Upd.list u) ((aop P B ρ o).reads σ):=by
 intro D X ρ' σ' hρ hσ inj w a next Q hr hT ha hn
 have hc:aop P B ρ' o=aop P B ρ o:=qxh P B o hρ;obtain⟨h1,_⟩:=L.frame _ h hσ;rw [←hc] at h1;refine q8l B o ρ' hr ha h1 fun val w' inj' k1 k2 k3=>?_
 rw [qxt] at hn;exact hn val w' inj' k1 k2.weak k3
theorem qxv {P:Program} {o:Oper} {ρ:Operand→AV} {σ:Nat→AO} {v:AV}
  (h:∀(X:Nat→Prop) (ρ':Operand→AV) (σ':Nat→AO) (inj:Inj) (w:World) (a:Act),(∀x∈o.op.operands,ρ' x=ρ x)→(∀x,AR X inj σ' w (ρ' x) (a.eval x))→∃val,(execOp a.eval o).run P w=.ok (.value val) w∧AR X inj σ' w v val):OpM P o ρ σ v [] []:=by
 intro D X ρ' σ' hρ _ inj w a next Q hr hT ha hn
 obtain⟨val,h1,h2⟩:=h X ρ' σ' inj w a hρ ha;unfold Oper.wp;rw [h1];exact hn val w inj hr (Ev.refl _ _ _ _) h2
variable {C:Cx} {Q:Exit→St→Prop} {st:St}
theorem veo {ops:Array Oper} {o:Oper} {rest:List Oper} {v:AV} {us:List (Nat×AO)} {rs:List Nat} (hg:qau ops st.env o=some true) (hd:qbg C.N o=true)
  (hop:OpM C.P o (ev st.env) st.sig v us rs) (h:AL C ops rest Q ⟨qdh st.env o.dst v,us++st.heap⟩):AL C ops (o :: rest) Q st:=by
 intro inj a w hs;simp only [wpList,qa9 hs hg,if_true];refine .inl (hop C.D C.X (ev st.env) st.sig (fun _ _=>rfl) (fun _ _=>rfl) hs.hr (qmb hs.ev) (fun x=>hs.eval x) fun val w' inj' h1 h2 h3=>?_);refine h inj' _ _ ?_;have hput:=hs.put (o:=o) (u:=none) hd hs.hr (Ev.refl _ _ _ _) (v:=.any) (val:=val) trivial;have hsg:(St.mk (qdh st.env o.dst v) (us++st.heap)).sig=ovr us st.sig:=qwp _ _;refine⟨fun t=>?_,hput.size,hput.defers,by rw [hsg];exact h1,by rw [hsg];exact hs.ev.trans h2⟩;rw [hsg];cases hdst:o.dst with
 | none=>simpa [qdh,Act.put] using AR.ev h2 hs.hr.xlt _ _ (hs.env t)
 | some d =>
  simp only [qbg,hdst,decide_eq_true_eq] at hd;simp only [qdh,Act.put,Env.get];by_cases ht:d=t
  ·subst ht;rw [if_pos rfl];have:(a.tmps.setIfInBounds d val).getD d undef=val:=by simp [hs.size,hd]
   rw [this];exact h3
  ·rw [if_neg ht];have:(a.tmps.setIfInBounds d val).getD t undef=a.tmps.getD t undef:=by simp [vw8 ht]
   rw [this];exact AR.ev h2 hs.hr.xlt _ _ (hs.env t)
def vbp (op:BinOp) (t:Bool):Option AV:=match op with
 | .eql=>some (.p (.bool t))
 | .neq=>some (.p (.bool (!t)))
 | _=>none
def vep (x y:AV):Option Bool:=match x,y with
 | .loc ..,.p .nilp=>some false
 | .p .nilp,.p .nilp=>some true
 | _,_=>none
def q3z (P:Program) (t:TypeId):Bool:=match P.underlying t with
 | some (.pointer _)=>true
 | _=>false
def qoh (P:Program) (t:TypeId):Bool:=match P.underlying t with
 | some (.slice _)=>true
 | _=>false
theorem qxw {P:Program} {w:World} {op:BinOp} {t:TypeId} {x y:Value} {r:Bool} {v:AV} {ox oy:Operand} (hg:∀op:BinOp,(eqGuard op t ox oy x y).run P w=.ok () w)
  (he:(binOp .eql t x y).run P w=.ok (.bool r) w) (hn:(binOp .neq t x y).run P w=.ok (.bool (!r)) w) (h:vbp op r=some v) :
  ∃val,(do eqGuard op t ox oy x y;binOp op t x y:Sem Value).run P w=.ok val w∧∀X inj σ,AR X inj σ w v val:=by
 simp only [vzw,hg,vzu];unfold vbp at h;split at h
 ·cases h;exact⟨_,he,fun _ _ _=>rfl⟩
 ·cases h;exact⟨_,hn,fun _ _ _=>rfl⟩
 ·cases h
theorem veq {P:Program} {t e:TypeId} (hu:P.underlying t=some (.pointer e)) (d:Nat) (b:Addr) (w:World):(Op.equalIn (d+1) t (.pointer (some b)) (.pointer none)).run P w=.ok false w:=by
 simp [Op.equalIn,run_underlying hu]
theorem ver {P:Program} {t e:TypeId} (hu:P.underlying t=some (.pointer e)) (d:Nat) (w:World):(Op.equalIn (d+1) t (.pointer none) (.pointer none)).run P w=.ok true w:=by
 simp [Op.equalIn,run_underlying hu]
theorem vog {P:Program} {dst:Option Tmp} {op:BinOp} {t yt ty:TypeId} {x y:Operand} {pos:String} {af:Array Edge} {gd:Option (Nat×Bool)} {ρ:Operand→AV} {σ:Nat→AO} {v:AV} {r:Bool}
  (ht:q3z P t=true) (hr:vep (ρ x) (ρ y)=some r) (hv:vbp op r=some v):OpM P ⟨dst,.binOp op t x y yt,ty,pos,af,gd⟩ ρ σ v [] []:=by
 refine qxv fun X ρ' σ' inj w a hρ ha=>?_
 have hx:=ha x;have hy:=ha y;rw [hρ x (by simp [Op.operands])] at hx;rw [hρ y (by simp [Op.operands])] at hy;unfold q3z at ht;split at ht
 case h_2=>cases ht
 rename_i e hu;have key:∃val,(do eqGuard op t x y (a.eval x) (a.eval y);binOp op t (a.eval x) (a.eval y):Sem Value).run P w=.ok val w∧∀X inj σ,AR X inj σ w v val:=by
  unfold vep at hr;split at hr
  ·rename_i l g i off h1 h2;rw [h1] at hx;rw [h2] at hy;obtain⟨⟨b,hb⟩,_⟩:=hx;simp only [AR,PR] at hy;rw [hb,hy];cases hr;have hk:(Op.equal t (.pointer (some b)) (.pointer none)).run P w=.ok false w:=veq hu 9999 b w;refine qxw (fun op=>by cases op <;> simp [eqGuard]) ?_ ?_ hv
   ·simp [binOp,hk]
   ·simp [binOp,hk]
  ·rename_i h1 h2;rw [h1] at hx;rw [h2] at hy;simp only [AR,PR] at hx hy;rw [hx,hy];cases hr;have hk:(Op.equal t (.pointer none) (.pointer none)).run P w=.ok true w:=ver hu 9999 w;refine qxw (fun op=>by cases op <;> simp [eqGuard]) ?_ ?_ hv
   ·simp [binOp,hk]
   ·simp [binOp,hk]
  ·cases hr
 obtain⟨val,h1,h2⟩:=key;refine⟨val,?_,h2 _ _ _⟩;simp only [execOp,vzw];simp only [vzw] at h1;rw [h1];rfl
theorem voh {P:Program} {dst:Option Tmp} {op:BinOp} {t yt ty:TypeId} {x y:Operand} {pos:String} {af:Array Edge} {gd:Option (Nat×Bool)} {ρ:Operand→AV} {σ:Nat→AO} {v:AV} {l g off len e sz:Nat} {es:List AV}
  (ht:qoh P t=true) (hx0:ρ x=.own l g off (len+1)) (hy0:ρ y=.nils) (ho:σ l=.arr e sz g es) (hv:vbp op false=some v):OpM P ⟨dst,.binOp op t x y yt,ty,pos,af,gd⟩ ρ σ v [] [l]:=by
 intro D X ρ' σ' hρ hσ inj w a next Q hr hT ha hn
 have hx:=ha x;have hy:=ha y;rw [hρ x (by simp [Op.operands]),hx0] at hx;rw [hρ y (by simp [Op.operands]),hy0] at hy;unfold qoh at ht;split at ht
 case h_2=>cases ht
 rename_i et hu;simp only [AR] at hy;obtain⟨_,a2⟩:=hx;obtain⟨_,a3⟩:=a2 _ ((hσ l (by simp)).trans ho);obtain⟨a4,a5⟩:=a3 rfl _ _ _ rfl;have hval:∃aa n c,a.eval x=.slice (some aa) n c:=by
  rcases a5 with⟨_,_,_,h0⟩|⟨b,c,aa,_,h1,h2,h3⟩
  ·omega
  ·rcases h3 with⟨_,h3⟩ | h3
   ·omega
   ·exact⟨_,_,_,by rw [h1,h3]⟩
 obtain⟨aa,n,c,hval⟩:=hval;have key:∃val,(do eqGuard op t x y (a.eval x) (a.eval y);binOp op t (a.eval x) (a.eval y):Sem Value).run P w=.ok val w∧∀X inj σ,AR X inj σ w v val:=by
  rw [hval,hy];exact qxw (fun op=>by cases op <;> simp [eqGuard]) (Lib.run_eql_slice_nil w t et _ _ _ _ _ hu) (run_neq_slice_nil_any w t et _ _ _ _ _ hu) hv
 obtain⟨val,h1,h2⟩:=key;have hrun:(execOp a.eval ⟨dst,.binOp op t x y yt,ty,pos,af,gd⟩).run P w=.ok (.value val) w:=by
  simp only [execOp,vzw];simp only [vzw] at h1;rw [h1];rfl
 unfold Oper.wp;rw [hrun];exact hn val w inj hr (Ev.refl _ _ _ _) (h2 _ _ _)
theorem voi {P:Program} {dst:Option Tmp} {ty:TypeId} {x:Operand} {t:TypeId} {pos:String} {af:Array Edge} {gd:Option (Nat×Bool)} {ρ:Operand→AV} {σ:Nat→AO}
  (ht:qoh P t=true) (hx0:ρ x=.nils):OpM P ⟨dst,.call ⟨.builtin .cap,#[x],#[t]⟩,ty,pos,af,gd⟩ ρ σ (.p (.int .i64 0)) [] []:=by
 refine qxv fun X ρ' σ' inj w a hρ ha=>?_
 have hx:=ha x;rw [hρ x (by simp [Op.operands,Call.operands]),hx0] at hx;simp only [AR] at hx;unfold qoh at ht;split at ht
 case h_2=>cases ht
 rename_i et hu;refine⟨.int .i64 0,?_,rfl⟩;simp [execOp,resolve,invoke,builtin,hx,Builtin.cap_,goInt,run_underlying hu]
theorem voj {P:Program} {dst:Option Tmp} {ty s d:TypeId} {x:Operand} {pos:String} {af:Array Edge} {gd:Option (Nat×Bool)} {ρ:Operand→AV} {σ:Nat→AO} {k kk:IntKind} {n:Nat}
  (hs:P.underlying s=some (.int kk)) (hd:P.underlying d=some .string) (hx0:ρ x=.p (.int k n)) (hn:n < 128):OpM P ⟨dst,.convert s d x,ty,pos,af,gd⟩ ρ σ (.p (.str [UInt8.ofNat n])) [] []:=by
 refine qxv fun X ρ' σ' inj w a hρ ha=>?_
 have hx:=ha x;rw [hρ x (by simp [Op.operands]),hx0] at hx;simp only [AR,PR] at hx;refine⟨.string ⟨#[UInt8.ofNat n]⟩,?_,rfl⟩;have h128:∀m:Fin 128,(Utf8.encode (m.val:Int)).data=#[UInt8.ofNat m.val]:=by decide +kernel
 have he:Utf8.encode (n:Int)=⟨#[UInt8.ofNat n]⟩:=by
  have:=h128 ⟨n,hn⟩;cases hb:Utf8.encode (n:Int) with
  | mk d=>rw [hb] at this;exact congrArg ByteArray.mk this
 simp [execOp,convert,run_underlying hs,run_underlying hd,hx,Conv.intToString,he]
end
section
theorem vbq {z:Value} (n:Nat):(Builtin.zeroCells z.cells n).toList=flat (vyw n z):=qr9 z n
theorem ves {P:Program} {dst:Option Tmp} {ty t tn e:TypeId} {s x:Operand} {pos:String} {af:Array Edge} {gd:Option (Nat×Bool)} {ρ:Operand→AV} {σ:Nat→AO} {k:IntKind} {kn:IntKind} {n B:Nat} {z:AV}
  (ht:P.underlying t=some (.slice e)) (htn:P.underlying tn=some (.int kn)) (hs0:ρ s=.nils) (hx0:ρ x=.p (.int k n)) (hz:qbf P e=some z) (hel:qer (P.cellsOf e) z=true) (hpos:0 < n) (hc:0 < P.cellsOf e)
  (hroom:qld P e n=true) (hl:qca.zeroLen P e=P.cellsOf e) (hB:σ B=.dead 0) :
  OpM P ⟨dst,.call ⟨.builtin .append,#[s,x],#[t,tn]⟩,ty,pos,af,gd⟩ ρ σ (.own B 1 0 n) [(B,.arr e (P.cellsOf e) 1 (vyw n z))] [B]:=by
 intro D X ρ' σ' hρ hσ inj w a next Q hr hT ha hn
 have hs:=ha s;have hx:=ha x;rw [hρ s (by simp [Op.operands,Call.operands]),hs0] at hs;rw [hρ x (by simp [Op.operands,Call.operands]),hx0] at hx;have ho:=(hσ B (by simp)).trans hB;simp only [AR,PR] at hs hx;simp only [qld,decide_eq_true_eq] at hroom;obtain⟨hby,h63⟩:=hroom;obtain⟨i,z0,hi,hz0,hzl',his,hib⟩:=qsi (P:=P) (e:=e) (by rw [hz];rfl);have hzv:z=ofV z0:=by
  unfold qbf at hz;rw [hi] at hz;simpa [hz0] using hz.symm
 have hzr:∀X inj σ w,AR X inj σ w z z0:=fun X inj σ w=>by rw [hzv];exact qtg z0
 have hrun:=Lib.run_append_nil_zeros (P:=P) w t tn ty e i z0 k kn ht htn hi hz0 n hpos (by omega) (by omega) (by rw [hib];omega);have hge:=grownCap_ge w n 0 e;have hz1:z0.cells.size=P.cellsOf e:=by rw [←hzl'];exact hl
 have hars:∀m,ARs X inj σ' w (vyw m z) (vyw m z0):=fun m=>by
  induction m with
  | zero=>rfl
  | succ m ih=>exact⟨z0,_,rfl,hzr _ _ _ _,ih⟩
 obtain⟨_,hone⟩:=AR.cells_of (X:=X) (inj:=inj) (σ:=σ') (w:=w) (by
  have:=hel;unfold qer at this;simp only [vxh] at this;exact this.1) (hzr X inj σ' w)
 have hone2:qbi (flat (vyw n z0)):=by
  intro u hu;unfold flat at hu;obtain⟨v,hv,hu⟩:=vyn.1 hu;rw [(vys.1 hv).2] at hu;exact hone u hu
 have hall:=hr.alloc (D:=D) (l:=B) (g':=1) (e:=e) (sz:=P.cellsOf e) (es:=vyw n z) (vs:=vyw n z0) (w1:=w.drew) (c:=grownCap w n 0 e)
  (cur:=Builtin.zeroCells z0.cells n++Builtin.zeroCells z0.cells (grownCap w n 0 e - n)) (.inr rfl) (by rw [ho];exact vze 0) (hars n) (fun v hv=>by rw [(vys.1 hv).2];exact hz1) hone2
  (by simpa using hge) (grownCap_le_maxLen w _ 0 e (by simp only [maxLen];omega))
  (by
   simp only [vxc,size_zeroCells];rw [hz1,←Nat.add_mul];congr 1;omega)
  (by
   simp only [Array.toList_append,vyg];rw [vbq];refine vyz ?_;rw [qbl (sz:=P.cellsOf e) (fun v hv=>by rw [(vys.1 hv).2];exact hz1),vyg])
 have hexec:(execOp a.eval ⟨dst,.call ⟨.builtin .append,#[s,x],#[t,tn]⟩,ty,pos,af,gd⟩).run P w=.ok (.value (.slice (some ⟨w.heap.size,0,none⟩) n (grownCap w n 0 e))) (w.drew.alloc (.cells (Builtin.zeroCells z0.cells n++Builtin.zeroCells z0.cells (grownCap w n 0 e - n)) e)):=by
  simp only [execOp,resolve,vzw,vzx,vzu,invoke,qnu];have:(#[s,x]:Array Operand).map a.eval=#[.slice none 0 0,.int k n]:=by simp [hs,hx]
  rw [this,hrun];simp
 unfold Oper.wp;rw [hexec];have hov:ovr [(B,.arr e (P.cellsOf e) 1 (vyw n z))] σ'=qiq σ' B (.arr e (P.cellsOf e) 1 (vyw n z)):=by
  have:=qxt (some (B,.arr e (P.cellsOf e) 1 (vyw n z))) σ';exact this
 rw [hov] at hn;refine hn _ _ _ hall.1 hall.2 ?_;exact qjx (inj:=fun j=>if j=B then some (w.heap.size,grownCap w n 0 e) else inj j) (qc0 _ _ _) (by simp) (by simp) hge
theorem HR.head {D:Prop} {X:Nat→Prop} {inj:Inj} {σ:Nat→AO} {w:World} {l e sz g len:Nat} {es:List AV} (h:HR X inj σ w) (ho:σ l=.arr e sz g es) (hl:len≤es.length) :
  HR X inj (qiq σ l (.arr e sz (g+1) (es.take len))) w∧Ev D X inj σ w inj (qiq σ l (.arr e sz (g+1) (es.take len))) w:=by
 have hup:=h.update (D:=D) (w':=w) (l:=l) (o:=.arr e sz g es) (o':=.arr e sz (g+1) (es.take len)) (x:=inj l) ho rfl rfl rfl (fun _=>vza _) (vza _) (fun _ _=>rfl) (fun _ _ _=>rfl)
  (fun b c hb=>.inr ⟨rfl,c,hb⟩) ⟨vzb _,fun _ he=>by simp [AO.gen] at he⟩
 rw [qo1] at hup;obtain⟨hev,hhr⟩:=hup;refine⟨hhr ?_,hev⟩;obtain⟨vs,o1,o2,o3,o4⟩:=(ho ▸ h.obj l _ rfl:OR X inj σ w l (.arr e sz g es));have hvl:=o1.length;refine⟨vs.take len,ARs.ev hev h.xlt _ _ (o1.take len),fun v hv=>o2 v (vyq hv),?_,?_⟩
 ·rw [qhz len o2];intro v hv;exact o3 v (vyq hv)
 ·rcases o4 with⟨p1,p2⟩|⟨b,c,cur,p1,p2,p3,p4,p5,p6,p7⟩
  ·exact .inl ⟨p1,by rw [p2];simp⟩
  ·refine .inr ⟨b,c,cur,p1,p2,p3,by rw [vyi];omega,p5,p6,?_⟩;rw [vyi,v1h hl,qhz len o2,←p7,List.take_take,v1h (vzh _ hl)]
theorem q61 {P:Program} {dst:Option Tmp} {ty t e sz:TypeId} {s x:Operand} {pos:String} {af:Array Edge} {gd:Option (Nat×Bool)} {ρ:Operand→AV} {σ:Nat→AO} {l g len B:Nat} {es:List AV} {r:AV} {up:Upd} {rs:List Nat}
  (hs0:ρ s=.own l g 0 len) (ho:σ l=.arr e sz g es) (hl:len≤es.length)
  (hr0:(qca P B t (.own l (g+1) 0 len) (ρ x)).run (qiq σ l (.arr e sz (g+1) (es.take len)))=some (r,up)) (hrs:(qca P B t (.own l (g+1) 0 len) (ρ x)).reads (qiq σ l (.arr e sz (g+1) (es.take len)))=rs) :
  OpM P ⟨dst,.call ⟨.builtin .append,#[s,x],#[t,t]⟩,ty,pos,af,gd⟩ ρ σ r (Upd.list up++[(l,.arr e sz (g+1) (es.take len))]) (l :: rs):=by
 intro D X ρ' σ' hρ hσ inj w a next Q hr hT ha hn
 have hs:=ha s;have hx:=ha x;rw [hρ s (by simp [Op.operands,Call.operands]),hs0] at hs;rw [hρ x (by simp [Op.operands,Call.operands])] at hx;have ho':=(hσ l (by simp)).trans ho;obtain⟨h1,h2⟩:=hr.head (D:=D) ho' hl;have hs':AR X inj (qiq σ' l (.arr e sz (g+1) (es.take len))) w (.own l (g+1) 0 len) (a.eval s):=by
  obtain⟨a1,a2⟩:=hs;obtain⟨_,a3⟩:=a2 _ ho';obtain⟨a4,a5⟩:=a3 rfl _ _ _ rfl;refine⟨a1,fun o hoo=>?_⟩;rw [qc0] at hoo;subst hoo;refine⟨vza _,fun _ e2 sz2 es2 he=>?_⟩;cases he;exact⟨by rw [vyi];omega,a5⟩
 have hx':=AR.ev h2 hr.xlt _ _ hx;have hfr:(qca P B t (.own l (g+1) 0 len) (ρ x)).run (qiq σ' l (.arr e sz (g+1) (es.take len)))=some (r,up):=by
  refine (L.frame _ hr0 fun k hk=>?_).1;rw [hrs] at hk;unfold qiq;by_cases hkl:k=l
  ·rw [if_pos hkl,if_pos hkl]
  ·rw [if_neg hkl,if_neg hkl];exact hσ k (by simp [hk])
 obtain⟨val,w',inj',q1,q2,q3,q4⟩:=qo2 (D:=D) (ty:=ty) h1 hs' hx' hfr;have hov:ovr (Upd.list up++[(l,.arr e sz (g+1) (es.take len))]) σ'=upd (qiq σ' l (.arr e sz (g+1) (es.take len))) up:=by
  rw [←qxt];funext k;cases up with
  | none =>
   have:=congrFun (qxt (some (l,.arr e sz (g+1) (es.take len))) σ') k;exact this
  | some p =>
   have:=congrFun (qxt (some (l,.arr e sz (g+1) (es.take len))) σ') k;simp only [Upd.list,v0h,vyt,ovr] at this ⊢;split
   ·rfl
   ·exact this
 have hexec:(execOp a.eval ⟨dst,.call ⟨.builtin .append,#[s,x],#[t,t]⟩,ty,pos,af,gd⟩).run P w=.ok (.value val) w':=by
  simp only [execOp,resolve,vzw,vzx,vzu,invoke,qnu];have:(#[s,x]:Array Operand).map a.eval=#[a.eval s,a.eval x]:=by simp
  rw [this,q1];simp
 unfold Oper.wp;rw [hexec];rw [hov] at hn;exact hn val w' inj' q2 (h2.trans q3) q4
end
end Go.Ab
namespace Go.Ab
variable {D:Prop}
open Go
variable {X:Nat→Prop} {inj:Inj} {σ:Nat→AO} {w:World} {P:Program}
theorem qxx (h:HR X inj σ w) {l g i off e sz b c:Nat} {es:List AV} {x y v:AV} {uv:Value} (ho:σ l=.arr e sz g es) (a4:inj l=some (b,c)) (hx:es[i]?=some x) (hp:ql8 x off v=some y) (hv:AR X inj σ w v uv) :
  ∃w',(storeCells ⟨b,i * sz+off,none⟩ uv.cells.toList).run P w=.ok () w'∧HR X inj (upd σ (some (l,.arr e sz g (es.set i y)))) w'∧Ev D X inj σ w inj (upd σ (some (l,.arr e sz g (es.set i y)))) w':=by
 obtain⟨vs,o1,o2,o3,o4⟩:=(ho ▸ h.obj l _ rfl:OR X inj σ w l (.arr e sz g es));obtain⟨u,hu,hau⟩:=o1.get hx;have hum:u∈vs:=List.mem_of_getElem? hu;have hone:qbi u.cells.toList:=fun c hc=>o3 c (vyn.2 ⟨u,hum,hc⟩)
 obtain⟨s1,s2,s3,u',s4,s5,s6⟩:=qp4 hau hv (o2 u hum) hone hp;rcases o4 with⟨o4,_⟩|⟨b',c',cur,p1,p2,p3,p4,p5,p6,p7⟩
 ·rw [a4] at o4;cases o4
 rw [a4] at p1;cases p1;have hi:i < vs.length:=(vx6.1 hu).1;have hel:es.length=vs.length:=o1.length;have hmul:(i+1) * sz≤vs.length * sz:=vzh _ hi;have hmul2:es.length * sz≤c * sz:=vzh _ p4;rw [hel] at hmul2;rw [Nat.add_mul,Nat.one_mul] at hmul;have hvl:uv.cells.toList.length=v.cells.length:=by rw [vxa,s3]
 have hst:=run_storeCells_at P b (i * sz+off) e uv.cells.toList 0 cur w p3 (by rw [hvl,p6];omega) s2;simp only [vy6] at hst;have hct:cur.toList.length=c * sz:=by rw [vxa,p6]
 have hcurlen:i * sz+off+uv.cells.toList.length≤cur.toList.length:=by rw [hvl,hct];omega
 have hup:=h.update (D:=D) (w':=w.setRow b (splice cur.toList (i * sz+off) uv.cells.toList).toArray) (l:=l) (o:=.arr e sz g es) (o':=.arr e sz g (es.set i y)) (x:=inj l) ho rfl rfl rfl (fun _=>vza _) (by simp)
  (fun a _=>qlq w b _ a) (fun k hk hne=>setRow_other w b k _ (fun e=>hne rfl c (by rw [e];exact a4)))
  (fun b1 c1 h1=>.inr ⟨rfl,c1,h1⟩) ⟨vza _,fun _ _=>⟨rfl,.inl ⟨e,sz,es,_,rfl,rfl,by simp⟩⟩⟩
 rw [qo1] at hup;obtain⟨hev,hhr⟩:=hup;refine⟨_,hst,hhr ?_,hev⟩;refine⟨vs.set i u',(ARs.ev hev h.xlt es vs o1).set (AR.ev hev h.xlt y u' s4),?_,?_,.inr ⟨b,c,_,a4,p2,setRow_heap w b cur _ e _ p3,by simpa using p4,p5,?_,?_⟩⟩
 ·intro q hq;rcases vyr hq with h1 | h1
  ·exact o2 q h1
  ·rw [h1,←vxa,s5,qg5 _ _ _ (by rw [hvl,show u.cells.toList.length=sz by rw [vxa,o2 u hum]];exact s1),vxa,o2 u hum]
 ·intro q hq;obtain⟨z,hz,hq⟩:=vyn.1 hq;rcases vyr hz with h1 | h1
  ·exact o3 q (vyn.2 ⟨z,h1,hq⟩)
  ·rw [h1] at hq;exact s6 q hq
 ·rw [vyx,qg5 _ _ _ hcurlen,hct]
 ·rw [q8g o2 hu s5 (by rw [hvl];exact s1),←p7,List.length_set];apply vxy;intro k;have hA:i * sz+off+uv.cells.toList.length≤(cur.toList.take (es.length * sz)).length:=by
   rw [vyi,hct,hel,hvl];omega
  rw [vya,qkn _ _ _ hcurlen,qkn _ _ _ hA,vya];by_cases hk:k < es.length * sz
  ·simp only [hk,if_true]
  ·simp only [hk,if_false];rw [if_neg (by rw [hel] at hk;omega),if_neg (by rw [hel] at hk;rw [hvl];omega)]
theorem qwq {l:Nat} {o:AO} (h:σ l=o):upd σ (some (l,o))=σ:=by
 funext k;simp only [upd,qiq];by_cases hk:k=l
 ·subst hk;simp [h]
 ·simp [hk]
theorem qvv (at_:Array TypeId) (ty:TypeId) (cs:Array Bool) (args:Array Value):builtin .copy at_ ty cs args=(do pure (Next.value (←Builtin.copy_ at_ ty args))):=rfl
def q5n (a b c:Int):AV:=.p (.agg [.int .i64 a,.int .i64 b,.int .i64 c])
theorem q30 (c0 c1 c2:Int) (L:List Int) (h:L≠[]):ql8 (q5n c0 c1 c2) 0 (.p (.agg ((L.take 3).map (PV.int .i64))))=some (q5n (L.getD 0 c0) (L.getD 1 c1) (L.getD 2 c2)):=by
 cases L with
 | nil=>exact absurd rfl h
 | cons a L =>
  cases L with
  | nil=>rfl
  | cons b L =>
   cases L with
   | nil=>rfl
   | cons c L =>
    have e:(a :: b :: c :: L).take 3=[a,b,c]:=rfl;rw [e];rfl
theorem vet (L:List Int) (X:Nat→Prop) (inj:Inj) (σ:Nat→AO) (w:World):AR X inj σ w (.p (.agg (L.map (PV.int .i64)))) (.agg (L.map (Value.int .i64)).toArray):=by
 simp only [AR,PR];refine⟨L.map (Value.int .i64),rfl,?_,?_⟩
 ·induction L with
  | nil=>simp [PRs]
  | cons a L ih=>exact⟨_,_,rfl,rfl,ih⟩
 ·intro u hu;obtain⟨a,_,rfl⟩:=v06.1 hu;rfl
theorem qwr {a:Act} {d:Nat} {v:Value} (h:d < a.tmps.size):(a.put (some d) v).eval (.tmp d)=v:=by
 simp [Act.eval,Act.put,h]
theorem q31 {a:Act} {d t:Nat} {v:Value} (h:t≠d):(a.put (some d) v).eval (.tmp t)=a.eval (.tmp t):=by
 simp [Act.eval,Act.put,vw8 (Ne.symm h)]
variable {C:Cx} {Q:Exit→St→Prop} {st:St}
theorem vt1 {ops:Array Oper} {o1 o2 o3:Oper} {rest:List Oper} {tA te dT sT:TypeId} {x y:Operand} {d1 d2 l g:Nat} {c0 c1 c2:Int} {L:List Int}
  (h1:o1.op=.slice tA x none none none) (hd1:o1.dst=some d1) (h2:o2.op=.move y) (hd2:o2.dst=some d2) (h3:o3.op=.call ⟨.builtin .copy,#[.tmp d1,.tmp d2],#[dT,sT]⟩)
  (g1:o1.guard=none) (g2:o2.guard=none) (g3:o3.guard=none) (n1:qbg C.N o1=true) (n2:qbg C.N o2=true) (n3:qbg C.N o3=true) (hne:d1≠d2)
  (hu:C.P.underlying tA=some (.array 3 te)) (hte:qn7 C.P te=true) (hc:C.P.cellsOf te=1) (hdT:C.P.underlying dT=some (.slice te)) (hy:y≠.tmp d1)
  (hx:ev st.env x=.loc l g 0 0) (ho:qa0 st.heap l=.arr tA 3 g [q5n c0 c1 c2]) (hyv:ev st.env y=.p (.slc (L.map (PV.int .i64))))
  (h:AL C ops rest Q ⟨qdh (qdh (qdh st.env o1.dst .any) o2.dst (.p (.slc (L.map (PV.int .i64))))) o3.dst .any,qod st.heap l (.arr tA 3 g [q5n (L.getD 0 c0) (L.getD 1 c1) (L.getD 2 c2)])⟩):AL C ops (o1 :: o2 :: o3 :: rest) Q st:=by
 intro inj a w hs;have hg:∀(o:Oper) (st':St),o.guard=none→qau ops st'.env o=some true:=fun o st' e=>by unfold qau;rw [e]
 have hloc:=hs.eval x;rw [hx] at hloc;obtain⟨_,a2⟩:=hloc;have hσ:st.sig l=.arr tA 3 g [q5n c0 c1 c2]:=ho;obtain⟨_,a3⟩:=a2 _ hσ;obtain⟨b,c,a4,hptr⟩:=a3 rfl tA 3 _ rfl;simp only [v2f,vzl] at hptr
 -- the slice
 have r1:(Instr.sliceAt tA (a.eval x) none none none).run C.P w=.ok (.slice (some ⟨b,0,none⟩) 3 3) w:=by
  rw [hptr];simp [Instr.sliceAt,run_underlying hu,Instr.sureAddr,Instr.sliceBounds,qen hte w,Addr.add_lit]
 simp only [wpList,qa9 hs (hg o1 st g1),if_true];refine .inl ?_;obtain⟨dst1,op1,ty1,pos1,af1,gd1⟩:=o1;simp only at h1 hd1;subst h1 hd1;refine qoc (s:=Instr.sliceAt tA (a.eval x) none none none) rfl r1 ?_;have hs1:=hs.put (o:=⟨some d1,.slice tA x none none none,ty1,pos1,af1,gd1⟩) (v:=.any) (val:=.slice (some ⟨b,0,none⟩) 3 3) (u:=none) n1 hs.hr (Ev.refl _ _ _ _) trivial;simp only [qp1] at hs1
 -- the source
 have hd1N:d1 < C.N:=by simpa [qbg] using n1
 have e1:∀t,t≠d1→(a.put (some d1) (.slice (some ⟨b,0,none⟩) 3 3)).tmps.getD t undef=a.tmps.getD t undef:=fun t ht=>by
  simp [Act.put,vw8 (Ne.symm ht)]
 have hy1:ev (qdh st.env (some d1) .any) y=.p (.slc (L.map (PV.int .i64))):=by
  cases y with
  | tmp t =>
   have ht:t≠d1:=fun e=>hy (by rw [e])
   simp only [ev,qdh,Env.get];rw [if_neg (Ne.symm ht)];exact hyv
  | const v=>exact hyv
  | global g=>exact hyv
  | func f=>exact hyv
 simp only [wpList,qa9 hs1 (hg o2 _ g2),if_true];refine .inl ?_;obtain⟨dst2,op2,ty2,pos2,af2,gd2⟩:=o2;simp only at h2 hd2;subst h2 hd2;have hsrc:=hs1.eval y;simp only at hsrc;rw [hy1] at hsrc;refine qoc (s:=pure ((a.put (some d1) (.slice (some ⟨b,0,none⟩) 3 3)).eval y)) (by simp [execOp]) (vzx _ _ _) ?_;have hs2:=hs1.put (o:=⟨some d2,.move y,ty2,pos2,af2,gd2⟩) (v:=.p (.slc (L.map (PV.int .i64)))) (u:=none) n2 hs1.hr (Ev.refl _ _ _ _) hsrc;simp only [qp1] at hs2;simp only [AR,PR] at hsrc;obtain⟨sa,cap,vs,hva,hcap,hvs,hsl⟩:=hsrc;have hvs':=q8u hvs;subst hvs';rw [vye] at hva hcap;generalize hV:(a.put (some d1) (.slice (some ⟨b,0,none⟩) 3 3)).eval y=vy at *;subst hva
 -- the copy
 simp only [wpList,qa9 hs2 (hg o3 _ g3),if_true];refine .inl ?_;obtain⟨dst3,op3,ty3,pos3,af3,gd3⟩:=o3;simp only at h3;subst h3;have hd2N:d2 < C.N:=by simpa [qbg] using n2
 have v1:((a.put (some d1) (.slice (some ⟨b,0,none⟩) 3 3)).put (some d2) (.slice sa L.length cap)).eval (.tmp d1)=.slice (some ⟨b,0,none⟩) 3 3:=by
  rw [q31 hne];exact qwr (by rw [hs.size];exact hd1N)
 have v2:((a.put (some d1) (.slice (some ⟨b,0,none⟩) 3 3)).put (some d2) (.slice sa L.length cap)).eval (.tmp d2)=.slice sa L.length cap:=qwr (by rw [hs1.size];exact hd2N);have key:∃(rv:Value) (w':World),(Builtin.copy_ #[dT,sT] ty3 #[.slice (some ⟨b,0,none⟩) 3 3,.slice sa L.length cap]).run C.P w=.ok rv w'∧HR C.X inj (upd st.sig (some (l,.arr tA 3 g [q5n (L.getD 0 c0) (L.getD 1 c1) (L.getD 2 c2)]))) w'∧Ev C.D C.X inj st.sig w inj (upd st.sig (some (l,.arr tA 3 g [q5n (L.getD 0 c0) (L.getD 1 c1) (L.getD 2 c2)]))) w':=by
  obtain⟨inf,hinf⟩:=vzp.1 hte;have hsize:inf.size=1:=by
   unfold Program.cellsOf at hc;rw [hinf] at hc;simpa using hc
  have hinfs:(C.P.info? te).map (·.size)=some 1:=by rw [hinf];simp [hsize]
  by_cases hL:L=[]
  ·subst hL;refine⟨goInt 0,w,?_,?_,?_⟩
   ·exact run_copy_none w dT sT ty3 te _ _ _ _ _ _ hdT hinfs rfl
   ·have:=qwq hσ;simp only [v11] at this ⊢;rw [this];exact hs.hr
   ·have:=qwq hσ;simp only [v11] at this ⊢;rw [this];exact Ev.refl _ _ _ _
  ·obtain⟨w',q1,q2,q3⟩:=qxx (D:=C.D) (P:=C.P) hs.hr hσ a4 (i:=0) (off:=0) (x:=q5n c0 c1 c2) rfl (q30 c0 c1 c2 L hL) (vet (L.take 3) _ _ _ _);simp only [v2f,vzl,v13] at q1 q2 q3;refine⟨goInt (v2b L.length 3),w',?_,q2,q3⟩;rcases hsl with hsl | ⟨sb,so,sz,rfl,hcs,hone,hrow⟩
   ·exact absurd (by simpa using hsl) hL
   ·have hflat:flat (L.map (Value.int .i64))=L.map (Value.int .i64):=by
     unfold flat;rw [v10];have:∀l:List Int,(l.flatMap fun n=>(Value.int .i64 n).cells.toList)=l.map (Value.int .i64):=by
      intro l
      induction l with
      | nil=>rfl
      | cons n l ih=>rw [v0j,ih];rfl
     exact this L
    rw [hflat] at hrow;have hcl:((L.take 3).map (Value.int .i64)).length=v2b L.length 3:=by rw [vye,vyi];exact Nat.min_comm _ _
    have hload:=run_loadCells_list (P:=C.P) w ⟨sb,so,none⟩ ((L.take 3).map (Value.int .i64)) (fun j v hv=>by
     rw [v0z,vya] at hv;split at hv
     ·have:=hrow.2.2 j v hv;simpa [Addr.add_lit] using this
     ·cases hv)
    rw [hcl] at hload;have hq1:(storeCells ⟨b,0,none⟩ (List.take 3 (L.map (Value.int .i64)))).run C.P w=.ok () w':=by
     rw [←v0z];exact q1
    simp [Builtin.copy_,run_underlying hdT,Builtin.lenOf,Builtin.firstCells,sizeOf,typeInfo,hinf,hsize,hload,hq1]
 obtain⟨rv,w',k1,k2,k3⟩:=key;have hexec:(execOp ((a.put (some d1) (.slice (some ⟨b,0,none⟩) 3 3)).put (some d2) (.slice sa L.length cap)).eval ⟨dst3,.call ⟨.builtin .copy,#[.tmp d1,.tmp d2],#[dT,sT]⟩,ty3,pos3,af3,gd3⟩).run C.P w=.ok (Next.value rv) w':=by
  simp only [execOp,resolve,vzw,vzx,vzu,invoke,qvv];have:(#[Operand.tmp d1,Operand.tmp d2]:Array Operand).map ((a.put (some d1) (.slice (some ⟨b,0,none⟩) 3 3)).put (some d2) (.slice sa L.length cap)).eval=#[.slice (some ⟨b,0,none⟩) 3 3,.slice sa L.length cap]:=by
   simp [v1,v2]
  rw [this,k1];simp
 unfold Oper.wp;rw [hexec];simp only [Oper.upon];refine h inj _ _ ?_;have hs3:=hs2.put (o:=⟨dst3,.call ⟨.builtin .copy,#[.tmp d1,.tmp d2],#[dT,sT]⟩,ty3,pos3,af3,gd3⟩) (v:=.any) (val:=rv) (u:=some (l,.arr tA 3 g [q5n (L.getD 0 c0) (L.getD 1 c1) (L.getD 2 c2)])) n3 k2 k3 trivial;exact hs3
theorem vt2 {ops:Array Oper} {o1 o2 o3:Oper} {rest:List Oper} {tA te dT sT:TypeId} {x y:Operand} {d1 d2 g:Nat} (l:Nat) (c0 c1 c2:Int) (L:List Int)
  (hu:C.P.underlying tA=some (.array 3 te)) (hdT:C.P.underlying dT=some (.slice te))
  (h:AL C ops rest Q ⟨qdh (qdh (qdh st.env o1.dst .any) o2.dst (.p (.slc (L.map (PV.int .i64))))) o3.dst .any,qod st.heap l (.arr tA 3 g [.p (.agg [.int .i64 (L.getD 0 c0),.int .i64 (L.getD 1 c1),.int .i64 (L.getD 2 c2)])])⟩)
  (h1:o1.op=.slice tA x none none none:=by rfl) (hd1:o1.dst=some d1:=by rfl) (h2:o2.op=.move y:=by rfl) (hd2:o2.dst=some d2:=by rfl) (h3:o3.op=.call ⟨.builtin .copy,#[.tmp d1,.tmp d2],#[dT,sT]⟩:=by rfl)
  (g1:o1.guard=none:=by rfl) (g2:o2.guard=none:=by rfl) (g3:o3.guard=none:=by rfl) (n1:qbg C.N o1=true:=by rfl) (n2:qbg C.N o2=true:=by rfl) (n3:qbg C.N o3=true:=by rfl) (hne:d1≠d2:=by decide)
  (hte:qn7 C.P te=true:=by kernel_rfl) (hc:C.P.cellsOf te=1:=by kernel_rfl) (hy:y≠.tmp d1:=by simp)
  (hx:ev st.env x=.loc l g 0 0:=by simp only [go_sem,seval, *];all_goals first | exact rfl | exact⟨rfl,rfl⟩)
  (ho:qa0 st.heap l=.arr tA 3 g [.p (.agg [.int .i64 c0,.int .i64 c1,.int .i64 c2])]:=by simp only [go_sem,seval, *];all_goals first | exact rfl | exact⟨rfl,rfl⟩)
  (hyv:ev st.env y=.p (.slc (L.map (PV.int .i64))):=by simp only [go_sem,seval, *];all_goals first | exact rfl | exact⟨rfl,rfl⟩):AL C ops (o1 :: o2 :: o3 :: rest) Q st :=
 vt1 h1 hd1 h2 hd2 h3 g1 g2 g3 n1 n2 n3 hne hu hte hc hdT hy hx ho hyv h
end Go.Ab
namespace Go.Ab
open Go
section
variable {C:Cx} {Q:Exit→St→Prop} {st:St}
theorem q80 {X:Nat→Prop} {inj:Inj} {σ:Nat→AO} {w:World}:∀{L:List Int} {vs:List Value},ARs X inj σ w (L.map fun n=>.p (.int .i64 n)) vs→vs=L.map (Value.int .i64)
 | [],_,h=>h
 | n :: L,_,h=>by
  obtain⟨v,r,rfl,h1,h2⟩:=h;simp only [AR,PR] at h1;rw [h1,q80 h2];rfl
theorem vt3 {ops:Array Oper} {o1 o2 o3:Oper} {rest:List Oper} {tA te dT sT:TypeId} {x y:Operand} {d1 d2 l g:Nat} {c0 c1 c2:Int} {L:List Int}
  (h1:o1.op=.slice tA x none none none) (hd1:o1.dst=some d1) (h2:o2.op=.move y) (hd2:o2.dst=some d2) (h3:o3.op=.call ⟨.builtin .copy,#[.tmp d1,.tmp d2],#[dT,sT]⟩)
  (g1:o1.guard=none) (g2:o2.guard=none) (g3:o3.guard=none) (n1:qbg C.N o1=true) (n2:qbg C.N o2=true) (n3:qbg C.N o3=true) (hne:d1≠d2)
  (hu:C.P.underlying tA=some (.array 3 te)) (hte:qn7 C.P te=true) (hc:C.P.cellsOf te=1) (hdT:C.P.underlying dT=some (.slice te)) (hy:y≠.tmp d1)
  (hx:ev st.env x=.loc l g 0 0) (ho:qa0 st.heap l=.arr tA 3 g [q5n c0 c1 c2]) (hyv:(qlc (ev st.env y)).run st.sig=some (L.map fun n=>.p (.int .i64 n)))
  (h:AL C ops rest Q ⟨qdh (qdh (qdh st.env o1.dst .any) o2.dst (ev st.env y)) o3.dst .any,qod st.heap l (.arr tA 3 g [q5n (L.getD 0 c0) (L.getD 1 c1) (L.getD 2 c2)])⟩):AL C ops (o1 :: o2 :: o3 :: rest) Q st:=by
 intro inj a w hs;have hg:∀(o:Oper) (st':St),o.guard=none→qau ops st'.env o=some true:=fun o st' e=>by unfold qau;rw [e]
 have hloc:=hs.eval x;rw [hx] at hloc;obtain⟨_,a2⟩:=hloc;have hσ:st.sig l=.arr tA 3 g [q5n c0 c1 c2]:=ho;obtain⟨_,a3⟩:=a2 _ hσ;obtain⟨b,c,a4,hptr⟩:=a3 rfl tA 3 _ rfl;simp only [v2f,vzl] at hptr
 -- the slice
 have r1:(Instr.sliceAt tA (a.eval x) none none none).run C.P w=.ok (.slice (some ⟨b,0,none⟩) 3 3) w:=by
  rw [hptr];simp [Instr.sliceAt,run_underlying hu,Instr.sureAddr,Instr.sliceBounds,qen hte w,Addr.add_lit]
 simp only [wpList,qa9 hs (hg o1 st g1),if_true];refine .inl ?_;obtain⟨dst1,op1,ty1,pos1,af1,gd1⟩:=o1;simp only at h1 hd1;subst h1 hd1;refine qoc (s:=Instr.sliceAt tA (a.eval x) none none none) rfl r1 ?_;have hs1:=hs.put (o:=⟨some d1,.slice tA x none none none,ty1,pos1,af1,gd1⟩) (v:=.any) (val:=.slice (some ⟨b,0,none⟩) 3 3) (u:=none) n1 hs.hr (Ev.refl _ _ _ _) trivial;simp only [qp1] at hs1
 -- the source
 have hd1N:d1 < C.N:=by simpa [qbg] using n1
 have e1:∀t,t≠d1→(a.put (some d1) (.slice (some ⟨b,0,none⟩) 3 3)).tmps.getD t undef=a.tmps.getD t undef:=fun t ht=>by
  simp [Act.put,vw8 (Ne.symm ht)]
 have hy1:ev (qdh st.env (some d1) .any) y=ev st.env y:=by
  cases y with
  | tmp t =>
   have ht:t≠d1:=fun e=>hy (by rw [e])
   simp only [ev,qdh,Env.get];rw [if_neg (Ne.symm ht)]
  | const v=>rfl
  | global g=>rfl
  | func f=>rfl
 simp only [wpList,qa9 hs1 (hg o2 _ g2),if_true];refine .inl ?_;obtain⟨dst2,op2,ty2,pos2,af2,gd2⟩:=o2;simp only at h2 hd2;subst h2 hd2;have hsrc:=hs1.eval y;simp only at hsrc;rw [hy1] at hsrc;refine qoc (s:=pure ((a.put (some d1) (.slice (some ⟨b,0,none⟩) 3 3)).eval y)) (by simp [execOp]) (vzx _ _ _) ?_;have hs2:=hs1.put (o:=⟨some d2,.move y,ty2,pos2,af2,gd2⟩) (v:=ev st.env y) (u:=none) n2 hs1.hr (Ev.refl _ _ _ _) hsrc;simp only [qp1] at hs2;obtain⟨sa,cap,vs,hva,hcap,hvs,hsl⟩:=qne hs1.hr hsrc hyv;have hvs':=q80 hvs;subst hvs';rw [vye] at hva hcap;generalize hV:(a.put (some d1) (.slice (some ⟨b,0,none⟩) 3 3)).eval y=vy at *;subst hva
 -- the copy
 simp only [wpList,qa9 hs2 (hg o3 _ g3),if_true];refine .inl ?_;obtain⟨dst3,op3,ty3,pos3,af3,gd3⟩:=o3;simp only at h3;subst h3;have hd2N:d2 < C.N:=by simpa [qbg] using n2
 have v1:((a.put (some d1) (.slice (some ⟨b,0,none⟩) 3 3)).put (some d2) (.slice sa L.length cap)).eval (.tmp d1)=.slice (some ⟨b,0,none⟩) 3 3:=by
  rw [q31 hne];exact qwr (by rw [hs.size];exact hd1N)
 have v2:((a.put (some d1) (.slice (some ⟨b,0,none⟩) 3 3)).put (some d2) (.slice sa L.length cap)).eval (.tmp d2)=.slice sa L.length cap:=qwr (by rw [hs1.size];exact hd2N);have key:∃(rv:Value) (w':World),(Builtin.copy_ #[dT,sT] ty3 #[.slice (some ⟨b,0,none⟩) 3 3,.slice sa L.length cap]).run C.P w=.ok rv w'∧HR C.X inj (upd st.sig (some (l,.arr tA 3 g [q5n (L.getD 0 c0) (L.getD 1 c1) (L.getD 2 c2)]))) w'∧Ev C.D C.X inj st.sig w inj (upd st.sig (some (l,.arr tA 3 g [q5n (L.getD 0 c0) (L.getD 1 c1) (L.getD 2 c2)]))) w':=by
  obtain⟨inf,hinf⟩:=vzp.1 hte;have hsize:inf.size=1:=by
   unfold Program.cellsOf at hc;rw [hinf] at hc;simpa using hc
  have hinfs:(C.P.info? te).map (·.size)=some 1:=by rw [hinf];simp [hsize]
  by_cases hL:L=[]
  ·subst hL;refine⟨goInt 0,w,?_,?_,?_⟩
   ·exact run_copy_none w dT sT ty3 te _ _ _ _ _ _ hdT hinfs rfl
   ·have:=qwq hσ;simp only [v11] at this ⊢;rw [this];exact hs.hr
   ·have:=qwq hσ;simp only [v11] at this ⊢;rw [this];exact Ev.refl _ _ _ _
  ·obtain⟨w',q1,q2,q3⟩:=qxx (D:=C.D) (P:=C.P) hs.hr hσ a4 (i:=0) (off:=0) (x:=q5n c0 c1 c2) rfl (q30 c0 c1 c2 L hL) (vet (L.take 3) _ _ _ _);simp only [v2f,vzl,v13] at q1 q2 q3;refine⟨goInt (v2b L.length 3),w',?_,q2,q3⟩;rcases hsl with hsl | ⟨sb,so,sz,rfl,hcs,hrow⟩
   ·exact absurd (by simpa using hsl) hL
   ·have hflat:flat (L.map (Value.int .i64))=L.map (Value.int .i64):=by
     unfold flat;rw [v10];have:∀l:List Int,(l.flatMap fun n=>(Value.int .i64 n).cells.toList)=l.map (Value.int .i64):=by
      intro l
      induction l with
      | nil=>rfl
      | cons n l ih=>rw [v0j,ih];rfl
     exact this L
    rw [hflat] at hrow;have hcl:((L.take 3).map (Value.int .i64)).length=v2b L.length 3:=by rw [vye,vyi];exact Nat.min_comm _ _
    have hload:=run_loadCells_list (P:=C.P) w ⟨sb,so,none⟩ ((L.take 3).map (Value.int .i64)) (fun j v hv=>by
     rw [v0z,vya] at hv;split at hv
     ·have:=hrow j v hv;simpa [Addr.add_lit] using this
     ·cases hv)
    rw [hcl] at hload;have hq1:(storeCells ⟨b,0,none⟩ (List.take 3 (L.map (Value.int .i64)))).run C.P w=.ok () w':=by
     rw [←v0z];exact q1
    simp [Builtin.copy_,run_underlying hdT,Builtin.lenOf,Builtin.firstCells,sizeOf,typeInfo,hinf,hsize,hload,hq1]
 obtain⟨rv,w',k1,k2,k3⟩:=key;have hexec:(execOp ((a.put (some d1) (.slice (some ⟨b,0,none⟩) 3 3)).put (some d2) (.slice sa L.length cap)).eval ⟨dst3,.call ⟨.builtin .copy,#[.tmp d1,.tmp d2],#[dT,sT]⟩,ty3,pos3,af3,gd3⟩).run C.P w=.ok (Next.value rv) w':=by
  simp only [execOp,resolve,vzw,vzx,vzu,invoke,qvv];have:(#[Operand.tmp d1,Operand.tmp d2]:Array Operand).map ((a.put (some d1) (.slice (some ⟨b,0,none⟩) 3 3)).put (some d2) (.slice sa L.length cap)).eval=#[.slice (some ⟨b,0,none⟩) 3 3,.slice sa L.length cap]:=by
   simp [v1,v2]
  rw [this,k1];simp
 unfold Oper.wp;rw [hexec];simp only [Oper.upon];refine h inj _ _ ?_;have hs3:=hs2.put (o:=⟨dst3,.call ⟨.builtin .copy,#[.tmp d1,.tmp d2],#[dT,sT]⟩,ty3,pos3,af3,gd3⟩) (v:=.any) (val:=rv) (u:=some (l,.arr tA 3 g [q5n (L.getD 0 c0) (L.getD 1 c1) (L.getD 2 c2)])) n3 k2 k3 trivial;exact hs3
end
section
set_option linter.constructorNameAsVariable false
inductive Opd where
 | t (p:Ps)
 | c (v:AV)
def opd:Operand→Opd
 | .tmp t=>.t (pth t)
 | .const v=>.c (ofV v)
 | .func f=>.c (.p (.func (.func f) []))
 | .global _=>.c .any
def vo (e:Ty AV) (x:Opd):AV:=@Opd.rec (fun _=>AV) (fun p=>Ty.get .any e p) (fun v=>v) x
theorem qgk (e:Ty AV) (x:Operand):vo e (opd x)=evf (eo e) x:=by cases x <;> rfl
inductive Ry where
 | no
 | v (x:AV) (rs:List Nat)
 | w (x:AV) (l:Nat) (o:AO) (rs:List Nat)
 | new (x:AV) (o:AO) (rs:List Nat)
abbrev G:=Ty AV→Ty AO→Nat→Ry
def vlw (h:Ty AO) (f:Nat):Prop:=∀l,f≤l→ho h l=.dead 0
def vbr (P:Program) (o:Oper) (e:Ty AV) (h:Ty AO) (f:Nat):Ry→Prop
 | .no=>True
 | .v x rs=>OpM P o (evf (eo e)) (ho h) x [] rs
 | .w x l ob rs=>OpM P o (evf (eo e)) (ho h) x [(l,ob)] rs
 | .new x ob rs=>OpM P o (evf (eo e)) (ho h) x [(f,ob)] rs
def GOk (P:Program) (o:Oper) (g:G):Prop:=∀e h f,vlw h f→o.dst.getD 0≤f→vbr P o e h f (g e h f)
def rdA (P:Program) (o:Oper) (e:Ty AV) (h:Ty AO) (f:Nat):List Nat:=(aop P (v2d f (o.dst.getD 0)) (evf (eo e)) o).reads (ho h)
def ofA (P:Program) (o:Oper) (e:Ty AV) (h:Ty AO) (f:Nat) (r:Option (AV×Upd)):Ry:=match r with
 | some (x,some (l,ob))=>bif v1f l f then .new x ob (rdA P o e h f) else .w x l ob (rdA P o e h f)
 | some (x,none)=>.v x (rdA P o e h f)
 | none=>.no
theorem vlx {P:Program} {o:Oper} {e:Ty AV} {h:Ty AO} {f:Nat} {r:Option (AV×Upd)} (hr:∀y,r=some y→(aop P (v2d f (o.dst.getD 0)) (evf (eo e)) o).run (ho h)=some y):vbr P o e h f (ofA P o e h f r):=by
 unfold ofA;split
 ·rename_i x l ob;have:=qxu (hr _ rfl);rw [qy1];by_cases hl:l=f
  ·subst hl;simp only [decide_true,cond_true];exact this
  ·simp only [hl,decide_false,cond_false];exact this
 ·exact qxu (hr _ rfl)
 ·trivial
theorem vir {P:Program} {o:Oper} {e:Ty AV} {h:Ty AO} {f:Nat} {x:AV} (hr:(aop P (v2d f (o.dst.getD 0)) (evf (eo e)) o).run (ho h)=some (x,none)):vbr P o e h f (.v x (rdA P o e h f)):=qxu hr
theorem wA_ok {P:Program} {o:Oper} {e:Ty AV} {h:Ty AO} {f:Nat} {x:AV} {l:Nat} {ob:AO} (hr:(aop P (v2d f (o.dst.getD 0)) (evf (eo e)) o).run (ho h)=some (x,some (l,ob))):vbr P o e h f (.w x l ob (rdA P o e h f)):=qxu hr
theorem nA_ok {P:Program} {o:Oper} {e:Ty AV} {h:Ty AO} {f:Nat} {x:AV} {ob:AO} (hr:(aop P (v2d f (o.dst.getD 0)) (evf (eo e)) o).run (ho h)=some (x,some (f,ob))):vbr P o e h f (.new x ob (rdA P o e h f)):=qxu hr
theorem vok {o:Oper} {f:Nat} (h:o.dst.getD 0≤f):qjf (v2d f (o.dst.getD 0)) o=f:=by
 unfold qjf;exact Nat.sub_add_cancel h
def gL (P:Program) (o:Oper) (m:Nat→(Operand→AV)→L (AV×Upd)):G:=fun e h f=>ofA P o e h f ((m (v2d f (o.dst.getD 0)) (evf (eo e))).run (ho h))
theorem q62 {P:Program} {o:Oper} {m:Nat→(Operand→AV)→L (AV×Upd)} (hm:∀B ρ,aop P B ρ o=m B ρ):GOk P o (gL P o m):=fun e h f _ _=>vlx fun y hy=>by rw [hm];exact hy
def nth {α:Type}:List α→Nat→Option α
 | [],_=>none
 | x :: r,k=>match k with
  | 0=>some x
  | k+1=>nth r k
theorem qty {α:Type}:∀(l:List α) (k:Nat),nth l k=l[k]?
 | [],k=>by simp [nth]
 | x :: r,0=>by simp [nth]
 | x :: r,k+1=>by simp [nth,qty r k]
section
variable (P:Program) (o:Oper)
def vhe (e:Ty AV) (h:Ty AO) (f:Nat) (r:Option AV):Ry:=match r with
 | some x=>.v x (rdA P o e h f)
 | none=>.no
theorem qqi {P:Program} {o:Oper} {e:Ty AV} {h:Ty AO} {f:Nat} {r:Option AV} (hr:∀x,r=some x→(aop P (v2d f (o.dst.getD 0)) (evf (eo e)) o).run (ho h)=some (x,none)):vbr P o e h f (vhe P o e h f r):=by
 unfold vhe;split
 ·exact vir (hr _ rfl)
 ·trivial
def vbs (x:Opd):G:=fun e h f=>.v (vo e x) (rdA P o e h f)
def vt4 (c a b:Opd):G:=fun e h f=>vhe P o e h f (match vo e c with
 | .p (.bool t)=>some (bif t then vo e a else vo e b)
 | _=>none)
def boxB (t:TypeId) (v:AV) (f:Nat) (rs:List Nat):Ry:=bif v.known then .new (.loc f 1 0 0) (.arr t v.cells.length 1 [v]) rs else .no
def gBox (t:TypeId) (x:Opd):G:=fun e h f=>boxB t (vo e x) f (rdA P o e h f)
def vly (t:TypeId) (z:AV):G:=fun e h f=>boxB t z f (rdA P o e h f)
def vol (n:Nat) (b:Bool) (x:AV) (off:Nat):Option AV :=
 bif b then (bif v1f off 0 && (v1f n x.cells.length && x.isAgg) then some x else bif v16 (v14 off n) x.cells.length then some (qku ((x.cells.drop off).take n)) else none)
 else nth x.cells off
def vt5 (n:Nat) (b:Bool) (g i off:Nat) (ob:AO):Option AV:=match ob with
 | .arr _ _ g' es=>bif v1f g g' then (match nth es i with
  | some x=>bif x.known then vol n b x off else none
  | none=>none) else none
 | _=>none
def vom (n:Nat) (b:Bool) (a:AV) (h:Ty AO):Option AV:=match a with
 | .loc l g i off=>vt5 n b g i off (ho h l)
 | .p (.imm cs)=>bif b then (bif v16 n cs.length then some (qku (((cs.map .p).drop 0).take n)) else none) else nth (cs.map .p) 0
 | _=>none
def vt6 (n:Nat) (b:Bool) (x:Opd):G:=fun e h f=>vhe P o e h f (vom n b (vo e x) h)
def vlz (n:Nat) (l g i off:Nat) (v:AV) (rs:List Nat) (ob:AO):Ry:=match ob with
 | .arr e sz g' es=>bif v1f g g' && v1f v.cells.length n then (match nth es i with
  | some x=>(match ql8 x off v with
   | some y=>.w .any l (.arr e sz g (es.set i y)) rs
   | none=>.no)
  | none=>.no) else .no
 | _=>.no
def vl0 (n:Nat) (a v:AV) (h:Ty AO) (rs:List Nat):Ry:=match a with
 | .loc l g i off=>vlz n l g i off v rs (ho h l)
 | _=>.no
def veu (n:Nat) (x y:Opd):G:=fun e h f=>vl0 n (vo e x) (vo e y) h (rdA P o e h f)
def vt7 (P:Program) (op:BinOp) (t:TypeId):IntKind→Int→IntKind→Int→Option AV:=match op with
 | .add=>fun k a k' b=>bif decide (k=k') then some (.p (.int k (k.wrap (a+b)))) else none
 | .sub=>fun k a k' b=>bif decide (k=k') then some (.p (.int k (k.wrap (a - b)))) else none
 | .eql=>fun k a k' b=>bif decide (k=k') then some (.p (.bool (decide (a=b)))) else none
 | .neq=>fun k a k' b=>bif decide (k=k') then some (.p (.bool (!decide (a=b)))) else none
 | .lss=>fun k a k' b=>bif decide (k=k') then some (.p (.bool (decide (a < b)))) else none
 | .leq=>fun k a k' b=>bif decide (k=k') then some (.p (.bool (decide (a≤b)))) else none
 | .gtr=>fun k a k' b=>bif decide (k=k') then some (.p (.bool (decide (b < a)))) else none
 | .geq=>fun k a k' b=>bif decide (k=k') then some (.p (.bool (decide (b≤a)))) else none
 | op=>fun k a k' b=>vld P op t (.int k a) (.int k' b)
theorem von (P:Program) (op:BinOp) (t:TypeId) (k:IntKind) (a:Int) (k':IntKind) (b:Int):vt7 P op t k a k' b=vld P op t (.int k a) (.int k' b):=by
 by_cases hk:k=k'
 ·subst hk;cases op <;> simp only [vt7,vld,vqx,decide_true,cond_true,if_true] <;> rfl
 ·cases op <;> simp only [vt7,vld,hk,decide_false,cond_false,if_false]
def own2 (op:BinOp) (g l:Nat) (ob:AO):Ry:=match ob with
 | .arr _ _ g' _=>bif v1f g g' then (match vbp op false with
  | some v=>.v v [l]
  | none=>.no) else .no
 | _=>.no
def bin2 (op:BinOp) (t:TypeId) (pt st:Bool) (x y:AV) (e:Ty AV) (h:Ty AO) (f:Nat):Ry:=match vle P op t x y with
 | some v=>.v v (rdA P o e h f)
 | none=>bif pt then (match vep x y with
   | some r=>(match vbp op r with
    | some v=>.v v []
    | none=>.no)
   | none=>.no)
  else bif st then (match x,y with
   | .own l g off (n+1),.nils=>own2 op g l (ho h l)
   | _,_=>.no) else .no
def bin1 (op:BinOp) (t:TypeId) (pt st:Bool) (fi:IntKind→Int→IntKind→Int→Option AV) (x y:AV) (e:Ty AV) (h:Ty AO) (f:Nat):Ry:=match x,y with
 | .p (.int k a),.p (.int k' b)=>vhe P o e h f (fi k a k' b)
 | x,y=>bin2 P o op t pt st x y e h f
def gBin (op:BinOp) (t:TypeId) (pt st:Bool) (fi:IntKind→Int→IntKind→Int→Option AV) (x y:Opd):G:=fun e h f=>bin1 P o op t pt st fi (vo e x) (vo e y) e h f
def vl1 (off:Nat) (x:Opd):G:=fun e h f=>vhe P o e h f (match vo e x with
 | .loc l g i k=>some (.loc l g i (v14 k off))
 | .p (.imm cs)=>some (.p (.imm (cs.drop off)))
 | _=>none)
def idx2 (sz' l g off len:Nat) (i:Int) (ob:AO):Option AV:=match ob,i with
 | .arr _ sz g' es,.ofNat i=>bif v1f g g' && (v1f sz sz' && v17 i len) then some (.loc l g (v14 off i) 0) else none
 | _,_=>none
def idx1 (t:TypeId) (sz':Nat) (ok:Bool) (x i:AV) (h:Ty AO):Option AV:=match x,i with
 | .own l g off len,.p (.int _ i)=>bif ok then idx2 sz' l g off len i (ho h l) else none
 | x,.p (.int _ i)=>(qkl P t x i).run (ho h)
 | _,_=>none
def gIdx (t:TypeId) (sz':Nat) (ok:Bool) (x i:Opd):G:=fun e h f=>vhe P o e h f (idx1 P t sz' ok (vo e x) (vo e i) h)
def gen2 (g len:Nat) (ob:AO):Option AV:=match ob with
 | .arr _ _ g' _=>bif v1f g g' then some (.p (.int .i64 len)) else none
 | _=>none
def len1 (t:TypeId) (b:Bool) (x:AV) (h:Ty AO):Option AV:=match x with
 | .own l g off len=>bif b then gen2 g len (ho h l) else none
 | x=>(aop.lenT P t x).run (ho h)
def gLen (t:TypeId) (b:Bool) (x:Opd):G:=fun e h f=>vhe P o e h f (len1 P t b (vo e x) h)
def gExt (i:Nat) (x:Opd):G:=fun e h f=>vhe P o e h f (match vo e x with
 | .p (.tup vs)=>nth (vs.map .p) i
 | .tup vs=>nth vs i
 | _=>none)
def gNil (x:Opd):G:=fun e h f=>vhe P o e h f (vqy (vo e x))
def gCap (x:Opd):G:=fun e h f=>match vo e x with
 | .nils=>.v (.p (.int .i64 0)) []
 | _=>.no
def gChr (x:Opd):G:=fun e h f=>match vo e x with
 | .p (.int _ (.ofNat n))=>bif v17 n 128 then .v (.p (.str [UInt8.ofNat n])) [] else .no
 | _=>.no
def appH (t:TypeId) (s x:AV) (h:Ty AO) (f:Nat):Ry:=match s with
 | .own l g 0 len=>(match ho h l with
  | .arr e sz g' es=>bif v1f g g' && v16 len es.length then (match (qca P f t (.own l (v2e g) 0 len) x).run (qiq (ho h) l (.arr e sz (v2e g) (es.take len))) with
    | some (r,some (l',ob))=>bif v1f l' l then .w r l ob (l :: (qca P f t (.own l (v2e g) 0 len) x).reads (qiq (ho h) l (.arr e sz (v2e g) (es.take len)))) else .no
    | _=>.no) else .no
  | _=>.no)
 | _=>.no
def gApp (t:TypeId) (s x:Opd):G:=fun e h f=>match (qca P f t (vo e s) (vo e x)).run (ho h) with
 | some y=>ofA P o e h f (some y)
 | none=>appH P t (vo e s) (vo e x) h f
def vev (t e':TypeId) (sz:Nat) (z:AV) (s x:Opd):G:=fun e h f=>match vo e s,vo e x with
 | .nils,.p (.int _ (.ofNat n))=>bif v17 0 n && qld P e' n then .new (.own f 1 0 n) (.arr e' sz 1 (vyw n z)) [f] else .no
 | _,_=>.no
end
end
section
set_option linter.constructorNameAsVariable false
variable {P:Program} {dst:Option Tmp} {ty:TypeId} {pos:String} {af:Array Edge} {gd:Option (Nat×Bool)}
theorem bleT {a b:Nat}:v16 a b=true↔a≤b:=by rw [Nat.ble_eq]
theorem vhf {a b:Nat}:v17 a b=true↔a < b:=by rw [Nat.blt_eq]
theorem vis {x:Operand}:GOk P ⟨dst,.move x,ty,pos,af,gd⟩ (vbs P ⟨dst,.move x,ty,pos,af,gd⟩ (opd x)):=by
 intro e h f hf hd;unfold vbs;rw [qgk];exact vir rfl
theorem vbt {x:Operand}:GOk P ⟨dst,.assign x,ty,pos,af,gd⟩ (vbs P ⟨dst,.assign x,ty,pos,af,gd⟩ (opd x)):=by
 intro e h f hf hd;unfold vbs;rw [qgk];exact vir rfl
theorem vit {c a b:Operand}:GOk P ⟨dst,.pick c a b,ty,pos,af,gd⟩ (vt4 P ⟨dst,.pick c a b,ty,pos,af,gd⟩ (opd c) (opd a) (opd b)):=by
 intro e h f hf hd;refine qqi fun x hx=>?_
 simp only [qgk] at hx;simp only [aop];split at hx
 ·rename_i t ht;cases hx;rw [ht];cases t <;> rfl
 ·cases hx
theorem vew {o:Oper} {t:TypeId} {v:AV} {e:Ty AV} {h:Ty AO} {f:Nat} (hf:vlw h f) (ha:aop P (v2d f (o.dst.getD 0)) (evf (eo e)) o=vhp P f t v):vbr P o e h f (boxB t v f (rdA P o e h f)):=by
 unfold boxB;cases hk:v.known with
 | false=>trivial
 | true =>
  rw [cond_true];refine nA_ok ?_;rw [ha];unfold vhp;rw [hk];simp only [if_true,vcv,L.run,hf f (vza _)]
theorem voo {t:TypeId} {x:Operand}:GOk P ⟨dst,.box t x,ty,pos,af,gd⟩ (gBox P ⟨dst,.box t x,ty,pos,af,gd⟩ t (opd x)):=by
 intro e h f hf hd;unfold gBox;rw [qgk];refine vew hf ?_;simp only [aop];rw [vok hd]
theorem vex {t:TypeId} {z:AV} (hz:qbf P t=some z) (hc:z.cells.length=P.cellsOf t):GOk P ⟨dst,.alloc t,ty,pos,af,gd⟩ (vly P ⟨dst,.alloc t,ty,pos,af,gd⟩ t z):=by
 intro e h f hf hd;refine vew hf ?_;simp only [aop];rw [vok hd,hz];simp only [hc,if_true]
theorem viu {t:TypeId} {b:Bool} {x y:AV} {off:Nat} (hb:qap P t=some b) (hk:x.known=true) (h:vol (P.cellsOf t) b x off=some y):qq8 P t x off=some y:=by
 unfold vol at h;unfold qq8 qy5;simp only [hk,Bool.not_true,vxj,if_false,hb];cases b with
 | true =>
  simp only [cond_true,qy1] at h;by_cases h1:off=0∧P.cellsOf t=x.cells.length∧x.isAgg=true
  ·simp only [h1.1,h1.2.1,h1.2.2,decide_true,Bool.and_true,cond_true,vzs] at h;rw [if_pos ⟨h1.1,rfl,h1.2.1,h1.2.2⟩,h]
  ·have h2:(decide (off=0) && (decide (P.cellsOf t=x.cells.length) && x.isAgg))=false:=by
    rw [vz4];intro hh;simp only [vxh,decide_eq_true_eq] at hh;exact h1 hh
   rw [h2,cond_false] at h;rw [if_neg (fun hh=>h1 ⟨hh.1,hh.2.2⟩)];simp only;by_cases h3:off+P.cellsOf t≤x.cells.length
   ·have:v16 (v14 off (P.cellsOf t)) x.cells.length=true:=bleT.2 h3;rw [this,cond_true] at h;rw [if_pos h3];exact h
   ·have:v16 (v14 off (P.cellsOf t)) x.cells.length=false:=vz4.2 fun hh=>h3 (bleT.1 hh)
    rw [this] at h;cases h
 | false =>
  rw [cond_false,qty] at h;simp only [vzs,vxj,false_and,and_false,if_false];exact h
theorem viv {t:TypeId} {b:Bool} {a y:AV} {h:Ty AO} (hb:qap P t=some b) (hl:vom (P.cellsOf t) b a h=some y):(qu1 P t a).run (ho h)=some y:=by
 unfold vom at hl;split at hl
 ·rename_i l g i off;unfold vt5 at hl;simp only [qu1,L.run];split at hl
  ·rename_i e sz g' es hob;rw [hob];simp only;rw [qy1] at hl;by_cases hg:g=g'
   ·subst hg;simp only [decide_true,cond_true] at hl;rw [if_pos rfl,←qty];split at hl
    ·rename_i x hx;rw [hx];simp only;cases hk:x.known with
     | false=>rw [hk] at hl;cases hl
     | true =>
      rw [hk,cond_true] at hl;rw [viu hb hk hl];rfl
    ·cases hl
   ·simp only [hg,decide_false,cond_false] at hl;cases hl
  ·cases hl
 ·rename_i cs;unfold qu1 qy5;rw [hb];cases b with
  | true =>
   rw [cond_true] at hl;by_cases h3:P.cellsOf t≤cs.length
   ·have:v16 (P.cellsOf t) cs.length=true:=bleT.2 h3;rw [this,cond_true] at hl;simp only [vzl,vye,h3,if_true,L.run];exact hl
   ·have:v16 (P.cellsOf t) cs.length=false:=vz4.2 fun hh=>h3 (bleT.1 hh)
    rw [this] at hl;cases hl
  | false =>
   rw [cond_false,qty] at hl;simp only;rw [hl];rfl
 ·cases hl
theorem viw {t:TypeId} {b:Bool} {x:Operand} (hb:qap P t=some b):GOk P ⟨dst,.load t x,ty,pos,af,gd⟩ (vt6 P ⟨dst,.load t x,ty,pos,af,gd⟩ (P.cellsOf t) b (opd x)):=by
 intro e h f hf hd;refine qqi fun y hy=>?_
 rw [qgk] at hy;have:=viv hb hy;simp only [aop,qbp,L.run_bind',this,vzm,L.run_ret]
theorem vey {t:TypeId} {b:Bool} {x y:Operand} (hb:qap P t=some b):GOk P ⟨dst,.store t x y,ty,pos,af,gd⟩ (veu P ⟨dst,.store t x y,ty,pos,af,gd⟩ (P.cellsOf t) (opd x) (opd y)):=by
 intro e h f hf hd;unfold veu;rw [qgk,qgk];unfold vl0;split
 ·rename_i l g i off hx;unfold vlz;split
  ·rename_i e1 sz g' es hob;cases hc:v1f g g' && v1f (evf (eo e) y).cells.length (P.cellsOf t) with
   | false=>trivial
   | true =>
    rw [cond_true];simp only [vxh,qy1,decide_eq_true_eq] at hc;split
    ·rename_i z hz;split
     ·rename_i q hq;refine wA_ok ?_;rw [qty] at hz;simp only [aop,hx,qw1,L.run,hob];rw [if_pos ⟨hc.1,hc.2,by rw [hb];rfl⟩,hz];simp only [hq,L.run]
     ·trivial
    ·trivial
  ·trivial
 ·trivial
theorem vop {op:BinOp} {t yt:TypeId} {x y:Operand}:GOk P ⟨dst,.binOp op t x y yt,ty,pos,af,gd⟩ (gBin P ⟨dst,.binOp op t x y yt,ty,pos,af,gd⟩ op t (q3z P t) (qoh P t) (vt7 P op t) (opd x) (opd y)):=by
 intro e h f hf hd;have hq:∀v,vle P op t (evf (eo e) x) (evf (eo e) y)=some v→(aop P (v2d f (dst.getD 0)) (evf (eo e)) ⟨dst,.binOp op t x y yt,ty,pos,af,gd⟩).run (ho h)=some (v,none):=fun v hv=>by
  simp only [aop,qbp,L.run_bind',L.run_ofOpt,hv,vzm,L.run_ret]
 unfold gBin;rw [qgk,qgk];unfold bin1;split
 ·rename_i k a k' b h1 h2;refine qqi fun v hv=>hq v ?_
  rw [von] at hv;rw [h1,h2];unfold vle;simp only [PV.isAgg,Bool.and_false,vxj,if_false];exact hv
 ·unfold bin2;split
  ·rename_i v hv;exact vir (hq v hv)
  ·cases hp:q3z P t with
   | true =>
    rw [cond_true];split
    ·rename_i r hr;split
     ·rename_i v hv;exact vog hp hr hv
     ·trivial
    ·trivial
   | false =>
    rw [cond_false];cases hs:qoh P t with
    | false=>trivial
    | true =>
     rw [cond_true];split
     ·rename_i l g off n h1 h2;unfold own2;split
      ·rename_i e1 sz g' es hob;rw [qy1];by_cases hg:g=g'
       ·subst hg;simp only [decide_true,cond_true];split
        ·rename_i v hv;exact voh hs h1 h2 hob hv
        ·trivial
       ·simp only [hg,decide_false,cond_false];trivial
      ·trivial
     ·trivial
theorem vez {s:TypeId} {fd off:Nat} {x:Operand} (ho':qar P s fd=some off):GOk P ⟨dst,.fieldAddr s x fd,ty,pos,af,gd⟩ (vl1 P ⟨dst,.fieldAddr s x fd,ty,pos,af,gd⟩ off (opd x)):=by
 intro e h f hf hd;refine qqi fun v hv=>?_
 rw [qgk] at hv;simp only [aop,qbp,L.run_bind',L.run_ofOpt,ql1,ho'];split at hv
 ·rename_i l g i k hx;cases hv;rw [hx];rfl
 ·rename_i cs hx;cases hv;rw [hx];rfl
 ·cases hv
theorem ve0 {t:TypeId} {sz:Nat} {ok:Bool} {x ix:Operand} (hok:ok=true→∃et,P.underlying t=some (.slice et)∧P.cellsOf et=sz∧qn7 P et=true) :
  GOk P ⟨dst,.indexAddr t x ix,ty,pos,af,gd⟩ (gIdx P ⟨dst,.indexAddr t x ix,ty,pos,af,gd⟩ t sz ok (opd x) (opd ix)):=by
 intro e h f hf hd;refine qqi fun v hv=>?_
 rw [qgk,qgk] at hv;unfold idx1 at hv;split at hv
 ·rename_i l g off len k i hx hi;cases ok with
  | false=>cases hv
  | true =>
   rw [cond_true] at hv;obtain⟨et,h1,h2,h3⟩:=hok rfl;unfold idx2 at hv;split at hv
   ·rename_i e1 sz1 g' es j hob;cases hc:v1f g g' && (v1f sz1 sz && v17 j len) with
    | false=>rw [hc] at hv;cases hv
    | true =>
     rw [hc,cond_true] at hv;simp only [vxh,qy1,decide_eq_true_eq] at hc;obtain⟨c1,c2,c3⟩:=hc;have c3:j < len:=vhf.1 c3;cases hv;simp only [aop,hi,qr6,qbp,L.run_bind',qkl,h1,hx,L.run,hob];rw [if_pos ⟨c1,by rw [h2];exact c2,Int.natCast_nonneg _,Int.ofNat_lt.2 c3,h3⟩];rfl
   ·cases hv
 ·rename_i k i hi hne;simp only [aop,hi,qr6,qbp,L.run_bind',hv,vzm,L.run_ret]
 ·cases hv
theorem voq {t:TypeId} {b:Bool} {x:Operand} (hb:b=true→qoh P t=true) (ht:(P.underlying t).isSome=true):GOk P ⟨dst,.call ⟨.builtin .len,#[x],#[t]⟩,ty,pos,af,gd⟩ (gLen P ⟨dst,.call ⟨.builtin .len,#[x],#[t]⟩,ty,pos,af,gd⟩ t b (opd x)):=by
 intro e h f hf hd;refine qqi fun v hv=>?_
 rw [qgk] at hv;have key:(aop.lenT P t (evf (eo e) x)).run (ho h)=some v:=by
  unfold len1 at hv;split at hv
  ·rename_i l g off len hx;cases b with
   | false=>cases hv
   | true =>
    rw [cond_true] at hv;have hs:=hb rfl;unfold qoh at hs;split at hs
    case h_2=>cases hs
    rename_i et hu;unfold gen2 at hv;rw [hx];unfold aop.lenT;rw [hu];simp only [q5m,L.run];split at hv
    ·rename_i e1 sz g' es hob;rw [hob];rw [qy1] at hv;by_cases hg:g=g'
     ·subst hg;simp only [decide_true,cond_true] at hv;simp only [if_true,L.run];exact hv
     ·simp only [hg,decide_false,cond_false] at hv;cases hv
    ·cases hv
  ·exact hv
 simp only [aop,ht,if_true,qbp,L.run_bind',key,vzm,L.run_ret]
theorem vor {i:Nat} {x:Operand}:GOk P ⟨dst,.extract x i,ty,pos,af,gd⟩ (gExt P ⟨dst,.extract x i,ty,pos,af,gd⟩ i (opd x)):=by
 intro e h f hf hd;refine qqi fun v hv=>?_
 rw [qgk] at hv;simp only [aop];split at hv
 ·rename_i vs hx;rw [hx];rw [qty,vx7] at hv;simp only [qbp,L.run_bind',L.run_ofOpt,hv,vzm,L.run_ret]
 ·rename_i vs hx;rw [hx];rw [qty] at hv;simp only [qbp,L.run_bind',L.run_ofOpt,hv,vzm,L.run_ret]
 ·cases hv
theorem vos {x:Operand}:GOk P ⟨dst,.nilCheck x,ty,pos,af,gd⟩ (gNil P ⟨dst,.nilCheck x,ty,pos,af,gd⟩ (opd x)):=by
 intro e h f hf hd;refine qqi fun v hv=>?_
 rw [qgk] at hv;simp only [aop,qbp,L.run_bind',L.run_ofOpt,hv,vzm,L.run_ret]
theorem vot {t:TypeId} {x:Operand} (ht:qoh P t=true):GOk P ⟨dst,.call ⟨.builtin .cap,#[x],#[t]⟩,ty,pos,af,gd⟩ (gCap (opd x)):=by
 intro e h f hf hd;unfold gCap;rw [qgk];split
 ·rename_i hx;exact voi ht hx
 ·trivial
theorem vou {s d:TypeId} {kk:IntKind} {x:Operand} (hs:P.underlying s=some (.int kk)) (hd':P.underlying d=some .string):GOk P ⟨dst,.convert s d x,ty,pos,af,gd⟩ (gChr (opd x)):=by
 intro e h f hf hd;unfold gChr;rw [qgk];split
 ·rename_i k n hx;cases hn:v17 n 128 with
  | false=>trivial
  | true =>
   rw [cond_true];exact voj hs hd' hx (vhf.1 hn)
 ·trivial
theorem vov {t:TypeId} {s x:Operand}:GOk P ⟨dst,.call ⟨.builtin .append,#[s,x],#[t,t]⟩,ty,pos,af,gd⟩ (gApp P ⟨dst,.call ⟨.builtin .append,#[s,x],#[t,t]⟩,ty,pos,af,gd⟩ t (opd s) (opd x)):=by
 intro e h f hf hd;unfold gApp;rw [qgk,qgk];split
 ·rename_i y hy;refine vlx fun z hz=>?_
  cases hz;simp only [aop,if_true];rw [vok hd];exact hy
 ·unfold appH;split
  ·rename_i l g len hs;split
   ·rename_i e1 sz g' es hob;cases hc:v1f g g' && v16 len es.length with
    | false=>trivial
    | true =>
     rw [cond_true];simp only [vxh,qy1,decide_eq_true_eq] at hc;obtain⟨rfl,c2⟩:=hc;have c2:=v18 c2;split
     ·rename_i r l' ob hr;rw [qy1];by_cases hl:l'=l
      ·subst hl;simp only [decide_true,cond_true];have:=q61 (P:=P) (dst:=dst) (ty:=ty) (pos:=pos) (af:=af) (gd:=gd) (ρ:=evf (eo e)) (x:=x) (t:=t) (B:=f) hs hob c2 hr rfl;have e2:∀σ:Nat→AO,ovr (Upd.list (some (l',ob))++[(l',.arr e1 sz (g+1) (es.take len))]) σ=ovr [(l',ob)] σ:=fun σ=>by
        funext k;simp only [Upd.list,v0h,vyt,ovr];by_cases hk:l'=k <;> simp [hk]
       intro D X ρ' σ' hρ hσ inj w a next Q hr hT ha hn
       refine this D X ρ' σ' hρ hσ hr hT ha ?_;rw [e2];exact hn
      ·simp only [hl,decide_false,cond_false];trivial
     ·trivial
   ·trivial
  ·trivial
theorem ve1 {t tn et:TypeId} {kn:IntKind} {z:AV} {s x:Operand} (ht:P.underlying t=some (.slice et)) (htn:P.underlying tn=some (.int kn)) (hz:qbf P et=some z) (hel:qer (P.cellsOf et) z=true)
  (hc:0 < P.cellsOf et) (hl:qca.zeroLen P et=P.cellsOf et):GOk P ⟨dst,.call ⟨.builtin .append,#[s,x],#[t,tn]⟩,ty,pos,af,gd⟩ (vev P t et (P.cellsOf et) z (opd s) (opd x)):=by
 intro e h f hf hd;unfold vev;rw [qgk,qgk];split
 ·rename_i k n hs hx;cases hb:v17 0 n && qld P et n with
  | false=>trivial
  | true =>
   rw [cond_true];simp only [vxh] at hb;exact ves ht htn hs hx hz hel (vhf.1 hb.1) hc hb.2 hl (hf f (vza _))
 ·trivial
end
section
structure EvM where
 v:AV
 us:List (Nat×AO)
 rs:List Nat
def EvM.ks (e:EvM):List Nat:=e.us.map (·.1)
def q32 (C:Cx) (ops:Array Oper) (o:Oper) (ef:Nat→AV) (σ:Nat→AO) (e:EvM):Prop :=
 qbg C.N o=true∧((qoe ops ef o=some true∧vq3 C.D C.P o (evf ef) σ e.v e.us e.rs)∨(qoe ops ef o=some false∧e=⟨.p (.tup []),[],[]⟩))
theorem vq3.frame {D:Prop} {P:Program} {o:Oper} {ρ ρ':Operand→AV} {σ τ:Nat→AO} {v:AV} {us:List (Nat×AO)} {rs:List Nat} (h:vq3 D P o ρ σ v us rs) (hρ:∀x∈o.op.operands,ρ x=ρ' x) (hσ:∀l∈rs,τ l=σ l):vq3 D P o ρ' τ v us rs :=
 fun X ρ2 σ2 h1 h2=>h X ρ2 σ2 (fun x hx=>(h1 x hx).trans (hρ x hx).symm) fun l hl=>(h2 l hl).trans (hσ l hl)
theorem q32.frame {C:Cx} {ops:Array Oper} {o:Oper} {ef ef':Nat→AV} {σ τ:Nat→AO} {e:EvM} (h:q32 C ops o ef σ e) (hs:∀t∈o.looksAt ops,ef' t=ef t) (hσ:∀l∈e.rs,τ l=σ l) :
  q32 C ops o ef' τ e:=by
 obtain⟨hd,h⟩:=h;have hg:qoe ops ef' o=qoe ops ef o:=by
  unfold qoe;split
  ·rfl
  ·rename_i j want hgd;split
   ·rename_i d hdd;rw [hs d (by unfold Oper.looksAt;refine vym.2 (.inr ?_);rw [hgd];simp [hdd])]
   ·rfl
 refine⟨hd,?_⟩;rw [hg];rcases h with⟨h1,h2⟩ | h
 ·refine .inl ⟨h1,h2.frame (fun x hx=>?_) hσ⟩;cases x with
  | tmp t=>exact (hs t (qog hx)).symm
  | _=>rfl
 ·exact .inr h
def apM (ops:Array Oper):List EvM→Nat→(Nat→Bool)→(Nat→AV)×(Nat→AO)→(Nat→AV)×(Nat→AO)
 | [],_,_,s=>s
 | e :: es,i,D,s=>apM ops es (i+1) D (if D i then (qm1 s.1 ((ops[i]?).bind (·.dst)) e.v,ovr e.us s.2) else s)
theorem q81 (ops:Array Oper) (t:Nat):∀(es:List EvM) (i:Nat) (D D':Nat→Bool) (s s':(Nat→AV)×(Nat→AO)),s.1 t=s'.1 t →
  (∀j,i≤j→j < i+es.length→(ops[j]?).bind (·.dst)=some t→D j=D' j)→(apM ops es i D s).1 t=(apM ops es i D' s').1 t
 | [],_,_,_,_,_,h,_=>h
 | e :: es,i,D,D',s,s',h,hD=>by
  simp only [apM];refine q81 ops t es (i+1) D D' _ _ ?_ fun j h1 h2 h3=>hD j (by omega) (by simp only [v0q];omega) h3
  by_cases hd:(ops[i]?).bind (·.dst)=some t
  ·rw [hD i (vza _) (by simp) hd];split
   ·simp [qm1,hd]
   ·exact h
  ·split <;> split <;> simp [qm1,hd,h]
theorem ve2 (ops:Array Oper) (l:Nat):∀(es:List EvM) (i:Nat) (D D':Nat→Bool) (s s':(Nat→AV)×(Nat→AO)),s.2 l=s'.2 l →
  (∀j e,i≤j→es[j - i]?=some e→l∈e.ks→D j=D' j)→(apM ops es i D s).2 l=(apM ops es i D' s').2 l
 | [],_,_,_,_,_,h,_=>h
 | e :: es,i,D,D',s,s',h,hD=>by
  simp only [apM];refine ve2 ops l es (i+1) D D' _ _ ?_ fun j e' h1 h2 h3=>hD j e' (by omega) (by rw [show j - i=(j - (i+1))+1 by omega];simpa using h2) h3
  by_cases hd:l∈e.ks
  ·rw [hD i e (vza _) (by simp) hd];split
   ·exact ven hd
   ·exact h
  ·have hd':l ∉ e.us.map (·.1):=hd;split <;> split <;> simp only [qtx hd',h]
theorem q82 (ops:Array Oper) (i:Nat) (ei:EvM):∀(es:List EvM) (k:Nat) (D:Nat→Bool) (s:(Nat→AV)×(Nat→AO)),k≤i→es[i - k]?=some ei→D i=false →
  (∀j e,i < j→es[j - k]?=some e→D j=true→((ops[j]?).bind (·.dst)=none∨(ops[j]?).bind (·.dst)≠(ops[i]?).bind (·.dst))∧(∀l∈e.ks,l ∉ ei.ks)) →
  apM ops es k (fun j=>j == i || D j) s=(qm1 (apM ops es k D s).1 ((ops[i]?).bind (·.dst)) ei.v,ovr ei.us (apM ops es k D s).2)
 | [],k,D,s,_,h,_,_=>by simp at h
 | e :: es,k,D,s,hk,h,hi,hj=>by
  by_cases hki:k=i
  ·subst hki;simp only [Nat.sub_self,v0m,vzs] at h;subst h;simp only [apM,beq_self_eq_true,Bool.true_or,if_true,hi,vxj,if_false]
   -- the rest commutes
   have comm:∀(es':List EvM) (m:Nat) (D1 D2:Nat→Bool) (s:(Nat→AV)×(Nat→AO)),(∀j,m≤j→D1 j=D2 j) →
     (∀j e',m≤j→es'[j - m]?=some e'→D2 j=true→((ops[j]?).bind (·.dst)=none∨(ops[j]?).bind (·.dst)≠(ops[k]?).bind (·.dst))∧(∀l∈e'.ks,l ∉ e.ks)) →
     apM ops es' m D1 (qm1 s.1 ((ops[k]?).bind (·.dst)) e.v,ovr e.us s.2)=(qm1 (apM ops es' m D2 s).1 ((ops[k]?).bind (·.dst)) e.v,ovr e.us (apM ops es' m D2 s).2):=by
    intro es'
    induction es' with
    | nil=>intro m D1 D2 s _ _;rfl
    | cons e' es' ih =>
     intro m D1 D2 s hD hw;simp only [apM,hD m (vza _)];cases hm:D2 m with
     | false =>
      simp only [vxj,if_false];exact ih (m+1) D1 D2 s (fun j hj=>hD j (by omega)) fun j e1 h1 h2 h3=>hw j e1 (by omega) (by rw [show j - m=(j - (m+1))+1 by omega];simpa using h2) h3
     | true =>
      simp only [if_true];obtain⟨w1,w2⟩:=hw m e' (vza _) (by simp) hm;have e1:qm1 (qm1 s.1 ((ops[k]?).bind (·.dst)) e.v) ((ops[m]?).bind (·.dst)) e'.v=qm1 (qm1 s.1 ((ops[m]?).bind (·.dst)) e'.v) ((ops[k]?).bind (·.dst)) e.v:=by
       funext t;simp only [qm1];by_cases c1:(ops[m]?).bind (·.dst)=some t
       ·by_cases c2:(ops[k]?).bind (·.dst)=some t
        ·rcases w1 with w1 | w1
         ·rw [c1] at w1;cases w1
         ·rw [c1,c2] at w1;exact (w1 rfl).elim
        ·simp [c1,c2]
       ·simp [c1]
      have e2:ovr e'.us (ovr e.us s.2)=ovr e.us (ovr e'.us s.2):=by
       funext l;by_cases c1:l∈e'.ks
       ·have c2:l ∉ e.us.map (·.1):=w2 l c1;rw [qtx (us:=e.us) c2];exact ven c1
       ·have c1':l ∉ e'.us.map (·.1):=c1;rw [qtx (us:=e'.us) c1'];by_cases c2:l∈e.us.map (·.1)
        ·exact ven c2
        ·rw [qtx c2,qtx c2,qtx c1']
      rw [e1,e2];exact ih (m+1) D1 D2 (qm1 s.1 ((ops[m]?).bind (·.dst)) e'.v,ovr e'.us s.2) (fun j hj=>hD j (by omega)) fun j e1 h1 h2 h3=>hw j e1 (by omega) (by rw [show j - m=(j - (m+1))+1 by omega];simpa using h2) h3
   exact comm es (k+1) _ D s (fun j hj=>by have:(j == k)=false:=(by simp;omega);simp [this]) fun j e' h1 h2 h3=>hj j e' (by omega) (by rw [show j - k=(j - (k+1))+1 by omega];simpa using h2) h3
  ·have hb:(k == i)=false:=by simpa using hki
   simp only [apM,hb,Bool.false_or];exact q82 ops i ei es (k+1) D _ (by omega) (by rw [show i - k=(i - (k+1))+1 by omega] at h;simpa using h) hi fun j e' h1 h2 h3=>hj j e' h1 (by rw [show j - k=(j - (k+1))+1 by omega];simpa using h2) h3
def q0g (C:Cx) (ops:Array Oper):List EvM→Nat→(Nat→AV)×(Nat→AO)→Prop
 | [],_,_=>True
 | e :: es,i,s=>(∃o,ops[i]?=some o∧q32 C ops o s.1 s.2 e)∧q0g C ops es (i+1) (qm1 s.1 ((ops[i]?).bind (·.dst)) e.v,ovr e.us s.2)
theorem q0g.at {C:Cx} {ops:Array Oper}:∀{es:List EvM} {i:Nat} {s:(Nat→AV)×(Nat→AO)},q0g C ops es i s→∀j e,i≤j→es[j - i]?=some e →
  ∃o,ops[j]?=some o∧q32 C ops o (apM ops es i (fun m=>decide (m < j)) s).1 (apM ops es i (fun m=>decide (m < j)) s).2 e
 | [],i,s,h,j,e,hj,he=>by simp at he
 | e0 :: es,i,s,h,j,e,hj,he=>by
  obtain⟨⟨o,ho,hst⟩,hrest⟩:=h;have skip:∀(es':List EvM) (m:Nat) (s':(Nat→AV)×(Nat→AO)),j≤m→apM ops es' m (fun m=>decide (m < j)) s'=s':=by
   intro es'
   induction es' with
   | nil=>intro m s' _;rfl
   | cons x xs ih=>intro m s' hm;simp only [apM];rw [if_neg (by simp;omega)];exact ih (m+1) s' (by omega)
  by_cases hji:j=i
  ·subst hji;simp only [Nat.sub_self,v0m,vzs] at he;subst he;rw [skip _ _ _ (vza _)];exact⟨o,ho,hst⟩
  ·have hlt:i < j:=by omega
   have:=q0g.at hrest j e (by omega) (by rw [show j - i=(j - (i+1))+1 by omega] at he;simpa using he);simp only [apM];rw [if_pos (by simpa using hlt)];exact this
theorem q1o (ops:Array Oper):∀(es:List EvM) (i:Nat) (D D':Nat→Bool) (s:(Nat→AV)×(Nat→AO)),(∀j,i≤j→j < i+es.length→D j=D' j)→apM ops es i D s=apM ops es i D' s
 | [],_,_,_,_,_=>rfl
 | e :: es,i,D,D',s,h=>by
  simp only [apM];rw [h i (vza _) (by simp)];exact q1o ops es (i+1) D D' _ fun j h1 h2=>h j (by omega) (by simp only [v0q];omega)
def vow (x y:EvM):Prop:=(∀l∈x.ks,l ∉ y.rs∧l ∉ y.ks)∧(∀l∈y.ks,l ∉ x.rs)
def EvsM (ops:Array Oper) (es:List EvM):Prop:=∀(i j:Nat) (x y:EvM),i < j→j < ops.size→es[i]?=some x→es[j]?=some y→Reach ops j i∨vow x y
theorem SRf.putM {C:Cx} {ef:Nat→AV} {σ:Nat→AO} {inj:Inj} {a:Act} {w:World} (h:SRf C ef σ inj a w) {o:Oper} (hd:qbg C.N o=true) {v:AV} {val:Value} {us:List (Nat×AO)} {inj':Inj} {w':World}
  (h1:HR C.X inj' (ovr us σ) w') (h2:Ev C.D C.X inj σ w inj' (ovr us σ) w') (h3:AR C.X inj' (ovr us σ) w' v val) :
  SRf C (qm1 ef o.dst v) (ovr us σ) inj' (a.put o.dst val) w':=by
 refine⟨fun t=>?_,?_,?_,h1,h.ev.trans h2⟩
 ·unfold qm1;cases hdst:o.dst with
  | none=>simpa [Act.put] using AR.ev h2 h.hr.xlt _ _ (h.env t)
  | some d =>
   simp only [qbg,hdst,decide_eq_true_eq] at hd;simp only [Act.put,vzs];by_cases ht:d=t
   ·subst ht;rw [if_pos rfl];have:(a.tmps.setIfInBounds d val).getD d undef=val:=by simp [h.size,hd]
    rw [this];exact h3
   ·rw [if_neg ht];have:(a.tmps.setIfInBounds d val).getD t undef=a.tmps.getD t undef:=by simp [vw8 ht]
    rw [this];exact AR.ev h2 h.hr.xlt _ _ (h.env t)
 ·cases hdst:o.dst <;> simp [Act.put,h.size]
 ·cases hdst:o.dst <;> simp [Act.put,h.defers]
theorem q63 {C:Cx} {ops:Array Oper} {es:List EvM} {s0:(Nat→AV)×(Nat→AO)} {Q:Exit→Act→World→Prop} {n:Nat} (hn:n≤ops.size) (hlen:es.length=n) (hch:q0g C ops es 0 s0) (hsl:qh2 ops=true) (hev:EvsM ops es)
  (hlast:∀j,n≤j→j < ops.size→∀i,i < j→Reach ops j i) (hQ:∀a w inj,SRf C (apM ops es 0 (fun _=>true) s0).1 (apM ops es 0 (fun _=>true) s0).2 inj a w→wpOps C.P ops Q (List.range' n (ops.size - n)) a w) :
  ∀(fuel:Nat) (listed:Array Bool) (a:Act) (w:World) (inj:Inj),listed.size=ops.size→qz9 ops (fun j=>listed.getD j false)→(∀j,n≤j→j < ops.size→listed.getD j false=false)→(listed.toList.filter (! ·)).length≤fuel →
   SRf C (apM ops es 0 (fun j=>listed.getD j false) s0).1 (apM ops es 0 (fun j=>listed.getD j false) s0).2 inj a w→wpAny C.P .any ops Q fuel listed a w:=by
 have full_of:∀(listed:Array Bool),listed.size=ops.size→Region.ready .any ops listed=[]→∀j,j < ops.size→listed.getD j false=true:=by
  intro listed hsz hr j
  induction j using v1j with
  | _ j ih =>
   intro hj;by_cases hl:listed.getD j false=true
   ·exact hl
   ·have:j∈Region.ready .any ops listed:=by
     refine mem_ready.2 ⟨getD_in (by omega) (by simpa using hl),ops[j],by simp [hj],fun e he hb=>?_⟩;have hp:e.on∈qdt ops j:=by
      unfold qdt;simp only [hj,getElem?_pos];exact v06.2 ⟨e,v05.2 ⟨by simpa using he,hb⟩,rfl⟩
     have hlt:=qjz hsl hj _ hp;exact ih _ hlt (by omega)
    rw [hr] at this;cases this
 have count:∀(k:Nat) (l:List Bool) (m:Nat),m+k=l.length→(∀j,m≤j→j < l.length→l[j]?=some false)→k≤(l.filter (! ·)).length:=by
  intro k l m hm h;have h1:(l.drop m).length=k:=by rw [vyd];omega
  have h2:((l.drop m).filter (! ·))=l.drop m:=by
   rw [List.filter_eq_self];intro b hb;obtain⟨j,hj,rfl⟩:=List.mem_iff_getElem.1 hb;have:=h (m+j) (by omega) (by rw [vyd] at hj;omega);rw [List.getElem_drop];obtain⟨_,h3⟩:=vx6.1 this;rw [h3];rfl
  have h3:((l.drop m).filter (! ·)).length≤(l.filter (! ·)).length:=by
   conv=>rhs;rw [←List.take_append_drop m l,List.filter_append,vyc]
   omega
  rw [h2,h1] at h3;exact h3
 have done:∀(fuel:Nat) (listed:Array Bool) (a:Act) (w:World) (inj:Inj),listed.size=ops.size→(∀j,n≤j→j < ops.size→listed.getD j false=false)→(listed.toList.filter (! ·)).length≤fuel →
   SRf C (apM ops es 0 (fun j=>listed.getD j false) s0).1 (apM ops es 0 (fun j=>listed.getD j false) s0).2 inj a w→(∀j,j < n→listed.getD j false=true)→wpAny C.P .any ops Q fuel listed a w:=by
  intro fuel listed a w inj hsz hnl hf hs hfull;rw [q1o ops es 0 _ (fun _=>true) s0 fun j _ h2=>hfull j (by omega)] at hs;refine q0f hsl hlast (ops.size - n) n _ listed a w (vza _) (by omega) hsz hfull hnl ?_ (hQ a w inj hs);refine vzc (count _ listed.toList n (by simp;omega) (fun j h1 h2=>?_)) hf;have:=hnl j h1 (by simp at h2;omega);have h3:j < listed.size:=by simpa using h2
  rw [vw9];simpa [h3] using this
 intro fuel
 induction fuel with
 | zero =>
  intro listed a w inj hsz hcl hnl hf hs;refine done 0 listed a w inj hsz hnl hf hs fun j hj=>?_
  apply Classical.byContradiction;intro hl;have hlt:j < listed.size:=by omega
  have hm:listed[j]'hlt∈listed.toList:=by simp
  have h0':listed[j]'hlt=false:=by simpa [hlt] using hl
  have:listed[j]'hlt∈listed.toList.filter (! ·):=v05.2 ⟨hm,by rw [h0'];rfl⟩;have:0 < (listed.toList.filter (! ·)).length:=List.length_pos_of_mem this;omega
 | succ fuel ih =>
  intro listed a w inj hsz hcl hnl hf hs;by_cases hfull:∀j,j < n→listed.getD j false=true
  ·exact done _ listed a w inj hsz hnl hf hs hfull
  refine⟨fun hr=>absurd (fun j hj=>full_of listed hsz hr j (by omega)) hfull,fun i hi=>?_⟩;obtain⟨h0,o,ho,hpre⟩:=mem_ready.1 hi;have hlt:=(vw6.1 ho).1;have hltn:i < n:=by
   by_cases hltn:i < n
   ·exact hltn
   ·exfalso;apply hfull;intro j hj;have hpre':∀m∈qdt ops i,listed.getD m false=true:=by
     intro m hm;unfold qdt at hm;rw [ho] at hm;obtain⟨e,he,rfl⟩:=v06.1 hm;obtain⟨he1,he2⟩:=v05.1 he;exact hpre e (by simpa using he1) he2
    exact (hlast i (by omega) hlt j (by omega)).ready (D:=fun j=>listed.getD j false) hcl hpre'
  have h0f:listed.getD i false=false:=getD_both h0;have hpre':∀m∈qdt ops i,listed.getD m false=true:=by
   intro m hm;unfold qdt at hm;rw [ho] at hm;obtain⟨e,he,rfl⟩:=v06.1 hm;obtain⟨he1,he2⟩:=v05.1 he;exact hpre e (by simpa using he1) he2
  obtain⟨e,he⟩:∃e,es[i]?=some e:=⟨es[i]'(by omega),vx4 (by omega)⟩;obtain⟨o',ho',hst⟩:=hch.at i e (v1m _) (by simpa using he);have:o'=o:=v1p (ho'.symm.trans ho);subst this
  -- which are listed,compared with the text's order
  have cmpSlot:∀t∈o'.looksAt ops,(apM ops es 0 (fun j=>listed.getD j false) s0).1 t=(apM ops es 0 (fun m=>decide (m < i)) s0).1 t:=by
   intro t ht;refine q81 ops t es 0 _ _ s0 s0 rfl fun j _ hj hd=>?_
   obtain⟨oj,hoj⟩:∃oj,ops[j]?=some oj:=⟨ops[j]'(by omega),by simp [show j < ops.size by omega]⟩;rw [hoj] at hd;simp only [vzm] at hd;rcases v1g j i with hji | hji | hji
   ·simp only [hji,decide_true];rcases qfx hsl hji hoj ho with hr | hr
    ·exact hr.ready (D:=fun j=>listed.getD j false) hcl hpre'
    ·exact absurd ht ((Oper.apart_spec hr).1 t hd)
   ·subst hji;simpa using h0f
   ·have:decide (j < i)=false:=by simp;omega
    rw [this];rcases qfx hsl hji ho hoj with hr | hr
    ·by_cases hl:listed.getD j false=true
     ·have:=hr.closed (D:=fun j=>listed.getD j false) hcl hl;simp only [h0f] at this;cases this
     ·simpa using hl
    ·exact absurd ht ((Oper.apart_spec hr).2.2 t hd)
  have cmpLoc:∀l∈e.rs,(apM ops es 0 (fun j=>listed.getD j false) s0).2 l=(apM ops es 0 (fun m=>decide (m < i)) s0).2 l:=by
   intro l hl;refine ve2 ops l es 0 _ _ s0 s0 rfl fun j ej _ hej hw=>?_
   simp only [vzk] at hej;have hjn:j < ops.size:=by have:=(vx6.1 hej).1;omega
   rcases v1g j i with hji | hji | hji
   ·simp only [hji,decide_true];rcases hev _ _ _ _ hji hlt hej he with hr | hr
    ·exact hr.ready (D:=fun j=>listed.getD j false) hcl hpre'
    ·exact absurd hl (hr.1 l hw).1
   ·subst hji;simpa using h0f
   ·have:decide (j < i)=false:=by simp;omega
    rw [this];rcases hev _ _ _ _ hji hjn he hej with hr | hr
    ·by_cases hl':listed.getD j false=true
     ·have:=hr.closed (D:=fun j=>listed.getD j false) hcl hl';simp only [h0f] at this;cases this
     ·simpa using hl'
    ·exact absurd hl (hr.2 l hw)
  have hst':=hst.frame cmpSlot cmpLoc;obtain⟨hdst,hst'⟩:=hst';have hjoin:=q82 ops i e es 0 (fun j=>listed.getD j false) s0 (v1m _) (by simpa using he) h0f (by
   intro j ej hij hej hD;simp only [vzk] at hej;have hjn:j < ops.size:=by have:=(vx6.1 hej).1;omega
   obtain⟨oj,hoj⟩:∃oj,ops[j]?=some oj:=⟨ops[j]'(by omega),by simp [show j < ops.size by omega]⟩;have nr:¬Reach ops j i:=fun hr=>by
    have:=hr.closed (D:=fun j=>listed.getD j false) hcl hD;simp only [h0f] at this;cases this
   constructor
   ·rcases qfx hsl hij ho hoj with hr | hr
    ·exact (nr hr).elim
    ·rw [hoj,ho];simp only [vzm];cases hd:oj.dst with
     | none=>exact .inl rfl
     | some d =>
      refine .inr fun hh=>?_
      exact (Oper.apart_spec hr).2.1 d hh.symm hd
   ·rcases hev _ _ _ _ hij hjn he hej with hr | hr
    ·exact (nr hr).elim
    ·exact fun l hl hl2=>(hr.1 l hl2).2 hl)
  have hD':apM ops es 0 (fun j=>(listed.setIfInBounds i true).getD j false) s0=apM ops es 0 (fun j=>j == i || listed.getD j false) s0:=by
   refine q1o ops es 0 _ _ s0 fun j _ hj=>?_
   by_cases hji:i=j
   ·subst hji;simp [hsz,hlt]
   ·rw [getD_set_ne false hji];have:(j == i)=false:=by simp;omega
    simp [this]
  have next:∀a' w' inj',SRf C (qm1 (apM ops es 0 (fun j=>listed.getD j false) s0).1 o'.dst e.v) (ovr e.us (apM ops es 0 (fun j=>listed.getD j false) s0).2) inj' a' w' →
    wpAny C.P .any ops Q fuel (listed.setIfInBounds i true) a' w':=by
   intro a' w' inj' hs';refine ih (listed.setIfInBounds i true) a' w' inj' (by simp [hsz]) ?_ (fun j hj hjs=>by rw [getD_set_ne false (by omega)];exact hnl j hj hjs) ?_ ?_
   ·intro j hj m hm;by_cases hji:i=j
    ·subst hji;exact getD_set_true (hpre' m hm)
    ·have hj':(listed.setIfInBounds i true).getD j false=true:=hj;rw [getD_set_ne false hji] at hj';exact getD_set_true (hcl j hj' m hm)
   ·have hli:listed[i]?=some false:=by
     have:i < listed.size:=by omega
     simp [this] at h0f ⊢;exact h0f
    have key:∀(l:List Bool) (i:Nat),l[i]?=some false→((l.set i true).filter (! ·)).length+1=(l.filter (! ·)).length:=by
     intro l
     induction l with
     | nil=>intro i h;simp at h
     | cons b l ihl =>
      intro i h;cases i with
      | zero=>simp at h;subst h;simp
      | succ i =>
       simp only [v0l] at h;have:=ihl i h;cases b <;> simp [this] <;> omega
    have:=key listed.toList i (by simpa using hli);rw [Array.toList_setIfInBounds];omega
   ·rw [hD',hjoin,ho];exact hs'
  unfold wpOp;rw [ho];simp only;rcases hst' with⟨hg,hdo⟩|⟨hg,rfl⟩
  ·rw [qjq hs hg];simp only [if_true];refine .inl (hdo C.X _ _ (fun _ _=>rfl) (fun _ _=>rfl) hs.hr (qmb hs.ev) (fun x=>hs.eval x) fun val w' inj' h1 h2 h3=>?_);exact next _ _ _ (hs.putM hdst h1 h2 h3)
  ·rw [qjq hs hg];simp only [vxj,if_false];exact next _ _ inj (hs.putM (us:=[]) hdst hs.hr (Ev.refl _ _ _ _) ⟨[],rfl,rfl⟩)
inductive DChM (C:Cx) (ops:Array Oper):List Oper→St→List EvM→St→Prop
 | nil {st}:DChM C ops [] st [] st
 | cons {o rest st e es st'} (hd:qbg C.N o=true) (h:(qau ops st.env o=some true∧vq3 C.D C.P o (ev st.env) st.sig e.v e.us e.rs)∨(qau ops st.env o=some false∧e=⟨.p (.tup []),[],[]⟩))
   (hr:DChM C ops rest ⟨qdh st.env o.dst e.v,e.us++st.heap⟩ es st'):DChM C ops (o :: rest) st (e :: es) st'
theorem DChM.chain {C:Cx} {ops:Array Oper} {l:List Oper} {st:St} {es:List EvM} {st':St} (h:DChM C ops l st es st'):∀i,(∀j,j < l.length→ops[i+j]?=l[j]?) →
  es.length=l.length∧q0g C ops es i (st.env.get,st.sig)∧apM ops es i (fun _=>true) (st.env.get,st.sig)=(st'.env.get,st'.sig):=by
 induction h with
 | nil=>intro i hi;exact⟨rfl,trivial,rfl⟩
 | @cons o rest st e es st' hd h hr ih =>
  intro i hi;have h0:ops[i]?=some o:=by have:=hi 0 (by simp);simpa using this
  obtain⟨h3,h1,h2⟩:=ih (i+1) (fun j hj=>by have:=hi (j+1) (by simp;omega);rw [show i+1+j=i+(j+1) by omega,this];simp);have e1:((qm1 st.env.get ((ops[i]?).bind (·.dst)) e.v,ovr e.us st.sig):(Nat→AV)×(Nat→AO))=((⟨qdh st.env o.dst e.v,e.us++st.heap⟩:St).env.get,(⟨qdh st.env o.dst e.v,e.us++st.heap⟩:St).sig):=by
   rw [h0];simp only [vzm,qlr,St.sig,qwp]
  refine⟨by simp [h3],⟨⟨o,h0,hd,?_⟩,?_⟩,?_⟩
  ·rw [qu6,qof];exact h
  ·rw [e1];exact h1
  ·simp only [apM,if_true];rw [e1];exact h2
def qxy (ops:Array Oper) (n:Nat):Bool:=(List.range' n (ops.size - n)).all fun j=>(vyu j).all fun i=>qzc (q8p ops ops.size) j i
theorem q64 {ops:Array Oper} {n:Nat} (h:qxy ops n=true):∀j,n≤j→j < ops.size→∀i,i < j→Reach ops j i:=by
 simp only [qxy,List.all_eq_true,v08,List.mem_range'_1] at h;exact fun j h1 h2 i hi=>qmc (h j ⟨h1,by omega⟩ i hi)
variable {C:Cx} {Q:Exit→St→Prop} {st:St}
theorem vbu (n:Nat) {id:Nat} {l:List Oper} {es:List EvM} {st':St} (hm:C.P.follows .mixedOrders=true) (hsl:qh2 l.toArray=true) (hn:n≤l.length) (hls:qxy l.toArray n=true)
  (h1:DChM C l.toArray (l.take n) st es st') (h2:EvsM l.toArray es) (h3:AL C l.toArray (l.drop n) Q st'):AWp C (.region id l.toArray true) Q st:=by
 have hreach:=q64 hls;obtain⟨hel,hcp,hap⟩:=h1.chain 0 (fun j hj=>by
  rw [vyi] at hj;rw [vya,if_pos (by omega)];simp)
 have hel':es.length=n:=by rw [hel,vyi];omega
 intro inj a w hs;refine wp_region_any hm ?_;have hf:Fr C.D w { w with drawn:=w.drawn+1 }:=⟨rfl,rfl,rfl,fun _=>vzb _,vza _,fun _ _=>rfl,fun _ _=>rfl⟩;have hE:Ev C.D C.X inj st.sig w inj st.sig { w with drawn:=w.drawn+1 }:=hf.ev;refine q63 (by simpa using hn) hel' hcp hsl h2 hreach ?_ _ _ _ _ inj (by simp) ?_ ?_ ?_ ?_
 ·intro a' w' inj' hs';rw [hap] at hs';have hal:=h3 inj' a' w' ⟨hs'.env,hs'.size,hs'.defers,hs'.hr,hs'.ev⟩;have heq:=wpOps_eq_wpList (P:=C.P) (ops:=l.toArray) (Q:=vht C Q) (l.drop n) n (fun j=>by rw [vx3];simp);rw [vyd] at heq;rw [vyx,heq];exact hal
 ·intro j hj;simp only [getD_replicate_false] at hj;cases hj
 ·intro j _ _;exact getD_replicate_false _ _
 ·refine vzc (v0s _ _) (by simp)
 ·rw [q1o l.toArray es 0 _ (fun _=>false) _ fun j _ _=>getD_replicate_false _ _];have hnone:∀(es:List EvM) (i:Nat) (s:(Nat→AV)×(Nat→AO)),apM l.toArray es i (fun _=>false) s=s:=by
   intro es
   induction es with
   | nil=>intro i s;rfl
   | cons e es ih=>intro i s;simp only [apM,vxj,if_false];exact ih (i+1) s
  rw [hnone];exact⟨fun t=>AR.ev hE hs.hr.xlt _ _ (hs.env t),hs.size,hs.defers,hs.hr.fr hf,hs.ev.trans hE⟩
section
variable {X X':Nat→Prop} {inj inj':Inj} {σ σ':Nat→AO} {w:World}
theorem vt8 (hp:∀b,b < w.heap.size→(X' b∨F inj' σ' b)→X b∨F inj σ b) {x:PV} {v:Value} (h:PR (fun b=>X b∨F inj σ b) w x v):PR (fun b=>X' b∨F inj' σ' b) w x v :=
 PR.keep ⟨vza _,fun _ _ _=>rfl,fun b hb hx hn=>hx (hp b hb hn)⟩ x v h
mutual
theorem q65 (hp:∀b,b < w.heap.size→(X' b∨F inj' σ' b)→X b∨F inj σ b):∀(x:AV) (v:Value),(∀l∈qpt x,σ' l=σ l∧inj' l=inj l)→AR X inj σ w x v→AR X' inj' σ' w x v
 | .any,_,_,_=>trivial
 | .p x,v,_,h=>vt8 hp h
 | .nils,_,_,h=>h
 | .loc l g i off,v,hl,h=>by
  obtain⟨h1,h2⟩:=hl l (by simp [qpt])
  obtain⟨a1,a2⟩:=h
  refine⟨a1,fun o ho=>?_⟩
  rw [h1] at ho
  rw [h2]
  exact a2 o ho
 | .own l g off len,v,hl,h=>by
  obtain⟨h1,h2⟩:=hl l (by simp [qpt])
  obtain⟨a1,a2⟩:=h
  refine⟨a1,fun o ho=>?_⟩
  rw [h1] at ho
  rw [h2]
  exact a2 o ho
 | .mapo l g,v,hl,h=>by
  obtain⟨h1,h2⟩:=hl l (by simp [qpt])
  obtain⟨a1,a2⟩:=h
  refine⟨a1,fun o ho=>?_⟩
  rw [h1] at ho
  rw [h2]
  exact a2 o ho
 | .func fn cs,v,hl,h=>by
  obtain⟨vs,h1,h2⟩:=h
  exact⟨vs,h1,qlv hp cs vs (by simpa [qpt] using hl) h2⟩
 | .agg cs,v,hl,h=>by
  obtain⟨vs,h1,h2,h3⟩:=h
  exact⟨vs,h1,qlv hp cs vs (by simpa [qpt] using hl) h2,h3⟩
 | .tup cs,v,hl,h=>by
  obtain⟨vs,h1,h2⟩:=h
  exact⟨vs,h1,qlv hp cs vs (by simpa [qpt] using hl) h2⟩
theorem qlv (hp:∀b,b < w.heap.size→(X' b∨F inj' σ' b)→X b∨F inj σ b):∀(xs:List AV) (vs:List Value),(∀l∈qh4 xs,σ' l=σ l∧inj' l=inj l)→ARs X inj σ w xs vs→ARs X' inj' σ' w xs vs
 | [],_,_,h=>h
 | x :: xs,_,hl,h=>by
  obtain⟨v,r,rfl,h1,h2⟩:=h
  exact⟨v,r,rfl,q65 hp x v (fun l hh=>hl l (by simp [qh4,hh])) h1,qlv hp xs r (fun l hh=>hl l (by simp [qh4,hh])) h2⟩
end
theorem q66 {l:Nat} {o:AO} (hp:∀b,b < w.heap.size→(X' b∨F inj' σ' b)→X b∨F inj σ b) (hX:∀b c,inj l=some (b,c)→o.alive=true→¬X b→¬X' b) (hi:inj' l=inj l) (hl:∀k∈qst o,σ' k=σ k∧inj' k=inj k)
  (h:OR X inj σ w l o):OR X' inj' σ' w l o:=by
 cases o with
 | dead g=>trivial
 | arr e sz g es =>
  obtain⟨vs,o1,o2,o3,o4⟩:=h;refine⟨vs,qlv hp es vs (by simpa [qst] using hl) o1,o2,o3,?_⟩;rw [hi];rcases o4 with o4 | ⟨b,c,cur,p1,p2,p3⟩
  ·exact .inl o4
  ·exact .inr ⟨b,c,cur,p1,hX b c p1 rfl p2,p3⟩
 | map g ks vs =>
  obtain⟨b,c,ms,clock,p1,p2,p3,p4,p5⟩:=h;refine⟨b,c,ms,clock,by rw [hi];exact p1,hX b c p1 rfl p2,p3,qlv hp ks _ (fun k hk=>hl k (by simp [qst,hk])) p4,qlv hp vs _ (fun k hk=>hl k (by simp [qst,hk])) p5⟩
end
def qeo (σ:Nat→AO) (S:List Nat) (l:Nat):AO:=if l∈S then σ l else .dead 0
def vhg (σ:Nat→AO) (S:List Nat):Prop:=∀l∈S,∀k∈qst (σ l),k∈S
def XO (X:Nat→Prop) (inj:Inj) (σ:Nat→AO) (S:List Nat) (b:Nat):Prop:=X b∨∃l c,l ∉ S∧(σ l).alive=true∧inj l=some (b,c)
section
variable {X:Nat→Prop} {inj:Inj} {σ:Nat→AO} {w:World} {S:List Nat}
theorem qfm {l:Nat} (h:(qeo σ S l).alive=true):l∈S∧qeo σ S l=σ l:=by
 unfold qeo at h ⊢;by_cases hl:l∈S
 ·simp [hl]
 ·simp [hl,AO.alive] at h
theorem q33 (b:Nat):(XO X inj σ S b∨F inj (qeo σ S) b)↔(X b∨F inj σ b):=by
 constructor
 ·rintro ((h | ⟨l,c,h1,h2,h3⟩) | ⟨l,c,o,h1,h2,_,h3⟩)
  ·exact .inl h
  ·exact .inr ⟨l,c,σ l,rfl,h2,rfl,h3⟩
  ·obtain⟨q1,q2⟩:=qfm (h1 ▸ h2);exact .inr ⟨l,c,o,by rw [←h1,q2],h2,rfl,h3⟩
 ·rintro (h | ⟨l,c,o,h1,h2,_,h3⟩)
  ·exact .inl (.inl h)
  ·by_cases hl:l∈S
   ·exact .inr ⟨l,c,o,by unfold qeo;rw [if_pos hl];exact h1,h2,rfl,h3⟩
   ·exact .inl (.inr ⟨l,c,hl,by rw [h1];exact h2,h3⟩)
theorem HR.part (h:HR X inj σ w) (hs:vhg σ S):HR (XO X inj σ S) inj (qeo σ S) w:=by
 refine⟨fun l o ho=>?_,fun l l' o o' b c c' h1 h2 h3 h4 h5 h6=>?_,fun b hb=>?_⟩
 ·by_cases hl:l∈S
  ·have ho':σ l=o:=by unfold qeo at ho;rw [if_pos hl] at ho;exact ho
   refine q66 (fun b _ hh=>(q33 b).1 hh) (fun b c hi ha hx=>?_) rfl (fun k hk=>?_) (h.obj l o ho')
   ·rintro (hh | ⟨m,c',q1,q2,q3⟩)
    ·exact hx hh
    ·have:=h.inj1 l m o (σ m) b c c' ho' rfl ha q2 hi q3;subst this;exact q1 hl
   ·rw [←ho'] at hk;exact⟨by unfold qeo;rw [if_pos (hs l hl k hk)],rfl⟩
  ·unfold qeo at ho;rw [if_neg hl] at ho;subst ho;trivial
 ·obtain⟨q1,q2⟩:=qfm (l:=l) (by rw [h1];exact h3);obtain⟨q3,q4⟩:=qfm (l:=l') (by rw [h2];exact h4);exact h.inj1 l l' o o' b c c' (by rw [←q2];exact h1) (by rw [←q4];exact h2) h3 h4 h5 h6
 ·rcases hb with hb | ⟨l,c,q1,q2,q3⟩
  ·exact h.xlt b hb
  ·exact (h.flt (D:=fun _=>false) ⟨l,c,σ l,rfl,q2,rfl,q3⟩).1
theorem HR.less (h:HR X inj σ w) (hs:vhg σ S):HR X inj (qeo σ S) w:=by
 have hp:∀b,(X b∨F inj (qeo σ S) b)→X b∨F inj σ b:=by
  rintro b (h | ⟨l,c,o,h1,h2,_,h3⟩)
  ·exact .inl h
  ·obtain⟨q1,q2⟩:=qfm (h1 ▸ h2);exact .inr ⟨l,c,o,by rw [←h1,q2],h2,rfl,h3⟩
 refine⟨fun l o ho=>?_,fun l l' o o' b c c' h1 h2 h3 h4 h5 h6=>?_,h.xlt⟩
 ·by_cases hl:l∈S
  ·have ho':σ l=o:=by unfold qeo at ho;rw [if_pos hl] at ho;exact ho
   refine q66 (fun b _ hh=>hp b hh) (fun b c hi ha hx=>hx) rfl (fun k hk=>?_) (h.obj l o ho');rw [←ho'] at hk;exact⟨by unfold qeo;rw [if_pos (hs l hl k hk)],rfl⟩
  ·unfold qeo at ho;rw [if_neg hl] at ho;subst ho;trivial
 ·obtain⟨q1,q2⟩:=qfm (l:=l) (by rw [h1];exact h3);obtain⟨q3,q4⟩:=qfm (l:=l') (by rw [h2];exact h4);exact h.inj1 l l' o o' b c c' (by rw [←q2];exact h1) (by rw [←q4];exact h2) h3 h4 h5 h6
end
theorem HR.frame {D:Prop} {X:Nat→Prop} {inj inj1:Inj} {σ τ:Nat→AO} {w w':World} {S S':List Nat} (h:HR X inj σ w) (hs:vhg σ S) (hsub:∀l∈S,l∈S') (hnew:∀l∈S',l ∉ S→σ l=.dead 0)
  (h1:HR (XO X inj σ S) inj1 τ w') (hτ:∀l,l ∉ S'→τ l=.dead 0) (hs':vhg τ S') (h2:Ev D (XO X inj σ S) inj (qeo σ S) w inj1 τ w') :
  HR X (fun l=>if l∈S' then inj1 l else inj l) (fun l=>if l∈S' then τ l else σ l) w'∧Ev D X inj σ w (fun l=>if l∈S' then inj1 l else inj l) (fun l=>if l∈S' then τ l else σ l) w' ∧
  ∀x v,(∀l∈qpt x,l∈S')→AR (XO X inj σ S) inj1 τ w' x v→AR X (fun l=>if l∈S' then inj1 l else inj l) (fun l=>if l∈S' then τ l else σ l) w' x v:=by
 -- what is protected
 have hF:∀b,b < w'.heap.size→(X b∨F (fun l=>if l∈S' then inj1 l else inj l) (fun l=>if l∈S' then τ l else σ l) b)→XO X inj σ S b∨F inj1 τ b:=by
  rintro b _ (hb | ⟨l,c,o,q1,q2,_,q3⟩)
  ·exact .inl (.inl hb)
  ·by_cases hl:l∈S'
   ·simp only [hl,if_true] at q1 q3;exact .inr ⟨l,c,o,q1,q2,rfl,q3⟩
   ·simp only [hl,if_false] at q1 q3;exact .inl (.inr ⟨l,c,fun hh=>hl (hsub l hh),by rw [q1];exact q2,q3⟩)
 have hev:Ev D X inj σ w (fun l=>if l∈S' then inj1 l else inj l) (fun l=>if l∈S' then τ l else σ l) w':=by
  refine⟨h2.os,h2.tape,h2.output,h2.dr,h2.size,h2.fz,fun b hb hf=>?_,fun b hb=>?_,fun l=>?_⟩
  ·refine h2.blk b hb fun hf'=>hf ?_
   obtain⟨l,c,o,q1,q2,_,q3⟩:=hf';obtain⟨r1,r2⟩:=qfm (q1 ▸ q2);exact⟨l,c,o,by rw [←q1,r2],q2,rfl,q3⟩
  ·obtain⟨l,c,o,q1,q2,_,q3⟩:=hb;by_cases hl:l∈S'
   ·simp only [hl,if_true] at q1 q3;rcases h2.fp b ⟨l,c,o,q1,q2,rfl,q3⟩ with⟨k,c',o',r1,r2,_,r3⟩ | r
    ·obtain⟨t1,t2⟩:=qfm (r1 ▸ r2);exact .inl ⟨k,c',o',by rw [←r1,t2],r2,rfl,r3⟩
    ·exact .inr r
   ·simp only [hl,if_false] at q1 q3;exact .inl ⟨l,c,o,q1,q2,rfl,q3⟩
  ·by_cases hl:l∈S'
   ·simp only [hl,if_true];have:=h2.objs l;by_cases hlS:l∈S
    ·unfold qeo at this;rw [if_pos hlS] at this;exact this
    ·unfold qeo at this;rw [if_neg hlS] at this;rw [hnew l hl hlS];exact this
   ·simp only [hl,if_false];exact (OEv.refl _).of fun _=>trivial
 have hval:∀x v,(∀l∈qpt x,l∈S')→AR (XO X inj σ S) inj1 τ w' x v→AR X (fun l=>if l∈S' then inj1 l else inj l) (fun l=>if l∈S' then τ l else σ l) w' x v:=fun x v hx hv =>
  q65 hF x v (fun l hl=>by simp [hx l hl]) hv
 refine⟨⟨fun l o ho=>?_,fun l l' o o' b c c' q1 q2 q3 q4 q5 q6=>?_,fun b hb=>vzd (h.xlt b hb) h2.size⟩,hev,hval⟩
 ·by_cases hl:l∈S'
  ·simp only [hl,if_true] at ho;refine q66 hF (fun b c hi ha hx hX=>hx (.inl hX)) (by simp [hl]) (fun k hk=>?_) (h1.obj l o ho);rw [←ho] at hk;have:=hs' l hl k hk;simp [this]
  ·simp only [hl,if_false] at ho;have h0:=h.obj l o ho;have hlS:l ∉ S:=fun hh=>hl (hsub l hh)
   have blk:∀b c,inj l=some (b,c)→o.alive=true→b < w.heap.size→w'.heap[b]?=w.heap[b]?:=fun b c hi ha hb=>h2.blk b hb fun hf=>by
    obtain⟨k,c',ok,r1,r2,_,r3⟩:=hf;obtain⟨t1,t2⟩:=qfm (r1 ▸ r2);have:=h.inj1 l k o ok b c c' ho (by rw [←t2];exact r1) ha r2 hi r3;subst this;exact hlS t1
   cases o with
   | dead g=>trivial
   | arr e sz g es =>
    obtain⟨vs,o1,o2,o3,o4⟩:=h0;refine⟨vs,ARs.ev hev h.xlt es vs o1,o2,o3,?_⟩;simp only [hl,if_false];rcases o4 with o4 | ⟨b,c,cur,p1,p2,p3,p4⟩
    ·exact .inl o4
    ·exact .inr ⟨b,c,cur,p1,p2,by rw [blk b c p1 rfl (vw6.1 p3).1];exact p3,p4⟩
   | map g ks vs =>
    obtain⟨b,c,ms,clock,p1,p2,p3,p4,p5⟩:=h0;refine⟨b,c,ms,clock,by simp only [hl,if_false];exact p1,p2,by rw [blk b c p1 rfl (vw6.1 p3).1];exact p3,ARs.ev hev h.xlt ks _ p4,ARs.ev hev h.xlt vs _ p5⟩
 · -- different blocks
  have key:∀(l l':Nat) (o o':AO) (b c c':Nat),l∈S'→l' ∉ S'→τ l=o→σ l'=o'→o.alive=true→o'.alive=true→inj1 l=some (b,c)→inj l'=some (b,c')→False:=by
   intro l l' o o' b c c' hl hl' q1 q2 q3 q4 q5 q6;have hb:=(h.flt (D:=fun _=>false) ⟨l',c',o',q2,q4,rfl,q6⟩).1;rcases h2.fp b ⟨l,c,o,q1,q3,rfl,q5⟩ with⟨k,ck,ok,r1,r2,_,r3⟩ | r
   ·obtain⟨t1,t2⟩:=qfm (r1 ▸ r2);have:=h.inj1 k l' ok o' b ck c' (by rw [←t2];exact r1) q2 r2 q4 r3 q6;subst this;exact hl' (hsub _ t1)
   ·omega
  by_cases hl:l∈S' <;> by_cases hl':l'∈S'
  ·simp only [hl,hl',if_true] at q1 q2 q5 q6;exact h1.inj1 l l' o o' b c c' q1 q2 q3 q4 q5 q6
  ·simp only [hl,hl',if_true,if_false] at q1 q2 q5 q6;exact (key l l' o o' b c c' hl hl' q1 q2 q3 q4 q5 q6).elim
  ·simp only [hl,hl',if_true,if_false] at q1 q2 q5 q6;exact (key l' l o' o b c' c hl' hl q2 q1 q4 q3 q6 q5).elim
  ·simp only [hl,hl',if_false] at q1 q2 q5 q6;exact h.inj1 l l' o o' b c c' q1 q2 q3 q4 q5 q6
end
section
variable {D:Prop}
mutual
def shA (δ:Nat→Nat):AV→AV
 | .any=>.any
 | .p x=>.p x
 | .nils=>.nils
 | .loc l g i off=>.loc l (g+δ l) i off
 | .own l g off len=>.own l (g+δ l) off len
 | .mapo l g=>.mapo l (g+δ l)
 | .func fn cs=>.func fn (qsa δ cs)
 | .agg cs=>.agg (qsa δ cs)
 | .tup cs=>.tup (qsa δ cs)
def qsa (δ:Nat→Nat):List AV→List AV
 | []=>[]
 | v :: r=>shA δ v :: qsa δ r
end
def shO (δ:Nat→Nat) (d:Nat):AO→AO
 | .dead g=>.dead (g+d)
 | .arr e sz g es=>.arr e sz (g+d) (qsa δ es)
 | .map g ks vs=>.map (g+d) (qsa δ ks) (qsa δ vs)
def shS (δ:Nat→Nat) (σ:Nat→AO):Nat→AO:=fun l=>shO δ (δ l) (σ l)
def shH (δ:Nat→Nat):List (Nat×AO)→List (Nat×AO)
 | []=>[]
 | (l,o) :: r=>(l,shO δ (δ l) o) :: shH δ r
theorem qjg (δ:Nat→Nat):∀(l:List AV),(qsa δ l).length=l.length
 | []=>rfl
 | _ :: r=>by simp only [qsa,v0q,qjg δ r]
theorem q83 (δ:Nat→Nat):∀(l:List PV),qsa δ (l.map AV.p)=l.map AV.p
 | []=>rfl
 | x :: r=>by simp only [vyk,qsa,shA,q83 δ r]
theorem qj1 (δ:Nat→Nat) (d:Nat) (o:AO):(shO δ d o).gen=o.gen+d:=by cases o <;> rfl
theorem qoi (δ:Nat→Nat) (d:Nat) (o:AO):(shO δ d o).alive=o.alive:=by cases o <;> rfl
theorem ve3 {δ:Nat→Nat} {d:Nat} {o:AO} {e sz g:Nat} {es:List AV} (h:shO δ d o=.arr e sz (g+d) es):∃es0,o=.arr e sz g es0∧es=qsa δ es0:=by
 cases o with
 | arr e' sz' g' es' =>
  simp only [shO,AO.arr.injEq] at h;obtain⟨rfl,rfl,hg,rfl⟩:=h;exact⟨es',by rw [v15 hg],rfl⟩
 | dead g'=>simp [shO] at h
 | map g' ks vs=>simp [shO] at h
theorem vox {δ:Nat→Nat} {d:Nat} {o:AO} {g:Nat} {ks vs:List AV} (h:shO δ d o=.map (g+d) ks vs):∃k0 v0,o=.map g k0 v0∧ks=qsa δ k0∧vs=qsa δ v0:=by
 cases o with
 | map g' k' v' =>
  simp only [shO,AO.map.injEq] at h;obtain⟨hg,rfl,rfl⟩:=h;exact⟨k',v',by rw [v15 hg],rfl,rfl⟩
 | dead g'=>simp [shO] at h
 | arr e sz g' es=>simp [shO] at h
section
variable {X:Nat→Prop} {inj inj':Inj} {σ σ':Nat→AO} {w w':World} {δ:Nat→Nat}
theorem shF (E:Nat→Bool) (b:Nat):qy4 E inj (shS δ σ) b↔qy4 E inj σ b:=by
 constructor
 ·rintro⟨l,c,o,h1,h2,h3,h4⟩;exact⟨l,c,σ l,rfl,by rw [←h1] at h2;simpa [shS,qoi] using h2,h3,h4⟩
 ·rintro⟨l,c,o,h1,h2,h3,h4⟩;exact⟨l,c,shS δ σ l,rfl,by rw [←h1] at h2;simpa [shS,qoi] using h2,h3,h4⟩
theorem shFe (inj:Inj) (σ:Nat→AO) (δ:Nat→Nat):F inj (shS δ σ)=F inj σ:=funext fun b=>propext (shF _ b)
theorem voy {l g i off:Nat} {v:Value}:vla inj (shS δ σ) l (g+δ l) i off v↔vla inj σ l g i off v:=by
 constructor
 ·rintro⟨h1,h2⟩;refine⟨h1,fun o ho=>?_⟩;obtain⟨a1,a2⟩:=h2 _ rfl;simp only [shS,ho,qj1] at a1 a2;refine⟨by omega,fun hg e sz es he=>a2 (by omega) e sz (qsa δ es) ?_⟩;rw [he];rfl
 ·rintro⟨h1,h2⟩;refine⟨h1,fun o ho=>?_⟩;obtain⟨a1,a2⟩:=h2 _ rfl;subst ho;simp only [shS,qj1];refine⟨by omega,fun hg e sz es he=>?_⟩;obtain⟨es0,q1,q2⟩:=ve3 he;exact a2 (by omega) e sz es0 q1
theorem voz {l g off len:Nat} {v:Value}:vaf inj (shS δ σ) l (g+δ l) off len v↔vaf inj σ l g off len v:=by
 constructor
 ·rintro⟨h1,h2⟩;refine⟨h1,fun o ho=>?_⟩;obtain⟨a1,a2⟩:=h2 _ rfl;simp only [shS,ho,qj1] at a1 a2;refine⟨by omega,fun hg e sz es he=>?_⟩;have:=a2 (by omega) e sz (qsa δ es) (by rw [he];rfl);rw [qjg] at this;exact this
 ·rintro⟨h1,h2⟩;refine⟨h1,fun o ho=>?_⟩;obtain⟨a1,a2⟩:=h2 _ rfl;subst ho;simp only [shS,qj1];refine⟨by omega,fun hg e sz es he=>?_⟩;obtain⟨es0,q1,q2⟩:=ve3 he;rw [q2,qjg];exact a2 (by omega) e sz es0 q1
theorem vo0 {l g:Nat} {v:Value}:vmt inj (shS δ σ) l (g+δ l) v↔vmt inj σ l g v:=by
 constructor
 ·rintro⟨h1,h2⟩;refine⟨h1,fun o ho=>?_⟩;obtain⟨a1,a2⟩:=h2 _ rfl;simp only [shS,ho,qj1] at a1 a2;exact⟨by omega,fun hg ks vs he=>a2 (by omega) (qsa δ ks) (qsa δ vs) (by rw [he];rfl)⟩
 ·rintro⟨h1,h2⟩;refine⟨h1,fun o ho=>?_⟩;obtain⟨a1,a2⟩:=h2 _ rfl;subst ho;simp only [shS,qj1];refine⟨by omega,fun hg ks vs he=>?_⟩;obtain⟨k0,v0,q1,_,_⟩:=vox he;exact a2 (by omega) k0 v0 q1
mutual
theorem vt9:∀(x:AV) (v:Value),AR X inj (shS δ σ) w (shA δ x) v↔AR X inj σ w x v
 | .any,_=>v1u
 | .p x,v=>by
  simp only [shA,AR]
  rw [show (fun b=>X b∨F inj (shS δ σ) b)=(fun b=>X b∨F inj σ b) from by rw [shFe]]
 | .nils,_=>v1u
 | .loc l g i off,v=>voy
 | .own l g off len,v=>voz
 | .mapo l g,v=>vo0
 | .func fn cs,v=>by
  simp only [shA,AR]
  exact exists_congr fun vs=>and_congr_right fun _=>qvw cs vs
 | .agg cs,v=>by
  simp only [shA,AR]
  exact exists_congr fun vs=>and_congr_right fun _=>and_congr_left fun _=>qvw cs vs
 | .tup cs,v=>by
  simp only [shA,AR]
  exact exists_congr fun vs=>and_congr_right fun _=>qvw cs vs
theorem qvw:∀(xs:List AV) (vs:List Value),ARs X inj (shS δ σ) w (qsa δ xs) vs↔ARs X inj σ w xs vs
 | [],_=>v1u
 | x :: xs,vs=>by
  simp only [qsa,ARs]
  exact exists_congr fun v=>exists_congr fun r=>and_congr_right fun _=>and_congr (vt9 x v) (qvw xs r)
end
theorem vua {l:Nat} (o:AO):OR X inj (shS δ σ) w l (shO δ (δ l) o)↔OR X inj σ w l o:=by
 cases o with
 | dead g=>exact v1u
 | arr e sz g es =>
  simp only [shO,OR,qjg];refine exists_congr fun vs=>and_congr (qvw es vs) (and_congr_right fun _=>and_congr_right fun _=>?_)
  have:qsa δ es=[]↔es=[]:=by
   constructor
   ·intro h;have:=qjg δ es;rw [h] at this;exact vxx this.symm
   ·rintro rfl;rfl
  rw [this]
 | map g ks vs =>
  simp only [shO,OR];exact exists_congr fun b=>exists_congr fun c=>exists_congr fun ms=>exists_congr fun clock=>and_congr_right fun _=>and_congr_right fun _=>and_congr_right fun _=>and_congr (qvw ks _) (qvw vs _)
theorem vub:HR X inj (shS δ σ) w↔HR X inj σ w:=by
 constructor
 ·intro h;refine⟨fun l o ho=>?_,fun l l' o o' b c c' h1 h2 h3 h4 h5 h6=>?_,h.xlt⟩
  ·exact (vua o).1 (h.obj l _ (by simp only [shS,ho]))
  ·exact h.inj1 l l' _ _ b c c' rfl rfl (by simp only [shS,qoi,h1,h3]) (by simp only [shS,qoi,h2,h4]) h5 h6
 ·intro h;refine⟨fun l o ho=>?_,fun l l' o o' b c c' h1 h2 h3 h4 h5 h6=>?_,h.xlt⟩
  ·subst ho;exact (vua _).2 (h.obj l _ rfl)
  ·subst h1 h2;simp only [shS,qoi] at h3 h4;exact h.inj1 l l' _ _ b c c' rfl rfl h3 h4 h5 h6
theorem vuc {o o':AO} {d:Nat} {p:Prop} (h:OEv o o' p):OEv (shO δ d o) (shO δ d o') p:=by
 obtain⟨h1,h2⟩:=h;refine⟨by rw [qj1,qj1];omega,fun ha hg=>?_⟩;rw [qoi] at ha;rw [qj1,qj1] at hg;obtain⟨q1,q2⟩:=h2 ha (by omega);refine⟨q1,?_⟩;rcases q2 with⟨e,sz,es,es',r1,r2,r3⟩|⟨ks,vs,ks',vs',r1,r2⟩
 ·refine .inl ⟨e,sz,qsa δ es,qsa δ es',?_,?_,?_⟩
  ·rw [qj1];conv=>lhs;rw [r1]
   rfl
  ·rw [qj1,r2];rfl
  ·rw [qjg,qjg,r3]
 ·refine .inr ⟨qsa δ ks,qsa δ vs,qsa δ ks',qsa δ vs',?_,?_⟩
  ·rw [qj1];conv=>lhs;rw [r1]
   rfl
  ·rw [qj1,r2];rfl
theorem Ev_sh (h:Ev D X inj σ w inj' σ' w'):Ev D X inj (shS δ σ) w inj' (shS δ σ') w' :=
 ⟨h.os,h.tape,h.output,h.dr,h.size,h.fz,fun b hb hf=>h.blk b hb fun hh=>hf ((shF _ b).2 hh),fun b hb=>(h.fp b ((shF _ b).1 hb)).imp (fun hh=>(shF _ b).2 hh) id,fun l=>vuc (h.objs l)⟩
end
def Ip (D:Prop) (P:Program) (k:FuncId) (avs:List AV) (H:List (Nat×AO)) (v:AV) (H':List (Nat×AO)):Prop :=
 HasBody P k∧∀(X:Nat→Prop) (inj:Inj) (w:World) (vs:List Value),HR X inj (qa0 H) w→TabOk P (fun b=>X b∨F inj (qa0 H) b) w→ARs X inj (qa0 H) w avs vs →
  Calls P k vs.toArray w fun e w'=>∃val,e=.returned val∧∃inj',HR X inj' (qa0 H') w'∧Ev D X inj (qa0 H) w inj' (qa0 H') w'∧AR X inj' (qa0 H') w' v val
def qkr:List (Nat×AO)→List Nat
 | []=>[]
 | (l,_) :: r=>l :: qkr r
def q5o (p:Nat→Prop):List Nat→Prop
 | []=>True
 | l :: r=>p l∧q5o p r
theorem qnj {p:Nat→Prop}:∀{s:List Nat},q5o p s→∀l∈s,p l
 | _ :: _,h,l,hl=>by
  rcases v02.1 hl with rfl | hl
  ·exact h.1
  ·exact qnj h.2 l hl
theorem qxz:∀{H:List (Nat×AO)} {l:Nat},l ∉ qkr H→qa0 H l=.dead 0
 | [],_,_=>rfl
 | (k,o) :: r,l,h=>by
  simp only [qkr,v02,not_or] at h;simp only [qa0];rw [if_neg (Ne.symm h.1)];exact qxz h.2
theorem q84 (δ:Nat→Nat):∀(H:List (Nat×AO)) (l:Nat),l∈qkr H→qa0 (shH δ H) l=shO δ (δ l) (qa0 H l)
 | (k,o) :: r,l,h=>by
  simp only [shH,qa0];by_cases e:k=l
  ·subst e;simp
  ·rw [if_neg e,if_neg e];simp only [qkr,v02] at h;exact q84 δ r l (h.resolve_left fun h=>e h.symm)
theorem q85 (K:List (Nat×AO)):∀(H:List (Nat×AO)) (l:Nat),(l∈qkr H→qa0 (H++K) l=qa0 H l)∧(l ∉ qkr H→qa0 (H++K) l=qa0 K l)
 | [],l=>⟨(fun h=>by cases h),fun _=>rfl⟩
 | (k,o) :: r,l=>by
  simp only [qkr,v02,v0h,qa0];by_cases e:k=l
  ·subst e;simp
  ·rw [if_neg e,if_neg e];have:=q85 K r l;exact⟨fun h=>this.1 (h.resolve_left fun h=>e h.symm),fun h=>this.2 fun hh=>h (.inr hh)⟩
theorem q86 (δ:Nat→Nat):∀(H:List (Nat×AO)),qkr (shH δ H)=qkr H
 | []=>rfl
 | (k,o) :: r=>by simp only [shH,qkr,q86 δ r]
def qx0 (S:List Nat):List (Nat×AO)→Prop
 | []=>True
 | (_,o) :: r=>q5o (fun k=>qxs k S=true) (qst o)∧qx0 S r
theorem qvc {S:List Nat}:∀{H:List (Nat×AO)},qx0 S H→∀l,∀k∈qst (qa0 H l),k∈S
 | [],_,l,k,hk=>by simp [qa0,qst] at hk
 | (j,o) :: r,h,l,k,hk=>by
  simp only [qa0] at hk;split at hk
  ·have:=qnj h.1 k hk;rw [qmf] at this;exact of_decide_eq_true this
  ·exact qvc h.2 l k hk
theorem q34:∀(l:List PV),qh4 (l.map AV.p)=[]
 | []=>rfl
 | x :: r=>by simp only [vyk,qh4,qpt,q34 r,List.append_nil]
mutual
theorem ve4 (δ:Nat→Nat):∀(x:AV),qpt (shA δ x)=qpt x
 | .any=>rfl
 | .p _=>rfl
 | .nils=>rfl
 | .loc ..=>rfl
 | .own ..=>rfl
 | .mapo ..=>rfl
 | .func _ cs=>by simp only [shA,qpt,qri δ cs]
 | .agg cs=>by simp only [shA,qpt,qri δ cs]
 | .tup cs=>by simp only [shA,qpt,qri δ cs]
theorem qri (δ:Nat→Nat):∀(xs:List AV),qh4 (qsa δ xs)=qh4 xs
 | []=>rfl
 | x :: xs=>by simp only [qsa,qh4,ve4 δ x,qri δ xs]
end
theorem q87 (δ:Nat→Nat) (d:Nat) (o:AO):qst (shO δ d o)=qst o:=by
 cases o <;> simp only [shO,qst,qri]
def dlt:List (Nat×Nat)→Nat→Nat
 | [],_=>0
 | (k,d) :: r,l=>if k=l then d else dlt r l
def dks:List (Nat×Nat)→List Nat
 | []=>[]
 | (k,_) :: r=>k :: dks r
theorem ve5:∀{ds:List (Nat×Nat)} {l:Nat},l ∉ dks ds→dlt ds l=0
 | [],_,_=>rfl
 | (k,d) :: r,l,h=>by
  simp only [dks,v02,not_or] at h;simp only [dlt];rw [if_neg (Ne.symm h.1)];exact ve5 h.2
variable {C:Cx} {Q:Exit→St→Prop} {st:St}
theorem AL_ip {ops:Array Oper} {o:Oper} {rest:List Oper} {f:Operand} {args:Array Operand} {ats:Array TypeId} {k:FuncId} {avs avs0:List AV} {H H':List (Nat×AO)} {v:AV} (ds:List (Nat×Nat))
  (hp:Ip C.D C.P k avs0 H v H') (ho:o.op=.call ⟨.value f,args,ats⟩) (hg:qau ops st.env o=some true) (hd:qbg C.N o=true) (hc:qbq st.env f args.toList=some (k,avs)) (ha:qsa (dlt ds) avs0=avs)
  (hds:q5o (fun l=>qxs l (qkr H)=true) (dks ds))
  (hS:q5o (fun l=>qa0 st.heap l=shO (dlt ds) (dlt ds l) (qa0 H l)) (qkr H)) (hR:qx0 (qkr H) H) (hA:q5o (fun l=>qxs l (qkr H)=true) (qh4 avs0))
  (hsub:q5o (fun l=>qxs l (qkr H')=true) (qkr H)) (hnew:q5o (fun l=>qxs l (qkr H)=true∨qa0 st.heap l=.dead 0) (qkr H')) (hR':qx0 (qkr H') H') (hv:q5o (fun l=>qxs l (qkr H')=true) (qpt v))
  (h:AL C ops rest Q ⟨qdh st.env o.dst (shA (dlt ds) v),shH (dlt ds) H'++st.heap⟩):AL C ops (o :: rest) Q st:=by
 have mem:∀{l:Nat} {S:List Nat},qxs l S=true→l∈S:=fun hm=>by rw [qmf] at hm;exact of_decide_eq_true hm
 obtain⟨hb,hW⟩:=hp;intro inj a w hs;simp only [wpList,qa9 hs hg,if_true];refine .inl ?_;obtain⟨vs,hrun,hars⟩:=qjy hs ho hb hc;unfold Oper.wp;rw [hrun];simp only [Oper.upon];have hSσ:∀l∈qkr H,st.sig l=shO (dlt ds) (dlt ds l) (qa0 H l):=qnj hS;have hd0:∀l,l ∉ qkr H→dlt ds l=0:=fun l hl=>ve5 fun hh=>hl (mem (qnj hds l hh))
 have hkk:∀l∈qkr H,l∈qkr H':=fun l hl=>mem (qnj hsub l hl)
 have hsh:vhg st.sig (qkr H):=fun l hl j hj=>by
  rw [hSσ l hl,q87] at hj;exact qvc hR l j hj
 have hpart:qeo st.sig (qkr H)=shS (dlt ds) (qa0 H):=by
  funext l;unfold qeo;split
  ·rename_i hl;exact hSσ l hl
  ·rename_i hl;simp only [shS,qxz hl,hd0 l hl,shO]
 have hin:∀l∈qh4 avs,qeo st.sig (qkr H) l=st.sig l∧inj l=inj l:=fun l hl=>by
  rw [←ha,qri] at hl;exact⟨by unfold qeo;rw [if_pos (mem (qnj hA l hl))],rfl⟩
 have hars':ARs (XO C.X inj st.sig (qkr H)) inj (qeo st.sig (qkr H)) w avs vs:=qlv (fun b _ hh=>(q33 b).1 hh) _ _ hin hars;have hT':TabOk C.P (fun b=>XO C.X inj st.sig (qkr H) b∨F inj (qeo st.sig (qkr H)) b) w:=(qmb hs.ev).keep ⟨vza _,fun _ _ _=>rfl,fun b _ hx hn=>hx ((q33 b).1 hn)⟩;have hr':=hs.hr.part hsh;rw [hpart] at hars' hT' hr';rw [←ha] at hars';rw [shFe] at hT';refine (hW (XO C.X inj st.sig (qkr H)) inj w vs (vub.1 hr') hT' ((qvw _ _).1 hars')).mono ?_;rintro e' w' ⟨val,rfl,inj1,q1,q2,q3⟩;have t1:HR (XO C.X inj st.sig (qkr H)) inj1 (shS (dlt ds) (qa0 H')) w':=vub.2 q1;have t2:Ev C.D (XO C.X inj st.sig (qkr H)) inj (qeo st.sig (qkr H)) w inj1 (shS (dlt ds) (qa0 H')) w':=by rw [hpart];exact Ev_sh q2
 have t3:AR (XO C.X inj st.sig (qkr H)) inj1 (shS (dlt ds) (qa0 H')) w' (shA (dlt ds) v) val:=(vt9 _ _).2 q3;have hτ:∀l,l ∉ qkr H'→shS (dlt ds) (qa0 H') l=.dead 0:=fun l hl=>by
  simp only [shS,qxz hl,hd0 l (fun hh=>hl (hkk l hh)),shO]
 have hτS:vhg (shS (dlt ds) (qa0 H')) (qkr H'):=fun l hl j hj=>by
  simp only [shS,q87] at hj;exact qvc hR' l j hj
 have hnew':∀l∈qkr H',l ∉ qkr H→st.sig l=.dead 0:=fun l hl hn=>(qnj hnew l hl).resolve_left fun hh=>hn (mem hh)
 obtain⟨z1,z2,z3⟩:=HR.frame hs.hr hsh hkk hnew' t1 hτ hτS t2;have hov:(fun l=>if l∈qkr H' then shS (dlt ds) (qa0 H') l else st.sig l)=qa0 (shH (dlt ds) H'++st.heap):=by
  funext l;have:=q85 st.heap (shH (dlt ds) H') l;rw [q86] at this;split
  ·rename_i hl;rw [this.1 hl,q84 _ _ _ hl];rfl
  ·rename_i hl;rw [this.2 hl]
 have z4:=z3 (shA (dlt ds) v) val (fun l hl=>by rw [ve4] at hl;exact mem (qnj hv l hl)) t3;rw [hov] at z1 z2 z4;refine h (fun l=>if l∈qkr H' then inj1 l else inj l) _ _ ?_;have h3:=hs.put (o:=o) (u:=none) hd hs.hr (Ev.refl _ _ _ _) (v:=.any) (val:=val) trivial;refine⟨fun t=>?_,h3.size,h3.defers,z1,hs.ev.trans z2⟩;cases hdst:o.dst with
 | none =>
  have:=h3.env t;rw [hdst] at this;simpa [qdh,Act.put] using AR.ev z2 hs.hr.xlt _ _ (hs.env t)
 | some d =>
  simp only [qbg,hdst,decide_eq_true_eq] at hd;simp only [qdh,Act.put,Env.get];by_cases ht:d=t
  ·subst ht;rw [if_pos rfl];have:(a.tmps.setIfInBounds d val).getD d undef=val:=by simp [hs.size,hd]
   rw [this];exact z4
  ·rw [if_neg ht];have:(a.tmps.setIfInBounds d val).getD t undef=a.tmps.getD t undef:=by simp [vw8 ht]
   rw [this];exact AR.ev z2 hs.hr.xlt _ _ (hs.env t)
theorem zFo {P:Prop} (h:P:=by (repeat' refine And.intro ?_ ?_) <;> first | rfl | exact .inl rfl | exact .inr rfl | (simp;done)):P:=h
section
variable {σ τ:Type}
def ve6 (B:(σ→Option τ)→σ→Option τ):Nat→σ→Option τ
 | 0,_=>none
 | n+1,s=>B (ve6 B n) s
end
attribute [go_sem] shA qsa shO shH q83 dlt dks qkr q5o qx0 qst qpt qh4 q34
theorem zIp (ds:List (Nat×Nat)) {ops:Array Oper} {o:Oper} {rest:List Oper} {f:Operand} {args:Array Operand} {ats:Array TypeId} {k:FuncId} {avs avs0:List AV} {H H':List (Nat×AO)} {v:AV}
  (hp:Ip C.D C.P k avs0 H v H') (h:AL C ops rest Q ⟨qdh st.env o.dst (shA (dlt ds) v),shH (dlt ds) H'++st.heap⟩)
  (ho:o.op=.call ⟨.value f,args,ats⟩:=by rfl) (hg:qau ops st.env o=some true:=by first | exact qaw rfl | exact qbh rfl rfl (by exact rfl) (by exact rfl)) (hd:qbg C.N o=true:=by rfl)
  (hc:qbq st.env f args.toList=some (k,avs):=by simp only [go_sem,seval, *];exact rfl) (ha:qsa (dlt ds) avs0=avs:=by simp only [go_sem,seval];all_goals exact zF)
  (hds:q5o (fun l=>qxs l (qkr H)=true) (dks ds):=by simp only [go_sem,seval];all_goals exact zF)
  (hS:q5o (fun l=>qa0 st.heap l=shO (dlt ds) (dlt ds l) (qa0 H l)) (qkr H):=by simp only [go_sem,seval];all_goals exact zF)
  (hR:qx0 (qkr H) H:=by simp only [go_sem,seval];all_goals exact zF) (hA:q5o (fun l=>qxs l (qkr H)=true) (qh4 avs0):=by simp only [go_sem,seval];all_goals exact zF)
  (hsub:q5o (fun l=>qxs l (qkr H')=true) (qkr H):=by simp only [go_sem,seval];all_goals exact zF) (hnew:q5o (fun l=>qxs l (qkr H)=true∨qa0 st.heap l=.dead 0) (qkr H'):=by simp only [go_sem,seval];all_goals exact zFo)
  (hR':qx0 (qkr H') H':=by simp only [go_sem,seval];all_goals exact zF) (hv:q5o (fun l=>qxs l (qkr H')=true) (qpt v):=by simp only [go_sem,seval];all_goals exact zF):AL C ops (o :: rest) Q st :=
 AL_ip ds hp ho hg hd hc ha hds hS hR hA hsub hnew hR' hv h
end
section
variable {D:Prop}
theorem qvx (E:Nat→Bool) (n:Nat) (l:List AV):∀xs:List PV,qas (qdn E (n+1)) (xs.map .p++l)=(qas (qdn E (n+1)) l).bind fun ys=>.ret (xs++ys)
 | []=>by
  simp only [List.map_nil,vyt];generalize qas (qdn E (n+1)) l=m
  induction m with
  | ret a=>rfl
  | fail=>rfl
  | look l k ih=>simp only [L.bind];congr 1;funext o;exact ih o
 | x :: xs=>by
  rw [vyk,v0h,qvs,qvx E n l xs];simp only [qdn,L.bind,v0h];generalize qas (qdn E (n+1)) l=m
  induction m with
  | ret a=>rfl
  | fail=>rfl
  | look l k ih=>simp only [L.bind];congr 1;funext o;exact ih o
@[go_sem] theorem vix (E:Nat→Bool) (xs:List PV) (l:List AV):qas (qdn E 9) (xs.map .p++l)=(qas (qdn E 9) l).bind fun ys=>.ret (xs++ys):=qvx E 8 l xs
def tE2 (C:Cx) (S:St):Exit→St→Prop:=fun e s=>(e=.normal∨e=.ret)∧Le C s S
theorem Ip.of_awp2 {P:Program} {k:FuncId} {avs:List AV} {H:List (Nat×AO)} {v:AV} {fn:Func} {c:Code} {N:Nat} (B:Nat) (S:St) (hk:HasBody P k) (hf:P.funcs[k]?=some fn) (hb:fn.body=some c) (hN:fn.ntmps=N) (hn:avs.length≤N)
  (hr:vas P S fn.results.toList=some v)
  (h:∀X inj w hT,AWp ⟨P,N,B,X,H,inj,w,D,hT⟩ c (tE2 ⟨P,N,B,X,H,inj,w,D,hT⟩ S) ⟨qja 0 avs,H⟩):Ip D P k avs H v S.heap:=by
 subst hN;refine⟨hk,fun X inj w vs hR hT hars=>?_⟩;have hl:=hars.length;refine calls_of_wp hf hb (wp_mono (h X inj w hT inj _ w ⟨fun t=>?_,?_,rfl,hR,Ev.refl _ _ _ _⟩) ?_)
 ·have:=qnh avs vs 0 t hars;simp only [v1m,if_true,vzk] at this;have e:(vs.toArray++v1t (fn.ntmps - vs.toArray.size) undef).getD t undef=vs.getD t undef:=by
   by_cases ht:t < vs.length
   ·simp [vw5,ht]
   ·simp only [v1q,vw5,vyx,ht,if_false,v1s];rw [v0k,vx5 (by omega)];split <;> rfl
  rw [e];exact this
 ·simp [←hl];omega
 ·rintro e a' w' ⟨s,inj0,hs0,he,hle⟩;have hs:=hle.sr hs0;obtain⟨val,h1,h2⟩:=qre hs hr;rcases he with rfl | rfl
  ·exact⟨hs.defers,val,h1,val,rfl,_,hs.hr,hs.ev,h2⟩
  ·exact⟨hs.defers,val,h1,val,rfl,_,hs.hr,hs.ev,h2⟩
variable {C:Cx} {Q:Exit→St→Prop} {st:St}
theorem ve7 {ops:Array Oper} {rest:List Oper} (t l g m e sz:Nat) {es es':List AV} {st':St} (hobj:qa0 st.heap l=.arr e sz g es) (ht:st.env.get t=.own l g 0 m) (he:es.take m=es')
  (hs:(⟨qdh st.env (some t) (.own l (g+1) 0 m),qod st.heap l (.arr e sz (g+1) es')⟩:St)=st') (h:AL C ops rest Q st'):AL C ops rest Q st:=by
 subst he;subst hs;exact fun inj a w hs=>h inj a w (hs.shrink hobj ht)
end
section
variable {C:Cx} {Q:Exit→St→Prop} {st:St} {inj:Inj} {a:Act} {w:World}
mutual
def vl2:PV→Bool
 | .int _ _=>true
 | .bool _=>true
 | .str _=>true
 | .nilp=>true
 | .nilf=>true
 | .nili=>true
 | .nilm=>true
 | .agg cs=>ve8 cs
 | _=>false
def ve8:List PV→Bool
 | []=>true
 | p :: ps=>vl2 p && ve8 ps
end
end
section
variable {C:Cx} {Q:Exit→St→Prop} {st:St}
def vq4:AO→Bool
 | .arr _ _ _ [_]=>true
 | _=>false
theorem viy (e sz g:Nat) (x:AV):vq4 (.arr e sz g [x])=true:=rfl
def viz (h:List (Nat×AO)):List Nat→Prop
 | []=>True
 | p :: ps=>vq4 (qa0 h p)=true∧viz h ps
theorem ve9 (h:List (Nat×AO)):viz h []=True:=rfl
theorem vbv (h:List (Nat×AO)) (p:Nat) (ps:List Nat):viz h (p :: ps)=(vq4 (qa0 h p)=true∧viz h ps):=rfl
attribute [go_sem] viy ve9 vbv
def isLoc:AV→Bool
 | .loc _ _ _ _=>true
 | _=>false
theorem vfa (l g i off:Nat):isLoc (.loc l g i off)=true:=rfl
attribute [go_sem] vfa
section
variable {α:Type} {h h' H0 rest:List (Nat×AO)} {f f' k e sz G G' e' sz':Nat} {o:AO} {enc:α→PV} {ll:List (List α)}
end
section
variable {β:Type} {f n e sz G:Nat} {ll ll':List β}
end
attribute [go_sem] true_or
end
section
variable {C:Cx} {Q:Exit→St→Prop} {st:St}
end
section
theorem vfb (D:Nat→Bool) (l g off len:Nat):qdn D 6 (.own l g off len)=qu5 D 5 l g off len:=rfl
theorem vfc (D:Nat→Bool) (cs:List AV):qdn D 6 (.agg cs)=(qas (qdn D 5) cs).bind fun xs=>.ret (.agg xs):=rfl
theorem vo1 (D:Nat→Bool) (x:PV):qdn D 5 (.p x)=.ret x:=rfl
theorem vbw (D:Nat→Bool):qdn D 5 .nils=.ret (.slc []):=rfl
theorem vfd (D:Nat→Bool) (l g off len:Nat):qdn D 5 (.own l g off len)=qu5 D 4 l g off len:=rfl
theorem vo2 (D:Nat→Bool) (x:PV):qdn D 4 (.p x)=.ret x:=rfl
attribute [go_sem] vfb vfc vo1 vbw vfd vo2
end
section
variable {C:Cx} {Q:Exit→St→Prop} {st:St}
structure CptI (P:Program) (k:FuncId):Prop where
 body:HasBody P k
 rows:∀(blk off cap:Nat) (zs:List Int) (w:World),Sort.Holds (Value.int .i64) w blk off zs.toArray→zs.length≤9223372036854775807→zs.length≤cap →
  Calls P k #[.slice (some ⟨blk,off,none⟩) zs.length cap] w fun e w' =>
   e=.returned (.slice (some ⟨blk,off,none⟩) (v1y zs).length cap)∧∃n,w'=Sort.putRow (Value.int .i64) (Sort.ahead w n) blk off (v1y zs++vyw (zs.length - (v1y zs).length) 0).toArray
 none:∀(a:Option Addr) (cap:Nat) (w:World),Calls P k #[.slice a 0 cap] w fun e w'=>e=.returned (.slice a 0 cap)∧w'=w
theorem q0h (l:List Int):(v1y l).length≤l.length:=by
 unfold v1y Lib.compactUpTo;rw [vye];have:=v0s (Lib.keeps l.toArray) (vyu l.length);rw [List.length_range] at this;exact this
theorem vi0 {o:Oper} {f:Operand} {args:Array Operand} {ats:Array TypeId} {k:FuncId} {e g n L d:Nat}
  (S:CptI C.P k) {l l':List Int} (hl':v1y l=l') (hl:l.length≤1000000000000)
  (ho:o.op=.call ⟨.value f,args,ats⟩) (hd:qbg C.N o=true) (hdst:o.dst=some d)
  (hk:qbq st.env f args.toList=some (k,[.own L g 0 n]))
  (hobj:qa0 st.heap L=.arr e 1 g (v0v AV.p (v0v (PV.int .i64) l))) (hn:n=l.length)
  {inj:Inj} {a:Act} {w:World} (hs:SR C st inj a w) {K:Act→World→Prop} {E:Exit→Act→World→Prop}
  (h:∀a' w',SR C ⟨qdh st.env (some d) (.own L (g+1) 0 l'.length),qod st.heap L (.arr e 1 (g+1) (v0v AV.p (v0v (PV.int .i64) l')))⟩ inj a' w'→(∀b',(∀c,inj L≠some (b',c))→w'.heap[b']?=w.heap[b']?)→K a' w'):o.wp C.P a w K E:=by
 subst hl';obtain⟨vs,hrun,hars⟩:=qjy hs ho S.body hk;unfold Oper.wp;rw [hrun];simp only [Oper.upon];obtain⟨v1,r1,rfl,ha1,rfl⟩:=hars;have ha1':=ha1;obtain⟨⟨sa,sn,sc,rfl⟩,hown⟩:=ha1;obtain⟨hge,hown⟩:=hown _ hobj;obtain⟨hle,hcase⟩:=hown rfl e 1 _ rfl;have hcl:=q0h l
 -- the state behind the call,then cut
 have fin:∀(inj':Inj) (a':Act) (w':World) (zs:List Int),zs.length=l.length→zs.take (v1y l).length=v1y l →
   SR C ⟨qdh st.env (some d) (.own L g 0 (v1y l).length),qod st.heap L (.arr e 1 g (v0v AV.p (v0v (PV.int .i64) zs)))⟩ inj' a' w' →
   SR C ⟨qdh st.env (some d) (.own L (g+1) 0 (v1y l).length),qod st.heap L (.arr e 1 (g+1) (v0v AV.p (v0v (PV.int .i64) (v1y l))))⟩ inj' a' w':=by
  intro inj' a' w' zs hz ht hsr;have hob:qa0 (qod st.heap L (.arr e 1 g (v0v AV.p (v0v (PV.int .i64) zs)))) L=.arr e 1 g (v0v AV.p (v0v (PV.int .i64) zs)):=by
   rw [qd4];simp [qiq]
  have:=hsr.shrink (t:=d) (m:=(v1y l).length) hob (by simp [qdh,Env.get]);refine⟨fun t=>?_,this.size,this.defers,?_,?_⟩
  ·have h1:=this.env t;have hsig:(St.mk (qdh (qdh st.env (some d) (.own L g 0 (v1y l).length)) (some d) (.own L (g+1) 0 (v1y l).length)) (qod (qod st.heap L (.arr e 1 g (v0v AV.p (v0v (PV.int .i64) zs)))) L (.arr e 1 (g+1) ((v0v AV.p (v0v (PV.int .i64) zs)).take (v1y l).length)))).sig=(St.mk (qdh st.env (some d) (.own L (g+1) 0 (v1y l).length)) (qod st.heap L (.arr e 1 (g+1) (v0v AV.p (v0v (PV.int .i64) (v1y l)))))).sig:=by
    simp only [St.sig];rw [qd4,qd4,qd4,←v0z,←v0z,ht];funext q;simp only [qiq];split <;> rfl
   rw [hsig] at h1;simp only [qdh,Env.get] at h1 ⊢;by_cases hdt:d=t
   ·rw [if_pos hdt] at h1 ⊢;exact h1
   ·rw [if_neg hdt,if_neg hdt] at h1;rw [if_neg hdt];exact h1
  ·have h1:=this.hr;simp only [St.sig] at h1 ⊢;rw [qd4,qd4,←v0z,←v0z,ht] at h1;rw [qd4];have e1:qiq (qiq (qa0 st.heap) L (.arr e 1 g (v0v AV.p (v0v (PV.int .i64) zs)))) L (.arr e 1 (g+1) (v0v AV.p (v0v (PV.int .i64) (v1y l))))=qiq (qa0 st.heap) L (.arr e 1 (g+1) (v0v AV.p (v0v (PV.int .i64) (v1y l)))):=by
    funext q;simp only [qiq];split <;> rfl
   rw [e1] at h1;exact h1
  ·have h1:=this.ev;simp only [St.sig] at h1 ⊢;rw [qd4,qd4,←v0z,←v0z,ht] at h1;rw [qd4];have e1:qiq (qiq (qa0 st.heap) L (.arr e 1 g (v0v AV.p (v0v (PV.int .i64) zs)))) L (.arr e 1 (g+1) (v0v AV.p (v0v (PV.int .i64) (v1y l))))=qiq (qa0 st.heap) L (.arr e 1 (g+1) (v0v AV.p (v0v (PV.int .i64) (v1y l)))):=by
    funext q;simp only [qiq];split <;> rfl
   rw [e1] at h1;exact h1
 have hput:∀{v:AV} {val:Value} {u:Upd} {inj':Inj} {w':World},HR C.X inj' (upd st.sig u) w'→Ev C.D C.X inj st.sig w inj' (upd st.sig u) w'→AR C.X inj' (upd st.sig u) w' v val →
   SR C ⟨qdh st.env (some d) v,qp1 st.heap u⟩ inj' (a.put o.dst val) w':=by
  intro v val u inj' w' q1 q2 q3;have:=hs.put (u:=u) hd q1 q2 q3;rw [hdst] at this;rw [hdst];exact this
 rcases hcase with⟨hi0,h2,_,hn0⟩|⟨b,cp,a0,hi,h2,h3,h4⟩
 ·have hl0:l=[]:=vxx (by omega);subst hl0;have e0:v1y ([]:List Int)=[]:=vxx (by simpa using hcl);rw [h2];refine (S.none none 0 w).mono ?_;rintro e' w' ⟨rfl,rfl⟩;have hsame:upd st.sig (some (L,.arr e 1 g (v0v AV.p (v0v (PV.int .i64) []))))=st.sig:=by
   funext q;simp only [upd,qiq];by_cases hq:q=L
   ·rw [if_pos hq,hq];exact hobj.symm
   ·rw [if_neg hq]
  refine h _ _ (fin inj _ _ [] rfl (by rw [e0];rfl) (hput (u:=some (L,.arr e 1 g (v0v AV.p (v0v (PV.int .i64) [])))) (by rw [hsame];exact hs.hr) (by rw [hsame];exact Ev.refl _ _ _ _) ?_)) ?_
  ·rw [hsame];subst hn;rw [e0];rw [h2] at ha1';exact ha1'
  ·exact fun _ _=>rfl
 ·obtain⟨vs,o1,o2,o3,o4⟩:=hs.hr.obj L _ hobj;have ha0:a0=some ⟨b,0,none⟩:=by
   rcases h4 with⟨h4,_⟩ | h4
   ·exact absurd rfl h4
   ·simpa using h4
  rw [h2,ha0,hn];rcases o4 with⟨o4,_⟩|⟨b',c',cur,i1,i2,i3,i4,i5,i6,i7⟩
  ·rw [hi] at o4;cases o4
  rw [hi] at i1;cases i1;have hb:b < w.heap.size:=(vw6.1 i3).1;have hvs:=qts o1;have hone:∀l:List Int,∀v∈l.map (Value.int .i64),v.oneCell'=true:=fun l v hv=>by obtain⟨x,_,rfl⟩:=v06.1 hv;rfl
  refine (S.rows b 0 (cp - 0) l w ?_ (by omega) (by omega)).mono ?_
  ·intro j hj;have hj':j < l.length:=by simpa using hj
   have hcj:cur[j]?=some (Value.int .i64 l[j]):=by
    have h5:(cur.toList.take ((v0v AV.p (v0v (PV.int .i64) l)).length * 1))[j]?=vs[j]?:=by rw [i7,hvs,qh3 (hone l)]
    rw [vya,if_pos (by simpa using hj'),vw9] at h5;rw [h5,hvs,vx7,vx4 hj'];rfl
   have hr:l.toArray[j]! = l[j]:=by rw [getElem!_pos _ j (by simpa using hj')];simp
   rw [hr];refine⟨?_,?_⟩
   ·simp only [World.cell?,i3,vzl];simpa using hcj
   ·simp [World.frozen?,i3]
  ·rintro e' w' ⟨rfl,m,rfl⟩;generalize hzs:v1y l++vyw (l.length - (v1y l).length) 0=zs;have hzl:zs.length=l.length:=by rw [←hzs,vyc,vyg];omega
   have hzt:zs.take (v1y l).length=v1y l:=by rw [←hzs,vyz];rfl
   have hfl':(flat (zs.map (Value.int .i64))).toArray=(zs.toArray).map (Value.int .i64):=by
    rw [qh3 (hone _)];apply vw4;simp
   have hw:Sort.putRow (Value.int .i64) (Sort.ahead w m) b 0 zs.toArray=Sort.grow (Sort.putRow id (Sort.ahead w m) b 0 (flat (zs.map (Value.int .i64))).toArray) #[]:=by
    rw [qrf,←hfl',Sort.grow_empty]
   rw [hw];obtain⟨hH,hE⟩:=HR.rows hs.hr (D:=C.D) (m:=m) (os:=#[]) hobj hi (by simp [hzl]) (qtt zs)
    (fun v hv=>by obtain⟨i,_,rfl⟩:=v06.1 hv;rfl) (by rw [qh3 (hone _)];exact hone _)
   refine h _ _ (fin inj _ _ zs hzl hzt (hput (u:=some (L,.arr e 1 g (v0v AV.p (v0v (PV.int .i64) zs)))) hH hE ?_)) ?_
   ·refine⟨⟨_,_,_,rfl⟩,fun oo hoo=>?_⟩;have hoo':oo=.arr e 1 g (v0v AV.p (v0v (PV.int .i64) zs)):=by rw [←hoo];simp [upd,qiq]
    subst hoo';refine⟨vza _,fun _ e' sz' es' heq=>?_⟩;cases heq;refine⟨by simp [hzl];omega,.inr ⟨b,cp,some ⟨b,0,none⟩,hi,rfl,by omega,.inr (by simp)⟩⟩
   ·intro b' hb';have hne:b≠b':=fun e=>hb' cp (by rw [←e];exact hi)
    simp only [Sort.grow_empty,Sort.putRow,Sort.mapBlock,vz0,if_neg hne,Sort.ahead]
theorem vo3 {ops:Array Oper} {o:Oper} {rest:List Oper} {f:Operand} {args:Array Operand} {ats:Array TypeId} {k:FuncId} {e g n L d:Nat}
  (S:CptI C.P k) {l l':List Int} (hl':v1y l=l') (hl:l.length≤1000000000000)
  (ho:o.op=.call ⟨.value f,args,ats⟩) (hg:qau ops st.env o=some true) (hd:qbg C.N o=true) (hdst:o.dst=some d)
  (hk:qbq st.env f args.toList=some (k,[.own L g 0 n]))
  (hobj:qa0 st.heap L=.arr e 1 g (v0v AV.p (v0v (PV.int .i64) l))) (hn:n=l.length)
  (h:AL C ops rest Q ⟨qdh st.env (some d) (.own L (g+1) 0 l'.length),qod st.heap L (.arr e 1 (g+1) (v0v AV.p (v0v (PV.int .i64) l')))⟩):AL C ops (o :: rest) Q st:=by
 intro inj a w hs;simp only [wpList,qa9 hs hg,if_true];exact .inl (vi0 S hl' hl ho hd hdst hk hobj hn hs fun a' w' h1 _=>h inj a' w' h1)
def vq5 (l:List Int):Option (List Int):=if l.length≤1000000000000 then some (v1y l) else none
theorem vi1 {l l':List Int} (h:vq5 l=some l'):l'.length≤l.length:=by
 unfold vq5 at h;split at h
 ·cases h;exact q0h l
 ·cases h
theorem zCI {ops:Array Oper} {o:Oper} {rest:List Oper} {f:Operand} {args:Array Operand} {ats:Array TypeId} {k:FuncId} {e g n L d:Nat}
  (S:CptI C.P k) {l l':List Int} (hl:vq5 l=some l') (h:AL C ops rest Q ⟨qdh st.env (some d) (.own L (g+1) 0 l'.length),qod st.heap L (.arr e 1 (g+1) (v0v AV.p (v0v (PV.int .i64) l')))⟩)
  (ho:o.op=.call ⟨.value f,args,ats⟩:=by rfl) (hg:qau ops st.env o=some true:=by first | exact qaw rfl | exact qbh rfl rfl (by exact rfl) (by exact rfl)) (hd:qbg C.N o=true:=by rfl) (hdst:o.dst=some d:=by rfl)
  (hk:qbq st.env f args.toList=some (k,[.own L g 0 n]):=by simp only [go_sem,seval, *];first | exact⟨rfl,rfl,rfl⟩ | exact rfl)
  (hobj:qa0 st.heap L=.arr e 1 g (List.map AV.p (List.map (PV.int .i64) l)):=by simp only [go_sem,seval, *];exact rfl) (hn:n=l.length:=by rfl):AL C ops (o :: rest) Q st:=by
 unfold vq5 at hl;split at hl
 ·exact vo3 S (v1p hl) (by assumption) ho hg hd hdst hk hobj hn h
 ·cases hl
theorem vbx {ops:Array Oper} {o:Oper} {rest:List Oper} {f:Operand} {args:Array Operand} {ats:Array TypeId} {k:FuncId} {e sz by' g g0 n off L K:Nat} {xs ys:List PV}
  (S:Cln C.P k e sz by') (hw:¬C.D)
  (ho:o.op=.call ⟨.value f,args,ats⟩) (hgd:qau ops st.env o=some true) (hd:qbg C.N o=true)
  (hk:qbq st.env f args.toList=some (k,[.own L g0 off n]))
  (hobj:qa0 st.heap L=.arr e sz g0 (xs.map AV.p)) (hys:(xs.drop off).take n=ys)
  (hn:n≤maxLen) (hby:n * by'≤140737488355328) (hg:qa0 st.heap K=.dead g)
  (h:AL C ops rest Q ⟨qdh st.env o.dst (.own K (g+1) 0 n),qod st.heap K (.arr e sz (g+1) (ys.map AV.p))⟩):AL C ops (o :: rest) Q st:=by
 subst hys;intro inj a w hs;simp only [wpList,qa9 hs hgd,if_true];refine .inl ?_;obtain⟨vs,hrun,hars⟩:=qjy hs ho S.body hk;unfold Oper.wp;rw [hrun];simp only [Oper.upon];obtain⟨v1,r1,rfl,ha1,rfl⟩:=hars;obtain⟨⟨sa,sn,sc,rfl⟩,hown⟩:=ha1;obtain⟨hge,hown⟩:=hown _ hobj;obtain⟨hle,hcase⟩:=hown rfl e sz _ rfl;rw [vye] at hle;obtain⟨us0,o1,o2,o3,o4⟩:=hs.hr.obj L _ hobj;have hlen0:us0.length=xs.length:=by have:=o1.length;simpa using this.symm
 -- the part
 have p1:ARs C.X inj st.sig w (((xs.drop off).take n).map AV.p) ((us0.drop off).take n):=by
  have:=ARs.take n (ARs.drop off o1)
  rwa [←List.map_drop,←v0z] at this
 have p2:∀v∈(us0.drop off).take n,v.cells.size=sz:=fun v hv=>o2 v (vyp (vyq hv))
 have p3:qbi (flat ((us0.drop off).take n)):=fun u hu=>by
  obtain⟨v,hv,hu⟩:=vyn.1 hu;exact o3 u (vyn.2 ⟨v,vyp (vyq hv),hu⟩)
 have p4:flat ((us0.drop off).take n)=((flat us0).drop (off * sz)).take (n * sz):=by
  rw [qhz (sz:=sz) n fun v hv=>o2 v (vyp hv),qkv (sz:=sz) off o2]
 have p5:((us0.drop off).take n).length=n:=by rw [vyi,vyd];omega
 have p6:((xs.drop off).take n).length=n:=by rw [vyi,vyd];omega
 generalize hys:(xs.drop off).take n=ys at *;generalize hus:(us0.drop off).take n=us at *;have hfl:(flat us).length=n * sz:=by rw [qbl p2,p5]
 have fin:∀v w',World.ownsRow w' w.heap.size e sz v n (flat us)→RowKit.Below w.heap.size w w'→∃inj',SR C ⟨qdh st.env o.dst (.own K (g+1) 0 n),qod st.heap K (.arr e sz (g+1) (ys.map AV.p))⟩ inj' (a.put o.dst v) w':=by
  intro v w' hrow hbel;have hfz:∀a:Addr,a.block < w.heap.size→w'.frozen? a=w.frozen? a:=fun a ha=>by unfold World.frozen?;rw [hbel.block _ ha]
  obtain⟨_,hrow⟩:=hrow;rcases hrow with⟨rfl,hz⟩|⟨gb,cp,cur,rfl,hbase,hgb,q1,q2,q3,q4⟩
  ·have hxs:ys=[]:=List.length_eq_zero_iff.1 (by omega);have hup:=hs.hr.update (D:=C.D) (w':=w') (l:=K) (o:=.dead g) (o':=.arr e sz (g+1) (ys.map AV.p)) (x:=none) hg hbel.os hbel.tape hbel.output (fun hd=>absurd hd hw) hbel.size hfz
    (fun b hb _=>hbel.block b hb) (fun b1 c1 h1=>by cases h1) ⟨by simp [AO.gen],fun _ he=>by simp [AO.gen] at he⟩
   obtain⟨hev,hhr⟩:=hup;refine⟨_,hs.put (u:=some (K,.arr e sz (g+1) (ys.map AV.p))) hd (hhr ⟨us,ARs.ev hev hs.hr.xlt _ us p1,p2,p3,.inl ⟨by simp,by rw [hxs];rfl⟩⟩) hev ?_⟩;refine⟨⟨_,_,_,rfl⟩,fun oo hoo=>?_⟩;have:oo=.arr e sz (g+1) (ys.map AV.p):=by rw [←hoo];exact qc0 _ _ _
   subst this;exact⟨vza _,fun _ e1 sz1 es1 he=>by cases he;exact⟨by simp [p6],.inl ⟨by simp,rfl,rfl,hz⟩⟩⟩
  ·have hup:=hs.hr.update (D:=C.D) (w':=w') (l:=K) (o:=.dead g) (o':=.arr e sz (g+1) (ys.map AV.p)) (x:=some (gb,cp)) hg hbel.os hbel.tape hbel.output (fun hd=>absurd hd hw) hbel.size hfz
    (fun b hb _=>hbel.block b hb) (fun b1 c1 h1=>by cases h1;exact .inl hbase) ⟨by simp [AO.gen],fun _ he=>by simp [AO.gen] at he⟩
   obtain⟨hev,hhr⟩:=hup;have hyl:(ys.map AV.p).length=n:=by rw [vye,p6]
   have hH:=hhr ⟨us,ARs.ev hev hs.hr.xlt _ us p1,p2,p3,.inr ⟨gb,cp,cur,by simp,fun hX=>by have:=hs.hr.xlt gb hX;omega,hgb,by rw [hyl];exact q1,q2,q3,by rw [hyl];exact q4⟩⟩;refine⟨_,hs.put (u:=some (K,.arr e sz (g+1) (ys.map AV.p))) hd hH hev ?_⟩;have hown:vaf (fun q=>if q=K then some (gb,cp) else inj q) (qiq st.sig K (.arr e sz (g+1) (ys.map AV.p))) K (g+1) 0 n (.slice (some ⟨gb,0,none⟩) n cp) :=
    qjx (qc0 _ _ _) (if_pos rfl) (by rw [hyl];exact vza _) q1
   exact hown
 have zero:n=0→∀a0 c,a0=none∨(∃z,a0=some z)→Calls C.P k #[.slice a0 0 c] w fun e' w'=>∃v,e'=.returned v∧World.ownsRow w' w.heap.size e sz v n (flat us)∧RowKit.Below w.heap.size w w':=by
  intro hn0 a0 c ha;have hu:us=[]:=vxx (by omega);rcases ha with rfl | ⟨z,rfl⟩
  ·refine (S.nil 0 c w).mono ?_;rintro e' w' ⟨rfl,rfl⟩;exact⟨_,rfl,by rw [hn0,hu];exact⟨by simp [flat],.inl ⟨rfl,rfl⟩⟩,RowKit.Below.refl _ _⟩
  ·refine (S.zero z c w).mono ?_;rintro e' w' ⟨v,rfl,h1,h2⟩;exact⟨v,rfl,by rw [hn0,hu];exact h1,h2⟩
 rcases hcase with⟨hi0,h2,_,hn0⟩|⟨b,cp,a0,hi,h2,h3,h4⟩
 ·rw [h2];refine (zero hn0 none 0 (.inl rfl)).mono ?_;rintro e' w' ⟨v,rfl,h1,h2⟩;obtain⟨inj',hsr⟩:=fin _ _ h1 h2;exact h inj' _ _ hsr
 ·rw [h2];rcases h4 with⟨h4,h5⟩ | h4
  ·have hn0:n=0:=by omega
   have e0:(Value.slice a0 n (cp - off))=Value.slice a0 0 (cp - off):=by rw [hn0]
   rw [e0];refine (zero hn0 a0 (cp - off) (by cases a0;exact .inl rfl;exact .inr ⟨_,rfl⟩)).mono ?_;rintro e' w' ⟨v,rfl,h1,h2⟩;obtain⟨inj',hsr⟩:=fin _ _ h1 h2;exact h inj' _ _ hsr
  ·rw [h4];rcases o4 with⟨o4,_⟩|⟨b',c',cur,i1,i2,i3,i4,i5,i6,i7⟩
   ·rw [hi] at o4;cases o4
   rw [hi] at i1;cases i1;refine (S.ptr b (off * sz) _ _ (flat us) w hfl hn hby ?_ p3).mono ?_
   ·intro j u hj;rw [p4,vya] at hj;split at hj
    case isFalse=>cases hj
    rw [vx3] at hj;rw [←i7,vya] at hj;split at hj
    case isFalse=>cases hj
    rw [vw9] at hj;simp only [World.cell?,i3];exact hj
   ·rintro e' w' ⟨v,rfl,h1,h2⟩;obtain⟨inj',hsr⟩:=fin _ _ h1 h2;exact h inj' _ _ hsr
theorem zCp {ops:Array Oper} {o:Oper} {f:Operand} {args:Array Operand} {ats:Array TypeId} {rest:List Oper} {c:FuncId} {e sz by' g g0 L:Nat} {α:Type}
  (S:Cln C.P c e sz by') (k:Nat) (enc:α→PV) (l l':List α) (off n:Nat) (hl:(l.drop off).take n=l') (hn:n≤maxLen∧n * by'≤140737488355328)
  (h:AL C ops rest Q ⟨qdh st.env o.dst (.own k (g+1) 0 n),qod st.heap k (.arr e sz (g+1) ((l'.map enc).map AV.p))⟩)
  (hw:¬C.D:=by exact id) (ho:o.op=.call ⟨.value f,args,ats⟩:=by rfl) (hgd:qau ops st.env o=some true:=by first | exact qaw rfl | exact qbh rfl rfl (by exact rfl) (by exact rfl)) (hd:qbg C.N o=true:=by rfl)
  (hc:qbq st.env f args.toList=some (c,[.own L g0 off n]):=by simp only [go_sem,seval, *];all_goals first | exact rfl | exact⟨rfl,rfl,rfl⟩ | exact⟨rfl,rfl⟩)
  (hobj:qa0 st.heap L=.arr e sz g0 ((l.map enc).map AV.p):=by simp only [go_sem,seval, *];all_goals exact rfl)
  (hg:qa0 st.heap k=.dead g:=by simp only [go_sem,seval, *];all_goals first | exact rfl | exact qqc rfl):AL C ops (o :: rest) Q st :=
 vbx S hw ho hgd hd hc hobj (by rw [←List.map_drop,←v0z,hl]) hn.1 hn.2 hg h
end
end Go.Ab
namespace Go.Ab
open Go Go.Proofs Go.Shelf Go.RowKit Go.Lib
structure InsLay (P:Program) (ρ:Ren):Prop where
 mixed:P.follows .mixedOrders=true
 fi:∃nm,P.funcs[ρ.f 22]?=some { Body2.n22 ρ with name:=nm }
 fo:∀(args:Array Value) (w:World),(callFunc (ρ.f 29) args).run P w=((Extern.SlicesOverlaps.overlaps #[ρ.t 24,ρ.t 24] #[ρ.t 4] args).run P w).andThen fun v w'=>.ok (.value v) w'
 t0:P.underlying (ρ.t 0)=some (TypeDesc.tuple #[])
 a0:∀w,(isAgg (ρ.t 0)).run P w=.ok false w
 z0:∀w,(Go.sizeOf (ρ.t 0)).run P w=.ok 1 w
 v0:∀w,(zeroValue (ρ.t 0)).run P w=.ok (Value.tuple #[]) w
 t3:P.underlying (ρ.t 3)=some (TypeDesc.int vz8)
 a3:∀w,(isAgg (ρ.t 3)).run P w=.ok false w
 z3:∀w,(Go.sizeOf (ρ.t 3)).run P w=.ok 1 w
 v3:∀w,(zeroValue (ρ.t 3)).run P w=.ok (Value.int vz8 0) w
 t4:P.underlying (ρ.t 4)=some (TypeDesc.bool)
 a4:∀w,(isAgg (ρ.t 4)).run P w=.ok false w
 z4:∀w,(Go.sizeOf (ρ.t 4)).run P w=.ok 1 w
 v4:∀w,(zeroValue (ρ.t 4)).run P w=.ok (Value.bool false) w
 t24:P.underlying (ρ.t 24)=some (TypeDesc.slice (ρ.t 9))
 a24:∀w,(isAgg (ρ.t 24)).run P w=.ok false w
 z24:∀w,(Go.sizeOf (ρ.t 24)).run P w=.ok 1 w
 v24:∀w,(zeroValue (ρ.t 24)).run P w=.ok (Value.slice none 0 0) w
 z9:∀w,(Go.sizeOf (ρ.t 9)).run P w=.ok 1 w
 i9:∃i z,P.info? (ρ.t 9)=some i∧i.zero=some z∧i.size=1∧i.bytes≤16∧z.cells=#[z]
variable {P:Program} {ρ:Ren}
set_option maxHeartbeats 4000000 in
set_option maxRecDepth 100000 in
theorem vfe (L:InsLay P ρ) (b n c i vb vc:Nat) (cs:List Value) (x:Value) (w:World) (hi:i < n) (hroom:n+1≤c) (hc:c≤9223372036854775807) (hvb:vb≠b) (hcl:cs.length=n)
  (hcs:∀j v,cs[j]?=some v→w.cell? ⟨b,j,none⟩=some v) (hsp:∀j,j < n+1→(w.cell? ⟨b,j,none⟩).isSome=true) (hfz:∀j,j < n+1→w.frozen? ⟨b,j,none⟩=false)
  (hx:w.cell? ⟨vb,0,none⟩=some x) (h1c:∀v∈cs,v.oneCell'=true) (h1x:x.oneCell'=true)
  (tA tB:TypeId) (kA kB:Nat) (hsa:w.shape? vb=some (tA,kA)) (hsb:w.shape? b=some (tB,kB)) (hkB:kB≠0) (hfa:w.frozen? ⟨vb,0,none⟩=false) (hfe:w.frozen? ⟨vb,kA,none⟩=false) :
  Calls P (ρ.f 22) #[.slice (some ⟨b,0,none⟩) n c,.int .i64 i,.slice (some ⟨vb,0,none⟩) 1 vc] w fun e w' =>
   e=.returned (.slice (some ⟨b,0,none⟩) (n+1) c)∧w'=(w.drew.setCells b (i+1) (cs.drop i)).setCells b i [x]:=by
 obtain⟨nm,hf⟩:=L.fi
 have mixed:=L.mixed
 have t0:=L.t0;have a0:=L.a0;have z0:=L.z0;have v0:=L.v0;have t3:=L.t3;have a3:=L.a3;have z3:=L.z3;have v3:=L.v3;have t4:=L.t4;have a4:=L.a4;have z4:=L.z4;have v4:=L.v4;have z9:=L.z9
 have t24:=L.t24;have a24:=L.a24;have z24:=L.z24;have v24:=L.v24
 have u0:=run_underlying L.t0;have u3:=run_underlying L.t3;have u4:=run_underlying L.t4;have u24:=run_underlying L.t24
 obtain⟨i0,z,hi0,hz0,hzs,hzb,hzc⟩:=L.i9
 have hsz:(P.info? (ρ.t 9)).map (·.size)=some 1:=by rw [hi0];simp [hzs]
 have hne:¬((i:Int)=(n:Int)):=by omega
 have hov:∀lb cb,(callFunc (ρ.f 29) #[.slice (some ⟨vb,0,none⟩) 1 vc,.slice (some ⟨b,i+1,none⟩) lb cb]).run P w=.ok (.value (.bool false)) w:=fun lb cb=>by
  rw [L.fo,Lib.run_overlaps_apart w (ρ.t 24) (ρ.t 4) (ρ.t 9) L.t24 1 L.z9 ⟨vb,0,none⟩ ⟨b,i+1,none⟩ 1 vc lb cb hvb tA tB kA kB hsa hsb hkB hfa hfe]
  rfl
 have hdl:(cs.drop i).length=n - i:=by rw [vyd,hcl]
 have hw1:vz8.wrap ((i:Int)+1)=(i:Int)+1:=by rw [v1x];omega
 have hw2:vz8.wrap ((n:Int)+1)=(n:Int)+1:=by rw [v1x];omega
 have hb1:(0:Int)≤(i:Int)+1:=by omega
 have hin:i≤n:=by omega
 have htn:((i:Int)+1).toNat=i+1:=by omega
 have hb2:¬(c=i+1):=by omega
 have hb3:(i:Int)≤(n:Int)+1:=by omega
 have hb4:¬(c=i):=by omega
 have cp1:∀ty dc sc,(Builtin.copy_ #[(ρ.t 24),(ρ.t 24)] ty #[.slice (some ⟨b,i+1,none⟩) (n - i) dc,.slice (some ⟨b,i,none⟩) (n+1 - i) sc]).run P w.drew=.ok (goInt (cs.drop i).length) (w.drew.setCells b (i+1) (cs.drop i)):=fun ty dc sc =>
  run_copy_cells w.drew _ _ ty (ρ.t 9) b (i+1) (n - i) dc ⟨b,i,none⟩ (n+1 - i) sc (cs.drop i) L.t24 hsz (by rw [hdl];simp only [v2c];split <;> omega)
   (fun j v hj=>by rw [Addr.add_lit];exact hcs (i+j) v (by rwa [vx3] at hj))
   (fun j hj=>hsp _ (by omega)) (fun j hj=>hfz _ (by omega)) (fun v hv=>h1c v (vyp hv))
 obtain⟨W1,hW1⟩:∃W1,W1=w.drew.setCells b (i+1) (cs.drop i):=⟨_,rfl⟩
 have hsp1:∀k,k < n+1→(W1.cell? ⟨b,k,none⟩).isSome=true:=fun k hk=>by
  rw [hW1]
  exact Go.Proofs.isSome_setCells b _ _ w.drew (fun j hj=>hsp _ (by rw [hdl] at hj;omega)) k (hsp k hk)
 have cp2:∀(W:World),(∀y,W.cell? y=W1.cell? y)→(∀y,W.frozen? y=W1.frozen? y)→∀ty dc,(Builtin.copy_ #[(ρ.t 24),(ρ.t 24)] ty #[.slice (some ⟨b,i,none⟩) (n+1 - i) dc,.slice (some ⟨vb,0,none⟩) 1 vc]).run P W=.ok (goInt [x].length) (W.setCells b i [x]):=fun W hWc hWf ty dc =>
  run_copy_cells W _ _ ty (ρ.t 9) b i (n+1 - i) dc ⟨vb,0,none⟩ 1 vc [x] L.t24 hsz (by simp only [v2c,v0q,vyf];split <;> omega)
   (fun j v hj=>by
    cases j with
    | zero =>
     simp only [v0m,vzs] at hj
     subst hj
     rw [Addr.add_lit,hWc,hW1,World.cell?_setCells_out b _ _ _ _ (fun h _=>absurd h hvb)]
     exact hx
    | succ j=>simp at hj)
   (fun j hj=>by rw [hWc];exact hsp1 _ (by simp at hj;omega)) (fun j hj=>by rw [hWf,hW1,World.frozen?_setCells];exact hfz _ (by simp at hj;omega)) (fun v hv=>by rw [v09.1 hv];exact h1x)
 rw [←hW1] at cp1
 go_enter hf,Body2.n22_ntmps ρ
 go_wp2_with (simp only [hov])
 go_region_law_o (refine step_copy_runI rfl _ _ (ρ.t 24) (ρ.t 24) rfl _ _ (by simp [Act.eval,Act.put]) (by simp [Act.eval,Act.put]) (cp1 _ _ _) ?_)
 go_wp2_with (at_builtin;refine wpList_copy_runI _ rfl _ _ (ρ.t 24) (ρ.t 24) rfl _ _ rfl rfl (cp2 _ (fun _=>rfl) (fun _=>rfl) _ _) ?_)
 go_ret
 exact⟨rfl,rfl⟩
theorem vo4 (L:InsLay P ρ) (sv:Value) (n c vb vc:Nat) (w w':World) (val:Value) (hs:sv=.slice none 0 0∧n=0∧c=0∨∃a,sv=.slice (some a) n c)
  (hrun:(Builtin.append_ #[ρ.t 24,ρ.t 24] (ρ.t 24) #[sv,.slice (some ⟨vb,0,none⟩) 1 vc]).run P w=.ok val w') (hnc:n≤c) :
  Calls P (ρ.f 22) #[sv,.int .i64 n,.slice (some ⟨vb,0,none⟩) 1 vc] w fun e w1=>e=.returned val∧w1=w':=by
 obtain⟨nm,hf⟩:=L.fi;have mixed:=L.mixed;have t0:=L.t0;have a0:=L.a0;have z0:=L.z0;have v0:=L.v0;have t3:=L.t3;have a3:=L.a3;have z3:=L.z3;have v3:=L.v3;have t4:=L.t4;have a4:=L.a4;have z4:=L.z4;have v4:=L.v4;have z9:=L.z9;have t24:=L.t24;have a24:=L.a24;have z24:=L.z24;have v24:=L.v24;have u0:=run_underlying L.t0;have u3:=run_underlying L.t3;have u4:=run_underlying L.t4;have u24:=run_underlying L.t24;rcases hs with⟨rfl,rfl,rfl⟩|⟨a,rfl⟩
 ·go_enter hf,Body2.n22_ntmps ρ
  go_wp2_with (at_builtin;refine v1z _ rfl _ _ _ _ rfl _ _ rfl rfl _ _ hrun ?_)
  go_ret
  exact⟨rfl,rfl⟩
 ·obtain⟨ab,ao,asp⟩:=a
  go_enter hf,Body2.n22_ntmps ρ
  go_wp2_with (at_builtin;refine v1z _ rfl _ _ _ _ rfl _ _ rfl rfl _ _ hrun ?_)
  all_goals (go_ret;exact⟨rfl,rfl⟩)
set_option maxHeartbeats 4000000 in
set_option maxRecDepth 100000 in
theorem vi2 (L:InsLay P ρ) (b n i vb vc:Nat) (cs:List Value) (x z:Value) (w:World) (hi:i < n) (hbig:(n+1) * 16≤140737488355328) (hcl:cs.length=n)
  (hcs:∀j v,cs[j]?=some v→w.cell? ⟨b,j,none⟩=some v) (hx:w.cell? ⟨vb,0,none⟩=some x) (h1c:∀v∈cs,v.oneCell'=true) (h1x:x.oneCell'=true) (hz:∃i,P.info? (ρ.t 9)=some i∧i.zero=some z) :
  Calls P (ρ.f 22) #[.slice (some ⟨b,0,none⟩) n n,.int .i64 i,.slice (some ⟨vb,0,none⟩) 1 vc] w fun e w' =>
   e=.returned (.slice (some ⟨w.heap.size,0,none⟩) (n+1) (grownCap w (n+1) n (ρ.t 9))) ∧
   w'=(((w.alloc (.cells ((cs.take i).toArray++Builtin.zeroCells z.cells (n+1 - i)++Builtin.zeroCells z.cells (grownCap w (n+1) n (ρ.t 9) - (n+1))) (ρ.t 9))).drew.setCells w.heap.size i [x]).drew).setCells w.heap.size (i+1) (cs.drop i):=by
 obtain⟨nm,hf⟩:=L.fi
 have mixed:=L.mixed
 have t0:=L.t0;have a0:=L.a0;have z0:=L.z0;have v0:=L.v0;have t3:=L.t3;have a3:=L.a3;have z3:=L.z3;have v3:=L.v3;have t4:=L.t4;have a4:=L.a4;have z4:=L.z4;have v4:=L.v4;have z9:=L.z9
 have t24:=L.t24;have a24:=L.a24;have z24:=L.z24;have v24:=L.v24
 have u0:=run_underlying L.t0;have u3:=run_underlying L.t3;have u4:=run_underlying L.t4;have u24:=run_underlying L.t24
 obtain⟨i0,z',hi0,hz0,hzs,hzb,hzc⟩:=L.i9
 obtain rfl:z=z':=by
  obtain⟨i1,q1,q2⟩:=hz
  rw [hi0] at q1;cases q1
  rw [hz0] at q2;exact (v1p q2).symm
 clear hz
 have hsz:(P.info? (ρ.t 9)).map (·.size)=some 1:=by rw [hi0];simp [hzs]
 have hne:¬((i:Int)=(n:Int)):=by omega
 have hbw:b < w.heap.size:=block_lt_of_cell (hcs 0 _ (vx4 (by omega)))
 have hvw:vb < w.heap.size:=block_lt_of_cell hx
 have hkk:(n:Int)+1 - (i:Int)=((n+1 - i:Nat):Int):=by omega
 have hik:i+(n+1 - i)=n+1:=by omega
 have hold:(Builtin.firstCells i0.size i (.slice (some ⟨b,0,none⟩) i n)).run P w.drew=.ok (cs.take i).toArray w.drew:=by
  rw [hzs]
  exact run_firstCells_some w.drew 1 i ⟨b,0,none⟩ i n (cs.take i) (by rw [vyi];omega) (fun j v hj=>by
   rw [Addr.add_lit,vzl]
   rw [vya] at hj
   split at hj
   ·exact hcs j v hj
   ·cases hj)
 have hrz:∀ty,(Builtin.append_ #[(ρ.t 24),(ρ.t 3)] ty #[.slice (some ⟨b,0,none⟩) i n,.int .i64 ((n:Int)+1 - (i:Int))]).run P w =
   .ok (.slice (some ⟨w.heap.size,0,none⟩) (n+1) (grownCap w (n+1) n (ρ.t 9))) (w.drew.alloc (.cells ((cs.take i).toArray++Builtin.zeroCells z.cells (n+1 - i)++Builtin.zeroCells z.cells (grownCap w (n+1) n (ρ.t 9) - (n+1))) (ρ.t 9))):=fun ty=>by
  have hnb:(n+1) * i0.bytes≤140737488355328:=vzc (Nat.mul_le_mul_left _ hzb) hbig
  have h48:(n+1 - i) * i0.bytes≤281474976710656:=vzc (vzh _ (Nat.sub_le _ _)) (by omega)
  have h:=Lib.run_append_grow_zeros w (ρ.t 24) (ρ.t 3) ty (ρ.t 9) i0 _ .i64 .i64 L.t24 L.t3 hi0 hz0 (some ⟨b,0,none⟩) i n (cs.take i) hold (n+1 - i) (by omega) (by omega) (by omega) (by omega) h48 (by rw [hik];exact growslice_fits (vze n) hnb)
  rw [hik] at h
  rw [hkk]
  exact h
 obtain⟨G,hG⟩:∃G,G=grownCap w (n+1) n (ρ.t 9):=⟨_,rfl⟩
 obtain⟨ROW,hROW⟩:∃ROW:Array Value,ROW=(cs.take i).toArray++Builtin.zeroCells z.cells (n+1 - i)++Builtin.zeroCells z.cells (G - (n+1)):=⟨_,rfl⟩
 rw [←hG] at hrz ⊢
 rw [←hROW] at hrz ⊢
 have hRl:n+1≤ROW.size:=by
  rw [hROW]
  simp only [vxc,size_zeroCells,hzc,vyx,vyi,v12]
  omega
 obtain⟨W1,hW1⟩:∃W1,W1=w.drew.alloc (.cells ROW (ρ.t 9)):=⟨_,rfl⟩
 rw [←hW1] at hrz
 have hN:∀j,j < n+1→(W1.cell? ⟨w.heap.size,j,none⟩).isSome=true:=fun j hj=>by
  rw [hW1,World.cell?_alloc_at (w:=w.drew) ROW _ w.heap.size j rfl,v1r (by omega)];rfl
 have hNf:∀j,W1.frozen? ⟨w.heap.size,j,none⟩=false:=fun j=>by rw [hW1];exact World.frozen?_alloc_at (w:=w.drew) ROW _ w.heap.size j rfl
 have hOb:∀j v,w.cell? ⟨b,j,none⟩=some v→W1.cell? ⟨b,j,none⟩=some v:=fun j v h=>by rw [hW1,World.cell?_alloc_past (w:=w.drew) _ b j hbw];exact h
 have hOv:∀j v,w.cell? ⟨vb,j,none⟩=some v→W1.cell? ⟨vb,j,none⟩=some v:=fun j v h=>by rw [hW1,World.cell?_alloc_past (w:=w.drew) _ vb j hvw];exact h
 have cpA:∀(W:World),(∀y,W.cell? y=W1.cell? y)→(∀y,W.frozen? y=W1.frozen? y)→∀ty dc,(Builtin.copy_ #[(ρ.t 24),(ρ.t 24)] ty #[.slice (some ⟨w.heap.size,i,none⟩) (n+1 - i) dc,.slice (some ⟨vb,0,none⟩) 1 vc]).run P W=.ok (goInt [x].length) (W.setCells w.heap.size i [x]):=fun W hWc hWf ty dc =>
  run_copy_cells W _ _ ty (ρ.t 9) w.heap.size i (n+1 - i) dc ⟨vb,0,none⟩ 1 vc [x] L.t24 hsz (by simp only [v2c,v0q,vyf];split <;> omega)
   (fun j v hj=>by
    cases j with
    | zero =>
     simp only [v0m,vzs] at hj
     subst hj
     rw [Addr.add_lit,hWc]
     exact hOv 0 _ hx
    | succ j=>simp at hj)
   (fun j hj=>by rw [hWc];exact hN _ (by simp at hj;omega)) (fun j hj=>by rw [hWf];exact hNf _) (fun v hv=>by rw [v09.1 hv];exact h1x)
 have hGn:n+1≤G:=by rw [hG];exact grownCap_ge w _ _ _
 have hG63:G≤9223372036854775807:=by
  have:=grownCap_le_maxLen w (n+1) n (ρ.t 9) (by unfold maxLen;omega)
  rw [←hG] at this
  unfold maxLen at this
  omega
 have hGi:¬(G=i):=by omega
 have hGim:¬(G=i+1):=by omega
 have hci:¬(n=i):=by omega
 have hbN:b≠w.heap.size:=by omega
 have hdl:(cs.drop i).length=n - i:=by rw [vyd,hcl]
 have cpB:∀(W:World),(∀y,W.cell? y=(W1.setCells w.heap.size i [x]).cell? y)→(∀y,W.frozen? y=(W1.setCells w.heap.size i [x]).frozen? y)→∀ty dc sc,(Builtin.copy_ #[(ρ.t 24),(ρ.t 24)] ty #[.slice (some ⟨w.heap.size,i+1,none⟩) (n - i) dc,.slice (some ⟨b,i,none⟩) (n - i) sc]).run P W=.ok (goInt (cs.drop i).length) (W.setCells w.heap.size (i+1) (cs.drop i)):=fun W hWc hWf ty dc sc =>
  run_copy_cells W _ _ ty (ρ.t 9) w.heap.size (i+1) (n - i) dc ⟨b,i,none⟩ (n - i) sc (cs.drop i) L.t24 hsz (by rw [hdl];simp only [v2c];split <;> omega)
   (fun j v hj=>by
    rw [Addr.add_lit,hWc,World.cell?_setCells_out _ _ _ _ _ (fun h _=>absurd h hbN)]
    exact hOb _ v (hcs (i+j) v (by rwa [vx3] at hj)))
   (fun j hj=>by rw [hWc];exact Go.Proofs.isSome_setCells _ _ _ W1 (fun t ht=>hN _ (by simp at ht;omega)) _ (hN _ (by omega)))
   (fun j hj=>by rw [hWf,World.frozen?_setCells];exact hNf _) (fun v hv=>h1c v (vyp hv))
 subst hW1
 have hE1:∀y,((w.alloc (.cells ROW (ρ.t 9))).drew).cell? y=(w.drew.alloc (.cells ROW (ρ.t 9))).cell? y:=fun y=>rfl
 have hE2:∀y,((w.alloc (.cells ROW (ρ.t 9))).drew).frozen? y=(w.drew.alloc (.cells ROW (ρ.t 9))).frozen? y:=fun y=>rfl
 have hF1:∀y,(((w.alloc (.cells ROW (ρ.t 9))).drew.setCells w.heap.size i [x]).drew).cell? y=((w.drew.alloc (.cells ROW (ρ.t 9))).setCells w.heap.size i [x]).cell? y:=fun y=>rfl
 have hF2:∀y,(((w.alloc (.cells ROW (ρ.t 9))).drew.setCells w.heap.size i [x]).drew).frozen? y=((w.drew.alloc (.cells ROW (ρ.t 9))).setCells w.heap.size i [x]).frozen? y:=fun y=>rfl
 have hw1:vz8.wrap ((i:Int)+1)=(i:Int)+1:=by rw [v1x];omega
 have hw2:vz8.wrap ((n:Int)+1)=(n:Int)+1:=by rw [v1x];omega
 have hb1:(0:Int)≤(i:Int)+1:=by omega
 have hin:i≤n:=by omega
 have htn:((i:Int)+1).toNat=i+1:=by omega
 have hb3:(i:Int)≤(n:Int):=by omega
 clear hkk hik hold hROW hG hRl
 go_enter hf,Body2.n22_ntmps ρ
 go_wp2_with (first
  | (at_builtin;refine v1z _ rfl _ _ _ _ rfl _ _ rfl rfl _ _ (hrz _) ?_)
  | (at_builtin;refine wpList_copy_runI _ rfl _ _ (ρ.t 24) (ρ.t 24) rfl _ _ rfl rfl (cpA _ hE1 hE2 _ _) ?_)
  | (at_builtin;refine wpList_copy_runI _ rfl _ _ (ρ.t 24) (ρ.t 24) rfl _ _ rfl rfl (cpB _ (fun _=>rfl) (fun _=>rfl) _ _ _) ?_))
 go_region_law_o (refine step_copy_runI rfl _ _ (ρ.t 24) (ρ.t 24) rfl (.slice (some ⟨w.heap.size,i+1,none⟩) (n - i) (G - (i+1))) (.slice (some ⟨b,i,none⟩) (n - i) (n - i)) (by simp [Act.eval,Act.put]) (by simp [Act.eval,Act.put]) (cpB _ hF1 hF2 (ρ.t 3) (G - (i+1)) (n - i)) ?_)
 go_wp2
 go_ret
 exact⟨rfl,rfl⟩
end Go.Ab
namespace Go.Ab
open Go Go.Proofs Go.Shelf
def q67 (cur:Array Value):Nat→List Value→Array Value
 | _,[]=>cur
 | o,v :: vs=>q67 (cur.setIfInBounds o v) (o+1) vs
theorem qh5:∀(vs:List Value) (o:Nat) (cur:Array Value),(q67 cur o vs).size=cur.size
 | [],_,_=>rfl
 | v :: vs,o,cur=>by rw [q67,qh5 vs];simp
theorem qnk:∀(vs:List Value) (o:Nat) (cur:Array Value) (j:Nat),j < o∨o+vs.length≤j→(q67 cur o vs)[j]?=cur[j]?
 | [],_,_,_,_=>rfl
 | v :: vs,o,cur,j,h=>by
  rw [q67,qnk vs (o+1) _ j (by simp only [v0q] at h;omega),vw8 (by simp only [v0q] at h;omega)]
theorem qx1:∀(vs:List Value) (o:Nat) (cur:Array Value) (j:Nat),j < vs.length→o+vs.length≤cur.size→(q67 cur o vs)[o+j]?=vs[j]?
 | v :: vs,o,cur,0,_,hs=>by
  simp only [v0q] at hs;rw [q67,qnk vs (o+1) _ _ (.inl (by omega))];simp [Array.getElem?_setIfInBounds,show o < cur.size by omega]
 | v :: vs,o,cur,j+1,hj,hs=>by
  simp only [v0q] at hs hj;rw [q67,show o+(j+1)=(o+1)+j by omega,qx1 vs (o+1) _ j (by omega) (by simp;omega)];simp
theorem qj2 {b:Nat} {e:TypeId} {f:Nat×Nat}:∀(vs:List Value) (o:Nat) (w:World) (cur:Array Value),w.heap[b]?=some (.cells cur e f) →
  (w.setCells b o vs).heap[b]?=some (.cells (q67 cur o vs) e f)
 | [],_,_,_,h=>h
 | v :: vs,o,w,cur,h=>by
  rw [World.setCells,q67];refine qj2 vs (o+1) _ _ ?_;have hb:b < w.heap.size:=(vw6.1 h).1;simp only [World.setCell,vz0,if_true,h,Option.map_some,Option.isSome_none,vxj,if_false]
theorem qj3 {b:Nat}:∀(vs:List Value) (o:Nat) (w:World),(w.setCells b o vs).os=w.os∧(w.setCells b o vs).tape=w.tape∧(w.setCells b o vs).output=w.output∧(w.setCells b o vs).drawn=w.drawn ∧
  (w.setCells b o vs).heap.size=w.heap.size∧∀k,k≠b→(w.setCells b o vs).heap[k]?=w.heap[k]?
 | [],_,_=>⟨rfl,rfl,rfl,rfl,rfl,fun _ _=>rfl⟩
 | v :: vs,o,w=>by
  rw [World.setCells];obtain⟨h1,h2,h3,h4,h5,h6⟩:=qj3 (b:=b) vs (o+1) (w.setCell ⟨b,o,none⟩ v);refine⟨h1,h2,h3,h4,h5.trans (by simp [World.setCell]),fun k hk=>(h6 k hk).trans ?_⟩;simp only [World.setCell,vz0];rw [if_neg (Ne.symm hk)]
def qpu {α:Type} (l:List α) (i:Nat) (x:α):List α:=l.take i++x :: l.drop i
theorem qsu {α:Type} {l:List α} {i:Nat} {x:α} (h:i≤l.length):(qpu l i x).length=l.length+1:=by
 simp [qpu];omega
theorem vi3 {α β:Type} (f:α→β) (l:List α) (i:Nat) (x:α):(qpu l i x).map f=qpu (l.map f) i (f x):=by simp [qpu]
theorem vff {cur:Array Value} {cs:List Value} {x:Value} {i:Nat} (hi:i≤cs.length) (hs:cs.length+1≤cur.size) (hc:∀j,j < i→cur[j]?=cs[j]?) :
  (q67 (q67 cur (i+1) (cs.drop i)) i [x]).toList.take (cs.length+1)=qpu cs i x∧(q67 (q67 cur i [x]) (i+1) (cs.drop i)).toList.take (cs.length+1)=qpu cs i x:=by
 have hd:(cs.drop i).length=cs.length - i:=vyd;have key:∀A:Array Value,A.size=cur.size→(∀j,j < i→A[j]?=cs[j]?)→A[i]?=some x→(∀j,j < cs.length - i→A[i+1+j]?=cs[i+j]?)→A.toList.take (cs.length+1)=qpu cs i x:=by
  intro A hA h1 h2 h3;refine vxy fun j=>?_
  rw [vya,qpu];split
  ·rename_i hj;rw [vw9];rcases v1g j i with h | h | h
   ·rw [h1 j h,List.getElem?_append_left (by rw [vyi];omega),vya,if_pos h]
   ·subst h;rw [h2,vx2 (by rw [vyi];omega),vyi,v1h hi];simp
   ·rw [show j=i+1+(j - i - 1) by omega,h3 (j - i - 1) (by omega),vx2 (by rw [vyi];omega),vyi,v1h hi,
     show i+1+(j - i - 1) - i=(j - i - 1)+1 by omega,v0l,vx3]
  ·rename_i hj;refine (vx5 ?_).symm;rw [vyc,vyi,v0q,hd];omega
 constructor
 ·refine key _ (by rw [qh5,qh5]) (fun j hj=>?_) ?_ (fun j hj=>?_)
  ·rw [qnk _ _ _ _ (.inl hj),qnk _ _ _ _ (.inl (by omega))];exact hc j hj
  ·have:=qx1 [x] i (q67 cur (i+1) (cs.drop i)) 0 (by simp) (by rw [qh5];simp only [v0q,vyf];omega);simpa using this
  ·rw [qnk _ _ _ _ (.inr (by simp only [v0q,vyf];omega)),qx1 _ _ _ _ (by rw [hd];exact hj) (by rw [hd];omega),vx3]
 ·refine key _ (by rw [qh5,qh5]) (fun j hj=>?_) ?_ (fun j hj=>?_)
  ·rw [qnk _ _ _ _ (.inl (by omega)),qnk _ _ _ _ (.inl hj)];exact hc j hj
  ·rw [qnk _ _ _ _ (.inl (by omega))];have:=qx1 [x] i cur 0 (by simp) (by simp only [v0q,vyf];omega);simpa using this
  ·rw [qx1 _ _ _ _ (by rw [hd];exact hj) (by rw [hd,qh5];omega),vx3]
theorem qtz (zs:List Int):∀v∈zs.map (Value.int .i64),v.oneCell'=true:=fun v hv=>by obtain⟨x,_,rfl⟩:=v06.1 hv;rfl
theorem q35 (zs:List Int):∀v∈zs.map (Value.int .i64),v.cells.size=1:=fun v hv=>by obtain⟨x,_,rfl⟩:=v06.1 hv;rfl
theorem qqj (zs:List Int):flat (zs.map (Value.int .i64))=zs.map (Value.int .i64):=qh3 (qtz zs)
theorem vfg {P:Program} {X:Nat→Prop} {inj:Inj} {σ:Nat→AO} {w:World} {a:Act} {o:Oper} {f:Operand} {args:Array Operand} {ats:Array TypeId} {ρ:Operand→AV} {k:FuncId} {avs:List AV}
  (hk:HasBody P k) (ha:∀x,AR X inj σ w (ρ x) (a.eval x)) (ho:o.op=.call ⟨.value f,args,ats⟩) (hc:qe3 ρ f args.toList=some (k,avs)) :
  ∃vs,(execOp a.eval o).run P w=.ok (.enter k vs.toArray) w∧ARs X inj σ w avs vs:=by
 have hf:=ha f;have hargs:=qnv ha args.toList;obtain⟨dst,op,type,pos,after,guard⟩:=o;simp only at ho;subst ho;unfold qe3 at hc;have run:∀cap:Array Value,a.eval f=.func (.func k) #[] cap→(execOp a.eval ⟨dst,.call ⟨.value f,args,ats⟩,type,pos,after,guard⟩).run P w=.ok (.enter k (args.map a.eval++cap)) w:=by
  intro cap he;simp only [execOp,resolve,Deferred.ofValue,he,vzw,vzx,vzu,invoke];rw [hk];simp
 split at hc
 ·rename_i k' cs hev;simp only [vzs,vzt] at hc;obtain⟨rfl,rfl⟩:=hc;rw [hev] at hf;obtain⟨vs,h1,h2⟩:=hf;refine⟨args.toList.map a.eval++vs,?_,hargs.append (qbe.2 h2)⟩;rw [run vs.toArray h1];congr 2;apply vw4;simp
 ·rename_i k' cs hev;simp only [vzs,vzt] at hc;obtain⟨rfl,rfl⟩:=hc;rw [hev] at hf;obtain⟨vs,h1,h2⟩:=hf;refine⟨args.toList.map a.eval++vs,?_,hargs.append h2⟩;rw [run vs.toArray h1];congr 2;apply vw4;simp
 ·rename_i k' bs hev;simp only [vzs,vzt] at hc;obtain⟨rfl,rfl⟩:=hc;rw [hev] at hf;obtain⟨vs,h1,h2⟩:=hf;refine⟨vs++args.toList.map a.eval,?_,(qbe.2 h2).append hargs⟩;simp only [execOp,resolve,Deferred.ofValue,h1,vzw,vzx,vzu,invoke];rw [hk];congr 2;apply vw4;simp
 ·cases hc
variable {P:Program} {ρ:Ren} {D:Prop}
theorem vby (LY:InsLay P ρ) (hb:HasBody P (ρ.f 22)) (hz0:qbf P (ρ.t 9)=some (.p (.int .i64 0))) (hz1:qca.zeroLen P (ρ.t 9)=1) (hc1:P.cellsOf (ρ.t 9)=1)
  {o:Oper} {f:Operand} {args:Array Operand} {ats:Array TypeId} {ρe:Operand→AV} {σ:Nat→AO} {l g l2 g2 i:Nat} {zs:List Int} {x:Int} {n:Nat}
  (ho:o.op=.call ⟨.value f,args,ats⟩) (hc:qe3 ρe f args.toList=some (ρ.f 22,[.own l g 0 n,.p (.int .i64 i),.own l2 g2 0 1]))
  (h1:σ l=.arr (ρ.t 9) 1 g ((zs.map (PV.int .i64)).map AV.p)) (h2:σ l2=.arr (ρ.t 9) 1 g2 [.p (.int .i64 x)]) (hn:zs.length=n) (hll:l≠l2) (hi:i≤n) (hroom:qld P (ρ.t 9) (n+1)=true) (hbig:(n+1) * 16≤140737488355328) :
  OpU D P o ρe σ (.own l (g+1) 0 (n+1)) (some (l,.arr (ρ.t 9) 1 (g+1) (((qpu zs i x).map (PV.int .i64)).map AV.p))) [l,l2]:=by
 intro X ρ' σ' hρ hσ inj w a next Q hr hT ha hnx
 have hf':ρ' f=ρe f:=hρ f (by rw [ho];simp [Op.operands,Call.operands]);have ha':args.toList.map ρ'=args.toList.map ρe:=v0w fun y hy=>hρ y (by rw [ho];simp [Op.operands,Call.operands] at hy ⊢;exact .inr hy)
 have hc':qe3 ρ' f args.toList=some (ρ.f 22,[.own l g 0 n,.p (.int .i64 i),.own l2 g2 0 1]):=by
  unfold qe3 at hc ⊢;rw [hf',ha'];exact hc
 obtain⟨vs,hrun,hars⟩:=vfg hb ha ho hc';obtain⟨sv,r1,rfl,hs,r2⟩:=hars;obtain⟨iv,r3,rfl,hiv,r4⟩:=r2;obtain⟨xv,r5,rfl,hxv,rfl⟩:=r4;have hiv':iv=.int .i64 i:=hiv;subst hiv';have e1:=(hσ l (by simp)).trans h1;have e2:=(hσ l2 (by simp)).trans h2;unfold Oper.wp;rw [hrun];simp only [Oper.upon]
 -- what is known of the two rows
 have hs':=hs;obtain⟨_,hs2⟩:=hs;obtain⟨_,hs3⟩:=hs2 _ e1;obtain⟨hs4,hs5⟩:=hs3 rfl _ _ _ rfl;obtain⟨_,hx2⟩:=id hxv;obtain⟨_,hx3⟩:=hx2 _ e2;obtain⟨_,hx5⟩:=hx3 rfl _ _ _ rfl;obtain⟨xs,q1,q2,q3,q4⟩:=(e2 ▸ hr.obj l2 _ rfl:OR X inj σ' w l2 (.arr (ρ.t 9) 1 g2 [.p (.int .i64 x)]));have hxs:xs=[Value.int .i64 x]:=qts (l:=[x]) q1;subst hxs;rcases q4 with⟨_,q4⟩|⟨vb,vc,vcur,k1,k2,k3,k4,k5,k6,k7⟩
 ·cases q4
 rcases hx5 with⟨j1,_⟩|⟨b2,c2,a2,j1,j2,j3,j4⟩
 ·rw [k1] at j1;cases j1
 rw [k1] at j1;cases j1;have hva:xv=.slice (some ⟨vb,0,none⟩) 1 vc:=by
  rcases j4 with⟨h,_⟩ | h
  ·exact absurd rfl h
  ·rw [j2,h];simp
 subst hva;have hvb:vb < w.heap.size:=(vw6.1 k3).1;have hx0:w.cell? ⟨vb,0,none⟩=some (.int .i64 x):=by
  have k8:vcur.toList[0]?=some (.int .i64 x):=by
   have:=congrArg (fun l=>l[0]?) k7;simpa [flat,Value.cells,vya] using this
  exact qna k3 k8
 obtain⟨cs,p1,p2,p3,p4⟩:=(e1 ▸ hr.obj l _ rfl:OR X inj σ' w l (.arr (ρ.t 9) 1 g ((zs.map (PV.int .i64)).map AV.p)));have hcs:cs=zs.map (Value.int .i64):=qts p1;subst hcs;have hcl:(zs.map (Value.int .i64)).length=n:=by simp [hn]
 have hfin:qpu (zs.map (Value.int .i64)) i (.int .i64 x)=(qpu zs i x).map (Value.int .i64):=(vi3 _ _ _ _).symm;have hlen':(qpu zs i x).length=n+1:=by rw [qsu (by omega),hn]
 by_cases hin:i=n
 · -- an append
  subst hin;have hrA:(qca P l (ρ.t 24) (.own l g 0 i) (.own l2 g2 0 1)).run σ'=some (.own l (g+1) 0 (i+1),some (l,.arr (ρ.t 9) 1 (g+1) (((qpu zs i x).map (PV.int .i64)).map AV.p))):=by
   have hins:((qpu zs i x).map (PV.int .i64)).map AV.p=(zs.map (PV.int .i64)).map AV.p++[.p (.int .i64 x)]:=by
    rw [qpu,List.take_of_length_le (by omega),List.drop_eq_nil_of_le (by omega)];simp
   rw [hins];have hz0':(qbf P (ρ.t 9)).isSome=true:=by rw [hz0];rfl
   simp [qca,LY.t24,qlc,L.run_bind',L.run_look,e1,e2,hc1,hn,hz0',hz1,hroom,qer,AV.cells,PV.cells,AV.known,PV.isTup]
  obtain⟨val,w',inj',t1,t2,t3,t4⟩:=qo2 (D:=D) (ty:=ρ.t 24) hr (k:=l) hs' hxv hrA;have done:∀c,(sv=.slice none 0 0∧i=0∧c=0∨∃a,sv=.slice (some a) i c)→i≤c→Calls P (ρ.f 22) [sv,.int .i64 i,.slice (some ⟨vb,0,none⟩) 1 vc].toArray w fun e w1=>e=.returned val∧w1=w' :=
   fun c h1 h2=>vo4 LY sv i c vb vc w w' val h1 t1 h2
  have key:Calls P (ρ.f 22) [sv,.int .i64 i,.slice (some ⟨vb,0,none⟩) 1 vc].toArray w fun e w1=>e=.returned val∧w1=w':=by
   rcases hs5 with⟨_,h,_,h0⟩|⟨b,c,a0,_,h,hle,h0⟩
   ·exact done 0 (.inl ⟨h,h0,rfl⟩) (by omega)
   ·rcases h0 with⟨h0,_⟩ | h0
    ·exact absurd rfl h0
    ·exact done c (.inr ⟨⟨b,0,none⟩,by rw [h,h0];simp⟩) (by omega)
  refine key.mono ?_;rintro e w1 ⟨rfl,rfl⟩;exact hnx _ _ _ t2 t3 t4
 ·have hlt:i < n:=by omega
  rcases hs5 with⟨_,_,_,h0⟩|⟨b,c,a0,m1,m2,m3,m4⟩
  ·omega
  have ha0:a0=some ⟨b,0,none⟩:=by
   rcases m4 with⟨h,_⟩ | h
   ·exact absurd rfl h
   ·simpa using h
  subst ha0;rcases p4 with⟨p4,_⟩|⟨b',c',cur,n1,n2,n3,n4,n5,n6,n7⟩
  ·rw [m1] at p4;cases p4
  rw [m1] at n1;cases n1;subst m2;have hbw:b < w.heap.size:=(vw6.1 n3).1;have hvb':vb≠b:=fun h=>by
   subst h;exact hll (hr.inj1 l l2 _ _ vb c vc e1 e2 rfl rfl m1 k1)
  rw [qqj] at n7;have hlen0:((zs.map (PV.int .i64)).map AV.p).length * 1=n:=by simp [hn]
  rw [hlen0] at n7;have hcur:∀j,j < n→cur[j]?=(zs.map (Value.int .i64))[j]?:=fun j hj=>by
   have:=congrArg (fun q=>q[j]?) n7;simp only [vya,if_pos hj,vw9] at this;exact this
  have hcell:∀j v,(zs.map (Value.int .i64))[j]?=some v→w.cell? ⟨b,j,none⟩=some v:=fun j v hv=>by
   have hj:j < n:=by
    have:=(vx6.1 hv).1;simp only [vye] at this;omega
   exact qna n3 (by rw [vw9,hcur j hj];exact hv)
  have hfrz:∀j,w.frozen? ⟨b,j,none⟩=false:=fun j=>by unfold World.frozen?;rw [n3];simp
  have hfrv:∀j,w.frozen? ⟨vb,j,none⟩=false:=fun j=>by unfold World.frozen?;rw [k3];simp
  have hmul:c * 1=c:=Nat.mul_one c;rw [hmul] at n6;have hnew:∀inj2 σ2 w2,ARs X inj2 σ2 w2 (((qpu zs i x).map (PV.int .i64)).map AV.p) ((qpu zs i x).map (Value.int .i64)):=fun inj2 σ2 w2=>qtt _
  have hnl:(((qpu zs i x).map (PV.int .i64)).map AV.p).length * 1=n+1:=by simp [hlen']
  have hnl':(((qpu zs i x).map (PV.int .i64)).map AV.p).length=n+1:=by simp [hlen']
  by_cases hcap:n+1≤c
  ·refine (vfe LY b n c i vb vc _ (.int .i64 x) w hlt hcap (by unfold maxLen at n5;omega) hvb' hcl hcell (fun j hj=>?_) (fun j _=>hfrz j) hx0 (qtz zs) rfl (ρ.t 9) (ρ.t 9) vcur.size cur.size ?_ ?_ (by omega) (hfrv 0) (hfrv _)).mono ?_
   ·have:cur.toList[j]?=some cur[j]:=by rw [vw9];exact v1r (by omega)
    rw [qna n3 this];rfl
   ·unfold World.shape?;rw [k3]
   ·unfold World.shape?;rw [n3]
   rintro e w1 ⟨rfl,rfl⟩;have hh1:w.drew.heap[b]?=some (.cells cur (ρ.t 9) (0,0)):=n3;have hh2:=qj2 ((zs.map (Value.int .i64)).drop i) (i+1) w.drew cur hh1;have hh3:=qj2 [Value.int .i64 x] i _ _ hh2;obtain⟨s1,s2,s3,s4,s5,s6⟩:=qj3 (b:=b) ((zs.map (Value.int .i64)).drop i) (i+1) w.drew;obtain⟨u1,u2,u3,u4,u5,u6⟩:=qj3 (b:=b) [Value.int .i64 x] i (w.drew.setCells b (i+1) ((zs.map (Value.int .i64)).drop i));have hup:=hr.update (D:=D) (w':=(w.drew.setCells b (i+1) ((zs.map (Value.int .i64)).drop i)).setCells b i [.int .i64 x]) (l:=l) (o:=.arr (ρ.t 9) 1 g ((zs.map (PV.int .i64)).map AV.p)) (o':=.arr (ρ.t 9) 1 (g+1) (((qpu zs i x).map (PV.int .i64)).map AV.p)) (x:=some (b,c)) e1
    (u1.trans s1) (u2.trans s2) (u3.trans s3) (fun _=>by rw [u4,s4];exact vzb _) (by rw [u5,s5];exact vza _)
    (fun a' _=>by rw [World.frozen?_setCells,World.frozen?_setCells];rfl)
    (fun k _ hk=>by
     have hkb:k≠b:=fun h=>by subst h;exact hk rfl c m1
     rw [u6 k hkb,s6 k hkb];rfl)
    (fun b1 c1 h=>by cases h;exact .inr ⟨rfl,c,m1⟩) ⟨by simp [AO.gen],fun _ he=>by simp [AO.gen] at he⟩
   obtain⟨hev,hhr⟩:=hup;have hown:vaf (fun q=>if q=l then some (b,c) else inj q) (qiq σ' l (.arr (ρ.t 9) 1 (g+1) (((qpu zs i x).map (PV.int .i64)).map AV.p))) l (g+1) 0 (n+1) (.slice (some ⟨b,0,none⟩) (n+1) c) :=
    qjx (qc0 _ _ _) (if_pos rfl) (by rw [hnl'];exact vza _) hcap
   refine hnx _ _ _ (hhr ⟨_,hnew _ _ _,q35 _,by rw [qqj];exact qtz _,.inr ⟨b,c,_,by simp,n2,hh3,by rw [hnl'];exact hcap,n5,by rw [qh5,qh5,n6,hmul],?_⟩⟩) hev hown;rw [hnl,qqj,←hfin];have:=(vff (cur:=cur) (cs:=zs.map (Value.int .i64)) (x:=.int .i64 x) (i:=i) (by rw [hcl];omega) (by rw [hcl];omega) (fun j hj=>hcur j (by omega))).1;rw [hcl] at this;exact this
  ·have hcn:c=n:=by omega
   subst hcn;obtain⟨i0,z,hi0,hz2,hzs,hzb,hzc⟩:=LY.i9;refine (vi2 LY b c i vb vc _ (.int .i64 x) z w hlt hbig hcl hcell hx0 (qtz zs) rfl ⟨i0,hi0,hz2⟩).mono ?_;rintro e w1 ⟨rfl,rfl⟩;obtain⟨G,hG⟩:∃G,G=grownCap w (c+1) c (ρ.t 9):=⟨_,rfl⟩;have hGn:c+1≤G:=by rw [hG];exact grownCap_ge w _ _ _
   have hGm:G≤maxLen:=by rw [hG];exact grownCap_le_maxLen w _ _ _ (by unfold maxLen;omega)
   rw [←hG];obtain⟨ROW,hROW⟩:∃ROW:Array Value,ROW=((zs.map (Value.int .i64)).take i).toArray++Builtin.zeroCells z.cells (c+1 - i)++Builtin.zeroCells z.cells (G - (c+1)):=⟨_,rfl⟩;rw [←hROW];have hRs:ROW.size=G:=by
    rw [hROW];simp only [vxc,size_zeroCells,hzc,vyx,vyi,v12,vye,hn];omega
   have hRc:∀j,j < i→ROW[j]?=(zs.map (Value.int .i64))[j]?:=fun j hj=>by
    rw [hROW,Array.append_assoc,Array.getElem?_append_left (by simp [hn];omega)];simp only [List.getElem?_toArray,vya,if_pos hj]
   have hal:(w.alloc (.cells ROW (ρ.t 9))).heap=w.heap.push (.cells ROW (ρ.t 9)):=rfl;have hh1:(w.alloc (.cells ROW (ρ.t 9))).drew.heap[w.heap.size]?=some (.cells ROW (ρ.t 9) (0,0)):=by
    show (w.alloc (.cells ROW (ρ.t 9))).heap[w.heap.size]?=_;rw [hal];simp
   have hh2:=qj2 [Value.int .i64 x] i _ _ hh1;have hh3:=qj2 ((zs.map (Value.int .i64)).drop i) (i+1) ((w.alloc (.cells ROW (ρ.t 9))).drew.setCells w.heap.size i [Value.int .i64 x]).drew _ hh2;obtain⟨s1,s2,s3,s4,s5,s6⟩:=qj3 (b:=w.heap.size) [Value.int .i64 x] i (w.alloc (.cells ROW (ρ.t 9))).drew;obtain⟨u1,u2,u3,u4,u5,u6⟩:=qj3 (b:=w.heap.size) ((zs.map (Value.int .i64)).drop i) (i+1) ((w.alloc (.cells ROW (ρ.t 9))).drew.setCells w.heap.size i [Value.int .i64 x]).drew;have hsz:w.heap.size≤(w.alloc (.cells ROW (ρ.t 9))).heap.size:=by rw [hal,Array.size_push];omega
   have hup:=hr.update (D:=D) (w':=((w.alloc (.cells ROW (ρ.t 9))).drew.setCells w.heap.size i [Value.int .i64 x]).drew.setCells w.heap.size (i+1) ((zs.map (Value.int .i64)).drop i)) (l:=l) (o:=.arr (ρ.t 9) 1 g ((zs.map (PV.int .i64)).map AV.p)) (o':=.arr (ρ.t 9) 1 (g+1) (((qpu zs i x).map (PV.int .i64)).map AV.p)) (x:=some (w.heap.size,G)) e1
    (u1.trans s1) (u2.trans s2) (u3.trans s3)
    (fun _=>by
     rw [u4];show w.drawn≤((w.alloc (.cells ROW (ρ.t 9))).drew.setCells w.heap.size i [Value.int .i64 x]).drawn+1;rw [s4];show w.drawn≤w.drawn+1+1;omega)
    (by
     rw [u5];show w.heap.size≤((w.alloc (.cells ROW (ρ.t 9))).drew.setCells w.heap.size i [Value.int .i64 x]).heap.size;rw [s5];exact hsz)
    (fun a' _=>by
     rw [World.frozen?_setCells];show ((w.alloc (.cells ROW (ρ.t 9))).drew.setCells w.heap.size i [Value.int .i64 x]).frozen? a'=_;rw [World.frozen?_setCells];exact qnd w ROW (ρ.t 9) a')
    (fun k hk0 hk=>by
     have hkb:k≠w.heap.size:=by omega
     rw [u6 k hkb];show ((w.alloc (.cells ROW (ρ.t 9))).drew.setCells w.heap.size i [Value.int .i64 x]).heap[k]?=_;rw [s6 k hkb];show (w.alloc (.cells ROW (ρ.t 9))).heap[k]?=_;rw [hal,Array.getElem?_push,if_neg hkb])
    (fun b1 c1 h=>by cases h;exact .inl (vza _)) ⟨by simp [AO.gen],fun _ he=>by simp [AO.gen] at he⟩
   obtain⟨hev,hhr⟩:=hup;have hown:vaf (fun q=>if q=l then some (w.heap.size,G) else inj q) (qiq σ' l (.arr (ρ.t 9) 1 (g+1) (((qpu zs i x).map (PV.int .i64)).map AV.p))) l (g+1) 0 (c+1) (.slice (some ⟨w.heap.size,0,none⟩) (c+1) G) :=
    qjx (qc0 _ _ _) (if_pos rfl) (by rw [hnl'];exact vza _) hGn
   refine hnx _ _ _ (hhr ⟨_,hnew _ _ _,q35 _,by rw [qqj];exact qtz _,.inr ⟨w.heap.size,G,_,by simp,fun hX=>by have:=hr.xlt _ hX;omega,hh3,by rw [hnl'];exact hGn,hGm,by rw [qh5,qh5,hRs,Nat.mul_one],?_⟩⟩) hev hown;rw [hnl,qqj,←hfin];have:=(vff (cur:=ROW) (cs:=zs.map (Value.int .i64)) (x:=.int .i64 x) (i:=i) (by rw [hcl];omega) (by rw [hcl];omega) hRc).2;rw [hcl] at this;exact this
end Go.Ab
namespace Go.Ab
open Go Go.Shelf
structure InsK (P:Program) (k e:Nat):Prop where
 lay:∃ρ:Ren,InsLay P ρ∧ρ.f 22=k∧ρ.t 9=e
 body:HasBody P k
 zero:qbf P e=some (.p (.int .i64 0))
 zlen:qca.zeroLen P e=1
 cells:P.cellsOf e=1
 bytes:P.bytesOf e=8
variable {C:Cx} {st:St}
theorem yI {ops:Array Oper} {K:List Evt→St→Prop} {o:Oper} {f:Operand} {args:Array Operand} {ats:Array TypeId} {rest:List Oper} {acc:List Evt} {k e l g l2 g2:Nat}
  (S:InsK C.P k e) (zs:List Int) (i x:Int) (h0:0≤i) (h1:i≤((zs.length:Nat):Int)) (h2:zs.length≤1000000000)
  (h:DGo C ops rest ⟨qdh st.env o.dst (.own l (g+1) 0 (qpu zs i.toNat x).length),qod st.heap l (.arr e 1 (g+1) (((qpu zs i.toNat x).map (PV.int .i64)).map AV.p))⟩
   (⟨.own l (g+1) 0 (qpu zs i.toNat x).length,some (l,.arr e 1 (g+1) (((qpu zs i.toNat x).map (PV.int .i64)).map AV.p)),[l,l2]⟩ :: acc) K)
  (ho:o.op=.call ⟨.value f,args,ats⟩:=by rfl) (hgd:qau ops st.env o=some true:=by first | exact qaw rfl | exact qbh rfl rfl (by exact rfl) (by exact rfl)) (hd:qbg C.N o=true:=by rfl)
  (hc:qbq st.env f args.toList=some (k,[.own l g 0 zs.length,.p (.int .i64 i),.own l2 g2 0 1]):=by simp only [go_sem,seval, *];all_goals first | exact rfl | ((repeat' apply And.intro) <;> exact rfl))
  (hl:qa0 st.heap l=.arr e 1 g ((zs.map (PV.int .i64)).map AV.p):=by simp only [go_sem,seval, *];all_goals exact rfl)
  (hl2:qa0 st.heap l2=.arr e 1 g2 [.p (.int .i64 x)]:=by simp only [go_sem,seval, *];all_goals exact rfl)
  (hll:l≠l2:=by decide):DGo C ops (o :: rest) st acc K:=by
 obtain⟨ρ,LY,rfl,rfl⟩:=S.lay;obtain⟨n,rfl⟩:=v1v h0;have hn:n≤zs.length:=by omega
 have hlen:(qpu zs ((n:Int)).toNat x).length=zs.length+1:=by rw [v1w];exact qsu hn
 rw [hlen] at h;rw [v1w] at h;refine DGo.ext (vby LY S.body S.zero S.zlen S.cells ho ?_ hl hl2 rfl hll hn ?_ (by omega)) hgd hd rfl ?_
 ·rw [qls];exact hc
 ·simp only [qld,S.bytes,decide_eq_true_eq];omega
 ·exact h
end Go.Ab
namespace Go.Ab
open Go
section
theorem vud (x y:BitVec 16):@HOr.hOr (BitVec 16) (BitVec 16) (BitVec 16) (@instHOrOfOrOp (BitVec v0a.bits) (@BitVec.instOrOp v0a.bits)) x y=x ||| y:=rfl
theorem vo5 (x y:BitVec 16):@HAnd.hAnd (BitVec 16) (BitVec 16) (BitVec 16) (@instHAndOfAndOp (BitVec v0a.bits) (@BitVec.instAndOp v0a.bits)) x y=x &&& y:=rfl
attribute [go_sem] vud vo5
variable {C:Cx} {Q:Exit→St→Prop} {st:St}
def qt0:List AV→Option (List PV)
 | []=>some []
 | .p x :: r=>(qt0 r).map (x :: ·)
 | .nils :: r=>(qt0 r).map (PV.slc [] :: ·)
 | _ :: _=>none
theorem qsv {X:Nat→Prop} {inj:Inj} {σ:Nat→AO} {w:World}:∀{avs:List AV} {ps:List PV} {vs:List Value},qt0 avs=some ps→ARs X inj σ w avs vs→PRs (fun b=>X b∨F inj σ b) w ps vs
 | [],ps,vs,h,ha=>by
  simp only [qt0,vzs] at h;subst h;simpa [ARs,PRs] using ha
 | .p x :: r,ps,vs,h,ha=>by
  simp only [qt0,vzq] at h;obtain⟨qs,h1,rfl⟩:=h;obtain⟨v,u,rfl,a1,a2⟩:=ha;exact⟨v,u,rfl,a1,qsv h1 a2⟩
 | .nils :: r,ps,vs,h,ha=>by
  simp only [qt0,vzq] at h;obtain⟨qs,h1,rfl⟩:=h;obtain⟨v,u,rfl,a1,a2⟩:=ha;simp only [AR] at a1;subst a1;exact⟨_,u,rfl,⟨none,0,[],rfl,vza _,rfl,.inl rfl⟩,qsv h1 a2⟩
 | .any :: _,_,_,h,_=>by simp [qt0] at h
 | .loc .. :: _,_,_,h,_=>by simp [qt0] at h
 | .own .. :: _,_,_,h,_=>by simp [qt0] at h
 | .mapo .. :: _,_,_,h,_=>by simp [qt0] at h
 | .func .. :: _,_,_,h,_=>by simp [qt0] at h
 | .agg _ :: _,_,_,h,_=>by simp [qt0] at h
 | .tup _ :: _,_,_,h,_=>by simp [qt0] at h
theorem zcN {ops:Array Oper} {o:Oper} {rest:List Oper} {f:Operand} {args:Array Operand} {ats:Array TypeId} {k:FuncId} {avs:List AV} {pargs:List PV} {r:PV} {st':St}
  (hp:Con C.D C.P k pargs r) (h:AL C ops rest Q st')
  (ho:o.op=.call ⟨.value f,args,ats⟩:=by rfl) (hg:qau ops st.env o=some true:=by first | exact qaw rfl | exact qbh rfl rfl (by exact rfl) (by exact rfl)) (hd:qbg C.N o=true:=by rfl)
  (hc:qbq st.env f args.toList=some (k,avs):=by simp only [go_sem,seval, *];exact rfl) (hv:qt0 avs=some pargs:=by rfl)
  (hs:(⟨qdh st.env o.dst (.p r),st.heap⟩:St)=st':=by rfl):AL C ops (o :: rest) Q st:=by
 subst hs;intro inj a w hs;simp only [wpList,qa9 hs hg,if_true];refine .inl ?_;obtain⟨vs,hrun,hars⟩:=qjy hs ho hp.1 hc;unfold Oper.wp;rw [hrun];simp only [Oper.upon];refine (hp.2 (fun b=>C.X b∨F inj st.sig b) w vs (fun b hb=>hb.elim (hs.hr.xlt b) fun hf=>(hs.hr.flt hf).1) (qmb hs.ev) (qsv hv hars)).mono ?_;rintro e w' ⟨v,rfl,h1,h2⟩;exact h inj _ _ (hs.put (u:=none) hd (hs.hr.fr h2) h2.ev h1)
end
section
set_option linter.constructorNameAsVariable false
inductive Dst where
 | no
 | at (p:Ps)
def qlw:Option Tmp→Dst
 | some t=>.at (pth t)
 | none=>.no
inductive IOp where
 | f (d:Dst) (g:G)
 | call (d:Dst) (fn:Opd) (args:List Opd)
 | gd (j:Ps) (want:Bool) (d:Dst) (o:IOp)
 | cpy (tA:TypeId) (x y:Opd) (d1 d2 d3:Ps)
 | bad
def vue (P:Program) (t:TypeId) (parts:Array (Nat×Operand)) (B:Nat) (ρ:Operand→AV):L (AV×Upd):=qbp (.ofOpt (qh0 P t (parts.toList.map fun p=>(p.1,ρ p.2))))
def vuf (P:Program) (t:TypeId) (x:Operand) (lo hi:Option Operand) (B:Nat) (ρ:Operand→AV):L (AV×Upd):=match P.underlying t,qr7 (lo.map ρ),qr7 (hi.map ρ) with
  | some .string,some l,some h=>(match ρ x with | .p (.str _)=>qbp (qnb (ρ x) l h) | _=>.fail)
  | some (.slice e),some l,some h=>(match ρ x with | .p (.str _)=>.fail | _=>if qn7 P e=true then qbp (aop.sliceT P e (ρ x) l h) else .fail)
  | _,_,_=>.fail
def vug (P:Program) (t:TypeId) (x ix:Operand) (B:Nat) (ρ:Operand→AV):L (AV×Upd):=match qr6 (ρ ix) with
  | some i=>qbp (.ofOpt (qzz P t (ρ x) i))
  | none=>.fail
def vfh (P:Program) (o:Oper):IOp:=match o.op with
 | .move x=>.f (qlw o.dst) (vbs P o (opd x))
 | .assign x=>.f (qlw o.dst) (vbs P o (opd x))
 | .pick c a b=>.f (qlw o.dst) (vt4 P o (opd c) (opd a) (opd b))
 | .alloc t=>(match qbf P t with
  | some z=>bif v1f z.cells.length (P.cellsOf t) then .f (qlw o.dst) (vly P o t z) else .bad
  | none=>.bad)
 | .box t x=>.f (qlw o.dst) (gBox P o t (opd x))
 | .build t parts=>.f (qlw o.dst) (gL P o (vue P t parts))
 | .load t x=>(match qap P t with
  | some b=>.f (qlw o.dst) (vt6 P o (P.cellsOf t) b (opd x))
  | none=>.bad)
 | .store t x y=>(match qap P t with
  | some b=>.f (qlw o.dst) (veu P o (P.cellsOf t) (opd x) (opd y))
  | none=>.bad)
 | .binOp op t x y _=>.f (qlw o.dst) (gBin P o op t (q3z P t) (qoh P t) (vt7 P op t) (opd x) (opd y))
 | .convert s d x=>(match P.underlying s,P.underlying d with
  | some (.int _),some .string=>.f (qlw o.dst) (gChr (opd x))
  | _,_=>.f (qlw o.dst) (gL P o fun B ρ=>qbp (qz0 P s d (ρ x))))
 | .slice t x lo hi none=>.f (qlw o.dst) (gL P o (vuf P t x lo hi))
 | .fieldAddr s x fd=>(match qar P s fd with
  | some off=>.f (qlw o.dst) (vl1 P o off (opd x))
  | none=>.bad)
 | .indexAddr t x ix=>(match P.underlying t with
  | some (.slice e)=>bif qn7 P e then .f (qlw o.dst) (gIdx P o t (P.cellsOf e) true (opd x) (opd ix)) else .bad
  | _=>.f (qlw o.dst) (gIdx P o t 0 false (opd x) (opd ix)))
 | .index t x ix=>.f (qlw o.dst) (gL P o (vug P t x ix))
 | .lookup t m k c=>.f (qlw o.dst) (gL P o fun B ρ=>qbp (qu2 P t (ρ m) (ρ k) c))
 | .mapUpdate t m k v=>.f (qlw o.dst) (gL P o fun B ρ=>qp5 P t (ρ m) (ρ k) (ρ v))
 | .nilCheck x=>.f (qlw o.dst) (gNil P o (opd x))
 | .extract x i=>.f (qlw o.dst) (gExt P o i (opd x))
 | .call ⟨.value fn,args,_⟩=>.call (qlw o.dst) (opd fn) (args.toList.map opd)
 | .call ⟨.builtin .len,⟨[x]⟩,⟨[t]⟩⟩=>bif (P.underlying t).isSome then .f (qlw o.dst) (gLen P o t (qoh P t) (opd x)) else .bad
 | .call ⟨.builtin .cap,⟨[x]⟩,⟨[t]⟩⟩=>bif qoh P t then .f (qlw o.dst) (gCap (opd x)) else .bad
 | .call ⟨.builtin .append,⟨[s,x]⟩,⟨[t,t2]⟩⟩=>bif v1f t t2 then .f (qlw o.dst) (gApp P o t (opd s) (opd x)) else (match P.underlying t,P.underlying t2 with
   | some (.slice e),some (.int _)=>(match qbf P e with
    | some z=>bif qer (P.cellsOf e) z && (v17 0 (P.cellsOf e) && v1f (qca.zeroLen P e) (P.cellsOf e)) then .f (qlw o.dst) (vev P t e (P.cellsOf e) z (opd s) (opd x)) else .bad
    | none=>.bad)
   | _,_=>.bad)
 | _=>.f (qlw o.dst) (gL P o fun B ρ=>aop P B ρ o)
def qsw (P:Program) (N:Nat) (ops:Array Oper) (o:Oper):IOp:=bif qbg N o then (match o.guard with
 | none=>vfh P o
 | some (j,want)=>(match (ops[j]?).bind (·.dst) with
  | some d=>.gd (pth d) want (qlw o.dst) (vfh P o)
  | none=>.bad)) else .bad
def q36 (P:Program) (N:Nat) (o1 o2 o3:Oper):Option IOp:=match o1.op,o2.op,o3.op,o1.dst,o2.dst,o3.dst with
 | .slice tA x none none none,.move y,.call ⟨.builtin .copy,⟨[.tmp a,.tmp b]⟩,⟨[dT,sT]⟩⟩,some d1,some d2,some d3=>(match P.underlying tA,P.underlying dT with
  | some (.array 3 te),some (.slice te')=>bif v1f te te' && (qn7 P te && (v1f (P.cellsOf te) 1 && (v1f a d1 && (v1f b d2 && ((!v1f d1 d2) && (o1.guard.isNone && (o2.guard.isNone && (o3.guard.isNone && (qbg N o1 && (qbg N o2 && (qbg N o3 &&
    (match y with | .tmp t=>!v1f t d1 | _=>true)))))))))))) then some (.cpy tA (opd x) (opd y) (pth d1) (pth d2) (pth d3)) else none
  | _,_=>none)
 | _,_,_,_,_,_=>none
def vfi (P:Program) (N:Nat) (o:Oper) (i1:IOp) (r:List IOp) (rest:List Oper):List IOp:=match rest with
 | o2 :: o3 :: _=>(match q36 P N o o2 o3 with
  | some i=>i :: r.drop 2
  | none=>i1 :: r)
 | _=>i1 :: r
def q1p (P:Program) (N:Nat) (ops:Array Oper):List Oper→List IOp
 | []=>[]
 | o :: rest=>vfi P N o (qsw P N ops o) (q1p P N ops rest) rest
inductive EZ where
 | bad
 | st (e:Ty AV) (h:Ty AO) (f:Nat)
inductive CR where
 | bad
 | r (x:Exit) (e:Ty AV) (h:Ty AO) (f:Nat)
inductive KR where
 | bad
 | r (v:AV) (h:Ty AO) (f:Nat)
abbrev qk7:=AV→List AV→Ty AO→Nat→KR
def qu0 (e:Ty AV) (d:Dst) (x:AV):Ty AV:=@Dst.rec (fun _=>Ty AV) e (fun p=>Ty.set .any x e p) d
abbrev KE:=Ty AV→Ty AO→Nat→EZ
def onRy (d:Dst) (e:Ty AV) (h:Ty AO) (f:Nat) (k:KE) (r:Ry):EZ :=
 @Ry.rec (fun _=>EZ) .bad (fun x _=>k (qu0 e d x) h f) (fun x l o _=>bif v17 l f then k (qu0 e d x) (q1n h l o) f else .bad) (fun x o _=>k (qu0 e d x) (q1n h f o) (v2e f)) r
def onK (d:Dst) (e:Ty AV) (k:KE) (r:KR):EZ:=@KR.rec (fun _=>EZ) .bad (fun x h f=>k (qu0 e d x) h f) r
def vo6 (want:Bool) (d:Dst) (e:Ty AV) (h:Ty AO) (f:Nat) (k:KE) (go:EZ) (v:AV):EZ:=match v with
 | .p (.bool b)=>bif b == want then go else k (qu0 e d (.p (.tup []))) h f
 | .p (.tup [])=>k (qu0 e d (.p (.tup []))) h f
 | _=>.bad
def q88:List AV→Option (List Int)
 | []=>some []
 | .p (.int .i64 n) :: r=>(match q88 r with
  | some l=>some (n :: l)
  | none=>none)
 | _=>none
def q68 (tA:TypeId) (x y:AV) (d1 d2 d3:Ps) (e:Ty AV) (h:Ty AO) (f:Nat) (k:KE):EZ:=match x with
 | .loc l g 0 0=>(match ho h l,(qlc y).run (ho h) with
  | .arr t 3 g' [.p (.agg [.int .i64 c0,.int .i64 c1,.int .i64 c2])],some els=>(match q88 els with
   | some L=>bif v1f t tA && (v1f g g' && v17 l f) then
     k (Ty.set .any .any (Ty.set .any y (Ty.set .any .any e d1) d2) d3) (q1n h l (.arr tA 3 g [.p (.agg [.int .i64 (L.getD 0 c0),.int .i64 (L.getD 1 c1),.int .i64 (L.getD 2 c2)])])) f else .bad
   | none=>.bad)
  | _,_=>.bad)
 | _=>.bad
def q1q (call:qk7) (o:IOp):KE→KE:=fun k e h f=>@IOp.rec (fun _=>EZ)
 (fun d g=>onRy d e h f k (g e h f))
 (fun d fn args=>onK d e k (call (vo e fn) (args.map (vo e)) h f))
 (fun j want d _ ih=>vo6 want d e h f k ih (Ty.get .any e j))
 (fun tA x y d1 d2 d3=>q68 tA (vo e x) (vo e y) d1 d2 d3 e h f k)
 .bad o
def q89 (call:qk7) (ops:List IOp):KE:=@List.rec IOp (fun _=>KE) .st (fun o _ ih=>q1q call o ih) ops
structure EvW where
 ws:List (Nat×AO)
 rs:List Nat
inductive DR where
 | bad
 | st (e:Ty AV) (h:Ty AO) (f:Nat) (es:List EvW)
def mkH (h:Ty AO):List Nat→Ty AO
 | []=>.e
 | l :: r=>q1n (mkH h r) l (ho h l)
def q37 (h:Ty AO):List (Nat×AO)→Ty AO
 | []=>h
 | (l,o) :: r=>q1n (q37 h r) l o
def qm3 (h h':Ty AO) (S:List Nat):List Nat→List (Nat×AO)
 | []=>[]
 | l :: r=>bif qxs l S && AO.same (ho h l) (ho h' l) then qm3 h h' S r else (l,ho h' l) :: qm3 h h' S r
def q38 (S:List Nat):List Nat→List Nat
 | []=>[]
 | l :: r=>bif qxs l S then q38 S r else l :: q38 S r
def qx2 (f:Nat):List Nat→Bool
 | []=>true
 | l :: r=>v16 f l && qx2 f r
abbrev KD:=Ty AV→Ty AO→Nat→DR
def qsx (x:EvW):DR→DR
 | .bad=>.bad
 | .st e h f es=>.st e h f (x :: es)
def onRD (d:Dst) (e:Ty AV) (h:Ty AO) (f:Nat) (k:KD) (r:Ry):DR :=
 @Ry.rec (fun _=>DR) .bad (fun x rs=>qsx ⟨[],rs⟩ (k (qu0 e d x) h f)) (fun x l o rs=>bif v17 l f then qsx ⟨[(l,o)],rs⟩ (k (qu0 e d x) (q1n h l o) f) else .bad) (fun x o rs=>qsx ⟨[(f,o)],rs⟩ (k (qu0 e d x) (q1n h f o) (v2e f))) r
def q69 (d:Dst) (e:Ty AV) (h:Ty AO) (f:Nat) (k:KD) (S:List Nat) (x:AV) (h':Ty AO) (f':Nat):Option (List Nat)→DR
 | some S'=>bif qx2 f (q38 S S') then qsx ⟨qm3 h h' S S',S++q38 S S'⟩ (k (qu0 e d x) (q37 h (qm3 h h' S S')) f') else .bad
 | none=>.bad
def vi4 (call:qk7) (d:Dst) (v:AV) (avs:List AV) (e:Ty AV) (h:Ty AO) (f:Nat) (k:KD):Option (List Nat)→DR
 | some S=>@KR.rec (fun _=>DR) .bad (fun x h' f'=>q69 d e h f k S x h' f' (qm2 (ho h') 5000 (qpt x++S) [])) (call v avs (mkH h S) f)
 | none=>.bad
def vo7 (want:Bool) (d:Dst) (e:Ty AV) (h:Ty AO) (f:Nat) (k:KD) (go:DR) (v:AV):DR:=match v with
 | .p (.bool b)=>bif b == want then go else qsx ⟨[],[]⟩ (k (qu0 e d (.p (.tup []))) h f)
 | .p (.tup [])=>qsx ⟨[],[]⟩ (k (qu0 e d (.p (.tup []))) h f)
 | _=>.bad
def q39 (call:qk7) (o:IOp):KD→KD:=fun k e h f=>@IOp.rec (fun _=>DR)
 (fun d g=>onRD d e h f k (g e h f))
 (fun d fn args=>vi4 call d (vo e fn) (args.map (vo e)) e h f k (qm2 (ho h) 5000 (qpt (vo e fn)++qh4 (args.map (vo e))) []))
 (fun j want d _ ih=>vo7 want d e h f k ih (Ty.get .any e j))
 (fun tA x y d1 d2 d3=>.bad)
 .bad o
def vi5 (call:qk7) (ops:List IOp):KD:=@List.rec IOp (fun _=>KD) (fun e h f=>.st e h f []) (fun o _ ih=>q39 call o ih) ops
def djK:List (Nat×AO)→List Nat→Bool
 | [],_=>true
 | (l,_) :: r,s=>(!qxs l s) && djK r s
def evW (x y:EvW):Bool:=match x.ws,y.ws with
 | [],[]=>true
 | _,_=>djK x.ws y.rs && (djK x.ws (y.ws.map (·.1)) && djK y.ws x.rs)
def qt1 (es:List EvW):List (Nat×Nat)→Bool
 | []=>true
 | (i,j) :: r=>(match nth es i,nth es j with
  | some x,some y=>evW x y
  | _,_=>true) && qt1 es r
def vo8 (ops:Array Oper):Nat→Nat→Nat
 | 0,n=>n
 | k+1,n=>bif qxy ops n then n else vo8 ops k (v2e n)
def vfj (ops:Array Oper) (T:Nat):List (Nat×Nat):=(vyu T).flatMap fun j=>(vyu j).filterMap fun i=>bif qzc (q8p ops ops.size) j i then none else some (i,j)
inductive IC where
 | skip | ret
 | exit (id:Nat)
 | seq (a b:Code)
 | cond (c:Opd) (a b:Code)
 | block (id:Nat) (b:Code)
 | loop (b:Code)
 | reg (l:List IOp)
 | drw (pre:List IOp) (ps:List (Nat×Nat)) (post:List IOp)
 | bad
def vo9 (P:Program) (N:Nat) (l:Array Oper) (T:Nat):IC:=bif qh2 l && (qxy l T && v16 T l.size) then .drw ((l.toList.take T).map (qsw P N l)) (vfj l T) ((l.toList.drop T).map (qsw P N l)) else .bad
def vuh (P:Program) (N:Nat):Code→IC
 | .skip=>.skip
 | .ret=>.ret
 | .exit id=>.exit id
 | .seq a b=>.seq a b
 | .cond c a b=>.cond (opd c) a b
 | .block id b=>.block id b
 | .loop b=>.loop b
 | .region _ l d=>bif d then vo9 P N l (vo8 l l.size 0) else .reg (q1p P N l l.toList)
 | _=>.bad
abbrev qo5:=Nat→Code→Ty AV→Ty AO→Nat→CR
def vpa (k:Ty AV→Ty AO→Nat→CR) (r:CR):CR:=@CR.rec (fun _=>CR) .bad (fun x e h f=>@Exit.rec (fun _=>CR) (k e h f) (fun i=>.r (.exit i) e h f) (fun i=>.r (.goto i) e h f) (.r .ret e h f) (fun c=>.r (.panic c) e h f) (.r .outgrown e h f) x) r
def vfk (id:Nat) (r:CR):CR:=@CR.rec (fun _=>CR) .bad (fun x e h f=>@Exit.rec (fun _=>CR) (.r .normal e h f) (fun i=>bif v1f i id then .r .normal e h f else .r (.exit i) e h f) (fun i=>.r (.goto i) e h f) (.r .ret e h f) (fun c=>.r (.panic c) e h f) (.r .outgrown e h f) x) r
def qx3 (v:AV) (a b:CR):CR:=match v with
 | .p (.bool t)=>bif t then a else b
 | _=>.bad
def vfl (r:EZ):CR:=@EZ.rec (fun _=>CR) .bad (fun e h f=>.r .normal e h f) r
def vpb (call:qk7) (ps:List (Nat×Nat)) (post:List IOp) (r:DR):CR:=@DR.rec (fun _=>CR) .bad (fun e h f es=>bif qt1 es ps then vfl (q89 call post e h f) else .bad) r
def vi6 (P:Program) (e:Ty AV) (h:Ty AO):ResultVar→Option AV
 | .tmp t=>some (eo e t)
 | .cell a t=>(qu1 P t (eo e a)).run (ho h)
def vi7 (P:Program) (e:Ty AV) (h:Ty AO):List ResultVar→Option (List AV)
 | []=>some []
 | x :: r=>match vi6 P e h x,vi7 P e h r with
  | some v,some vs=>some (v :: vs)
  | _,_=>none
def rsK (P:Program) (e:Ty AV) (h:Ty AO) (f:Nat) (rs:List ResultVar):KR:=match vi7 P e h rs with
 | some [v]=>.r v h f
 | some vs=>.r (q5u vs) h f
 | none=>.bad
def vpc (P:Program) (rs:List ResultVar) (r:CR):KR:=@CR.rec (fun _=>KR) .bad (fun x e h f=>@Exit.rec (fun _=>KR) (rsK P e h f rs) (fun i=>.bad) (fun i=>.bad) (rsK P e h f rs) (fun c=>.bad) .bad x) r
def qv8:Nat→List AV→Ty AV→Ty AV
 | _,[],t=>t
 | k,x :: r,t=>qv8 (k+1) r (Ty.set .any x t (pth k))
inductive FR where
 | bad
 | r (N:Nat) (c:Code) (rs:List ResultVar)
def vi8 (P:Program) (k:FuncId):FR:=match P.funcs[k]? with
 | some fn=>(match fn.body with
  | some c=>bif v16 fn.ntmps 1000 then .r fn.ntmps c fn.results.toList else .bad
  | none=>.bad)
 | none=>.bad
abbrev Ext:=FuncId→Option (List PV→Option PV)
def qx4 (P:Program) (ext:Ext) (ih:qo5) (k:FuncId) (avs:List AV) (h:Ty AO) (f:Nat):KR:=match ext k with
 | some t=>(match qoz avs with
  | some ps=>(match t ps with
   | some r=>.r (.p r) h f
   | none=>.bad)
  | none=>.bad)
 | none=>@FR.rec (fun _=>KR) .bad (fun N c rs=>bif v16 avs.length N && v16 1000 f then vpc P rs (ih N c (qv8 0 avs .e) h f) else .bad) (vi8 P k)
def qt2 (P:Program) (ext:Ext) (ih:qo5):qk7:=fun v avs h f=>match v with
 | .p (.func (.func k) cs)=>qx4 P ext ih k (avs++cs.map .p) h f
 | .func (.func k) cs=>qx4 P ext ih k (avs++cs) h f
 | _=>.bad
def vbz (P:Program) (ext:Ext) (ih:qo5):qo5:=fun N c e h f=>@IC.rec (fun _=>CR)
 (.r .normal e h f) (.r .ret e h f) (fun id=>.r (.exit id) e h f)
 (fun a b=>vpa (fun e h f=>ih N b e h f) (ih N a e h f))
 (fun x a b=>qx3 (vo e x) (ih N a e h f) (ih N b e h f))
 (fun id b=>vfk id (ih N b e h f))
 (fun b=>vpa (fun e h f=>ih N (.loop b) e h f) (ih N b e h f))
 (fun l=>vfl (q89 (qt2 P ext ih) l e h f))
 (fun pre ps post=>vpb (qt2 P ext ih) ps post (vi5 (qt2 P ext ih) pre e h f))
 .bad (vuh P N c)
def qsy (P:Program) (ext:Ext) (n:Nat):qo5:=@Nat.rec (fun _=>qo5) (fun _ _ _ _ _=>.bad) (fun _ ih=>vbz P ext ih) n
end
section
set_option linter.constructorNameAsVariable false
def q9a (P:Program):Prop:=∀(k:FuncId) (fn:Func),P.funcs[k]?=some fn→fn.body.isSome=true→HasBody P k
theorem q4a {P : Program} (h : (P.funcs.all fun fn => !(fn.name == "runtime.NumGoroutine")) = true) : q9a P := by
 intro k fn hf hb args w;have h1 : (fn.name == "runtime.NumGoroutine") = false := by
  have:=Array.all_eq_true.1 h k (vw6.1 hf).1;rw [(vw6.1 hf).2] at this;simpa using this
 have h2:fn.body.isNone=false:=by cases hx:fn.body <;> simp_all
 unfold callFunc;have hp:Sem.run P program w=.ok P w:=rfl;simp only [vzw,hp,vzu,hf,h1,h2,vxj,if_false,vzx]
def q7a (P:Program) (o:Oper):IOp→Prop
 | .bad=>True
 | .f d g=>d=qlw o.dst∧GOk P o g
 | .call d fn args=>d=qlw o.dst∧∃f a ats,o.op=.call ⟨.value f,a,ats⟩∧fn=opd f∧args=a.toList.map opd
 | _=>False
def IOk (P:Program) (N:Nat) (ops:Array Oper) (o:Oper):IOp→Prop
 | .bad=>True
 | .gd j want d i=>qbg N o=true∧d=qlw o.dst∧(∃k t,o.guard=some (k,want)∧(ops[k]?).bind (·.dst)=some t∧j=pth t)∧q7a P o i
 | i=>qbg N o=true∧o.guard=none∧q7a P o i
theorem q7a.f {P:Program} {o:Oper} {g:G} (h:GOk P o g):q7a P o (.f (qlw o.dst) g):=⟨rfl,h⟩
theorem vi9 (P:Program) (o:Oper):q7a P o (vfh P o):=by
 obtain⟨dst,op,ty,pos,af,gd⟩:=o;unfold vfh;split
 all_goals (rename_i heq;simp only at heq)
 ·subst heq;exact .f vis
 ·subst heq;exact .f vbt
 ·subst heq;exact .f vit
 ·rename_i t;subst heq;split
  ·rename_i z hz;rw [qy1];by_cases hc:z.cells.length=P.cellsOf t
   ·simp only [hc,decide_true,cond_true];exact .f (vex hz hc)
   ·simp only [hc,decide_false,cond_false];trivial
  ·trivial
 ·subst heq;exact .f voo
 ·subst heq;exact .f (q62 fun B ρ=>rfl)
 ·subst heq;split
  ·rename_i b hb;exact .f (viw hb)
  ·trivial
 ·subst heq;split
  ·rename_i b hb;exact .f (vey hb)
  ·trivial
 ·subst heq;exact .f vop
 ·subst heq;split
  ·rename_i k h1 h2;exact .f (vou h1 h2)
  ·exact .f (q62 fun B ρ=>rfl)
 ·subst heq;exact .f (q62 fun B ρ=>rfl)
 ·subst heq;split
  ·rename_i off hoff;exact .f (vez hoff)
  ·trivial
 ·subst heq;split
  ·rename_i e he;cases hok:qn7 P e with
   | false=>trivial
   | true=>exact .f (ve0 fun _=>⟨e,he,rfl,hok⟩)
  ·exact .f (ve0 fun h=>by cases h)
 ·subst heq;exact .f (q62 fun B ρ=>rfl)
 ·subst heq;exact .f (q62 fun B ρ=>rfl)
 ·subst heq;exact .f (q62 fun B ρ=>rfl)
 ·subst heq;exact .f vos
 ·subst heq;exact .f vor
 ·subst heq;exact⟨rfl,_,_,_,rfl,rfl,rfl⟩
 ·subst heq;cases hs:(P.underlying _).isSome with
  | false=>trivial
  | true=>exact .f (voq (fun h=>h) hs)
 ·subst heq;cases hs:qoh P _ with
  | false=>trivial
  | true=>exact .f (vot hs)
 ·subst heq;rename_i s x t t2;rw [qy1];by_cases ht:t=t2
  ·subst ht;simp only [decide_true,cond_true];exact .f vov
  ·simp only [ht,decide_false,cond_false];split
   ·rename_i e kn h1 h2;split
    ·rename_i z hz;cases hc:qer (P.cellsOf e) z && (v17 0 (P.cellsOf e) && v1f (qca.zeroLen P e) (P.cellsOf e)) with
     | false=>trivial
     | true =>
      simp only [vxh,qy1,decide_eq_true_eq] at hc;exact .f (ve1 h1 h2 hz hc.1 (vhf.1 hc.2.1) hc.2.2)
    ·trivial
   ·trivial
 ·exact .f (q62 fun B ρ=>rfl)
theorem qws (P:Program) (N:Nat) (ops:Array Oper) (o:Oper):IOk P N ops o (qsw P N ops o):=by
 unfold qsw;cases hd:qbg N o with
 | false=>trivial
 | true =>
  rw [cond_true];have h:=vi9 P o;split
  ·rename_i hg;cases hc:vfh P o with
   | bad=>trivial
   | f d g=>rw [hc] at h;exact⟨hd,hg,h⟩
   | call d fn args=>rw [hc] at h;exact⟨hd,hg,h⟩
   | gd j want d i=>rw [hc] at h;exact h.elim
   | cpy tA x y d1 d2 d3=>rw [hc] at h;exact h.elim
  ·rename_i j want hg;split
   ·rename_i t ht;exact⟨hd,rfl,⟨j,t,hg,ht,rfl⟩,h⟩
   ·trivial
end
section
set_option linter.constructorNameAsVariable false
structure RepV (e:Ty AV) (h:Ty AO) (f:Nat) (st:St):Prop where
 env:st.env.get=eo e
 heap:qa0 st.heap=ho h
 free:vlw h f
 ge:1000≤f
theorem RepV.evf {e:Ty AV} {h:Ty AO} {f:Nat} {st:St} (r:RepV e h f st):evf (eo e)=ev st.env:=by rw [←r.env,qu6]
def FunW (P:Program) (k:FuncId) (avs:List AV) (h:Ty AO) (x:AV) (h1:Ty AO) (f1:Nat):Prop:=HasBody P k∧(∃hl,qa0 hl=ho h1)∧vlw h1 f1∧1000≤f1 ∧
 ∀(D:Prop) (X:Nat→Prop) (inj:Inj) (w:World) (vs:List Value),HR X inj (ho h) w→TabOk P (fun b=>X b∨F inj (ho h) b) w→ARs X inj (ho h) w avs vs →
  Calls P k vs.toArray w fun e w'=>∃val,e=.returned val∧∃inj',HR X inj' (ho h1) w'∧Ev D X inj (ho h) w inj' (ho h1) w'∧AR X inj' (ho h1) w' x val
def qqk:AV→Option (FuncId×List AV)
 | .p (.func (.func k) cs)=>some (k,cs.map .p)
 | .func (.func k) cs=>some (k,cs)
 | _=>none
theorem qx5 {env:Env} {fn:Operand} {args:List Operand} {k:FuncId} {cs:List AV} (h:qqk (ev env fn)=some (k,cs)):qbq env fn args=some (k,args.map (ev env)++cs):=by
 unfold qqk at h;unfold qbq;split at h
 ·rename_i heq;rw [heq];cases h;rfl
 ·rename_i heq;rw [heq];cases h;rfl
 ·cases h
def qsz (P:Program) (call:qk7):Prop:=∀(v:AV) (avs:List AV) (h:Ty AO) (f:Nat) (x:AV) (h1:Ty AO) (f1:Nat),(∃hl,qa0 hl=ho h)→vlw h f→1000≤f→call v avs h f=.r x h1 f1 →
 ∃k cs,qqk v=some (k,cs)∧FunW P k (avs++cs) h x h1 f1
def q1r (P:Program) (ih:qo5):Prop:=∀(C:Cx) (c:Code) (e:Ty AV) (h:Ty AO) (f:Nat) (ex:Exit) (e1:Ty AV) (h1:Ty AO) (f1:Nat) (st:St) (Q:Exit→St→Prop),C.P=P→C.N≤1000 →
 ih C.N c e h f=.r ex e1 h1 f1→RepV e h f st→(∀st1,RepV e1 h1 f1 st1→Q ex st1)→AWp C c Q st
def vb0 (P:Program) (ext:Ext):Prop:=∀(k:FuncId) (t:List PV→Option PV) (ps:List PV) (r:PV),ext k=some t→t ps=some r→HasBody P k∧∀D,vhv D P k ps r
variable {P:Program} {C:Cx} {Q:Exit→St→Prop} {st:St}
theorem vpd {ops:Array Oper} {o:Oper} {rest:List Oper} {fn:Operand} {args:Array Operand} {ats:Array TypeId} {k:FuncId} {cs:List AV} {h h1:Ty AO} {x:AV} {f1:Nat}
  (hW:FunW C.P k (args.toList.map (ev st.env)++cs) h x h1 f1) (hh:qa0 st.heap=ho h) (ho':o.op=.call ⟨.value fn,args,ats⟩) (hg:qau ops st.env o=some true) (hd:qbg C.N o=true) (hc:qqk (ev st.env fn)=some (k,cs))
  (hn:∀heap',qa0 heap'=ho h1→AL C ops rest Q ⟨qdh st.env o.dst x,heap'⟩):AL C ops (o :: rest) Q st:=by
 obtain⟨hb,⟨hl,hhl⟩,_,_,hW⟩:=hW;intro inj a w hs;simp only [wpList,qa9 hs hg,if_true];refine .inl ?_;obtain⟨vs,hrun,hars⟩:=qjy hs ho' hb (qx5 hc);unfold Oper.wp;rw [hrun];simp only [Oper.upon];have hsg:st.sig=ho h:=hh;refine (hW C.D C.X inj w vs (hsg ▸ hs.hr) (hsg ▸ qmb hs.ev) (hsg ▸ hars)).mono ?_;rintro e w' ⟨val,rfl,inj',h2,h3,h4⟩;refine hn hl hhl inj' _ _ ?_;rw [←hsg] at h3;have hput:=hs.put (o:=o) (u:=none) hd hs.hr (Ev.refl _ _ _ _) (v:=.any) (val:=val) trivial;have hsl:(St.mk (qdh st.env o.dst x) hl).sig=ho h1:=hhl;refine⟨fun t=>?_,hput.size,hput.defers,by rw [hsl];exact h2,by rw [hsl];exact hs.ev.trans h3⟩;rw [hsl];cases hdst:o.dst with
 | none=>simpa [qdh,Act.put] using AR.ev h3 hs.hr.xlt _ _ (hs.env t)
 | some d =>
  simp only [qbg,hdst,decide_eq_true_eq] at hd;simp only [qdh,Act.put,Env.get];by_cases ht:d=t
  ·subst ht;rw [if_pos rfl];have:(a.tmps.setIfInBounds d val).getD d undef=val:=by simp [hs.size,hd]
   rw [this];exact h4
  ·rw [if_neg ht];have:(a.tmps.setIfInBounds d val).getD t undef=a.tmps.getD t undef:=by simp [vw8 ht]
   rw [this];exact AR.ev h3 hs.hr.xlt _ _ (hs.env t)
theorem q4b (e:Ty AV) (d:Option Tmp) (x:AV):eo (qu0 e (qlw d) x)=qm1 (eo e) d x:=by
 cases d with
 | none=>funext t;simp [qu0,qlw,qm1]
 | some t=>exact vlv e t x
theorem RepV.put {e:Ty AV} {h:Ty AO} {f:Nat} {st:St} (r:RepV e h f st) (d:Option Tmp) (x:AV):RepV (qu0 e (qlw d) x) h f ⟨qdh st.env d x,st.heap⟩ :=
 ⟨by rw [q4b,←r.env];exact qlr _ _ _,r.heap,r.free,r.ge⟩
theorem RepV.set {e:Ty AV} {h:Ty AO} {f l:Nat} {o:AO} {st:St} (r:RepV e h f st) (hl:l < f) (d:Option Tmp) (x:AV):RepV (qu0 e (qlw d) x) (q1n h l o) f ⟨qdh st.env d x,[(l,o)]++st.heap⟩:=by
 refine⟨by rw [q4b,←r.env];exact qlr _ _ _,?_,fun k hk=>?_,r.ge⟩
 ·rw [qqh,←r.heap];exact qd4 _ _ _
 ·rw [qqh];unfold qiq;rw [if_neg (by omega)];exact r.free k hk
theorem RepV.new {e:Ty AV} {h:Ty AO} {f:Nat} {o:AO} {st:St} (r:RepV e h f st) (d:Option Tmp) (x:AV):RepV (qu0 e (qlw d) x) (q1n h f o) (v2e f) ⟨qdh st.env d x,[(f,o)]++st.heap⟩:=by
 refine⟨by rw [q4b,←r.env];exact qlr _ _ _,?_,fun k hk=>?_,v2a r.ge⟩
 ·rw [qqh,←r.heap];exact qd4 _ _ _
 ·rw [qqh];unfold qiq;have:f < k:=hk;rw [if_neg (by omega)];exact r.free k (by omega)
theorem vl3 {N:Nat} {o:Oper} {f:Nat} (hd:qbg N o=true) (hN:N≤1000) (hf:1000≤f):o.dst.getD 0≤f:=by
 unfold qbg at hd;cases hdst:o.dst with
 | none=>simp
 | some d =>
  rw [hdst] at hd;simp only [decide_eq_true_eq] at hd;exact Nat.le_of_lt (vzd hd (vzc hN hf))
theorem vl4 (e:Ty AV) (l:List Operand):(l.map opd).map (vo e)=l.map (evf (eo e)):=by
 rw [List.map_map];exact v0w fun x _=>qgk e x
def vpe (C:Cx) (ops:Array Oper) (rest:List Oper) (Q:Exit→St→Prop) (k:KE) (z:EZ):Prop:=∀(e:Ty AV) (h:Ty AO) (f:Nat) (st:St),RepV e h f st→k e h f=z→AL C ops rest Q st
theorem q1s {call:qk7} (hcall:qsz P call) (hP:C.P=P) (hN:C.N≤1000) {ops:Array Oper} {o:Oper} {rest:List Oper} {i:IOp} {k:KE} {e:Ty AV} {h:Ty AO} {f:Nat} {e1:Ty AV} {h1:Ty AO} {f1:Nat}
  (hi:q7a P o i) (hd:qbg C.N o=true) (hg:qau ops st.env o=some true) (hR:RepV e h f st) (hz:q1q call i k e h f=.st e1 h1 f1) (hn:vpe C ops rest Q k (.st e1 h1 f1)):AL C ops (o :: rest) Q st:=by
 subst hP;cases i with
 | bad=>cases hz
 | gd _ _ _ _=>exact hi.elim
 | cpy _ _ _ _ _ _=>exact hi.elim
 | f d g =>
  obtain⟨rfl,hg'⟩:=hi;have hok:=hg' e h f hR.free (vl3 hd hN hR.ge);have hz':onRy (qlw o.dst) e h f k (g e h f)=.st e1 h1 f1:=hz;generalize g e h f=r at hok hz';cases r with
  | no=>cases hz'
  | v x rs =>
   simp only [vbr,hR.evf,←hR.heap] at hok;exact veo hg hd hok (hn _ _ _ _ (hR.put o.dst x) hz')
  | w x l ob rs =>
   simp only [vbr,hR.evf,←hR.heap] at hok;have hz2:(bif v17 l f then k (qu0 e (qlw o.dst) x) (q1n h l ob) f else .bad)=.st e1 h1 f1:=hz';cases hl:v17 l f with
   | false=>rw [hl] at hz2;cases hz2
   | true =>
    rw [hl,cond_true] at hz2;exact veo hg hd hok (hn _ _ _ _ (hR.set (vhf.1 hl) o.dst x) hz2)
  | new x ob rs =>
   simp only [vbr,hR.evf,←hR.heap] at hok;exact veo hg hd hok (hn _ _ _ _ (hR.new o.dst x) hz')
 | call d fn args =>
  obtain⟨rfl,fo,a,ats,ho',rfl,rfl⟩:=hi;have hz':onK (qlw o.dst) e k (call (vo e (opd fo)) ((a.toList.map opd).map (vo e)) h f)=.st e1 h1 f1:=hz;rw [qgk,vl4] at hz';generalize hc:call (evf (eo e) fo) (a.toList.map (evf (eo e))) h f=r at hz';cases r with
  | bad=>cases hz'
  | r x h2 f2 =>
   obtain⟨kk,cs,c1,c2⟩:=hcall _ _ _ _ _ _ _ ⟨st.heap,hR.heap⟩ hR.free hR.ge hc;rw [hR.evf] at c1 c2;refine vpd c2 hR.heap ho' hg hd c1 fun heap' hh=>?_
   obtain⟨_,_,q1,q2,_⟩:=c2;exact hn _ _ _ _ ⟨by rw [q4b,←hR.env];exact qlr _ _ _,hh,q1,q2⟩ hz'
theorem vja {call:qk7} (hcall:qsz P call) (hP:C.P=P) (hN:C.N≤1000) {ops:Array Oper} {o:Oper} {rest:List Oper} {i:IOp} {k:KE} {e:Ty AV} {h:Ty AO} {f:Nat} {e1:Ty AV} {h1:Ty AO} {f1:Nat}
  (hi:IOk P C.N ops o i) (hR:RepV e h f st) (hz:q1q call i k e h f=.st e1 h1 f1) (hn:vpe C ops rest Q k (.st e1 h1 f1)):AL C ops (o :: rest) Q st:=by
 have plain:∀{o:Oper},o.guard=none→qau ops st.env o=some true:=fun h=>by unfold qau;rw [h]
 cases i with
 | bad=>cases hz
 | cpy _ _ _ _ _ _=>exact hi.2.2.elim
 | f d g=>exact q1s hcall hP hN (i:=.f d g) hi.2.2 hi.1 (plain hi.2.1) hR hz hn
 | call d fn args=>exact q1s hcall hP hN (i:=.call d fn args) hi.2.2 hi.1 (plain hi.2.1) hR hz hn
 | gd j want d i =>
  obtain⟨hd,rfl,⟨kk,t,hg,ht,rfl⟩,hi⟩:=hi;have hz':vo6 want (qlw o.dst) e h f k (q1q call i k e h f) (eo e t)=.st e1 h1 f1:=hz;have hgA:qau ops st.env o=match eo e t with | .p (.bool b)=>some (b == want) | .p (.tup [])=>some false | _=>none:=by
   unfold qau;rw [hg];simp only [ht,hR.env];rfl
  have skip:k (qu0 e (qlw o.dst) (.p (.tup []))) h f=.st e1 h1 f1→qau ops st.env o=some false→AL C ops (o :: rest) Q st:=fun hk hgf =>
   q57 hgf hd (hn _ _ _ _ (hR.put o.dst (.p (.tup []))) hk)
  unfold vo6 at hz';split at hz'
  ·rename_i b hb;rw [hb] at hgA;simp only at hgA;cases hbw:b == want with
   | true =>
    rw [hbw,cond_true] at hz';rw [hbw] at hgA;exact q1s hcall hP hN hi hd hgA hR hz' hn
   | false =>
    rw [hbw,cond_false] at hz';rw [hbw] at hgA;exact skip hz' hgA
  ·rename_i hb;rw [hb] at hgA;exact skip hz' hgA
  ·cases hz'
inductive ILs (P:Program) (N:Nat) (ops:Array Oper):List Oper→List IOp→Prop
 | nil:ILs P N ops [] []
 | one {o i r is} (h:IOk P N ops o i) (t:ILs P N ops r is):ILs P N ops (o :: r) (i :: is)
 | cpy {o1 o2 o3 i r is} (h:q36 P N o1 o2 o3=some i) (t:ILs P N ops r is):ILs P N ops (o1 :: o2 :: o3 :: r) (i :: is)
theorem ILs.map (P:Program) (N:Nat) (ops:Array Oper):∀l:List Oper,ILs P N ops l (l.map (qsw P N ops))
 | []=>.nil
 | o :: l=>.one (qws P N ops o) (ILs.map P N ops l)
theorem vjb {N:Nat} {o1 o2 o3:Oper} (h:∀t x,o1.op≠.slice t x none none none):q36 P N o1 o2 o3=none:=by
 unfold q36;split
 ·rename_i tA x y a b dT sT d1 d2 d3 h1 _ _ _ _ _;exact absurd h1 (h tA x)
 ·rfl
theorem qx6 {N:Nat} {ops:Array Oper} {o:Oper} {rest:List Oper} (h:∀t x,o.op≠.slice t x none none none):q1p P N ops (o :: rest)=qsw P N ops o :: q1p P N ops rest:=by
 show vfi P N o (qsw P N ops o) (q1p P N ops rest) rest=_;unfold vfi;split
 ·rw [vjb h]
 ·rfl
theorem vfm {N:Nat} {o1 o2 o3:Oper} {i:IOp} (h:q36 P N o1 o2 o3=some i):(∃y,o2.op=.move y)∧∃c,o3.op=.call c:=by
 unfold q36 at h;split at h
 ·rename_i tA x y a b dT sT d1 d2 d3 _ h2 h3 _ _ _;exact⟨⟨y,h2⟩,⟨_,h3⟩⟩
 ·cases h
theorem ILs.comp (P:Program) (N:Nat) (ops:Array Oper):∀(n:Nat) (l:List Oper),l.length≤n→ILs P N ops l (q1p P N ops l)
 | _,[],_=>.nil
 | 0,_ :: _,h=>by simp at h
 | n+1,o :: rest,h=>by
  have hr:=ILs.comp P N ops n rest (by simpa using h);show ILs P N ops (o :: rest) (vfi P N o (qsw P N ops o) (q1p P N ops rest) rest);unfold vfi;split
  ·rename_i o2 o3 r;split
   ·rename_i i hi;obtain⟨⟨y,h2⟩,⟨c,h3⟩⟩:=vfm hi;rw [qx6 (fun t x hh=>by rw [h2] at hh;cases hh),qx6 (fun t x hh=>by rw [h3] at hh;cases hh)];exact .cpy hi (ILs.comp P N ops n r (by simp at h;omega))
   ·exact .one (qws P N ops o) hr
  ·exact .one (qws P N ops o) hr
theorem q4c:∀{l:List AV} {L:List Int},q88 l=some L→l=L.map fun n=>.p (.int .i64 n)
 | [],L,h=>by cases h;rfl
 | x :: r,L,h=>by
  unfold q88 at h;split at h
  ·rename_i heq;cases heq
  ·rename_i n r' heq;cases heq;split at h
   ·rename_i l hl;cases h;rw [q4c hl];rfl
   ·cases h
  ·cases h
theorem vui {ops:Array Oper} {o1 o2 o3:Oper} {rest:List Oper} {i:IOp} {call:qk7} {k:KE} {e:Ty AV} {h:Ty AO} {f:Nat} {e1:Ty AV} {h1:Ty AO} {f1:Nat}
  (hi:q36 C.P C.N o1 o2 o3=some i) (hR:RepV e h f st) (hz:q1q call i k e h f=.st e1 h1 f1) (hn:vpe C ops rest Q k (.st e1 h1 f1)):AL C ops (o1 :: o2 :: o3 :: rest) Q st:=by
 unfold q36 at hi;split at hi
 case h_2=>cases hi
 rename_i tA x y a b dT sT d1 d2 d3 p1 p2 p3 q1 q2 q3;split at hi
 case h_2=>cases hi
 rename_i te te' u1 u2;generalize hc:(v1f te te' && _)=c at hi;cases c with
 | false=>cases hi
 | true =>
 rw [cond_true] at hi;cases hi;simp only [vxh,qy1,decide_eq_true_eq,vxl,decide_eq_false_iff_not,Option.isNone_iff_eq_none] at hc;obtain⟨rfl,c2,c3,rfl,rfl,c6,c7,c8,c9,c10,c11,c12,c13⟩:=hc;have hz':q68 tA (vo e (opd x)) (vo e (opd y)) (pth a) (pth b) (pth d3) e h f k=.st e1 h1 f1:=hz;rw [qgk,qgk] at hz';unfold q68 at hz';split at hz'
 case h_2=>cases hz'
 rename_i l g hx;split at hz'
 case h_2=>cases hz'
 rename_i t g' c0 c1 c2' els hob hel;split at hz'
 case h_2=>cases hz'
 rename_i L hL;cases hcc:v1f t tA && (v1f g g' && v17 l f) with
 | false=>rw [hcc] at hz';cases hz'
 | true =>
 rw [hcc,cond_true] at hz';simp only [vxh,qy1,decide_eq_true_eq] at hcc;obtain⟨rfl,rfl,hlf⟩:=hcc;have hlf:=vhf.1 hlf;rw [hR.evf,←hR.heap,q4c hL] at hel;rw [hR.evf] at hx hz';rw [←hR.heap] at hob;have hy:y≠.tmp a:=by
  rintro rfl;simp at c13
 refine vt3 (l:=l) (g:=g) (c0:=c0) (c1:=c1) (c2:=c2') (L:=L) p1 q1 p2 q2 p3 c7 c8 c9 c10 c11 c12 c6 u1 c2 c3 u2 hy hx hob hel ?_;refine hn _ _ _ _ ?_ hz';have r1:=hR.put (some a) .any;have r2:=r1.put (some b) (ev st.env y);have r3:=(r2.put (some d3) .any);have r4:=(RepV.set (o:=.arr t 3 g [.p (.agg [.int .i64 (L.getD 0 c0),.int .i64 (L.getD 1 c1),.int .i64 (L.getD 2 c2')])]) r3 hlf none .any);rw [q1,q2,q3];exact r4
theorem vfn {call:qk7} (hcall:qsz P call) (hP:C.P=P) (hN:C.N≤1000) {ops:Array Oper} {l:List Oper} {is:List IOp} (hl:ILs P C.N ops l is):∀{st:St} {e:Ty AV} {h:Ty AO} {f:Nat} {e1:Ty AV} {h1:Ty AO} {f1:Nat},
  RepV e h f st→q89 call is e h f=.st e1 h1 f1→(∀st1,RepV e1 h1 f1 st1→Q .normal st1)→AL C ops l Q st:=by
 induction hl with
 | nil =>
  intro st e h f e1 h1 f1 hR hz hQ;cases hz;exact qp9 (hQ st hR)
 | @one o i r is hi ht ih =>
  intro st e h f e1 h1 f1 hR hz hQ;exact vja hcall hP hN (k:=q89 call is) hi hR hz fun e2 h2 f2 st2 hR2 hz2=>ih hR2 hz2 hQ
 | @cpy o1 o2 o3 i r is hi ht ih =>
  intro st e h f e1 h1 f1 hR hz hQ;subst hP;exact vui hi hR (k:=q89 call is) hz fun e2 h2 f2 st2 hR2 hz2=>ih hR2 hz2 hQ
end
section
set_option linter.constructorNameAsVariable false
variable {P:Program} {C:Cx} {Q:Exit→St→Prop} {st:St}
theorem vfo:∀(xs:List AV) (k:Nat) (t:Ty AV) (j:Nat),eo (qv8 k xs t) j=if k≤j∧j < k+xs.length then (xs[j - k]?).getD .any else eo t j
 | [],k,t,j=>by
  simp only [qv8,vyf,vy6];rw [if_neg (by omega)]
 | x :: xs,k,t,j=>by
  simp only [qv8,v0q];rw [vfo xs (k+1) _ j,vlv];simp only [qm1,vzs];by_cases h1:k=j
  ·subst h1;rw [if_neg (by omega),if_pos rfl,if_pos (by omega)];simp
  ·by_cases h2:k+1≤j∧j < k+1+xs.length
   ·rw [if_pos h2,if_pos (by omega),show j - k=(j - (k+1))+1 by omega,v0l]
   ·rw [if_neg h2,if_neg h1,if_neg (by omega)]
theorem q7b (xs:List AV):(qja 0 xs).get=eo (qv8 0 xs .e):=by
 have key:∀(xs:List AV) (k j:Nat),(qja k xs).get j=if k≤j∧j < k+xs.length then (xs[j - k]?).getD .any else .any:=by
  intro xs
  induction xs with
  | nil=>intro k j;simp only [qja,vyf,vy6];rw [if_neg (by omega)];rfl
  | cons x xs ih =>
   intro k j;simp only [qja,Env.get,v0q];by_cases h1:k=j
   ·subst h1;rw [if_pos rfl,if_pos (by omega)];simp
   ·rw [if_neg h1,ih (k+1) j];by_cases h2:k+1≤j∧j < k+1+xs.length
    ·rw [if_pos h2,if_pos (by omega),show j - k=(j - (k+1))+1 by omega,v0l]
    ·rw [if_neg h2,if_neg (by omega)]
 funext j;rw [key,vfo];have:eo .e j=.any:=Ty.get_e _ _;rw [this]
theorem vjc {e:Ty AV} {h:Ty AO} {f:Nat} {st:St} (hR:RepV e h f st) (x:ResultVar):vi6 P e h x=qvr P st x:=by
 cases x with
 | tmp t=>simp only [vi6,qvr,←hR.env]
 | cell a t=>simp only [vi6,qvr,←hR.env,←hR.heap]
theorem q9b {e:Ty AV} {h:Ty AO} {f:Nat} {st:St} (hR:RepV e h f st):∀rs:List ResultVar,vi7 P e h rs=qtn P st rs
 | []=>rfl
 | x :: r=>by simp only [vi7,qtn,vjc hR x,q9b hR r];rfl
theorem vuj {e:Ty AV} {h:Ty AO} {f:Nat} {st:St} {rs:List ResultVar} {x:AV} {h1:Ty AO} {f1:Nat} (hR:RepV e h f st) (hz:rsK P e h f rs=.r x h1 f1):vas P st rs=some x∧h1=h∧f1=f:=by
 unfold rsK at hz;rw [q9b hR] at hz;unfold vas;split at hz
 ·rename_i v hv;rw [hv];cases hz;exact⟨rfl,rfl,rfl⟩
 ·rename_i vs hne hv;cases hz;refine⟨?_,rfl,rfl⟩;rw [hv];simp only
 ·cases hz
def qo6 (h:Ty AO) (f:Nat):Prop:=(∃hl,qa0 hl=ho h)∧vlw h f∧1000≤f
theorem qo6.set {h:Ty AO} {f l:Nat} {o:AO} (g:qo6 h f) (hl:l < f):qo6 (q1n h l o) f:=by
 obtain⟨⟨x,hx⟩,h2,h3⟩:=g;refine⟨⟨(l,o) :: x,?_⟩,fun k hk=>?_,h3⟩
 ·rw [qqh,←hx];exact qd4 _ _ _
 ·rw [qqh];unfold qiq;rw [if_neg (by omega)];exact h2 k hk
theorem qo6.new {h:Ty AO} {f:Nat} {o:AO} (g:qo6 h f):qo6 (q1n h f o) (v2e f):=by
 obtain⟨⟨x,hx⟩,h2,h3⟩:=g;refine⟨⟨(f,o) :: x,?_⟩,fun k hk=>?_,v2a h3⟩
 ·rw [qqh,←hx];exact qd4 _ _ _
 ·rw [qqh];unfold qiq;have:f < k:=hk;rw [if_neg (by omega)];exact h2 k (by omega)
def qnl (call:qk7):Prop:=∀(v:AV) (avs:List AV) (h:Ty AO) (f:Nat) (x:AV) (h1:Ty AO) (f1:Nat),qo6 h f→call v avs h f=.r x h1 f1→qo6 h1 f1
def qrj (ih:qo5):Prop:=∀(N:Nat) (c:Code) (e:Ty AV) (h:Ty AO) (f:Nat) (ex:Exit) (e1:Ty AV) (h1:Ty AO) (f1:Nat),qo6 h f→ih N c e h f=.r ex e1 h1 f1→qo6 h1 f1
theorem q0i {call:qk7} (hc:qnl call) {k:KE} {e1:Ty AV} {h1:Ty AO} {f1:Nat} (hk:∀e h f,qo6 h f→k e h f=.st e1 h1 f1→qo6 h1 f1):∀(i:IOp) {e:Ty AV} {h:Ty AO} {f:Nat},qo6 h f→q1q call i k e h f=.st e1 h1 f1→qo6 h1 f1
 | .bad,_,_,_,_,hz=>by cases hz
 | .f d g,e,h,f,hg,hz=>by
  have hz':onRy d e h f k (g e h f)=.st e1 h1 f1:=hz;generalize g e h f=r at hz';cases r with
  | no=>cases hz'
  | v x rs=>exact hk _ _ _ hg hz'
  | w x l ob rs =>
   have hz2:(bif v17 l f then k (qu0 e d x) (q1n h l ob) f else .bad)=.st e1 h1 f1:=hz';cases hl:v17 l f with
   | false=>rw [hl] at hz2;cases hz2
   | true =>
    rw [hl,cond_true] at hz2;exact hk _ _ _ (hg.set (vhf.1 hl)) hz2
  | new x ob rs=>exact hk _ _ _ hg.new hz'
 | .call d fn args,e,h,f,hg,hz=>by
  have hz':onK d e k (call (vo e fn) (args.map (vo e)) h f)=.st e1 h1 f1:=hz;generalize hr:call (vo e fn) (args.map (vo e)) h f=r at hz';cases r with
  | bad=>cases hz'
  | r x h2 f2=>exact hk _ _ _ (hc _ _ _ _ _ _ _ hg hr) hz'
 | .gd j want d i,e,h,f,hg,hz=>by
  have hz':vo6 want d e h f k (q1q call i k e h f) (Ty.get .any e j)=.st e1 h1 f1:=hz;unfold vo6 at hz';split at hz'
  ·rename_i b hb;cases hbw:b == want with
   | true=>rw [hbw,cond_true] at hz';exact q0i hc hk i hg hz'
   | false=>rw [hbw,cond_false] at hz';exact hk _ _ _ hg hz'
  ·exact hk _ _ _ hg hz'
  ·cases hz'
 | .cpy tA x y d1 d2 d3,e,h,f,hg,hz=>by
  have hz':q68 tA (vo e x) (vo e y) d1 d2 d3 e h f k=.st e1 h1 f1:=hz;unfold q68 at hz';split at hz'
  case h_2=>cases hz'
  split at hz'
  case h_2=>cases hz'
  split at hz'
  case h_2=>cases hz'
  rename_i l g _ _ _ t g' c0 c1 c2 els _ _ _ L _;cases hcc:v1f t tA && (v1f g g' && v17 l f) with
  | false=>rw [hcc] at hz';cases hz'
  | true =>
  rw [hcc,cond_true] at hz';simp only [vxh] at hcc;exact hk _ _ _ (hg.set (vhf.1 hcc.2.2)) hz'
theorem qx7 {call:qk7} (hc:qnl call):∀(is:List IOp) {e:Ty AV} {h:Ty AO} {f:Nat} {e1:Ty AV} {h1:Ty AO} {f1:Nat},qo6 h f→q89 call is e h f=.st e1 h1 f1→qo6 h1 f1
 | [],_,_,_,_,_,_,hg,hz=>by cases hz;exact hg
 | i :: is,_,_,_,_,_,_,hg,hz=>q0i hc (k:=q89 call is) (fun e h f hg hz=>qx7 hc is hg hz) i hg hz
theorem q1t (h:Ty AO) (us:List (Nat×AO)):ho (q37 h us)=ovr us (ho h):=by
 funext k
 induction us with
 | nil=>rfl
 | cons p r ih =>
  obtain⟨l,o⟩:=p;simp only [q37,qqh,qiq,ovr,ih];by_cases hl:l=k
  ·rw [if_pos hl,if_pos hl.symm]
  ·rw [if_neg hl,if_neg (Ne.symm hl)]
theorem qwt {h h':Ty AO} {S:List Nat}:∀{S':List Nat} {l:Nat} {o:AO},(l,o)∈qm3 h h' S S'→o=ho h' l
 | [],_,_,hm=>by cases hm
 | k :: S',l,o,hm=>by
  unfold qm3 at hm;cases hc:qxs k S && AO.same (ho h k) (ho h' k) with
  | true=>rw [hc,cond_true] at hm;exact qwt hm
  | false =>
   rw [hc,cond_false] at hm;rcases v02.1 hm with hm | hm
   ·cases hm;rfl
   ·exact qwt hm
theorem vfp {us:List (Nat×AO)} {σ:Nat→AO} {l:Nat} (h:l∈us.map (·.1)):(l,ovr us σ l)∈us:=by
 induction us with
 | nil=>cases h
 | cons p r ih =>
  obtain⟨k,o⟩:=p;simp only [ovr];by_cases hk:k=l
  ·subst hk;rw [if_pos rfl];exact v04
  ·rw [if_neg hk];rcases v02.1 h with h | h
   ·exact absurd h.symm hk
   ·exact v03 _ (ih h)
theorem qo6.diff {h h':Ty AO} {f f':Nat} {S S':List Nat} (g:qo6 h f) (g':qo6 h' f') (hf:f≤f'):qo6 (q37 h (qm3 h h' S S')) f':=by
 obtain⟨⟨x,hx⟩,h2,h3⟩:=g;obtain⟨_,k2,k3⟩:=g';refine⟨⟨qm3 h h' S S'++x,?_⟩,fun k hk=>?_,k3⟩
 ·rw [qwp,hx,q1t]
 ·rw [q1t];by_cases hm:k∈(qm3 h h' S S').map (·.1)
  ·rw [qwt (vfp hm)];exact k2 k hk
  ·rw [qtx hm];exact h2 k (by omega)
theorem vfq (h:Ty AO) (S:List Nat):ho (mkH h S)=qeo (ho h) S:=by
 funext k
 induction S with
 | nil=>simp only [mkH,qeo,List.not_mem_nil,if_false];exact Ty.get_e _ _
 | cons l S ih =>
  simp only [mkH,qqh,qiq,ih,qeo,v02];by_cases hl:k=l
  ·subst hl;simp
  ·simp [hl]
theorem qo6.part {h:Ty AO} {f:Nat} (g:qo6 h f) (S:List Nat):qo6 (mkH h S) f:=by
 obtain⟨_,h2,h3⟩:=g;refine⟨?_,fun k hk=>?_,h3⟩
 ·induction S with
  | nil=>exact⟨[],(vq2).symm⟩
  | cons l S ih =>
   obtain⟨x,hx⟩:=ih;exact⟨(l,ho h l) :: x,by rw [mkH,qqh,←hx];exact qd4 _ _ _⟩
 ·rw [vfq];unfold qeo;rw [h2 k hk];split <;> rfl
theorem q9c (hB:q9a P) {ext:Ext} (hE:vb0 P ext) {ih:qo5} (hi:q1r P ih) (hgd:qrj ih) {k:FuncId} {avs:List AV} {h:Ty AO} {f:Nat} {x:AV} {h1:Ty AO} {f1:Nat} (hL:∃hl,qa0 hl=ho h) (hF:vlw h f) (hge:1000≤f)
  (hz:qx4 P ext ih k avs h f=.r x h1 f1):FunW P k avs h x h1 f1:=by
 obtain⟨hl,hhl⟩:=hL;unfold qx4 at hz;split at hz
 ·rename_i t ht;split at hz
  case h_2=>cases hz
  rename_i ps hps;split at hz
  case h_2=>cases hz
  rename_i r hr;cases hz;obtain⟨hb,hp⟩:=hE k t ps r ht hr;refine⟨hb,⟨hl,hhl⟩,hF,hge,fun D X inj w vs hh hT hars=>?_⟩;have hav:=qp3 hps;subst hav;refine ((hp D) (fun b=>X b∨F inj (ho h) b) w vs (fun b hb=>hb.elim (hh.xlt b) fun hf=>(hh.flt hf).1) hT (qbe.1 hars)).mono ?_;rintro e w' ⟨v,rfl,h1,h2⟩;exact⟨v,rfl,inj,hh.fr h2,h2.ev,h1⟩
 ·cases hc:vi8 P k with
  | bad=>rw [hc] at hz;cases hz
  | r N c rs =>
   rw [hc] at hz;have hz':(bif v16 avs.length N && v16 1000 f then vpc P rs (ih N c (qv8 0 avs .e) h f) else .bad)=KR.r x h1 f1:=hz;cases hcc:v16 avs.length N && v16 1000 f with
   | false=>rw [hcc] at hz';cases hz'
   | true =>
   rw [hcc,cond_true] at hz';simp only [vxh] at hcc;have hn:=v18 hcc.1;unfold vi8 at hc;split at hc
   case h_2=>cases hc
   rename_i fn hfn;split at hc
   case h_2=>cases hc
   rename_i c' hb;cases hN:v16 fn.ntmps 1000 with
   | false=>rw [hN] at hc;cases hc
   | true =>
   rw [hN,cond_true] at hc;cases hc;have hN:=v18 hN;generalize hrun:ih fn.ntmps c (qv8 0 avs .e) h f=cr at hz';cases cr with
   | bad=>cases hz'
   | r ex e1 h2 f2 =>
   have hres:(ex=.normal∨ex=.ret)∧rsK P e1 h2 f2 fn.results.toList=.r x h1 f1:=by
    cases ex <;> first | exact⟨.inl rfl,hz'⟩ | exact⟨.inr rfl,hz'⟩ | cases hz'
   -- the state at the end does not matter: some one stands for it
   have hR0:RepV (qv8 0 avs .e) h f ⟨qja 0 avs,hl⟩:=⟨q7b avs,hhl,hF,hge⟩;have hwp:∀(D:Prop) (X:Nat→Prop) (inj:Inj) (w:World) hT,AWp ⟨P,fn.ntmps,0,X,hl,inj,w,D,hT⟩ c (fun e s=>(e=.normal∨e=.ret)∧RepV e1 h2 f2 s) ⟨qja 0 avs,hl⟩:=fun D X inj w hT =>
    hi ⟨P,fn.ntmps,0,X,hl,inj,w,D,hT⟩ c _ _ _ ex e1 h2 f2 _ _ rfl hN hrun hR0 fun st1 hR1=>⟨hres.1,hR1⟩
   have hst:h1=h2∧f1=f2:=by
    have:=hres.2;unfold rsK at this;split at this <;> cases this <;> exact⟨rfl,rfl⟩
   obtain⟨rfl,rfl⟩:=hst;obtain⟨⟨hl',e1'⟩,e2',e3'⟩:=hgd _ _ _ _ _ _ _ _ _ ⟨⟨hl,hhl⟩,hF,hge⟩ hrun;refine⟨hB k fn hfn (by rw [hb];rfl),⟨hl',e1'⟩,e2',e3',fun D X inj w vs hh hT hars=>?_⟩;rw [←hhl] at hh hT hars;have hlen:=hars.length;refine calls_of_wp hfn hb (wp_mono (hwp D X inj w hT inj _ w ⟨fun t=>?_,?_,rfl,hh,Ev.refl _ _ _ _⟩) ?_)
   ·have:=qnh avs vs 0 t hars;simp only [v1m,if_true,vzk] at this;have e:(vs.toArray++v1t (fn.ntmps - vs.toArray.size) undef).getD t undef=vs.getD t undef:=by
     by_cases ht:t < vs.length
     ·simp [vw5,ht]
     ·simp only [v1q,vw5,vyx,ht,if_false,v1s];rw [v0k,vx5 (by omega)];split <;> rfl
    rw [e];exact this
   ·simp [←hlen];omega
   ·intro e a' w' ⟨s,inj',hs',hex,hR'⟩;obtain⟨hv,_,_⟩:=vuj hR' hres.2;obtain⟨val,k1,k2⟩:=qre hs' hv;have hev:Ev D X inj (qa0 hl) w inj' s.sig w':=hs'.ev;have hsg:s.sig=ho h1:=hR'.heap;have hpost:∃val',Ending.returned val=.returned val'∧∃inj',HR X inj' (ho h1) w'∧Ev D X inj (ho h) w inj' (ho h1) w'∧AR X inj' (ho h1) w' x val' :=
     ⟨val,rfl,inj',by rw [←hsg];exact hs'.hr,by rw [←hsg,←hhl];exact hev,by rw [←hsg];exact k2⟩
    rcases hex with rfl | rfl
    ·exact⟨hs'.defers,val,k1,hpost⟩
    ·exact⟨hs'.defers,val,k1,hpost⟩
end
section
set_option linter.constructorNameAsVariable false
variable {P:Program} {C:Cx} {Q:Exit→St→Prop} {st:St}
theorem q1u {S:List Nat}:∀{S':List Nat} {l:Nat},l∈S'→l ∉ S→l∈q38 S S'
 | k :: S',l,h,hn=>by
  unfold q38;rw [qmf];rcases v02.1 h with rfl | h
  ·simp only [hn,decide_false,cond_false];exact v04
  ·by_cases hk:k∈S
   ·simp only [hk,decide_true,cond_true];exact q1u h hn
   ·simp only [hk,decide_false,cond_false];exact v03 _ (q1u h hn)
theorem q4d {f:Nat}:∀{s:List Nat} {l:Nat},qx2 f s=true→l∈s→f≤l
 | k :: s,l,h,hl=>by
  simp only [qx2,vxh] at h;rcases v02.1 hl with rfl | hl
  ·exact v18 h.1
  ·exact q4d h.2 hl
theorem q1v {h h':Ty AO} {S:List Nat}:∀{S':List Nat} {l:Nat},l∈S'→l ∉ (qm3 h h' S S').map (·.1)→l∈S∧ho h l=ho h' l
 | k :: S',l,hl,hn=>by
  unfold qm3 at hn;cases hc:qxs k S && AO.same (ho h k) (ho h' k) with
  | true =>
   rw [hc,cond_true] at hn;rcases v02.1 hl with rfl | hl
   ·simp only [vxh,qmf,decide_eq_true_eq] at hc;exact⟨hc.1,AO.same_eq hc.2⟩
   ·exact q1v hl hn
  | false =>
   rw [hc,cond_false] at hn;simp only [vyk,v02,not_or] at hn;rcases v02.1 hl with rfl | hl
   ·exact absurd rfl hn.1
   ·exact q1v hl hn.2
theorem q1w {h h':Ty AO} {S:List Nat}:∀{S':List Nat} {l:Nat},l∈(qm3 h h' S S').map (·.1)→l∈S'
 | [],l,hm=>by cases hm
 | k :: S',l,hm=>by
  unfold qm3 at hm;cases hc:qxs k S && AO.same (ho h k) (ho h' k) with
  | true=>rw [hc,cond_true] at hm;exact v03 _ (q1w hm)
  | false =>
   rw [hc,cond_false] at hm;simp only [vyk,v02] at hm;rcases hm with rfl | hm
   ·exact v04
   ·exact v03 _ (q1w hm)
theorem vjd {o:Oper} {fn:Operand} {args:Array Operand} {ats:Array TypeId} {ρ:Operand→AV} {k:FuncId} {cs:List AV} {h h':Ty AO} {f f':Nat} {x:AV} {S S':List Nat}
  (ho':o.op=.call ⟨.value fn,args,ats⟩) (hc:qqk (ρ fn)=some (k,cs)) (hW:FunW P k (args.toList.map ρ++cs) (mkH h S) x h' f') (hS:∀l∈qh4 (args.toList.map ρ++cs),l∈S) (hsh:vhg (ho h) S)
  (hx:∀l∈qpt x,l∈S') (hsub:∀l∈S,l∈S') (hsh':vhg (ho h') S') (hfr:vlw h f) (hnw:qx2 f (q38 S S')=true):OpM P o ρ (ho h) x (qm3 h h' S S') (S++q38 S S'):=by
 intro D X ρ' σ' hρ hσ inj w a next Q hr hT ha hn
 obtain⟨hb,_,_,_,hW⟩:=hW;have hSσ:∀l∈S,σ' l=ho h l:=fun l hl=>hσ l (v00 _ hl)
 have hshσ:vhg σ' S:=fun l hl j hj=>hsh l hl j (by rw [←hSσ l hl];exact hj)
 have hpart:qeo σ' S=ho (mkH h S):=by
  rw [vfq];funext l;unfold qeo;split
  ·rename_i hl;exact hSσ l hl
  ·rfl
 -- the arguments
 have hfn:=ha fn;rw [hρ fn (by rw [ho'];simp [Op.operands,Call.operands])] at hfn;have hmap:args.toList.map ρ'=args.toList.map ρ:=v0w fun y hy=>hρ y (by rw [ho'];simp [Op.operands,Call.operands] at hy ⊢;exact .inr hy)
 have hargs:=qnv ha args.toList;rw [hmap] at hargs;obtain⟨dst,op,type,pos,after,guard⟩:=o;simp only at ho';subst ho';have run:∀cap:Array Value,a.eval fn=.func (.func k) #[] cap→(execOp a.eval ⟨dst,.call ⟨.value fn,args,ats⟩,type,pos,after,guard⟩).run P w=.ok (.enter k (args.map a.eval++cap)) w:=by
  intro cap he;simp only [execOp,resolve,Deferred.ofValue,he,vzw,vzx,vzu,invoke];rw [hb];simp
 have hcall:∃vs,(execOp a.eval ⟨dst,.call ⟨.value fn,args,ats⟩,type,pos,after,guard⟩).run P w=.ok (.enter k vs.toArray) w∧ARs X inj σ' w (args.toList.map ρ++cs) vs:=by
  unfold qqk at hc;split at hc
  ·rename_i k' cs' hev;simp only [vzs,vzt] at hc;obtain⟨rfl,rfl⟩:=hc;rw [hev] at hfn;obtain⟨vs,h1,h2⟩:=hfn;refine⟨args.toList.map a.eval++vs,?_,hargs.append (qbe.2 h2)⟩;rw [run vs.toArray h1];congr 2;apply vw4;simp
  ·rename_i k' cs' hev;simp only [vzs,vzt] at hc;obtain⟨rfl,rfl⟩:=hc;rw [hev] at hfn;obtain⟨vs,h1,h2⟩:=hfn;refine⟨args.toList.map a.eval++vs,?_,hargs.append h2⟩;rw [run vs.toArray h1];congr 2;apply vw4;simp
  ·cases hc
 obtain⟨vs,hrun,hars⟩:=hcall;unfold Oper.wp;rw [hrun];simp only [Oper.upon];have hin:∀l∈qh4 (args.toList.map ρ++cs),qeo σ' S l=σ' l∧inj l=inj l:=fun l hl=>⟨by unfold qeo;rw [if_pos (hS l hl)],rfl⟩
 have hars':ARs (XO X inj σ' S) inj (qeo σ' S) w (args.toList.map ρ++cs) vs:=qlv (fun b _ hh=>(q33 b).1 hh) _ _ hin hars;have hT':TabOk P (fun b=>XO X inj σ' S b∨F inj (qeo σ' S) b) w:=hT.keep ⟨vza _,fun _ _ _=>rfl,fun b _ hx hn=>hx ((q33 b).1 hn)⟩;have hr':=hr.part hshσ;rw [hpart] at hars' hT' hr';refine (hW D (XO X inj σ' S) inj w vs hr' hT' hars').mono ?_;rintro e' w' ⟨val,rfl,inj1,q1,q2,q3⟩
 -- what can be reached of it
 have hτ:∀l,l ∉ S'→qeo (ho h') S' l=.dead 0:=fun l hl=>by unfold qeo;rw [if_neg hl]
 have hτS:vhg (qeo (ho h') S') S':=fun l hl j hj=>hsh' l hl j (by unfold qeo at hj;rw [if_pos hl] at hj;exact hj)
 have hpF:∀b,(XO X inj σ' S b∨F inj1 (qeo (ho h') S') b)→XO X inj σ' S b∨F inj1 (ho h') b:=by
  rintro b (h | ⟨l,c,o,h1,h2,_,h3⟩)
  ·exact .inl h
  ·obtain⟨r1,r2⟩:=qfm (h1 ▸ h2);exact .inr ⟨l,c,o,by rw [←h1,r2],h2,rfl,h3⟩
 have t1:=q1.less hsh';have t3:AR (XO X inj σ' S) inj1 (qeo (ho h') S') w' x val:=q65 (fun b _ hh=>hpF b hh) x val (fun l hl=>⟨by unfold qeo;rw [if_pos (hx l hl)],rfl⟩) q3;have t2:Ev D (XO X inj σ' S) inj (qeo σ' S) w inj1 (qeo (ho h') S') w':=by
  rw [hpart];refine⟨q2.os,q2.tape,q2.output,q2.dr,q2.size,q2.fz,q2.blk,fun b hb=>?_,fun l=>?_⟩
  ·obtain⟨l,c,o,h1,h2,_,h3⟩:=hb;obtain⟨r1,r2⟩:=qfm (h1 ▸ h2);exact q2.fp b ⟨l,c,o,by rw [←h1,r2],h2,rfl,h3⟩
  ·by_cases hl:l∈S'
   ·have:qeo (ho h') S' l=ho h' l:=by unfold qeo;rw [if_pos hl]
    rw [this];exact q2.objs l
   ·rw [hτ l hl];have hlS:l ∉ S:=fun hh=>hl (hsub l hh)
    have:ho (mkH h S) l=.dead 0:=by rw [vfq];unfold qeo;rw [if_neg hlS]
    rw [this];exact⟨vza _,fun ha=>by cases ha⟩
 have hnew:∀l∈S',l ∉ S→σ' l=.dead 0:=fun l hl hn'=>by
  have hm:=q1u hl hn';rw [hσ l (v01 _ hm)];exact hfr l (q4d hnw hm)
 obtain⟨z1,z2,z3⟩:=HR.frame hr hshσ hsub hnew t1 hτ hτS t2;have hov:ovr (qm3 h h' S S') σ'=fun l=>if l∈S' then qeo (ho h') S' l else σ' l:=by
  funext l;by_cases hl:l∈S'
  ·simp only [hl,if_true];have e1:qeo (ho h') S' l=ho h' l:=by unfold qeo;rw [if_pos hl]
   rw [e1];by_cases hm:l∈(qm3 h h' S S').map (·.1)
   ·exact qwt (vfp hm)
   ·rw [qtx hm];obtain⟨r1,r2⟩:=q1v hl hm;rw [hSσ l r1,r2]
  ·simp only [hl,if_false];exact qtx fun hm=>hl (q1w hm)
 rw [hov] at hn;exact hn val w' _ z1 z2 (z3 x val hx t3)
end
section
set_option linter.constructorNameAsVariable false
variable {P:Program} {C:Cx} {Q:Exit→St→Prop} {st:St}
def EvM.w (m:EvM):EvW:=⟨m.us,m.rs⟩
theorem qhu {x:EvW} {r:DR} {e:Ty AV} {h:Ty AO} {f:Nat} {es:List EvW} (hz:qsx x r=.st e h f es):∃es',r=.st e h f es'∧es=x :: es':=by
 cases r with
 | bad=>cases hz
 | st e' h' f' es'=>cases hz;exact⟨es',rfl,rfl⟩
def vpf (C:Cx) (ops:Array Oper) (rest:List Oper) (k:KD):Prop:=∀(e:Ty AV) (h:Ty AO) (f:Nat) (st:St) (e1:Ty AV) (h1:Ty AO) (f1:Nat) (es:List EvW),RepV e h f st→k e h f=.st e1 h1 f1 es →
 ∃ms st1,DChM C ops rest st ms st1∧RepV e1 h1 f1 st1∧ms.map EvM.w=es
theorem qx8 {call:qk7} (hcall:qsz P call) (hgood:qnl call) (hmono:∀v avs h f x h1 f1,call v avs h f=.r x h1 f1→f≤f1) (hP:C.P=P) (hN:C.N≤1000) {ops:Array Oper} {o:Oper} {rest:List Oper} {i:IOp} {k:KD} {e:Ty AV} {h:Ty AO} {f:Nat} {e1:Ty AV} {h1:Ty AO} {f1:Nat} {es:List EvW}
  (hi:q7a P o i) (hd:qbg C.N o=true) (hg:qau ops st.env o=some true) (hR:RepV e h f st) (hz:q39 call i k e h f=.st e1 h1 f1 es) (hn:vpf C ops rest k):∃ms st1,DChM C ops (o :: rest) st ms st1∧RepV e1 h1 f1 st1∧ms.map EvM.w=es:=by
 subst hP;have fin:∀(x:AV) (us:List (Nat×AO)) (rs:List Nat) (e2:Ty AV) (h2:Ty AO) (f2:Nat),OpM C.P o (ev st.env) st.sig x us rs→RepV e2 h2 f2 ⟨qdh st.env o.dst x,us++st.heap⟩→qsx ⟨us,rs⟩ (k e2 h2 f2)=.st e1 h1 f1 es →
   ∃ms st1,DChM C ops (o :: rest) st ms st1∧RepV e1 h1 f1 st1∧ms.map EvM.w=es:=by
  intro x us rs e2 h2 f2 hop hR2 hz2;obtain⟨es',hk,rfl⟩:=qhu hz2;obtain⟨ms,st1,q1,q2,q3⟩:=hn e2 h2 f2 _ _ _ _ _ hR2 hk;exact⟨⟨x,us,rs⟩ :: ms,st1,.cons hd (.inl ⟨hg,hop.md⟩) q1,q2,by rw [vyk,q3];rfl⟩
 cases i with
 | bad=>cases hz
 | gd _ _ _ _=>exact hi.elim
 | cpy _ _ _ _ _ _=>exact hi.elim
 | f d g =>
  obtain⟨rfl,hg'⟩:=hi;have hok:=hg' e h f hR.free (vl3 hd hN hR.ge);have hz':onRD (qlw o.dst) e h f k (g e h f)=.st e1 h1 f1 es:=hz;generalize g e h f=r at hok hz';cases r with
  | no=>cases hz'
  | v x rs =>
   simp only [vbr,hR.evf,←hR.heap] at hok;exact fin x [] rs _ _ _ hok (hR.put o.dst x) hz'
  | w x l ob rs =>
   simp only [vbr,hR.evf,←hR.heap] at hok;have hz2:(bif v17 l f then qsx ⟨[(l,ob)],rs⟩ (k (qu0 e (qlw o.dst) x) (q1n h l ob) f) else .bad)=DR.st e1 h1 f1 es:=hz';cases hl:v17 l f with
   | false=>rw [hl] at hz2;cases hz2
   | true =>
    rw [hl,cond_true] at hz2;exact fin x [(l,ob)] rs _ _ _ hok (hR.set (vhf.1 hl) o.dst x) hz2
  | new x ob rs =>
   simp only [vbr,hR.evf,←hR.heap] at hok;exact fin x [(f,ob)] rs _ _ _ hok (hR.new o.dst x) hz'
 | call d fn args =>
  obtain⟨rfl,fo,a,ats,ho',rfl,rfl⟩:=hi;have hz':vi4 call (qlw o.dst) (vo e (opd fo)) ((a.toList.map opd).map (vo e)) e h f k (qm2 (ho h) 5000 (qpt (vo e (opd fo))++qh4 ((a.toList.map opd).map (vo e))) [])=.st e1 h1 f1 es:=hz;rw [qgk,vl4,hR.evf] at hz';generalize hS:qm2 (ho h) 5000 (qpt (ev st.env fo)++qh4 (a.toList.map (ev st.env))) []=oS at hz';cases oS with
  | none=>cases hz'
  | some S =>
  have hz2:(@KR.rec (fun _=>DR) .bad (fun x h' f'=>q69 (qlw o.dst) e h f k S x h' f' (qm2 (ho h') 5000 (qpt x++S) [])) (call (ev st.env fo) (a.toList.map (ev st.env)) (mkH h S) f))=DR.st e1 h1 f1 es:=hz';obtain⟨_,s2,s3⟩:=qrh hS (by simp);have hgd:qo6 h f:=⟨⟨st.heap,hR.heap⟩,hR.free,hR.ge⟩;generalize hc:call (ev st.env fo) (a.toList.map (ev st.env)) (mkH h S) f=r at hz2;cases r with
  | bad=>cases hz2
  | r x h' f' =>
  have hz3:q69 (qlw o.dst) e h f k S x h' f' (qm2 (ho h') 5000 (qpt x++S) [])=DR.st e1 h1 f1 es:=hz2;generalize hS':qm2 (ho h') 5000 (qpt x++S) []=oS' at hz3;cases oS' with
  | none=>cases hz3
  | some S' =>
  obtain⟨_,s2',s3'⟩:=qrh hS' (by simp);have hz4:(bif qx2 f (q38 S S') then qsx ⟨qm3 h h' S S',S++q38 S S'⟩ (k (qu0 e (qlw o.dst) x) (q37 h (qm3 h h' S S')) f') else .bad)=DR.st e1 h1 f1 es:=hz3;cases hnw:qx2 f (q38 S S') with
  | false=>rw [hnw] at hz4;cases hz4
  | true =>
  rw [hnw,cond_true] at hz4;have hgp:=hgd.part S;obtain⟨kk,cs,c1,c2⟩:=hcall _ _ _ _ _ _ _ hgp.1 hgp.2.1 hgp.2.2 hc;have hg2:=hgood _ _ _ _ _ _ _ hgp hc;have hrefs:∀l∈qh4 (a.toList.map (ev st.env)++cs),l∈S:=by
   intro l hl;have happ:∀(xs ys:List AV),qh4 (xs++ys)=qh4 xs++qh4 ys:=by
    intro xs ys
    induction xs with
    | nil=>rfl
    | cons x xs ih=>simp only [v0h,qh4,ih,List.append_assoc]
   rw [happ] at hl;rcases vym.1 hl with hl | hl
   ·exact s2 l (v01 _ hl)
   ·refine s2 l (v00 _ ?_);unfold qqk at c1;split at c1
    ·rename_i k' cs' heq;cases c1;exfalso;have:∀ps:List PV,qh4 (ps.map .p)=[]:=by
      intro ps
      induction ps with
      | nil=>rfl
      | cons p ps ih=>simp only [vyk,qh4,ih];rfl
     rw [this] at hl;cases hl
    ·rename_i k' cs' heq;cases c1;rw [heq];exact hl
    ·cases c1
  have hop:=vjd (ρ:=ev st.env) ho' c1 c2 hrefs s3 (fun l hl=>s2' l (v00 _ hl)) (fun l hl=>s2' l (v01 _ hl)) s3' hR.free hnw;rw [←hR.heap] at hop;have hgo:=hgd.diff (S:=S) (S':=S') hg2 (hmono _ _ _ _ _ _ _ hc);refine fin x _ _ _ _ _ hop ⟨by rw [q4b,←hR.env];exact qlr _ _ _,?_,hgo.2.1,hgo.2.2⟩ hz4;rw [q1t,←hR.heap];exact qwp _ _
theorem vje {call:qk7} (hcall:qsz P call) (hgood:qnl call) (hmono:∀v avs h f x h1 f1,call v avs h f=.r x h1 f1→f≤f1) (hP:C.P=P) (hN:C.N≤1000) {ops:Array Oper} {o:Oper} {rest:List Oper} {i:IOp} {k:KD} {e:Ty AV} {h:Ty AO} {f:Nat} {e1:Ty AV} {h1:Ty AO} {f1:Nat} {es:List EvW}
  (hi:IOk P C.N ops o i) (hR:RepV e h f st) (hz:q39 call i k e h f=.st e1 h1 f1 es) (hn:vpf C ops rest k):∃ms st1,DChM C ops (o :: rest) st ms st1∧RepV e1 h1 f1 st1∧ms.map EvM.w=es:=by
 have plain:∀{o:Oper},o.guard=none→qau ops st.env o=some true:=fun h=>by unfold qau;rw [h]
 cases i with
 | bad=>cases hz
 | cpy _ _ _ _ _ _=>exact hi.2.2.elim
 | f d g=>exact qx8 hcall hgood hmono hP hN (i:=.f d g) hi.2.2 hi.1 (plain hi.2.1) hR hz hn
 | call d fn args=>exact qx8 hcall hgood hmono hP hN (i:=.call d fn args) hi.2.2 hi.1 (plain hi.2.1) hR hz hn
 | gd j want d i =>
  obtain⟨hd,rfl,⟨kk,t,hg,ht,rfl⟩,hi⟩:=hi;have hz':vo7 want (qlw o.dst) e h f k (q39 call i k e h f) (eo e t)=.st e1 h1 f1 es:=hz;have hgA:qau ops st.env o=match eo e t with | .p (.bool b)=>some (b == want) | .p (.tup [])=>some false | _=>none:=by
   unfold qau;rw [hg];simp only [ht,hR.env];rfl
  have skip:qsx ⟨[],[]⟩ (k (qu0 e (qlw o.dst) (.p (.tup []))) h f)=.st e1 h1 f1 es→qau ops st.env o=some false→∃ms st1,DChM C ops (o :: rest) st ms st1∧RepV e1 h1 f1 st1∧ms.map EvM.w=es:=fun hk hgf=>by
   obtain⟨es',hk2,rfl⟩:=qhu hk;obtain⟨ms,st1,q1,q2,q3⟩:=hn _ _ _ _ _ _ _ _ (hR.put o.dst (.p (.tup []))) hk2;exact⟨⟨.p (.tup []),[],[]⟩ :: ms,st1,.cons hd (.inr ⟨hgf,rfl⟩) q1,q2,by rw [vyk,q3];rfl⟩
  unfold vo7 at hz';split at hz'
  ·rename_i b hb;rw [hb] at hgA;simp only at hgA;cases hbw:b == want with
   | true =>
    rw [hbw,cond_true] at hz';rw [hbw] at hgA;exact qx8 hcall hgood hmono hP hN hi hd hgA hR hz' hn
   | false =>
    rw [hbw,cond_false] at hz';rw [hbw] at hgA;exact skip hz' hgA
  ·rename_i hb;rw [hb] at hgA;exact skip hz' hgA
  ·cases hz'
theorem vfr {call:qk7} (hcall:qsz P call) (hgood:qnl call) (hmono:∀v avs h f x h1 f1,call v avs h f=.r x h1 f1→f≤f1) (hP:C.P=P) (hN:C.N≤1000) {ops:Array Oper}:∀(l:List Oper),vpf C ops l (vi5 call (l.map (qsw P C.N ops)))
 | []=>fun e h f st e1 h1 f1 es hR hz=>by
  cases hz;exact⟨[],st,.nil,hR,rfl⟩
 | o :: l=>fun e h f st e1 h1 f1 es hR hz=>vje hcall hgood hmono hP hN (k:=vi5 call (l.map (qsw P C.N ops))) (qws P C.N ops o) hR hz (vfr hcall hgood hmono hP hN l)
theorem qwu:∀{ws:List (Nat×AO)} {s:List Nat},djK ws s=true→∀l∈ws.map (·.1),l ∉ s
 | [],_,_,l,hl=>by cases hl
 | (k,o) :: r,s,h,l,hl=>by
  simp only [djK,vxh,qmf,vxl,decide_eq_false_iff_not] at h;rcases v02.1 hl with rfl | hl
  ·exact h.1
  ·exact qwu h.2 l hl
theorem vjf {x y:EvM} (h:evW x.w y.w=true):vow x y:=by
 unfold evW at h;split at h
 ·rename_i h1 h2;have h1:x.us=[]:=h1;have h2:y.us=[]:=h2;unfold vow EvM.ks;rw [h1,h2];simp
 ·simp only [vxh] at h;obtain⟨h1,h2,h3⟩:=h;exact⟨fun l hl=>⟨qwu h1 l hl,qwu h2 l hl⟩,fun l hl=>qwu h3 l hl⟩
theorem qx9 {es:List EvW}:∀{ps:List (Nat×Nat)},qt1 es ps=true→∀i j x y,(i,j)∈ps→nth es i=some x→nth es j=some y→evW x y=true
 | [],_,_,_,_,_,hm,_,_=>by cases hm
 | (a,b) :: r,h,i,j,x,y,hm,hx,hy=>by
  simp only [qt1,vxh] at h;rcases v02.1 hm with hm | hm
  ·cases hm;have:=h.1;rw [hx,hy] at this;exact this
  ·exact qx9 h.2 i j x y hm hx hy
theorem vpg {ops:Array Oper} {T:Nat} {ms:List EvM} (hl:ms.length≤T) (h:qt1 (ms.map EvM.w) (vfj ops T)=true):EvsM ops ms:=by
 intro i j x y hij hj hx hy;by_cases ha:qzc (q8p ops ops.size) j i=true
 ·exact .inl (qmc ha)
 ·refine .inr (vjf (qx9 h i j x.w y.w ?_ (by rw [qty,vx7,hx];rfl) (by rw [qty,vx7,hy];rfl)));have hjT:j < T:=vzd (vx6.1 hy).1 hl;unfold vfj;refine vyn.2 ⟨j,v08.2 hjT,List.mem_filterMap.2 ⟨i,v08.2 hij,?_⟩⟩;have:qzc (q8p ops ops.size) j i=false:=by simpa using ha
  rw [this];rfl
theorem q0j {call:qk7} (hm:∀v avs h f x h1 f1,call v avs h f=.r x h1 f1→f≤f1) {k:KD} {e1:Ty AV} {h1:Ty AO} {f1:Nat} (hk:∀e h f es,k e h f=.st e1 h1 f1 es→f≤f1):∀(i:IOp) {e:Ty AV} {h:Ty AO} {f:Nat} {es:List EvW},q39 call i k e h f=.st e1 h1 f1 es→f≤f1
 | .bad,_,_,_,_,hz=>by cases hz
 | .f d g,e,h,f,es,hz=>by
  have hz':onRD d e h f k (g e h f)=.st e1 h1 f1 es:=hz;generalize g e h f=r at hz';cases r with
  | no=>cases hz'
  | v x rs=>obtain⟨es',hk2,_⟩:=qhu hz';exact hk _ _ _ _ hk2
  | w x l ob rs =>
   have hz2:(bif v17 l f then qsx ⟨[(l,ob)],rs⟩ (k (qu0 e d x) (q1n h l ob) f) else .bad)=DR.st e1 h1 f1 es:=hz';cases hl:v17 l f with
   | false=>rw [hl] at hz2;cases hz2
   | true =>
    rw [hl,cond_true] at hz2;obtain⟨es',hk2,_⟩:=qhu hz2;exact hk _ _ _ _ hk2
  | new x ob rs=>obtain⟨es',hk2,_⟩:=qhu hz';exact v19 (hk _ _ _ _ hk2)
 | .call d fn args,e,h,f,es,hz=>by
  have hz':vi4 call d (vo e fn) (args.map (vo e)) e h f k (qm2 (ho h) 5000 (qpt (vo e fn)++qh4 (args.map (vo e))) [])=.st e1 h1 f1 es:=hz;generalize qm2 (ho h) 5000 (qpt (vo e fn)++qh4 (args.map (vo e))) []=oS at hz';cases oS with
  | none=>cases hz'
  | some S =>
  have hz2:(@KR.rec (fun _=>DR) .bad (fun x h' f'=>q69 d e h f k S x h' f' (qm2 (ho h') 5000 (qpt x++S) [])) (call (vo e fn) (args.map (vo e)) (mkH h S) f))=DR.st e1 h1 f1 es:=hz';generalize hc:call (vo e fn) (args.map (vo e)) (mkH h S) f=r at hz2;cases r with
  | bad=>cases hz2
  | r x h' f' =>
  have hz3:q69 d e h f k S x h' f' (qm2 (ho h') 5000 (qpt x++S) [])=DR.st e1 h1 f1 es:=hz2;generalize qm2 (ho h') 5000 (qpt x++S) []=oS' at hz3;cases oS' with
  | none=>cases hz3
  | some S' =>
  have hz4:(bif qx2 f (q38 S S') then qsx ⟨qm3 h h' S S',S++q38 S S'⟩ (k (qu0 e d x) (q37 h (qm3 h h' S S')) f') else .bad)=DR.st e1 h1 f1 es:=hz3;cases hnw:qx2 f (q38 S S') with
  | false=>rw [hnw] at hz4;cases hz4
  | true =>
  rw [hnw,cond_true] at hz4;obtain⟨es',hk2,_⟩:=qhu hz4;exact vzc (hm _ _ _ _ _ _ _ hc) (hk _ _ _ _ hk2)
 | .gd j want d i,e,h,f,es,hz=>by
  have hz':vo7 want d e h f k (q39 call i k e h f) (Ty.get .any e j)=.st e1 h1 f1 es:=hz;unfold vo7 at hz';split at hz'
  ·rename_i b hb;cases hbw:b == want with
   | true=>rw [hbw,cond_true] at hz';exact q0j hm hk i hz'
   | false=>rw [hbw,cond_false] at hz';obtain⟨es',hk2,_⟩:=qhu hz';exact hk _ _ _ _ hk2
  ·obtain⟨es',hk2,_⟩:=qhu hz';exact hk _ _ _ _ hk2
  ·cases hz'
 | .cpy tA x y d1 d2 d3,_,_,_,_,hz=>by cases hz
theorem q4e {call:qk7} (hm:∀v avs h f x h1 f1,call v avs h f=.r x h1 f1→f≤f1):∀(is:List IOp) {e:Ty AV} {h:Ty AO} {f:Nat} {e1:Ty AV} {h1:Ty AO} {f1:Nat} {es:List EvW},vi5 call is e h f=.st e1 h1 f1 es→f≤f1
 | [],_,_,_,_,_,_,_,hz=>by cases hz;exact vza _
 | i :: is,_,_,_,_,_,_,_,hz=>q0j hm (k:=vi5 call is) (fun e h f es hz=>q4e hm is hz) i hz
theorem q0k {call:qk7} (hm:∀v avs h f x h1 f1,call v avs h f=.r x h1 f1→f≤f1) {k:KE} {e1:Ty AV} {h1:Ty AO} {f1:Nat} (hk:∀e h f,k e h f=.st e1 h1 f1→f≤f1):∀(i:IOp) {e:Ty AV} {h:Ty AO} {f:Nat},q1q call i k e h f=.st e1 h1 f1→f≤f1
 | .bad,_,_,_,hz=>by cases hz
 | .f d g,e,h,f,hz=>by
  have hz':onRy d e h f k (g e h f)=.st e1 h1 f1:=hz;generalize g e h f=r at hz';cases r with
  | no=>cases hz'
  | v x rs=>exact hk _ _ _ hz'
  | w x l ob rs =>
   have hz2:(bif v17 l f then k (qu0 e d x) (q1n h l ob) f else .bad)=.st e1 h1 f1:=hz';cases hl:v17 l f with
   | false=>rw [hl] at hz2;cases hz2
   | true=>rw [hl,cond_true] at hz2;exact hk _ _ _ hz2
  | new x ob rs=>exact v19 (hk _ _ _ hz')
 | .call d fn args,e,h,f,hz=>by
  have hz':onK d e k (call (vo e fn) (args.map (vo e)) h f)=.st e1 h1 f1:=hz;generalize hr:call (vo e fn) (args.map (vo e)) h f=r at hz';cases r with
  | bad=>cases hz'
  | r x h2 f2=>exact vzc (hm _ _ _ _ _ _ _ hr) (hk _ _ _ hz')
 | .gd j want d i,e,h,f,hz=>by
  have hz':vo6 want d e h f k (q1q call i k e h f) (Ty.get .any e j)=.st e1 h1 f1:=hz;unfold vo6 at hz';split at hz'
  ·rename_i b hb;cases hbw:b == want with
   | true=>rw [hbw,cond_true] at hz';exact q0k hm hk i hz'
   | false=>rw [hbw,cond_false] at hz';exact hk _ _ _ hz'
  ·exact hk _ _ _ hz'
  ·cases hz'
 | .cpy tA x y d1 d2 d3,e,h,f,hz=>by
  have hz':q68 tA (vo e x) (vo e y) d1 d2 d3 e h f k=.st e1 h1 f1:=hz;unfold q68 at hz';split at hz'
  case h_2=>cases hz'
  split at hz'
  case h_2=>cases hz'
  split at hz'
  case h_2=>cases hz'
  generalize (_ && _)=c at hz';cases c with
  | false=>cases hz'
  | true=>exact hk _ _ _ hz'
theorem qya {call:qk7} (hm:∀v avs h f x h1 f1,call v avs h f=.r x h1 f1→f≤f1):∀(is:List IOp) {e:Ty AV} {h:Ty AO} {f:Nat} {e1:Ty AV} {h1:Ty AO} {f1:Nat},q89 call is e h f=.st e1 h1 f1→f≤f1
 | [],_,_,_,_,_,_,hz=>by cases hz;exact vza _
 | i :: is,_,_,_,_,_,_,hz=>q0k hm (k:=q89 call is) (fun e h f hz=>qya hm is hz) i hz
theorem q0l {call:qk7} (hc:qnl call) (hm:∀v avs h f x h1 f1,call v avs h f=.r x h1 f1→f≤f1) {k:KD} {e1:Ty AV} {h1:Ty AO} {f1:Nat} (hk:∀e h f es,qo6 h f→k e h f=.st e1 h1 f1 es→qo6 h1 f1):∀(i:IOp) {e:Ty AV} {h:Ty AO} {f:Nat} {es:List EvW},qo6 h f→q39 call i k e h f=.st e1 h1 f1 es→qo6 h1 f1
 | .bad,_,_,_,_,_,hz=>by cases hz
 | .f d g,e,h,f,es,hg,hz=>by
  have hz':onRD d e h f k (g e h f)=.st e1 h1 f1 es:=hz;generalize g e h f=r at hz';cases r with
  | no=>cases hz'
  | v x rs=>obtain⟨es',hk2,_⟩:=qhu hz';exact hk _ _ _ _ hg hk2
  | w x l ob rs =>
   have hz2:(bif v17 l f then qsx ⟨[(l,ob)],rs⟩ (k (qu0 e d x) (q1n h l ob) f) else .bad)=DR.st e1 h1 f1 es:=hz';cases hl:v17 l f with
   | false=>rw [hl] at hz2;cases hz2
   | true =>
    rw [hl,cond_true] at hz2;obtain⟨es',hk2,_⟩:=qhu hz2;exact hk _ _ _ _ (hg.set (vhf.1 hl)) hk2
  | new x ob rs=>obtain⟨es',hk2,_⟩:=qhu hz';exact hk _ _ _ _ hg.new hk2
 | .call d fn args,e,h,f,es,hg,hz=>by
  have hz':vi4 call d (vo e fn) (args.map (vo e)) e h f k (qm2 (ho h) 5000 (qpt (vo e fn)++qh4 (args.map (vo e))) [])=.st e1 h1 f1 es:=hz;generalize qm2 (ho h) 5000 (qpt (vo e fn)++qh4 (args.map (vo e))) []=oS at hz';cases oS with
  | none=>cases hz'
  | some S =>
  have hz2:(@KR.rec (fun _=>DR) .bad (fun x h' f'=>q69 d e h f k S x h' f' (qm2 (ho h') 5000 (qpt x++S) [])) (call (vo e fn) (args.map (vo e)) (mkH h S) f))=DR.st e1 h1 f1 es:=hz';generalize hcc:call (vo e fn) (args.map (vo e)) (mkH h S) f=r at hz2;cases r with
  | bad=>cases hz2
  | r x h' f' =>
  have hz3:q69 d e h f k S x h' f' (qm2 (ho h') 5000 (qpt x++S) [])=DR.st e1 h1 f1 es:=hz2;generalize qm2 (ho h') 5000 (qpt x++S) []=oS' at hz3;cases oS' with
  | none=>cases hz3
  | some S' =>
  have hz4:(bif qx2 f (q38 S S') then qsx ⟨qm3 h h' S S',S++q38 S S'⟩ (k (qu0 e d x) (q37 h (qm3 h h' S S')) f') else .bad)=DR.st e1 h1 f1 es:=hz3;cases hnw:qx2 f (q38 S S') with
  | false=>rw [hnw] at hz4;cases hz4
  | true =>
  rw [hnw,cond_true] at hz4;obtain⟨es',hk2,_⟩:=qhu hz4;exact hk _ _ _ _ (hg.diff (hc _ _ _ _ _ _ _ (hg.part S) hcc) (hm _ _ _ _ _ _ _ hcc)) hk2
 | .gd j want d i,e,h,f,es,hg,hz=>by
  have hz':vo7 want d e h f k (q39 call i k e h f) (Ty.get .any e j)=.st e1 h1 f1 es:=hz;unfold vo7 at hz';split at hz'
  ·rename_i b hb;cases hbw:b == want with
   | true=>rw [hbw,cond_true] at hz';exact q0l hc hm hk i hg hz'
   | false=>rw [hbw,cond_false] at hz';obtain⟨es',hk2,_⟩:=qhu hz';exact hk _ _ _ _ hg hk2
  ·obtain⟨es',hk2,_⟩:=qhu hz';exact hk _ _ _ _ hg hk2
  ·cases hz'
 | .cpy tA x y d1 d2 d3,_,_,_,_,_,hz=>by cases hz
theorem q4f {call:qk7} (hc:qnl call) (hm:∀v avs h f x h1 f1,call v avs h f=.r x h1 f1→f≤f1):∀(is:List IOp) {e:Ty AV} {h:Ty AO} {f:Nat} {e1:Ty AV} {h1:Ty AO} {f1:Nat} {es:List EvW},qo6 h f→vi5 call is e h f=.st e1 h1 f1 es→qo6 h1 f1
 | [],_,_,_,_,_,_,_,hg,hz=>by cases hz;exact hg
 | i :: is,_,_,_,_,_,_,_,hg,hz=>q0l hc hm (k:=vi5 call is) (fun e h f es hg hz=>q4f hc hm is hg hz) i hg hz
end
section
set_option linter.constructorNameAsVariable false
variable {P:Program} {C:Cx} {Q:Exit→St→Prop} {st:St}
def qt3 (ih:qo5):Prop:=∀(N:Nat) (c:Code) (e:Ty AV) (h:Ty AO) (f:Nat) (ex:Exit) (e1:Ty AV) (h1:Ty AO) (f1:Nat),ih N c e h f=.r ex e1 h1 f1→f≤f1
theorem vjg {e:Ty AV} {h:Ty AO} {f:Nat} {rs:List ResultVar} {x:AV} {h1:Ty AO} {f1:Nat} (hz:rsK P e h f rs=.r x h1 f1):h1=h∧f1=f:=by
 unfold rsK at hz;split at hz <;> cases hz <;> exact⟨rfl,rfl⟩
theorem q4g {ext:Ext} {ih:qo5} {k:FuncId} {avs:List AV} {h:Ty AO} {f:Nat} {x:AV} {h1:Ty AO} {f1:Nat} (hz:qx4 P ext ih k avs h f=.r x h1 f1):(h1=h∧f1=f)∨∃N c ex e1,ih N c (qv8 0 avs .e) h f=.r ex e1 h1 f1:=by
 unfold qx4 at hz;split at hz
 ·split at hz
  ·split at hz
   ·cases hz;exact .inl ⟨rfl,rfl⟩
   ·cases hz
  ·cases hz
 ·cases hc:vi8 P k with
  | bad=>rw [hc] at hz;cases hz
  | r N c rs =>
   rw [hc] at hz;have hz':(bif v16 avs.length N && v16 1000 f then vpc P rs (ih N c (qv8 0 avs .e) h f) else .bad)=KR.r x h1 f1:=hz;cases hcc:v16 avs.length N && v16 1000 f with
   | false=>rw [hcc] at hz';cases hz'
   | true =>
   rw [hcc,cond_true] at hz';generalize hrun:ih N c (qv8 0 avs .e) h f=cr at hz';cases cr with
   | bad=>cases hz'
   | r ex e1 h2 f2 =>
    have hres:rsK P e1 h2 f2 rs=.r x h1 f1:=by cases ex <;> first | exact hz' | cases hz'
    obtain⟨rfl,rfl⟩:=vjg hres;exact .inr ⟨N,c,ex,e1,hrun⟩
theorem q7c {ext:Ext} {ih:qo5} {v:AV} {avs:List AV} {h:Ty AO} {f:Nat} {x:AV} {h1:Ty AO} {f1:Nat} (hz:qt2 P ext ih v avs h f=.r x h1 f1):∃k cs,qqk v=some (k,cs)∧qx4 P ext ih k (avs++cs) h f=.r x h1 f1:=by
 unfold qt2 at hz;split at hz
 ·exact⟨_,_,rfl,hz⟩
 ·exact⟨_,_,rfl,hz⟩
 ·cases hz
theorem qvd {ext:Ext} {ih:qo5} (hm:qt3 ih):∀v avs h f x h1 f1,qt2 P ext ih v avs h f=.r x h1 f1→f≤f1:=by
 intro v avs h f x h1 f1 hz;obtain⟨k,cs,_,hz⟩:=q7c hz;rcases q4g hz with⟨_,rfl⟩|⟨N,c,ex,e1,hr⟩
 ·exact vza _
 ·exact hm _ _ _ _ _ _ _ _ _ hr
theorem q0m {ext:Ext} {ih:qo5} (hg:qrj ih):qnl (qt2 P ext ih):=by
 intro v avs h f x h1 f1 hgd hz;obtain⟨k,cs,_,hz⟩:=q7c hz;rcases q4g hz with⟨rfl,rfl⟩|⟨N,c,ex,e1,hr⟩
 ·exact hgd
 ·exact hg _ _ _ _ _ _ _ _ _ hgd hr
theorem vjh (hB:q9a P) {ext:Ext} (hE:vb0 P ext) {ih:qo5} (hi:q1r P ih) (hgd:qrj ih):qsz P (qt2 P ext ih):=by
 intro v avs h f x h1 f1 hl hf hge hz;obtain⟨k,cs,hc,hz⟩:=q7c hz;exact⟨k,cs,hc,q9c hB hE hi hgd hl hf hge hz⟩
theorem qve {k:Ty AV→Ty AO→Nat→CR} {r:CR} {ex:Exit} {e1:Ty AV} {h1:Ty AO} {f1:Nat} (hz:vpa k r=.r ex e1 h1 f1):(∃e h f,r=.r .normal e h f∧k e h f=.r ex e1 h1 f1)∨(r=.r ex e1 h1 f1∧ex≠.normal):=by
 cases r with
 | bad=>cases hz
 | r x e h f =>
  cases x with
  | normal=>exact .inl ⟨e,h,f,rfl,hz⟩
  | _=>refine .inr ⟨?_,?_⟩ <;> cases hz <;> first | rfl | exact fun h=>by cases h
theorem qyb {id:Nat} {r:CR} {ex:Exit} {e1:Ty AV} {h1:Ty AO} {f1:Nat} (hz:vfk id r=.r ex e1 h1 f1):(r=.r (.exit id) e1 h1 f1∧ex=.normal)∨(r=.r ex e1 h1 f1∧ex≠.exit id):=by
 cases r with
 | bad=>cases hz
 | r x e h f =>
  cases x with
  | exit i =>
   have hz':(bif v1f i id then CR.r .normal e h f else .r (.exit i) e h f)=.r ex e1 h1 f1:=hz;rw [qy1] at hz';by_cases hi:i=id
   ·subst hi;simp only [decide_true,cond_true] at hz';cases hz';exact .inl ⟨rfl,rfl⟩
   ·simp only [hi,decide_false,cond_false] at hz';cases hz';exact .inr ⟨rfl,fun h=>hi (by cases h;rfl)⟩
  | _=>refine .inr ⟨?_,?_⟩ <;> cases hz <;> first | rfl | exact fun h=>by cases h
theorem vfs {r:EZ} {ex:Exit} {e1:Ty AV} {h1:Ty AO} {f1:Nat} (hz:vfl r=.r ex e1 h1 f1):r=.st e1 h1 f1∧ex=.normal:=by
 cases r with
 | bad=>cases hz
 | st e h f=>cases hz;exact⟨rfl,rfl⟩
theorem vph {call:qk7} {ps:List (Nat×Nat)} {post:List IOp} {r:DR} {ex:Exit} {e1:Ty AV} {h1:Ty AO} {f1:Nat} (hz:vpb call ps post r=.r ex e1 h1 f1):∃e h f es,r=.st e h f es∧qt1 es ps=true∧q89 call post e h f=.st e1 h1 f1∧ex=.normal:=by
 cases r with
 | bad=>cases hz
 | st e h f es =>
  have hz':(bif qt1 es ps then vfl (q89 call post e h f) else .bad)=CR.r ex e1 h1 f1:=hz;cases hp:qt1 es ps with
  | false=>rw [hp] at hz';cases hz'
  | true =>
   rw [hp,cond_true] at hz';obtain⟨q1,q2⟩:=vfs hz';exact⟨e,h,f,es,rfl,hp,q1,q2⟩
structure CodeAll (P:Program) (ih:qo5):Prop where
 mono:qt3 ih
 good:qrj ih
 ok:q1r P ih
theorem q1x {N id:Nat} {l:Array Oper} {d:Bool} {ext:Ext} {ih:qo5} {e:Ty AV} {h:Ty AO} {f:Nat} {ex:Exit} {e1:Ty AV} {h1:Ty AO} {f1:Nat} (hz:vbz P ext ih N (.region id l d) e h f=.r ex e1 h1 f1) :
  ex=.normal∧((d=false∧q89 (qt2 P ext ih) (q1p P N l l.toList) e h f=.st e1 h1 f1) ∨
   (d=true∧qh2 l=true∧∃T e2 h2 f2 es,qxy l T=true∧T≤l.size∧vi5 (qt2 P ext ih) ((l.toList.take T).map (qsw P N l)) e h f=.st e2 h2 f2 es∧qt1 es (vfj l T)=true ∧
    q89 (qt2 P ext ih) ((l.toList.drop T).map (qsw P N l)) e2 h2 f2=.st e1 h1 f1)):=by
 cases d with
 | false =>
  have hz':vfl (q89 (qt2 P ext ih) (q1p P N l l.toList) e h f)=.r ex e1 h1 f1:=hz;obtain⟨q1,q2⟩:=vfs hz';exact⟨q2,.inl ⟨rfl,q1⟩⟩
 | true =>
  generalize hT:vo8 l l.size 0=T at hz;have hcomp:vuh P N (.region id l true)=vo9 P N l T:=by rw [←hT];rfl
  unfold vbz at hz;rw [hcomp] at hz;unfold vo9 at hz;cases hc:qh2 l && (qxy l T && v16 T l.size) with
  | false=>rw [hc] at hz;cases hz
  | true =>
   rw [hc,cond_true] at hz;simp only [vxh] at hc;have hz':vpb (qt2 P ext ih) (vfj l T) ((l.toList.drop T).map (qsw P N l)) (vi5 (qt2 P ext ih) ((l.toList.take T).map (qsw P N l)) e h f)=.r ex e1 h1 f1:=hz;obtain⟨e2,h2,f2,es,q1,q2,q3,q4⟩:=vph hz';exact⟨q4,.inr ⟨rfl,hc.1,T,e2,h2,f2,es,hc.2.1,v18 hc.2.2,q1,q2,q3⟩⟩
theorem vb1 {ext:Ext} {ih:qo5} (hm:qt3 ih):qt3 (vbz P ext ih):=by
 intro N c e h f ex e1 h1 f1 hz;have hcm:=qvd (P:=P) (ext:=ext) hm;cases c with
 | skip=>cases hz;exact vza _
 | ret=>cases hz;exact vza _
 | exit id=>cases hz;exact vza _
 | seq a b =>
  rcases qve (k:=fun e h f=>ih N b e h f) (r:=ih N a e h f) hz with⟨e2,h2,f2,q1,q2⟩|⟨q1,_⟩
  ·exact vzc (hm _ _ _ _ _ _ _ _ _ q1) (hm _ _ _ _ _ _ _ _ _ q2)
  ·exact hm _ _ _ _ _ _ _ _ _ q1
 | cond x a b =>
  have hz':qx3 (vo e (opd x)) (ih N a e h f) (ih N b e h f)=.r ex e1 h1 f1:=hz;unfold qx3 at hz';split at hz'
  ·rename_i t _;cases t
   ·exact hm _ _ _ _ _ _ _ _ _ hz'
   ·exact hm _ _ _ _ _ _ _ _ _ hz'
  ·cases hz'
 | block id b =>
  rcases qyb (r:=ih N b e h f) hz with⟨q1,_⟩|⟨q1,_⟩
  ·exact hm _ _ _ _ _ _ _ _ _ q1
  ·exact hm _ _ _ _ _ _ _ _ _ q1
 | loop b =>
  rcases qve (k:=fun e h f=>ih N (.loop b) e h f) (r:=ih N b e h f) hz with⟨e2,h2,f2,q1,q2⟩|⟨q1,_⟩
  ·exact vzc (hm _ _ _ _ _ _ _ _ _ q1) (hm _ _ _ _ _ _ _ _ _ q2)
  ·exact hm _ _ _ _ _ _ _ _ _ q1
 | region id l d =>
  obtain⟨_,⟨_,q⟩|⟨_,_,T,e2,h2,f2,es,_,_,q1,_,q2⟩⟩:=q1x hz
  ·exact qya hcm _ q
  ·exact vzc (q4e hcm _ q1) (qya hcm _ q2)
 | _=>cases hz
theorem vb2 {ext:Ext} {ih:qo5} (hm:qt3 ih) (hg:qrj ih):qrj (vbz P ext ih):=by
 intro N c e h f ex e1 h1 f1 hgd hz;have hcm:=qvd (P:=P) (ext:=ext) hm;have hcg:=q0m (P:=P) (ext:=ext) hg;cases c with
 | skip=>cases hz;exact hgd
 | ret=>cases hz;exact hgd
 | exit id=>cases hz;exact hgd
 | seq a b =>
  rcases qve (k:=fun e h f=>ih N b e h f) (r:=ih N a e h f) hz with⟨e2,h2,f2,q1,q2⟩|⟨q1,_⟩
  ·exact hg _ _ _ _ _ _ _ _ _ (hg _ _ _ _ _ _ _ _ _ hgd q1) q2
  ·exact hg _ _ _ _ _ _ _ _ _ hgd q1
 | cond x a b =>
  have hz':qx3 (vo e (opd x)) (ih N a e h f) (ih N b e h f)=.r ex e1 h1 f1:=hz;unfold qx3 at hz';split at hz'
  ·rename_i t _;cases t
   ·exact hg _ _ _ _ _ _ _ _ _ hgd hz'
   ·exact hg _ _ _ _ _ _ _ _ _ hgd hz'
  ·cases hz'
 | block id b =>
  rcases qyb (r:=ih N b e h f) hz with⟨q1,_⟩|⟨q1,_⟩
  ·exact hg _ _ _ _ _ _ _ _ _ hgd q1
  ·exact hg _ _ _ _ _ _ _ _ _ hgd q1
 | loop b =>
  rcases qve (k:=fun e h f=>ih N (.loop b) e h f) (r:=ih N b e h f) hz with⟨e2,h2,f2,q1,q2⟩|⟨q1,_⟩
  ·exact hg _ _ _ _ _ _ _ _ _ (hg _ _ _ _ _ _ _ _ _ hgd q1) q2
  ·exact hg _ _ _ _ _ _ _ _ _ hgd q1
 | region id l d =>
  obtain⟨_,⟨_,q⟩|⟨_,_,T,e2,h2,f2,es,_,_,q1,_,q2⟩⟩:=q1x hz
  ·exact qx7 hcg _ hgd q
  ·exact qx7 hcg _ (q4f hcg hcm _ hgd q1) q2
 | _=>cases hz
theorem vft (hB:q9a P) (hmo:P.follows .mixedOrders=true) {ext:Ext} (hE:vb0 P ext) (n:Nat):CodeAll P (qsy P ext n):=by
 induction n using v1j with
 | _ n ihs =>
 cases n with
 | zero =>
  refine⟨?_,?_,?_⟩
  ·intro N c e h f ex e1 h1 f1 hz;cases hz
  ·intro N c e h f ex e1 h1 f1 _ hz;cases hz
  ·intro C c e h f ex e1 h1 f1 st Q _ _ hz;cases hz
 | succ n =>
  obtain⟨hm,hg,hi⟩:=ihs n (vze n);refine⟨vb1 (P:=P) (ext:=ext) hm,vb2 (P:=P) (ext:=ext) hm hg,?_⟩;have hcm:=qvd (P:=P) (ext:=ext) hm;have hcg:=q0m (P:=P) (ext:=ext) hg;have hco:=vjh hB hE hi hg;intro C c e h f ex e1 h1 f1 st Q hP hN hz hR hQ;have hz:vbz P ext (qsy P ext n) C.N c e h f=.r ex e1 h1 f1:=hz;cases c with
  | skip=>cases hz;exact qrd (hQ st hR)
  | ret=>cases hz;exact qxc (hQ st hR)
  | exit id=>cases hz;exact q8n (hQ st hR)
  | seq a b =>
   rcases qve (k:=fun e h f=>qsy P ext n C.N b e h f) (r:=qsy P ext n C.N a e h f) hz with⟨e2,h2,f2,q1,q2⟩|⟨q1,hne⟩
   ·exact qh1 (hi C a _ _ _ _ _ _ _ st _ hP hN q1 hR fun st1 hR1=>hi C b _ _ _ _ _ _ _ st1 Q hP hN q2 hR1 hQ)
   ·refine qh1 (hi C a _ _ _ _ _ _ _ st _ hP hN q1 hR fun st1 hR1=>?_);have:=hQ st1 hR1;cases ex <;> first | exact (hne rfl).elim | exact this
  | cond x a b =>
   have hz':qx3 (vo e (opd x)) (qsy P ext n C.N a e h f) (qsy P ext n C.N b e h f)=.r ex e1 h1 f1:=hz;unfold qx3 at hz';split at hz'
   ·rename_i t ht;rw [qgk,hR.evf] at ht;refine q05 ht (fun hh=>?_) fun hh=>?_
    ·subst hh;exact hi C a _ _ _ _ _ _ _ st Q hP hN hz' hR hQ
    ·subst hh;exact hi C b _ _ _ _ _ _ _ st Q hP hN hz' hR hQ
   ·cases hz'
  | block id b =>
   rcases qyb (r:=qsy P ext n C.N b e h f) hz with⟨q1,rfl⟩|⟨q1,hne⟩
   ·refine qxd (hi C b _ _ _ _ _ _ _ st _ hP hN q1 hR fun st1 hR1=>?_);simp only [qqa,if_true];exact hQ st1 hR1
   ·refine qxd (hi C b _ _ _ _ _ _ _ st _ hP hN q1 hR fun st1 hR1=>?_);have:=hQ st1 hR1;cases ex with
    | exit i =>
     simp only [qqa];rw [if_neg (fun h=>hne (by rw [h]))];exact this
    | _=>exact this
  | loop b =>
   have key:∀m,m≤n+1→∀e h f st,qsy P ext m C.N (.loop b) e h f=.r ex e1 h1 f1→RepV e h f st→∀inj a w,SR C st inj a w→Code.rounds C.P b (vht C Q) m a w:=by
    intro m
    induction m with
    | zero=>intro _ e h f st h;cases h
    | succ m ihm =>
     intro hmn e h f st hz hR inj a w hs;have hi':q1r P (qsy P ext m):=(ihs m (by omega)).ok;rw [rounds_succ];rcases qve (k:=fun e h f=>qsy P ext m C.N (.loop b) e h f) (r:=qsy P ext m C.N b e h f) hz with⟨e2,h2,f2,q1,q2⟩|⟨q1,hne⟩
     ·refine wp_mono (hi' C b _ _ _ _ _ _ _ st (fun e s=>e=.normal∧RepV e2 h2 f2 s) hP hN q1 hR (fun s hs=>⟨rfl,hs⟩) inj a w hs) ?_;rintro e' a' w' ⟨s,i,h2,rfl,h3⟩;exact ihm (by omega) _ _ _ s q2 h3 i a' w' h2
     ·refine wp_mono (hi' C b _ _ _ _ _ _ _ st (fun e s=>e=ex∧Q e s) hP hN q1 hR (fun s h=>⟨rfl,hQ s h⟩) inj a w hs) ?_;rintro e' a' w' ⟨s,i,h2,rfl,h3⟩;cases e' <;> first | exact (hne rfl).elim | exact⟨s,i,h2,h3⟩
   intro inj a w hs;exact wp_loop_rounds (n+1) (key (n+1) (vza _) e h f st hz hR inj a w hs)
  | region id l d =>
   subst hP;have hl:l=l.toList.toArray:=by simp
   obtain⟨rfl,⟨rfl,q⟩|⟨rfl,hsl,T,e2,h2,f2,es,hT1,hT2,q1,hpw,q2⟩⟩:=q1x hz
   ·have:=qgj (C:=C) (id:=id) (l:=l.toList) (vfn hco rfl hN (by rw [←hl];exact ILs.comp C.P C.N l _ l.toList (vza _)) hR q hQ);rw [←hl] at this;exact this
   ·obtain⟨ms,st1,d1,d2,d3⟩:=vfr hco hcg hcm rfl hN (l.toList.take T) e h f st e2 h2 f2 es hR q1;have hlen:ms.length≤T:=by
     have:=(d1.chain 0 (fun j hj=>by
      rw [vyi] at hj;rw [vya,if_pos (by omega)];simp)).1
     rw [this,vyi];omega
    have hev:=vpg (ops:=l) hlen (by rw [d3];exact hpw);have:=vbu (C:=C) T (id:=id) (l:=l.toList) (Q:=Q) hmo (by rw [←hl];exact hsl) (by simpa using hT2) (by rw [←hl];exact hT1) (by rw [←hl];exact d1) (by rw [←hl];exact hev)
     (vfn hco rfl hN (by rw [←hl];exact ILs.map C.P C.N l _) d2 q2 hQ)
    rw [←hl] at this;exact this
  | _=>cases hz
theorem vji (hB : (P.funcs.all fun fn => !(fn.name == "runtime.NumGoroutine")) = true) (hmo : P.follows .mixedOrders = true) {ext : Ext} (hE : vb0 P ext) {n : Nat} {k : FuncId} {args : List PV} {x : AV} {h1 : Ty AO} {f1 : Nat} {r : PV} {D : Prop}
  (hz:qx4 P ext (qsy P ext n) k (args.map .p) .e 1000=.r x h1 f1) (hv:(qdn (fun _=>true) 9 x).run (ho h1)=some r):vhv D P k args r:=by
 obtain⟨hm,hg,hi⟩:=vft (q4a hB) hmo hE n;obtain⟨_,_,_,_,hW⟩:=q9c (q4a hB) hE hi hg ⟨[],vq2.symm⟩ (fun l _=>by rw [vq2];rfl) (vza _) hz;intro X w vs hX hT hargs;have hnoF:∀b,¬F (fun _=>none) (ho .e) b:=by
  rintro b ⟨l,c,o,h1,h2,_⟩;rw [vq2] at h1;simp only [qa0] at h1;subst h1;cases h2
 have keep:Keeps X (fun b=>X b∨F (fun _=>none) (ho .e) b) w w:=⟨vza _,fun _ _ _=>rfl,fun b _ hx hn=>hn.elim hx (hnoF b)⟩;have hr:HR X (fun _=>none) (ho .e) w:=by
  refine⟨fun l o ho'=>?_,fun l l' o o' b c c' h1 h2 h3=>?_,hX⟩
  ·rw [vq2] at ho';simp only [qa0] at ho';subst ho';trivial
  ·rw [vq2] at h1;simp only [qa0] at h1;subst h1;cases h3
 refine (hW D X (fun _=>none) w vs hr (hT.keep keep) (qbe.2 (PRs.keep keep args vs hargs))).mono ?_;rintro e w' ⟨val,rfl,inj',q1,q2,q3⟩;refine⟨val,rfl,?_,⟨q2.os,q2.tape,q2.output,q2.dr,q2.size,q2.fz,fun b hb=>q2.blk b hb (hnoF b)⟩⟩;have:=qds q1 (fun _=>true) 9 x val r q3 hv;exact PR.keep ⟨vza _,fun _ _ _=>rfl,fun b _ hx hn=>hx (.inl hn)⟩ r val this
end
section
def vpi:KR→Bool
 | .r (.p (.bool true)) ..=>true
 | _=>false
theorem q1y {P : Program} {D : Prop} {ext : Ext} {n : Nat} {k : FuncId} (hB : (P.funcs.all fun fn => !(fn.name == "runtime.NumGoroutine")) = true) (hmo : P.follows .mixedOrders = true) (hE : vb0 P ext)
  (h:vpi (qx4 P ext (qsy P ext n) k [] .e 1000)=true):vhv D P k [] (.bool true):=by
 generalize hz:qx4 P ext (qsy P ext n) k [] .e 1000=z at h;unfold vpi at h;split at h
 ·rename_i h1 f1;exact vji hB hmo hE (args:=[]) hz rfl
 ·cases h
theorem vpj {n:Nat} (hn:n < 128):Utf8.encode (n:Int)=⟨#[UInt8.ofNat n]⟩:=by
 have h128:∀m:Fin 128,(Utf8.encode (m.val:Int)).data=#[UInt8.ofNat m.val]:=by decide +kernel
 have:=h128 ⟨n,hn⟩;cases hb:Utf8.encode (n:Int) with
 | mk d=>rw [hb] at this;exact congrArg ByteArray.mk this
theorem vpk {D:Prop} {P:Program} {o:Oper} {s d:TypeId} {x:Operand} {ρ:Operand→AV} {σ:Nat→AO} {k kk:IntKind} {n:Int} (ho:o.op=.convert s d x)
  (hs:P.underlying s=some (.int kk)) (hd:P.underlying d=some .string) (hx0:ρ x=.p (.int k n)) (h0:0≤n) (hn:n < 128):OpU D P o ρ σ (.p (.str [UInt8.ofNat n.toNat])) none []:=by
 intro X ρ' σ' hρ _ inj w a next Q hr hT ha hnx
 have hx:=ha x;rw [hρ x (by rw [ho];simp [Op.operands]),hx0] at hx;simp only [AR,PR] at hx;obtain⟨m,rfl⟩:=v1v h0;have he:=vpj (n:=m) (by omega);have hrun:(execOp a.eval o).run P w=.ok (.value (.string ⟨#[UInt8.ofNat m]⟩)) w:=by
  obtain⟨dst,op,type,pos,after,guard⟩:=o;simp only at ho;subst ho;simp [execOp,convert,run_underlying hs,run_underlying hd,hx,Conv.intToString,he]
 unfold Oper.wp;rw [hrun];exact hnx _ w inj hr (Ev.refl _ _ _ _) rfl
variable {C:Cx} {Q:Exit→St→Prop} {st:St}
theorem zChr {ops:Array Oper} {o:Oper} {rest:List Oper} {s d:TypeId} {x:Operand} {k kk:IntKind} {n:Int} (h0:0≤n) (hn:n < 128) (hs:C.P.underlying s=some (.int kk)) (hd:C.P.underlying d=some .string)
  (h:AL C ops rest Q ⟨qdh st.env o.dst (.p (.str [UInt8.ofNat n.toNat])),st.heap⟩)
  (ho:o.op=.convert s d x:=by rfl) (hgd:qau ops st.env o=some true:=by first | exact qaw rfl | exact qbh rfl rfl (by exact rfl) (by exact rfl)) (hdd:qbg C.N o=true:=by rfl)
  (hx:ev st.env x=.p (.int k n):=by simp only [go_sem,seval, *];all_goals rfl):AL C ops (o :: rest) Q st:=by
 intro inj a w hs';simp only [wpList,qa9 hs' hgd,if_true];exact .inl (vpk ho hs hd hx h0 hn C.X (ev st.env) st.sig (fun _ _=>rfl) (fun _ _=>rfl) hs'.hr (qmb hs'.ev) (fun x=>hs'.eval x) fun val w' inj' h1 h2 h3=>h inj' _ _ (hs'.put (u:=none) hdd h1 h2 h3))
end
section
variable {C:Cx} {Q:Exit→St→Prop} {st:St}
def isSl:AV→Bool
 | .p (.slc _)=>true
 | .nils=>true
 | .own _ _ _ _=>true
 | _=>false
theorem vjj (es:List PV):isSl (.p (.slc es))=true:=rfl
theorem vfu:isSl .nils=true:=rfl
theorem vjk (l g off len:Nat):isSl (.own l g off len)=true:=rfl
attribute [go_sem] vjj vfu vjk
def isInt:AV→Bool
 | .p (.int _ _)=>true
 | _=>false
theorem vfv (k:IntKind) (n:Int):isInt (.p (.int k n))=true:=rfl
def vuk:AV→Bool
 | .p p=>vl2 p
 | _=>false
theorem vfw (k:IntKind) (n:Int):vuk (.p (.int k n))=true:=rfl
theorem vb3 (b:Bool):vuk (.p (.bool b))=true:=rfl
attribute [go_sem] vfv vfw vb3
end
end Go.Ab
namespace Go.Ab
structure Bx (q:Prop):Prop where
 o:q
variable {p q r:Prop}
theorem M0(h:r)(H:Bx r→p:=by intro h;obtain⟨h⟩:=h;refine zU<|zl ?_;cases h;exact⟨rfl,zE⟩):p:=H ⟨h⟩
theorem M1(h:r)(e:q)(H:Bx r→Bx q→p:=by intro h k;obtain⟨h⟩:=h;refine zU<|zl<|zn<|zq ?_;cases h;exact zT k.1):p:=H ⟨h⟩ ⟨e⟩
theorem M2(h:r)(e:q)(H:Bx r→Bx q→p:=by intro h k;obtain⟨h⟩:=h;refine zi<|zs<|zr ?_;refine zU<|zl<|zn<|zq<|zt ?_;cases h;exact zT k.1):p:=H ⟨h⟩ ⟨e⟩
theorem M3(h:r)(H:Bx r→p:=by intro h;obtain⟨h⟩:=h;refine zj<|zx<|ze ?_;cases h;exact⟨rfl,zE⟩):p:=H ⟨h⟩
theorem M4(k:q)(H:Bx q→p:=by intro k;refine zi<|zs<|zr ?_;refine zU<|zl<|zn<|zq<|yr<|zt ?_;exact k.1):p:=H ⟨k⟩
theorem M5(h:r)(H:Bx r→p:=by intro h;obtain⟨h⟩:=h;try simp only at h;refine zZ fun s hq=>?_;refine yr<|zt ?_;cases h;exact hq):p:=H ⟨h⟩
theorem M6(k:q)(H:Bx q→p:=by intro k;refine zg ?_;refine zg ?_;refine zg ?_;exact k.1):p:=H ⟨k⟩
theorem M7(k:q)(H:Bx q→p:=by intro k;refine zU<|zl<|zn<|zs<|zs<|zr ?_;refine zU<|zl<|zn<|zb ?_;exact k.1):p:=H ⟨k⟩
theorem M8(k:q)(H:Bx q→p:=by intro k;refine zU<|zl<|zn<|zs<|zr ?_;exact k.1):p:=H ⟨k⟩
theorem M9(k:q)(H:Bx q→p:=by intro k;refine zs<|zr ?_;refine zU<|zl<|zn<|zs ?_;exact k.1):p:=H ⟨k⟩
theorem Ma(k:q)(H:Bx q→p:=by intro k;refine zU<|zl<|zn ?_;exact k.1):p:=H ⟨k⟩
theorem Mb(k:q)(H:Bx q→p:=by intro k;refine zi<|zk<|zn<|zs<|zb<|zs<|zr ?_;exact k.1):p:=H ⟨k⟩
theorem Mc(k:q)(H:Bx q→p:=by intro k;refine zU<|zl<|zn<|zs<|zs<|zr ?_;exact k.1):p:=H ⟨k⟩
theorem Md(k:q)(H:Bx q→p:=by intro k;refine zj<|zk<|yn<|zn<|zr ?_;exact k.1):p:=H ⟨k⟩
theorem Me(k:q)(H:Bx q→p:=by intro k;refine zA<|yh<|zn<|zs<|zr ?_;exact k.1):p:=H ⟨k⟩
theorem Mf(k:q)(H:Bx q→p:=by intro k;refine yg ?_;refine yg ?_;refine yg ?_;exact k.1):p:=H ⟨k⟩
theorem Mg(k:q)(H:Bx q→p:=by intro k;refine zh ?_;refine zU ?_;refine zh ?_;exact k.1):p:=H ⟨k⟩
theorem Mh(k:q)(H:Bx q→p:=by intro k;refine zj<|zk<|zn<|zs<|zs<|zr ?_;refine zU<|zl<|zn<|zb ?_;exact k.1):p:=H ⟨k⟩
theorem Mi(k:q)(H:Bx q→p:=by intro k;refine zj<|zk<|zn<|zs<|zr ?_;exact k.1):p:=H ⟨k⟩
theorem Mj(k:q)(H:Bx q→p:=by intro k;refine zg ?_;refine zg ?_;exact k.1):p:=H ⟨k⟩
theorem Mk(k:q)(H:Bx q→p:=by intro k;refine zs<|zr ?_;exact k.1):p:=H ⟨k⟩
theorem Ml(k:q)(H:Bx q→p:=by intro k;refine zU<|zl<|yn<|zn<|zr ?_;exact k.1):p:=H ⟨k⟩
theorem Mm(k:q)(H:Bx q→p:=by intro k;refine zi<|zs<|zr ?_;refine zU<|zl<|zn<|zq<|zt<|yr<|zt ?_;exact k.1):p:=H ⟨k⟩
theorem Mn(k:q)(H:Bx q→p:=by intro k;refine zU<|zl<|zn<|zq<|zt ?_;exact k.1):p:=H ⟨k⟩
theorem Mo(k:q)(H:Bx q→p:=by intro k;refine yU ?_;refine yd<|zn ?_;exact k.1):p:=H ⟨k⟩
theorem Mp(k:q)(H:Bx q→p:=by intro k;refine zi<|zs<|zr ?_;exact k.1):p:=H ⟨k⟩
theorem Mq(h:r)(e:q)(H:Bx r→Bx q→p:=by intro h k;obtain⟨h⟩:=h;refine zU<|zl<|zn<|zq<|yr<|zt ?_;cases h;exact zT k.1):p:=H ⟨h⟩ ⟨e⟩
theorem Mr(h:r)(H:Bx r→p:=by intro h;obtain⟨h⟩:=h;cases h;exact⟨rfl,zE⟩):p:=H ⟨h⟩
theorem Ms(k:q)(H:Bx q→p:=by intro k;refine zU<|zl<|zn<|zq ?_;exact k.1):p:=H ⟨k⟩
theorem Mt(k:q)(H:Bx q→p:=by intro k;refine zj<|zk<|zn<|zs<|zs<|zr ?_;exact k.1):p:=H ⟨k⟩
theorem Mu(h:r)(e:q)(H:Bx r→Bx q→p:=by intro h k;obtain⟨h⟩:=h;refine yU ?_;refine yd<|zn<|zq ?_;cases h;exact zT k.1):p:=H ⟨h⟩ ⟨e⟩
theorem Mv(k:q)(H:Bx q→p:=by intro k;dsimp only;refine zs<|zs<|zr ?_;exact k.1):p:=H ⟨k⟩
theorem Mw(k:q)(H:Bx q→p:=by intro k;refine zU<|zl<|zn<|zs<|zd ?_;exact k.1):p:=H ⟨k⟩
theorem Mx(k:q)(H:Bx q→p:=by intro k;refine yU ?_;refine yd<|yn<|zn<|zr ?_;exact k.1):p:=H ⟨k⟩
theorem My(k:q)(H:Bx q→p:=by intro k;refine zU<|zl<|zn<|zr ?_;exact k.1):p:=H ⟨k⟩
theorem Mz(k:q)(H:Bx q→p:=by intro k;refine zj<|zs<|zr ?_;exact k.1):p:=H ⟨k⟩
theorem T0(k:q)(H:Bx q→p:=by intro k;refine zU<|zl<|zn<|zb ?_;exact k.1):p:=H ⟨k⟩
theorem T1(k:q)(H:Bx q→p:=by intro k;refine zi<|zk<|zn<|zs<|zb<|zs<|zd ?_;exact k.1):p:=H ⟨k⟩
theorem T2(k:q)(H:Bx q→p:=by intro k;refine zj<|zk<|yn<|zn<|zs<|zr ?_;exact k.1):p:=H ⟨k⟩
theorem T3(h:r)(e:q)(H:Bx r→Bx q→p:=by intro h k;obtain⟨h⟩:=h;cases h;exact zT k.1):p:=H ⟨h⟩ ⟨e⟩
theorem T4(k:q)(H:Bx q→p:=by intro k;refine zg ?_;refine zU ?_;exact k.1):p:=H ⟨k⟩
theorem T5(k:q)(H:Bx q→p:=by intro k;refine yU ?_;refine yd<|zn<|zs<|zr ?_;exact k.1):p:=H ⟨k⟩
theorem T6(k:q)(H:Bx q→p:=by intro k;refine yU ?_;refine yd<|zn<|zs<|zs<|zr ?_;exact k.1):p:=H ⟨k⟩
theorem T7(k:q)(H:Bx q→p:=by intro k;refine zs<|zs<|zr ?_;exact k.1):p:=H ⟨k⟩
theorem T8(k:q)(H:Bx q→p:=by intro k;refine zl<|zn<|zs<|zr ?_;exact k.1):p:=H ⟨k⟩
theorem T9(k:q)(H:Bx q→p:=by intro k;refine zi<|zr ?_;refine zU<|zl<|yn<|zn<|zs<|zr ?_;exact k.1):p:=H ⟨k⟩
theorem Ta(k:q)(H:Bx q→p:=by intro k;refine zA<|yh<|zn<|zs<|zs<|zr ?_;exact k.1):p:=H ⟨k⟩
theorem Tb(k:q)(H:Bx q→p:=by intro k;refine zj<|zk<|zn<|zs<|zd ?_;exact k.1):p:=H ⟨k⟩
theorem Tc(k:q)(H:Bx q→p:=by intro k;refine zA<|yh<|yn<|zn<|zr ?_;exact k.1):p:=H ⟨k⟩
theorem Td(k:q)(H:Bx q→p:=by intro k;refine zi<|zx<|ze<|yh<|zn<|zr ?_;exact k.1):p:=H ⟨k⟩
end Go.Ab
