/- -/
import Derived.Shelf.Strings.Builder1
import Derived.Lib.AppendStr
import Derived.ProofKit
import Derived.Laws.IdiomCopy
import Derived.KernelRfl
import Derived.OrdersHeld
import Derived.Shelf.Spec.SlicesInsertGrow
import Derived.Test.YtkebadaokhljmaaGreatDoorA2
set_option linter.unusedVariables false
set_option linter.unusedSimpArgs false
open Array renaming getD_eq_getD_getElem?→v60,getElem?_append→v2a,getElem?_eq_some_iff→v2b,getElem?_modify→v5i,getElem?_replicate→v61,getElem?_setIfInBounds_ne→v2d,length_toList→v2f,replicate→v62
open Bool renaming and_eq_true→v2m,eq_false_iff→v5k,false_eq_true→v2o,not_eq_true'→v2q
open Iff renaming rfl→v65
open Go.IntKind renaming i64→v67,u32→v68
open Go.Lib renaming byteCells→v69,run_unsafeSliceData_row→v7a
open List renaming cons_append→v5p,eq_nil_of_length_eq_zero→v26,flatMap_cons→v5r,flatMap_map→v7b,getD_eq_getElem?_getD→v5s,getD_nil→v7c,getElem?_cons_succ→v5t,getElem?_cons_zero→v5u,getElem?_eq_getElem→v3d,getElem?_eq_none→v3e,getElem?_eq_some_iff→v3f,getElem?_map→v3g,getElem?_take→v3j,length_cons→v5y,length_drop→v3m,length_map→v3n,length_nil→v3o,length_take→v3r,map_congr_left→v59,map_cons→v3t,map_take→v7d,mem_append→v3v,mem_append_left→v6b,mem_append_right→v6c,mem_cons→v6d,mem_cons_of_mem→v6e,mem_cons_self→v6f,mem_filter→v6g,mem_flatMap→v3w,mem_map→v6h,mem_or_eq_of_mem_set→v30,mem_range→v6j,not_mem_nil→v7e,range→v34,set_cons_zero→v7f,size_toArray→v4b
open Nat renaming add→v7g,add_right_cancel→v7h,add_zero→v4k,beq→v6q,ble→v7i,blt→v7j,le_of_ble_eq_true→v7k,le_of_succ_le→v7l,le_refl→v4o,le_succ→v4p,le_succ_of_le→v7m,le_trans→v4q,lt_of_lt_of_le→v4r,lt_trichotomy→v6r,min→v7n,mul_le_mul_right→v4v,strongRecOn→v6t,sub→v7o,sub_zero→v4y,succ→v7p,zero_add→v4z,zero_le→v6w,zero_mul→v7q
open Option renaming bind_some→v40,isSome_iff_exists→v47
open Option.some renaming injEq→v5a
open Go.Result renaming andThen→v7r,andThen_ok→v5c
open Go.Sem renaming run_bind→v5e,run_pure→v5f
noncomputable section
namespace Go.Lib
open Go.RowKit
structure FzK (w w':World):Prop where
 fz:∀a:Addr,a.block < w.heap.size→w'.frozen? a=w.frozen? a
section
variable {P:Program} (w:World)
theorem qpm (t u ty e:TypeId) (i:TypeInfo) (ht:P.underlying t=some (.slice e)) (hu:P.underlying u=some .string) (hi:P.info? e=some i) (hz:i.zero=some (.int .u8 0))
  (hsize:i.size=1) (hby:i.bytes=1) (v:Value) (n:Nat) (xs:List Value) (hown:w.ownsRow 0 e 1 v n xs) (s:ByteArray) (hbytes:n+s.size≤140737488355328) :
  ∃v' w',(Builtin.append_ #[t,u] ty #[v,.string s]).run P w=.ok v' w'∧w'.ownsRow 0 e 1 v' (n+s.size) (xs++strCells s)∧w.grownBy w' v.ownBlock ∧
   (∀g,v'.ownBlock=some g→v.ownBlock=some g∨w.heap.size≤g)∧FzK w w':=by
 have h63:n+s.size≤maxLen:=by unfold maxLen;omega
 have hxl:xs.length=n:=by simpa using hown.1
 obtain ⟨v',w',hr,h2,h3,_⟩:=run_append_own_string (P:=P) w 0 t u ty e i ht hu hi hz hsize hby v n xs hown s h63 hbytes (v6w _);refine ⟨v',w',hr,h2,h3,?_⟩;rcases hown.2 with ⟨rfl,rfl⟩ | ⟨g,cap,cur,rfl,hbg,hg,hnc,hcm,hcs,htake⟩
 ·have hx:xs=[]:=v26 hxl;subst hx;obtain ⟨v1,w1,hr1,k2,k3,_⟩:=run_append_own_string (P:=P) w w.heap.size t u ty e i ht hu hi hz hsize hby _ 0 [] (World.ownsRow_nil w w.heap.size e 1) s h63 hbytes (v4o _);have e1:=hr.symm.trans hr1;cases e1;exact ⟨fun g hg=>.inr (k2.lt g hg).1,⟨fun a ha=>World.frozen?_of_block (k3.block _ ha (by simp [Value.ownBlock]))⟩⟩
 ·by_cases hroom:n+s.size≤cap
  ·have hcs':cur.size=cap:=by simpa using hcs
   have hr1:=run_append_room_string (P:=P) w t u ty e i ht hu hi hsize g n cap cur hg s hroom (by omega);have e1:=hr.symm.trans hr1;cases e1;exact ⟨fun k hk=>.inl hk,⟨fun a _=>Ab.frozen_setRow w g _ a⟩⟩
  ·have holds:∀j u,xs[j]?=some u→w.cell? ((⟨g,0,none⟩:Addr).add j)=some u:=hown.cells (g:=g) rfl;have hr1:=run_append_grow_string (P:=P) w t u ty e i (.int .u8 0) ht hu hi hz ⟨g,0,none⟩ n cap xs (by rw [hsize];simpa using hxl) holds s (by omega) (by omega) (by rw [hby];exact growslice_fits (by omega) (by omega));have e1:=hr.symm.trans hr1;cases e1;refine ⟨fun k hk=>.inr ?_,⟨fun a ha=>World.frozen?_of_block (heap_alloc_old w.drew _ ha)⟩⟩;simp only [Value.ownBlock,v5a] at hk;omega
theorem wpList_append_own_string_x {ops:Array Oper} {rest:List Oper} {o:Oper} {a:Act} {Q:Exit→Act→World→Prop} (hgd:o.guard=none) (sl x:Operand) (t u:TypeId)
  (ho:o.op=.call { callee:=.builtin .append,args:=#[sl,x],argTypes:=#[t,u] })
  (e:TypeId) (i:TypeInfo) (ht:P.underlying t=some (.slice e)) (hu:P.underlying u=some .string) (hi:P.info? e=some i) (hz:i.zero=some (.int .u8 0))
  (hsize:i.size=1) (hby:i.bytes=1)
  (v:Value) (n:Nat) (xs:List Value) (hs:a.eval sl=v) (hown:w.ownsRow 0 e 1 v n xs) (s:ByteArray) (hx:a.eval x=.string s)
  (hbytes:n+s.size≤140737488355328)
  (h:∀v' w',w'.ownsRow 0 e 1 v' (n+s.size) (xs++strCells s)→w.grownBy w' v.ownBlock→(∀g,v'.ownBlock=some g→v.ownBlock=some g∨w.heap.size≤g)→FzK w w'→wpList P ops Q rest (a.put o.dst v') w'):wpList P ops Q (o :: rest) a w:=by
 refine wpList_plain hgd fun K hK=>?_
 obtain ⟨v',w',hr,h2,h3,h4,h5⟩:=qpm (P:=P) w t u o.type e i ht hu hi hz hsize hby v n xs hown s hbytes;unfold Oper.wp execOp;simp only [ho,resolve,invoke,builtin,v5e,v5f,v5c,List.map_toArray,v3t,List.map_nil,hs,hx,hr];exact hK _ _ (h v' w' h2 h3 h4 h5)
end
structure PairAt (T b:Nat) (p v:Value) (n:Nat) (w:World):Prop where
 ex:∃cur,w.heap[b]?=some (.cells cur T (0,0))∧cur.size=n∧cur.toList.take 2=[p,v]
theorem PairAt.pos {T b p v n w} (h:PairAt T b p v n w):2≤n:=by
 obtain ⟨cur,_,h2,h3⟩:=h.ex;have:=congrArg List.length h3;rw [v3r,v2f,h2] at this;simp at this;omega
theorem PairAt.lt {T b p v n w} (h:PairAt T b p v n w):b < w.heap.size:=by
 obtain ⟨cur,h1,_⟩:=h.ex;exact (v2b.1 h1).1
theorem PairAt.cell0 {T b p v n w} (h:PairAt T b p v n w):w.cell? ⟨b,0,none⟩=some p:=by
 obtain ⟨cur,h1,h2,h3⟩:=h.ex;have:=congrArg (·[0]?) h3;simp only [v3j,Nat.zero_lt_succ,if_true] at this;rw [cell_of_heap h1];simpa using this
theorem PairAt.cell1 {T b p v n w} (h:PairAt T b p v n w):w.cell? ⟨b,1,none⟩=some v:=by
 obtain ⟨cur,h1,h2,h3⟩:=h.ex;have:=congrArg (·[1]?) h3;simp only [v3j] at this;rw [cell_of_heap h1];simpa using this
theorem PairAt.shape {T b p v n w} (h:PairAt T b p v n w):w.shape? b=some (T,n):=by
 obtain ⟨cur,h1,h2,_⟩:=h.ex;simp [World.shape?,h1,h2]
theorem PairAt.frozen {T b p v n w} (h:PairAt T b p v n w) (j:Nat):w.frozen? ⟨b,j,none⟩=false:=by
 obtain ⟨cur,h1,_⟩:=h.ex;exact frozen_of_heap h1 j
theorem PairAt.of_block {T b p v n w w'} (h:PairAt T b p v n w) (hb:w'.heap[b]?=w.heap[b]?):PairAt T b p v n w':=by
 obtain ⟨cur,h1,h2⟩:=h.ex;exact ⟨cur,by rw [hb];exact h1,h2⟩
theorem PairAt.set0 {T b p v n w} (h:PairAt T b p v n w) (q:Value):PairAt T b q v n (w.setCell ⟨b,0,none⟩ q):=by
 obtain ⟨cur,h1,h2,h3⟩:=h.ex;refine ⟨cur.setIfInBounds 0 q,by simp [World.setCell,v5i,h1],by simp [h2],?_⟩;have h4:=h.pos;obtain ⟨l⟩:=cur
 match l,h3 with
 | x :: y :: r,h3=>simp at h3 ⊢;exact h3.2
theorem PairAt.set1 {T b p v n w} (h:PairAt T b p v n w) (q:Value):PairAt T b p q n (w.setCell ⟨b,1,none⟩ q):=by
 obtain ⟨cur,h1,h2,h3⟩:=h.ex;refine ⟨cur.setIfInBounds 1 q,by simp [World.setCell,v5i,h1],by simp [h2],?_⟩;obtain ⟨l⟩:=cur
 match l,h3 with
 | x :: y :: r,h3=>simp at h3 ⊢;exact h3.1
structure OnlyAt (b:Nat) (row:Option Nat) (w w':World):Prop where
 os:w'.os=w.os
 tape:w'.tape=w.tape
 output:w'.output=w.output
 size:w.heap.size≤w'.heap.size
 block:∀k,k < w.heap.size→k≠b→some k≠row→w'.heap[k]?=w.heap[k]?
 fz:∀a:Addr,a.block < w.heap.size→w'.frozen? a=w.frozen? a
end Go.Lib
namespace Go.Proofs
open Go.Shelf Go.RowKit
variable {P:Program} {ρ:Ren}
set_option maxHeartbeats 1000000 in
set_option maxRecDepth 100000 in
theorem BldX.copyCheck_fresh (L:Lays.n240 P ρ) (X:Builder.X72 P ρ) (b n:Nat) (w:World) (h0:w.cell? ⟨b,0,none⟩=some (.pointer none)) (hsh:w.shape? b=some ((ρ.t 72),n)) (hn:0 < n)
  (hlies:liesAt P P.depth (ρ.t 72) (n / P.cellsOf (ρ.t 72)) 0 (ρ.t 72) 1=true) (hfz:w.frozen? ⟨b,0,none⟩=false) :
  Calls P (ρ.f 240) #[.pointer (some ⟨b,0,none⟩)] w fun e w'=>e=.returned (.tuple #[])∧w'=w.setCell ⟨b,0,none⟩ (.pointer (some ⟨b,0,none⟩)):=by
 obtain ⟨j,hj,hjs⟩:=Option.map_eq_some_iff.1 X.sizeBuilder
 have mixed:=L.mixed
 have t72:=L.t72;have a72:=L.a72;have z72:=L.z72;have v72:=L.v72;have u72:=run_underlying L.t72
 have t70:=L.t70;have a70:=L.a70;have z70:=L.z70;have v70:=L.v70;have u70:=run_underlying L.t70
 have t9:=L.t9;have a9:=L.a9;have z9:=L.z9;have v9:=L.v9;have u9:=run_underlying L.t9
 have t4:=L.t4;have a4:=L.a4;have z4:=L.z4;have v4:=L.v4;have u4:=run_underlying L.t4
 have t164:=L.t164;have a164:=L.a164;have z164:=L.z164;have v164:=L.v164;have u164:=run_underlying L.t164
 go_enter L.f240,Body.n240_ntmps ρ
 go_wp2
 rw [Lib.run_to_unsafe w ⟨b,0,none⟩ L.t70 L.t164 hj (by rw [hjs];decide) hsh hn]
 simp only [v7r]
 rw [Oper.upon_value]
 go_wp2
 rw [run_callFunc_extern L.f276 (by kernel_rfl) (by kernel_rfl) (by kernel_rfl) (e:=Extern.AbiNoEscape.same) (by kernel_rfl)]
 rw [Lib.run_noEscape]
 simp only [v7r]
 rw [Oper.upon_value]
 go_wp2
 rw [Lib.run_from_unsafe w ⟨b,0,none⟩ L.t164 L.t70 hj hsh hlies]
 simp only [v7r]
 rw [Oper.upon_value]
 go_wp2
 go_end0
 exact ⟨rfl,rfl⟩
theorem BldX.copyCheck (L:Lays.n240 P ρ) (X:Builder.X72 P ρ) (b n:Nat) (p v:Value) (w:World) (h:Lib.PairAt (ρ.t 72) b p v n w) (hp:p=.pointer none∨p=.pointer (some ⟨b,0,none⟩))
  (hlies:liesAt P P.depth (ρ.t 72) (n / P.cellsOf (ρ.t 72)) 0 (ρ.t 72) 1=true) :
  Calls P (ρ.f 240) #[.pointer (some ⟨b,0,none⟩)] w fun e w'=>e=.returned (.tuple #[])∧Lib.PairAt (ρ.t 72) b (.pointer (some ⟨b,0,none⟩)) v n w'∧Lib.OnlyAt b none w w':=by
 rcases hp with rfl | rfl
 ·refine (BldX.copyCheck_fresh L X b n w h.cell0 h.shape (by have:=h.pos;omega) hlies (h.frozen 0)).mono ?_;rintro e w' ⟨rfl,rfl⟩;refine ⟨rfl,h.set0 _,rfl,rfl,rfl,by simp [World.setCell],fun k _ hk _=>Below.heap_setCell _ _ _ _ (fun e=>hk (by simpa using e)),fun a _=>?_⟩;exact World.frozen?_setCell _ _ _ _
 ·refine (Any.Builder_copyCheck_used L X b w h.cell0).mono ?_;rintro e w' ⟨rfl,rfl⟩;exact ⟨rfl,h,rfl,rfl,rfl,v4o _,fun _ _ _ _=>rfl,fun _ _=>rfl⟩
set_option maxHeartbeats 2000000 in
set_option maxRecDepth 100000 in
theorem BldX.writeString (L:Lays.n166 P ρ) (X:Builder.Extra P ρ) (b n:Nat) (p v:Value) (bs:List Value) (s:ByteArray) (w:World) (h:Lib.PairAt (ρ.t 72) b p v n w) (hp:p=.pointer none∨p=.pointer (some ⟨b,0,none⟩))
  (hlies:liesAt P P.depth (ρ.t 72) (n / P.cellsOf (ρ.t 72)) 0 (ρ.t 72) 1=true) (hown:w.ownsRow 0 (ρ.t 5) 1 v bs.length bs) (hne:v.ownBlock≠some b) (hlen:bs.length+s.size≤140737488355328) :
  Calls P (ρ.f 166) #[.pointer (some ⟨b,0,none⟩),.string s] w fun e w'=>e=.returned (.tuple #[.int .i64 s.size,.nilIface]) ∧
   ∃v',Lib.PairAt (ρ.t 72) b (.pointer (some ⟨b,0,none⟩)) v' n w'∧w'.ownsRow 0 (ρ.t 5) 1 v' (bs.length+s.size) (bs++Lib.strCells s)∧v'.ownBlock≠some b ∧
    (∀g,v'.ownBlock=some g→v.ownBlock=some g∨w.heap.size≤g)∧Lib.OnlyAt b v.ownBlock w w':=by
 obtain ⟨i0,hi,hz0,hz1,hz2⟩:=info_parts X.infoByte
 have mixed:=L.mixed
 have t72:=L.t72;have a72:=L.a72;have z72:=L.z72;have v72:=L.v72;have u72:=run_underlying L.t72
 have t70:=L.t70;have a70:=L.a70;have z70:=L.z70;have v70:=L.v70;have u70:=run_underlying L.t70
 have t37:=L.t37;have a37:=L.a37;have z37:=L.z37;have v37:=L.v37;have u37:=run_underlying L.t37
 have t3:=L.t3;have a3:=L.a3;have z3:=L.z3;have v3:=L.v3;have u3:=run_underlying L.t3
 have t9:=L.t9;have a9:=L.a9;have z9:=L.z9;have v9:=L.v9;have u9:=run_underlying L.t9
 have t4:=L.t4;have a4:=L.a4;have z4:=L.z4;have v4:=L.v4;have u4:=run_underlying L.t4
 have t164:=L.t164;have a164:=L.a164;have z164:=L.z164;have v164:=L.v164;have u164:=run_underlying L.t164
 have t5:=X.t5;have a5:=X.a5;have z5:=X.z5;have v5:=X.v5;have u5:=run_underlying X.t5
 have e240:∀args w,(callFunc (ρ.f 240) args).run P w=.ok (.enter (ρ.f 240) args) w:=enters_of L.f240 (by kernel_rfl) rfl
 go_enter L.f166,Body.n166_ntmps ρ
 go_wp2_with (go_at_fn (ρ.f 240);refine (BldX.copyCheck { L with } X.toX72 b n p v w h hp hlies).mono ?_)
 rintro e w1 ⟨rfl,h1,hb1⟩
 have c0:=h1.cell0
 have c1:=h1.cell1
 have hown1:w1.ownsRow 0 (ρ.t 5) 1 v bs.length bs:=by
  refine ⟨hown.1,?_⟩
  rcases hown.2 with hv | ⟨g,cap,cur,hv,q1,q2,q3⟩
  ·exact .inl hv
  ·refine .inr ⟨g,cap,cur,hv,q1,?_,q3⟩
   rw [hb1.block g (v2b.1 q2).1 (fun e=>hne (by rw [hv,←e];rfl)) (by simp)]
   exact q2
 go_wp2_with (at_builtin;refine Lib.wpList_append_own_string_x _ rfl _ _ (ρ.t 37) (ρ.t 9) rfl (ρ.t 5) i0 L.t37 L.t9 hi hz0 hz1 hz2 _ _ _ rfl hown1 s rfl ?c4 ?_)
 case c4=>omega
 intro v' w2 hown' hgrow hfr hfz
 have hlt:b < w1.heap.size:=h1.lt
 have h2:Lib.PairAt (ρ.t 72) b (.pointer (some ⟨b,0,none⟩)) v n w2:=h1.of_block (hgrow.block b hlt (fun e=>hne e.symm))
 have d0:=h2.cell0
 have d1:=h2.cell1
 have f1:=h2.frozen 1
 have hne':v'.ownBlock≠some b:=fun e=>by
  rcases hfr b e with e' | e'
  ·exact hne e'
  ·omega
 obtain ⟨ao,n',cap,rfl⟩:∃ao n' cap,v'=.slice ao n' cap:=by
  rcases hown'.2 with ⟨hv,_⟩ | ⟨g,cap,cur,hv,_⟩
  ·exact ⟨_,_,_,hv⟩
  ·exact ⟨_,_,_,hv⟩
 go_wp2
 go_ret2
 refine ⟨rfl,_,h2.set1 _,?_,hne',fun g hg=>?_,?_,?_,?_,?_,?_,?_⟩
 ·refine ⟨hown'.1,?_⟩
  rcases hown'.2 with hv | ⟨g,cap',cur,hv,q1,q2,q3⟩
  ·exact .inl hv
  ·refine .inr ⟨g,cap',cur,hv,q1,?_,q3⟩
   rw [Below.heap_setCell _ _ _ _ (fun e=>hne' (by rw [hv];simp only [Value.ownBlock];rw [show g=b from e]))]
   exact q2
 ·rcases hfr g hg with e | e
  ·exact .inl e
  ·have:=hb1.size;exact .inr (by omega)
 ·exact hgrow.os.trans hb1.os
 ·exact hgrow.tape.trans hb1.tape
 ·exact hgrow.output.trans hb1.output
 ·have:=hb1.size;have:=hgrow.size;simp [World.setCell];omega
 ·intro k hk hkb hkr
  rw [Below.heap_setCell _ _ _ _ (fun e=>hkb (by simpa using e)),hgrow.block k (by have:=hb1.size;omega) hkr]
  exact hb1.block k hk hkb (by simp)
 ·intro a ha
  rw [World.frozen?_setCell,hfz.fz a (by have:=hb1.size;omega)]
  exact hb1.fz a ha
end Go.Proofs
namespace Go.Lib
structure OnlyRow (row:Option Nat) (w w':World):Prop where
 os:w'.os=w.os
 tape:w'.tape=w.tape
 output:w'.output=w.output
 size:w.heap.size≤w'.heap.size
 block:∀k,k < w.heap.size→some k≠row→w'.heap[k]?=w.heap[k]?
end Go.Lib
namespace Go.Proofs
open Go.Shelf Go.RowKit
variable {P:Program} {ρ:Ren}
set_option maxHeartbeats 1000000 in
set_option maxRecDepth 100000 in
theorem BldX.string_some (L:Lays.n169 P ρ) (X:Builder.Extra P ρ) (b n:Nat) (p v:Value) (l:List UInt8) (w:World) (h:Lib.PairAt (ρ.t 72) b p v n w) (hown:w.ownsRow 0 (ρ.t 5) 1 v l.length (v69 l)) (h0:l≠[]) :
  Calls P (ρ.f 169) #[.pointer (some ⟨b,0,none⟩)] w fun e w'=>e=.returned (.string ⟨l.toArray⟩)∧Lib.OnlyRow v.ownBlock w w':=by
 have hl0:l.length≠0:=by simpa using h0
 obtain ⟨g,cap,cur,rfl,hbg,hg,hnc,hcm,hcs,htake⟩:∃g cap cur,v=.slice (some ⟨g,0,none⟩) l.length cap∧0≤g∧w.heap[g]?=some (.cells cur (ρ.t 5) (0,0))∧l.length≤cap∧cap≤maxLen∧cur.size=cap * 1∧cur.toList.take (l.length * 1)=v69 l:=by
  rcases hown.2 with ⟨_,hz⟩ | ⟨g,cap,cur,hv,r⟩
  ·exact absurd hz hl0
  ·exact ⟨g,cap,cur,hv,r⟩
 have c1:w.drew.cell? ⟨b,1,none⟩=some (.slice (some ⟨g,0,none⟩) l.length cap):=h.cell1
 have hSD:(Builtin.unsafeSliceData_ #[(ρ.t 37)] (ρ.t 127) #[.slice (some ⟨g,0,none⟩) l.length cap]).run P w.drew=.ok (.pointer (some ⟨g,0,none⟩)) w.drew :=
  v7a _ _ _ _ _ _ (by omega)
 have hUS:(Builtin.unsafeString_ #[(ρ.t 127),(ρ.t 3)] (ρ.t 9) #[.pointer (some ⟨g,0,none⟩),.int .i64 l.length]).run P w.drew=.ok (.string ⟨l.toArray⟩) (w.drew.freeze ⟨g,0,none⟩ l.length):=by
  refine Lib.run_unsafeString_row w.drew (ρ.t 127) (ρ.t 3) (ρ.t 9) (ρ.t 5) L.t127 X.cellsByte g cur.size (by have hg':w.drew.heap[g]?=some (.cells cur (ρ.t 5) (0,0)):=hg;simp [World.shape?,hg']) l h0 (by omega) (by unfold maxLen at hcm;omega) ?_
  intro j x hx
  have:=hown.cells (g:=g) rfl j (.int .u8 x.toNat) (by simp [v69,hx])
  exact this
 have mixed:=L.mixed
 have t72:=L.t72;have a72:=L.a72;have z72:=L.z72;have v72:=L.v72;have u72:=run_underlying L.t72
 have t70:=L.t70;have a70:=L.a70;have z70:=L.z70;have v70:=L.v70;have u70:=run_underlying L.t70
 have t37:=L.t37;have a37:=L.a37;have z37:=L.z37;have v37:=L.v37;have u37:=run_underlying L.t37
 have t127:=L.t127;have a127:=L.a127;have z127:=L.z127;have v127:=L.v127;have u127:=run_underlying L.t127
 have t3:=L.t3;have a3:=L.a3;have z3:=L.z3;have v3:=L.v3;have u3:=run_underlying L.t3
 have t9:=L.t9;have a9:=L.a9;have z9:=L.z9;have v9:=L.v9;have u9:=run_underlying L.t9
 have t5:=X.t5;have a5:=X.a5;have z5:=X.z5;have v5:=X.v5;have u5:=run_underlying X.t5
 have fin:Lib.OnlyRow (Value.ownBlock (.slice (some ⟨g,0,none⟩) l.length cap)) w (w.drew.freeze ⟨g,0,none⟩ l.length):=by
  unfold World.freeze
  rw [if_neg hl0]
  refine ⟨rfl,rfl,rfl,by simp,fun k _ hk=>?_⟩
  simp only [v5i]
  rw [if_neg (fun e=>hk (by rw [←e];rfl))]
  rfl
 go_enter L.f169,Body.n169_ntmps ρ
 go_wp2
 go_region_o
 all_goals (go_wp2;go_ret;exact ⟨rfl,fin⟩)
set_option maxHeartbeats 2000000 in
set_option maxRecDepth 100000 in
theorem BldX.string_none (L:Lays.n169 P ρ) (X:Builder.Extra P ρ) (b n:Nat) (p v:Value) (w:World) (h:Lib.PairAt (ρ.t 72) b p v n w) (hown:w.ownsRow 0 (ρ.t 5) 1 v 0 []) :
  Calls P (ρ.f 169) #[.pointer (some ⟨b,0,none⟩)] w fun e w'=>e=.returned (.string ⟨#[]⟩)∧Lib.OnlyRow v.ownBlock w w':=by
 have hUS:=Any.unsafeString_none L X
 have hlt:=h.lt
 have mixed:=L.mixed
 have t72:=L.t72;have a72:=L.a72;have z72:=L.z72;have v72:=L.v72;have u72:=run_underlying L.t72
 have t70:=L.t70;have a70:=L.a70;have z70:=L.z70;have v70:=L.v70;have u70:=run_underlying L.t70
 have t37:=L.t37;have a37:=L.a37;have z37:=L.z37;have v37:=L.v37;have u37:=run_underlying L.t37
 have t127:=L.t127;have a127:=L.a127;have z127:=L.z127;have v127:=L.v127;have u127:=run_underlying L.t127
 have t3:=L.t3;have a3:=L.a3;have z3:=L.z3;have v3:=L.v3;have u3:=run_underlying L.t3
 have t9:=L.t9;have a9:=L.a9;have z9:=L.z9;have v9:=L.v9;have u9:=run_underlying L.t9
 have t5:=X.t5;have a5:=X.a5;have z5:=X.z5;have v5:=X.v5;have u5:=run_underlying X.t5
 have fin1:∀row,Lib.OnlyRow row w w.drew:=fun row=>⟨rfl,rfl,rfl,v4o _,fun _ _ _=>rfl⟩
 rcases hown.2 with ⟨rfl,_⟩ | ⟨g,cap,cur,rfl,hbg,hg,_,_,_,_⟩
 ·have c1:w.drew.cell? ⟨b,1,none⟩=some (.slice none 0 0):=h.cell1
  have hSD:(Builtin.unsafeSliceData_ #[(ρ.t 37)] (ρ.t 127) #[.slice none 0 0]).run P w.drew=.ok (.pointer none) w.drew:=rfl
  go_enter L.f169,Body.n169_ntmps ρ
  go_wp2
  go_region_o
  all_goals (go_wp2;go_ret;exact ⟨rfl,fin1 _⟩)
 ·by_cases hc0:cap=0
  ·subst hc0
   have c1:w.drew.cell? ⟨b,1,none⟩=some (.slice (some ⟨g,0,none⟩) 0 0):=h.cell1
   have hSD:(Builtin.unsafeSliceData_ #[(ρ.t 37)] (ρ.t 127) #[.slice (some ⟨g,0,none⟩) 0 0]).run P w.drew=.ok (.pointer (some ⟨w.drew.heap.size,0,none⟩)) (w.drew.alloc (.view ⟨g,0,none⟩ (ρ.t 5))) :=
    Lib.run_unsafeSliceData_zero w.drew _ _ (ρ.t 5) L.t127 ⟨g,0,none⟩ 0 ((ρ.t 5),cur.size) (by have hg':w.drew.heap[g]?=some (.cells cur (ρ.t 5) (0,0)):=hg;simp [World.shape?,hg'])
   have h2:Lib.PairAt (ρ.t 72) b p (.slice (some ⟨g,0,none⟩) 0 0) n (w.drew.alloc (.view ⟨g,0,none⟩ (ρ.t 5))):=h.of_block (Lib.alloc_old w.drew _ b hlt)
   have c2:(w.drew.alloc (.view ⟨g,0,none⟩ (ρ.t 5))).cell? ⟨b,1,none⟩=some (.slice (some ⟨g,0,none⟩) 0 0):=h2.cell1
   have c3:(w.alloc (.view ⟨g,0,none⟩ (ρ.t 5))).drew.cell? ⟨b,1,none⟩=some (.slice (some ⟨g,0,none⟩) 0 0):=c2
   have c0:w.cell? ⟨b,1,none⟩=some (.slice (some ⟨g,0,none⟩) 0 0):=c1
   have fin2:Lib.OnlyRow (Value.ownBlock (.slice (some ⟨g,0,none⟩) 0 0)) w (w.drew.alloc (.view ⟨g,0,none⟩ (ρ.t 5))):=⟨rfl,rfl,rfl,by simp,fun k hk _=>Lib.alloc_old w.drew _ k hk⟩
   go_enter L.f169,Body.n169_ntmps ρ
   go_wp2
   go_region_o
   all_goals (go_wp2;go_ret;exact ⟨rfl,fin2⟩)
  ·have c1:w.drew.cell? ⟨b,1,none⟩=some (.slice (some ⟨g,0,none⟩) 0 cap):=h.cell1
   have hSD:(Builtin.unsafeSliceData_ #[(ρ.t 37)] (ρ.t 127) #[.slice (some ⟨g,0,none⟩) 0 cap]).run P w.drew=.ok (.pointer (some ⟨g,0,none⟩)) w.drew :=
    v7a _ _ _ _ _ _ hc0
   clear hc0
   go_enter L.f169,Body.n169_ntmps ρ
   go_wp2
   go_region_o
   all_goals (go_wp2;go_ret;exact ⟨rfl,fin1 _⟩)
theorem BldX.string (L:Lays.n169 P ρ) (X:Builder.Extra P ρ) (b n:Nat) (p v:Value) (l:List UInt8) (w:World) (h:Lib.PairAt (ρ.t 72) b p v n w) (hown:w.ownsRow 0 (ρ.t 5) 1 v l.length (v69 l)) :
  Calls P (ρ.f 169) #[.pointer (some ⟨b,0,none⟩)] w fun e w'=>e=.returned (.string ⟨l.toArray⟩)∧Lib.OnlyRow v.ownBlock w w':=by
 cases l with
 | nil=>exact BldX.string_none L X b n p v w h hown
 | cons x r=>exact BldX.string_some L X b n p v (x :: r) w h hown (by simp)
end Go.Proofs
namespace Go.Ab
variable {D:Prop}
open Go
structure Bld (P:Program) (kw ks T e:Nat):Prop where
 bodyW:HasBody P kw
 bodyS:HasBody P ks
 write:∀(b c:Nat) (p v:Value) (bs:List UInt8) (s:List UInt8) (w:World),1≤c→Lib.PairAt T b p v (c * 2) w→(p=.pointer none∨p=.pointer (some ⟨b,0,none⟩))→w.ownsRow 0 e 1 v bs.length (v69 bs)→v.ownBlock≠some b→bs.length+s.length≤140737488355328 →
  Calls P kw #[.pointer (some ⟨b,0,none⟩),.string ⟨s.toArray⟩] w fun e' w'=>e'=.returned (.tuple #[.int .i64 s.length,.nilIface]) ∧
   ∃v',Lib.PairAt T b (.pointer (some ⟨b,0,none⟩)) v' (c * 2) w'∧w'.ownsRow 0 e 1 v' (bs++s).length (v69 (bs++s))∧v'.ownBlock≠some b∧(∀g,v'.ownBlock=some g→v.ownBlock=some g∨w.heap.size≤g)∧Lib.OnlyAt b v.ownBlock w w'
 string:∀(b n:Nat) (p v:Value) (l:List UInt8) (w:World),Lib.PairAt T b p v n w→w.ownsRow 0 e 1 v l.length (v69 l) →
  Calls P ks #[.pointer (some ⟨b,0,none⟩)] w fun e' w'=>e'=.returned (.string ⟨l.toArray⟩)∧Lib.OnlyRow v.ownBlock w w'
def qez (bs:List UInt8):List AV:=bs.map fun c=>.p (.int .u8 ((c.toNat:Nat):Int))
@[simp,go_sem] theorem q3o (bs:List UInt8):(qez bs).length=bs.length:=by simp [qez]
theorem qq1 {X:Nat→Prop} {inj:Inj} {σ:Nat→AO} {w:World}:∀{bs:List UInt8} {vs:List Value},ARs X inj σ w (qez bs) vs↔vs=v69 bs
 | [],vs=>v65
 | c :: bs,vs=>by
  constructor
  ·rintro ⟨v,r,rfl,h1,h2⟩;simp only [AR,PR] at h1;rw [h1,qq1.1 h2];rfl
  ·rintro rfl;exact ⟨_,_,rfl,rfl,qq1.2 rfl⟩
theorem qil (bs:List UInt8):(∀v∈v69 bs,v.cells.size=1)∧(∀v∈v69 bs,v.oneCell'=true):=by
 constructor <;>
 ·intro v hv;obtain ⟨x,_,rfl⟩:=v6h.1 hv;rfl
structure BldA (σ:Nat→AO) (T e l g m gm:Nat) (a0 a1:AV) (bs:List UInt8):Prop where
 hl:σ l=.arr T 2 g [.agg [a0,a1]]
 ha0:a0=.p .nilp∨a0=.loc l g 0 0
 ha1:(a1=.nils∧bs=[]∧σ m=.dead gm)∨(a1=.own m gm 0 bs.length∧σ m=.arr e 1 gm (qez bs))
 ne:l≠m
theorem va8 {X:Nat→Prop} {inj:Inj} {σ:Nat→AO} {w:World} (h:HR X inj σ w) {T e l g m gm:Nat} {a0 a1:AV} {bs:List UInt8} (A:BldA σ T e l g m gm a0 a1 bs) {vl:Value} (hloc:vfu inj σ l g 0 0 vl) :
  ∃b c p v,inj l=some (b,c)∧vl=.pointer (some ⟨b,0,none⟩)∧1≤c∧c≤maxLen∧¬X b∧Lib.PairAt T b p v (c * 2) w∧(p=.pointer none∨p=.pointer (some ⟨b,0,none⟩))∧w.ownsRow 0 e 1 v bs.length (v69 bs) ∧
   (∀g',v.ownBlock=some g'→∃c',inj m=some (g',c')∧(σ m).alive=true):=by
 obtain ⟨vs,o1,o2,o3,o4⟩:=(A.hl ▸ h.obj l _ rfl:OR X inj σ w l (.arr T 2 g [.agg [a0,a1]]));obtain ⟨_,k2⟩:=hloc;obtain ⟨_,k3⟩:=k2 _ A.hl;obtain ⟨b,c,k4,k5⟩:=k3 rfl T 2 _ rfl;obtain ⟨u,r,rfl,⟨us,rfl,hus,_⟩,hr⟩:=o1;simp only [ARs] at hr;subst hr;obtain ⟨p,r,rfl,hp,v,r',rfl,hv,hr'⟩:=hus;simp only [ARs] at hr';subst hr';rcases o4 with ⟨_,o4⟩ | ⟨b',c',cur,p1,p2,p3,p4,p5,p6,p7⟩
 ·cases o4
 rw [k4] at p1;cases p1;simp only [v7q,v4z] at k5;refine ⟨b,c,p,v,k4,k5,by simpa using p4,p5,p2,⟨cur,p3,p6,by simpa [flat,Value.cells] using p7⟩,?_,?_⟩
 ·rcases A.ha0 with rfl | rfl
  ·exact .inl hp
  ·obtain ⟨_,q2⟩:=hp;obtain ⟨_,q3⟩:=q2 _ A.hl;obtain ⟨b1,c1,q4,q5⟩:=q3 rfl T 2 _ rfl;rw [k4] at q4;cases q4;simp only [v7q,v4z] at q5;exact .inr q5
 ·rcases A.ha1 with ⟨rfl,rfl,_⟩ | ⟨rfl,hm⟩
  ·simp only [AR] at hv;subst hv;exact ⟨World.ownsRow_nil _ _ _ _,fun g' hg=>by cases hg⟩
  ·obtain ⟨ms,s1,s2,s3,s4⟩:=(hm ▸ h.obj m _ rfl:OR X inj σ w m (.arr e 1 gm (qez bs)));rw [qq1] at s1;subst s1;obtain ⟨_,q2⟩:=hv;obtain ⟨_,q3⟩:=q2 _ hm;obtain ⟨_,q4⟩:=q3 rfl e 1 _ rfl;have hfl:flat (v69 bs)=v69 bs:=qjw (qil bs).2;rcases q4 with ⟨q5,rfl,_,q6⟩ | ⟨b1,c1,a,q5,rfl,q6,q7⟩
   ·have hb:bs=[]:=v26 q6;subst hb;exact ⟨World.ownsRow_nil _ _ _ _,fun g' hg=>by cases hg⟩
   ·have ha:a=some ⟨b1,0,none⟩:=by
     rcases q7 with ⟨h1,_⟩ | h1
     ·exact absurd rfl h1
     ·simpa using h1
    subst ha;rcases s4 with ⟨s4,_⟩ | ⟨b2,c2,cur2,t1,t2,t3,t4,t5,t6,t7⟩
    ·rw [q5] at s4;cases s4
    ·rw [q5] at t1;cases t1;rw [hfl] at t7;simp only [q3o] at t4 t7;refine ⟨⟨by simp [Lib.byteCells_length],.inr ⟨b1,c1,cur2,by simp,v6w _,t3,t4,t5,t6,t7⟩⟩,fun g' hg=>?_⟩;simp only [Value.ownBlock,v5a] at hg;subst hg;exact ⟨c1,q5,by rw [hm];rfl⟩
variable {C:Cx} {Q:Exit→St→Prop} {st:St}
theorem q53 (a:Act) (v:Value):a.put none v=a:=rfl
theorem vxy {ops:Array Oper} {o:Oper} {rest:List Oper} {f:Operand} {args:Array Operand} {ats:Array TypeId} {kw ks T e l g m gm:Nat} {a0 a1:AV} {bs s:List UInt8}
  (S:Bld C.P kw ks T e) (hD:C.D→False) (ho:o.op=.call ⟨.value f,args,ats⟩) (hg:qax ops st.env o=some true) (hd:qbb C.N o=true)
  (hk:qb0 st.env f args.toList=some (kw,[.loc l g 0 0,.p (.str s)])) (A:BldA st.sig T e l g m gm a0 a1 bs) (hroom:bs.length+s.length≤140737488355328)
  (h:AL C ops rest Q ⟨qel st.env o.dst (.p (.tup [.int .i64 s.length,.nili])),qph (qph st.heap m (.arr e 1 (gm+1) (qez (bs++s)))) l (.arr T 2 g [.agg [.loc l g 0 0,.own m (gm+1) 0 (bs++s).length]])⟩):AL C ops (o :: rest) Q st:=by
 intro inj a w hs;simp only [wpList,qbc hs hg,if_true];refine .inl ?_;obtain ⟨vs,hrun,hars⟩:=ql3 hs ho S.bodyW hk;unfold Oper.wp;rw [hrun];simp only [Oper.upon];obtain ⟨vl,r1,rfl,hloc,vs2,r2,rfl,hstr,hr2⟩:=hars;simp only [ARs] at hr2;subst hr2;simp only [AR,PR] at hstr;subst hstr;simp only [AR] at hloc;obtain ⟨b,c,p,v,i1,rfl,i2,i3,i4,i5,i6,i7,i8⟩:=va8 hs.hr A hloc;have hvb:v.ownBlock≠some b:=fun e=>by
  obtain ⟨c',e1,e2⟩:=i8 b e;exact A.ne (hs.hr.inj1 l m _ _ b c c' rfl rfl (by rw [A.hl];rfl) e2 i1 e1)
 refine (S.write b c p v bs s w i2 i5 i6 i7 hvb hroom).mono ?_;rintro e' w' ⟨rfl,v',k1,k2,k3,k4,k5⟩;obtain ⟨cur0,p1,p2,p3⟩:=i5.ex;have hbw:b < w.heap.size:=i5.lt;have hbw':b < w'.heap.size:=k1.lt;obtain ⟨cur1,u1,u2,u3⟩:=k1.ex
 -- the bytes change first
 let w1:World:={ w' with heap:=w'.heap.setIfInBounds b (.cells cur0 T (0,0)) }
 have w1b:∀k,w1.heap[k]?=if k=b then w.heap[b]? else w'.heap[k]?:=by
  intro k;simp only [w1,Array.getElem?_setIfInBounds];by_cases hkb:b=k
  ·subst hkb;simp [hbw',p1]
  ·rw [if_neg hkb,if_neg (fun e=>hkb e.symm)]
 have w1s:w1.heap.size=w'.heap.size:=by simp [w1]
 have w1o:∀k,k≠b→w1.heap[k]?=w'.heap[k]?:=fun k hk=>by rw [w1b,if_neg hk]
 have fz1:∀x:Addr,x.block < w.heap.size→w1.frozen? x=w.frozen? x:=by
  intro x hx;by_cases hxb:x.block=b
  ·exact World.frozen?_of_block (by rw [w1b,if_pos hxb,hxb])
  ·rw [World.frozen?_of_block (w1o _ hxb)];exact k5.fz x hx
 have blk1:∀k,k < w.heap.size→some k≠v.ownBlock→w1.heap[k]?=w.heap[k]?:=by
  intro k hk hkr;rw [w1b];split
  ·rename_i e;rw [e]
  ·rename_i e;exact k5.block k hk e hkr
 have hgenm:(st.sig m).gen=gm:=by rcases A.ha1 with ⟨_,_,e⟩ | ⟨_,e⟩ <;> rw [e] <;> rfl
 have hfl:flat (v69 (bs++s))=v69 (bs++s):=qjw (qil _).2
 -- where the bytes lie
 have hx:∃x:Option (Nat×Nat),(∀b1 c1,x=some (b1,c1)→v'.ownBlock=some b1)∧OR C.X (fun k=>if k=m then x else inj k) (qhz st.sig m (.arr e 1 (gm+1) (qez (bs++s)))) w1 m (.arr e 1 (gm+1) (qez (bs++s))) ∧
   vcx (fun k=>if k=m then x else inj k) (qhz st.sig m (.arr e 1 (gm+1) (qez (bs++s)))) m (gm+1) 0 (bs++s).length v':=by
  rcases k2.2 with ⟨hv,hz⟩ | ⟨g1,cap,cur,hv,_,q1,q2,q3,q4,q5⟩
  ·have hn:bs++s=[]:=v26 hz;refine ⟨none,(fun _ _ h=>by cases h),⟨v69 (bs++s),qq1.2 rfl,(qil _).1,by rw [hfl];exact (qil _).2,.inl ⟨by simp,by rw [hn];rfl⟩⟩,?_⟩;refine ⟨⟨_,_,_,hv⟩,fun oo hoo=>?_⟩;have:oo=.arr e 1 (gm+1) (qez (bs++s)):=by rw [←hoo];exact qce _ _ _
   subst this;exact ⟨v4o _,fun _ e1 sz1 es1 he=>by cases he;exact ⟨by simp,.inl ⟨by simp,hv,rfl,hz⟩⟩⟩
  ·have hg1:g1≠b:=fun e=>k3 (by rw [hv,e];rfl)
   refine ⟨some (g1,cap),(fun _ _ h=>by cases h;rw [hv];rfl),⟨v69 (bs++s),qq1.2 rfl,(qil _).1,by rw [hfl];exact (qil _).2,.inr ⟨g1,cap,cur,by simp,?_,by rw [w1o _ hg1];exact q1,by simpa using q2,q3,q4,by rw [hfl];simpa using q5⟩⟩,?_⟩
   ·intro hX;rcases k4 g1 (by rw [hv];rfl) with e1 | e1
    ·obtain ⟨c',e2,e3⟩:=i8 g1 e1;exact (hs.hr.flt (D:=fun _=>false) ⟨m,c',_,rfl,e3,rfl,e2⟩).2 hX
    ·have:=hs.hr.xlt g1 hX;omega
   ·rw [hv];exact ql2 (qce _ _ _) (if_pos rfl) (by simp) q2
 obtain ⟨x,hx1,hx2,hx3⟩:=hx;obtain ⟨ev1,hr1⟩:=hs.hr.update (D:=C.D) (w':=w1) (l:=m) (o:=st.sig m) (o':=.arr e 1 (gm+1) (qez (bs++s))) (x:=x) rfl k5.os k5.tape k5.output (fun d=>(hD d).elim) (by rw [w1s];exact k5.size) fz1
  (fun k hk hn=>blk1 k hk fun e1=>by
   obtain ⟨c',e2,e3⟩:=i8 k e1.symm;exact hn e3 c' e2)
  (fun b1 c1 e1=>by
   rcases k4 b1 (hx1 b1 c1 e1) with e2 | e2
   ·obtain ⟨c',e3,e4⟩:=i8 b1 e2;exact .inr ⟨e4,c',e3⟩
   ·exact .inl e2)
  ⟨by rw [hgenm];exact v4p _,fun _ he=>by rw [hgenm] at he;simp [AO.gen] at he⟩
 have hH1:=hr1 hx2;have hSR1:=hs.put (o:={ o with dst:=none }) (u:=some (m,.arr e 1 (gm+1) (qez (bs++s)))) rfl (v:=.any) (val:=.tuple #[]) hH1 ev1 trivial;rw [q53] at hSR1
 -- then the struct
 have hl1:qhz st.sig m (.arr e 1 (gm+1) (qez (bs++s))) l=.arr T 2 g [.agg [a0,a1]]:=by rw [qkr _ _ _ A.ne];exact A.hl
 have il1:(fun k=>if k=m then x else inj k) l=some (b,c):=by simp only [if_neg A.ne];exact i1
 have blk2:∀k,k≠b→w'.heap[k]?=w1.heap[k]?:=fun k hk=>(w1o k hk).symm
 obtain ⟨ev2,hr2⟩:=hH1.update (D:=C.D) (w':=w') (l:=l) (o:=.arr T 2 g [.agg [a0,a1]]) (o':=.arr T 2 g [.agg [.loc l g 0 0,.own m (gm+1) 0 (bs++s).length]]) (x:=some (b,c)) hl1 rfl rfl rfl (fun d=>(hD d).elim) (by rw [w1s];exact v4o _)
  (fun y _=>by
   by_cases hyb:y.block=b
   ·have e1:w1.heap[y.block]?=some (.cells cur0 T (0,0)):=by rw [w1b,if_pos hyb];exact p1
    have e2:w'.heap[y.block]?=some (.cells cur1 T (0,0)):=by rw [hyb];exact u1
    simp [World.frozen?,e1,e2]
   ·exact World.frozen?_of_block (blk2 _ hyb))
  (fun k _ hn=>blk2 k fun e1=>hn rfl c (by rw [e1];exact il1))
  (fun b1 c1 e1=>by cases e1;exact .inr ⟨rfl,c,il1⟩)
  ⟨v4o _,fun _ _=>⟨il1.symm,.inl ⟨T,2,_,_,rfl,rfl,rfl⟩⟩⟩
 have hij:∀k,(fun k=>if k=l then some (b,c) else (fun k=>if k=m then x else inj k) k) k=(fun k=>if k=m then x else inj k) k:=by
  intro k;by_cases e1:k=l
  ·subst e1;simp only [if_true];exact il1.symm
  ·simp only [if_neg e1]
 have hij':(fun k=>if k=l then some (b,c) else (fun k=>if k=m then x else inj k) k)=(fun k=>if k=m then x else inj k):=funext hij;rw [hij'] at ev2 hr2;have hown:vcx (fun k=>if k=m then x else inj k) (qhz (qhz st.sig m (.arr e 1 (gm+1) (qez (bs++s)))) l (.arr T 2 g [.agg [.loc l g 0 0,.own m (gm+1) 0 (bs++s).length]])) m (gm+1) 0 (bs++s).length v':=by
  obtain ⟨y1,y2⟩:=hx3;refine ⟨y1,fun oo hoo=>y2 oo ?_⟩;rw [qkr _ _ _ (fun e=>A.ne e.symm)] at hoo;exact hoo
 have hv1:v'.oneCell'=true:=by obtain ⟨⟨_,_,_,rfl⟩,_⟩:=hx3;rfl
 have hvc:v'.cells=#[v']:=by obtain ⟨⟨_,_,_,rfl⟩,_⟩:=hx3;rfl
 have hone:qba [Value.pointer (some ⟨b,0,none⟩),v']:=by
  intro u hu;simp only [v6d,v7e,or_false] at hu;rcases hu with rfl | rfl
  ·rfl
  ·exact hv1
 have hlocN:vfu (fun k=>if k=m then x else inj k) (qhz (qhz st.sig m (.arr e 1 (gm+1) (qez (bs++s)))) l (.arr T 2 g [.agg [.loc l g 0 0,.own m (gm+1) 0 (bs++s).length]])) l g 0 0 (.pointer (some ⟨b,0,none⟩)):=by
  have hq:=q2q (inj:=fun k=>if k=m then x else inj k) (qce (qhz st.sig m (.arr e 1 (gm+1) (qez (bs++s)))) l (.arr T 2 g [.agg [.loc l g 0 0,.own m (gm+1) 0 (bs++s).length]])) il1 0 0;simp only [v7q,v4z] at hq;exact hq
 have hfl2:flat [Value.agg #[.pointer (some ⟨b,0,none⟩),v']]=[.pointer (some ⟨b,0,none⟩),v']:=by simp [flat,Value.cells]
 have hH2:=hr2 ⟨[.agg #[.pointer (some ⟨b,0,none⟩),v']],⟨_,_,rfl,⟨[.pointer (some ⟨b,0,none⟩),v'],rfl,⟨_,_,rfl,hlocN,_,_,rfl,hown,rfl⟩,hone⟩,rfl⟩,
  fun u hu=>by
   have:u=.agg #[.pointer (some ⟨b,0,none⟩),v']:=by simpa using hu
   subst this;rfl,
  by rw [hfl2];exact hone,.inr ⟨b,c,cur1,il1,i4,u1,i2,i3,u2,by rw [hfl2];simpa using u3⟩⟩
 have hs1:(⟨st.env,qph st.heap m (.arr e 1 (gm+1) (qez (bs++s)))⟩:St).sig=qhz st.sig m (.arr e 1 (gm+1) (qez (bs++s))):=qiz _ _ _;have hSR2:=hSR1.put (o:=o) (u:=some (l,.arr T 2 g [.agg [.loc l g 0 0,.own m (gm+1) 0 (bs++s).length]])) hd (v:=.p (.tup [.int .i64 s.length,.nili])) (val:=.tuple #[.int .i64 s.length,.nilIface])
  (by show HR C.X _ (qhz (St.sig ⟨st.env,qph st.heap m _⟩) l _) w';rw [hs1];exact hH2) (by show Ev C.D C.X _ (St.sig ⟨st.env,qph st.heap m _⟩) w1 _ (qhz (St.sig ⟨st.env,qph st.heap m _⟩) l _) w';rw [hs1];exact ev2) ⟨[.int .i64 s.length,.nilIface],rfl,_,_,rfl,rfl,_,_,rfl,rfl,rfl⟩
 exact h _ _ _ hSR2
mutual
theorem AR.keepO {X inj σ w inj' σ' w'} (k:Keeps (fun b=>X b∨F inj σ b) (fun b=>X b∨F inj' σ' b) w w') (h:Ev True X inj σ w inj' σ' w):∀(p:AV) (v:Value),AR X inj σ w p v→AR X inj' σ' w' p v
 | .any,_,_=>trivial
 | .p x,v,r=>PR.keep k x v r
 | .nils,_,r=>r
 | .loc l g i off,_,r=>vfu.ev h r
 | .own l g off len,_,r=>vcx.ev h r
 | .mapo l g,_,r=>vot.ev h r
 | .func fn cs,v,r=>by
  obtain ⟨vs,h1,h2⟩:=r
  exact ⟨vs,h1,ARs.keepO k h cs vs h2⟩
 | .agg cs,v,r=>by
  obtain ⟨vs,h1,h2,h3⟩:=r
  exact ⟨vs,h1,ARs.keepO k h cs vs h2,h3⟩
 | .tup cs,v,r=>by
  obtain ⟨vs,h1,h2⟩:=r
  exact ⟨vs,h1,ARs.keepO k h cs vs h2⟩
theorem ARs.keepO {X inj σ w inj' σ' w'} (k:Keeps (fun b=>X b∨F inj σ b) (fun b=>X b∨F inj' σ' b) w w') (h:Ev True X inj σ w inj' σ' w):∀(ps:List AV) (vs:List Value),ARs X inj σ w ps vs→ARs X inj' σ' w' ps vs
 | [],_,r=>r
 | p :: ps,vs,r=>by
  obtain ⟨v,rs,h1,h2,h3⟩:=r
  exact ⟨v,rs,h1,AR.keepO k h p v h2,ARs.keepO k h ps rs h3⟩
end
theorem vxz {o:Oper} {T e l g m gm:Nat} {a0 a1:AV} {bs:List UInt8} {inj:Inj} {a:Act} {w w':World} {v:Value}
  (hs:SR C st inj a w) (hH0:C.H0=[]) (hD:C.D→False) (hd:qbb C.N o=true) (A:BldA st.sig T e l g m gm a0 a1 bs) (i8:∀g',v.ownBlock=some g'→∃c',inj m=some (g',c')∧(st.sig m).alive=true) (k:Lib.OnlyRow v.ownBlock w w') :
  SR C ⟨qel st.env o.dst (.p (.str bs)),qph (qph st.heap m (.dead (gm+1))) l (.dead (g+1))⟩ inj (a.put o.dst (.string ⟨bs.toArray⟩)) w':=by
 have hgenm:(st.sig m).gen=gm:=by rcases A.ha1 with ⟨_,_,e⟩ | ⟨_,e⟩ <;> rw [e] <;> rfl
 have hsig:(⟨qel st.env o.dst (.p (.str bs)),qph (qph st.heap m (.dead (gm+1))) l (.dead (g+1))⟩:St).sig=qhz (qhz st.sig m (.dead (gm+1))) l (.dead (g+1)):=by
  show qar _=_;rw [qiz,qiz]
 have other:∀j o',qhz (qhz st.sig m (.dead (gm+1))) l (.dead (g+1)) j=o'→o'.alive=true→j≠l∧j≠m∧st.sig j=o':=by
  intro j o' hj ha;by_cases e1:j=l
  ·subst e1;rw [qce] at hj;subst hj;cases ha
  ·rw [qkr _ _ _ e1] at hj;by_cases e2:j=m
   ·subst e2;rw [qce] at hj;subst hj;cases ha
   ·rw [qkr _ _ _ e2] at hj;exact ⟨e1,e2,hj⟩
 have fp:∀x,F inj (qhz (qhz st.sig m (.dead (gm+1))) l (.dead (g+1))) x→F inj st.sig x:=by
  rintro x ⟨j,c',o',h1,h2,_,h3⟩;obtain ⟨_,_,h4⟩:=other j o' h1 h2;exact ⟨j,c',o',h4,h2,rfl,h3⟩
 have e0:Ev True C.X inj st.sig w inj (qhz (qhz st.sig m (.dead (gm+1))) l (.dead (g+1))) w:=by
  refine ⟨rfl,rfl,rfl,fun _=>v4o _,v4o _,fun _ _=>rfl,fun _ _ _=>rfl,fun x hx=>.inl (fp x hx),fun j=>?_⟩;by_cases e1:j=l
  ·subst e1;rw [qce,A.hl];exact ⟨v4p _,fun ha=>by cases ha⟩
  ·rw [qkr _ _ _ e1];by_cases e2:j=m
   ·subst e2;rw [qce];exact ⟨by rw [hgenm];exact v4p _,fun ha=>by cases ha⟩
   ·rw [qkr _ _ _ e2];exact (OEv.refl _).of fun _=>rfl
 have hrow:∀x,¬F inj st.sig x→some x≠v.ownBlock:=fun x hx e1=>by
  obtain ⟨c',e2,e3⟩:=i8 x e1.symm;exact hx ⟨m,c',_,rfl,e3,rfl,e2⟩
 have K:Keeps (fun x=>C.X x∨F inj st.sig x) (fun x=>C.X x∨F inj (qhz (qhz st.sig m (.dead (gm+1))) l (.dead (g+1))) x) w w' :=
  ⟨k.size,fun x hx hn=>k.block x hx (hrow x fun hf=>hn (.inr hf)),fun x hx hn hn'=>hn (hn'.imp id (fp x))⟩
 have hnoF:∀x,¬F C.inj0 (qar C.H0) x:=by
  rintro x ⟨j,c',o',h1,h2,_⟩;rw [hH0] at h1;simp only [qar] at h1;subst h1;cases h2
 have hnew:∀x,x < C.w0.heap.size→some x≠v.ownBlock:=fun x hx e1=>by
  obtain ⟨c',e2,e3⟩:=i8 x e1.symm;rcases hs.ev.fp x ⟨m,c',_,rfl,e3,rfl,e2⟩ with h1 | h1
  ·exact hnoF x h1
  ·omega
 refine ⟨fun t=>?_,?_,?_,?_,?_⟩
 ·rw [hsig];cases hdst:o.dst with
  | none=>simpa [qel,Act.put] using AR.keepO K e0 _ _ (hs.env t)
  | some d =>
   simp only [qbb,hdst,decide_eq_true_eq] at hd;simp only [qel,Act.put,Env.get];by_cases ht:d=t
   ·subst ht;rw [if_pos rfl];have:(a.tmps.setIfInBounds d (.string ⟨bs.toArray⟩)).getD d undef=.string ⟨bs.toArray⟩:=by simp [hs.size,hd]
    rw [this];rfl
   ·rw [if_neg ht];have:(a.tmps.setIfInBounds d (.string ⟨bs.toArray⟩)).getD t undef=a.tmps.getD t undef:=by simp [v2d ht]
    rw [this];exact AR.keepO K e0 _ _ (hs.env t)
 ·cases hdst:o.dst <;> simp [Act.put,hs.size]
 ·cases hdst:o.dst <;> simp [Act.put,hs.defers]
 ·rw [hsig];refine ⟨fun j o' hj=>?_,fun j j' o1 o2 x c1 c2 h1 h2 a1 a2 q1 q2=>?_,fun x hx=>v4r (hs.hr.xlt x hx) k.size⟩
  ·by_cases ha:o'.alive=true
   ·obtain ⟨n1,n2,hj'⟩:=other j o' hj ha;have h0:=hs.hr.obj j o' hj';have hne:∀x c1,inj j=some (x,c1)→w'.heap[x]?=w.heap[x]?:=fun x c1 hi =>
     k.block x (hs.hr.flt (D:=fun _=>false) ⟨j,c1,o',hj',ha,rfl,hi⟩).1 fun e1=>by
      obtain ⟨c',e2,e3⟩:=i8 x e1.symm;exact n2 (hs.hr.inj1 j m o' _ x c1 c' hj' rfl ha e3 hi e2)
    cases o' with
    | dead g'=>cases ha
    | arr e' sz g' es =>
     obtain ⟨vs,q1,q2,q3,q4⟩:=h0;refine ⟨vs,ARs.keepO K e0 es vs q1,q2,q3,?_⟩;rcases q4 with q4 | ⟨x,c1,cur,q5,q6,q7,q8⟩
     ·exact .inl q4
     ·exact .inr ⟨x,c1,cur,q5,q6,by rw [hne x c1 q5];exact q7,q8⟩
    | map g' ks' vs' =>
     obtain ⟨x,c1,ms,clock,q5,q6,q7,q8,q9⟩:=h0;exact ⟨x,c1,ms,clock,q5,q6,by rw [hne x c1 q5];exact q7,ARs.keepO K e0 ks' _ q8,ARs.keepO K e0 vs' _ q9⟩
   ·cases o' with
    | dead g'=>trivial
    | arr _ _ _ _=>exact absurd rfl ha
    | map _ _ _=>exact absurd rfl ha
  ·obtain ⟨_,_,h1'⟩:=other j o1 h1 a1;obtain ⟨_,_,h2'⟩:=other j' o2 h2 a2;exact hs.hr.inj1 j j' o1 o2 x c1 c2 h1' h2' a1 a2 q1 q2
 ·rw [hsig];refine ⟨k.os.trans hs.ev.os,k.tape.trans hs.ev.tape,k.output.trans hs.ev.output,fun d=>(hD d).elim,v4q hs.ev.size k.size,fun x hx=>?_,fun x hx hf=>?_,fun x hx=>hs.ev.fp x (fp x hx),fun j=>(hs.ev.objs j).trans (e0.objs j) fun p q=>q.trans p⟩
  ·rw [World.frozen?_of_block (k.block _ (v4r hx hs.ev.size) (hnew _ hx))];exact hs.ev.fz x hx
  ·rw [k.block x (v4r hx hs.ev.size) (hnew x hx)];exact hs.ev.blk x hx hf
theorem vx0 {ops:Array Oper} {o:Oper} {rest:List Oper} {f:Operand} {args:Array Operand} {ats:Array TypeId} {kw ks T e l g m gm:Nat} {a0 a1:AV} {bs:List UInt8}
  (S:Bld C.P kw ks T e) (hH0:C.H0=[]) (hD:C.D→False) (ho:o.op=.call ⟨.value f,args,ats⟩) (hg:qax ops st.env o=some true) (hd:qbb C.N o=true)
  (hk:qb0 st.env f args.toList=some (ks,[.loc l g 0 0])) (A:BldA st.sig T e l g m gm a0 a1 bs)
  (h:AL C ops rest Q ⟨qel st.env o.dst (.p (.str bs)),qph (qph st.heap m (.dead (gm+1))) l (.dead (g+1))⟩):AL C ops (o :: rest) Q st:=by
 intro inj a w hs;simp only [wpList,qbc hs hg,if_true];refine .inl ?_;obtain ⟨vs,hrun,hars⟩:=ql3 hs ho S.bodyS hk;unfold Oper.wp;rw [hrun];simp only [Oper.upon];obtain ⟨vl,r1,rfl,hloc,hr1⟩:=hars;simp only [ARs] at hr1;subst hr1;simp only [AR] at hloc;obtain ⟨b,c,p,v,i1,rfl,i2,i3,i4,i5,i6,i7,i8⟩:=va8 hs.hr A hloc;refine (S.string b (c * 2) p v bs w i5 i7).mono ?_;rintro e' w' ⟨rfl,k⟩;exact h _ _ _ (vxz hs hH0 hD hd A i8 k)
end Go.Ab
namespace Go.Ab
variable {D:Prop}
open Go
variable {C:Cx} {Q:Exit→St→Prop} {st:St}
theorem vhp {P:Program} {T d:Nat} (hc:P.cellsOf T=2) (hd:P.depth=d+1) (hs:sameLayout P P.depth T T=true) (c:Nat) (h:1≤c):liesAt P P.depth T (c * 2 / P.cellsOf T) 0 T 1=true:=by
 have e:c * 2 / P.cellsOf T=c:=by rw [hc];omega
 rw [e,hd];unfold liesAt;have h1:rowAt P (fun x=>sameLayout P P.depth x T) P.depth T c 0 1=true:=by
  rw [hd];unfold rowAt;rw [←hd];simp only [hc,hs];simp;exact .inl h
 simp only [h1,Bool.true_or]
@[go_sem] theorem vve (σ σ':Nat→AO) (bs:List UInt8):qk4 σ σ' (qez bs) (qez bs)=True:=by
 have h:qez bs=(bs.map fun c=>PV.int .u8 ((c.toNat:Nat):Int)).map AV.p:=by simp [qez]
 rw [h];exact eq_true (qwn σ σ' _)
@[go_sem] theorem vvf:qez []=[]:=rfl
@[go_sem] theorem LeV_opt (σ σ':Nat→AO) (b:Bool) (l g g' i off:Nat):LeV σ σ' (if b=true then .loc l g i off else .p .nilp) (if b=true then .loc l g' i off else .p .nilp)=(b=true→LeV σ σ' (.loc l g i off) (.loc l g' i off)):=by
 cases b
 ·simp [LeV,view]
 ·simp
theorem vo9 {α:Type} {b:Bool} {x y:α}:(if b=true then x else y)=y∨(if b=true then x else y)=x:=by cases b <;> simp
theorem zBw {ops:Array Oper} {o:Oper} {rest:List Oper} {f:Operand} {args:Array Operand} {ats:Array TypeId} {kw ks T e g gm n0:Nat} {a0:AV}
  (S:Bld C.P kw ks T e) (l m:Nat) (bs s:List UInt8) (n:Nat) (hroom:bs.length+s.length≤140737488355328)
  (h:AL C ops rest Q ⟨qel st.env o.dst (.p (.tup [.int .i64 s.length,.nili])),qph (qph st.heap m (.arr e 1 (gm+1) (qez (bs++s)))) l (.arr T 2 g [.agg [.loc l g 0 0,.own m (gm+1) 0 n]])⟩)
  (hn:(bs++s).length=n:=by simp) (hD:C.D→False:=by exact id) (ho:o.op=.call ⟨.value f,args,ats⟩:=by rfl) (hg:qax ops st.env o=some true:=by first | exact qa6 rfl | exact qby rfl rfl (by exact rfl) (by exact rfl)) (hd:qbb C.N o=true:=by rfl)
  (hk:qb0 st.env f args.toList=some (kw,[.loc l g 0 0,.p (.str s)]):=by simp only [go_sem,seval, *];all_goals first | exact rfl | exact ⟨rfl,rfl⟩)
  (hl:qar st.heap l=.arr T 2 g [.agg [a0,.own m gm 0 n0]]:=by simp only [go_sem,seval, *];all_goals first | exact rfl | exact ⟨rfl,rfl⟩)
  (ha0:a0=.p .nilp∨a0=.loc l g 0 0:=by first | exact .inl rfl | exact .inr rfl | exact vo9)
  (hm:qar st.heap m=.arr e 1 gm (qez bs):=by simp only [go_sem,seval, *];all_goals first | exact rfl | exact ⟨rfl,rfl⟩) (hn0:n0=bs.length:=by first | rfl | (simp;done)) (hne:l≠m:=by decide):AL C ops (o :: rest) Q st:=by
 subst hn;subst hn0;exact vxy S hD ho hg hd hk ⟨hl,ha0,.inr ⟨rfl,hm⟩,hne⟩ hroom h
theorem zBs {ops:Array Oper} {o:Oper} {rest:List Oper} {f:Operand} {args:Array Operand} {ats:Array TypeId} {kw ks T e g gm n0:Nat} {a0:AV}
  (S:Bld C.P kw ks T e) (l m:Nat) (bs:List UInt8) (h:AL C ops rest Q ⟨qel st.env o.dst (.p (.str bs)),qph (qph st.heap m (.dead (gm+1))) l (.dead (g+1))⟩)
  (hH0:C.H0=[]:=by rfl) (hD:C.D→False:=by exact id) (ho:o.op=.call ⟨.value f,args,ats⟩:=by rfl) (hg:qax ops st.env o=some true:=by first | exact qa6 rfl | exact qby rfl rfl (by exact rfl) (by exact rfl)) (hd:qbb C.N o=true:=by rfl)
  (hk:qb0 st.env f args.toList=some (ks,[.loc l g 0 0]):=by simp only [go_sem,seval, *];all_goals first | exact rfl | exact ⟨rfl,rfl⟩)
  (hl:qar st.heap l=.arr T 2 g [.agg [a0,.own m gm 0 n0]]:=by simp only [go_sem,seval, *];all_goals first | exact rfl | exact ⟨rfl,rfl⟩)
  (ha0:a0=.p .nilp∨a0=.loc l g 0 0:=by first | exact .inl rfl | exact .inr rfl | exact vo9)
  (hm:qar st.heap m=.arr e 1 gm (qez bs):=by simp only [go_sem,seval, *];all_goals first | exact rfl | exact ⟨rfl,rfl⟩) (hn0:n0=bs.length:=by first | rfl | (simp;done)) (hne:l≠m:=by decide):AL C ops (o :: rest) Q st:=by
 subst hn0;exact vx0 S hH0 hD ho hg hd hk ⟨hl,ha0,.inr ⟨rfl,hm⟩,hne⟩ h
theorem vl1 {C : Cx} {st : St} {inj : Inj} {a : Act} {w : World} (hs : SR C st inj a w) {g : Nat} (hg : C.P.globalNamed "math/bits.deBruijn32tab" = some g) : q71 (fun b => C.X b ∨ F inj st.sig b) w g 0 (qm8.map (Value.int .u8)) := qol hs.ev g hg
theorem vx1 {ops : Array Oper} {o : Oper} {rest : List Oper} {t te g : Nat} {x : Operand} {k : IntKind} {i : Nat} (hgn : C.P.globalNamed "math/bits.deBruijn32tab" = some g) (ho : o.op = .indexAddr t (.global g) x) (hg : qax ops st.env o = some true) (hd : qbb C.N o = true)
  (hu:C.P.underlying t=some (.array 32 te)) (hte:qog C.P te=true) (hc:C.P.cellsOf te=1) (hx:ev st.env x=.p (.int k (i:Int))) (hi:i < 32)
  (h:AL C ops rest Q ⟨qel st.env o.dst (.p (.imm [.int .u8 (qm8.getD i 0)])),st.heap⟩):AL C ops (o :: rest) Q st:=by
 intro inj a w hs;simp only [wpList,qbc hs hg,if_true];refine .inl ?_;have hr:=vl1 hs hgn;have he:=hs.eval x;rw [hx] at he;simp only [AR,PR] at he;have hsz:=qew hte w;rw [hc] at hsz;have hrun:(Instr.indexAt t (.pointer (some ⟨g,0,none⟩)) (a.eval x)).run C.P w=.ok (.pointer (some ⟨g,i,none⟩)) w:=by
  rw [he];have h1:((i:Int) < 32):=by omega
  simp [Instr.indexAt,asIntOf,run_underlying hu,Instr.sureAddr,hi,h1,hsz,Addr.add_lit]
 have hlen:i < qm8.length:=by simpa [qm8] using hi
 have hcell:PR (fun b=>C.X b∨F inj st.sig b) w (.imm [.int .u8 (qm8.getD i 0)]) (.pointer (some ⟨g,i,none⟩)):=by
  refine ⟨g,i,[.int .u8 (qm8.getD i 0)],rfl,⟨_,_,rfl,rfl,rfl⟩,by intro u hu;have h1z:u=.int .u8 (qm8.getD i 0):=(by simpa using hu);subst h1z;rfl,hr.1,hr.2.1,?_⟩;intro j u hj;cases j with
  | zero =>
   simp only [v5u,v5a] at hj;subst hj;have:=hr.2.2 i (.int .u8 (qm8.getD i 0)) (by rw [v3g,v5s,v3d hlen];rfl);simpa using this
  | succ j=>simp at hj
 obtain ⟨dst,op,ty,pos,af,gd⟩:=o;simp only at ho;subst ho;refine qok (s:=Instr.indexAt t (a.eval (.global g)) (a.eval x)) rfl hrun ?_
 ·exact h inj _ _ (hs.put (u:=none) hd hs.hr (Ev.refl _ _ _ _) hcell)
theorem zTab {ops : Array Oper} {o : Oper} {rest : List Oper} {t te g : Nat} {x : Operand} {k : IntKind} (i : Nat) (hgn : C.P.globalNamed "math/bits.deBruijn32tab" = some g) (hu : C.P.underlying t = some (.array 32 te)) (hi : i < 32) (hx : ev st.env x = .p (.int k (i : Int)))
  (h:AL C ops rest Q ⟨qel st.env o.dst (.p (.imm [.int .u8 (qm8.getD i 0)])),st.heap⟩) (hte:qog C.P te=true:=by kernel_rfl) (hc:C.P.cellsOf te=1:=by kernel_rfl)
  (ho:o.op=.indexAddr t (.global g) x:=by rfl) (hg:qax ops st.env o=some true:=by exact qa6 rfl) (hd:qbb C.N o=true:=by rfl):AL C ops (o :: rest) Q st:=vx1 hgn ho hg hd hu hte hc hx hi h
def tzI (n:Nat):Nat:=(n &&& (4294967296 - n)) * 125613361 % 4294967296 / 134217728
def vvg (n:Nat):Int:=if n=0 then 32 else qm8.getD (tzI n) 0
theorem vpa (n:Nat):tzI n < 32:=by unfold tzI;omega
theorem wrapU (n:Nat):v68.wrap (n:Int)=((n % 4294967296:Nat):Int):=by
 simp only [IntKind.wrap,IntKind.signed,IntKind.bits];simp only [Bool.false_and,v2o,if_false];rw [show ((2:Int) ^ 32)=4294967296 from rfl];omega
theorem vx2 {n:Nat} (h0:n≠0) (h:n < 4294967296):Int.fdiv (v68.wrap ((v68.wrap ((BitVec.ofInt 32 (n:Int) &&& BitVec.ofInt 32 (v68.wrap (0 - (n:Int)))).toNat:Int)) * 125613361)) (2 ^ (min 27 32))=((tzI n:Nat):Int):=by
 have e1:v68.wrap (0 - (n:Int))=((4294967296 - n:Nat):Int):=by
  simp only [IntKind.wrap,IntKind.signed,IntKind.bits];simp only [Bool.false_and,v2o,if_false];rw [show ((2:Int) ^ 32)=4294967296 from rfl];omega
 rw [e1,vhd,BitVec.toNat_and,quf h,quf (a:=4294967296 - n) (by omega)];have e2:((n &&& (4294967296 - n):Nat):Int) * 125613361=(((n &&& (4294967296 - n)) * 125613361:Nat):Int):=by simp
 rw [e2,wrapU];unfold tzI;exact vxv _ 27 (by omega)
theorem vx3:∀i,i < 32→0≤qm8.getD i 0∧qm8.getD i 0 < 32:=by decide
theorem vhq {n:Nat}:v67.wrap (qm8.getD (tzI n) 0)=qm8.getD (tzI n) 0:=by
 have h:=vx3 (tzI n) (vpa n);exact qbx (by omega) (by omega)
end Go.Ab
namespace Go.Ab
variable {D:Prop}
open Go
variable {X:Nat→Prop} {inj:Inj} {σ:Nat→AO} {w:World} {P:Program}
theorem qy0 (h:HR X inj σ w) {l g i off e sz b c:Nat} {es:List AV} {x y v:AV} {uv:Value} (ho:σ l=.arr e sz g es) (a4:inj l=some (b,c)) (hx:es[i]?=some x) (hp:qml x off v=some y) (hv:AR X inj σ w v uv) :
  ∃w',(storeCells ⟨b,i * sz+off,none⟩ uv.cells.toList).run P w=.ok () w'∧HR X inj (upd σ (some (l,.arr e sz g (es.set i y)))) w'∧Ev D X inj σ w inj (upd σ (some (l,.arr e sz g (es.set i y)))) w':=by
 obtain ⟨vs,o1,o2,o3,o4⟩:=(ho ▸ h.obj l _ rfl:OR X inj σ w l (.arr e sz g es));obtain ⟨u,hu,hau⟩:=o1.get hx;have hum:u∈vs:=List.mem_of_getElem? hu;have hone:qba u.cells.toList:=fun c hc=>o3 c (v3w.2 ⟨u,hum,hc⟩)
 obtain ⟨s1,s2,s3,u',s4,s5,s6⟩:=qql hau hv (o2 u hum) hone hp;rcases o4 with ⟨o4,_⟩ | ⟨b',c',cur,p1,p2,p3,p4,p5,p6,p7⟩
 ·rw [a4] at o4;cases o4
 rw [a4] at p1;cases p1;have hi:i < vs.length:=(v3f.1 hu).1;have hel:es.length=vs.length:=o1.length;have hmul:(i+1) * sz≤vs.length * sz:=v4v _ hi;have hmul2:es.length * sz≤c * sz:=v4v _ p4;rw [hel] at hmul2;rw [Nat.add_mul,Nat.one_mul] at hmul;have hvl:uv.cells.toList.length=v.cells.length:=by rw [v2f,s3]
 have hst:=run_storeCells_at P b (i * sz+off) e uv.cells.toList 0 cur w p3 (by rw [hvl,p6];omega) s2;simp only [v4k] at hst;have hct:cur.toList.length=c * sz:=by rw [v2f,p6]
 have hcurlen:i * sz+off+uv.cells.toList.length≤cur.toList.length:=by rw [hvl,hct];omega
 have hup:=h.update (D:=D) (w':=w.setRow b (splice cur.toList (i * sz+off) uv.cells.toList).toArray) (l:=l) (o:=.arr e sz g es) (o':=.arr e sz g (es.set i y)) (x:=inj l) ho rfl rfl rfl (fun _=>v4o _) (by simp)
  (fun a _=>frozen_setRow w b _ a) (fun k hk hne=>setRow_other w b k _ (fun e=>hne rfl c (by rw [e];exact a4)))
  (fun b1 c1 h1=>.inr ⟨rfl,c1,h1⟩) ⟨v4o _,fun _ _=>⟨rfl,.inl ⟨e,sz,es,_,rfl,rfl,by simp⟩⟩⟩
 rw [qpf] at hup;obtain ⟨hev,hhr⟩:=hup;refine ⟨_,hst,hhr ?_,hev⟩;refine ⟨vs.set i u',(ARs.ev hev h.xlt es vs o1).set (AR.ev hev h.xlt y u' s4),?_,?_,.inr ⟨b,c,_,a4,p2,setRow_heap w b cur _ e _ p3,by simpa using p4,p5,?_,?_⟩⟩
 ·intro q hq;rcases v30 hq with h1 | h1
  ·exact o2 q h1
  ·rw [h1,←v2f,s5,qg5 _ _ _ (by rw [hvl,show u.cells.toList.length=sz by rw [v2f,o2 u hum]];exact s1),v2f,o2 u hum]
 ·intro q hq;obtain ⟨z,hz,hq⟩:=v3w.1 hq;rcases v30 hz with h1 | h1
  ·exact o3 q (v3w.2 ⟨z,h1,hq⟩)
  ·rw [h1] at hq;exact s6 q hq
 ·rw [v4b,qg5 _ _ _ hcurlen,hct]
 ·rw [vaj o2 hu s5 (by rw [hvl];exact s1),←p7,List.length_set];apply List.ext_getElem?;intro k;have hA:i * sz+off+uv.cells.toList.length≤(cur.toList.take (es.length * sz)).length:=by
   rw [v3r,hct,hel,hvl];omega
  rw [v3j,qkv _ _ _ hcurlen,qkv _ _ _ hA,v3j];by_cases hk:k < es.length * sz
  ·simp only [hk,if_true]
  ·simp only [hk,if_false];rw [if_neg (by rw [hel] at hk;omega),if_neg (by rw [hel] at hk;rw [hvl];omega)]
theorem qxl {l:Nat} {o:AO} (h:σ l=o):upd σ (some (l,o))=σ:=by
 funext k;simp only [upd,qhz];by_cases hk:k=l
 ·subst hk;simp [h]
 ·simp [hk]
theorem qwo (at_:Array TypeId) (ty:TypeId) (cs:Array Bool) (args:Array Value):builtin .copy at_ ty cs args=(do pure (Next.value (←Builtin.copy_ at_ ty args))):=rfl
def q7w (a b c:Int):AV:=.p (.agg [.int .i64 a,.int .i64 b,.int .i64 c])
theorem q54 (c0 c1 c2:Int) (L:List Int) (h:L≠[]):qml (q7w c0 c1 c2) 0 (.p (.agg ((L.take 3).map (PV.int .i64))))=some (q7w (L.getD 0 c0) (L.getD 1 c1) (L.getD 2 c2)):=by
 cases L with
 | nil=>exact absurd rfl h
 | cons a L =>
  cases L with
  | nil=>rfl
  | cons b L =>
   cases L with
   | nil=>rfl
   | cons c L =>
    have e:(a :: b :: c :: L).take 3=[a,b,c]:=rfl;rw [e];rfl
theorem vhr (L:List Int) (X:Nat→Prop) (inj:Inj) (σ:Nat→AO) (w:World):AR X inj σ w (.p (.agg (L.map (PV.int .i64)))) (.agg (L.map (Value.int .i64)).toArray):=by
 simp only [AR,PR];refine ⟨L.map (Value.int .i64),rfl,?_,?_⟩
 ·induction L with
  | nil=>simp [PRs]
  | cons a L ih=>exact ⟨_,_,rfl,rfl,ih⟩
 ·intro u hu;obtain ⟨a,_,rfl⟩:=v6h.1 hu;rfl
theorem qxm {a:Act} {d:Nat} {v:Value} (h:d < a.tmps.size):(a.put (some d) v).eval (.tmp d)=v:=by
 simp [Act.eval,Act.put,h]
theorem q55 {a:Act} {d t:Nat} {v:Value} (h:t≠d):(a.put (some d) v).eval (.tmp t)=a.eval (.tmp t):=by
 simp [Act.eval,Act.put,v2d (Ne.symm h)]
variable {C:Cx} {Q:Exit→St→Prop} {st:St}
theorem vx4 {ops:Array Oper} {o1 o2 o3:Oper} {rest:List Oper} {tA te dT sT:TypeId} {x y:Operand} {d1 d2 l g:Nat} {c0 c1 c2:Int} {L:List Int}
  (h1:o1.op=.slice tA x none none none) (hd1:o1.dst=some d1) (h2:o2.op=.move y) (hd2:o2.dst=some d2) (h3:o3.op=.call ⟨.builtin .copy,#[.tmp d1,.tmp d2],#[dT,sT]⟩)
  (g1:o1.guard=none) (g2:o2.guard=none) (g3:o3.guard=none) (n1:qbb C.N o1=true) (n2:qbb C.N o2=true) (n3:qbb C.N o3=true) (hne:d1≠d2)
  (hu:C.P.underlying tA=some (.array 3 te)) (hte:qog C.P te=true) (hc:C.P.cellsOf te=1) (hdT:C.P.underlying dT=some (.slice te)) (hy:y≠.tmp d1)
  (hx:ev st.env x=.loc l g 0 0) (ho:qar st.heap l=.arr tA 3 g [q7w c0 c1 c2]) (hyv:ev st.env y=.p (.slc (L.map (PV.int .i64))))
  (h:AL C ops rest Q ⟨qel (qel (qel st.env o1.dst .any) o2.dst (.p (.slc (L.map (PV.int .i64))))) o3.dst .any,qph st.heap l (.arr tA 3 g [q7w (L.getD 0 c0) (L.getD 1 c1) (L.getD 2 c2)])⟩):AL C ops (o1 :: o2 :: o3 :: rest) Q st:=by
 intro inj a w hs;have hg:∀(o:Oper) (st':St),o.guard=none→qax ops st'.env o=some true:=fun o st' e=>by unfold qax;rw [e]
 have hloc:=hs.eval x;rw [hx] at hloc;obtain ⟨_,a2⟩:=hloc;have hσ:st.sig l=.arr tA 3 g [q7w c0 c1 c2]:=ho;obtain ⟨_,a3⟩:=a2 _ hσ;obtain ⟨b,c,a4,hptr⟩:=a3 rfl tA 3 _ rfl;simp only [v7q,v4z] at hptr
 -- the slice
 have r1:(Instr.sliceAt tA (a.eval x) none none none).run C.P w=.ok (.slice (some ⟨b,0,none⟩) 3 3) w:=by
  rw [hptr];simp [Instr.sliceAt,run_underlying hu,Instr.sureAddr,Instr.sliceBounds,qew hte w,Addr.add_lit]
 simp only [wpList,qbc hs (hg o1 st g1),if_true];refine .inl ?_;obtain ⟨dst1,op1,ty1,pos1,af1,gd1⟩:=o1;simp only at h1 hd1;subst h1 hd1;refine qok (s:=Instr.sliceAt tA (a.eval x) none none none) rfl r1 ?_;have hs1:=hs.put (o:=⟨some d1,.slice tA x none none none,ty1,pos1,af1,gd1⟩) (v:=.any) (val:=.slice (some ⟨b,0,none⟩) 3 3) (u:=none) n1 hs.hr (Ev.refl _ _ _ _) trivial;simp only [qrx] at hs1
 -- the source
 have hd1N:d1 < C.N:=by simpa [qbb] using n1
 have e1:∀t,t≠d1→(a.put (some d1) (.slice (some ⟨b,0,none⟩) 3 3)).tmps.getD t undef=a.tmps.getD t undef:=fun t ht=>by
  simp [Act.put,v2d (Ne.symm ht)]
 have hy1:ev (qel st.env (some d1) .any) y=.p (.slc (L.map (PV.int .i64))):=by
  cases y with
  | tmp t =>
   have ht:t≠d1:=fun e=>hy (by rw [e])
   simp only [ev,qel,Env.get];rw [if_neg (Ne.symm ht)];exact hyv
  | const v=>exact hyv
  | global g=>exact hyv
  | func f=>exact hyv
 simp only [wpList,qbc hs1 (hg o2 _ g2),if_true];refine .inl ?_;obtain ⟨dst2,op2,ty2,pos2,af2,gd2⟩:=o2;simp only at h2 hd2;subst h2 hd2;have hsrc:=hs1.eval y;simp only at hsrc;rw [hy1] at hsrc;refine qok (s:=pure ((a.put (some d1) (.slice (some ⟨b,0,none⟩) 3 3)).eval y)) (by simp [execOp]) (v5f _ _ _) ?_;have hs2:=hs1.put (o:=⟨some d2,.move y,ty2,pos2,af2,gd2⟩) (v:=.p (.slc (L.map (PV.int .i64)))) (u:=none) n2 hs1.hr (Ev.refl _ _ _ _) hsrc;simp only [qrx] at hs2;simp only [AR,PR] at hsrc;obtain ⟨sa,cap,vs,hva,hcap,hvs,hsl⟩:=hsrc;have hvs':=va1 hvs;subst hvs';rw [v3n] at hva hcap;generalize hV:(a.put (some d1) (.slice (some ⟨b,0,none⟩) 3 3)).eval y=vy at *;subst hva
 -- the copy
 simp only [wpList,qbc hs2 (hg o3 _ g3),if_true];refine .inl ?_;obtain ⟨dst3,op3,ty3,pos3,af3,gd3⟩:=o3;simp only at h3;subst h3;have hd2N:d2 < C.N:=by simpa [qbb] using n2
 have v1:((a.put (some d1) (.slice (some ⟨b,0,none⟩) 3 3)).put (some d2) (.slice sa L.length cap)).eval (.tmp d1)=.slice (some ⟨b,0,none⟩) 3 3:=by
  rw [q55 hne];exact qxm (by rw [hs.size];exact hd1N)
 have v2:((a.put (some d1) (.slice (some ⟨b,0,none⟩) 3 3)).put (some d2) (.slice sa L.length cap)).eval (.tmp d2)=.slice sa L.length cap:=qxm (by rw [hs1.size];exact hd2N);have key:∃(rv:Value) (w':World),(Builtin.copy_ #[dT,sT] ty3 #[.slice (some ⟨b,0,none⟩) 3 3,.slice sa L.length cap]).run C.P w=.ok rv w'∧HR C.X inj (upd st.sig (some (l,.arr tA 3 g [q7w (L.getD 0 c0) (L.getD 1 c1) (L.getD 2 c2)]))) w'∧Ev C.D C.X inj st.sig w inj (upd st.sig (some (l,.arr tA 3 g [q7w (L.getD 0 c0) (L.getD 1 c1) (L.getD 2 c2)]))) w':=by
  obtain ⟨inf,hinf⟩:=v47.1 hte;have hsize:inf.size=1:=by
   unfold Program.cellsOf at hc;rw [hinf] at hc;simpa using hc
  have hinfs:(C.P.info? te).map (·.size)=some 1:=by rw [hinf];simp [hsize]
  by_cases hL:L=[]
  ·subst hL;refine ⟨goInt 0,w,?_,?_,?_⟩
   ·exact run_copy_none w dT sT ty3 te _ _ _ _ _ _ hdT hinfs rfl
   ·have:=qxl hσ;simp only [v7c] at this ⊢;rw [this];exact hs.hr
   ·have:=qxl hσ;simp only [v7c] at this ⊢;rw [this];exact Ev.refl _ _ _ _
  ·obtain ⟨w',q1,q2,q3⟩:=qy0 (D:=C.D) (P:=C.P) hs.hr hσ a4 (i:=0) (off:=0) (x:=q7w c0 c1 c2) rfl (q54 c0 c1 c2 L hL) (vhr (L.take 3) _ _ _ _);simp only [v7q,v4z,v7f] at q1 q2 q3;refine ⟨goInt (v7n L.length 3),w',?_,q2,q3⟩;rcases hsl with hsl | ⟨sb,so,sz,rfl,hcs,hone,hrow⟩
   ·exact absurd (by simpa using hsl) hL
   ·have hflat:flat (L.map (Value.int .i64))=L.map (Value.int .i64):=by
     unfold flat;rw [v7b];have:∀l:List Int,(l.flatMap fun n=>(Value.int .i64 n).cells.toList)=l.map (Value.int .i64):=by
      intro l
      induction l with
      | nil=>rfl
      | cons n l ih=>rw [v5r,ih];rfl
     exact this L
    rw [hflat] at hrow;have hcl:((L.take 3).map (Value.int .i64)).length=v7n L.length 3:=by rw [v3n,v3r];exact Nat.min_comm _ _
    have hload:=run_loadCells_list (P:=C.P) w ⟨sb,so,none⟩ ((L.take 3).map (Value.int .i64)) (fun j v hv=>by
     rw [v7d,v3j] at hv;split at hv
     ·have:=hrow.2.2 j v hv;simpa [Addr.add_lit] using this
     ·cases hv)
    rw [hcl] at hload;have hq1:(storeCells ⟨b,0,none⟩ (List.take 3 (L.map (Value.int .i64)))).run C.P w=.ok () w':=by
     rw [←v7d];exact q1
    simp [Builtin.copy_,run_underlying hdT,Builtin.lenOf,Builtin.firstCells,sizeOf,typeInfo,hinf,hsize,hload,hq1]
 obtain ⟨rv,w',k1,k2,k3⟩:=key;have hexec:(execOp ((a.put (some d1) (.slice (some ⟨b,0,none⟩) 3 3)).put (some d2) (.slice sa L.length cap)).eval ⟨dst3,.call ⟨.builtin .copy,#[.tmp d1,.tmp d2],#[dT,sT]⟩,ty3,pos3,af3,gd3⟩).run C.P w=.ok (Next.value rv) w':=by
  simp only [execOp,resolve,v5e,v5f,v5c,invoke,qwo];have:(#[Operand.tmp d1,Operand.tmp d2]:Array Operand).map ((a.put (some d1) (.slice (some ⟨b,0,none⟩) 3 3)).put (some d2) (.slice sa L.length cap)).eval=#[.slice (some ⟨b,0,none⟩) 3 3,.slice sa L.length cap]:=by
   simp [v1,v2]
  rw [this,k1];simp
 unfold Oper.wp;rw [hexec];simp only [Oper.upon];refine h inj _ _ ?_;have hs3:=hs2.put (o:=⟨dst3,.call ⟨.builtin .copy,#[.tmp d1,.tmp d2],#[dT,sT]⟩,ty3,pos3,af3,gd3⟩) (v:=.any) (val:=rv) (u:=some (l,.arr tA 3 g [q7w (L.getD 0 c0) (L.getD 1 c1) (L.getD 2 c2)])) n3 k2 k3 trivial;exact hs3
theorem vx5 {ops:Array Oper} {o1 o2 o3:Oper} {rest:List Oper} {tA te dT sT:TypeId} {x y:Operand} {d1 d2 g:Nat} (l:Nat) (c0 c1 c2:Int) (L:List Int)
  (hu:C.P.underlying tA=some (.array 3 te)) (hdT:C.P.underlying dT=some (.slice te))
  (h:AL C ops rest Q ⟨qel (qel (qel st.env o1.dst .any) o2.dst (.p (.slc (L.map (PV.int .i64))))) o3.dst .any,qph st.heap l (.arr tA 3 g [.p (.agg [.int .i64 (L.getD 0 c0),.int .i64 (L.getD 1 c1),.int .i64 (L.getD 2 c2)])])⟩)
  (h1:o1.op=.slice tA x none none none:=by rfl) (hd1:o1.dst=some d1:=by rfl) (h2:o2.op=.move y:=by rfl) (hd2:o2.dst=some d2:=by rfl) (h3:o3.op=.call ⟨.builtin .copy,#[.tmp d1,.tmp d2],#[dT,sT]⟩:=by rfl)
  (g1:o1.guard=none:=by rfl) (g2:o2.guard=none:=by rfl) (g3:o3.guard=none:=by rfl) (n1:qbb C.N o1=true:=by rfl) (n2:qbb C.N o2=true:=by rfl) (n3:qbb C.N o3=true:=by rfl) (hne:d1≠d2:=by decide)
  (hte:qog C.P te=true:=by kernel_rfl) (hc:C.P.cellsOf te=1:=by kernel_rfl) (hy:y≠.tmp d1:=by simp)
  (hx:ev st.env x=.loc l g 0 0:=by simp only [go_sem,seval, *];all_goals first | exact rfl | exact ⟨rfl,rfl⟩)
  (ho:qar st.heap l=.arr tA 3 g [.p (.agg [.int .i64 c0,.int .i64 c1,.int .i64 c2])]:=by simp only [go_sem,seval, *];all_goals first | exact rfl | exact ⟨rfl,rfl⟩)
  (hyv:ev st.env y=.p (.slc (L.map (PV.int .i64))):=by simp only [go_sem,seval, *];all_goals first | exact rfl | exact ⟨rfl,rfl⟩):AL C ops (o1 :: o2 :: o3 :: rest) Q st :=
 vx4 h1 hd1 h2 hd2 h3 g1 g2 g3 n1 n2 n3 hne hu hte hc hdT hy hx ho hyv h
end Go.Ab
namespace Go.Ab
open Go
variable {C:Cx} {Q:Exit→St→Prop} {st:St}
theorem va9 {X:Nat→Prop} {inj:Inj} {σ:Nat→AO} {w:World}:∀{L:List Int} {vs:List Value},ARs X inj σ w (L.map fun n=>.p (.int .i64 n)) vs→vs=L.map (Value.int .i64)
 | [],_,h=>h
 | n :: L,_,h=>by
  obtain ⟨v,r,rfl,h1,h2⟩:=h;simp only [AR,PR] at h1;rw [h1,va9 h2];rfl
theorem vx6 {ops:Array Oper} {o1 o2 o3:Oper} {rest:List Oper} {tA te dT sT:TypeId} {x y:Operand} {d1 d2 l g:Nat} {c0 c1 c2:Int} {L:List Int}
  (h1:o1.op=.slice tA x none none none) (hd1:o1.dst=some d1) (h2:o2.op=.move y) (hd2:o2.dst=some d2) (h3:o3.op=.call ⟨.builtin .copy,#[.tmp d1,.tmp d2],#[dT,sT]⟩)
  (g1:o1.guard=none) (g2:o2.guard=none) (g3:o3.guard=none) (n1:qbb C.N o1=true) (n2:qbb C.N o2=true) (n3:qbb C.N o3=true) (hne:d1≠d2)
  (hu:C.P.underlying tA=some (.array 3 te)) (hte:qog C.P te=true) (hc:C.P.cellsOf te=1) (hdT:C.P.underlying dT=some (.slice te)) (hy:y≠.tmp d1)
  (hx:ev st.env x=.loc l g 0 0) (ho:qar st.heap l=.arr tA 3 g [q7w c0 c1 c2]) (hyv:(qmm (ev st.env y)).run st.sig=some (L.map fun n=>.p (.int .i64 n)))
  (h:AL C ops rest Q ⟨qel (qel (qel st.env o1.dst .any) o2.dst (ev st.env y)) o3.dst .any,qph st.heap l (.arr tA 3 g [q7w (L.getD 0 c0) (L.getD 1 c1) (L.getD 2 c2)])⟩):AL C ops (o1 :: o2 :: o3 :: rest) Q st:=by
 intro inj a w hs;have hg:∀(o:Oper) (st':St),o.guard=none→qax ops st'.env o=some true:=fun o st' e=>by unfold qax;rw [e]
 have hloc:=hs.eval x;rw [hx] at hloc;obtain ⟨_,a2⟩:=hloc;have hσ:st.sig l=.arr tA 3 g [q7w c0 c1 c2]:=ho;obtain ⟨_,a3⟩:=a2 _ hσ;obtain ⟨b,c,a4,hptr⟩:=a3 rfl tA 3 _ rfl;simp only [v7q,v4z] at hptr
 -- the slice
 have r1:(Instr.sliceAt tA (a.eval x) none none none).run C.P w=.ok (.slice (some ⟨b,0,none⟩) 3 3) w:=by
  rw [hptr];simp [Instr.sliceAt,run_underlying hu,Instr.sureAddr,Instr.sliceBounds,qew hte w,Addr.add_lit]
 simp only [wpList,qbc hs (hg o1 st g1),if_true];refine .inl ?_;obtain ⟨dst1,op1,ty1,pos1,af1,gd1⟩:=o1;simp only at h1 hd1;subst h1 hd1;refine qok (s:=Instr.sliceAt tA (a.eval x) none none none) rfl r1 ?_;have hs1:=hs.put (o:=⟨some d1,.slice tA x none none none,ty1,pos1,af1,gd1⟩) (v:=.any) (val:=.slice (some ⟨b,0,none⟩) 3 3) (u:=none) n1 hs.hr (Ev.refl _ _ _ _) trivial;simp only [qrx] at hs1
 -- the source
 have hd1N:d1 < C.N:=by simpa [qbb] using n1
 have e1:∀t,t≠d1→(a.put (some d1) (.slice (some ⟨b,0,none⟩) 3 3)).tmps.getD t undef=a.tmps.getD t undef:=fun t ht=>by
  simp [Act.put,v2d (Ne.symm ht)]
 have hy1:ev (qel st.env (some d1) .any) y=ev st.env y:=by
  cases y with
  | tmp t =>
   have ht:t≠d1:=fun e=>hy (by rw [e])
   simp only [ev,qel,Env.get];rw [if_neg (Ne.symm ht)]
  | const v=>rfl
  | global g=>rfl
  | func f=>rfl
 simp only [wpList,qbc hs1 (hg o2 _ g2),if_true];refine .inl ?_;obtain ⟨dst2,op2,ty2,pos2,af2,gd2⟩:=o2;simp only at h2 hd2;subst h2 hd2;have hsrc:=hs1.eval y;simp only at hsrc;rw [hy1] at hsrc;refine qok (s:=pure ((a.put (some d1) (.slice (some ⟨b,0,none⟩) 3 3)).eval y)) (by simp [execOp]) (v5f _ _ _) ?_;have hs2:=hs1.put (o:=⟨some d2,.move y,ty2,pos2,af2,gd2⟩) (v:=ev st.env y) (u:=none) n2 hs1.hr (Ev.refl _ _ _ _) hsrc;simp only [qrx] at hs2;obtain ⟨sa,cap,vs,hva,hcap,hvs,hsl⟩:=qno hs1.hr hsrc hyv;have hvs':=va9 hvs;subst hvs';rw [v3n] at hva hcap;generalize hV:(a.put (some d1) (.slice (some ⟨b,0,none⟩) 3 3)).eval y=vy at *;subst hva
 -- the copy
 simp only [wpList,qbc hs2 (hg o3 _ g3),if_true];refine .inl ?_;obtain ⟨dst3,op3,ty3,pos3,af3,gd3⟩:=o3;simp only at h3;subst h3;have hd2N:d2 < C.N:=by simpa [qbb] using n2
 have v1:((a.put (some d1) (.slice (some ⟨b,0,none⟩) 3 3)).put (some d2) (.slice sa L.length cap)).eval (.tmp d1)=.slice (some ⟨b,0,none⟩) 3 3:=by
  rw [q55 hne];exact qxm (by rw [hs.size];exact hd1N)
 have v2:((a.put (some d1) (.slice (some ⟨b,0,none⟩) 3 3)).put (some d2) (.slice sa L.length cap)).eval (.tmp d2)=.slice sa L.length cap:=qxm (by rw [hs1.size];exact hd2N);have key:∃(rv:Value) (w':World),(Builtin.copy_ #[dT,sT] ty3 #[.slice (some ⟨b,0,none⟩) 3 3,.slice sa L.length cap]).run C.P w=.ok rv w'∧HR C.X inj (upd st.sig (some (l,.arr tA 3 g [q7w (L.getD 0 c0) (L.getD 1 c1) (L.getD 2 c2)]))) w'∧Ev C.D C.X inj st.sig w inj (upd st.sig (some (l,.arr tA 3 g [q7w (L.getD 0 c0) (L.getD 1 c1) (L.getD 2 c2)]))) w':=by
  obtain ⟨inf,hinf⟩:=v47.1 hte;have hsize:inf.size=1:=by
   unfold Program.cellsOf at hc;rw [hinf] at hc;simpa using hc
  have hinfs:(C.P.info? te).map (·.size)=some 1:=by rw [hinf];simp [hsize]
  by_cases hL:L=[]
  ·subst hL;refine ⟨goInt 0,w,?_,?_,?_⟩
   ·exact run_copy_none w dT sT ty3 te _ _ _ _ _ _ hdT hinfs rfl
   ·have:=qxl hσ;simp only [v7c] at this ⊢;rw [this];exact hs.hr
   ·have:=qxl hσ;simp only [v7c] at this ⊢;rw [this];exact Ev.refl _ _ _ _
  ·obtain ⟨w',q1,q2,q3⟩:=qy0 (D:=C.D) (P:=C.P) hs.hr hσ a4 (i:=0) (off:=0) (x:=q7w c0 c1 c2) rfl (q54 c0 c1 c2 L hL) (vhr (L.take 3) _ _ _ _);simp only [v7q,v4z,v7f] at q1 q2 q3;refine ⟨goInt (v7n L.length 3),w',?_,q2,q3⟩;rcases hsl with hsl | ⟨sb,so,sz,rfl,hcs,hrow⟩
   ·exact absurd (by simpa using hsl) hL
   ·have hflat:flat (L.map (Value.int .i64))=L.map (Value.int .i64):=by
     unfold flat;rw [v7b];have:∀l:List Int,(l.flatMap fun n=>(Value.int .i64 n).cells.toList)=l.map (Value.int .i64):=by
      intro l
      induction l with
      | nil=>rfl
      | cons n l ih=>rw [v5r,ih];rfl
     exact this L
    rw [hflat] at hrow;have hcl:((L.take 3).map (Value.int .i64)).length=v7n L.length 3:=by rw [v3n,v3r];exact Nat.min_comm _ _
    have hload:=run_loadCells_list (P:=C.P) w ⟨sb,so,none⟩ ((L.take 3).map (Value.int .i64)) (fun j v hv=>by
     rw [v7d,v3j] at hv;split at hv
     ·have:=hrow j v hv;simpa [Addr.add_lit] using this
     ·cases hv)
    rw [hcl] at hload;have hq1:(storeCells ⟨b,0,none⟩ (List.take 3 (L.map (Value.int .i64)))).run C.P w=.ok () w':=by
     rw [←v7d];exact q1
    simp [Builtin.copy_,run_underlying hdT,Builtin.lenOf,Builtin.firstCells,sizeOf,typeInfo,hinf,hsize,hload,hq1]
 obtain ⟨rv,w',k1,k2,k3⟩:=key;have hexec:(execOp ((a.put (some d1) (.slice (some ⟨b,0,none⟩) 3 3)).put (some d2) (.slice sa L.length cap)).eval ⟨dst3,.call ⟨.builtin .copy,#[.tmp d1,.tmp d2],#[dT,sT]⟩,ty3,pos3,af3,gd3⟩).run C.P w=.ok (Next.value rv) w':=by
  simp only [execOp,resolve,v5e,v5f,v5c,invoke,qwo];have:(#[Operand.tmp d1,Operand.tmp d2]:Array Operand).map ((a.put (some d1) (.slice (some ⟨b,0,none⟩) 3 3)).put (some d2) (.slice sa L.length cap)).eval=#[.slice (some ⟨b,0,none⟩) 3 3,.slice sa L.length cap]:=by
   simp [v1,v2]
  rw [this,k1];simp
 unfold Oper.wp;rw [hexec];simp only [Oper.upon];refine h inj _ _ ?_;have hs3:=hs2.put (o:=⟨dst3,.call ⟨.builtin .copy,#[.tmp d1,.tmp d2],#[dT,sT]⟩,ty3,pos3,af3,gd3⟩) (v:=.any) (val:=rv) (u:=some (l,.arr tA 3 g [q7w (L.getD 0 c0) (L.getD 1 c1) (L.getD 2 c2)])) n3 k2 k3 trivial;exact hs3
end Go.Ab
namespace Go.Ab
open Go
set_option linter.constructorNameAsVariable false
inductive Opd where
 | t (p:Ps)
 | c (v:AV)
def opd:Operand→Opd
 | .tmp t=>.t (pth t)
 | .const v=>.c (ofV v)
 | .func f=>.c (.p (.func (.func f) []))
 | .global _=>.c .any
def vo (e:Ty AV) (x:Opd):AV:=@Opd.rec (fun _=>AV) (fun p=>Ty.get .any e p) (fun v=>v) x
theorem qgj (e:Ty AV) (x:Operand):vo e (opd x)=evf (eo e) x:=by cases x <;> rfl
inductive Ry where
 | no
 | v (x:AV) (rs:List Nat)
 | w (x:AV) (l:Nat) (o:AO) (rs:List Nat)
 | new (x:AV) (o:AO) (rs:List Nat)
abbrev G:=Ty AV→Ty AO→Nat→Ry
def vpb (h:Ty AO) (f:Nat):Prop:=∀l,f≤l→ho h l=.dead 0
def vd7 (P:Program) (o:Oper) (e:Ty AV) (h:Ty AO) (f:Nat):Ry→Prop
 | .no=>True
 | .v x rs=>OpM P o (evf (eo e)) (ho h) x [] rs
 | .w x l ob rs=>OpM P o (evf (eo e)) (ho h) x [(l,ob)] rs
 | .new x ob rs=>OpM P o (evf (eo e)) (ho h) x [(f,ob)] rs
def GOk (P:Program) (o:Oper) (g:G):Prop:=∀e h f,vpb h f→o.dst.getD 0≤f→vd7 P o e h f (g e h f)
def rdA (P:Program) (o:Oper) (e:Ty AV) (h:Ty AO) (f:Nat):List Nat:=(aop P (v7o f (o.dst.getD 0)) (evf (eo e)) o).reads (ho h)
def ofA (P:Program) (o:Oper) (e:Ty AV) (h:Ty AO) (f:Nat) (r:Option (AV×Upd)):Ry:=match r with
 | some (x,some (l,ob))=>bif v6q l f then .new x ob (rdA P o e h f) else .w x l ob (rdA P o e h f)
 | some (x,none)=>.v x (rdA P o e h f)
 | none=>.no
theorem vpc {P:Program} {o:Oper} {e:Ty AV} {h:Ty AO} {f:Nat} {r:Option (AV×Upd)} (hr:∀y,r=some y→(aop P (v7o f (o.dst.getD 0)) (evf (eo e)) o).run (ho h)=some y):vd7 P o e h f (ofA P o e h f r):=by
 unfold ofA;split
 ·rename_i x l ob;have:=qyt (hr _ rfl);rw [q0c];by_cases hl:l=f
  ·subst hl;simp only [decide_true,cond_true];exact this
  ·simp only [hl,decide_false,cond_false];exact this
 ·exact qyt (hr _ rfl)
 ·trivial
theorem vl2 {P:Program} {o:Oper} {e:Ty AV} {h:Ty AO} {f:Nat} {x:AV} (hr:(aop P (v7o f (o.dst.getD 0)) (evf (eo e)) o).run (ho h)=some (x,none)):vd7 P o e h f (.v x (rdA P o e h f)):=qyt hr
theorem wA_ok {P:Program} {o:Oper} {e:Ty AV} {h:Ty AO} {f:Nat} {x:AV} {l:Nat} {ob:AO} (hr:(aop P (v7o f (o.dst.getD 0)) (evf (eo e)) o).run (ho h)=some (x,some (l,ob))):vd7 P o e h f (.w x l ob (rdA P o e h f)):=qyt hr
theorem nA_ok {P:Program} {o:Oper} {e:Ty AV} {h:Ty AO} {f:Nat} {x:AV} {ob:AO} (hr:(aop P (v7o f (o.dst.getD 0)) (evf (eo e)) o).run (ho h)=some (x,some (f,ob))):vd7 P o e h f (.new x ob (rdA P o e h f)):=qyt hr
theorem vr8 {o:Oper} {f:Nat} (h:o.dst.getD 0≤f):qjh (v7o f (o.dst.getD 0)) o=f:=by
 unfold qjh;exact Nat.sub_add_cancel h
def gL (P:Program) (o:Oper) (m:Nat→(Operand→AV)→L (AV×Upd)):G:=fun e h f=>ofA P o e h f ((m (v7o f (o.dst.getD 0)) (evf (eo e))).run (ho h))
theorem q89 {P:Program} {o:Oper} {m:Nat→(Operand→AV)→L (AV×Upd)} (hm:∀B ρ,aop P B ρ o=m B ρ):GOk P o (gL P o m):=fun e h f _ _=>vpc fun y hy=>by rw [hm];exact hy
def nth {α:Type}:List α→Nat→Option α
 | [],_=>none
 | x :: r,k=>match k with
  | 0=>some x
  | k+1=>nth r k
theorem qui {α:Type}:∀(l:List α) (k:Nat),nth l k=l[k]?
 | [],k=>by simp [nth]
 | x :: r,0=>by simp [nth]
 | x :: r,k+1=>by simp [nth,qui r k]
section
variable (P:Program) (o:Oper)
def vko (e:Ty AV) (h:Ty AO) (f:Nat) (r:Option AV):Ry:=match r with
 | some x=>.v x (rdA P o e h f)
 | none=>.no
theorem qq2 {P:Program} {o:Oper} {e:Ty AV} {h:Ty AO} {f:Nat} {r:Option AV} (hr:∀x,r=some x→(aop P (v7o f (o.dst.getD 0)) (evf (eo e)) o).run (ho h)=some (x,none)):vd7 P o e h f (vko P o e h f r):=by
 unfold vko;split
 ·exact vl2 (hr _ rfl)
 ·trivial
def vd8 (x:Opd):G:=fun e h f=>.v (vo e x) (rdA P o e h f)
def vx7 (c a b:Opd):G:=fun e h f=>vko P o e h f (match vo e c with
 | .p (.bool t)=>some (bif t then vo e a else vo e b)
 | _=>none)
def boxB (t:TypeId) (v:AV) (f:Nat) (rs:List Nat):Ry:=bif v.known then .new (.loc f 1 0 0) (.arr t v.cells.length 1 [v]) rs else .no
def gBox (t:TypeId) (x:Opd):G:=fun e h f=>boxB t (vo e x) f (rdA P o e h f)
def vpd (t:TypeId) (z:AV):G:=fun e h f=>boxB t z f (rdA P o e h f)
def vr9 (n:Nat) (b:Bool) (x:AV) (off:Nat):Option AV :=
 bif b then (bif v6q off 0 && (v6q n x.cells.length && x.isAgg) then some x else bif v7i (v7g off n) x.cells.length then some (qks ((x.cells.drop off).take n)) else none)
 else nth x.cells off
def vx8 (n:Nat) (b:Bool) (g i off:Nat) (ob:AO):Option AV:=match ob with
 | .arr _ _ g' es=>bif v6q g g' then (match nth es i with
  | some x=>bif x.known then vr9 n b x off else none
  | none=>none) else none
 | _=>none
def vsa (n:Nat) (b:Bool) (a:AV) (h:Ty AO):Option AV:=match a with
 | .loc l g i off=>vx8 n b g i off (ho h l)
 | .p (.imm cs)=>bif b then (bif v7i n cs.length then some (qks (((cs.map .p).drop 0).take n)) else none) else nth (cs.map .p) 0
 | _=>none
def vx9 (n:Nat) (b:Bool) (x:Opd):G:=fun e h f=>vko P o e h f (vsa n b (vo e x) h)
def vpe (n:Nat) (l g i off:Nat) (v:AV) (rs:List Nat) (ob:AO):Ry:=match ob with
 | .arr e sz g' es=>bif v6q g g' && v6q v.cells.length n then (match nth es i with
  | some x=>(match qml x off v with
   | some y=>.w .any l (.arr e sz g (es.set i y)) rs
   | none=>.no)
  | none=>.no) else .no
 | _=>.no
def vpf (n:Nat) (a v:AV) (h:Ty AO) (rs:List Nat):Ry:=match a with
 | .loc l g i off=>vpe n l g i off v rs (ho h l)
 | _=>.no
def vhs (n:Nat) (x y:Opd):G:=fun e h f=>vpf n (vo e x) (vo e y) h (rdA P o e h f)
def vya (P:Program) (op:BinOp) (t:TypeId):IntKind→Int→IntKind→Int→Option AV:=match op with
 | .add=>fun k a k' b=>bif decide (k=k') then some (.p (.int k (k.wrap (a+b)))) else none
 | .sub=>fun k a k' b=>bif decide (k=k') then some (.p (.int k (k.wrap (a - b)))) else none
 | .eql=>fun k a k' b=>bif decide (k=k') then some (.p (.bool (decide (a=b)))) else none
 | .neq=>fun k a k' b=>bif decide (k=k') then some (.p (.bool (!decide (a=b)))) else none
 | .lss=>fun k a k' b=>bif decide (k=k') then some (.p (.bool (decide (a < b)))) else none
 | .leq=>fun k a k' b=>bif decide (k=k') then some (.p (.bool (decide (a≤b)))) else none
 | .gtr=>fun k a k' b=>bif decide (k=k') then some (.p (.bool (decide (b < a)))) else none
 | .geq=>fun k a k' b=>bif decide (k=k') then some (.p (.bool (decide (b≤a)))) else none
 | op=>fun k a k' b=>vow P op t (.int k a) (.int k' b)
theorem vsb (P:Program) (op:BinOp) (t:TypeId) (k:IntKind) (a:Int) (k':IntKind) (b:Int):vya P op t k a k' b=vow P op t (.int k a) (.int k' b):=by
 by_cases hk:k=k'
 ·subst hk;cases op <;> simp only [vya,vow,vu8,decide_true,cond_true,if_true] <;> rfl
 ·cases op <;> simp only [vya,vow,hk,decide_false,cond_false,if_false]
def own2 (op:BinOp) (g l:Nat) (ob:AO):Ry:=match ob with
 | .arr _ _ g' _=>bif v6q g g' then (match vd1 op false with
  | some v=>.v v [l]
  | none=>.no) else .no
 | _=>.no
def bin2 (op:BinOp) (t:TypeId) (pt st:Bool) (x y:AV) (e:Ty AV) (h:Ty AO) (f:Nat):Ry:=match vox P op t x y with
 | some v=>.v v (rdA P o e h f)
 | none=>bif pt then (match vg9 x y with
   | some r=>(match vd1 op r with
    | some v=>.v v []
    | none=>.no)
   | none=>.no)
  else bif st then (match x,y with
   | .own l g off (n+1),.nils=>own2 op g l (ho h l)
   | _,_=>.no) else .no
def bin1 (op:BinOp) (t:TypeId) (pt st:Bool) (fi:IntKind→Int→IntKind→Int→Option AV) (x y:AV) (e:Ty AV) (h:Ty AO) (f:Nat):Ry:=match x,y with
 | .p (.int k a),.p (.int k' b)=>vko P o e h f (fi k a k' b)
 | x,y=>bin2 P o op t pt st x y e h f
def gBin (op:BinOp) (t:TypeId) (pt st:Bool) (fi:IntKind→Int→IntKind→Int→Option AV) (x y:Opd):G:=fun e h f=>bin1 P o op t pt st fi (vo e x) (vo e y) e h f
def vpg (off:Nat) (x:Opd):G:=fun e h f=>vko P o e h f (match vo e x with
 | .loc l g i k=>some (.loc l g i (v7g k off))
 | .p (.imm cs)=>some (.p (.imm (cs.drop off)))
 | _=>none)
def idx2 (sz' l g off len:Nat) (i:Int) (ob:AO):Option AV:=match ob,i with
 | .arr _ sz g' es,.ofNat i=>bif v6q g g' && (v6q sz sz' && v7j i len) then some (.loc l g (v7g off i) 0) else none
 | _,_=>none
def idx1 (t:TypeId) (sz':Nat) (ok:Bool) (x i:AV) (h:Ty AO):Option AV:=match x,i with
 | .own l g off len,.p (.int _ i)=>bif ok then idx2 sz' l g off len i (ho h l) else none
 | x,.p (.int _ i)=>(qkt P t x i).run (ho h)
 | _,_=>none
def gIdx (t:TypeId) (sz':Nat) (ok:Bool) (x i:Opd):G:=fun e h f=>vko P o e h f (idx1 P t sz' ok (vo e x) (vo e i) h)
def gen2 (g len:Nat) (ob:AO):Option AV:=match ob with
 | .arr _ _ g' _=>bif v6q g g' then some (.p (.int .i64 len)) else none
 | _=>none
def len1 (t:TypeId) (b:Bool) (x:AV) (h:Ty AO):Option AV:=match x with
 | .own l g off len=>bif b then gen2 g len (ho h l) else none
 | x=>(aop.lenT P t x).run (ho h)
def gLen (t:TypeId) (b:Bool) (x:Opd):G:=fun e h f=>vko P o e h f (len1 P t b (vo e x) h)
def gExt (i:Nat) (x:Opd):G:=fun e h f=>vko P o e h f (match vo e x with
 | .p (.tup vs)=>nth (vs.map .p) i
 | .tup vs=>nth vs i
 | _=>none)
def gNil (x:Opd):G:=fun e h f=>vko P o e h f (vu9 (vo e x))
def gCap (x:Opd):G:=fun e h f=>match vo e x with
 | .nils=>.v (.p (.int .i64 0)) []
 | _=>.no
def gChr (x:Opd):G:=fun e h f=>match vo e x with
 | .p (.int _ (.ofNat n))=>bif v7j n 128 then .v (.p (.str [UInt8.ofNat n])) [] else .no
 | _=>.no
def appH (t:TypeId) (s x:AV) (h:Ty AO) (f:Nat):Ry:=match s with
 | .own l g 0 len=>(match ho h l with
  | .arr e sz g' es=>bif v6q g g' && v7i len es.length then (match (qct P f t (.own l (v7p g) 0 len) x).run (qhz (ho h) l (.arr e sz (v7p g) (es.take len))) with
    | some (r,some (l',ob))=>bif v6q l' l then .w r l ob (l :: (qct P f t (.own l (v7p g) 0 len) x).reads (qhz (ho h) l (.arr e sz (v7p g) (es.take len)))) else .no
    | _=>.no) else .no
  | _=>.no)
 | _=>.no
def gApp (t:TypeId) (s x:Opd):G:=fun e h f=>match (qct P f t (vo e s) (vo e x)).run (ho h) with
 | some y=>ofA P o e h f (some y)
 | none=>appH P t (vo e s) (vo e x) h f
def vht (t e':TypeId) (sz:Nat) (z:AV) (s x:Opd):G:=fun e h f=>match vo e s,vo e x with
 | .nils,.p (.int _ (.ofNat n))=>bif v7j 0 n && qnm P e' n then .new (.own f 1 0 n) (.arr e' sz 1 (List.replicate n z)) [f] else .no
 | _,_=>.no
end
end Go.Ab
namespace Go.Ab
open Go
set_option linter.constructorNameAsVariable false
variable {P:Program} {dst:Option Tmp} {ty:TypeId} {pos:String} {af:Array Edge} {gd:Option (Nat×Bool)}
theorem bleT {a b:Nat}:v7i a b=true↔a≤b:=by rw [Nat.ble_eq]
theorem vkp {a b:Nat}:v7j a b=true↔a < b:=by rw [Nat.blt_eq]
theorem vl3 {x:Operand}:GOk P ⟨dst,.move x,ty,pos,af,gd⟩ (vd8 P ⟨dst,.move x,ty,pos,af,gd⟩ (opd x)):=by
 intro e h f hf hd;unfold vd8;rw [qgj];exact vl2 rfl
theorem vd9 {x:Operand}:GOk P ⟨dst,.assign x,ty,pos,af,gd⟩ (vd8 P ⟨dst,.assign x,ty,pos,af,gd⟩ (opd x)):=by
 intro e h f hf hd;unfold vd8;rw [qgj];exact vl2 rfl
theorem vl4 {c a b:Operand}:GOk P ⟨dst,.pick c a b,ty,pos,af,gd⟩ (vx7 P ⟨dst,.pick c a b,ty,pos,af,gd⟩ (opd c) (opd a) (opd b)):=by
 intro e h f hf hd;refine qq2 fun x hx=>?_
 simp only [qgj] at hx;simp only [aop];split at hx
 ·rename_i t ht;cases hx;rw [ht];cases t <;> rfl
 ·cases hx
theorem vhu {o:Oper} {t:TypeId} {v:AV} {e:Ty AV} {h:Ty AO} {f:Nat} (hf:vpb h f) (ha:aop P (v7o f (o.dst.getD 0)) (evf (eo e)) o=vk1 P f t v):vd7 P o e h f (boxB t v f (rdA P o e h f)):=by
 unfold boxB;cases hk:v.known with
 | false=>trivial
 | true =>
  rw [cond_true];refine nA_ok ?_;rw [ha];unfold vk1;rw [hk];simp only [if_true,vfi,L.run,hf f (v4o _)]
theorem vsc {t:TypeId} {x:Operand}:GOk P ⟨dst,.box t x,ty,pos,af,gd⟩ (gBox P ⟨dst,.box t x,ty,pos,af,gd⟩ t (opd x)):=by
 intro e h f hf hd;unfold gBox;rw [qgj];refine vhu hf ?_;simp only [aop];rw [vr8 hd]
theorem vhv {t:TypeId} {z:AV} (hz:qa9 P t=some z) (hc:z.cells.length=P.cellsOf t):GOk P ⟨dst,.alloc t,ty,pos,af,gd⟩ (vpd P ⟨dst,.alloc t,ty,pos,af,gd⟩ t z):=by
 intro e h f hf hd;refine vhu hf ?_;simp only [aop];rw [vr8 hd,hz];simp only [hc,if_true]
theorem vl5 {t:TypeId} {b:Bool} {x y:AV} {off:Nat} (hb:qan P t=some b) (hk:x.known=true) (h:vr9 (P.cellsOf t) b x off=some y):qrs P t x off=some y:=by
 unfold vr9 at h;unfold qrs q0h;simp only [hk,Bool.not_true,v2o,if_false,hb];cases b with
 | true =>
  simp only [cond_true,q0c] at h;by_cases h1:off=0∧P.cellsOf t=x.cells.length∧x.isAgg=true
  ·simp only [h1.1,h1.2.1,h1.2.2,decide_true,Bool.and_true,cond_true,v5a] at h;rw [if_pos ⟨h1.1,rfl,h1.2.1,h1.2.2⟩,h]
  ·have h2:(decide (off=0) && (decide (P.cellsOf t=x.cells.length) && x.isAgg))=false:=by
    rw [v5k];intro hh;simp only [v2m,decide_eq_true_eq] at hh;exact h1 hh
   rw [h2,cond_false] at h;rw [if_neg (fun hh=>h1 ⟨hh.1,hh.2.2⟩)];simp only;by_cases h3:off+P.cellsOf t≤x.cells.length
   ·have:v7i (v7g off (P.cellsOf t)) x.cells.length=true:=bleT.2 h3;rw [this,cond_true] at h;rw [if_pos h3];exact h
   ·have:v7i (v7g off (P.cellsOf t)) x.cells.length=false:=v5k.2 fun hh=>h3 (bleT.1 hh)
    rw [this] at h;cases h
 | false =>
  rw [cond_false,qui] at h;simp only [v5a,v2o,false_and,and_false,if_false];exact h
theorem vl6 {t:TypeId} {b:Bool} {a y:AV} {h:Ty AO} (hb:qan P t=some b) (hl:vsa (P.cellsOf t) b a h=some y):(qvo P t a).run (ho h)=some y:=by
 unfold vsa at hl;split at hl
 ·rename_i l g i off;unfold vx8 at hl;simp only [qvo,L.run];split at hl
  ·rename_i e sz g' es hob;rw [hob];simp only;rw [q0c] at hl;by_cases hg:g=g'
   ·subst hg;simp only [decide_true,cond_true] at hl;rw [if_pos rfl,←qui];split at hl
    ·rename_i x hx;rw [hx];simp only;cases hk:x.known with
     | false=>rw [hk] at hl;cases hl
     | true =>
      rw [hk,cond_true] at hl;rw [vl5 hb hk hl];rfl
    ·cases hl
   ·simp only [hg,decide_false,cond_false] at hl;cases hl
  ·cases hl
 ·rename_i cs;unfold qvo q0h;rw [hb];cases b with
  | true =>
   rw [cond_true] at hl;by_cases h3:P.cellsOf t≤cs.length
   ·have:v7i (P.cellsOf t) cs.length=true:=bleT.2 h3;rw [this,cond_true] at hl;simp only [v4z,v3n,h3,if_true,L.run];exact hl
   ·have:v7i (P.cellsOf t) cs.length=false:=v5k.2 fun hh=>h3 (bleT.1 hh)
    rw [this] at hl;cases hl
  | false =>
   rw [cond_false,qui] at hl;simp only;rw [hl];rfl
 ·cases hl
theorem vl7 {t:TypeId} {b:Bool} {x:Operand} (hb:qan P t=some b):GOk P ⟨dst,.load t x,ty,pos,af,gd⟩ (vx9 P ⟨dst,.load t x,ty,pos,af,gd⟩ (P.cellsOf t) b (opd x)):=by
 intro e h f hf hd;refine qq2 fun y hy=>?_
 rw [qgj] at hy;have:=vl6 hb hy;simp only [aop,qbf,L.run_bind',this,v40,L.run_ret]
theorem vhw {t:TypeId} {b:Bool} {x y:Operand} (hb:qan P t=some b):GOk P ⟨dst,.store t x y,ty,pos,af,gd⟩ (vhs P ⟨dst,.store t x y,ty,pos,af,gd⟩ (P.cellsOf t) (opd x) (opd y)):=by
 intro e h f hf hd;unfold vhs;rw [qgj,qgj];unfold vpf;split
 ·rename_i l g i off hx;unfold vpe;split
  ·rename_i e1 sz g' es hob;cases hc:v6q g g' && v6q (evf (eo e) y).cells.length (P.cellsOf t) with
   | false=>trivial
   | true =>
    rw [cond_true];simp only [v2m,q0c,decide_eq_true_eq] at hc;split
    ·rename_i z hz;split
     ·rename_i q hq;refine wA_ok ?_;rw [qui] at hz;simp only [aop,hx,qxy,L.run,hob];rw [if_pos ⟨hc.1,hc.2,by rw [hb];rfl⟩,hz];simp only [hq,L.run]
     ·trivial
    ·trivial
  ·trivial
 ·trivial
theorem vsd {op:BinOp} {t yt:TypeId} {x y:Operand}:GOk P ⟨dst,.binOp op t x y yt,ty,pos,af,gd⟩ (gBin P ⟨dst,.binOp op t x y yt,ty,pos,af,gd⟩ op t (q5t P t) (qoq P t) (vya P op t) (opd x) (opd y)):=by
 intro e h f hf hd;have hq:∀v,vox P op t (evf (eo e) x) (evf (eo e) y)=some v→(aop P (v7o f (dst.getD 0)) (evf (eo e)) ⟨dst,.binOp op t x y yt,ty,pos,af,gd⟩).run (ho h)=some (v,none):=fun v hv=>by
  simp only [aop,qbf,L.run_bind',L.run_ofOpt,hv,v40,L.run_ret]
 unfold gBin;rw [qgj,qgj];unfold bin1;split
 ·rename_i k a k' b h1 h2;refine qq2 fun v hv=>hq v ?_
  rw [vsb] at hv;rw [h1,h2];unfold vox;simp only [PV.isAgg,Bool.and_false,v2o,if_false];exact hv
 ·unfold bin2;split
  ·rename_i v hv;exact vl2 (hq v hv)
  ·cases hp:q5t P t with
   | true =>
    rw [cond_true];split
    ·rename_i r hr;split
     ·rename_i v hv;exact vrt hp hr hv
     ·trivial
    ·trivial
   | false =>
    rw [cond_false];cases hs:qoq P t with
    | false=>trivial
    | true =>
     rw [cond_true];split
     ·rename_i l g off n h1 h2;unfold own2;split
      ·rename_i e1 sz g' es hob;rw [q0c];by_cases hg:g=g'
       ·subst hg;simp only [decide_true,cond_true];split
        ·rename_i v hv;exact vru hs h1 h2 hob hv
        ·trivial
       ·simp only [hg,decide_false,cond_false];trivial
      ·trivial
     ·trivial
theorem vhx {s:TypeId} {fd off:Nat} {x:Operand} (ho':qah P s fd=some off):GOk P ⟨dst,.fieldAddr s x fd,ty,pos,af,gd⟩ (vpg P ⟨dst,.fieldAddr s x fd,ty,pos,af,gd⟩ off (opd x)):=by
 intro e h f hf hd;refine qq2 fun v hv=>?_
 rw [qgj] at hv;simp only [aop,qbf,L.run_bind',L.run_ofOpt,qmc,ho'];split at hv
 ·rename_i l g i k hx;cases hv;rw [hx];rfl
 ·rename_i cs hx;cases hv;rw [hx];rfl
 ·cases hv
theorem vhy {t:TypeId} {sz:Nat} {ok:Bool} {x ix:Operand} (hok:ok=true→∃et,P.underlying t=some (.slice et)∧P.cellsOf et=sz∧qog P et=true) :
  GOk P ⟨dst,.indexAddr t x ix,ty,pos,af,gd⟩ (gIdx P ⟨dst,.indexAddr t x ix,ty,pos,af,gd⟩ t sz ok (opd x) (opd ix)):=by
 intro e h f hf hd;refine qq2 fun v hv=>?_
 rw [qgj,qgj] at hv;unfold idx1 at hv;split at hv
 ·rename_i l g off len k i hx hi;cases ok with
  | false=>cases hv
  | true =>
   rw [cond_true] at hv;obtain ⟨et,h1,h2,h3⟩:=hok rfl;unfold idx2 at hv;split at hv
   ·rename_i e1 sz1 g' es j hob;cases hc:v6q g g' && (v6q sz1 sz && v7j j len) with
    | false=>rw [hc] at hv;cases hv
    | true =>
     rw [hc,cond_true] at hv;simp only [v2m,q0c,decide_eq_true_eq] at hc;obtain ⟨c1,c2,c3⟩:=hc;have c3:j < len:=vkp.1 c3;cases hv;simp only [aop,hi,qsp,qbf,L.run_bind',qkt,h1,hx,L.run,hob];rw [if_pos ⟨c1,by rw [h2];exact c2,Int.natCast_nonneg _,Int.ofNat_lt.2 c3,h3⟩];rfl
   ·cases hv
 ·rename_i k i hi hne;simp only [aop,hi,qsp,qbf,L.run_bind',hv,v40,L.run_ret]
 ·cases hv
theorem vse {t:TypeId} {b:Bool} {x:Operand} (hb:b=true→qoq P t=true) (ht:(P.underlying t).isSome=true):GOk P ⟨dst,.call ⟨.builtin .len,#[x],#[t]⟩,ty,pos,af,gd⟩ (gLen P ⟨dst,.call ⟨.builtin .len,#[x],#[t]⟩,ty,pos,af,gd⟩ t b (opd x)):=by
 intro e h f hf hd;refine qq2 fun v hv=>?_
 rw [qgj] at hv;have key:(aop.lenT P t (evf (eo e) x)).run (ho h)=some v:=by
  unfold len1 at hv;split at hv
  ·rename_i l g off len hx;cases b with
   | false=>cases hv
   | true =>
    rw [cond_true] at hv;have hs:=hb rfl;unfold qoq at hs;split at hs
    case h_2=>cases hs
    rename_i et hu;unfold gen2 at hv;rw [hx];unfold aop.lenT;rw [hu];simp only [q7v,L.run];split at hv
    ·rename_i e1 sz g' es hob;rw [hob];rw [q0c] at hv;by_cases hg:g=g'
     ·subst hg;simp only [decide_true,cond_true] at hv;simp only [if_true,L.run];exact hv
     ·simp only [hg,decide_false,cond_false] at hv;cases hv
    ·cases hv
  ·exact hv
 simp only [aop,ht,if_true,qbf,L.run_bind',key,v40,L.run_ret]
theorem vsf {i:Nat} {x:Operand}:GOk P ⟨dst,.extract x i,ty,pos,af,gd⟩ (gExt P ⟨dst,.extract x i,ty,pos,af,gd⟩ i (opd x)):=by
 intro e h f hf hd;refine qq2 fun v hv=>?_
 rw [qgj] at hv;simp only [aop];split at hv
 ·rename_i vs hx;rw [hx];rw [qui,v3g] at hv;simp only [qbf,L.run_bind',L.run_ofOpt,hv,v40,L.run_ret]
 ·rename_i vs hx;rw [hx];rw [qui] at hv;simp only [qbf,L.run_bind',L.run_ofOpt,hv,v40,L.run_ret]
 ·cases hv
theorem vsg {x:Operand}:GOk P ⟨dst,.nilCheck x,ty,pos,af,gd⟩ (gNil P ⟨dst,.nilCheck x,ty,pos,af,gd⟩ (opd x)):=by
 intro e h f hf hd;refine qq2 fun v hv=>?_
 rw [qgj] at hv;simp only [aop,qbf,L.run_bind',L.run_ofOpt,hv,v40,L.run_ret]
theorem vsh {t:TypeId} {x:Operand} (ht:qoq P t=true):GOk P ⟨dst,.call ⟨.builtin .cap,#[x],#[t]⟩,ty,pos,af,gd⟩ (gCap (opd x)):=by
 intro e h f hf hd;unfold gCap;rw [qgj];split
 ·rename_i hx;exact vrv ht hx
 ·trivial
theorem vsi {s d:TypeId} {kk:IntKind} {x:Operand} (hs:P.underlying s=some (.int kk)) (hd':P.underlying d=some .string):GOk P ⟨dst,.convert s d x,ty,pos,af,gd⟩ (gChr (opd x)):=by
 intro e h f hf hd;unfold gChr;rw [qgj];split
 ·rename_i k n hx;cases hn:v7j n 128 with
  | false=>trivial
  | true =>
   rw [cond_true];exact vrw hs hd' hx (vkp.1 hn)
 ·trivial
theorem vsj {t:TypeId} {s x:Operand}:GOk P ⟨dst,.call ⟨.builtin .append,#[s,x],#[t,t]⟩,ty,pos,af,gd⟩ (gApp P ⟨dst,.call ⟨.builtin .append,#[s,x],#[t,t]⟩,ty,pos,af,gd⟩ t (opd s) (opd x)):=by
 intro e h f hf hd;unfold gApp;rw [qgj,qgj];split
 ·rename_i y hy;refine vpc fun z hz=>?_
  cases hz;simp only [aop,if_true];rw [vr8 hd];exact hy
 ·unfold appH;split
  ·rename_i l g len hs;split
   ·rename_i e1 sz g' es hob;cases hc:v6q g g' && v7i len es.length with
    | false=>trivial
    | true =>
     rw [cond_true];simp only [v2m,q0c,decide_eq_true_eq] at hc;obtain ⟨rfl,c2⟩:=hc;have c2:=v7k c2;split
     ·rename_i r l' ob hr;rw [q0c];by_cases hl:l'=l
      ·subst hl;simp only [decide_true,cond_true];have:=q8w (P:=P) (dst:=dst) (ty:=ty) (pos:=pos) (af:=af) (gd:=gd) (ρ:=evf (eo e)) (x:=x) (t:=t) (B:=f) hs hob c2 hr rfl;have e2:∀σ:Nat→AO,ovr (Upd.list (some (l',ob))++[(l',.arr e1 sz (g+1) (es.take len))]) σ=ovr [(l',ob)] σ:=fun σ=>by
        funext k;simp only [Upd.list,v5p,List.nil_append,ovr];by_cases hk:l'=k <;> simp [hk]
       intro D X ρ' σ' hρ hσ inj w a next Q hr hT ha hn
       refine this D X ρ' σ' hρ hσ hr hT ha ?_;rw [e2];exact hn
      ·simp only [hl,decide_false,cond_false];trivial
     ·trivial
   ·trivial
  ·trivial
theorem vhz {t tn et:TypeId} {kn:IntKind} {z:AV} {s x:Operand} (ht:P.underlying t=some (.slice et)) (htn:P.underlying tn=some (.int kn)) (hz:qa9 P et=some z) (hel:qer (P.cellsOf et) z=true)
  (hc:0 < P.cellsOf et) (hl:qct.zeroLen P et=P.cellsOf et):GOk P ⟨dst,.call ⟨.builtin .append,#[s,x],#[t,tn]⟩,ty,pos,af,gd⟩ (vht P t et (P.cellsOf et) z (opd s) (opd x)):=by
 intro e h f hf hd;unfold vht;rw [qgj,qgj];split
 ·rename_i k n hs hx;cases hb:v7j 0 n && qnm P et n with
  | false=>trivial
  | true =>
   rw [cond_true];simp only [v2m] at hb;exact vhc ht htn hs hx hz hel (vkp.1 hb.1) hc hb.2 hl (hf f (v4o _))
 ·trivial
end Go.Ab
namespace Go.Ab
open Go
structure EvM where
 v:AV
 us:List (Nat×AO)
 rs:List Nat
def EvM.ks (e:EvM):List Nat:=e.us.map (·.1)
def q56 (C:Cx) (ops:Array Oper) (o:Oper) (ef:Nat→AV) (σ:Nat→AO) (e:EvM):Prop :=
 qbb C.N o=true∧((qom ops ef o=some true∧vvd C.D C.P o (evf ef) σ e.v e.us e.rs)∨(qom ops ef o=some false∧e=⟨.p (.tup []),[],[]⟩))
theorem vvd.frame {D:Prop} {P:Program} {o:Oper} {ρ ρ':Operand→AV} {σ τ:Nat→AO} {v:AV} {us:List (Nat×AO)} {rs:List Nat} (h:vvd D P o ρ σ v us rs) (hρ:∀x∈o.op.operands,ρ x=ρ' x) (hσ:∀l∈rs,τ l=σ l):vvd D P o ρ' τ v us rs :=
 fun X ρ2 σ2 h1 h2=>h X ρ2 σ2 (fun x hx=>(h1 x hx).trans (hρ x hx).symm) fun l hl=>(h2 l hl).trans (hσ l hl)
theorem q56.frame {C:Cx} {ops:Array Oper} {o:Oper} {ef ef':Nat→AV} {σ τ:Nat→AO} {e:EvM} (h:q56 C ops o ef σ e) (hs:∀t∈o.looksAt ops,ef' t=ef t) (hσ:∀l∈e.rs,τ l=σ l) :
  q56 C ops o ef' τ e:=by
 obtain ⟨hd,h⟩:=h;have hg:qom ops ef' o=qom ops ef o:=by
  unfold qom;split
  ·rfl
  ·rename_i j want hgd;split
   ·rename_i d hdd;rw [hs d (by unfold Oper.looksAt;refine v3v.2 (.inr ?_);rw [hgd];simp [hdd])]
   ·rfl
 refine ⟨hd,?_⟩;rw [hg];rcases h with ⟨h1,h2⟩ | h
 ·refine .inl ⟨h1,h2.frame (fun x hx=>?_) hσ⟩;cases x with
  | tmp t=>exact (hs t (qoo hx)).symm
  | _=>rfl
 ·exact .inr h
def apM (ops:Array Oper):List EvM→Nat→(Nat→Bool)→(Nat→AV)×(Nat→AO)→(Nat→AV)×(Nat→AO)
 | [],_,_,s=>s
 | e :: es,i,D,s=>apM ops es (i+1) D (if D i then (qm7 s.1 ((ops[i]?).bind (·.dst)) e.v,ovr e.us s.2) else s)
theorem vba (ops:Array Oper) (t:Nat):∀(es:List EvM) (i:Nat) (D D':Nat→Bool) (s s':(Nat→AV)×(Nat→AO)),s.1 t=s'.1 t →
  (∀j,i≤j→j < i+es.length→(ops[j]?).bind (·.dst)=some t→D j=D' j)→(apM ops es i D s).1 t=(apM ops es i D' s').1 t
 | [],_,_,_,_,_,h,_=>h
 | e :: es,i,D,D',s,s',h,hD=>by
  simp only [apM];refine vba ops t es (i+1) D D' _ _ ?_ fun j h1 h2 h3=>hD j (by omega) (by simp only [v5y];omega) h3
  by_cases hd:(ops[i]?).bind (·.dst)=some t
  ·rw [hD i (v4o _) (by simp) hd];split
   ·simp [qm7,hd]
   ·exact h
  ·split <;> split <;> simp [qm7,hd,h]
theorem vh0 (ops:Array Oper) (l:Nat):∀(es:List EvM) (i:Nat) (D D':Nat→Bool) (s s':(Nat→AV)×(Nat→AO)),s.2 l=s'.2 l →
  (∀j e,i≤j→es[j - i]?=some e→l∈e.ks→D j=D' j)→(apM ops es i D s).2 l=(apM ops es i D' s').2 l
 | [],_,_,_,_,_,h,_=>h
 | e :: es,i,D,D',s,s',h,hD=>by
  simp only [apM];refine vh0 ops l es (i+1) D D' _ _ ?_ fun j e' h1 h2 h3=>hD j e' (by omega) (by rw [show j - i=(j - (i+1))+1 by omega];simpa using h2) h3
  by_cases hd:l∈e.ks
  ·rw [hD i e (v4o _) (by simp) hd];split
   ·exact vg7 hd
   ·exact h
  ·have hd':l ∉ e.us.map (·.1):=hd;split <;> split <;> simp only [que hd',h]
theorem vbb (ops:Array Oper) (i:Nat) (ei:EvM):∀(es:List EvM) (k:Nat) (D:Nat→Bool) (s:(Nat→AV)×(Nat→AO)),k≤i→es[i - k]?=some ei→D i=false →
  (∀j e,i < j→es[j - k]?=some e→D j=true→((ops[j]?).bind (·.dst)=none∨(ops[j]?).bind (·.dst)≠(ops[i]?).bind (·.dst))∧(∀l∈e.ks,l ∉ ei.ks)) →
  apM ops es k (fun j=>j == i || D j) s=(qm7 (apM ops es k D s).1 ((ops[i]?).bind (·.dst)) ei.v,ovr ei.us (apM ops es k D s).2)
 | [],k,D,s,_,h,_,_=>by simp at h
 | e :: es,k,D,s,hk,h,hi,hj=>by
  by_cases hki:k=i
  ·subst hki;simp only [Nat.sub_self,v5u,v5a] at h;subst h;simp only [apM,beq_self_eq_true,Bool.true_or,if_true,hi,v2o,if_false]
   -- the rest commutes
   have comm:∀(es':List EvM) (m:Nat) (D1 D2:Nat→Bool) (s:(Nat→AV)×(Nat→AO)),(∀j,m≤j→D1 j=D2 j) →
     (∀j e',m≤j→es'[j - m]?=some e'→D2 j=true→((ops[j]?).bind (·.dst)=none∨(ops[j]?).bind (·.dst)≠(ops[k]?).bind (·.dst))∧(∀l∈e'.ks,l ∉ e.ks)) →
     apM ops es' m D1 (qm7 s.1 ((ops[k]?).bind (·.dst)) e.v,ovr e.us s.2)=(qm7 (apM ops es' m D2 s).1 ((ops[k]?).bind (·.dst)) e.v,ovr e.us (apM ops es' m D2 s).2):=by
    intro es'
    induction es' with
    | nil=>intro m D1 D2 s _ _;rfl
    | cons e' es' ih =>
     intro m D1 D2 s hD hw;simp only [apM,hD m (v4o _)];cases hm:D2 m with
     | false =>
      simp only [v2o,if_false];exact ih (m+1) D1 D2 s (fun j hj=>hD j (by omega)) fun j e1 h1 h2 h3=>hw j e1 (by omega) (by rw [show j - m=(j - (m+1))+1 by omega];simpa using h2) h3
     | true =>
      simp only [if_true];obtain ⟨w1,w2⟩:=hw m e' (v4o _) (by simp) hm;have e1:qm7 (qm7 s.1 ((ops[k]?).bind (·.dst)) e.v) ((ops[m]?).bind (·.dst)) e'.v=qm7 (qm7 s.1 ((ops[m]?).bind (·.dst)) e'.v) ((ops[k]?).bind (·.dst)) e.v:=by
       funext t;simp only [qm7];by_cases c1:(ops[m]?).bind (·.dst)=some t
       ·by_cases c2:(ops[k]?).bind (·.dst)=some t
        ·rcases w1 with w1 | w1
         ·rw [c1] at w1;cases w1
         ·rw [c1,c2] at w1;exact (w1 rfl).elim
        ·simp [c1,c2]
       ·simp [c1]
      have e2:ovr e'.us (ovr e.us s.2)=ovr e.us (ovr e'.us s.2):=by
       funext l;by_cases c1:l∈e'.ks
       ·have c2:l ∉ e.us.map (·.1):=w2 l c1;rw [que (us:=e.us) c2];exact vg7 c1
       ·have c1':l ∉ e'.us.map (·.1):=c1;rw [que (us:=e'.us) c1'];by_cases c2:l∈e.us.map (·.1)
        ·exact vg7 c2
        ·rw [que c2,que c2,que c1']
      rw [e1,e2];exact ih (m+1) D1 D2 (qm7 s.1 ((ops[m]?).bind (·.dst)) e'.v,ovr e'.us s.2) (fun j hj=>hD j (by omega)) fun j e1 h1 h2 h3=>hw j e1 (by omega) (by rw [show j - m=(j - (m+1))+1 by omega];simpa using h2) h3
   exact comm es (k+1) _ D s (fun j hj=>by have:(j == k)=false:=(by simp;omega);simp [this]) fun j e' h1 h2 h3=>hj j e' (by omega) (by rw [show j - k=(j - (k+1))+1 by omega];simpa using h2) h3
  ·have hb:(k == i)=false:=by simpa using hki
   simp only [apM,hb,Bool.false_or];exact vbb ops i ei es (k+1) D _ (by omega) (by rw [show i - k=(i - (k+1))+1 by omega] at h;simpa using h) hi fun j e' h1 h2 h3=>hj j e' h1 (by rw [show j - k=(j - (k+1))+1 by omega];simpa using h2) h3
def q1v (C:Cx) (ops:Array Oper):List EvM→Nat→(Nat→AV)×(Nat→AO)→Prop
 | [],_,_=>True
 | e :: es,i,s=>(∃o,ops[i]?=some o∧q56 C ops o s.1 s.2 e)∧q1v C ops es (i+1) (qm7 s.1 ((ops[i]?).bind (·.dst)) e.v,ovr e.us s.2)
theorem q1v.at {C:Cx} {ops:Array Oper}:∀{es:List EvM} {i:Nat} {s:(Nat→AV)×(Nat→AO)},q1v C ops es i s→∀j e,i≤j→es[j - i]?=some e →
  ∃o,ops[j]?=some o∧q56 C ops o (apM ops es i (fun m=>decide (m < j)) s).1 (apM ops es i (fun m=>decide (m < j)) s).2 e
 | [],i,s,h,j,e,hj,he=>by simp at he
 | e0 :: es,i,s,h,j,e,hj,he=>by
  obtain ⟨⟨o,ho,hst⟩,hrest⟩:=h;have skip:∀(es':List EvM) (m:Nat) (s':(Nat→AV)×(Nat→AO)),j≤m→apM ops es' m (fun m=>decide (m < j)) s'=s':=by
   intro es'
   induction es' with
   | nil=>intro m s' _;rfl
   | cons x xs ih=>intro m s' hm;simp only [apM];rw [if_neg (by simp;omega)];exact ih (m+1) s' (by omega)
  by_cases hji:j=i
  ·subst hji;simp only [Nat.sub_self,v5u,v5a] at he;subst he;rw [skip _ _ _ (v4o _)];exact ⟨o,ho,hst⟩
  ·have hlt:i < j:=by omega
   have:=q1v.at hrest j e (by omega) (by rw [show j - i=(j - (i+1))+1 by omega] at he;simpa using he);simp only [apM];rw [if_pos (by simpa using hlt)];exact this
theorem q3p (ops:Array Oper):∀(es:List EvM) (i:Nat) (D D':Nat→Bool) (s:(Nat→AV)×(Nat→AO)),(∀j,i≤j→j < i+es.length→D j=D' j)→apM ops es i D s=apM ops es i D' s
 | [],_,_,_,_,_=>rfl
 | e :: es,i,D,D',s,h=>by
  simp only [apM];rw [h i (v4o _) (by simp)];exact q3p ops es (i+1) D D' _ fun j h1 h2=>h j (by omega) (by simp only [v5y];omega)
def vsk (x y:EvM):Prop:=(∀l∈x.ks,l ∉ y.rs∧l ∉ y.ks)∧(∀l∈y.ks,l ∉ x.rs)
def EvsM (ops:Array Oper) (es:List EvM):Prop:=∀(i j:Nat) (x y:EvM),i < j→j < ops.size→es[i]?=some x→es[j]?=some y→Reach ops j i∨vsk x y
theorem SRf.putM {C:Cx} {ef:Nat→AV} {σ:Nat→AO} {inj:Inj} {a:Act} {w:World} (h:SRf C ef σ inj a w) {o:Oper} (hd:qbb C.N o=true) {v:AV} {val:Value} {us:List (Nat×AO)} {inj':Inj} {w':World}
  (h1:HR C.X inj' (ovr us σ) w') (h2:Ev C.D C.X inj σ w inj' (ovr us σ) w') (h3:AR C.X inj' (ovr us σ) w' v val) :
  SRf C (qm7 ef o.dst v) (ovr us σ) inj' (a.put o.dst val) w':=by
 refine ⟨fun t=>?_,?_,?_,h1,h.ev.trans h2⟩
 ·unfold qm7;cases hdst:o.dst with
  | none=>simpa [Act.put] using AR.ev h2 h.hr.xlt _ _ (h.env t)
  | some d =>
   simp only [qbb,hdst,decide_eq_true_eq] at hd;simp only [Act.put,v5a];by_cases ht:d=t
   ·subst ht;rw [if_pos rfl];have:(a.tmps.setIfInBounds d val).getD d undef=val:=by simp [h.size,hd]
    rw [this];exact h3
   ·rw [if_neg ht];have:(a.tmps.setIfInBounds d val).getD t undef=a.tmps.getD t undef:=by simp [v2d ht]
    rw [this];exact AR.ev h2 h.hr.xlt _ _ (h.env t)
 ·cases hdst:o.dst <;> simp [Act.put,h.size]
 ·cases hdst:o.dst <;> simp [Act.put,h.defers]
theorem q9a {C:Cx} {ops:Array Oper} {es:List EvM} {s0:(Nat→AV)×(Nat→AO)} {Q:Exit→Act→World→Prop} {n:Nat} (hn:n≤ops.size) (hlen:es.length=n) (hch:q1v C ops es 0 s0) (hsl:qh2 ops=true) (hev:EvsM ops es)
  (hlast:∀j,n≤j→j < ops.size→∀i,i < j→Reach ops j i) (hQ:∀a w inj,SRf C (apM ops es 0 (fun _=>true) s0).1 (apM ops es 0 (fun _=>true) s0).2 inj a w→wpOps C.P ops Q (List.range' n (ops.size - n)) a w) :
  ∀(fuel:Nat) (listed:Array Bool) (a:Act) (w:World) (inj:Inj),listed.size=ops.size→q1n ops (fun j=>listed.getD j false)→(∀j,n≤j→j < ops.size→listed.getD j false=false)→(listed.toList.filter (! ·)).length≤fuel →
   SRf C (apM ops es 0 (fun j=>listed.getD j false) s0).1 (apM ops es 0 (fun j=>listed.getD j false) s0).2 inj a w→wpAny C.P .any ops Q fuel listed a w:=by
 have full_of:∀(listed:Array Bool),listed.size=ops.size→Region.ready .any ops listed=[]→∀j,j < ops.size→listed.getD j false=true:=by
  intro listed hsz hr j
  induction j using v6t with
  | _ j ih =>
   intro hj;by_cases hl:listed.getD j false=true
   ·exact hl
   ·have:j∈Region.ready .any ops listed:=by
     refine mem_ready.2 ⟨getD_in (by omega) (by simpa using hl),ops[j],by simp [hj],fun e he hb=>?_⟩;have hp:e.on∈qd5 ops j:=by
      unfold qd5;simp only [hj,getElem?_pos];exact v6h.2 ⟨e,v6g.2 ⟨by simpa using he,hb⟩,rfl⟩
     have hlt:=qjv hsl hj _ hp;exact ih _ hlt (by omega)
    rw [hr] at this;cases this
 have count:∀(k:Nat) (l:List Bool) (m:Nat),m+k=l.length→(∀j,m≤j→j < l.length→l[j]?=some false)→k≤(l.filter (! ·)).length:=by
  intro k l m hm h;have h1:(l.drop m).length=k:=by rw [v3m];omega
  have h2:((l.drop m).filter (! ·))=l.drop m:=by
   rw [List.filter_eq_self];intro b hb;obtain ⟨j,hj,rfl⟩:=List.mem_iff_getElem.1 hb;have:=h (m+j) (by omega) (by rw [v3m] at hj;omega);rw [List.getElem_drop];obtain ⟨_,h3⟩:=v3f.1 this;rw [h3];rfl
  have h3:((l.drop m).filter (! ·)).length≤(l.filter (! ·)).length:=by
   conv=>rhs;rw [←List.take_append_drop m l,List.filter_append,List.length_append]
   omega
  rw [h2,h1] at h3;exact h3
 have done:∀(fuel:Nat) (listed:Array Bool) (a:Act) (w:World) (inj:Inj),listed.size=ops.size→(∀j,n≤j→j < ops.size→listed.getD j false=false)→(listed.toList.filter (! ·)).length≤fuel →
   SRf C (apM ops es 0 (fun j=>listed.getD j false) s0).1 (apM ops es 0 (fun j=>listed.getD j false) s0).2 inj a w→(∀j,j < n→listed.getD j false=true)→wpAny C.P .any ops Q fuel listed a w:=by
  intro fuel listed a w inj hsz hnl hf hs hfull;rw [q3p ops es 0 _ (fun _=>true) s0 fun j _ h2=>hfull j (by omega)] at hs;refine q1t hsl hlast (ops.size - n) n _ listed a w (v4o _) (by omega) hsz hfull hnl ?_ (hQ a w inj hs);refine v4q (count _ listed.toList n (by simp;omega) (fun j h1 h2=>?_)) hf;have:=hnl j h1 (by simp at h2;omega);have h3:j < listed.size:=by simpa using h2
  rw [Array.getElem?_toList];simpa [h3] using this
 intro fuel
 induction fuel with
 | zero =>
  intro listed a w inj hsz hcl hnl hf hs;refine done 0 listed a w inj hsz hnl hf hs fun j hj=>?_
  apply Classical.byContradiction;intro hl;have hlt:j < listed.size:=by omega
  have hm:listed[j]'hlt∈listed.toList:=by simp
  have h0':listed[j]'hlt=false:=by simpa [hlt] using hl
  have:listed[j]'hlt∈listed.toList.filter (! ·):=v6g.2 ⟨hm,by rw [h0'];rfl⟩;have:0 < (listed.toList.filter (! ·)).length:=List.length_pos_of_mem this;omega
 | succ fuel ih =>
  intro listed a w inj hsz hcl hnl hf hs;by_cases hfull:∀j,j < n→listed.getD j false=true
  ·exact done _ listed a w inj hsz hnl hf hs hfull
  refine ⟨fun hr=>absurd (fun j hj=>full_of listed hsz hr j (by omega)) hfull,fun i hi=>?_⟩;obtain ⟨h0,o,ho,hpre⟩:=mem_ready.1 hi;have hlt:=(v2b.1 ho).1;have hltn:i < n:=by
   by_cases hltn:i < n
   ·exact hltn
   ·exfalso;apply hfull;intro j hj;have hpre':∀m∈qd5 ops i,listed.getD m false=true:=by
     intro m hm;unfold qd5 at hm;rw [ho] at hm;obtain ⟨e,he,rfl⟩:=v6h.1 hm;obtain ⟨he1,he2⟩:=v6g.1 he;exact hpre e (by simpa using he1) he2
    exact (hlast i (by omega) hlt j (by omega)).ready (D:=fun j=>listed.getD j false) hcl hpre'
  have h0f:listed.getD i false=false:=getD_both h0;have hpre':∀m∈qd5 ops i,listed.getD m false=true:=by
   intro m hm;unfold qd5 at hm;rw [ho] at hm;obtain ⟨e,he,rfl⟩:=v6h.1 hm;obtain ⟨he1,he2⟩:=v6g.1 he;exact hpre e (by simpa using he1) he2
  obtain ⟨e,he⟩:∃e,es[i]?=some e:=⟨es[i]'(by omega),v3d (by omega)⟩;obtain ⟨o',ho',hst⟩:=hch.at i e (v6w _) (by simpa using he);have:o'=o:=Option.some.inj (ho'.symm.trans ho);subst this
  -- which are listed,compared with the text's order
  have cmpSlot:∀t∈o'.looksAt ops,(apM ops es 0 (fun j=>listed.getD j false) s0).1 t=(apM ops es 0 (fun m=>decide (m < i)) s0).1 t:=by
   intro t ht;refine vba ops t es 0 _ _ s0 s0 rfl fun j _ hj hd=>?_
   obtain ⟨oj,hoj⟩:∃oj,ops[j]?=some oj:=⟨ops[j]'(by omega),by simp [show j < ops.size by omega]⟩;rw [hoj] at hd;simp only [v40] at hd;rcases v6r j i with hji | hji | hji
   ·simp only [hji,decide_true];rcases qfu hsl hji hoj ho with hr | hr
    ·exact hr.ready (D:=fun j=>listed.getD j false) hcl hpre'
    ·exact absurd ht ((Oper.apart_spec hr).1 t hd)
   ·subst hji;simpa using h0f
   ·have:decide (j < i)=false:=by simp;omega
    rw [this];rcases qfu hsl hji ho hoj with hr | hr
    ·by_cases hl:listed.getD j false=true
     ·have:=hr.closed (D:=fun j=>listed.getD j false) hcl hl;simp only [h0f] at this;cases this
     ·simpa using hl
    ·exact absurd ht ((Oper.apart_spec hr).2.2 t hd)
  have cmpLoc:∀l∈e.rs,(apM ops es 0 (fun j=>listed.getD j false) s0).2 l=(apM ops es 0 (fun m=>decide (m < i)) s0).2 l:=by
   intro l hl;refine vh0 ops l es 0 _ _ s0 s0 rfl fun j ej _ hej hw=>?_
   simp only [v4y] at hej;have hjn:j < ops.size:=by have:=(v3f.1 hej).1;omega
   rcases v6r j i with hji | hji | hji
   ·simp only [hji,decide_true];rcases hev _ _ _ _ hji hlt hej he with hr | hr
    ·exact hr.ready (D:=fun j=>listed.getD j false) hcl hpre'
    ·exact absurd hl (hr.1 l hw).1
   ·subst hji;simpa using h0f
   ·have:decide (j < i)=false:=by simp;omega
    rw [this];rcases hev _ _ _ _ hji hjn he hej with hr | hr
    ·by_cases hl':listed.getD j false=true
     ·have:=hr.closed (D:=fun j=>listed.getD j false) hcl hl';simp only [h0f] at this;cases this
     ·simpa using hl'
    ·exact absurd hl (hr.2 l hw)
  have hst':=hst.frame cmpSlot cmpLoc;obtain ⟨hdst,hst'⟩:=hst';have hjoin:=vbb ops i e es 0 (fun j=>listed.getD j false) s0 (v6w _) (by simpa using he) h0f (by
   intro j ej hij hej hD;simp only [v4y] at hej;have hjn:j < ops.size:=by have:=(v3f.1 hej).1;omega
   obtain ⟨oj,hoj⟩:∃oj,ops[j]?=some oj:=⟨ops[j]'(by omega),by simp [show j < ops.size by omega]⟩;have nr:¬Reach ops j i:=fun hr=>by
    have:=hr.closed (D:=fun j=>listed.getD j false) hcl hD;simp only [h0f] at this;cases this
   constructor
   ·rcases qfu hsl hij ho hoj with hr | hr
    ·exact (nr hr).elim
    ·rw [hoj,ho];simp only [v40];cases hd:oj.dst with
     | none=>exact .inl rfl
     | some d =>
      refine .inr fun hh=>?_
      exact (Oper.apart_spec hr).2.1 d hh.symm hd
   ·rcases hev _ _ _ _ hij hjn he hej with hr | hr
    ·exact (nr hr).elim
    ·exact fun l hl hl2=>(hr.1 l hl2).2 hl)
  have hD':apM ops es 0 (fun j=>(listed.setIfInBounds i true).getD j false) s0=apM ops es 0 (fun j=>j == i || listed.getD j false) s0:=by
   refine q3p ops es 0 _ _ s0 fun j _ hj=>?_
   by_cases hji:i=j
   ·subst hji;simp [hsz,hlt]
   ·rw [getD_set_ne false hji];have:(j == i)=false:=by simp;omega
    simp [this]
  have next:∀a' w' inj',SRf C (qm7 (apM ops es 0 (fun j=>listed.getD j false) s0).1 o'.dst e.v) (ovr e.us (apM ops es 0 (fun j=>listed.getD j false) s0).2) inj' a' w' →
    wpAny C.P .any ops Q fuel (listed.setIfInBounds i true) a' w':=by
   intro a' w' inj' hs';refine ih (listed.setIfInBounds i true) a' w' inj' (by simp [hsz]) ?_ (fun j hj hjs=>by rw [getD_set_ne false (by omega)];exact hnl j hj hjs) ?_ ?_
   ·intro j hj m hm;by_cases hji:i=j
    ·subst hji;exact getD_set_true (hpre' m hm)
    ·have hj':(listed.setIfInBounds i true).getD j false=true:=hj;rw [getD_set_ne false hji] at hj';exact getD_set_true (hcl j hj' m hm)
   ·have hli:listed[i]?=some false:=by
     have:i < listed.size:=by omega
     simp [this] at h0f ⊢;exact h0f
    have key:∀(l:List Bool) (i:Nat),l[i]?=some false→((l.set i true).filter (! ·)).length+1=(l.filter (! ·)).length:=by
     intro l
     induction l with
     | nil=>intro i h;simp at h
     | cons b l ihl =>
      intro i h;cases i with
      | zero=>simp at h;subst h;simp
      | succ i =>
       simp only [v5t] at h;have:=ihl i h;cases b <;> simp [this] <;> omega
    have:=key listed.toList i (by simpa using hli);rw [Array.toList_setIfInBounds];omega
   ·rw [hD',hjoin,ho];exact hs'
  unfold wpOp;rw [ho];simp only;rcases hst' with ⟨hg,hdo⟩ | ⟨hg,rfl⟩
  ·rw [qjo hs hg];simp only [if_true];refine .inl (hdo C.X _ _ (fun _ _=>rfl) (fun _ _=>rfl) hs.hr (qol hs.ev) (fun x=>hs.eval x) fun val w' inj' h1 h2 h3=>?_);exact next _ _ _ (hs.putM hdst h1 h2 h3)
  ·rw [qjo hs hg];simp only [v2o,if_false];exact next _ _ inj (hs.putM (us:=[]) hdst hs.hr (Ev.refl _ _ _ _) ⟨[],rfl,rfl⟩)
inductive DChM (C:Cx) (ops:Array Oper):List Oper→St→List EvM→St→Prop
 | nil {st}:DChM C ops [] st [] st
 | cons {o rest st e es st'} (hd:qbb C.N o=true) (h:(qax ops st.env o=some true∧vvd C.D C.P o (ev st.env) st.sig e.v e.us e.rs)∨(qax ops st.env o=some false∧e=⟨.p (.tup []),[],[]⟩))
   (hr:DChM C ops rest ⟨qel st.env o.dst e.v,e.us++st.heap⟩ es st'):DChM C ops (o :: rest) st (e :: es) st'
theorem DChM.chain {C:Cx} {ops:Array Oper} {l:List Oper} {st:St} {es:List EvM} {st':St} (h:DChM C ops l st es st'):∀i,(∀j,j < l.length→ops[i+j]?=l[j]?) →
  es.length=l.length∧q1v C ops es i (st.env.get,st.sig)∧apM ops es i (fun _=>true) (st.env.get,st.sig)=(st'.env.get,st'.sig):=by
 induction h with
 | nil=>intro i hi;exact ⟨rfl,trivial,rfl⟩
 | @cons o rest st e es st' hd h hr ih =>
  intro i hi;have h0:ops[i]?=some o:=by have:=hi 0 (by simp);simpa using this
  obtain ⟨h3,h1,h2⟩:=ih (i+1) (fun j hj=>by have:=hi (j+1) (by simp;omega);rw [show i+1+j=i+(j+1) by omega,this];simp);have e1:((qm7 st.env.get ((ops[i]?).bind (·.dst)) e.v,ovr e.us st.sig):(Nat→AV)×(Nat→AO))=((⟨qel st.env o.dst e.v,e.us++st.heap⟩:St).env.get,(⟨qel st.env o.dst e.v,e.us++st.heap⟩:St).sig):=by
   rw [h0];simp only [v40,ql4,St.sig,qxj]
  refine ⟨by simp [h3],⟨⟨o,h0,hd,?_⟩,?_⟩,?_⟩
  ·rw [qvt,qon];exact h
  ·rw [e1];exact h1
  ·simp only [apM,if_true];rw [e1];exact h2
def qy1 (ops:Array Oper) (n:Nat):Bool:=(List.range' n (ops.size - n)).all fun j=>(v34 j).all fun i=>q0n (vat ops ops.size) j i
theorem q9b {ops:Array Oper} {n:Nat} (h:qy1 ops n=true):∀j,n≤j→j < ops.size→∀i,i < j→Reach ops j i:=by
 simp only [qy1,List.all_eq_true,v6j,List.mem_range'_1] at h;exact fun j h1 h2 i hi=>qmp (h j ⟨h1,by omega⟩ i hi)
variable {C:Cx} {Q:Exit→St→Prop} {st:St}
theorem vea (n:Nat) {id:Nat} {l:List Oper} {es:List EvM} {st':St} (hm:C.P.follows .mixedOrders=true) (hsl:qh2 l.toArray=true) (hn:n≤l.length) (hls:qy1 l.toArray n=true)
  (h1:DChM C l.toArray (l.take n) st es st') (h2:EvsM l.toArray es) (h3:AL C l.toArray (l.drop n) Q st'):AWp C (.region id l.toArray true) Q st:=by
 have hreach:=q9b hls;obtain ⟨hel,hcp,hap⟩:=h1.chain 0 (fun j hj=>by
  rw [v3r] at hj;rw [v3j,if_pos (by omega)];simp)
 have hel':es.length=n:=by rw [hel,v3r];omega
 intro inj a w hs;refine wp_region_any hm ?_;have hf:Fr C.D w { w with drawn:=w.drawn+1 }:=⟨rfl,rfl,rfl,fun _=>v4p _,v4o _,fun _ _=>rfl,fun _ _=>rfl⟩;have hE:Ev C.D C.X inj st.sig w inj st.sig { w with drawn:=w.drawn+1 }:=hf.ev;refine q9a (by simpa using hn) hel' hcp hsl h2 hreach ?_ _ _ _ _ inj (by simp) ?_ ?_ ?_ ?_
 ·intro a' w' inj' hs';rw [hap] at hs';have hal:=h3 inj' a' w' ⟨hs'.env,hs'.size,hs'.defers,hs'.hr,hs'.ev⟩;have heq:=wpOps_eq_wpList (P:=C.P) (ops:=l.toArray) (Q:=vk4 C Q) (l.drop n) n (fun j=>by rw [List.getElem?_drop];simp);rw [v3m] at heq;rw [v4b,heq];exact hal
 ·intro j hj;simp only [getD_replicate_false] at hj;cases hj
 ·intro j _ _;exact getD_replicate_false _ _
 ·refine v4q (List.length_filter_le _ _) (by simp)
 ·rw [q3p l.toArray es 0 _ (fun _=>false) _ fun j _ _=>getD_replicate_false _ _];have hnone:∀(es:List EvM) (i:Nat) (s:(Nat→AV)×(Nat→AO)),apM l.toArray es i (fun _=>false) s=s:=by
   intro es
   induction es with
   | nil=>intro i s;rfl
   | cons e es ih=>intro i s;simp only [apM,v2o,if_false];exact ih (i+1) s
  rw [hnone];exact ⟨fun t=>AR.ev hE hs.hr.xlt _ _ (hs.env t),hs.size,hs.defers,hs.hr.fr hf,hs.ev.trans hE⟩
section
variable {X X':Nat→Prop} {inj inj':Inj} {σ σ':Nat→AO} {w:World}
theorem vyb (hp:∀b,b < w.heap.size→(X' b∨F inj' σ' b)→X b∨F inj σ b) {x:PV} {v:Value} (h:PR (fun b=>X b∨F inj σ b) w x v):PR (fun b=>X' b∨F inj' σ' b) w x v :=
 PR.keep ⟨v4o _,fun _ _ _=>rfl,fun b hb hx hn=>hx (hp b hb hn)⟩ x v h
mutual
theorem q9c (hp:∀b,b < w.heap.size→(X' b∨F inj' σ' b)→X b∨F inj σ b):∀(x:AV) (v:Value),(∀l∈qqd x,σ' l=σ l∧inj' l=inj l)→AR X inj σ w x v→AR X' inj' σ' w x v
 | .any,_,_,_=>trivial
 | .p x,v,_,h=>vyb hp h
 | .nils,_,_,h=>h
 | .loc l g i off,v,hl,h=>by
  obtain ⟨h1,h2⟩:=hl l (by simp [qqd])
  obtain ⟨a1,a2⟩:=h
  refine ⟨a1,fun o ho=>?_⟩
  rw [h1] at ho
  rw [h2]
  exact a2 o ho
 | .own l g off len,v,hl,h=>by
  obtain ⟨h1,h2⟩:=hl l (by simp [qqd])
  obtain ⟨a1,a2⟩:=h
  refine ⟨a1,fun o ho=>?_⟩
  rw [h1] at ho
  rw [h2]
  exact a2 o ho
 | .mapo l g,v,hl,h=>by
  obtain ⟨h1,h2⟩:=hl l (by simp [qqd])
  obtain ⟨a1,a2⟩:=h
  refine ⟨a1,fun o ho=>?_⟩
  rw [h1] at ho
  rw [h2]
  exact a2 o ho
 | .func fn cs,v,hl,h=>by
  obtain ⟨vs,h1,h2⟩:=h
  exact ⟨vs,h1,ql6 hp cs vs (by simpa [qqd] using hl) h2⟩
 | .agg cs,v,hl,h=>by
  obtain ⟨vs,h1,h2,h3⟩:=h
  exact ⟨vs,h1,ql6 hp cs vs (by simpa [qqd] using hl) h2,h3⟩
 | .tup cs,v,hl,h=>by
  obtain ⟨vs,h1,h2⟩:=h
  exact ⟨vs,h1,ql6 hp cs vs (by simpa [qqd] using hl) h2⟩
theorem ql6 (hp:∀b,b < w.heap.size→(X' b∨F inj' σ' b)→X b∨F inj σ b):∀(xs:List AV) (vs:List Value),(∀l∈qh3 xs,σ' l=σ l∧inj' l=inj l)→ARs X inj σ w xs vs→ARs X' inj' σ' w xs vs
 | [],_,_,h=>h
 | x :: xs,_,hl,h=>by
  obtain ⟨v,r,rfl,h1,h2⟩:=h
  exact ⟨v,r,rfl,q9c hp x v (fun l hh=>hl l (by simp [qh3,hh])) h1,ql6 hp xs r (fun l hh=>hl l (by simp [qh3,hh])) h2⟩
end
theorem q9d {l:Nat} {o:AO} (hp:∀b,b < w.heap.size→(X' b∨F inj' σ' b)→X b∨F inj σ b) (hX:∀b c,inj l=some (b,c)→o.alive=true→¬X b→¬X' b) (hi:inj' l=inj l) (hl:∀k∈qs4 o,σ' k=σ k∧inj' k=inj k)
  (h:OR X inj σ w l o):OR X' inj' σ' w l o:=by
 cases o with
 | dead g=>trivial
 | arr e sz g es =>
  obtain ⟨vs,o1,o2,o3,o4⟩:=h;refine ⟨vs,ql6 hp es vs (by simpa [qs4] using hl) o1,o2,o3,?_⟩;rw [hi];rcases o4 with o4 | ⟨b,c,cur,p1,p2,p3⟩
  ·exact .inl o4
  ·exact .inr ⟨b,c,cur,p1,hX b c p1 rfl p2,p3⟩
 | map g ks vs =>
  obtain ⟨b,c,ms,clock,p1,p2,p3,p4,p5⟩:=h;refine ⟨b,c,ms,clock,by rw [hi];exact p1,hX b c p1 rfl p2,p3,ql6 hp ks _ (fun k hk=>hl k (by simp [qs4,hk])) p4,ql6 hp vs _ (fun k hk=>hl k (by simp [qs4,hk])) p5⟩
end
def qex (σ:Nat→AO) (S:List Nat) (l:Nat):AO:=if l∈S then σ l else .dead 0
def vkq (σ:Nat→AO) (S:List Nat):Prop:=∀l∈S,∀k∈qs4 (σ l),k∈S
def XO (X:Nat→Prop) (inj:Inj) (σ:Nat→AO) (S:List Nat) (b:Nat):Prop:=X b∨∃l c,l ∉ S∧(σ l).alive=true∧inj l=some (b,c)
section
variable {X:Nat→Prop} {inj:Inj} {σ:Nat→AO} {w:World} {S:List Nat}
theorem qfk {l:Nat} (h:(qex σ S l).alive=true):l∈S∧qex σ S l=σ l:=by
 unfold qex at h ⊢;by_cases hl:l∈S
 ·simp [hl]
 ·simp [hl,AO.alive] at h
theorem q57 (b:Nat):(XO X inj σ S b∨F inj (qex σ S) b)↔(X b∨F inj σ b):=by
 constructor
 ·rintro ((h | ⟨l,c,h1,h2,h3⟩) | ⟨l,c,o,h1,h2,_,h3⟩)
  ·exact .inl h
  ·exact .inr ⟨l,c,σ l,rfl,h2,rfl,h3⟩
  ·obtain ⟨q1,q2⟩:=qfk (h1 ▸ h2);exact .inr ⟨l,c,o,by rw [←h1,q2],h2,rfl,h3⟩
 ·rintro (h | ⟨l,c,o,h1,h2,_,h3⟩)
  ·exact .inl (.inl h)
  ·by_cases hl:l∈S
   ·exact .inr ⟨l,c,o,by unfold qex;rw [if_pos hl];exact h1,h2,rfl,h3⟩
   ·exact .inl (.inr ⟨l,c,hl,by rw [h1];exact h2,h3⟩)
theorem HR.part (h:HR X inj σ w) (hs:vkq σ S):HR (XO X inj σ S) inj (qex σ S) w:=by
 refine ⟨fun l o ho=>?_,fun l l' o o' b c c' h1 h2 h3 h4 h5 h6=>?_,fun b hb=>?_⟩
 ·by_cases hl:l∈S
  ·have ho':σ l=o:=by unfold qex at ho;rw [if_pos hl] at ho;exact ho
   refine q9d (fun b _ hh=>(q57 b).1 hh) (fun b c hi ha hx=>?_) rfl (fun k hk=>?_) (h.obj l o ho')
   ·rintro (hh | ⟨m,c',q1,q2,q3⟩)
    ·exact hx hh
    ·have:=h.inj1 l m o (σ m) b c c' ho' rfl ha q2 hi q3;subst this;exact q1 hl
   ·rw [←ho'] at hk;exact ⟨by unfold qex;rw [if_pos (hs l hl k hk)],rfl⟩
  ·unfold qex at ho;rw [if_neg hl] at ho;subst ho;trivial
 ·obtain ⟨q1,q2⟩:=qfk (l:=l) (by rw [h1];exact h3);obtain ⟨q3,q4⟩:=qfk (l:=l') (by rw [h2];exact h4);exact h.inj1 l l' o o' b c c' (by rw [←q2];exact h1) (by rw [←q4];exact h2) h3 h4 h5 h6
 ·rcases hb with hb | ⟨l,c,q1,q2,q3⟩
  ·exact h.xlt b hb
  ·exact (h.flt (D:=fun _=>false) ⟨l,c,σ l,rfl,q2,rfl,q3⟩).1
theorem HR.less (h:HR X inj σ w) (hs:vkq σ S):HR X inj (qex σ S) w:=by
 have hp:∀b,(X b∨F inj (qex σ S) b)→X b∨F inj σ b:=by
  rintro b (h | ⟨l,c,o,h1,h2,_,h3⟩)
  ·exact .inl h
  ·obtain ⟨q1,q2⟩:=qfk (h1 ▸ h2);exact .inr ⟨l,c,o,by rw [←h1,q2],h2,rfl,h3⟩
 refine ⟨fun l o ho=>?_,fun l l' o o' b c c' h1 h2 h3 h4 h5 h6=>?_,h.xlt⟩
 ·by_cases hl:l∈S
  ·have ho':σ l=o:=by unfold qex at ho;rw [if_pos hl] at ho;exact ho
   refine q9d (fun b _ hh=>hp b hh) (fun b c hi ha hx=>hx) rfl (fun k hk=>?_) (h.obj l o ho');rw [←ho'] at hk;exact ⟨by unfold qex;rw [if_pos (hs l hl k hk)],rfl⟩
  ·unfold qex at ho;rw [if_neg hl] at ho;subst ho;trivial
 ·obtain ⟨q1,q2⟩:=qfk (l:=l) (by rw [h1];exact h3);obtain ⟨q3,q4⟩:=qfk (l:=l') (by rw [h2];exact h4);exact h.inj1 l l' o o' b c c' (by rw [←q2];exact h1) (by rw [←q4];exact h2) h3 h4 h5 h6
end
theorem HR.frame {D:Prop} {X:Nat→Prop} {inj inj1:Inj} {σ τ:Nat→AO} {w w':World} {S S':List Nat} (h:HR X inj σ w) (hs:vkq σ S) (hsub:∀l∈S,l∈S') (hnew:∀l∈S',l ∉ S→σ l=.dead 0)
  (h1:HR (XO X inj σ S) inj1 τ w') (hτ:∀l,l ∉ S'→τ l=.dead 0) (hs':vkq τ S') (h2:Ev D (XO X inj σ S) inj (qex σ S) w inj1 τ w') :
  HR X (fun l=>if l∈S' then inj1 l else inj l) (fun l=>if l∈S' then τ l else σ l) w'∧Ev D X inj σ w (fun l=>if l∈S' then inj1 l else inj l) (fun l=>if l∈S' then τ l else σ l) w' ∧
  ∀x v,(∀l∈qqd x,l∈S')→AR (XO X inj σ S) inj1 τ w' x v→AR X (fun l=>if l∈S' then inj1 l else inj l) (fun l=>if l∈S' then τ l else σ l) w' x v:=by
 -- what is protected
 have hF:∀b,b < w'.heap.size→(X b∨F (fun l=>if l∈S' then inj1 l else inj l) (fun l=>if l∈S' then τ l else σ l) b)→XO X inj σ S b∨F inj1 τ b:=by
  rintro b _ (hb | ⟨l,c,o,q1,q2,_,q3⟩)
  ·exact .inl (.inl hb)
  ·by_cases hl:l∈S'
   ·simp only [hl,if_true] at q1 q3;exact .inr ⟨l,c,o,q1,q2,rfl,q3⟩
   ·simp only [hl,if_false] at q1 q3;exact .inl (.inr ⟨l,c,fun hh=>hl (hsub l hh),by rw [q1];exact q2,q3⟩)
 have hev:Ev D X inj σ w (fun l=>if l∈S' then inj1 l else inj l) (fun l=>if l∈S' then τ l else σ l) w':=by
  refine ⟨h2.os,h2.tape,h2.output,h2.dr,h2.size,h2.fz,fun b hb hf=>?_,fun b hb=>?_,fun l=>?_⟩
  ·refine h2.blk b hb fun hf'=>hf ?_
   obtain ⟨l,c,o,q1,q2,_,q3⟩:=hf';obtain ⟨r1,r2⟩:=qfk (q1 ▸ q2);exact ⟨l,c,o,by rw [←q1,r2],q2,rfl,q3⟩
  ·obtain ⟨l,c,o,q1,q2,_,q3⟩:=hb;by_cases hl:l∈S'
   ·simp only [hl,if_true] at q1 q3;rcases h2.fp b ⟨l,c,o,q1,q2,rfl,q3⟩ with ⟨k,c',o',r1,r2,_,r3⟩ | r
    ·obtain ⟨t1,t2⟩:=qfk (r1 ▸ r2);exact .inl ⟨k,c',o',by rw [←r1,t2],r2,rfl,r3⟩
    ·exact .inr r
   ·simp only [hl,if_false] at q1 q3;exact .inl ⟨l,c,o,q1,q2,rfl,q3⟩
  ·by_cases hl:l∈S'
   ·simp only [hl,if_true];have:=h2.objs l;by_cases hlS:l∈S
    ·unfold qex at this;rw [if_pos hlS] at this;exact this
    ·unfold qex at this;rw [if_neg hlS] at this;rw [hnew l hl hlS];exact this
   ·simp only [hl,if_false];exact (OEv.refl _).of fun _=>trivial
 have hval:∀x v,(∀l∈qqd x,l∈S')→AR (XO X inj σ S) inj1 τ w' x v→AR X (fun l=>if l∈S' then inj1 l else inj l) (fun l=>if l∈S' then τ l else σ l) w' x v:=fun x v hx hv =>
  q9c hF x v (fun l hl=>by simp [hx l hl]) hv
 refine ⟨⟨fun l o ho=>?_,fun l l' o o' b c c' q1 q2 q3 q4 q5 q6=>?_,fun b hb=>v4r (h.xlt b hb) h2.size⟩,hev,hval⟩
 ·by_cases hl:l∈S'
  ·simp only [hl,if_true] at ho;refine q9d hF (fun b c hi ha hx hX=>hx (.inl hX)) (by simp [hl]) (fun k hk=>?_) (h1.obj l o ho);rw [←ho] at hk;have:=hs' l hl k hk;simp [this]
  ·simp only [hl,if_false] at ho;have h0:=h.obj l o ho;have hlS:l ∉ S:=fun hh=>hl (hsub l hh)
   have blk:∀b c,inj l=some (b,c)→o.alive=true→b < w.heap.size→w'.heap[b]?=w.heap[b]?:=fun b c hi ha hb=>h2.blk b hb fun hf=>by
    obtain ⟨k,c',ok,r1,r2,_,r3⟩:=hf;obtain ⟨t1,t2⟩:=qfk (r1 ▸ r2);have:=h.inj1 l k o ok b c c' ho (by rw [←t2];exact r1) ha r2 hi r3;subst this;exact hlS t1
   cases o with
   | dead g=>trivial
   | arr e sz g es =>
    obtain ⟨vs,o1,o2,o3,o4⟩:=h0;refine ⟨vs,ARs.ev hev h.xlt es vs o1,o2,o3,?_⟩;simp only [hl,if_false];rcases o4 with o4 | ⟨b,c,cur,p1,p2,p3,p4⟩
    ·exact .inl o4
    ·exact .inr ⟨b,c,cur,p1,p2,by rw [blk b c p1 rfl (v2b.1 p3).1];exact p3,p4⟩
   | map g ks vs =>
    obtain ⟨b,c,ms,clock,p1,p2,p3,p4,p5⟩:=h0;refine ⟨b,c,ms,clock,by simp only [hl,if_false];exact p1,p2,by rw [blk b c p1 rfl (v2b.1 p3).1];exact p3,ARs.ev hev h.xlt ks _ p4,ARs.ev hev h.xlt vs _ p5⟩
 · -- different blocks
  have key:∀(l l':Nat) (o o':AO) (b c c':Nat),l∈S'→l' ∉ S'→τ l=o→σ l'=o'→o.alive=true→o'.alive=true→inj1 l=some (b,c)→inj l'=some (b,c')→False:=by
   intro l l' o o' b c c' hl hl' q1 q2 q3 q4 q5 q6;have hb:=(h.flt (D:=fun _=>false) ⟨l',c',o',q2,q4,rfl,q6⟩).1;rcases h2.fp b ⟨l,c,o,q1,q3,rfl,q5⟩ with ⟨k,ck,ok,r1,r2,_,r3⟩ | r
   ·obtain ⟨t1,t2⟩:=qfk (r1 ▸ r2);have:=h.inj1 k l' ok o' b ck c' (by rw [←t2];exact r1) q2 r2 q4 r3 q6;subst this;exact hl' (hsub _ t1)
   ·omega
  by_cases hl:l∈S' <;> by_cases hl':l'∈S'
  ·simp only [hl,hl',if_true] at q1 q2 q5 q6;exact h1.inj1 l l' o o' b c c' q1 q2 q3 q4 q5 q6
  ·simp only [hl,hl',if_true,if_false] at q1 q2 q5 q6;exact (key l l' o o' b c c' hl hl' q1 q2 q3 q4 q5 q6).elim
  ·simp only [hl,hl',if_true,if_false] at q1 q2 q5 q6;exact (key l' l o' o b c' c hl' hl q2 q1 q4 q3 q6 q5).elim
  ·simp only [hl,hl',if_false] at q1 q2 q5 q6;exact h.inj1 l l' o o' b c c' q1 q2 q3 q4 q5 q6
end Go.Ab
namespace Go.Ab
open Go
variable {D:Prop}
mutual
def shA (δ:Nat→Nat):AV→AV
 | .any=>.any
 | .p x=>.p x
 | .nils=>.nils
 | .loc l g i off=>.loc l (g+δ l) i off
 | .own l g off len=>.own l (g+δ l) off len
 | .mapo l g=>.mapo l (g+δ l)
 | .func fn cs=>.func fn (qss δ cs)
 | .agg cs=>.agg (qss δ cs)
 | .tup cs=>.tup (qss δ cs)
def qss (δ:Nat→Nat):List AV→List AV
 | []=>[]
 | v :: r=>shA δ v :: qss δ r
end
def shO (δ:Nat→Nat) (d:Nat):AO→AO
 | .dead g=>.dead (g+d)
 | .arr e sz g es=>.arr e sz (g+d) (qss δ es)
 | .map g ks vs=>.map (g+d) (qss δ ks) (qss δ vs)
def shS (δ:Nat→Nat) (σ:Nat→AO):Nat→AO:=fun l=>shO δ (δ l) (σ l)
def shH (δ:Nat→Nat):List (Nat×AO)→List (Nat×AO)
 | []=>[]
 | (l,o) :: r=>(l,shO δ (δ l) o) :: shH δ r
theorem qji (δ:Nat→Nat):∀(l:List AV),(qss δ l).length=l.length
 | []=>rfl
 | _ :: r=>by simp only [qss,v5y,qji δ r]
theorem vbc (δ:Nat→Nat):∀(l:List PV),qss δ (l.map AV.p)=l.map AV.p
 | []=>rfl
 | x :: r=>by simp only [v3t,qss,shA,vbc δ r]
theorem qjy (δ:Nat→Nat) (d:Nat) (o:AO):(shO δ d o).gen=o.gen+d:=by cases o <;> rfl
theorem qor (δ:Nat→Nat) (d:Nat) (o:AO):(shO δ d o).alive=o.alive:=by cases o <;> rfl
theorem vh1 {δ:Nat→Nat} {d:Nat} {o:AO} {e sz g:Nat} {es:List AV} (h:shO δ d o=.arr e sz (g+d) es):∃es0,o=.arr e sz g es0∧es=qss δ es0:=by
 cases o with
 | arr e' sz' g' es' =>
  simp only [shO,AO.arr.injEq] at h;obtain ⟨rfl,rfl,hg,rfl⟩:=h;exact ⟨es',by rw [v7h hg],rfl⟩
 | dead g'=>simp [shO] at h
 | map g' ks vs=>simp [shO] at h
theorem vsl {δ:Nat→Nat} {d:Nat} {o:AO} {g:Nat} {ks vs:List AV} (h:shO δ d o=.map (g+d) ks vs):∃k0 v0,o=.map g k0 v0∧ks=qss δ k0∧vs=qss δ v0:=by
 cases o with
 | map g' k' v' =>
  simp only [shO,AO.map.injEq] at h;obtain ⟨hg,rfl,rfl⟩:=h;exact ⟨k',v',by rw [v7h hg],rfl,rfl⟩
 | dead g'=>simp [shO] at h
 | arr e sz g' es=>simp [shO] at h
section
variable {X:Nat→Prop} {inj inj':Inj} {σ σ':Nat→AO} {w w':World} {δ:Nat→Nat}
theorem shF (E:Nat→Bool) (b:Nat):q7u E inj (shS δ σ) b↔q7u E inj σ b:=by
 constructor
 ·rintro ⟨l,c,o,h1,h2,h3,h4⟩;exact ⟨l,c,σ l,rfl,by rw [←h1] at h2;simpa [shS,qor] using h2,h3,h4⟩
 ·rintro ⟨l,c,o,h1,h2,h3,h4⟩;exact ⟨l,c,shS δ σ l,rfl,by rw [←h1] at h2;simpa [shS,qor] using h2,h3,h4⟩
theorem shFe (inj:Inj) (σ:Nat→AO) (δ:Nat→Nat):F inj (shS δ σ)=F inj σ:=funext fun b=>propext (shF _ b)
theorem vsm {l g i off:Nat} {v:Value}:vfu inj (shS δ σ) l (g+δ l) i off v↔vfu inj σ l g i off v:=by
 constructor
 ·rintro ⟨h1,h2⟩;refine ⟨h1,fun o ho=>?_⟩;obtain ⟨a1,a2⟩:=h2 _ rfl;simp only [shS,ho,qjy] at a1 a2;refine ⟨by omega,fun hg e sz es he=>a2 (by omega) e sz (qss δ es) ?_⟩;rw [he];rfl
 ·rintro ⟨h1,h2⟩;refine ⟨h1,fun o ho=>?_⟩;obtain ⟨a1,a2⟩:=h2 _ rfl;subst ho;simp only [shS,qjy];refine ⟨by omega,fun hg e sz es he=>?_⟩;obtain ⟨es0,q1,q2⟩:=vh1 he;exact a2 (by omega) e sz es0 q1
theorem vsn {l g off len:Nat} {v:Value}:vcx inj (shS δ σ) l (g+δ l) off len v↔vcx inj σ l g off len v:=by
 constructor
 ·rintro ⟨h1,h2⟩;refine ⟨h1,fun o ho=>?_⟩;obtain ⟨a1,a2⟩:=h2 _ rfl;simp only [shS,ho,qjy] at a1 a2;refine ⟨by omega,fun hg e sz es he=>?_⟩;have:=a2 (by omega) e sz (qss δ es) (by rw [he];rfl);rw [qji] at this;exact this
 ·rintro ⟨h1,h2⟩;refine ⟨h1,fun o ho=>?_⟩;obtain ⟨a1,a2⟩:=h2 _ rfl;subst ho;simp only [shS,qjy];refine ⟨by omega,fun hg e sz es he=>?_⟩;obtain ⟨es0,q1,q2⟩:=vh1 he;rw [q2,qji];exact a2 (by omega) e sz es0 q1
theorem vso {l g:Nat} {v:Value}:vot inj (shS δ σ) l (g+δ l) v↔vot inj σ l g v:=by
 constructor
 ·rintro ⟨h1,h2⟩;refine ⟨h1,fun o ho=>?_⟩;obtain ⟨a1,a2⟩:=h2 _ rfl;simp only [shS,ho,qjy] at a1 a2;exact ⟨by omega,fun hg ks vs he=>a2 (by omega) (qss δ ks) (qss δ vs) (by rw [he];rfl)⟩
 ·rintro ⟨h1,h2⟩;refine ⟨h1,fun o ho=>?_⟩;obtain ⟨a1,a2⟩:=h2 _ rfl;subst ho;simp only [shS,qjy];refine ⟨by omega,fun hg ks vs he=>?_⟩;obtain ⟨k0,v0,q1,_,_⟩:=vsl he;exact a2 (by omega) k0 v0 q1
mutual
theorem vyc:∀(x:AV) (v:Value),AR X inj (shS δ σ) w (shA δ x) v↔AR X inj σ w x v
 | .any,_=>v65
 | .p x,v=>by
  simp only [shA,AR]
  rw [show (fun b=>X b∨F inj (shS δ σ) b)=(fun b=>X b∨F inj σ b) from by rw [shFe]]
 | .nils,_=>v65
 | .loc l g i off,v=>vsm
 | .own l g off len,v=>vsn
 | .mapo l g,v=>vso
 | .func fn cs,v=>by
  simp only [shA,AR]
  exact exists_congr fun vs=>and_congr_right fun _=>qwp cs vs
 | .agg cs,v=>by
  simp only [shA,AR]
  exact exists_congr fun vs=>and_congr_right fun _=>and_congr_left fun _=>qwp cs vs
 | .tup cs,v=>by
  simp only [shA,AR]
  exact exists_congr fun vs=>and_congr_right fun _=>qwp cs vs
theorem qwp:∀(xs:List AV) (vs:List Value),ARs X inj (shS δ σ) w (qss δ xs) vs↔ARs X inj σ w xs vs
 | [],_=>v65
 | x :: xs,vs=>by
  simp only [qss,ARs]
  exact exists_congr fun v=>exists_congr fun r=>and_congr_right fun _=>and_congr (vyc x v) (qwp xs r)
end
theorem vyd {l:Nat} (o:AO):OR X inj (shS δ σ) w l (shO δ (δ l) o)↔OR X inj σ w l o:=by
 cases o with
 | dead g=>exact v65
 | arr e sz g es =>
  simp only [shO,OR,qji];refine exists_congr fun vs=>and_congr (qwp es vs) (and_congr_right fun _=>and_congr_right fun _=>?_)
  have:qss δ es=[]↔es=[]:=by
   constructor
   ·intro h;have:=qji δ es;rw [h] at this;exact v26 this.symm
   ·rintro rfl;rfl
  rw [this]
 | map g ks vs =>
  simp only [shO,OR];exact exists_congr fun b=>exists_congr fun c=>exists_congr fun ms=>exists_congr fun clock=>and_congr_right fun _=>and_congr_right fun _=>and_congr_right fun _=>and_congr (qwp ks _) (qwp vs _)
theorem vye:HR X inj (shS δ σ) w↔HR X inj σ w:=by
 constructor
 ·intro h;refine ⟨fun l o ho=>?_,fun l l' o o' b c c' h1 h2 h3 h4 h5 h6=>?_,h.xlt⟩
  ·exact (vyd o).1 (h.obj l _ (by simp only [shS,ho]))
  ·exact h.inj1 l l' _ _ b c c' rfl rfl (by simp only [shS,qor,h1,h3]) (by simp only [shS,qor,h2,h4]) h5 h6
 ·intro h;refine ⟨fun l o ho=>?_,fun l l' o o' b c c' h1 h2 h3 h4 h5 h6=>?_,h.xlt⟩
  ·subst ho;exact (vyd _).2 (h.obj l _ rfl)
  ·subst h1 h2;simp only [shS,qor] at h3 h4;exact h.inj1 l l' _ _ b c c' rfl rfl h3 h4 h5 h6
theorem vyf {o o':AO} {d:Nat} {p:Prop} (h:OEv o o' p):OEv (shO δ d o) (shO δ d o') p:=by
 obtain ⟨h1,h2⟩:=h;refine ⟨by rw [qjy,qjy];omega,fun ha hg=>?_⟩;rw [qor] at ha;rw [qjy,qjy] at hg;obtain ⟨q1,q2⟩:=h2 ha (by omega);refine ⟨q1,?_⟩;rcases q2 with ⟨e,sz,es,es',r1,r2,r3⟩ | ⟨ks,vs,ks',vs',r1,r2⟩
 ·refine .inl ⟨e,sz,qss δ es,qss δ es',?_,?_,?_⟩
  ·rw [qjy];conv=>lhs;rw [r1]
   rfl
  ·rw [qjy,r2];rfl
  ·rw [qji,qji,r3]
 ·refine .inr ⟨qss δ ks,qss δ vs,qss δ ks',qss δ vs',?_,?_⟩
  ·rw [qjy];conv=>lhs;rw [r1]
   rfl
  ·rw [qjy,r2];rfl
theorem Ev_sh (h:Ev D X inj σ w inj' σ' w'):Ev D X inj (shS δ σ) w inj' (shS δ σ') w' :=
 ⟨h.os,h.tape,h.output,h.dr,h.size,h.fz,fun b hb hf=>h.blk b hb fun hh=>hf ((shF _ b).2 hh),fun b hb=>(h.fp b ((shF _ b).1 hb)).imp (fun hh=>(shF _ b).2 hh) id,fun l=>vyf (h.objs l)⟩
end
def Ip (D:Prop) (P:Program) (k:FuncId) (avs:List AV) (H:List (Nat×AO)) (v:AV) (H':List (Nat×AO)):Prop :=
 HasBody P k∧∀(X:Nat→Prop) (inj:Inj) (w:World) (vs:List Value),HR X inj (qar H) w→TabOk P (fun b=>X b∨F inj (qar H) b) w→ARs X inj (qar H) w avs vs →
  Calls P k vs.toArray w fun e w'=>∃val,e=.returned val∧∃inj',HR X inj' (qar H') w'∧Ev D X inj (qar H) w inj' (qar H') w'∧AR X inj' (qar H') w' v val
theorem Ip.of_awp {P:Program} {k:FuncId} {avs:List AV} {H:List (Nat×AO)} {v:AV} {fn:Func} {c:Code} {N:Nat} (B:Nat) (S:St) (hk:HasBody P k) (hf:P.funcs[k]?=some fn) (hb:fn.body=some c) (hN:fn.ntmps=N) (hn:avs.length≤N)
  (hr:vf4 P S fn.results.toList=some v)
  (h:∀X inj w hT,AWp ⟨P,N,B,X,H,inj,w,D,hT⟩ c (tE ⟨P,N,B,X,H,inj,w,D,hT⟩ .ret S) ⟨qjc 0 avs,H⟩):Ip D P k avs H v S.heap:=by
 subst hN;refine ⟨hk,fun X inj w vs hR hT hars=>?_⟩;have hl:=hars.length;refine calls_of_wp hf hb (wp_mono (h X inj w hT inj _ w ⟨fun t=>?_,?_,rfl,hR,Ev.refl _ _ _ _⟩) ?_)
 ·have:=qnr avs vs 0 t hars;simp only [v6w,if_true,v4y] at this;have e:(vs.toArray++v62 (fn.ntmps - vs.toArray.size) undef).getD t undef=vs.getD t undef:=by
   by_cases ht:t < vs.length
   ·simp [v2a,ht]
   ·simp only [v60,v2a,v4b,ht,if_false,v61];rw [v5s,v3e (by omega)];split <;> rfl
  rw [e];exact this
 ·simp [←hl];omega
 ·rintro e a' w' ⟨s,inj0,hs0,rfl,hle⟩;have hs:=hle.sr hs0;obtain ⟨val,h1,h2⟩:=qry hs hr;exact ⟨hs.defers,val,h1,val,rfl,_,hs.hr,hs.ev,h2⟩
def qfl:List (Nat×AO)→List Nat
 | []=>[]
 | (l,_) :: r=>l :: qfl r
def q7x (p:Nat→Prop):List Nat→Prop
 | []=>True
 | l :: r=>p l∧q7x p r
theorem qnu {p:Nat→Prop}:∀{s:List Nat},q7x p s→∀l∈s,p l
 | _ :: _,h,l,hl=>by
  rcases v6d.1 hl with rfl | hl
  ·exact h.1
  ·exact qnu h.2 l hl
theorem qy2:∀{H:List (Nat×AO)} {l:Nat},l ∉ qfl H→qar H l=.dead 0
 | [],_,_=>rfl
 | (k,o) :: r,l,h=>by
  simp only [qfl,v6d,not_or] at h;simp only [qar];rw [if_neg (Ne.symm h.1)];exact qy2 h.2
theorem vbd (δ:Nat→Nat):∀(H:List (Nat×AO)) (l:Nat),l∈qfl H→qar (shH δ H) l=shO δ (δ l) (qar H l)
 | (k,o) :: r,l,h=>by
  simp only [shH,qar];by_cases e:k=l
  ·subst e;simp
  ·rw [if_neg e,if_neg e];simp only [qfl,v6d] at h;exact vbd δ r l (h.resolve_left fun h=>e h.symm)
theorem vbe (K:List (Nat×AO)):∀(H:List (Nat×AO)) (l:Nat),(l∈qfl H→qar (H++K) l=qar H l)∧(l ∉ qfl H→qar (H++K) l=qar K l)
 | [],l=>⟨(fun h=>by cases h),fun _=>rfl⟩
 | (k,o) :: r,l=>by
  simp only [qfl,v6d,v5p,qar];by_cases e:k=l
  ·subst e;simp
  ·rw [if_neg e,if_neg e];have:=vbe K r l;exact ⟨fun h=>this.1 (h.resolve_left fun h=>e h.symm),fun h=>this.2 fun hh=>h (.inr hh)⟩
theorem vbf (δ:Nat→Nat):∀(H:List (Nat×AO)),qfl (shH δ H)=qfl H
 | []=>rfl
 | (k,o) :: r=>by simp only [shH,qfl,vbf δ r]
def qy3 (S:List Nat):List (Nat×AO)→Prop
 | []=>True
 | (_,o) :: r=>q7x (fun k=>qyr k S=true) (qs4 o)∧qy3 S r
theorem qvy {S:List Nat}:∀{H:List (Nat×AO)},qy3 S H→∀l,∀k∈qs4 (qar H l),k∈S
 | [],_,l,k,hk=>by simp [qar,qs4] at hk
 | (j,o) :: r,h,l,k,hk=>by
  simp only [qar] at hk;split at hk
  ·have:=qnu h.1 k hk;rw [qmq] at this;exact of_decide_eq_true this
  ·exact qvy h.2 l k hk
theorem q58:∀(l:List PV),qh3 (l.map AV.p)=[]
 | []=>rfl
 | x :: r=>by simp only [v3t,qh3,qqd,q58 r,List.append_nil]
mutual
theorem vh2 (δ:Nat→Nat):∀(x:AV),qqd (shA δ x)=qqd x
 | .any=>rfl
 | .p _=>rfl
 | .nils=>rfl
 | .loc ..=>rfl
 | .own ..=>rfl
 | .mapo ..=>rfl
 | .func _ cs=>by simp only [shA,qqd,qr1 δ cs]
 | .agg cs=>by simp only [shA,qqd,qr1 δ cs]
 | .tup cs=>by simp only [shA,qqd,qr1 δ cs]
theorem qr1 (δ:Nat→Nat):∀(xs:List AV),qh3 (qss δ xs)=qh3 xs
 | []=>rfl
 | x :: xs=>by simp only [qss,qh3,vh2 δ x,qr1 δ xs]
end
theorem vbg (δ:Nat→Nat) (d:Nat) (o:AO):qs4 (shO δ d o)=qs4 o:=by
 cases o <;> simp only [shO,qs4,qr1]
def dlt:List (Nat×Nat)→Nat→Nat
 | [],_=>0
 | (k,d) :: r,l=>if k=l then d else dlt r l
def dks:List (Nat×Nat)→List Nat
 | []=>[]
 | (k,_) :: r=>k :: dks r
theorem vh3:∀{ds:List (Nat×Nat)} {l:Nat},l ∉ dks ds→dlt ds l=0
 | [],_,_=>rfl
 | (k,d) :: r,l,h=>by
  simp only [dks,v6d,not_or] at h;simp only [dlt];rw [if_neg (Ne.symm h.1)];exact vh3 h.2
variable {C:Cx} {Q:Exit→St→Prop} {st:St}
theorem AL_ip {ops:Array Oper} {o:Oper} {rest:List Oper} {f:Operand} {args:Array Operand} {ats:Array TypeId} {k:FuncId} {avs avs0:List AV} {H H':List (Nat×AO)} {v:AV} (ds:List (Nat×Nat))
  (hp:Ip C.D C.P k avs0 H v H') (ho:o.op=.call ⟨.value f,args,ats⟩) (hg:qax ops st.env o=some true) (hd:qbb C.N o=true) (hc:qb0 st.env f args.toList=some (k,avs)) (ha:qss (dlt ds) avs0=avs)
  (hds:q7x (fun l=>qyr l (qfl H)=true) (dks ds))
  (hS:q7x (fun l=>qar st.heap l=shO (dlt ds) (dlt ds l) (qar H l)) (qfl H)) (hR:qy3 (qfl H) H) (hA:q7x (fun l=>qyr l (qfl H)=true) (qh3 avs0))
  (hsub:q7x (fun l=>qyr l (qfl H')=true) (qfl H)) (hnew:q7x (fun l=>qyr l (qfl H)=true∨qar st.heap l=.dead 0) (qfl H')) (hR':qy3 (qfl H') H') (hv:q7x (fun l=>qyr l (qfl H')=true) (qqd v))
  (h:AL C ops rest Q ⟨qel st.env o.dst (shA (dlt ds) v),shH (dlt ds) H'++st.heap⟩):AL C ops (o :: rest) Q st:=by
 have mem:∀{l:Nat} {S:List Nat},qyr l S=true→l∈S:=fun hm=>by rw [qmq] at hm;exact of_decide_eq_true hm
 obtain ⟨hb,hW⟩:=hp;intro inj a w hs;simp only [wpList,qbc hs hg,if_true];refine .inl ?_;obtain ⟨vs,hrun,hars⟩:=ql3 hs ho hb hc;unfold Oper.wp;rw [hrun];simp only [Oper.upon];have hSσ:∀l∈qfl H,st.sig l=shO (dlt ds) (dlt ds l) (qar H l):=qnu hS;have hd0:∀l,l ∉ qfl H→dlt ds l=0:=fun l hl=>vh3 fun hh=>hl (mem (qnu hds l hh))
 have hkk:∀l∈qfl H,l∈qfl H':=fun l hl=>mem (qnu hsub l hl)
 have hsh:vkq st.sig (qfl H):=fun l hl j hj=>by
  rw [hSσ l hl,vbg] at hj;exact qvy hR l j hj
 have hpart:qex st.sig (qfl H)=shS (dlt ds) (qar H):=by
  funext l;unfold qex;split
  ·rename_i hl;exact hSσ l hl
  ·rename_i hl;simp only [shS,qy2 hl,hd0 l hl,shO]
 have hin:∀l∈qh3 avs,qex st.sig (qfl H) l=st.sig l∧inj l=inj l:=fun l hl=>by
  rw [←ha,qr1] at hl;exact ⟨by unfold qex;rw [if_pos (mem (qnu hA l hl))],rfl⟩
 have hars':ARs (XO C.X inj st.sig (qfl H)) inj (qex st.sig (qfl H)) w avs vs:=ql6 (fun b _ hh=>(q57 b).1 hh) _ _ hin hars;have hT':TabOk C.P (fun b=>XO C.X inj st.sig (qfl H) b∨F inj (qex st.sig (qfl H)) b) w:=(qol hs.ev).keep ⟨v4o _,fun _ _ _=>rfl,fun b _ hx hn=>hx ((q57 b).1 hn)⟩;have hr':=hs.hr.part hsh;rw [hpart] at hars' hT' hr';rw [←ha] at hars';rw [shFe] at hT';refine (hW (XO C.X inj st.sig (qfl H)) inj w vs (vye.1 hr') hT' ((qwp _ _).1 hars')).mono ?_;rintro e' w' ⟨val,rfl,inj1,q1,q2,q3⟩;have t1:HR (XO C.X inj st.sig (qfl H)) inj1 (shS (dlt ds) (qar H')) w':=vye.2 q1;have t2:Ev C.D (XO C.X inj st.sig (qfl H)) inj (qex st.sig (qfl H)) w inj1 (shS (dlt ds) (qar H')) w':=by rw [hpart];exact Ev_sh q2
 have t3:AR (XO C.X inj st.sig (qfl H)) inj1 (shS (dlt ds) (qar H')) w' (shA (dlt ds) v) val:=(vyc _ _).2 q3;have hτ:∀l,l ∉ qfl H'→shS (dlt ds) (qar H') l=.dead 0:=fun l hl=>by
  simp only [shS,qy2 hl,hd0 l (fun hh=>hl (hkk l hh)),shO]
 have hτS:vkq (shS (dlt ds) (qar H')) (qfl H'):=fun l hl j hj=>by
  simp only [shS,vbg] at hj;exact qvy hR' l j hj
 have hnew':∀l∈qfl H',l ∉ qfl H→st.sig l=.dead 0:=fun l hl hn=>(qnu hnew l hl).resolve_left fun hh=>hn (mem hh)
 obtain ⟨z1,z2,z3⟩:=HR.frame hs.hr hsh hkk hnew' t1 hτ hτS t2;have hov:(fun l=>if l∈qfl H' then shS (dlt ds) (qar H') l else st.sig l)=qar (shH (dlt ds) H'++st.heap):=by
  funext l;have:=vbe st.heap (shH (dlt ds) H') l;rw [vbf] at this;split
  ·rename_i hl;rw [this.1 hl,vbd _ _ _ hl];rfl
  ·rename_i hl;rw [this.2 hl]
 have z4:=z3 (shA (dlt ds) v) val (fun l hl=>by rw [vh2] at hl;exact mem (qnu hv l hl)) t3;rw [hov] at z1 z2 z4;refine h (fun l=>if l∈qfl H' then inj1 l else inj l) _ _ ?_;have h3:=hs.put (o:=o) (u:=none) hd hs.hr (Ev.refl _ _ _ _) (v:=.any) (val:=val) trivial;refine ⟨fun t=>?_,h3.size,h3.defers,z1,hs.ev.trans z2⟩;cases hdst:o.dst with
 | none =>
  have:=h3.env t;rw [hdst] at this;simpa [qel,Act.put] using AR.ev z2 hs.hr.xlt _ _ (hs.env t)
 | some d =>
  simp only [qbb,hdst,decide_eq_true_eq] at hd;simp only [qel,Act.put,Env.get];by_cases ht:d=t
  ·subst ht;rw [if_pos rfl];have:(a.tmps.setIfInBounds d val).getD d undef=val:=by simp [hs.size,hd]
   rw [this];exact z4
  ·rw [if_neg ht];have:(a.tmps.setIfInBounds d val).getD t undef=a.tmps.getD t undef:=by simp [v2d ht]
   rw [this];exact AR.ev z2 hs.hr.xlt _ _ (hs.env t)
theorem zFo {P:Prop} (h:P:=by (repeat' refine And.intro ?_ ?_) <;> first | rfl | exact .inl rfl | exact .inr rfl | (simp;done)):P:=h
section
variable {σ τ:Type}
def vvh (B:(σ→Option τ)→σ→Option τ):Nat→σ→Option τ
 | 0,_=>none
 | n+1,s=>B (vvh B n) s
end
attribute [go_sem] shA qss shO shH vbc dlt dks qfl q7x qy3 qs4 qqd qh3 q58
theorem zIp (ds:List (Nat×Nat)) {ops:Array Oper} {o:Oper} {rest:List Oper} {f:Operand} {args:Array Operand} {ats:Array TypeId} {k:FuncId} {avs avs0:List AV} {H H':List (Nat×AO)} {v:AV}
  (hp:Ip C.D C.P k avs0 H v H') (h:AL C ops rest Q ⟨qel st.env o.dst (shA (dlt ds) v),shH (dlt ds) H'++st.heap⟩)
  (ho:o.op=.call ⟨.value f,args,ats⟩:=by rfl) (hg:qax ops st.env o=some true:=by first | exact qa6 rfl | exact qby rfl rfl (by exact rfl) (by exact rfl)) (hd:qbb C.N o=true:=by rfl)
  (hc:qb0 st.env f args.toList=some (k,avs):=by simp only [go_sem,seval, *];exact rfl) (ha:qss (dlt ds) avs0=avs:=by simp only [go_sem,seval];all_goals exact zF)
  (hds:q7x (fun l=>qyr l (qfl H)=true) (dks ds):=by simp only [go_sem,seval];all_goals exact zF)
  (hS:q7x (fun l=>qar st.heap l=shO (dlt ds) (dlt ds l) (qar H l)) (qfl H):=by simp only [go_sem,seval];all_goals exact zF)
  (hR:qy3 (qfl H) H:=by simp only [go_sem,seval];all_goals exact zF) (hA:q7x (fun l=>qyr l (qfl H)=true) (qh3 avs0):=by simp only [go_sem,seval];all_goals exact zF)
  (hsub:q7x (fun l=>qyr l (qfl H')=true) (qfl H):=by simp only [go_sem,seval];all_goals exact zF) (hnew:q7x (fun l=>qyr l (qfl H)=true∨qar st.heap l=.dead 0) (qfl H'):=by simp only [go_sem,seval];all_goals exact zFo)
  (hR':qy3 (qfl H') H':=by simp only [go_sem,seval];all_goals exact zF) (hv:q7x (fun l=>qyr l (qfl H')=true) (qqd v):=by simp only [go_sem,seval];all_goals exact zF):AL C ops (o :: rest) Q st :=
 AL_ip ds hp ho hg hd hc ha hds hS hR hA hsub hnew hR' hv h
end Go.Ab
namespace Go.Ab
open Go
variable {C:Cx} {Q:Exit→St→Prop} {st:St} {inj:Inj} {a:Act} {w:World}
end Go.Ab
namespace Go.Ab
open Go
variable {C:Cx} {Q:Exit→St→Prop} {st:St}
def vvi:AO→Bool
 | .arr _ _ _ [_]=>true
 | _=>false
theorem vl8 (e sz g:Nat) (x:AV):vvi (.arr e sz g [x])=true:=rfl
def vl9 (h:List (Nat×AO)):List Nat→Prop
 | []=>True
 | p :: ps=>vvi (qar h p)=true∧vl9 h ps
theorem vh4 (h:List (Nat×AO)):vl9 h []=True:=rfl
theorem veb (h:List (Nat×AO)) (p:Nat) (ps:List Nat):vl9 h (p :: ps)=(vvi (qar h p)=true∧vl9 h ps):=rfl
attribute [go_sem] vl8 vh4 veb
def isLoc:AV→Bool
 | .loc _ _ _ _=>true
 | _=>false
theorem vh5 (l g i off:Nat):isLoc (.loc l g i off)=true:=rfl
attribute [go_sem] vh5
section
variable {α:Type} {h h' H0 rest:List (Nat×AO)} {f f' k e sz G G' e' sz':Nat} {o:AO} {enc:α→PV} {ll:List (List α)}
end
section
variable {β:Type} {f n e sz G:Nat} {ll ll':List β}
end
attribute [go_sem] true_or
theorem zSwA {c:Code} (x y:Nat) (h:AWp C c Q ⟨vfk (swp x y) st.env,vd6 (swp x y) st.heap⟩)
  (h1:qw0 (qar C.H0 x) (qar st.heap y):=by simp only [go_sem,seval, *];all_goals first | exact fun h=>h | (simp;done) | (simp [*];done)) (h2:qw0 (qar C.H0 y) (qar st.heap x):=by simp only [go_sem,seval, *];all_goals first | exact fun h=>h | (simp;done) | (simp [*];done)):AWp C c Q st:=vr4 x y h1 h2 h
end Go.Ab
namespace Go.Ab
open Go
variable {C:Cx} {Q:Exit→St→Prop} {st:St}
end Go.Ab
namespace Go.Ab
open Go
theorem vh6 (D:Nat→Bool) (l g off len:Nat):view D 6 (.own l g off len)=qvs D 5 l g off len:=rfl
theorem vh7 (D:Nat→Bool) (cs:List AV):view D 6 (.agg cs)=(qaz (view D 5) cs).bind fun xs=>.ret (.agg xs):=rfl
theorem vsp (D:Nat→Bool) (x:PV):view D 5 (.p x)=.ret x:=rfl
theorem vec (D:Nat→Bool):view D 5 .nils=.ret (.slc []):=rfl
theorem vh8 (D:Nat→Bool) (l g off len:Nat):view D 5 (.own l g off len)=qvs D 4 l g off len:=rfl
theorem vsq (D:Nat→Bool) (x:PV):view D 4 (.p x)=.ret x:=rfl
attribute [go_sem] vh6 vh7 vsp vec vh8 vsq
theorem swp_l (x y:Nat):swp x y x=y:=by simp [swp]
theorem swp_r (x y:Nat):swp x y y=x:=by unfold swp;split <;> simp_all
theorem vyg (a:List AV) (p:List AV→Prop):(∃cs,AV.tup a=AV.tup cs∧p cs)=p a:=propext ⟨fun ⟨cs,h,hp⟩=>by cases h;exact hp,fun h=>⟨a,rfl,h⟩⟩
attribute [go_sem] vyg vhk swp_l swp_r qqu vaq
theorem not_t {b:Bool} (h:b=true):(!b)=false:=by rw [h];rfl
theorem not_f {b:Bool} (h:¬b=true):(!b)=true:=by simpa using h
variable {C:Cx} {Q:Exit→St→Prop} {st:St}
theorem zin {c:Operand} {x y:Code} (h:AWp C x Q st) (hc:ev st.env c=.p (.bool true):=by simp only [go_sem,seval, *];all_goals first | assumption | exact Bool.eq_false_iff.2 (by assumption) | exact not_f (by assumption)):AWp C (.cond c x y) Q st:=vgy hc h
theorem zjn {c:Operand} {x y:Code} (h:AWp C y Q st) (hc:ev st.env c=.p (.bool false):=by simp only [go_sem,seval, *];all_goals first | assumption | exact Bool.eq_false_iff.2 (by assumption) | exact not_t (by assumption)):AWp C (.cond c x y) Q st:=vgz hc h
theorem vyh {ops:Array Oper} {l:List Oper} (x y:Nat) (h:AL C ops l Q ⟨vfk (swp x y) st.env,vd6 (swp x y) st.heap⟩)
  (h1:qw0 (qar C.H0 x) (qar st.heap y):=by simp only [go_sem,seval, *];all_goals first | exact fun h=>h | (simp;done) | (simp [*];done)) (h2:qw0 (qar C.H0 y) (qar st.heap x):=by simp only [go_sem,seval, *];all_goals first | exact fun h=>h | (simp;done) | (simp [*];done)):AL C ops l Q st:=vxw x y h1 h2 h
end Go.Ab
namespace Go.Ab
open Go
theorem vyi (x y:BitVec 64):@HOr.hOr (BitVec 64) (BitVec 64) (BitVec 64) (@instHOrOfOrOp (BitVec v67.bits) (@BitVec.instOrOp v67.bits)) x y=x ||| y:=rfl
theorem vsr (x y:BitVec 64):@HAnd.hAnd (BitVec 64) (BitVec 64) (BitVec 64) (@instHAndOfAndOp (BitVec v67.bits) (@BitVec.instAndOp v67.bits)) x y=x &&& y:=rfl
attribute [go_sem] vyi vsr
set_option linter.constructorNameAsVariable false
inductive Dst where
 | no
 | at (p:Ps)
def ql7:Option Tmp→Dst
 | some t=>.at (pth t)
 | none=>.no
inductive IOp where
 | f (d:Dst) (g:G)
 | call (d:Dst) (fn:Opd) (args:List Opd)
 | gd (j:Ps) (want:Bool) (d:Dst) (o:IOp)
 | cpy (tA:TypeId) (x y:Opd) (d1 d2 d3:Ps)
 | bad
def vyj (P:Program) (t:TypeId) (qas:Array (Nat×Operand)) (B:Nat) (ρ:Operand→AV):L (AV×Upd):=qbf (.ofOpt (qh0 P t (qas.toList.map fun p=>(p.1,ρ p.2))))
def vyk (P:Program) (t:TypeId) (x:Operand) (lo hi:Option Operand) (B:Nat) (ρ:Operand→AV):L (AV×Upd):=match P.underlying t,qsq (lo.map ρ),qsq (hi.map ρ) with
  | some .string,some l,some h=>(match ρ x with | .p (.str _)=>qbf (qnk (ρ x) l h) | _=>.fail)
  | some (.slice e),some l,some h=>(match ρ x with | .p (.str _)=>.fail | _=>if qog P e=true then qbf (aop.sliceT P e (ρ x) l h) else .fail)
  | _,_,_=>.fail
def vyl (P:Program) (t:TypeId) (x ix:Operand) (B:Nat) (ρ:Operand→AV):L (AV×Upd):=match qsp (ρ ix) with
  | some i=>qbf (.ofOpt (q1d P t (ρ x) i))
  | none=>.fail
def vh9 (P:Program) (o:Oper):IOp:=match o.op with
 | .move x=>.f (ql7 o.dst) (vd8 P o (opd x))
 | .assign x=>.f (ql7 o.dst) (vd8 P o (opd x))
 | .pick c a b=>.f (ql7 o.dst) (vx7 P o (opd c) (opd a) (opd b))
 | .alloc t=>(match qa9 P t with
  | some z=>bif v6q z.cells.length (P.cellsOf t) then .f (ql7 o.dst) (vpd P o t z) else .bad
  | none=>.bad)
 | .box t x=>.f (ql7 o.dst) (gBox P o t (opd x))
 | .build t qas=>.f (ql7 o.dst) (gL P o (vyj P t qas))
 | .load t x=>(match qan P t with
  | some b=>.f (ql7 o.dst) (vx9 P o (P.cellsOf t) b (opd x))
  | none=>.bad)
 | .store t x y=>(match qan P t with
  | some b=>.f (ql7 o.dst) (vhs P o (P.cellsOf t) (opd x) (opd y))
  | none=>.bad)
 | .binOp op t x y _=>.f (ql7 o.dst) (gBin P o op t (q5t P t) (qoq P t) (vya P op t) (opd x) (opd y))
 | .convert s d x=>(match P.underlying s,P.underlying d with
  | some (.int _),some .string=>.f (ql7 o.dst) (gChr (opd x))
  | _,_=>.f (ql7 o.dst) (gL P o fun B ρ=>qbf (q1e P s d (ρ x))))
 | .slice t x lo hi none=>.f (ql7 o.dst) (gL P o (vyk P t x lo hi))
 | .fieldAddr s x fd=>(match qah P s fd with
  | some off=>.f (ql7 o.dst) (vpg P o off (opd x))
  | none=>.bad)
 | .indexAddr t x ix=>(match P.underlying t with
  | some (.slice e)=>bif qog P e then .f (ql7 o.dst) (gIdx P o t (P.cellsOf e) true (opd x) (opd ix)) else .bad
  | _=>.f (ql7 o.dst) (gIdx P o t 0 false (opd x) (opd ix)))
 | .index t x ix=>.f (ql7 o.dst) (gL P o (vyl P t x ix))
 | .lookup t m k c=>.f (ql7 o.dst) (gL P o fun B ρ=>qbf (qvp P t (ρ m) (ρ k) c))
 | .mapUpdate t m k v=>.f (ql7 o.dst) (gL P o fun B ρ=>qqn P t (ρ m) (ρ k) (ρ v))
 | .nilCheck x=>.f (ql7 o.dst) (gNil P o (opd x))
 | .extract x i=>.f (ql7 o.dst) (gExt P o i (opd x))
 | .call ⟨.value fn,args,_⟩=>.call (ql7 o.dst) (opd fn) (args.toList.map opd)
 | .call ⟨.builtin .len,⟨[x]⟩,⟨[t]⟩⟩=>bif (P.underlying t).isSome then .f (ql7 o.dst) (gLen P o t (qoq P t) (opd x)) else .bad
 | .call ⟨.builtin .cap,⟨[x]⟩,⟨[t]⟩⟩=>bif qoq P t then .f (ql7 o.dst) (gCap (opd x)) else .bad
 | .call ⟨.builtin .append,⟨[s,x]⟩,⟨[t,t2]⟩⟩=>bif v6q t t2 then .f (ql7 o.dst) (gApp P o t (opd s) (opd x)) else (match P.underlying t,P.underlying t2 with
   | some (.slice e),some (.int _)=>(match qa9 P e with
    | some z=>bif qer (P.cellsOf e) z && (v7j 0 (P.cellsOf e) && v6q (qct.zeroLen P e) (P.cellsOf e)) then .f (ql7 o.dst) (vht P t e (P.cellsOf e) z (opd s) (opd x)) else .bad
    | none=>.bad)
   | _,_=>.bad)
 | _=>.f (ql7 o.dst) (gL P o fun B ρ=>aop P B ρ o)
def qs7 (P:Program) (N:Nat) (ops:Array Oper) (o:Oper):IOp:=bif qbb N o then (match o.guard with
 | none=>vh9 P o
 | some (j,want)=>(match (ops[j]?).bind (·.dst) with
  | some d=>.gd (pth d) want (ql7 o.dst) (vh9 P o)
  | none=>.bad)) else .bad
def q59 (P:Program) (N:Nat) (o1 o2 o3:Oper):Option IOp:=match o1.op,o2.op,o3.op,o1.dst,o2.dst,o3.dst with
 | .slice tA x none none none,.move y,.call ⟨.builtin .copy,⟨[.tmp a,.tmp b]⟩,⟨[dT,sT]⟩⟩,some d1,some d2,some d3=>(match P.underlying tA,P.underlying dT with
  | some (.array 3 te),some (.slice te')=>bif v6q te te' && (qog P te && (v6q (P.cellsOf te) 1 && (v6q a d1 && (v6q b d2 && ((!v6q d1 d2) && (o1.guard.isNone && (o2.guard.isNone && (o3.guard.isNone && (qbb N o1 && (qbb N o2 && (qbb N o3 &&
    (match y with | .tmp t=>!v6q t d1 | _=>true)))))))))))) then some (.cpy tA (opd x) (opd y) (pth d1) (pth d2) (pth d3)) else none
  | _,_=>none)
 | _,_,_,_,_,_=>none
def vib (P:Program) (N:Nat) (o:Oper) (i1:IOp) (r:List IOp) (rest:List Oper):List IOp:=match rest with
 | o2 :: o3 :: _=>(match q59 P N o o2 o3 with
  | some i=>i :: r.drop 2
  | none=>i1 :: r)
 | _=>i1 :: r
def q3q (P:Program) (N:Nat) (ops:Array Oper):List Oper→List IOp
 | []=>[]
 | o :: rest=>vib P N o (qs7 P N ops o) (q3q P N ops rest) rest
inductive EZ where
 | bad
 | st (e:Ty AV) (h:Ty AO) (f:Nat)
inductive CR where
 | bad
 | r (x:Exit) (e:Ty AV) (h:Ty AO) (f:Nat)
inductive KR where
 | bad
 | r (v:AV) (h:Ty AO) (f:Nat)
abbrev qlj:=AV→List AV→Ty AO→Nat→KR
def qvn (e:Ty AV) (d:Dst) (x:AV):Ty AV:=@Dst.rec (fun _=>Ty AV) e (fun p=>Ty.set .any x e p) d
abbrev KE:=Ty AV→Ty AO→Nat→EZ
def onRy (d:Dst) (e:Ty AV) (h:Ty AO) (f:Nat) (k:KE) (r:Ry):EZ :=
 @Ry.rec (fun _=>EZ) .bad (fun x _=>k (qvn e d x) h f) (fun x l o _=>bif v7j l f then k (qvn e d x) (q3h h l o) f else .bad) (fun x o _=>k (qvn e d x) (q3h h f o) (v7p f)) r
def onK (d:Dst) (e:Ty AV) (k:KE) (r:KR):EZ:=@KR.rec (fun _=>EZ) .bad (fun x h f=>k (qvn e d x) h f) r
def vss (want:Bool) (d:Dst) (e:Ty AV) (h:Ty AO) (f:Nat) (k:KE) (go:EZ) (v:AV):EZ:=match v with
 | .p (.bool b)=>bif b == want then go else k (qvn e d (.p (.tup []))) h f
 | .p (.tup [])=>k (qvn e d (.p (.tup []))) h f
 | _=>.bad
def vbh:List AV→Option (List Int)
 | []=>some []
 | .p (.int .i64 n) :: r=>(match vbh r with
  | some l=>some (n :: l)
  | none=>none)
 | _=>none
def q9e (tA:TypeId) (x y:AV) (d1 d2 d3:Ps) (e:Ty AV) (h:Ty AO) (f:Nat) (k:KE):EZ:=match x with
 | .loc l g 0 0=>(match ho h l,(qmm y).run (ho h) with
  | .arr t 3 g' [.p (.agg [.int .i64 c0,.int .i64 c1,.int .i64 c2])],some els=>(match vbh els with
   | some L=>bif v6q t tA && (v6q g g' && v7j l f) then
     k (Ty.set .any .any (Ty.set .any y (Ty.set .any .any e d1) d2) d3) (q3h h l (.arr tA 3 g [.p (.agg [.int .i64 (L.getD 0 c0),.int .i64 (L.getD 1 c1),.int .i64 (L.getD 2 c2)])])) f else .bad
   | none=>.bad)
  | _,_=>.bad)
 | _=>.bad
def q3r (call:qlj) (o:IOp):KE→KE:=fun k e h f=>@IOp.rec (fun _=>EZ)
 (fun d g=>onRy d e h f k (g e h f))
 (fun d fn args=>onK d e k (call (vo e fn) (args.map (vo e)) h f))
 (fun j want d _ ih=>vss want d e h f k ih (Ty.get .any e j))
 (fun tA x y d1 d2 d3=>q9e tA (vo e x) (vo e y) d1 d2 d3 e h f k)
 .bad o
def vbi (call:qlj) (ops:List IOp):KE:=@List.rec IOp (fun _=>KE) .st (fun o _ ih=>q3r call o ih) ops
structure EvW where
 ws:List (Nat×AO)
 rs:List Nat
inductive DR where
 | bad
 | st (e:Ty AV) (h:Ty AO) (f:Nat) (es:List EvW)
def mkH (h:Ty AO):List Nat→Ty AO
 | []=>.e
 | l :: r=>q3h (mkH h r) l (ho h l)
def q6a (h:Ty AO):List (Nat×AO)→Ty AO
 | []=>h
 | (l,o) :: r=>q3h (q6a h r) l o
def qnb (h h':Ty AO) (S:List Nat):List Nat→List (Nat×AO)
 | []=>[]
 | l :: r=>bif qyr l S && AO.same (ho h l) (ho h' l) then qnb h h' S r else (l,ho h' l) :: qnb h h' S r
def q6b (S:List Nat):List Nat→List Nat
 | []=>[]
 | l :: r=>bif qyr l S then q6b S r else l :: q6b S r
def qy4 (f:Nat):List Nat→Bool
 | []=>true
 | l :: r=>v7i f l && qy4 f r
abbrev KD:=Ty AV→Ty AO→Nat→DR
def qs8 (x:EvW):DR→DR
 | .bad=>.bad
 | .st e h f es=>.st e h f (x :: es)
def onRD (d:Dst) (e:Ty AV) (h:Ty AO) (f:Nat) (k:KD) (r:Ry):DR :=
 @Ry.rec (fun _=>DR) .bad (fun x rs=>qs8 ⟨[],rs⟩ (k (qvn e d x) h f)) (fun x l o rs=>bif v7j l f then qs8 ⟨[(l,o)],rs⟩ (k (qvn e d x) (q3h h l o) f) else .bad) (fun x o rs=>qs8 ⟨[(f,o)],rs⟩ (k (qvn e d x) (q3h h f o) (v7p f))) r
def q9f (d:Dst) (e:Ty AV) (h:Ty AO) (f:Nat) (k:KD) (S:List Nat) (x:AV) (h':Ty AO) (f':Nat):Option (List Nat)→DR
 | some S'=>bif qy4 f (q6b S S') then qs8 ⟨qnb h h' S S',S++q6b S S'⟩ (k (qvn e d x) (q6a h (qnb h h' S S')) f') else .bad
 | none=>.bad
def vma (call:qlj) (d:Dst) (v:AV) (avs:List AV) (e:Ty AV) (h:Ty AO) (f:Nat) (k:KD):Option (List Nat)→DR
 | some S=>@KR.rec (fun _=>DR) .bad (fun x h' f'=>q9f d e h f k S x h' f' (qna (ho h') 5000 (qqd x++S) [])) (call v avs (mkH h S) f)
 | none=>.bad
def vst (want:Bool) (d:Dst) (e:Ty AV) (h:Ty AO) (f:Nat) (k:KD) (go:DR) (v:AV):DR:=match v with
 | .p (.bool b)=>bif b == want then go else qs8 ⟨[],[]⟩ (k (qvn e d (.p (.tup []))) h f)
 | .p (.tup [])=>qs8 ⟨[],[]⟩ (k (qvn e d (.p (.tup []))) h f)
 | _=>.bad
def q6c (call:qlj) (o:IOp):KD→KD:=fun k e h f=>@IOp.rec (fun _=>DR)
 (fun d g=>onRD d e h f k (g e h f))
 (fun d fn args=>vma call d (vo e fn) (args.map (vo e)) e h f k (qna (ho h) 5000 (qqd (vo e fn)++qh3 (args.map (vo e))) []))
 (fun j want d _ ih=>vst want d e h f k ih (Ty.get .any e j))
 (fun tA x y d1 d2 d3=>.bad)
 .bad o
def vmb (call:qlj) (ops:List IOp):KD:=@List.rec IOp (fun _=>KD) (fun e h f=>.st e h f []) (fun o _ ih=>q6c call o ih) ops
def djK:List (Nat×AO)→List Nat→Bool
 | [],_=>true
 | (l,_) :: r,s=>(!qyr l s) && djK r s
def evW (x y:EvW):Bool:=match x.ws,y.ws with
 | [],[]=>true
 | _,_=>djK x.ws y.rs && (djK x.ws (y.ws.map (·.1)) && djK y.ws x.rs)
def quj (es:List EvW):List (Nat×Nat)→Bool
 | []=>true
 | (i,j) :: r=>(match nth es i,nth es j with
  | some x,some y=>evW x y
  | _,_=>true) && quj es r
def vsu (ops:Array Oper):Nat→Nat→Nat
 | 0,n=>n
 | k+1,n=>bif qy1 ops n then n else vsu ops k (v7p n)
def vic (ops:Array Oper) (T:Nat):List (Nat×Nat):=(v34 T).flatMap fun j=>(v34 j).filterMap fun i=>bif q0n (vat ops ops.size) j i then none else some (i,j)
inductive IC where
 | skip | ret
 | exit (id:Nat)
 | seq (a b:Code)
 | cond (c:Opd) (a b:Code)
 | block (id:Nat) (b:Code)
 | loop (b:Code)
 | reg (l:List IOp)
 | drw (pre:List IOp) (ps:List (Nat×Nat)) (post:List IOp)
 | bad
def vsv (P:Program) (N:Nat) (l:Array Oper) (T:Nat):IC:=bif qh2 l && (qy1 l T && v7i T l.size) then .drw ((l.toList.take T).map (qs7 P N l)) (vic l T) ((l.toList.drop T).map (qs7 P N l)) else .bad
def vym (P:Program) (N:Nat):Code→IC
 | .skip=>.skip
 | .ret=>.ret
 | .exit id=>.exit id
 | .seq a b=>.seq a b
 | .cond c a b=>.cond (opd c) a b
 | .block id b=>.block id b
 | .loop b=>.loop b
 | .region _ l d=>bif d then vsv P N l (vsu l l.size 0) else .reg (q3q P N l l.toList)
 | _=>.bad
abbrev qpn:=Nat→Code→Ty AV→Ty AO→Nat→CR
def vsw (k:Ty AV→Ty AO→Nat→CR) (r:CR):CR:=@CR.rec (fun _=>CR) .bad (fun x e h f=>@Exit.rec (fun _=>CR) (k e h f) (fun i=>.r (.exit i) e h f) (fun i=>.r (.goto i) e h f) (.r .ret e h f) (fun c=>.r (.panic c) e h f) (.r .outgrown e h f) x) r
def vid (id:Nat) (r:CR):CR:=@CR.rec (fun _=>CR) .bad (fun x e h f=>@Exit.rec (fun _=>CR) (.r .normal e h f) (fun i=>bif v6q i id then .r .normal e h f else .r (.exit i) e h f) (fun i=>.r (.goto i) e h f) (.r .ret e h f) (fun c=>.r (.panic c) e h f) (.r .outgrown e h f) x) r
def qy5 (v:AV) (a b:CR):CR:=match v with
 | .p (.bool t)=>bif t then a else b
 | _=>.bad
def vie (r:EZ):CR:=@EZ.rec (fun _=>CR) .bad (fun e h f=>.r .normal e h f) r
def vsx (call:qlj) (ps:List (Nat×Nat)) (post:List IOp) (r:DR):CR:=@DR.rec (fun _=>CR) .bad (fun e h f es=>bif quj es ps then vie (vbi call post e h f) else .bad) r
def vmc (P:Program) (e:Ty AV) (h:Ty AO):ResultVar→Option AV
 | .tmp t=>some (eo e t)
 | .cell a t=>(qvo P t (eo e a)).run (ho h)
def vmd (P:Program) (e:Ty AV) (h:Ty AO):List ResultVar→Option (List AV)
 | []=>some []
 | x :: r=>match vmc P e h x,vmd P e h r with
  | some v,some vs=>some (v :: vs)
  | _,_=>none
def rsK (P:Program) (e:Ty AV) (h:Ty AO) (f:Nat) (rs:List ResultVar):KR:=match vmd P e h rs with
 | some [v]=>.r v h f
 | some vs=>.r (q73 vs) h f
 | none=>.bad
def vsy (P:Program) (rs:List ResultVar) (r:CR):KR:=@CR.rec (fun _=>KR) .bad (fun x e h f=>@Exit.rec (fun _=>KR) (rsK P e h f rs) (fun i=>.bad) (fun i=>.bad) (rsK P e h f rs) (fun c=>.bad) .bad x) r
def qw1:Nat→List AV→Ty AV→Ty AV
 | _,[],t=>t
 | k,x :: r,t=>qw1 (k+1) r (Ty.set .any x t (pth k))
inductive FR where
 | bad
 | r (N:Nat) (c:Code) (rs:List ResultVar)
def vme (P:Program) (k:FuncId):FR:=match P.funcs[k]? with
 | some fn=>(match fn.body with
  | some c=>bif v7i fn.ntmps 1000 then .r fn.ntmps c fn.results.toList else .bad
  | none=>.bad)
 | none=>.bad
abbrev Ext:=FuncId→Option (List PV→Option PV)
def qy6 (P:Program) (ext:Ext) (ih:qpn) (k:FuncId) (avs:List AV) (h:Ty AO) (f:Nat):KR:=match ext k with
 | some t=>(match qpd avs with
  | some ps=>(match t ps with
   | some r=>.r (.p r) h f
   | none=>.bad)
  | none=>.bad)
 | none=>@FR.rec (fun _=>KR) .bad (fun N c rs=>bif v7i avs.length N && v7i 1000 f then vsy P rs (ih N c (qw1 0 avs .e) h f) else .bad) (vme P k)
def quk (P:Program) (ext:Ext) (ih:qpn):qlj:=fun v avs h f=>match v with
 | .p (.func (.func k) cs)=>qy6 P ext ih k (avs++cs.map .p) h f
 | .func (.func k) cs=>qy6 P ext ih k (avs++cs) h f
 | _=>.bad
def ved (P:Program) (ext:Ext) (ih:qpn):qpn:=fun N c e h f=>@IC.rec (fun _=>CR)
 (.r .normal e h f) (.r .ret e h f) (fun id=>.r (.exit id) e h f)
 (fun a b=>vsw (fun e h f=>ih N b e h f) (ih N a e h f))
 (fun x a b=>qy5 (vo e x) (ih N a e h f) (ih N b e h f))
 (fun id b=>vid id (ih N b e h f))
 (fun b=>vsw (fun e h f=>ih N (.loop b) e h f) (ih N b e h f))
 (fun l=>vie (vbi (quk P ext ih) l e h f))
 (fun pre ps post=>vsx (quk P ext ih) ps post (vmb (quk P ext ih) pre e h f))
 .bad (vym P N c)
def qs9 (P:Program) (ext:Ext) (n:Nat):qpn:=@Nat.rec (fun _=>qpn) (fun _ _ _ _ _=>.bad) (fun _ ih=>ved P ext ih) n
end Go.Ab
namespace Go.Ab
open Go
set_option linter.constructorNameAsVariable false
def vbj (P:Program):Prop:=∀(k:FuncId) (fn:Func),P.funcs[k]?=some fn→fn.body.isSome=true→HasBody P k
theorem q6d {P : Program} (h : (P.funcs.all fun fn => !(fn.name == "runtime.NumGoroutine")) = true) : vbj P := by
 intro k fn hf hb args w;have h1 : (fn.name == "runtime.NumGoroutine") = false := by
  have:=Array.all_eq_true.1 h k (v2b.1 hf).1;rw [(v2b.1 hf).2] at this;simpa using this
 have h2:fn.body.isNone=false:=by cases hx:fn.body <;> simp_all
 unfold callFunc;have hp:Sem.run P program w=.ok P w:=rfl;simp only [v5e,hp,v5c,hf,h1,h2,v2o,if_false,v5f]
def q9g (P:Program) (o:Oper):IOp→Prop
 | .bad=>True
 | .f d g=>d=ql7 o.dst∧GOk P o g
 | .call d fn args=>d=ql7 o.dst∧∃f a ats,o.op=.call ⟨.value f,a,ats⟩∧fn=opd f∧args=a.toList.map opd
 | _=>False
def IOk (P:Program) (N:Nat) (ops:Array Oper) (o:Oper):IOp→Prop
 | .bad=>True
 | .gd j want d i=>qbb N o=true∧d=ql7 o.dst∧(∃k t,o.guard=some (k,want)∧(ops[k]?).bind (·.dst)=some t∧j=pth t)∧q9g P o i
 | i=>qbb N o=true∧o.guard=none∧q9g P o i
theorem q9g.f {P:Program} {o:Oper} {g:G} (h:GOk P o g):q9g P o (.f (ql7 o.dst) g):=⟨rfl,h⟩
theorem vmf (P:Program) (o:Oper):q9g P o (vh9 P o):=by
 obtain ⟨dst,op,ty,pos,af,gd⟩:=o;unfold vh9;split
 all_goals (rename_i heq;simp only at heq)
 ·subst heq;exact .f vl3
 ·subst heq;exact .f vd9
 ·subst heq;exact .f vl4
 ·rename_i t;subst heq;split
  ·rename_i z hz;rw [q0c];by_cases hc:z.cells.length=P.cellsOf t
   ·simp only [hc,decide_true,cond_true];exact .f (vhv hz hc)
   ·simp only [hc,decide_false,cond_false];trivial
  ·trivial
 ·subst heq;exact .f vsc
 ·subst heq;exact .f (q89 fun B ρ=>rfl)
 ·subst heq;split
  ·rename_i b hb;exact .f (vl7 hb)
  ·trivial
 ·subst heq;split
  ·rename_i b hb;exact .f (vhw hb)
  ·trivial
 ·subst heq;exact .f vsd
 ·subst heq;split
  ·rename_i k h1 h2;exact .f (vsi h1 h2)
  ·exact .f (q89 fun B ρ=>rfl)
 ·subst heq;exact .f (q89 fun B ρ=>rfl)
 ·subst heq;split
  ·rename_i off hoff;exact .f (vhx hoff)
  ·trivial
 ·subst heq;split
  ·rename_i e he;cases hok:qog P e with
   | false=>trivial
   | true=>exact .f (vhy fun _=>⟨e,he,rfl,hok⟩)
  ·exact .f (vhy fun h=>by cases h)
 ·subst heq;exact .f (q89 fun B ρ=>rfl)
 ·subst heq;exact .f (q89 fun B ρ=>rfl)
 ·subst heq;exact .f (q89 fun B ρ=>rfl)
 ·subst heq;exact .f vsg
 ·subst heq;exact .f vsf
 ·subst heq;exact ⟨rfl,_,_,_,rfl,rfl,rfl⟩
 ·subst heq;cases hs:(P.underlying _).isSome with
  | false=>trivial
  | true=>exact .f (vse (fun h=>h) hs)
 ·subst heq;cases hs:qoq P _ with
  | false=>trivial
  | true=>exact .f (vsh hs)
 ·subst heq;rename_i s x t t2;rw [q0c];by_cases ht:t=t2
  ·subst ht;simp only [decide_true,cond_true];exact .f vsj
  ·simp only [ht,decide_false,cond_false];split
   ·rename_i e kn h1 h2;split
    ·rename_i z hz;cases hc:qer (P.cellsOf e) z && (v7j 0 (P.cellsOf e) && v6q (qct.zeroLen P e) (P.cellsOf e)) with
     | false=>trivial
     | true =>
      simp only [v2m,q0c,decide_eq_true_eq] at hc;exact .f (vhz h1 h2 hz hc.1 (vkp.1 hc.2.1) hc.2.2)
    ·trivial
   ·trivial
 ·exact .f (q89 fun B ρ=>rfl)
theorem qxn (P:Program) (N:Nat) (ops:Array Oper) (o:Oper):IOk P N ops o (qs7 P N ops o):=by
 unfold qs7;cases hd:qbb N o with
 | false=>trivial
 | true =>
  rw [cond_true];have h:=vmf P o;split
  ·rename_i hg;cases hc:vh9 P o with
   | bad=>trivial
   | f d g=>rw [hc] at h;exact ⟨hd,hg,h⟩
   | call d fn args=>rw [hc] at h;exact ⟨hd,hg,h⟩
   | gd j want d i=>rw [hc] at h;exact h.elim
   | cpy tA x y d1 d2 d3=>rw [hc] at h;exact h.elim
  ·rename_i j want hg;split
   ·rename_i t ht;exact ⟨hd,rfl,⟨j,t,hg,ht,rfl⟩,h⟩
   ·trivial
end Go.Ab
namespace Go.Ab
open Go
set_option linter.constructorNameAsVariable false
structure RepV (e:Ty AV) (h:Ty AO) (f:Nat) (st:St):Prop where
 env:st.env.get=eo e
 heap:qar st.heap=ho h
 free:vpb h f
 ge:1000≤f
theorem RepV.evf {e:Ty AV} {h:Ty AO} {f:Nat} {st:St} (r:RepV e h f st):evf (eo e)=ev st.env:=by rw [←r.env,qvt]
def FunW (P:Program) (k:FuncId) (avs:List AV) (h:Ty AO) (x:AV) (h1:Ty AO) (f1:Nat):Prop:=HasBody P k∧(∃hl,qar hl=ho h1)∧vpb h1 f1∧1000≤f1 ∧
 ∀(D:Prop) (X:Nat→Prop) (inj:Inj) (w:World) (vs:List Value),HR X inj (ho h) w→TabOk P (fun b=>X b∨F inj (ho h) b) w→ARs X inj (ho h) w avs vs →
  Calls P k vs.toArray w fun e w'=>∃val,e=.returned val∧∃inj',HR X inj' (ho h1) w'∧Ev D X inj (ho h) w inj' (ho h1) w'∧AR X inj' (ho h1) w' x val
def qq3:AV→Option (FuncId×List AV)
 | .p (.func (.func k) cs)=>some (k,cs.map .p)
 | .func (.func k) cs=>some (k,cs)
 | _=>none
theorem qy7 {env:Env} {fn:Operand} {args:List Operand} {k:FuncId} {cs:List AV} (h:qq3 (ev env fn)=some (k,cs)):qb0 env fn args=some (k,args.map (ev env)++cs):=by
 unfold qq3 at h;unfold qb0;split at h
 ·rename_i heq;rw [heq];cases h;rfl
 ·rename_i heq;rw [heq];cases h;rfl
 ·cases h
def qta (P:Program) (call:qlj):Prop:=∀(v:AV) (avs:List AV) (h:Ty AO) (f:Nat) (x:AV) (h1:Ty AO) (f1:Nat),(∃hl,qar hl=ho h)→vpb h f→1000≤f→call v avs h f=.r x h1 f1 →
 ∃k cs,qq3 v=some (k,cs)∧FunW P k (avs++cs) h x h1 f1
def q3s (P:Program) (ih:qpn):Prop:=∀(C:Cx) (c:Code) (e:Ty AV) (h:Ty AO) (f:Nat) (ex:Exit) (e1:Ty AV) (h1:Ty AO) (f1:Nat) (st:St) (Q:Exit→St→Prop),C.P=P→C.N≤1000 →
 ih C.N c e h f=.r ex e1 h1 f1→RepV e h f st→(∀st1,RepV e1 h1 f1 st1→Q ex st1)→AWp C c Q st
def vee (P:Program) (ext:Ext):Prop:=∀(k:FuncId) (t:List PV→Option PV) (ps:List PV) (r:PV),ext k=some t→t ps=some r→HasBody P k∧∀D,vk6 D P k ps r
variable {P:Program} {C:Cx} {Q:Exit→St→Prop} {st:St}
theorem vsz {ops:Array Oper} {o:Oper} {rest:List Oper} {fn:Operand} {args:Array Operand} {ats:Array TypeId} {k:FuncId} {cs:List AV} {h h1:Ty AO} {x:AV} {f1:Nat}
  (hW:FunW C.P k (args.toList.map (ev st.env)++cs) h x h1 f1) (hh:qar st.heap=ho h) (ho':o.op=.call ⟨.value fn,args,ats⟩) (hg:qax ops st.env o=some true) (hd:qbb C.N o=true) (hc:qq3 (ev st.env fn)=some (k,cs))
  (hn:∀heap',qar heap'=ho h1→AL C ops rest Q ⟨qel st.env o.dst x,heap'⟩):AL C ops (o :: rest) Q st:=by
 obtain ⟨hb,⟨hl,hhl⟩,_,_,hW⟩:=hW;intro inj a w hs;simp only [wpList,qbc hs hg,if_true];refine .inl ?_;obtain ⟨vs,hrun,hars⟩:=ql3 hs ho' hb (qy7 hc);unfold Oper.wp;rw [hrun];simp only [Oper.upon];have hsg:st.sig=ho h:=hh;refine (hW C.D C.X inj w vs (hsg ▸ hs.hr) (hsg ▸ qol hs.ev) (hsg ▸ hars)).mono ?_;rintro e w' ⟨val,rfl,inj',h2,h3,h4⟩;refine hn hl hhl inj' _ _ ?_;rw [←hsg] at h3;have hput:=hs.put (o:=o) (u:=none) hd hs.hr (Ev.refl _ _ _ _) (v:=.any) (val:=val) trivial;have hsl:(St.mk (qel st.env o.dst x) hl).sig=ho h1:=hhl;refine ⟨fun t=>?_,hput.size,hput.defers,by rw [hsl];exact h2,by rw [hsl];exact hs.ev.trans h3⟩;rw [hsl];cases hdst:o.dst with
 | none=>simpa [qel,Act.put] using AR.ev h3 hs.hr.xlt _ _ (hs.env t)
 | some d =>
  simp only [qbb,hdst,decide_eq_true_eq] at hd;simp only [qel,Act.put,Env.get];by_cases ht:d=t
  ·subst ht;rw [if_pos rfl];have:(a.tmps.setIfInBounds d val).getD d undef=val:=by simp [hs.size,hd]
   rw [this];exact h4
  ·rw [if_neg ht];have:(a.tmps.setIfInBounds d val).getD t undef=a.tmps.getD t undef:=by simp [v2d ht]
   rw [this];exact AR.ev h3 hs.hr.xlt _ _ (hs.env t)
theorem q6e (e:Ty AV) (d:Option Tmp) (x:AV):eo (qvn e (ql7 d) x)=qm7 (eo e) d x:=by
 cases d with
 | none=>funext t;simp [qvn,ql7,qm7]
 | some t=>exact vo7 e t x
theorem RepV.put {e:Ty AV} {h:Ty AO} {f:Nat} {st:St} (r:RepV e h f st) (d:Option Tmp) (x:AV):RepV (qvn e (ql7 d) x) h f ⟨qel st.env d x,st.heap⟩ :=
 ⟨by rw [q6e,←r.env];exact ql4 _ _ _,r.heap,r.free,r.ge⟩
theorem RepV.set {e:Ty AV} {h:Ty AO} {f l:Nat} {o:AO} {st:St} (r:RepV e h f st) (hl:l < f) (d:Option Tmp) (x:AV):RepV (qvn e (ql7 d) x) (q3h h l o) f ⟨qel st.env d x,[(l,o)]++st.heap⟩:=by
 refine ⟨by rw [q6e,←r.env];exact ql4 _ _ _,?_,fun k hk=>?_,r.ge⟩
 ·rw [qqy,←r.heap];exact qiz _ _ _
 ·rw [qqy];unfold qhz;rw [if_neg (by omega)];exact r.free k hk
theorem RepV.new {e:Ty AV} {h:Ty AO} {f:Nat} {o:AO} {st:St} (r:RepV e h f st) (d:Option Tmp) (x:AV):RepV (qvn e (ql7 d) x) (q3h h f o) (v7p f) ⟨qel st.env d x,[(f,o)]++st.heap⟩:=by
 refine ⟨by rw [q6e,←r.env];exact ql4 _ _ _,?_,fun k hk=>?_,v7m r.ge⟩
 ·rw [qqy,←r.heap];exact qiz _ _ _
 ·rw [qqy];unfold qhz;have:f < k:=hk;rw [if_neg (by omega)];exact r.free k (by omega)
theorem vph {N:Nat} {o:Oper} {f:Nat} (hd:qbb N o=true) (hN:N≤1000) (hf:1000≤f):o.dst.getD 0≤f:=by
 unfold qbb at hd;cases hdst:o.dst with
 | none=>simp
 | some d =>
  rw [hdst] at hd;simp only [decide_eq_true_eq] at hd;exact Nat.le_of_lt (v4r hd (v4q hN hf))
theorem vpi (e:Ty AV) (l:List Operand):(l.map opd).map (vo e)=l.map (evf (eo e)):=by
 rw [List.map_map];exact v59 fun x _=>qgj e x
def vs3 (C:Cx) (ops:Array Oper) (rest:List Oper) (Q:Exit→St→Prop) (k:KE) (z:EZ):Prop:=∀(e:Ty AV) (h:Ty AO) (f:Nat) (st:St),RepV e h f st→k e h f=z→AL C ops rest Q st
theorem q3t {call:qlj} (hcall:qta P call) (hP:C.P=P) (hN:C.N≤1000) {ops:Array Oper} {o:Oper} {rest:List Oper} {i:IOp} {k:KE} {e:Ty AV} {h:Ty AO} {f:Nat} {e1:Ty AV} {h1:Ty AO} {f1:Nat}
  (hi:q9g P o i) (hd:qbb C.N o=true) (hg:qax ops st.env o=some true) (hR:RepV e h f st) (hz:q3r call i k e h f=.st e1 h1 f1) (hn:vs3 C ops rest Q k (.st e1 h1 f1)):AL C ops (o :: rest) Q st:=by
 subst hP;cases i with
 | bad=>cases hz
 | gd _ _ _ _=>exact hi.elim
 | cpy _ _ _ _ _ _=>exact hi.elim
 | f d g =>
  obtain ⟨rfl,hg'⟩:=hi;have hok:=hg' e h f hR.free (vph hd hN hR.ge);have hz':onRy (ql7 o.dst) e h f k (g e h f)=.st e1 h1 f1:=hz;generalize g e h f=r at hok hz';cases r with
  | no=>cases hz'
  | v x rs =>
   simp only [vd7,hR.evf,←hR.heap] at hok;exact vg8 hg hd hok (hn _ _ _ _ (hR.put o.dst x) hz')
  | w x l ob rs =>
   simp only [vd7,hR.evf,←hR.heap] at hok;have hz2:(bif v7j l f then k (qvn e (ql7 o.dst) x) (q3h h l ob) f else .bad)=.st e1 h1 f1:=hz';cases hl:v7j l f with
   | false=>rw [hl] at hz2;cases hz2
   | true =>
    rw [hl,cond_true] at hz2;exact vg8 hg hd hok (hn _ _ _ _ (hR.set (vkp.1 hl) o.dst x) hz2)
  | new x ob rs =>
   simp only [vd7,hR.evf,←hR.heap] at hok;exact vg8 hg hd hok (hn _ _ _ _ (hR.new o.dst x) hz')
 | call d fn args =>
  obtain ⟨rfl,fo,a,ats,ho',rfl,rfl⟩:=hi;have hz':onK (ql7 o.dst) e k (call (vo e (opd fo)) ((a.toList.map opd).map (vo e)) h f)=.st e1 h1 f1:=hz;rw [qgj,vpi] at hz';generalize hc:call (evf (eo e) fo) (a.toList.map (evf (eo e))) h f=r at hz';cases r with
  | bad=>cases hz'
  | r x h2 f2 =>
   obtain ⟨kk,cs,c1,c2⟩:=hcall _ _ _ _ _ _ _ ⟨st.heap,hR.heap⟩ hR.free hR.ge hc;rw [hR.evf] at c1 c2;refine vsz c2 hR.heap ho' hg hd c1 fun heap' hh=>?_
   obtain ⟨_,_,q1,q2,_⟩:=c2;exact hn _ _ _ _ ⟨by rw [q6e,←hR.env];exact ql4 _ _ _,hh,q1,q2⟩ hz'
theorem vmg {call:qlj} (hcall:qta P call) (hP:C.P=P) (hN:C.N≤1000) {ops:Array Oper} {o:Oper} {rest:List Oper} {i:IOp} {k:KE} {e:Ty AV} {h:Ty AO} {f:Nat} {e1:Ty AV} {h1:Ty AO} {f1:Nat}
  (hi:IOk P C.N ops o i) (hR:RepV e h f st) (hz:q3r call i k e h f=.st e1 h1 f1) (hn:vs3 C ops rest Q k (.st e1 h1 f1)):AL C ops (o :: rest) Q st:=by
 have plain:∀{o:Oper},o.guard=none→qax ops st.env o=some true:=fun h=>by unfold qax;rw [h]
 cases i with
 | bad=>cases hz
 | cpy _ _ _ _ _ _=>exact hi.2.2.elim
 | f d g=>exact q3t hcall hP hN (i:=.f d g) hi.2.2 hi.1 (plain hi.2.1) hR hz hn
 | call d fn args=>exact q3t hcall hP hN (i:=.call d fn args) hi.2.2 hi.1 (plain hi.2.1) hR hz hn
 | gd j want d i =>
  obtain ⟨hd,rfl,⟨kk,t,hg,ht,rfl⟩,hi⟩:=hi;have hz':vss want (ql7 o.dst) e h f k (q3r call i k e h f) (eo e t)=.st e1 h1 f1:=hz;have hgA:qax ops st.env o=match eo e t with | .p (.bool b)=>some (b == want) | .p (.tup [])=>some false | _=>none:=by
   unfold qax;rw [hg];simp only [ht,hR.env];rfl
  have skip:k (qvn e (ql7 o.dst) (.p (.tup []))) h f=.st e1 h1 f1→qax ops st.env o=some false→AL C ops (o :: rest) Q st:=fun hk hgf =>
   q8h hgf hd (hn _ _ _ _ (hR.put o.dst (.p (.tup []))) hk)
  unfold vss at hz';split at hz'
  ·rename_i b hb;rw [hb] at hgA;simp only at hgA;cases hbw:b == want with
   | true =>
    rw [hbw,cond_true] at hz';rw [hbw] at hgA;exact q3t hcall hP hN hi hd hgA hR hz' hn
   | false =>
    rw [hbw,cond_false] at hz';rw [hbw] at hgA;exact skip hz' hgA
  ·rename_i hb;rw [hb] at hgA;exact skip hz' hgA
  ·cases hz'
inductive ILs (P:Program) (N:Nat) (ops:Array Oper):List Oper→List IOp→Prop
 | nil:ILs P N ops [] []
 | one {o i r is} (h:IOk P N ops o i) (t:ILs P N ops r is):ILs P N ops (o :: r) (i :: is)
 | cpy {o1 o2 o3 i r is} (h:q59 P N o1 o2 o3=some i) (t:ILs P N ops r is):ILs P N ops (o1 :: o2 :: o3 :: r) (i :: is)
theorem ILs.map (P:Program) (N:Nat) (ops:Array Oper):∀l:List Oper,ILs P N ops l (l.map (qs7 P N ops))
 | []=>.nil
 | o :: l=>.one (qxn P N ops o) (ILs.map P N ops l)
theorem vmh {N:Nat} {o1 o2 o3:Oper} (h:∀t x,o1.op≠.slice t x none none none):q59 P N o1 o2 o3=none:=by
 unfold q59;split
 ·rename_i tA x y a b dT sT d1 d2 d3 h1 _ _ _ _ _;exact absurd h1 (h tA x)
 ·rfl
theorem qy8 {N:Nat} {ops:Array Oper} {o:Oper} {rest:List Oper} (h:∀t x,o.op≠.slice t x none none none):q3q P N ops (o :: rest)=qs7 P N ops o :: q3q P N ops rest:=by
 show vib P N o (qs7 P N ops o) (q3q P N ops rest) rest=_;unfold vib;split
 ·rw [vmh h]
 ·rfl
theorem vif {N:Nat} {o1 o2 o3:Oper} {i:IOp} (h:q59 P N o1 o2 o3=some i):(∃y,o2.op=.move y)∧∃c,o3.op=.call c:=by
 unfold q59 at h;split at h
 ·rename_i tA x y a b dT sT d1 d2 d3 _ h2 h3 _ _ _;exact ⟨⟨y,h2⟩,⟨_,h3⟩⟩
 ·cases h
theorem ILs.comp (P:Program) (N:Nat) (ops:Array Oper):∀(n:Nat) (l:List Oper),l.length≤n→ILs P N ops l (q3q P N ops l)
 | _,[],_=>.nil
 | 0,_ :: _,h=>by simp at h
 | n+1,o :: rest,h=>by
  have hr:=ILs.comp P N ops n rest (by simpa using h);show ILs P N ops (o :: rest) (vib P N o (qs7 P N ops o) (q3q P N ops rest) rest);unfold vib;split
  ·rename_i o2 o3 r;split
   ·rename_i i hi;obtain ⟨⟨y,h2⟩,⟨c,h3⟩⟩:=vif hi;rw [qy8 (fun t x hh=>by rw [h2] at hh;cases hh),qy8 (fun t x hh=>by rw [h3] at hh;cases hh)];exact .cpy hi (ILs.comp P N ops n r (by simp at h;omega))
   ·exact .one (qxn P N ops o) hr
  ·exact .one (qxn P N ops o) hr
theorem q6f:∀{l:List AV} {L:List Int},vbh l=some L→l=L.map fun n=>.p (.int .i64 n)
 | [],L,h=>by cases h;rfl
 | x :: r,L,h=>by
  unfold vbh at h;split at h
  ·rename_i heq;cases heq
  ·rename_i n r' heq;cases heq;split at h
   ·rename_i l hl;cases h;rw [q6f hl];rfl
   ·cases h
  ·cases h
theorem vyn {ops:Array Oper} {o1 o2 o3:Oper} {rest:List Oper} {i:IOp} {call:qlj} {k:KE} {e:Ty AV} {h:Ty AO} {f:Nat} {e1:Ty AV} {h1:Ty AO} {f1:Nat}
  (hi:q59 C.P C.N o1 o2 o3=some i) (hR:RepV e h f st) (hz:q3r call i k e h f=.st e1 h1 f1) (hn:vs3 C ops rest Q k (.st e1 h1 f1)):AL C ops (o1 :: o2 :: o3 :: rest) Q st:=by
 unfold q59 at hi;split at hi
 case h_2=>cases hi
 rename_i tA x y a b dT sT d1 d2 d3 p1 p2 p3 q1 q2 q3;split at hi
 case h_2=>cases hi
 rename_i te te' u1 u2;generalize hc:(v6q te te' && _)=c at hi;cases c with
 | false=>cases hi
 | true =>
 rw [cond_true] at hi;cases hi;simp only [v2m,q0c,decide_eq_true_eq,v2q,decide_eq_false_iff_not,Option.isNone_iff_eq_none] at hc;obtain ⟨rfl,c2,c3,rfl,rfl,c6,c7,c8,c9,c10,c11,c12,c13⟩:=hc;have hz':q9e tA (vo e (opd x)) (vo e (opd y)) (pth a) (pth b) (pth d3) e h f k=.st e1 h1 f1:=hz;rw [qgj,qgj] at hz';unfold q9e at hz';split at hz'
 case h_2=>cases hz'
 rename_i l g hx;split at hz'
 case h_2=>cases hz'
 rename_i t g' c0 c1 c2' els hob hel;split at hz'
 case h_2=>cases hz'
 rename_i L hL;cases hcc:v6q t tA && (v6q g g' && v7j l f) with
 | false=>rw [hcc] at hz';cases hz'
 | true =>
 rw [hcc,cond_true] at hz';simp only [v2m,q0c,decide_eq_true_eq] at hcc;obtain ⟨rfl,rfl,hlf⟩:=hcc;have hlf:=vkp.1 hlf;rw [hR.evf,←hR.heap,q6f hL] at hel;rw [hR.evf] at hx hz';rw [←hR.heap] at hob;have hy:y≠.tmp a:=by
  rintro rfl;simp at c13
 refine vx6 (l:=l) (g:=g) (c0:=c0) (c1:=c1) (c2:=c2') (L:=L) p1 q1 p2 q2 p3 c7 c8 c9 c10 c11 c12 c6 u1 c2 c3 u2 hy hx hob hel ?_;refine hn _ _ _ _ ?_ hz';have r1:=hR.put (some a) .any;have r2:=r1.put (some b) (ev st.env y);have r3:=(r2.put (some d3) .any);have r4:=(RepV.set (o:=.arr t 3 g [.p (.agg [.int .i64 (L.getD 0 c0),.int .i64 (L.getD 1 c1),.int .i64 (L.getD 2 c2')])]) r3 hlf none .any);rw [q1,q2,q3];exact r4
theorem vig {call:qlj} (hcall:qta P call) (hP:C.P=P) (hN:C.N≤1000) {ops:Array Oper} {l:List Oper} {is:List IOp} (hl:ILs P C.N ops l is):∀{st:St} {e:Ty AV} {h:Ty AO} {f:Nat} {e1:Ty AV} {h1:Ty AO} {f1:Nat},
  RepV e h f st→vbi call is e h f=.st e1 h1 f1→(∀st1,RepV e1 h1 f1 st1→Q .normal st1)→AL C ops l Q st:=by
 induction hl with
 | nil =>
  intro st e h f e1 h1 f1 hR hz hQ;cases hz;exact q1j (hQ st hR)
 | @one o i r is hi ht ih =>
  intro st e h f e1 h1 f1 hR hz hQ;exact vmg hcall hP hN (k:=vbi call is) hi hR hz fun e2 h2 f2 st2 hR2 hz2=>ih hR2 hz2 hQ
 | @cpy o1 o2 o3 i r is hi ht ih =>
  intro st e h f e1 h1 f1 hR hz hQ;subst hP;exact vyn hi hR (k:=vbi call is) hz fun e2 h2 f2 st2 hR2 hz2=>ih hR2 hz2 hQ
end Go.Ab
namespace Go.Ab
open Go
set_option linter.constructorNameAsVariable false
variable {P:Program} {C:Cx} {Q:Exit→St→Prop} {st:St}
theorem vih:∀(xs:List AV) (k:Nat) (t:Ty AV) (j:Nat),eo (qw1 k xs t) j=if k≤j∧j < k+xs.length then (xs[j - k]?).getD .any else eo t j
 | [],k,t,j=>by
  simp only [qw1,v3o,v4k];rw [if_neg (by omega)]
 | x :: xs,k,t,j=>by
  simp only [qw1,v5y];rw [vih xs (k+1) _ j,vo7];simp only [qm7,v5a];by_cases h1:k=j
  ·subst h1;rw [if_neg (by omega),if_pos rfl,if_pos (by omega)];simp
  ·by_cases h2:k+1≤j∧j < k+1+xs.length
   ·rw [if_pos h2,if_pos (by omega),show j - k=(j - (k+1))+1 by omega,v5t]
   ·rw [if_neg h2,if_neg h1,if_neg (by omega)]
theorem q9h (xs:List AV):(qjc 0 xs).get=eo (qw1 0 xs .e):=by
 have key:∀(xs:List AV) (k j:Nat),(qjc k xs).get j=if k≤j∧j < k+xs.length then (xs[j - k]?).getD .any else .any:=by
  intro xs
  induction xs with
  | nil=>intro k j;simp only [qjc,v3o,v4k];rw [if_neg (by omega)];rfl
  | cons x xs ih =>
   intro k j;simp only [qjc,Env.get,v5y];by_cases h1:k=j
   ·subst h1;rw [if_pos rfl,if_pos (by omega)];simp
   ·rw [if_neg h1,ih (k+1) j];by_cases h2:k+1≤j∧j < k+1+xs.length
    ·rw [if_pos h2,if_pos (by omega),show j - k=(j - (k+1))+1 by omega,v5t]
    ·rw [if_neg h2,if_neg (by omega)]
 funext j;rw [key,vih];have:eo .e j=.any:=Ty.get_e _ _;rw [this]
theorem vmi {e:Ty AV} {h:Ty AO} {f:Nat} {st:St} (hR:RepV e h f st) (x:ResultVar):vmc P e h x=qwm P st x:=by
 cases x with
 | tmp t=>simp only [vmc,qwm,←hR.env]
 | cell a t=>simp only [vmc,qwm,←hR.env,←hR.heap]
theorem vbk {e:Ty AV} {h:Ty AO} {f:Nat} {st:St} (hR:RepV e h f st):∀rs:List ResultVar,vmd P e h rs=qt7 P st rs
 | []=>rfl
 | x :: r=>by simp only [vmd,qt7,vmi hR x,vbk hR r];rfl
theorem vyo {e:Ty AV} {h:Ty AO} {f:Nat} {st:St} {rs:List ResultVar} {x:AV} {h1:Ty AO} {f1:Nat} (hR:RepV e h f st) (hz:rsK P e h f rs=.r x h1 f1):vf4 P st rs=some x∧h1=h∧f1=f:=by
 unfold rsK at hz;rw [vbk hR] at hz;unfold vf4;split at hz
 ·rename_i v hv;rw [hv];cases hz;exact ⟨rfl,rfl,rfl⟩
 ·rename_i vs hne hv;cases hz;refine ⟨?_,rfl,rfl⟩;rw [hv];simp only
 ·cases hz
def qos (h:Ty AO) (f:Nat):Prop:=(∃hl,qar hl=ho h)∧vpb h f∧1000≤f
theorem qos.set {h:Ty AO} {f l:Nat} {o:AO} (g:qos h f) (hl:l < f):qos (q3h h l o) f:=by
 obtain ⟨⟨x,hx⟩,h2,h3⟩:=g;refine ⟨⟨(l,o) :: x,?_⟩,fun k hk=>?_,h3⟩
 ·rw [qqy,←hx];exact qiz _ _ _
 ·rw [qqy];unfold qhz;rw [if_neg (by omega)];exact h2 k hk
theorem qos.new {h:Ty AO} {f:Nat} {o:AO} (g:qos h f):qos (q3h h f o) (v7p f):=by
 obtain ⟨⟨x,hx⟩,h2,h3⟩:=g;refine ⟨⟨(f,o) :: x,?_⟩,fun k hk=>?_,v7m h3⟩
 ·rw [qqy,←hx];exact qiz _ _ _
 ·rw [qqy];unfold qhz;have:f < k:=hk;rw [if_neg (by omega)];exact h2 k (by omega)
def qnv (call:qlj):Prop:=∀(v:AV) (avs:List AV) (h:Ty AO) (f:Nat) (x:AV) (h1:Ty AO) (f1:Nat),qos h f→call v avs h f=.r x h1 f1→qos h1 f1
def qr2 (ih:qpn):Prop:=∀(N:Nat) (c:Code) (e:Ty AV) (h:Ty AO) (f:Nat) (ex:Exit) (e1:Ty AV) (h1:Ty AO) (f1:Nat),qos h f→ih N c e h f=.r ex e1 h1 f1→qos h1 f1
theorem q1w {call:qlj} (hc:qnv call) {k:KE} {e1:Ty AV} {h1:Ty AO} {f1:Nat} (hk:∀e h f,qos h f→k e h f=.st e1 h1 f1→qos h1 f1):∀(i:IOp) {e:Ty AV} {h:Ty AO} {f:Nat},qos h f→q3r call i k e h f=.st e1 h1 f1→qos h1 f1
 | .bad,_,_,_,_,hz=>by cases hz
 | .f d g,e,h,f,hg,hz=>by
  have hz':onRy d e h f k (g e h f)=.st e1 h1 f1:=hz;generalize g e h f=r at hz';cases r with
  | no=>cases hz'
  | v x rs=>exact hk _ _ _ hg hz'
  | w x l ob rs =>
   have hz2:(bif v7j l f then k (qvn e d x) (q3h h l ob) f else .bad)=.st e1 h1 f1:=hz';cases hl:v7j l f with
   | false=>rw [hl] at hz2;cases hz2
   | true =>
    rw [hl,cond_true] at hz2;exact hk _ _ _ (hg.set (vkp.1 hl)) hz2
  | new x ob rs=>exact hk _ _ _ hg.new hz'
 | .call d fn args,e,h,f,hg,hz=>by
  have hz':onK d e k (call (vo e fn) (args.map (vo e)) h f)=.st e1 h1 f1:=hz;generalize hr:call (vo e fn) (args.map (vo e)) h f=r at hz';cases r with
  | bad=>cases hz'
  | r x h2 f2=>exact hk _ _ _ (hc _ _ _ _ _ _ _ hg hr) hz'
 | .gd j want d i,e,h,f,hg,hz=>by
  have hz':vss want d e h f k (q3r call i k e h f) (Ty.get .any e j)=.st e1 h1 f1:=hz;unfold vss at hz';split at hz'
  ·rename_i b hb;cases hbw:b == want with
   | true=>rw [hbw,cond_true] at hz';exact q1w hc hk i hg hz'
   | false=>rw [hbw,cond_false] at hz';exact hk _ _ _ hg hz'
  ·exact hk _ _ _ hg hz'
  ·cases hz'
 | .cpy tA x y d1 d2 d3,e,h,f,hg,hz=>by
  have hz':q9e tA (vo e x) (vo e y) d1 d2 d3 e h f k=.st e1 h1 f1:=hz;unfold q9e at hz';split at hz'
  case h_2=>cases hz'
  split at hz'
  case h_2=>cases hz'
  split at hz'
  case h_2=>cases hz'
  rename_i l g _ _ _ t g' c0 c1 c2 els _ _ _ L _;cases hcc:v6q t tA && (v6q g g' && v7j l f) with
  | false=>rw [hcc] at hz';cases hz'
  | true =>
  rw [hcc,cond_true] at hz';simp only [v2m] at hcc;exact hk _ _ _ (hg.set (vkp.1 hcc.2.2)) hz'
theorem qy9 {call:qlj} (hc:qnv call):∀(is:List IOp) {e:Ty AV} {h:Ty AO} {f:Nat} {e1:Ty AV} {h1:Ty AO} {f1:Nat},qos h f→vbi call is e h f=.st e1 h1 f1→qos h1 f1
 | [],_,_,_,_,_,_,hg,hz=>by cases hz;exact hg
 | i :: is,_,_,_,_,_,_,hg,hz=>q1w hc (k:=vbi call is) (fun e h f hg hz=>qy9 hc is hg hz) i hg hz
theorem q3u (h:Ty AO) (us:List (Nat×AO)):ho (q6a h us)=ovr us (ho h):=by
 funext k
 induction us with
 | nil=>rfl
 | cons p r ih =>
  obtain ⟨l,o⟩:=p;simp only [q6a,qqy,qhz,ovr,ih];by_cases hl:l=k
  ·rw [if_pos hl,if_pos hl.symm]
  ·rw [if_neg hl,if_neg (Ne.symm hl)]
theorem qxo {h h':Ty AO} {S:List Nat}:∀{S':List Nat} {l:Nat} {o:AO},(l,o)∈qnb h h' S S'→o=ho h' l
 | [],_,_,hm=>by cases hm
 | k :: S',l,o,hm=>by
  unfold qnb at hm;cases hc:qyr k S && AO.same (ho h k) (ho h' k) with
  | true=>rw [hc,cond_true] at hm;exact qxo hm
  | false =>
   rw [hc,cond_false] at hm;rcases v6d.1 hm with hm | hm
   ·cases hm;rfl
   ·exact qxo hm
theorem vii {us:List (Nat×AO)} {σ:Nat→AO} {l:Nat} (h:l∈us.map (·.1)):(l,ovr us σ l)∈us:=by
 induction us with
 | nil=>cases h
 | cons p r ih =>
  obtain ⟨k,o⟩:=p;simp only [ovr];by_cases hk:k=l
  ·subst hk;rw [if_pos rfl];exact v6f
  ·rw [if_neg hk];rcases v6d.1 h with h | h
   ·exact absurd h.symm hk
   ·exact v6e _ (ih h)
theorem qos.diff {h h':Ty AO} {f f':Nat} {S S':List Nat} (g:qos h f) (g':qos h' f') (hf:f≤f'):qos (q6a h (qnb h h' S S')) f':=by
 obtain ⟨⟨x,hx⟩,h2,h3⟩:=g;obtain ⟨_,k2,k3⟩:=g';refine ⟨⟨qnb h h' S S'++x,?_⟩,fun k hk=>?_,k3⟩
 ·rw [qxj,hx,q3u]
 ·rw [q3u];by_cases hm:k∈(qnb h h' S S').map (·.1)
  ·rw [qxo (vii hm)];exact k2 k hk
  ·rw [que hm];exact h2 k (by omega)
theorem vij (h:Ty AO) (S:List Nat):ho (mkH h S)=qex (ho h) S:=by
 funext k
 induction S with
 | nil=>simp only [mkH,qex,v7e,if_false];exact Ty.get_e _ _
 | cons l S ih =>
  simp only [mkH,qqy,qhz,ih,qex,v6d];by_cases hl:k=l
  ·subst hl;simp
  ·simp [hl]
theorem qos.part {h:Ty AO} {f:Nat} (g:qos h f) (S:List Nat):qos (mkH h S) f:=by
 obtain ⟨_,h2,h3⟩:=g;refine ⟨?_,fun k hk=>?_,h3⟩
 ·induction S with
  | nil=>exact ⟨[],(vvc).symm⟩
  | cons l S ih =>
   obtain ⟨x,hx⟩:=ih;exact ⟨(l,ho h l) :: x,by rw [mkH,qqy,←hx];exact qiz _ _ _⟩
 ·rw [vij];unfold qex;rw [h2 k hk];split <;> rfl
theorem vbl (hB:vbj P) {ext:Ext} (hE:vee P ext) {ih:qpn} (hi:q3s P ih) (hgd:qr2 ih) {k:FuncId} {avs:List AV} {h:Ty AO} {f:Nat} {x:AV} {h1:Ty AO} {f1:Nat} (hL:∃hl,qar hl=ho h) (hF:vpb h f) (hge:1000≤f)
  (hz:qy6 P ext ih k avs h f=.r x h1 f1):FunW P k avs h x h1 f1:=by
 obtain ⟨hl,hhl⟩:=hL;unfold qy6 at hz;split at hz
 ·rename_i t ht;split at hz
  case h_2=>cases hz
  rename_i ps hps;split at hz
  case h_2=>cases hz
  rename_i r hr;cases hz;obtain ⟨hb,hp⟩:=hE k t ps r ht hr;refine ⟨hb,⟨hl,hhl⟩,hF,hge,fun D X inj w vs hh hT hars=>?_⟩;have hav:=qsx hps;subst hav;refine ((hp D) (fun b=>X b∨F inj (ho h) b) w vs (fun b hb=>hb.elim (hh.xlt b) fun hf=>(hh.flt hf).1) hT (qbt.1 hars)).mono ?_;rintro e w' ⟨v,rfl,h1,h2⟩;exact ⟨v,rfl,inj,hh.fr h2,h2.ev,h1⟩
 ·cases hc:vme P k with
  | bad=>rw [hc] at hz;cases hz
  | r N c rs =>
   rw [hc] at hz;have hz':(bif v7i avs.length N && v7i 1000 f then vsy P rs (ih N c (qw1 0 avs .e) h f) else .bad)=KR.r x h1 f1:=hz;cases hcc:v7i avs.length N && v7i 1000 f with
   | false=>rw [hcc] at hz';cases hz'
   | true =>
   rw [hcc,cond_true] at hz';simp only [v2m] at hcc;have hn:=v7k hcc.1;unfold vme at hc;split at hc
   case h_2=>cases hc
   rename_i fn hfn;split at hc
   case h_2=>cases hc
   rename_i c' hb;cases hN:v7i fn.ntmps 1000 with
   | false=>rw [hN] at hc;cases hc
   | true =>
   rw [hN,cond_true] at hc;cases hc;have hN:=v7k hN;generalize hrun:ih fn.ntmps c (qw1 0 avs .e) h f=cr at hz';cases cr with
   | bad=>cases hz'
   | r ex e1 h2 f2 =>
   have hres:(ex=.normal∨ex=.ret)∧rsK P e1 h2 f2 fn.results.toList=.r x h1 f1:=by
    cases ex <;> first | exact ⟨.inl rfl,hz'⟩ | exact ⟨.inr rfl,hz'⟩ | cases hz'
   -- the state at the end does not matter: some one stands for it
   have hR0:RepV (qw1 0 avs .e) h f ⟨qjc 0 avs,hl⟩:=⟨q9h avs,hhl,hF,hge⟩;have hwp:∀(D:Prop) (X:Nat→Prop) (inj:Inj) (w:World) hT,AWp ⟨P,fn.ntmps,0,X,hl,inj,w,D,hT⟩ c (fun e s=>(e=.normal∨e=.ret)∧RepV e1 h2 f2 s) ⟨qjc 0 avs,hl⟩:=fun D X inj w hT =>
    hi ⟨P,fn.ntmps,0,X,hl,inj,w,D,hT⟩ c _ _ _ ex e1 h2 f2 _ _ rfl hN hrun hR0 fun st1 hR1=>⟨hres.1,hR1⟩
   have hst:h1=h2∧f1=f2:=by
    have:=hres.2;unfold rsK at this;split at this <;> cases this <;> exact ⟨rfl,rfl⟩
   obtain ⟨rfl,rfl⟩:=hst;obtain ⟨⟨hl',e1'⟩,e2',e3'⟩:=hgd _ _ _ _ _ _ _ _ _ ⟨⟨hl,hhl⟩,hF,hge⟩ hrun;refine ⟨hB k fn hfn (by rw [hb];rfl),⟨hl',e1'⟩,e2',e3',fun D X inj w vs hh hT hars=>?_⟩;rw [←hhl] at hh hT hars;have hlen:=hars.length;refine calls_of_wp hfn hb (wp_mono (hwp D X inj w hT inj _ w ⟨fun t=>?_,?_,rfl,hh,Ev.refl _ _ _ _⟩) ?_)
   ·have:=qnr avs vs 0 t hars;simp only [v6w,if_true,v4y] at this;have e:(vs.toArray++v62 (fn.ntmps - vs.toArray.size) undef).getD t undef=vs.getD t undef:=by
     by_cases ht:t < vs.length
     ·simp [v2a,ht]
     ·simp only [v60,v2a,v4b,ht,if_false,v61];rw [v5s,v3e (by omega)];split <;> rfl
    rw [e];exact this
   ·simp [←hlen];omega
   ·intro e a' w' ⟨s,inj',hs',hex,hR'⟩;obtain ⟨hv,_,_⟩:=vyo hR' hres.2;obtain ⟨val,k1,k2⟩:=qry hs' hv;have hev:Ev D X inj (qar hl) w inj' s.sig w':=hs'.ev;have hsg:s.sig=ho h1:=hR'.heap;have hpost:∃val',Ending.returned val=.returned val'∧∃inj',HR X inj' (ho h1) w'∧Ev D X inj (ho h) w inj' (ho h1) w'∧AR X inj' (ho h1) w' x val' :=
     ⟨val,rfl,inj',by rw [←hsg];exact hs'.hr,by rw [←hsg,←hhl];exact hev,by rw [←hsg];exact k2⟩
    rcases hex with rfl | rfl
    ·exact ⟨hs'.defers,val,k1,hpost⟩
    ·exact ⟨hs'.defers,val,k1,hpost⟩
end Go.Ab
namespace Go.Ab
open Go
set_option linter.constructorNameAsVariable false
variable {P:Program} {C:Cx} {Q:Exit→St→Prop} {st:St}
theorem q3v {S:List Nat}:∀{S':List Nat} {l:Nat},l∈S'→l ∉ S→l∈q6b S S'
 | k :: S',l,h,hn=>by
  unfold q6b;rw [qmq];rcases v6d.1 h with rfl | h
  ·simp only [hn,decide_false,cond_false];exact v6f
  ·by_cases hk:k∈S
   ·simp only [hk,decide_true,cond_true];exact q3v h hn
   ·simp only [hk,decide_false,cond_false];exact v6e _ (q3v h hn)
theorem q6g {f:Nat}:∀{s:List Nat} {l:Nat},qy4 f s=true→l∈s→f≤l
 | k :: s,l,h,hl=>by
  simp only [qy4,v2m] at h;rcases v6d.1 hl with rfl | hl
  ·exact v7k h.1
  ·exact q6g h.2 hl
theorem q3w {h h':Ty AO} {S:List Nat}:∀{S':List Nat} {l:Nat},l∈S'→l ∉ (qnb h h' S S').map (·.1)→l∈S∧ho h l=ho h' l
 | k :: S',l,hl,hn=>by
  unfold qnb at hn;cases hc:qyr k S && AO.same (ho h k) (ho h' k) with
  | true =>
   rw [hc,cond_true] at hn;rcases v6d.1 hl with rfl | hl
   ·simp only [v2m,qmq,decide_eq_true_eq] at hc;exact ⟨hc.1,AO.same_eq hc.2⟩
   ·exact q3w hl hn
  | false =>
   rw [hc,cond_false] at hn;simp only [v3t,v6d,not_or] at hn;rcases v6d.1 hl with rfl | hl
   ·exact absurd rfl hn.1
   ·exact q3w hl hn.2
theorem q3x {h h':Ty AO} {S:List Nat}:∀{S':List Nat} {l:Nat},l∈(qnb h h' S S').map (·.1)→l∈S'
 | [],l,hm=>by cases hm
 | k :: S',l,hm=>by
  unfold qnb at hm;cases hc:qyr k S && AO.same (ho h k) (ho h' k) with
  | true=>rw [hc,cond_true] at hm;exact v6e _ (q3x hm)
  | false =>
   rw [hc,cond_false] at hm;simp only [v3t,v6d] at hm;rcases hm with rfl | hm
   ·exact v6f
   ·exact v6e _ (q3x hm)
theorem vmj {o:Oper} {fn:Operand} {args:Array Operand} {ats:Array TypeId} {ρ:Operand→AV} {k:FuncId} {cs:List AV} {h h':Ty AO} {f f':Nat} {x:AV} {S S':List Nat}
  (ho':o.op=.call ⟨.value fn,args,ats⟩) (hc:qq3 (ρ fn)=some (k,cs)) (hW:FunW P k (args.toList.map ρ++cs) (mkH h S) x h' f') (hS:∀l∈qh3 (args.toList.map ρ++cs),l∈S) (hsh:vkq (ho h) S)
  (hx:∀l∈qqd x,l∈S') (hsub:∀l∈S,l∈S') (hsh':vkq (ho h') S') (hfr:vpb h f) (hnw:qy4 f (q6b S S')=true):OpM P o ρ (ho h) x (qnb h h' S S') (S++q6b S S'):=by
 intro D X ρ' σ' hρ hσ inj w a next Q hr hT ha hn
 obtain ⟨hb,_,_,_,hW⟩:=hW;have hSσ:∀l∈S,σ' l=ho h l:=fun l hl=>hσ l (v6b _ hl)
 have hshσ:vkq σ' S:=fun l hl j hj=>hsh l hl j (by rw [←hSσ l hl];exact hj)
 have hpart:qex σ' S=ho (mkH h S):=by
  rw [vij];funext l;unfold qex;split
  ·rename_i hl;exact hSσ l hl
  ·rfl
 -- the arguments
 have hfn:=ha fn;rw [hρ fn (by rw [ho'];simp [Op.operands,Call.operands])] at hfn;have hmap:args.toList.map ρ'=args.toList.map ρ:=v59 fun y hy=>hρ y (by rw [ho'];simp [Op.operands,Call.operands] at hy ⊢;exact .inr hy)
 have hargs:=qqq ha args.toList;rw [hmap] at hargs;obtain ⟨dst,op,type,pos,after,guard⟩:=o;simp only at ho';subst ho';have run:∀cap:Array Value,a.eval fn=.func (.func k) #[] cap→(execOp a.eval ⟨dst,.call ⟨.value fn,args,ats⟩,type,pos,after,guard⟩).run P w=.ok (.enter k (args.map a.eval++cap)) w:=by
  intro cap he;simp only [execOp,resolve,Deferred.ofValue,he,v5e,v5f,v5c,invoke];rw [hb];simp
 have hcall:∃vs,(execOp a.eval ⟨dst,.call ⟨.value fn,args,ats⟩,type,pos,after,guard⟩).run P w=.ok (.enter k vs.toArray) w∧ARs X inj σ' w (args.toList.map ρ++cs) vs:=by
  unfold qq3 at hc;split at hc
  ·rename_i k' cs' hev;simp only [v5a,Prod.mk.injEq] at hc;obtain ⟨rfl,rfl⟩:=hc;rw [hev] at hfn;obtain ⟨vs,h1,h2⟩:=hfn;refine ⟨args.toList.map a.eval++vs,?_,hargs.append (qbt.2 h2)⟩;rw [run vs.toArray h1];congr 2;apply Array.ext';simp
  ·rename_i k' cs' hev;simp only [v5a,Prod.mk.injEq] at hc;obtain ⟨rfl,rfl⟩:=hc;rw [hev] at hfn;obtain ⟨vs,h1,h2⟩:=hfn;refine ⟨args.toList.map a.eval++vs,?_,hargs.append h2⟩;rw [run vs.toArray h1];congr 2;apply Array.ext';simp
  ·cases hc
 obtain ⟨vs,hrun,hars⟩:=hcall;unfold Oper.wp;rw [hrun];simp only [Oper.upon];have hin:∀l∈qh3 (args.toList.map ρ++cs),qex σ' S l=σ' l∧inj l=inj l:=fun l hl=>⟨by unfold qex;rw [if_pos (hS l hl)],rfl⟩
 have hars':ARs (XO X inj σ' S) inj (qex σ' S) w (args.toList.map ρ++cs) vs:=ql6 (fun b _ hh=>(q57 b).1 hh) _ _ hin hars;have hT':TabOk P (fun b=>XO X inj σ' S b∨F inj (qex σ' S) b) w:=hT.keep ⟨v4o _,fun _ _ _=>rfl,fun b _ hx hn=>hx ((q57 b).1 hn)⟩;have hr':=hr.part hshσ;rw [hpart] at hars' hT' hr';refine (hW D (XO X inj σ' S) inj w vs hr' hT' hars').mono ?_;rintro e' w' ⟨val,rfl,inj1,q1,q2,q3⟩
 -- what can be reached of it
 have hτ:∀l,l ∉ S'→qex (ho h') S' l=.dead 0:=fun l hl=>by unfold qex;rw [if_neg hl]
 have hτS:vkq (qex (ho h') S') S':=fun l hl j hj=>hsh' l hl j (by unfold qex at hj;rw [if_pos hl] at hj;exact hj)
 have hpF:∀b,(XO X inj σ' S b∨F inj1 (qex (ho h') S') b)→XO X inj σ' S b∨F inj1 (ho h') b:=by
  rintro b (h | ⟨l,c,o,h1,h2,_,h3⟩)
  ·exact .inl h
  ·obtain ⟨r1,r2⟩:=qfk (h1 ▸ h2);exact .inr ⟨l,c,o,by rw [←h1,r2],h2,rfl,h3⟩
 have t1:=q1.less hsh';have t3:AR (XO X inj σ' S) inj1 (qex (ho h') S') w' x val:=q9c (fun b _ hh=>hpF b hh) x val (fun l hl=>⟨by unfold qex;rw [if_pos (hx l hl)],rfl⟩) q3;have t2:Ev D (XO X inj σ' S) inj (qex σ' S) w inj1 (qex (ho h') S') w':=by
  rw [hpart];refine ⟨q2.os,q2.tape,q2.output,q2.dr,q2.size,q2.fz,q2.blk,fun b hb=>?_,fun l=>?_⟩
  ·obtain ⟨l,c,o,h1,h2,_,h3⟩:=hb;obtain ⟨r1,r2⟩:=qfk (h1 ▸ h2);exact q2.fp b ⟨l,c,o,by rw [←h1,r2],h2,rfl,h3⟩
  ·by_cases hl:l∈S'
   ·have:qex (ho h') S' l=ho h' l:=by unfold qex;rw [if_pos hl]
    rw [this];exact q2.objs l
   ·rw [hτ l hl];have hlS:l ∉ S:=fun hh=>hl (hsub l hh)
    have:ho (mkH h S) l=.dead 0:=by rw [vij];unfold qex;rw [if_neg hlS]
    rw [this];exact ⟨v4o _,fun ha=>by cases ha⟩
 have hnew:∀l∈S',l ∉ S→σ' l=.dead 0:=fun l hl hn'=>by
  have hm:=q3v hl hn';rw [hσ l (v6c _ hm)];exact hfr l (q6g hnw hm)
 obtain ⟨z1,z2,z3⟩:=HR.frame hr hshσ hsub hnew t1 hτ hτS t2;have hov:ovr (qnb h h' S S') σ'=fun l=>if l∈S' then qex (ho h') S' l else σ' l:=by
  funext l;by_cases hl:l∈S'
  ·simp only [hl,if_true];have e1:qex (ho h') S' l=ho h' l:=by unfold qex;rw [if_pos hl]
   rw [e1];by_cases hm:l∈(qnb h h' S S').map (·.1)
   ·exact qxo (vii hm)
   ·rw [que hm];obtain ⟨r1,r2⟩:=q3w hl hm;rw [hSσ l r1,r2]
  ·simp only [hl,if_false];exact que fun hm=>hl (q3x hm)
 rw [hov] at hn;exact hn val w' _ z1 z2 (z3 x val hx t3)
end Go.Ab
namespace Go.Ab
open Go
set_option linter.constructorNameAsVariable false
variable {P:Program} {C:Cx} {Q:Exit→St→Prop} {st:St}
def EvM.w (m:EvM):EvW:=⟨m.us,m.rs⟩
theorem qhr {x:EvW} {r:DR} {e:Ty AV} {h:Ty AO} {f:Nat} {es:List EvW} (hz:qs8 x r=.st e h f es):∃es',r=.st e h f es'∧es=x :: es':=by
 cases r with
 | bad=>cases hz
 | st e' h' f' es'=>cases hz;exact ⟨es',rfl,rfl⟩
def vs4 (C:Cx) (ops:Array Oper) (rest:List Oper) (k:KD):Prop:=∀(e:Ty AV) (h:Ty AO) (f:Nat) (st:St) (e1:Ty AV) (h1:Ty AO) (f1:Nat) (es:List EvW),RepV e h f st→k e h f=.st e1 h1 f1 es →
 ∃ms st1,DChM C ops rest st ms st1∧RepV e1 h1 f1 st1∧ms.map EvM.w=es
theorem qza {call:qlj} (hcall:qta P call) (hgood:qnv call) (hmono:∀v avs h f x h1 f1,call v avs h f=.r x h1 f1→f≤f1) (hP:C.P=P) (hN:C.N≤1000) {ops:Array Oper} {o:Oper} {rest:List Oper} {i:IOp} {k:KD} {e:Ty AV} {h:Ty AO} {f:Nat} {e1:Ty AV} {h1:Ty AO} {f1:Nat} {es:List EvW}
  (hi:q9g P o i) (hd:qbb C.N o=true) (hg:qax ops st.env o=some true) (hR:RepV e h f st) (hz:q6c call i k e h f=.st e1 h1 f1 es) (hn:vs4 C ops rest k):∃ms st1,DChM C ops (o :: rest) st ms st1∧RepV e1 h1 f1 st1∧ms.map EvM.w=es:=by
 subst hP;have fin:∀(x:AV) (us:List (Nat×AO)) (rs:List Nat) (e2:Ty AV) (h2:Ty AO) (f2:Nat),OpM C.P o (ev st.env) st.sig x us rs→RepV e2 h2 f2 ⟨qel st.env o.dst x,us++st.heap⟩→qs8 ⟨us,rs⟩ (k e2 h2 f2)=.st e1 h1 f1 es →
   ∃ms st1,DChM C ops (o :: rest) st ms st1∧RepV e1 h1 f1 st1∧ms.map EvM.w=es:=by
  intro x us rs e2 h2 f2 hop hR2 hz2;obtain ⟨es',hk,rfl⟩:=qhr hz2;obtain ⟨ms,st1,q1,q2,q3⟩:=hn e2 h2 f2 _ _ _ _ _ hR2 hk;exact ⟨⟨x,us,rs⟩ :: ms,st1,.cons hd (.inl ⟨hg,hop.md⟩) q1,q2,by rw [v3t,q3];rfl⟩
 cases i with
 | bad=>cases hz
 | gd _ _ _ _=>exact hi.elim
 | cpy _ _ _ _ _ _=>exact hi.elim
 | f d g =>
  obtain ⟨rfl,hg'⟩:=hi;have hok:=hg' e h f hR.free (vph hd hN hR.ge);have hz':onRD (ql7 o.dst) e h f k (g e h f)=.st e1 h1 f1 es:=hz;generalize g e h f=r at hok hz';cases r with
  | no=>cases hz'
  | v x rs =>
   simp only [vd7,hR.evf,←hR.heap] at hok;exact fin x [] rs _ _ _ hok (hR.put o.dst x) hz'
  | w x l ob rs =>
   simp only [vd7,hR.evf,←hR.heap] at hok;have hz2:(bif v7j l f then qs8 ⟨[(l,ob)],rs⟩ (k (qvn e (ql7 o.dst) x) (q3h h l ob) f) else .bad)=DR.st e1 h1 f1 es:=hz';cases hl:v7j l f with
   | false=>rw [hl] at hz2;cases hz2
   | true =>
    rw [hl,cond_true] at hz2;exact fin x [(l,ob)] rs _ _ _ hok (hR.set (vkp.1 hl) o.dst x) hz2
  | new x ob rs =>
   simp only [vd7,hR.evf,←hR.heap] at hok;exact fin x [(f,ob)] rs _ _ _ hok (hR.new o.dst x) hz'
 | call d fn args =>
  obtain ⟨rfl,fo,a,ats,ho',rfl,rfl⟩:=hi;have hz':vma call (ql7 o.dst) (vo e (opd fo)) ((a.toList.map opd).map (vo e)) e h f k (qna (ho h) 5000 (qqd (vo e (opd fo))++qh3 ((a.toList.map opd).map (vo e))) [])=.st e1 h1 f1 es:=hz;rw [qgj,vpi,hR.evf] at hz';generalize hS:qna (ho h) 5000 (qqd (ev st.env fo)++qh3 (a.toList.map (ev st.env))) []=oS at hz';cases oS with
  | none=>cases hz'
  | some S =>
  have hz2:(@KR.rec (fun _=>DR) .bad (fun x h' f'=>q9f (ql7 o.dst) e h f k S x h' f' (qna (ho h') 5000 (qqd x++S) [])) (call (ev st.env fo) (a.toList.map (ev st.env)) (mkH h S) f))=DR.st e1 h1 f1 es:=hz';obtain ⟨_,s2,s3⟩:=qr0 hS (by simp);have hgd:qos h f:=⟨⟨st.heap,hR.heap⟩,hR.free,hR.ge⟩;generalize hc:call (ev st.env fo) (a.toList.map (ev st.env)) (mkH h S) f=r at hz2;cases r with
  | bad=>cases hz2
  | r x h' f' =>
  have hz3:q9f (ql7 o.dst) e h f k S x h' f' (qna (ho h') 5000 (qqd x++S) [])=DR.st e1 h1 f1 es:=hz2;generalize hS':qna (ho h') 5000 (qqd x++S) []=oS' at hz3;cases oS' with
  | none=>cases hz3
  | some S' =>
  obtain ⟨_,s2',s3'⟩:=qr0 hS' (by simp);have hz4:(bif qy4 f (q6b S S') then qs8 ⟨qnb h h' S S',S++q6b S S'⟩ (k (qvn e (ql7 o.dst) x) (q6a h (qnb h h' S S')) f') else .bad)=DR.st e1 h1 f1 es:=hz3;cases hnw:qy4 f (q6b S S') with
  | false=>rw [hnw] at hz4;cases hz4
  | true =>
  rw [hnw,cond_true] at hz4;have hgp:=hgd.part S;obtain ⟨kk,cs,c1,c2⟩:=hcall _ _ _ _ _ _ _ hgp.1 hgp.2.1 hgp.2.2 hc;have hg2:=hgood _ _ _ _ _ _ _ hgp hc;have hrefs:∀l∈qh3 (a.toList.map (ev st.env)++cs),l∈S:=by
   intro l hl;have happ:∀(xs ys:List AV),qh3 (xs++ys)=qh3 xs++qh3 ys:=by
    intro xs ys
    induction xs with
    | nil=>rfl
    | cons x xs ih=>simp only [v5p,qh3,ih,List.append_assoc]
   rw [happ] at hl;rcases v3v.1 hl with hl | hl
   ·exact s2 l (v6c _ hl)
   ·refine s2 l (v6b _ ?_);unfold qq3 at c1;split at c1
    ·rename_i k' cs' heq;cases c1;exfalso;have:∀ps:List PV,qh3 (ps.map .p)=[]:=by
      intro ps
      induction ps with
      | nil=>rfl
      | cons p ps ih=>simp only [v3t,qh3,ih];rfl
     rw [this] at hl;cases hl
    ·rename_i k' cs' heq;cases c1;rw [heq];exact hl
    ·cases c1
  have hop:=vmj (ρ:=ev st.env) ho' c1 c2 hrefs s3 (fun l hl=>s2' l (v6b _ hl)) (fun l hl=>s2' l (v6c _ hl)) s3' hR.free hnw;rw [←hR.heap] at hop;have hgo:=hgd.diff (S:=S) (S':=S') hg2 (hmono _ _ _ _ _ _ _ hc);refine fin x _ _ _ _ _ hop ⟨by rw [q6e,←hR.env];exact ql4 _ _ _,?_,hgo.2.1,hgo.2.2⟩ hz4;rw [q3u,←hR.heap];exact qxj _ _
theorem vmk {call:qlj} (hcall:qta P call) (hgood:qnv call) (hmono:∀v avs h f x h1 f1,call v avs h f=.r x h1 f1→f≤f1) (hP:C.P=P) (hN:C.N≤1000) {ops:Array Oper} {o:Oper} {rest:List Oper} {i:IOp} {k:KD} {e:Ty AV} {h:Ty AO} {f:Nat} {e1:Ty AV} {h1:Ty AO} {f1:Nat} {es:List EvW}
  (hi:IOk P C.N ops o i) (hR:RepV e h f st) (hz:q6c call i k e h f=.st e1 h1 f1 es) (hn:vs4 C ops rest k):∃ms st1,DChM C ops (o :: rest) st ms st1∧RepV e1 h1 f1 st1∧ms.map EvM.w=es:=by
 have plain:∀{o:Oper},o.guard=none→qax ops st.env o=some true:=fun h=>by unfold qax;rw [h]
 cases i with
 | bad=>cases hz
 | cpy _ _ _ _ _ _=>exact hi.2.2.elim
 | f d g=>exact qza hcall hgood hmono hP hN (i:=.f d g) hi.2.2 hi.1 (plain hi.2.1) hR hz hn
 | call d fn args=>exact qza hcall hgood hmono hP hN (i:=.call d fn args) hi.2.2 hi.1 (plain hi.2.1) hR hz hn
 | gd j want d i =>
  obtain ⟨hd,rfl,⟨kk,t,hg,ht,rfl⟩,hi⟩:=hi;have hz':vst want (ql7 o.dst) e h f k (q6c call i k e h f) (eo e t)=.st e1 h1 f1 es:=hz;have hgA:qax ops st.env o=match eo e t with | .p (.bool b)=>some (b == want) | .p (.tup [])=>some false | _=>none:=by
   unfold qax;rw [hg];simp only [ht,hR.env];rfl
  have skip:qs8 ⟨[],[]⟩ (k (qvn e (ql7 o.dst) (.p (.tup []))) h f)=.st e1 h1 f1 es→qax ops st.env o=some false→∃ms st1,DChM C ops (o :: rest) st ms st1∧RepV e1 h1 f1 st1∧ms.map EvM.w=es:=fun hk hgf=>by
   obtain ⟨es',hk2,rfl⟩:=qhr hk;obtain ⟨ms,st1,q1,q2,q3⟩:=hn _ _ _ _ _ _ _ _ (hR.put o.dst (.p (.tup []))) hk2;exact ⟨⟨.p (.tup []),[],[]⟩ :: ms,st1,.cons hd (.inr ⟨hgf,rfl⟩) q1,q2,by rw [v3t,q3];rfl⟩
  unfold vst at hz';split at hz'
  ·rename_i b hb;rw [hb] at hgA;simp only at hgA;cases hbw:b == want with
   | true =>
    rw [hbw,cond_true] at hz';rw [hbw] at hgA;exact qza hcall hgood hmono hP hN hi hd hgA hR hz' hn
   | false =>
    rw [hbw,cond_false] at hz';rw [hbw] at hgA;exact skip hz' hgA
  ·rename_i hb;rw [hb] at hgA;exact skip hz' hgA
  ·cases hz'
theorem vik {call:qlj} (hcall:qta P call) (hgood:qnv call) (hmono:∀v avs h f x h1 f1,call v avs h f=.r x h1 f1→f≤f1) (hP:C.P=P) (hN:C.N≤1000) {ops:Array Oper}:∀(l:List Oper),vs4 C ops l (vmb call (l.map (qs7 P C.N ops)))
 | []=>fun e h f st e1 h1 f1 es hR hz=>by
  cases hz;exact ⟨[],st,.nil,hR,rfl⟩
 | o :: l=>fun e h f st e1 h1 f1 es hR hz=>vmk hcall hgood hmono hP hN (k:=vmb call (l.map (qs7 P C.N ops))) (qxn P C.N ops o) hR hz (vik hcall hgood hmono hP hN l)
theorem qxp:∀{ws:List (Nat×AO)} {s:List Nat},djK ws s=true→∀l∈ws.map (·.1),l ∉ s
 | [],_,_,l,hl=>by cases hl
 | (k,o) :: r,s,h,l,hl=>by
  simp only [djK,v2m,qmq,v2q,decide_eq_false_iff_not] at h;rcases v6d.1 hl with rfl | hl
  ·exact h.1
  ·exact qxp h.2 l hl
theorem vml {x y:EvM} (h:evW x.w y.w=true):vsk x y:=by
 unfold evW at h;split at h
 ·rename_i h1 h2;have h1:x.us=[]:=h1;have h2:y.us=[]:=h2;unfold vsk EvM.ks;rw [h1,h2];simp
 ·simp only [v2m] at h;obtain ⟨h1,h2,h3⟩:=h;exact ⟨fun l hl=>⟨qxp h1 l hl,qxp h2 l hl⟩,fun l hl=>qxp h3 l hl⟩
theorem qzb {es:List EvW}:∀{ps:List (Nat×Nat)},quj es ps=true→∀i j x y,(i,j)∈ps→nth es i=some x→nth es j=some y→evW x y=true
 | [],_,_,_,_,_,hm,_,_=>by cases hm
 | (a,b) :: r,h,i,j,x,y,hm,hx,hy=>by
  simp only [quj,v2m] at h;rcases v6d.1 hm with hm | hm
  ·cases hm;have:=h.1;rw [hx,hy] at this;exact this
  ·exact qzb h.2 i j x y hm hx hy
theorem vs5 {ops:Array Oper} {T:Nat} {ms:List EvM} (hl:ms.length≤T) (h:quj (ms.map EvM.w) (vic ops T)=true):EvsM ops ms:=by
 intro i j x y hij hj hx hy;by_cases ha:q0n (vat ops ops.size) j i=true
 ·exact .inl (qmp ha)
 ·refine .inr (vml (qzb h i j x.w y.w ?_ (by rw [qui,v3g,hx];rfl) (by rw [qui,v3g,hy];rfl)));have hjT:j < T:=v4r (v3f.1 hy).1 hl;unfold vic;refine v3w.2 ⟨j,v6j.2 hjT,List.mem_filterMap.2 ⟨i,v6j.2 hij,?_⟩⟩;have:q0n (vat ops ops.size) j i=false:=by simpa using ha
  rw [this];rfl
theorem q1x {call:qlj} (hm:∀v avs h f x h1 f1,call v avs h f=.r x h1 f1→f≤f1) {k:KD} {e1:Ty AV} {h1:Ty AO} {f1:Nat} (hk:∀e h f es,k e h f=.st e1 h1 f1 es→f≤f1):∀(i:IOp) {e:Ty AV} {h:Ty AO} {f:Nat} {es:List EvW},q6c call i k e h f=.st e1 h1 f1 es→f≤f1
 | .bad,_,_,_,_,hz=>by cases hz
 | .f d g,e,h,f,es,hz=>by
  have hz':onRD d e h f k (g e h f)=.st e1 h1 f1 es:=hz;generalize g e h f=r at hz';cases r with
  | no=>cases hz'
  | v x rs=>obtain ⟨es',hk2,_⟩:=qhr hz';exact hk _ _ _ _ hk2
  | w x l ob rs =>
   have hz2:(bif v7j l f then qs8 ⟨[(l,ob)],rs⟩ (k (qvn e d x) (q3h h l ob) f) else .bad)=DR.st e1 h1 f1 es:=hz';cases hl:v7j l f with
   | false=>rw [hl] at hz2;cases hz2
   | true =>
    rw [hl,cond_true] at hz2;obtain ⟨es',hk2,_⟩:=qhr hz2;exact hk _ _ _ _ hk2
  | new x ob rs=>obtain ⟨es',hk2,_⟩:=qhr hz';exact v7l (hk _ _ _ _ hk2)
 | .call d fn args,e,h,f,es,hz=>by
  have hz':vma call d (vo e fn) (args.map (vo e)) e h f k (qna (ho h) 5000 (qqd (vo e fn)++qh3 (args.map (vo e))) [])=.st e1 h1 f1 es:=hz;generalize qna (ho h) 5000 (qqd (vo e fn)++qh3 (args.map (vo e))) []=oS at hz';cases oS with
  | none=>cases hz'
  | some S =>
  have hz2:(@KR.rec (fun _=>DR) .bad (fun x h' f'=>q9f d e h f k S x h' f' (qna (ho h') 5000 (qqd x++S) [])) (call (vo e fn) (args.map (vo e)) (mkH h S) f))=DR.st e1 h1 f1 es:=hz';generalize hc:call (vo e fn) (args.map (vo e)) (mkH h S) f=r at hz2;cases r with
  | bad=>cases hz2
  | r x h' f' =>
  have hz3:q9f d e h f k S x h' f' (qna (ho h') 5000 (qqd x++S) [])=DR.st e1 h1 f1 es:=hz2;generalize qna (ho h') 5000 (qqd x++S) []=oS' at hz3;cases oS' with
  | none=>cases hz3
  | some S' =>
  have hz4:(bif qy4 f (q6b S S') then qs8 ⟨qnb h h' S S',S++q6b S S'⟩ (k (qvn e d x) (q6a h (qnb h h' S S')) f') else .bad)=DR.st e1 h1 f1 es:=hz3;cases hnw:qy4 f (q6b S S') with
  | false=>rw [hnw] at hz4;cases hz4
  | true =>
  rw [hnw,cond_true] at hz4;obtain ⟨es',hk2,_⟩:=qhr hz4;exact v4q (hm _ _ _ _ _ _ _ hc) (hk _ _ _ _ hk2)
 | .gd j want d i,e,h,f,es,hz=>by
  have hz':vst want d e h f k (q6c call i k e h f) (Ty.get .any e j)=.st e1 h1 f1 es:=hz;unfold vst at hz';split at hz'
  ·rename_i b hb;cases hbw:b == want with
   | true=>rw [hbw,cond_true] at hz';exact q1x hm hk i hz'
   | false=>rw [hbw,cond_false] at hz';obtain ⟨es',hk2,_⟩:=qhr hz';exact hk _ _ _ _ hk2
  ·obtain ⟨es',hk2,_⟩:=qhr hz';exact hk _ _ _ _ hk2
  ·cases hz'
 | .cpy tA x y d1 d2 d3,_,_,_,_,hz=>by cases hz
theorem q6h {call:qlj} (hm:∀v avs h f x h1 f1,call v avs h f=.r x h1 f1→f≤f1):∀(is:List IOp) {e:Ty AV} {h:Ty AO} {f:Nat} {e1:Ty AV} {h1:Ty AO} {f1:Nat} {es:List EvW},vmb call is e h f=.st e1 h1 f1 es→f≤f1
 | [],_,_,_,_,_,_,_,hz=>by cases hz;exact v4o _
 | i :: is,_,_,_,_,_,_,_,hz=>q1x hm (k:=vmb call is) (fun e h f es hz=>q6h hm is hz) i hz
theorem q1y {call:qlj} (hm:∀v avs h f x h1 f1,call v avs h f=.r x h1 f1→f≤f1) {k:KE} {e1:Ty AV} {h1:Ty AO} {f1:Nat} (hk:∀e h f,k e h f=.st e1 h1 f1→f≤f1):∀(i:IOp) {e:Ty AV} {h:Ty AO} {f:Nat},q3r call i k e h f=.st e1 h1 f1→f≤f1
 | .bad,_,_,_,hz=>by cases hz
 | .f d g,e,h,f,hz=>by
  have hz':onRy d e h f k (g e h f)=.st e1 h1 f1:=hz;generalize g e h f=r at hz';cases r with
  | no=>cases hz'
  | v x rs=>exact hk _ _ _ hz'
  | w x l ob rs =>
   have hz2:(bif v7j l f then k (qvn e d x) (q3h h l ob) f else .bad)=.st e1 h1 f1:=hz';cases hl:v7j l f with
   | false=>rw [hl] at hz2;cases hz2
   | true=>rw [hl,cond_true] at hz2;exact hk _ _ _ hz2
  | new x ob rs=>exact v7l (hk _ _ _ hz')
 | .call d fn args,e,h,f,hz=>by
  have hz':onK d e k (call (vo e fn) (args.map (vo e)) h f)=.st e1 h1 f1:=hz;generalize hr:call (vo e fn) (args.map (vo e)) h f=r at hz';cases r with
  | bad=>cases hz'
  | r x h2 f2=>exact v4q (hm _ _ _ _ _ _ _ hr) (hk _ _ _ hz')
 | .gd j want d i,e,h,f,hz=>by
  have hz':vss want d e h f k (q3r call i k e h f) (Ty.get .any e j)=.st e1 h1 f1:=hz;unfold vss at hz';split at hz'
  ·rename_i b hb;cases hbw:b == want with
   | true=>rw [hbw,cond_true] at hz';exact q1y hm hk i hz'
   | false=>rw [hbw,cond_false] at hz';exact hk _ _ _ hz'
  ·exact hk _ _ _ hz'
  ·cases hz'
 | .cpy tA x y d1 d2 d3,e,h,f,hz=>by
  have hz':q9e tA (vo e x) (vo e y) d1 d2 d3 e h f k=.st e1 h1 f1:=hz;unfold q9e at hz';split at hz'
  case h_2=>cases hz'
  split at hz'
  case h_2=>cases hz'
  split at hz'
  case h_2=>cases hz'
  generalize (_ && _)=c at hz';cases c with
  | false=>cases hz'
  | true=>exact hk _ _ _ hz'
theorem qzc {call:qlj} (hm:∀v avs h f x h1 f1,call v avs h f=.r x h1 f1→f≤f1):∀(is:List IOp) {e:Ty AV} {h:Ty AO} {f:Nat} {e1:Ty AV} {h1:Ty AO} {f1:Nat},vbi call is e h f=.st e1 h1 f1→f≤f1
 | [],_,_,_,_,_,_,hz=>by cases hz;exact v4o _
 | i :: is,_,_,_,_,_,_,hz=>q1y hm (k:=vbi call is) (fun e h f hz=>qzc hm is hz) i hz
theorem q1z {call:qlj} (hc:qnv call) (hm:∀v avs h f x h1 f1,call v avs h f=.r x h1 f1→f≤f1) {k:KD} {e1:Ty AV} {h1:Ty AO} {f1:Nat} (hk:∀e h f es,qos h f→k e h f=.st e1 h1 f1 es→qos h1 f1):∀(i:IOp) {e:Ty AV} {h:Ty AO} {f:Nat} {es:List EvW},qos h f→q6c call i k e h f=.st e1 h1 f1 es→qos h1 f1
 | .bad,_,_,_,_,_,hz=>by cases hz
 | .f d g,e,h,f,es,hg,hz=>by
  have hz':onRD d e h f k (g e h f)=.st e1 h1 f1 es:=hz;generalize g e h f=r at hz';cases r with
  | no=>cases hz'
  | v x rs=>obtain ⟨es',hk2,_⟩:=qhr hz';exact hk _ _ _ _ hg hk2
  | w x l ob rs =>
   have hz2:(bif v7j l f then qs8 ⟨[(l,ob)],rs⟩ (k (qvn e d x) (q3h h l ob) f) else .bad)=DR.st e1 h1 f1 es:=hz';cases hl:v7j l f with
   | false=>rw [hl] at hz2;cases hz2
   | true =>
    rw [hl,cond_true] at hz2;obtain ⟨es',hk2,_⟩:=qhr hz2;exact hk _ _ _ _ (hg.set (vkp.1 hl)) hk2
  | new x ob rs=>obtain ⟨es',hk2,_⟩:=qhr hz';exact hk _ _ _ _ hg.new hk2
 | .call d fn args,e,h,f,es,hg,hz=>by
  have hz':vma call d (vo e fn) (args.map (vo e)) e h f k (qna (ho h) 5000 (qqd (vo e fn)++qh3 (args.map (vo e))) [])=.st e1 h1 f1 es:=hz;generalize qna (ho h) 5000 (qqd (vo e fn)++qh3 (args.map (vo e))) []=oS at hz';cases oS with
  | none=>cases hz'
  | some S =>
  have hz2:(@KR.rec (fun _=>DR) .bad (fun x h' f'=>q9f d e h f k S x h' f' (qna (ho h') 5000 (qqd x++S) [])) (call (vo e fn) (args.map (vo e)) (mkH h S) f))=DR.st e1 h1 f1 es:=hz';generalize hcc:call (vo e fn) (args.map (vo e)) (mkH h S) f=r at hz2;cases r with
  | bad=>cases hz2
  | r x h' f' =>
  have hz3:q9f d e h f k S x h' f' (qna (ho h') 5000 (qqd x++S) [])=DR.st e1 h1 f1 es:=hz2;generalize qna (ho h') 5000 (qqd x++S) []=oS' at hz3;cases oS' with
  | none=>cases hz3
  | some S' =>
  have hz4:(bif qy4 f (q6b S S') then qs8 ⟨qnb h h' S S',S++q6b S S'⟩ (k (qvn e d x) (q6a h (qnb h h' S S')) f') else .bad)=DR.st e1 h1 f1 es:=hz3;cases hnw:qy4 f (q6b S S') with
  | false=>rw [hnw] at hz4;cases hz4
  | true =>
  rw [hnw,cond_true] at hz4;obtain ⟨es',hk2,_⟩:=qhr hz4;exact hk _ _ _ _ (hg.diff (hc _ _ _ _ _ _ _ (hg.part S) hcc) (hm _ _ _ _ _ _ _ hcc)) hk2
 | .gd j want d i,e,h,f,es,hg,hz=>by
  have hz':vst want d e h f k (q6c call i k e h f) (Ty.get .any e j)=.st e1 h1 f1 es:=hz;unfold vst at hz';split at hz'
  ·rename_i b hb;cases hbw:b == want with
   | true=>rw [hbw,cond_true] at hz';exact q1z hc hm hk i hg hz'
   | false=>rw [hbw,cond_false] at hz';obtain ⟨es',hk2,_⟩:=qhr hz';exact hk _ _ _ _ hg hk2
  ·obtain ⟨es',hk2,_⟩:=qhr hz';exact hk _ _ _ _ hg hk2
  ·cases hz'
 | .cpy tA x y d1 d2 d3,_,_,_,_,_,hz=>by cases hz
theorem q6i {call:qlj} (hc:qnv call) (hm:∀v avs h f x h1 f1,call v avs h f=.r x h1 f1→f≤f1):∀(is:List IOp) {e:Ty AV} {h:Ty AO} {f:Nat} {e1:Ty AV} {h1:Ty AO} {f1:Nat} {es:List EvW},qos h f→vmb call is e h f=.st e1 h1 f1 es→qos h1 f1
 | [],_,_,_,_,_,_,_,hg,hz=>by cases hz;exact hg
 | i :: is,_,_,_,_,_,_,_,hg,hz=>q1z hc hm (k:=vmb call is) (fun e h f es hg hz=>q6i hc hm is hg hz) i hg hz
end Go.Ab
namespace Go.Ab
open Go
set_option linter.constructorNameAsVariable false
variable {P:Program} {C:Cx} {Q:Exit→St→Prop} {st:St}
def qul (ih:qpn):Prop:=∀(N:Nat) (c:Code) (e:Ty AV) (h:Ty AO) (f:Nat) (ex:Exit) (e1:Ty AV) (h1:Ty AO) (f1:Nat),ih N c e h f=.r ex e1 h1 f1→f≤f1
theorem vmm {e:Ty AV} {h:Ty AO} {f:Nat} {rs:List ResultVar} {x:AV} {h1:Ty AO} {f1:Nat} (hz:rsK P e h f rs=.r x h1 f1):h1=h∧f1=f:=by
 unfold rsK at hz;split at hz <;> cases hz <;> exact ⟨rfl,rfl⟩
theorem q6j {ext:Ext} {ih:qpn} {k:FuncId} {avs:List AV} {h:Ty AO} {f:Nat} {x:AV} {h1:Ty AO} {f1:Nat} (hz:qy6 P ext ih k avs h f=.r x h1 f1):(h1=h∧f1=f)∨∃N c ex e1,ih N c (qw1 0 avs .e) h f=.r ex e1 h1 f1:=by
 unfold qy6 at hz;split at hz
 ·split at hz
  ·split at hz
   ·cases hz;exact .inl ⟨rfl,rfl⟩
   ·cases hz
  ·cases hz
 ·cases hc:vme P k with
  | bad=>rw [hc] at hz;cases hz
  | r N c rs =>
   rw [hc] at hz;have hz':(bif v7i avs.length N && v7i 1000 f then vsy P rs (ih N c (qw1 0 avs .e) h f) else .bad)=KR.r x h1 f1:=hz;cases hcc:v7i avs.length N && v7i 1000 f with
   | false=>rw [hcc] at hz';cases hz'
   | true =>
   rw [hcc,cond_true] at hz';generalize hrun:ih N c (qw1 0 avs .e) h f=cr at hz';cases cr with
   | bad=>cases hz'
   | r ex e1 h2 f2 =>
    have hres:rsK P e1 h2 f2 rs=.r x h1 f1:=by cases ex <;> first | exact hz' | cases hz'
    obtain ⟨rfl,rfl⟩:=vmm hres;exact .inr ⟨N,c,ex,e1,hrun⟩
theorem q9i {ext:Ext} {ih:qpn} {v:AV} {avs:List AV} {h:Ty AO} {f:Nat} {x:AV} {h1:Ty AO} {f1:Nat} (hz:quk P ext ih v avs h f=.r x h1 f1):∃k cs,qq3 v=some (k,cs)∧qy6 P ext ih k (avs++cs) h f=.r x h1 f1:=by
 unfold quk at hz;split at hz
 ·exact ⟨_,_,rfl,hz⟩
 ·exact ⟨_,_,rfl,hz⟩
 ·cases hz
theorem qvz {ext:Ext} {ih:qpn} (hm:qul ih):∀v avs h f x h1 f1,quk P ext ih v avs h f=.r x h1 f1→f≤f1:=by
 intro v avs h f x h1 f1 hz;obtain ⟨k,cs,_,hz⟩:=q9i hz;rcases q6j hz with ⟨_,rfl⟩ | ⟨N,c,ex,e1,hr⟩
 ·exact v4o _
 ·exact hm _ _ _ _ _ _ _ _ _ hr
theorem q11 {ext:Ext} {ih:qpn} (hg:qr2 ih):qnv (quk P ext ih):=by
 intro v avs h f x h1 f1 hgd hz;obtain ⟨k,cs,_,hz⟩:=q9i hz;rcases q6j hz with ⟨rfl,rfl⟩ | ⟨N,c,ex,e1,hr⟩
 ·exact hgd
 ·exact hg _ _ _ _ _ _ _ _ _ hgd hr
theorem vmn (hB:vbj P) {ext:Ext} (hE:vee P ext) {ih:qpn} (hi:q3s P ih) (hgd:qr2 ih):qta P (quk P ext ih):=by
 intro v avs h f x h1 f1 hl hf hge hz;obtain ⟨k,cs,hc,hz⟩:=q9i hz;exact ⟨k,cs,hc,vbl hB hE hi hgd hl hf hge hz⟩
theorem qv0 {k:Ty AV→Ty AO→Nat→CR} {r:CR} {ex:Exit} {e1:Ty AV} {h1:Ty AO} {f1:Nat} (hz:vsw k r=.r ex e1 h1 f1):(∃e h f,r=.r .normal e h f∧k e h f=.r ex e1 h1 f1)∨(r=.r ex e1 h1 f1∧ex≠.normal):=by
 cases r with
 | bad=>cases hz
 | r x e h f =>
  cases x with
  | normal=>exact .inl ⟨e,h,f,rfl,hz⟩
  | _=>refine .inr ⟨?_,?_⟩ <;> cases hz <;> first | rfl | exact fun h=>by cases h
theorem qzd {id:Nat} {r:CR} {ex:Exit} {e1:Ty AV} {h1:Ty AO} {f1:Nat} (hz:vid id r=.r ex e1 h1 f1):(r=.r (.exit id) e1 h1 f1∧ex=.normal)∨(r=.r ex e1 h1 f1∧ex≠.exit id):=by
 cases r with
 | bad=>cases hz
 | r x e h f =>
  cases x with
  | exit i =>
   have hz':(bif v6q i id then CR.r .normal e h f else .r (.exit i) e h f)=.r ex e1 h1 f1:=hz;rw [q0c] at hz';by_cases hi:i=id
   ·subst hi;simp only [decide_true,cond_true] at hz';cases hz';exact .inl ⟨rfl,rfl⟩
   ·simp only [hi,decide_false,cond_false] at hz';cases hz';exact .inr ⟨rfl,fun h=>hi (by cases h;rfl)⟩
  | _=>refine .inr ⟨?_,?_⟩ <;> cases hz <;> first | rfl | exact fun h=>by cases h
theorem vil {r:EZ} {ex:Exit} {e1:Ty AV} {h1:Ty AO} {f1:Nat} (hz:vie r=.r ex e1 h1 f1):r=.st e1 h1 f1∧ex=.normal:=by
 cases r with
 | bad=>cases hz
 | st e h f=>cases hz;exact ⟨rfl,rfl⟩
theorem vs6 {call:qlj} {ps:List (Nat×Nat)} {post:List IOp} {r:DR} {ex:Exit} {e1:Ty AV} {h1:Ty AO} {f1:Nat} (hz:vsx call ps post r=.r ex e1 h1 f1):∃e h f es,r=.st e h f es∧quj es ps=true∧vbi call post e h f=.st e1 h1 f1∧ex=.normal:=by
 cases r with
 | bad=>cases hz
 | st e h f es =>
  have hz':(bif quj es ps then vie (vbi call post e h f) else .bad)=CR.r ex e1 h1 f1:=hz;cases hp:quj es ps with
  | false=>rw [hp] at hz';cases hz'
  | true =>
   rw [hp,cond_true] at hz';obtain ⟨q1,q2⟩:=vil hz';exact ⟨e,h,f,es,rfl,hp,q1,q2⟩
structure CodeAll (P:Program) (ih:qpn):Prop where
 mono:qul ih
 good:qr2 ih
 ok:q3s P ih
theorem q3y {N id:Nat} {l:Array Oper} {d:Bool} {ext:Ext} {ih:qpn} {e:Ty AV} {h:Ty AO} {f:Nat} {ex:Exit} {e1:Ty AV} {h1:Ty AO} {f1:Nat} (hz:ved P ext ih N (.region id l d) e h f=.r ex e1 h1 f1) :
  ex=.normal∧((d=false∧vbi (quk P ext ih) (q3q P N l l.toList) e h f=.st e1 h1 f1) ∨
   (d=true∧qh2 l=true∧∃T e2 h2 f2 es,qy1 l T=true∧T≤l.size∧vmb (quk P ext ih) ((l.toList.take T).map (qs7 P N l)) e h f=.st e2 h2 f2 es∧quj es (vic l T)=true ∧
    vbi (quk P ext ih) ((l.toList.drop T).map (qs7 P N l)) e2 h2 f2=.st e1 h1 f1)):=by
 cases d with
 | false =>
  have hz':vie (vbi (quk P ext ih) (q3q P N l l.toList) e h f)=.r ex e1 h1 f1:=hz;obtain ⟨q1,q2⟩:=vil hz';exact ⟨q2,.inl ⟨rfl,q1⟩⟩
 | true =>
  generalize hT:vsu l l.size 0=T at hz;have hcomp:vym P N (.region id l true)=vsv P N l T:=by rw [←hT];rfl
  unfold ved at hz;rw [hcomp] at hz;unfold vsv at hz;cases hc:qh2 l && (qy1 l T && v7i T l.size) with
  | false=>rw [hc] at hz;cases hz
  | true =>
   rw [hc,cond_true] at hz;simp only [v2m] at hc;have hz':vsx (quk P ext ih) (vic l T) ((l.toList.drop T).map (qs7 P N l)) (vmb (quk P ext ih) ((l.toList.take T).map (qs7 P N l)) e h f)=.r ex e1 h1 f1:=hz;obtain ⟨e2,h2,f2,es,q1,q2,q3,q4⟩:=vs6 hz';exact ⟨q4,.inr ⟨rfl,hc.1,T,e2,h2,f2,es,hc.2.1,v7k hc.2.2,q1,q2,q3⟩⟩
theorem vef {ext:Ext} {ih:qpn} (hm:qul ih):qul (ved P ext ih):=by
 intro N c e h f ex e1 h1 f1 hz;have hcm:=qvz (P:=P) (ext:=ext) hm;cases c with
 | skip=>cases hz;exact v4o _
 | ret=>cases hz;exact v4o _
 | exit id=>cases hz;exact v4o _
 | seq a b =>
  rcases qv0 (k:=fun e h f=>ih N b e h f) (r:=ih N a e h f) hz with ⟨e2,h2,f2,q1,q2⟩ | ⟨q1,_⟩
  ·exact v4q (hm _ _ _ _ _ _ _ _ _ q1) (hm _ _ _ _ _ _ _ _ _ q2)
  ·exact hm _ _ _ _ _ _ _ _ _ q1
 | cond x a b =>
  have hz':qy5 (vo e (opd x)) (ih N a e h f) (ih N b e h f)=.r ex e1 h1 f1:=hz;unfold qy5 at hz';split at hz'
  ·rename_i t _;cases t
   ·exact hm _ _ _ _ _ _ _ _ _ hz'
   ·exact hm _ _ _ _ _ _ _ _ _ hz'
  ·cases hz'
 | block id b =>
  rcases qzd (r:=ih N b e h f) hz with ⟨q1,_⟩ | ⟨q1,_⟩
  ·exact hm _ _ _ _ _ _ _ _ _ q1
  ·exact hm _ _ _ _ _ _ _ _ _ q1
 | loop b =>
  rcases qv0 (k:=fun e h f=>ih N (.loop b) e h f) (r:=ih N b e h f) hz with ⟨e2,h2,f2,q1,q2⟩ | ⟨q1,_⟩
  ·exact v4q (hm _ _ _ _ _ _ _ _ _ q1) (hm _ _ _ _ _ _ _ _ _ q2)
  ·exact hm _ _ _ _ _ _ _ _ _ q1
 | region id l d =>
  obtain ⟨_,⟨_,q⟩ | ⟨_,_,T,e2,h2,f2,es,_,_,q1,_,q2⟩⟩:=q3y hz
  ·exact qzc hcm _ q
  ·exact v4q (q6h hcm _ q1) (qzc hcm _ q2)
 | _=>cases hz
theorem veg {ext:Ext} {ih:qpn} (hm:qul ih) (hg:qr2 ih):qr2 (ved P ext ih):=by
 intro N c e h f ex e1 h1 f1 hgd hz;have hcm:=qvz (P:=P) (ext:=ext) hm;have hcg:=q11 (P:=P) (ext:=ext) hg;cases c with
 | skip=>cases hz;exact hgd
 | ret=>cases hz;exact hgd
 | exit id=>cases hz;exact hgd
 | seq a b =>
  rcases qv0 (k:=fun e h f=>ih N b e h f) (r:=ih N a e h f) hz with ⟨e2,h2,f2,q1,q2⟩ | ⟨q1,_⟩
  ·exact hg _ _ _ _ _ _ _ _ _ (hg _ _ _ _ _ _ _ _ _ hgd q1) q2
  ·exact hg _ _ _ _ _ _ _ _ _ hgd q1
 | cond x a b =>
  have hz':qy5 (vo e (opd x)) (ih N a e h f) (ih N b e h f)=.r ex e1 h1 f1:=hz;unfold qy5 at hz';split at hz'
  ·rename_i t _;cases t
   ·exact hg _ _ _ _ _ _ _ _ _ hgd hz'
   ·exact hg _ _ _ _ _ _ _ _ _ hgd hz'
  ·cases hz'
 | block id b =>
  rcases qzd (r:=ih N b e h f) hz with ⟨q1,_⟩ | ⟨q1,_⟩
  ·exact hg _ _ _ _ _ _ _ _ _ hgd q1
  ·exact hg _ _ _ _ _ _ _ _ _ hgd q1
 | loop b =>
  rcases qv0 (k:=fun e h f=>ih N (.loop b) e h f) (r:=ih N b e h f) hz with ⟨e2,h2,f2,q1,q2⟩ | ⟨q1,_⟩
  ·exact hg _ _ _ _ _ _ _ _ _ (hg _ _ _ _ _ _ _ _ _ hgd q1) q2
  ·exact hg _ _ _ _ _ _ _ _ _ hgd q1
 | region id l d =>
  obtain ⟨_,⟨_,q⟩ | ⟨_,_,T,e2,h2,f2,es,_,_,q1,_,q2⟩⟩:=q3y hz
  ·exact qy9 hcg _ hgd q
  ·exact qy9 hcg _ (q6i hcg hcm _ hgd q1) q2
 | _=>cases hz
theorem vim (hB:vbj P) (hmo:P.follows .mixedOrders=true) {ext:Ext} (hE:vee P ext) (n:Nat):CodeAll P (qs9 P ext n):=by
 induction n using v6t with
 | _ n ihs =>
 cases n with
 | zero =>
  refine ⟨?_,?_,?_⟩
  ·intro N c e h f ex e1 h1 f1 hz;cases hz
  ·intro N c e h f ex e1 h1 f1 _ hz;cases hz
  ·intro C c e h f ex e1 h1 f1 st Q _ _ hz;cases hz
 | succ n =>
  obtain ⟨hm,hg,hi⟩:=ihs n (Nat.lt_succ_self n);refine ⟨vef (P:=P) (ext:=ext) hm,veg (P:=P) (ext:=ext) hm hg,?_⟩;have hcm:=qvz (P:=P) (ext:=ext) hm;have hcg:=q11 (P:=P) (ext:=ext) hg;have hco:=vmn hB hE hi hg;intro C c e h f ex e1 h1 f1 st Q hP hN hz hR hQ;have hz:ved P ext (qs9 P ext n) C.N c e h f=.r ex e1 h1 f1:=hz;cases c with
  | skip=>cases hz;exact q2y (hQ st hR)
  | ret=>cases hz;exact q2z (hQ st hR)
  | exit id=>cases hz;exact vap (hQ st hR)
  | seq a b =>
   rcases qv0 (k:=fun e h f=>qs9 P ext n C.N b e h f) (r:=qs9 P ext n C.N a e h f) hz with ⟨e2,h2,f2,q1,q2⟩ | ⟨q1,hne⟩
   ·exact qpi (hi C a _ _ _ _ _ _ _ st _ hP hN q1 hR fun st1 hR1=>hi C b _ _ _ _ _ _ _ st1 Q hP hN q2 hR1 hQ)
   ·refine qpi (hi C a _ _ _ _ _ _ _ st _ hP hN q1 hR fun st1 hR1=>?_);have:=hQ st1 hR1;cases ex <;> first | exact (hne rfl).elim | exact this
  | cond x a b =>
   have hz':qy5 (vo e (opd x)) (qs9 P ext n C.N a e h f) (qs9 P ext n C.N b e h f)=.r ex e1 h1 f1:=hz;unfold qy5 at hz';split at hz'
   ·rename_i t ht;rw [qgj,hR.evf] at ht;refine q20 ht (fun hh=>?_) fun hh=>?_
    ·subst hh;exact hi C a _ _ _ _ _ _ _ st Q hP hN hz' hR hQ
    ·subst hh;exact hi C b _ _ _ _ _ _ _ st Q hP hN hz' hR hQ
   ·cases hz'
  | block id b =>
   rcases qzd (r:=qs9 P ext n C.N b e h f) hz with ⟨q1,rfl⟩ | ⟨q1,hne⟩
   ·refine qya (hi C b _ _ _ _ _ _ _ st _ hP hN q1 hR fun st1 hR1=>?_);simp only [qqs,if_true];exact hQ st1 hR1
   ·refine qya (hi C b _ _ _ _ _ _ _ st _ hP hN q1 hR fun st1 hR1=>?_);have:=hQ st1 hR1;cases ex with
    | exit i =>
     simp only [qqs];rw [if_neg (fun h=>hne (by rw [h]))];exact this
    | _=>exact this
  | loop b =>
   have key:∀m,m≤n+1→∀e h f st,qs9 P ext m C.N (.loop b) e h f=.r ex e1 h1 f1→RepV e h f st→∀inj a w,SR C st inj a w→Code.rounds C.P b (vk4 C Q) m a w:=by
    intro m
    induction m with
    | zero=>intro _ e h f st h;cases h
    | succ m ihm =>
     intro hmn e h f st hz hR inj a w hs;have hi':q3s P (qs9 P ext m):=(ihs m (by omega)).ok;rw [rounds_succ];rcases qv0 (k:=fun e h f=>qs9 P ext m C.N (.loop b) e h f) (r:=qs9 P ext m C.N b e h f) hz with ⟨e2,h2,f2,q1,q2⟩ | ⟨q1,hne⟩
     ·refine wp_mono (hi' C b _ _ _ _ _ _ _ st (fun e s=>e=.normal∧RepV e2 h2 f2 s) hP hN q1 hR (fun s hs=>⟨rfl,hs⟩) inj a w hs) ?_;rintro e' a' w' ⟨s,i,h2,rfl,h3⟩;exact ihm (by omega) _ _ _ s q2 h3 i a' w' h2
     ·refine wp_mono (hi' C b _ _ _ _ _ _ _ st (fun e s=>e=ex∧Q e s) hP hN q1 hR (fun s h=>⟨rfl,hQ s h⟩) inj a w hs) ?_;rintro e' a' w' ⟨s,i,h2,rfl,h3⟩;cases e' <;> first | exact (hne rfl).elim | exact ⟨s,i,h2,h3⟩
   intro inj a w hs;exact wp_loop_rounds (n+1) (key (n+1) (v4o _) e h f st hz hR inj a w hs)
  | region id l d =>
   subst hP;have hl:l=l.toList.toArray:=by simp
   obtain ⟨rfl,⟨rfl,q⟩ | ⟨rfl,hsl,T,e2,h2,f2,es,hT1,hT2,q1,hpw,q2⟩⟩:=q3y hz
   ·have:=qmd (C:=C) (id:=id) (l:=l.toList) (vig hco rfl hN (by rw [←hl];exact ILs.comp C.P C.N l _ l.toList (v4o _)) hR q hQ);rw [←hl] at this;exact this
   ·obtain ⟨ms,st1,d1,d2,d3⟩:=vik hco hcg hcm rfl hN (l.toList.take T) e h f st e2 h2 f2 es hR q1;have hlen:ms.length≤T:=by
     have:=(d1.chain 0 (fun j hj=>by
      rw [v3r] at hj;rw [v3j,if_pos (by omega)];simp)).1
     rw [this,v3r];omega
    have hev:=vs5 (ops:=l) hlen (by rw [d3];exact hpw);have:=vea (C:=C) T (id:=id) (l:=l.toList) (Q:=Q) hmo (by rw [←hl];exact hsl) (by simpa using hT2) (by rw [←hl];exact hT1) (by rw [←hl];exact d1) (by rw [←hl];exact hev)
     (vig hco rfl hN (by rw [←hl];exact ILs.map C.P C.N l _) d2 q2 hQ)
    rw [←hl] at this;exact this
  | _=>cases hz
theorem vmo (hB : (P.funcs.all fun fn => !(fn.name == "runtime.NumGoroutine")) = true) (hmo : P.follows .mixedOrders = true) {ext : Ext} (hE : vee P ext) {n : Nat} {k : FuncId} {args : List PV} {x : AV} {h1 : Ty AO} {f1 : Nat} {r : PV} {D : Prop}
  (hz:qy6 P ext (qs9 P ext n) k (args.map .p) .e 1000=.r x h1 f1) (hv:(view (fun _=>true) 9 x).run (ho h1)=some r):vk6 D P k args r:=by
 obtain ⟨hm,hg,hi⟩:=vim (q6d hB) hmo hE n;obtain ⟨_,_,_,_,hW⟩:=vbl (q6d hB) hE hi hg ⟨[],vvc.symm⟩ (fun l _=>by rw [vvc];rfl) (v4o _) hz;intro X w vs hX hT hargs;have hnoF:∀b,¬F (fun _=>none) (ho .e) b:=by
  rintro b ⟨l,c,o,h1,h2,_⟩;rw [vvc] at h1;simp only [qar] at h1;subst h1;cases h2
 have keep:Keeps X (fun b=>X b∨F (fun _=>none) (ho .e) b) w w:=⟨v4o _,fun _ _ _=>rfl,fun b _ hx hn=>hn.elim hx (hnoF b)⟩;have hr:HR X (fun _=>none) (ho .e) w:=by
  refine ⟨fun l o ho'=>?_,fun l l' o o' b c c' h1 h2 h3=>?_,hX⟩
  ·rw [vvc] at ho';simp only [qar] at ho';subst ho';trivial
  ·rw [vvc] at h1;simp only [qar] at h1;subst h1;cases h3
 refine (hW D X (fun _=>none) w vs hr (hT.keep keep) (qbt.2 (PRs.keep keep args vs hargs))).mono ?_;rintro e w' ⟨val,rfl,inj',q1,q2,q3⟩;refine ⟨val,rfl,?_,⟨q2.os,q2.tape,q2.output,q2.dr,q2.size,q2.fz,fun b hb=>q2.blk b hb (hnoF b)⟩⟩;have:=qd4 q1 (fun _=>true) 9 x val r q3 hv;exact PR.keep ⟨v4o _,fun _ _ _=>rfl,fun b _ hx hn=>hx (.inl hn)⟩ r val this
end Go.Ab
namespace Go.Ab
open Go
def vs7:KR→Bool
 | .r (.p (.bool true)) ..=>true
 | _=>false
theorem q3z {P : Program} {D : Prop} {ext : Ext} {n : Nat} {k : FuncId} (hB : (P.funcs.all fun fn => !(fn.name == "runtime.NumGoroutine")) = true) (hmo : P.follows .mixedOrders = true) (hE : vee P ext)
  (h:vs7 (qy6 P ext (qs9 P ext n) k [] .e 1000)=true):vk6 D P k [] (.bool true):=by
 generalize hz:qy6 P ext (qs9 P ext n) k [] .e 1000=z at h;unfold vs7 at h;split at h
 ·rename_i h1 f1;exact vmo hB hmo hE (args:=[]) hz rfl
 ·cases h
theorem vs8 {n:Nat} (hn:n < 128):Utf8.encode (n:Int)=⟨#[UInt8.ofNat n]⟩:=by
 have h128:∀m:Fin 128,(Utf8.encode (m.val:Int)).data=#[UInt8.ofNat m.val]:=by decide +kernel
 have:=h128 ⟨n,hn⟩;cases hb:Utf8.encode (n:Int) with
 | mk d=>rw [hb] at this;exact congrArg ByteArray.mk this
theorem vs9 {D:Prop} {P:Program} {o:Oper} {s d:TypeId} {x:Operand} {ρ:Operand→AV} {σ:Nat→AO} {k kk:IntKind} {n:Int} (ho:o.op=.convert s d x)
  (hs:P.underlying s=some (.int kk)) (hd:P.underlying d=some .string) (hx0:ρ x=.p (.int k n)) (h0:0≤n) (hn:n < 128):OpU D P o ρ σ (.p (.str [UInt8.ofNat n.toNat])) none []:=by
 intro X ρ' σ' hρ _ inj w a next Q hr hT ha hnx
 have hx:=ha x;rw [hρ x (by rw [ho];simp [Op.operands]),hx0] at hx;simp only [AR,PR] at hx;obtain ⟨m,rfl⟩:=Int.eq_ofNat_of_zero_le h0;have he:=vs8 (n:=m) (by omega);have hrun:(execOp a.eval o).run P w=.ok (.value (.string ⟨#[UInt8.ofNat m]⟩)) w:=by
  obtain ⟨dst,op,type,pos,after,guard⟩:=o;simp only at ho;subst ho;simp [execOp,convert,run_underlying hs,run_underlying hd,hx,Conv.intToString,he]
 unfold Oper.wp;rw [hrun];exact hnx _ w inj hr (Ev.refl _ _ _ _) rfl
variable {C:Cx} {Q:Exit→St→Prop} {st:St}
theorem zChr {ops:Array Oper} {o:Oper} {rest:List Oper} {s d:TypeId} {x:Operand} {k kk:IntKind} {n:Int} (h0:0≤n) (hn:n < 128) (hs:C.P.underlying s=some (.int kk)) (hd:C.P.underlying d=some .string)
  (h:AL C ops rest Q ⟨qel st.env o.dst (.p (.str [UInt8.ofNat n.toNat])),st.heap⟩)
  (ho:o.op=.convert s d x:=by rfl) (hgd:qax ops st.env o=some true:=by first | exact qa6 rfl | exact qby rfl rfl (by exact rfl) (by exact rfl)) (hdd:qbb C.N o=true:=by rfl)
  (hx:ev st.env x=.p (.int k n):=by simp only [go_sem,seval, *];all_goals rfl):AL C ops (o :: rest) Q st:=by
 intro inj a w hs';simp only [wpList,qbc hs' hgd,if_true];exact .inl (vs9 ho hs hd hx h0 hn C.X (ev st.env) st.sig (fun _ _=>rfl) (fun _ _=>rfl) hs'.hr (qol hs'.ev) (fun x=>hs'.eval x) fun val w' inj' h1 h2 h3=>h inj' _ _ (hs'.put (u:=none) hdd h1 h2 h3))
end Go.Ab
namespace Go.Ab
open Go
variable {D:Prop}
theorem Ip.con {P:Program} {k:FuncId} {args:List PV} {v:AV} {H':List (Nat×AO)} {r:PV} (h:Ip D P k (args.map AV.p) [] v H') (hv:(view (fun _=>true) 9 v).run (qar H')=some r):Con D P k args r:=by
 refine ⟨h.1,?_⟩;intro X w vs hX hTb hargs;have hnoF:∀inj b,¬F inj (qar []) b:=by
  rintro inj b ⟨l,c,o,h1,h2,_⟩;simp only [qar] at h1;subst h1;cases h2
 have hpr:PRs (fun b=>X b∨F (fun _=>none) (qar []) b) w args vs:=PRs.keep ⟨v4o _,fun _ _ _=>rfl,fun b _ hx hn=>hn.elim hx (hnoF _ _)⟩ args vs hargs;have hT:TabOk P (fun b=>X b∨F (fun _=>none) (qar []) b) w:=hTb.keep ⟨v4o _,fun _ _ _=>rfl,fun b _ hx hn=>hn.elim hx (hnoF _ _)⟩;have hR:HR X (fun _=>none) (qar []) w:=⟨fun l o ho=>(by simp only [qar] at ho;subst ho;trivial),fun l l' o o' b c c' h1 h2 h3=>(by simp only [qar] at h1;subst h1;cases h3),hX⟩;refine (h.2 X _ w vs hR hT (qbt.2 hpr)).mono ?_;rintro e w' ⟨val,rfl,inj',h1,h2,h3⟩;have hp:=qd4 h1 (fun _=>true) 9 v val r h3 hv;have hp':PR X w' r val:=PR.keep ⟨v4o _,fun _ _ _=>rfl,fun b _ hx hn=>hx (.inl hn)⟩ r val hp;exact ⟨val,rfl,hp',⟨h2.os,h2.tape,h2.output,h2.dr,h2.size,h2.fz,fun b hb=>h2.blk b hb (hnoF _ _)⟩⟩
end Go.Ab
namespace Go.Ab
open Go Go.Proofs Go.Shelf Go.RowKit Go.Lib
variable {P:Program} {ρ:Ren}
end Go.Ab
namespace Go.Ab
open Go Go.Proofs Go.Shelf
variable {P:Program} {ρ:Ren} {D:Prop}
end Go.Ab
namespace Go.Ab
open Go Go.Shelf
variable {C:Cx} {st:St}
end Go.Ab
namespace Go.Ab
structure Bx (q:Prop):Prop where
 o:q
variable {p q r:Prop}
theorem M0(h:r)(H:Bx r→p:=by intro h;obtain ⟨h⟩:=h;refine zU<|zl ?_;cases h;exact ⟨rfl,zE⟩):p:=H ⟨h⟩
theorem M1(h:r)(e:q)(H:Bx r→Bx q→p:=by intro h k;obtain ⟨h⟩:=h;refine zU<|zl<|zn<|zq ?_;cases h;exact zT k.1):p:=H ⟨h⟩ ⟨e⟩
theorem M2(h:r)(e:q)(H:Bx r→Bx q→p:=by intro h k;obtain ⟨h⟩:=h;refine zi<|zs<|zr ?_;refine zU<|zl<|zn<|zq<|zt ?_;cases h;exact zT k.1):p:=H ⟨h⟩ ⟨e⟩
theorem M3(h:r)(H:Bx r→p:=by intro h;obtain ⟨h⟩:=h;refine zj<|zx<|ze ?_;cases h;exact ⟨rfl,zE⟩):p:=H ⟨h⟩
theorem M4(k:q)(H:Bx q→p:=by intro k;refine zi<|zs<|zr ?_;refine zU<|zl<|zn<|zq<|yr<|zt ?_;exact k.1):p:=H ⟨k⟩
theorem M5(k:q)(H:Bx q→p:=by intro k;refine zU<|zl<|zn<|zs<|zs<|zr ?_;refine zU<|zl<|zn<|zb ?_;exact k.1):p:=H ⟨k⟩
theorem M6(k:q)(H:Bx q→p:=by intro k;refine zU<|zl<|zn<|zs<|zr ?_;exact k.1):p:=H ⟨k⟩
theorem M7(k:q)(H:Bx q→p:=by intro k;refine zg ?_;refine zg ?_;exact k.1):p:=H ⟨k⟩
theorem M8(h:r)(H:Bx r→p:=by intro h;obtain ⟨h⟩:=h;try simp only at h;refine zZ fun s hq=>?_;refine yr<|zt ?_;cases h;exact hq):p:=H ⟨h⟩
theorem M9(k:q)(H:Bx q→p:=by intro k;refine zs<|zr ?_;refine zU<|zl<|zn<|zs ?_;exact k.1):p:=H ⟨k⟩
theorem Ma(k:q)(H:Bx q→p:=by intro k;refine zU<|zl<|zn ?_;exact k.1):p:=H ⟨k⟩
theorem Mb(k:q)(H:Bx q→p:=by intro k;refine zi<|zk<|zn<|zs<|zb<|zs<|zr ?_;exact k.1):p:=H ⟨k⟩
theorem Mc(k:q)(H:Bx q→p:=by intro k;refine zU<|zl<|zn<|zs<|zs<|zr ?_;exact k.1):p:=H ⟨k⟩
theorem Md(k:q)(H:Bx q→p:=by intro k;refine zA<|yh<|zn<|zs<|zr ?_;exact k.1):p:=H ⟨k⟩
theorem Me(k:q)(H:Bx q→p:=by intro k;refine zj<|zk<|yn<|zn<|zr ?_;exact k.1):p:=H ⟨k⟩
theorem Mf(k:q)(H:Bx q→p:=by intro k;refine yg ?_;refine yg ?_;refine yg ?_;exact k.1):p:=H ⟨k⟩
theorem Mg(k:q)(H:Bx q→p:=by intro k;refine zi<|zs<|zr ?_;refine zU<|zl<|zn<|zq<|zt<|yr<|zt ?_;exact k.1):p:=H ⟨k⟩
theorem Mh(k:q)(H:Bx q→p:=by intro k;refine zh ?_;refine zU ?_;refine zh ?_;exact k.1):p:=H ⟨k⟩
theorem Mi(k:q)(H:Bx q→p:=by intro k;refine zj<|zk<|zn<|zs<|zr ?_;exact k.1):p:=H ⟨k⟩
theorem Mj(k:q)(H:Bx q→p:=by intro k;refine zj<|zk<|zn<|zs<|zs<|zr ?_;exact k.1):p:=H ⟨k⟩
theorem Mk(k:q)(H:Bx q→p:=by intro k;refine zU<|zl<|yn<|zn<|zr ?_;exact k.1):p:=H ⟨k⟩
theorem Ml(k:q)(H:Bx q→p:=by intro k;refine zs<|zr ?_;exact k.1):p:=H ⟨k⟩
theorem Mm(k:q)(H:Bx q→p:=by intro k;refine zU<|zl<|zn<|zq<|zt ?_;exact k.1):p:=H ⟨k⟩
theorem Mn(h:r)(e:q)(H:Bx r→Bx q→p:=by intro h k;obtain ⟨h⟩:=h;refine zU<|zl<|zn<|zq<|yr<|zt ?_;cases h;exact zT k.1):p:=H ⟨h⟩ ⟨e⟩
theorem Mo(h:r)(H:Bx r→p:=by intro h;obtain ⟨h⟩:=h;cases h;exact ⟨rfl,zE⟩):p:=H ⟨h⟩
theorem Mp(h:r)(e:q)(H:Bx r→Bx q→p:=by intro h k;obtain ⟨h⟩:=h;refine yU ?_;refine yd<|zn<|zq ?_;cases h;exact zT k.1):p:=H ⟨h⟩ ⟨e⟩
theorem Mq(k:q)(H:Bx q→p:=by intro k;refine zU<|zl<|zn<|zb ?_;exact k.1):p:=H ⟨k⟩
theorem Mr(k:q)(H:Bx q→p:=by intro k;refine zi<|zs<|zr ?_;refine zU ?_;exact k.1):p:=H ⟨k⟩
theorem Ms(k:q)(H:Bx q→p:=by intro k;refine yU ?_;refine yd<|zn ?_;exact k.1):p:=H ⟨k⟩
theorem Mt(k:q)(H:Bx q→p:=by intro k;dsimp only;refine zs<|zs<|zr ?_;exact k.1):p:=H ⟨k⟩
theorem Mu(k:q)(H:Bx q→p:=by intro k;refine zU<|zl<|zn<|zr ?_;exact k.1):p:=H ⟨k⟩
theorem Mv(k:q)(H:Bx q→p:=by intro k;refine zU<|zl<|zn<|zs<|zd ?_;exact k.1):p:=H ⟨k⟩
theorem Mw(k:q)(H:Bx q→p:=by intro k;refine zg ?_;refine zU ?_;exact k.1):p:=H ⟨k⟩
theorem Mx(k:q)(H:Bx q→p:=by intro k;refine zj<|zs<|zr ?_;exact k.1):p:=H ⟨k⟩
theorem My(k:q)(H:Bx q→p:=by intro k;refine zU<|zl<|zn<|zq ?_;exact k.1):p:=H ⟨k⟩
theorem Mz(k:q)(H:Bx q→p:=by intro k;refine zU<|zl<|yn<|zn<|zs<|zs<|zr ?_;exact k.1):p:=H ⟨k⟩
theorem T0(h:r)(e:q)(H:Bx r→Bx q→p:=by intro h k;obtain ⟨h⟩:=h;cases h;exact zT k.1):p:=H ⟨h⟩ ⟨e⟩
theorem T3(k:q)(H:Bx q→p:=by intro k;refine yU ?_;refine yd<|yn<|zn<|zr ?_;exact k.1):p:=H ⟨k⟩
theorem T4(k:q)(H:Bx q→p:=by intro k;refine zj<|zk<|yn<|zn<|zs<|zr ?_;exact k.1):p:=H ⟨k⟩
theorem T5(k:q)(H:Bx q→p:=by intro k;refine zi<|zs<|zr ?_;exact k.1):p:=H ⟨k⟩
theorem T6(k:q)(H:Bx q→p:=by intro k;refine zl<|zn<|zs<|zr ?_;exact k.1):p:=H ⟨k⟩
theorem T7(k:q)(H:Bx q→p:=by intro k;refine yU ?_;refine yd<|zn<|zs<|zr ?_;exact k.1):p:=H ⟨k⟩
theorem T8(k:q)(H:Bx q→p:=by intro k;refine zU<|zl<|yn<|zn<|zs<|zr ?_;exact k.1):p:=H ⟨k⟩
theorem T9(k:q)(H:Bx q→p:=by intro k;refine zi<|zr ?_;refine zU ?_;exact k.1):p:=H ⟨k⟩
theorem Ta(k:q)(H:Bx q→p:=by intro k;refine zU<|zl<|zn<|zs<|zs<|zd ?_;refine yU ?_;exact k.1):p:=H ⟨k⟩
theorem Tb(k:q)(H:Bx q→p:=by intro k;refine zU<|zl<|zn<|zb<|zs<|zr ?_;exact k.1):p:=H ⟨k⟩
theorem Tc(k:q)(H:Bx q→p:=by intro k;refine zA<|yh<|yn<|zn<|zr ?_;exact k.1):p:=H ⟨k⟩
theorem Td(k:q)(H:Bx q→p:=by intro k;refine zr ?_;refine zU ?_;exact k.1):p:=H ⟨k⟩
theorem Te(k:q)(H:Bx q→p:=by intro k;refine zA<|yh<|zn<|zs<|zs<|zr ?_;exact k.1):p:=H ⟨k⟩
theorem Tf(k:q)(H:Bx q→p:=by intro k;refine zi<|zk<|zn<|zs<|zb<|zr ?_;exact k.1):p:=H ⟨k⟩
theorem Tg(k:q)(H:Bx q→p:=by intro k;refine zU<|zl<|zn<|zd ?_;refine yU ?_;exact k.1):p:=H ⟨k⟩
end Go.Ab
