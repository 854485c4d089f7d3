/- An abstract logic for calls that only compute: what each operation does to values that are trees, and rules for walking a text. -/
import Derived.Lib.SlicesCompact
import Derived.Test.YtmlegeeinnkhkaaGreatA2
set_option linter.unusedVariables false
set_option linter.unusedSimpArgs false
open Array renaming getElem?_toList→vss
open Go.Lib renaming compact→vw0
open List renaming eq_nil_of_length_eq_zero→vti,getElem?_take→vtv,length_map→vtz,map→vwb,map_take→vw1
open Option.some renaming inj→vwz
open Go.Result renaming andThen_ok→vvf
open Go.Sem renaming run_bind→vvh
noncomputable section
namespace Go.Ab
open Go
variable {C:Cx} {Q:Exit→St→Prop} {st:St}
structure CptI (P:Program) (k:FuncId):Prop where
 body:HasBody P k
 rows:∀(blk off cap:Nat) (zs:List Int) (w:World),Sort.Holds (Value.int .i64) w blk off zs.toArray→zs.length≤9223372036854775807→zs.length≤cap →
  Calls P k #[.slice (some ⟨blk,off,none⟩) zs.length cap] w fun e w' =>
   e=.returned (.slice (some ⟨blk,off,none⟩) (vw0 zs).length cap)∧∃n,w'=Sort.putRow (Value.int .i64) (Sort.ahead w n) blk off (vw0 zs++List.replicate (zs.length - (vw0 zs).length) 0).toArray
 none:∀(a:Option Addr) (cap:Nat) (w:World),Calls P k #[.slice a 0 cap] w fun e w'=>e=.returned (.slice a 0 cap)∧w'=w
theorem qzi (l:List Int):(vw0 l).length≤l.length:=by
 unfold vw0 Lib.compactUpTo;rw [vtz];have:=List.length_filter_le (Lib.keeps l.toArray) (List.range l.length);rw [List.length_range] at this;exact this
theorem q79 {o:Oper} {f:Operand} {args:Array Operand} {ats:Array TypeId} {k:FuncId} {e g n L d:Nat}
  (S:CptI C.P k) {l l':List Int} (hl':vw0 l=l') (hl:l.length≤1000000000000)
  (ho:o.op=.call ⟨.value f,args,ats⟩) (hd:qcu C.N o=true) (hdst:o.dst=some d)
  (hk:qbp st.env f args.toList=some (k,[.own L g 0 n]))
  (hobj:qaw st.heap L=.arr e 1 g (vwb AV.p (vwb (PV.int .i64) l))) (hn:n=l.length)
  {inj:Inj} {a:Act} {w:World} (hs:SR C st inj a w) {K:Act→World→Prop} {E:Exit→Act→World→Prop}
  (h:∀a' w',SR C ⟨qgb st.env (some d) (.own L (g+1) 0 l'.length),qm9 st.heap L (.arr e 1 (g+1) (vwb AV.p (vwb (PV.int .i64) l')))⟩ inj a' w'→(∀b',(∀c,inj L≠some (b',c))→w'.heap[b']?=w.heap[b']?)→K a' w'):o.wp C.P a w K E:=by
 subst hl';obtain ⟨vs,hrun,hars⟩:=ql9 hs ho S.body hk;unfold Oper.wp;rw [hrun];simp only [Oper.upon];obtain ⟨v1,r1,rfl,ha1,rfl⟩:=hars;have ha1':=ha1;obtain ⟨⟨sa,sn,sc,rfl⟩,hown⟩:=ha1;obtain ⟨hge,hown⟩:=hown _ hobj;obtain ⟨hle,hcase⟩:=hown rfl e 1 _ rfl;have hcl:=qzi l
 -- the state behind the call,then cut
 have fin:∀(inj':Inj) (a':Act) (w':World) (zs:List Int),zs.length=l.length→zs.take (vw0 l).length=vw0 l →
   SR C ⟨qgb st.env (some d) (.own L g 0 (vw0 l).length),qm9 st.heap L (.arr e 1 g (vwb AV.p (vwb (PV.int .i64) zs)))⟩ inj' a' w' →
   SR C ⟨qgb st.env (some d) (.own L (g+1) 0 (vw0 l).length),qm9 st.heap L (.arr e 1 (g+1) (vwb AV.p (vwb (PV.int .i64) (vw0 l))))⟩ inj' a' w':=by
  intro inj' a' w' zs hz ht hsr;have hob:qaw (qm9 st.heap L (.arr e 1 g (vwb AV.p (vwb (PV.int .i64) zs)))) L=.arr e 1 g (vwb AV.p (vwb (PV.int .i64) zs)):=by
   rw [qg8];simp [qly]
  have:=hsr.shrink (t:=d) (m:=(vw0 l).length) hob (by simp [qgb,Env.get]);refine ⟨fun t=>?_,this.size,this.defers,?_,?_⟩
  ·have h1:=this.env t;have hsig:(St.mk (qgb (qgb st.env (some d) (.own L g 0 (vw0 l).length)) (some d) (.own L (g+1) 0 (vw0 l).length)) (qm9 (qm9 st.heap L (.arr e 1 g (vwb AV.p (vwb (PV.int .i64) zs)))) L (.arr e 1 (g+1) ((vwb AV.p (vwb (PV.int .i64) zs)).take (vw0 l).length)))).sig=(St.mk (qgb st.env (some d) (.own L (g+1) 0 (vw0 l).length)) (qm9 st.heap L (.arr e 1 (g+1) (vwb AV.p (vwb (PV.int .i64) (vw0 l)))))).sig:=by
    simp only [St.sig];rw [qg8,qg8,qg8,←vw1,←vw1,ht];funext q;simp only [qly];split <;> rfl
   rw [hsig] at h1;simp only [qgb,Env.get] at h1 ⊢;by_cases hdt:d=t
   ·rw [if_pos hdt] at h1 ⊢;exact h1
   ·rw [if_neg hdt,if_neg hdt] at h1;rw [if_neg hdt];exact h1
  ·have h1:=this.hr;simp only [St.sig] at h1 ⊢;rw [qg8,qg8,←vw1,←vw1,ht] at h1;rw [qg8];have e1:qly (qly (qaw st.heap) L (.arr e 1 g (vwb AV.p (vwb (PV.int .i64) zs)))) L (.arr e 1 (g+1) (vwb AV.p (vwb (PV.int .i64) (vw0 l))))=qly (qaw st.heap) L (.arr e 1 (g+1) (vwb AV.p (vwb (PV.int .i64) (vw0 l)))):=by
    funext q;simp only [qly];split <;> rfl
   rw [e1] at h1;exact h1
  ·have h1:=this.ev;simp only [St.sig] at h1 ⊢;rw [qg8,qg8,←vw1,←vw1,ht] at h1;rw [qg8];have e1:qly (qly (qaw st.heap) L (.arr e 1 g (vwb AV.p (vwb (PV.int .i64) zs)))) L (.arr e 1 (g+1) (vwb AV.p (vwb (PV.int .i64) (vw0 l))))=qly (qaw st.heap) L (.arr e 1 (g+1) (vwb AV.p (vwb (PV.int .i64) (vw0 l)))):=by
    funext q;simp only [qly];split <;> rfl
   rw [e1] at h1;exact h1
 have hput:∀{v:AV} {val:Value} {u:Upd} {inj':Inj} {w':World},HR C.X inj' (upd st.sig u) w'→Ev C.D C.X inj st.sig w inj' (upd st.sig u) w'→AR C.X inj' (upd st.sig u) w' v val →
   SR C ⟨qgb st.env (some d) v,qtu st.heap u⟩ inj' (a.put o.dst val) w':=by
  intro v val u inj' w' q1 q2 q3;have:=hs.put (u:=u) hd q1 q2 q3;rw [hdst] at this;rw [hdst];exact this
 rcases hcase with ⟨hi0,h2,_,hn0⟩ | ⟨b,cp,a0,hi,h2,h3,h4⟩
 ·have hl0:l=[]:=vti (by omega);subst hl0;have e0:vw0 ([]:List Int)=[]:=vti (by simpa using hcl);rw [h2];refine (S.none none 0 w).mono ?_;rintro e' w' ⟨rfl,rfl⟩;have hsame:upd st.sig (some (L,.arr e 1 g (vwb AV.p (vwb (PV.int .i64) []))))=st.sig:=by
   funext q;simp only [upd,qly];by_cases hq:q=L
   ·rw [if_pos hq,hq];exact hobj.symm
   ·rw [if_neg hq]
  refine h _ _ (fin inj _ _ [] rfl (by rw [e0];rfl) (hput (u:=some (L,.arr e 1 g (vwb AV.p (vwb (PV.int .i64) [])))) (by rw [hsame];exact hs.hr) (by rw [hsame];exact Ev.refl _ _ _ _) ?_)) ?_
  ·rw [hsame];subst hn;rw [e0];rw [h2] at ha1';exact ha1'
  ·exact fun _ _=>rfl
 ·obtain ⟨vs,o1,o2,o3,o4⟩:=hs.hr.obj L _ hobj;have ha0:a0=some ⟨b,0,none⟩:=by
   rcases h4 with ⟨h4,_⟩ | h4
   ·exact absurd rfl h4
   ·simpa using h4
  rw [h2,ha0,hn];rcases o4 with ⟨o4,_⟩ | ⟨b',c',cur,i1,i2,i3,i4,i5,i6,i7⟩
  ·rw [hi] at o4;cases o4
  rw [hi] at i1;cases i1;have hb:b < w.heap.size:=(Array.getElem?_eq_some_iff.1 i3).1;have hvs:=q0x o1;have hone:∀l:List Int,∀v∈l.map (Value.int .i64),v.oneCell'=true:=fun l v hv=>by obtain ⟨x,_,rfl⟩:=List.mem_map.1 hv;rfl
  refine (S.rows b 0 (cp - 0) l w ?_ (by omega) (by omega)).mono ?_
  ·intro j hj;have hj':j < l.length:=by simpa using hj
   have hcj:cur[j]?=some (Value.int .i64 l[j]):=by
    have h5:(cur.toList.take ((vwb AV.p (vwb (PV.int .i64) l)).length * 1))[j]?=vs[j]?:=by rw [i7,hvs,qgf (hone l)]
    rw [vtv,if_pos (by simpa using hj'),vss] at h5;rw [h5,hvs,List.getElem?_map,List.getElem?_eq_getElem hj'];rfl
   have hr:l.toArray[j]! = l[j]:=by rw [getElem!_pos _ j (by simpa using hj')];simp
   rw [hr];refine ⟨?_,?_⟩
   ·simp only [World.cell?,i3,Nat.zero_add];simpa using hcj
   ·simp [World.frozen?,i3]
  ·rintro e' w' ⟨rfl,m,rfl⟩;generalize hzs:vw0 l++List.replicate (l.length - (vw0 l).length) 0=zs;have hzl:zs.length=l.length:=by rw [←hzs,List.length_append,List.length_replicate];omega
   have hzt:zs.take (vw0 l).length=vw0 l:=by rw [←hzs,List.take_left'];rfl
   have hfl':(flat (zs.map (Value.int .i64))).toArray=(zs.toArray).map (Value.int .i64):=by
    rw [qgf (hone _)];apply Array.ext';simp
   have hw:Sort.putRow (Value.int .i64) (Sort.ahead w m) b 0 zs.toArray=Sort.grow (Sort.putRow id (Sort.ahead w m) b 0 (flat (zs.map (Value.int .i64))).toArray) #[]:=by
    rw [qnm,←hfl',Sort.grow_empty]
   rw [hw];obtain ⟨hH,hE⟩:=HR.rows hs.hr (D:=C.D) (m:=m) (os:=#[]) hobj hi (by simp [hzl]) (qwn zs)
    (fun v hv=>by obtain ⟨i,_,rfl⟩:=List.mem_map.1 hv;rfl) (by rw [qgf (hone _)];exact hone _)
   refine h _ _ (fin inj _ _ zs hzl hzt (hput (u:=some (L,.arr e 1 g (vwb AV.p (vwb (PV.int .i64) zs)))) hH hE ?_)) ?_
   ·refine ⟨⟨_,_,_,rfl⟩,fun oo hoo=>?_⟩;have hoo':oo=.arr e 1 g (vwb AV.p (vwb (PV.int .i64) zs)):=by rw [←hoo];simp [upd,qly]
    subst hoo';refine ⟨Nat.le_refl _,fun _ e' sz' es' heq=>?_⟩;cases heq;refine ⟨by simp [hzl];omega,.inr ⟨b,cp,some ⟨b,0,none⟩,hi,rfl,by omega,.inr (by simp)⟩⟩
   ·intro b' hb';have hne:b≠b':=fun e=>hb' cp (by rw [←e];exact hi)
    simp only [Sort.grow_empty,Sort.putRow,Sort.mapBlock,Array.getElem?_modify,if_neg hne,Sort.ahead]
theorem vmh {ops:Array Oper} {o:Oper} {rest:List Oper} {f:Operand} {args:Array Operand} {ats:Array TypeId} {k:FuncId} {e g n L d:Nat}
  (S:CptI C.P k) {l l':List Int} (hl':vw0 l=l') (hl:l.length≤1000000000000)
  (ho:o.op=.call ⟨.value f,args,ats⟩) (hg:qbk ops st.env o=some true) (hd:qcu C.N o=true) (hdst:o.dst=some d)
  (hk:qbp st.env f args.toList=some (k,[.own L g 0 n]))
  (hobj:qaw st.heap L=.arr e 1 g (vwb AV.p (vwb (PV.int .i64) l))) (hn:n=l.length)
  (h:AL C ops rest Q ⟨qgb st.env (some d) (.own L (g+1) 0 l'.length),qm9 st.heap L (.arr e 1 (g+1) (vwb AV.p (vwb (PV.int .i64) l')))⟩):AL C ops (o :: rest) Q st:=by
 intro inj a w hs;simp only [wpList,qdg hs hg,if_true];exact .inl (q79 S hl' hl ho hd hdst hk hobj hn hs fun a' w' h1 _=>h inj a' w' h1)
def vf8 (l:List Int):Option (List Int):=if l.length≤1000000000000 then some (vw0 l) else none
theorem q1a {l l':List Int} (h:vf8 l=some l'):l'.length≤l.length:=by
 unfold vf8 at h;split at h
 ·cases h;exact qzi l
 ·cases h
theorem zCI {ops:Array Oper} {o:Oper} {rest:List Oper} {f:Operand} {args:Array Operand} {ats:Array TypeId} {k:FuncId} {e g n L d:Nat}
  (S:CptI C.P k) {l l':List Int} (hl:vf8 l=some l') (h:AL C ops rest Q ⟨qgb st.env (some d) (.own L (g+1) 0 l'.length),qm9 st.heap L (.arr e 1 (g+1) (vwb AV.p (vwb (PV.int .i64) l')))⟩)
  (ho:o.op=.call ⟨.value f,args,ats⟩:=by rfl) (hg:qbk ops st.env o=some true:=by first | exact qbf rfl | exact qga rfl rfl (by exact rfl) (by exact rfl)) (hd:qcu C.N o=true:=by rfl) (hdst:o.dst=some d:=by rfl)
  (hk:qbp st.env f args.toList=some (k,[.own L g 0 n]):=by simp only [go_sem,seval, *];first | exact ⟨rfl,rfl,rfl⟩ | exact rfl)
  (hobj:qaw st.heap L=.arr e 1 g (List.map AV.p (List.map (PV.int .i64) l)):=by simp only [go_sem,seval, *];exact rfl) (hn:n=l.length:=by rfl):AL C ops (o :: rest) Q st:=by
 unfold vf8 at hl;split at hl
 ·exact vmh S (vwz hl) (by assumption) ho hg hd hdst hk hobj hn h
 ·cases hl
end Go.Ab
namespace Go.Ab
open Go
variable {C:Cx} {Q:Exit→St→Prop} {st:St}
theorem vdx {ops:Array Oper} {o:Oper} {rest:List Oper} {f:Operand} {args:Array Operand} {ats:Array TypeId} {k:FuncId} {e sz by' g g0 n L K:Nat} {xs:List PV}
  (S:Cln C.P k e sz by') (hw:¬C.D)
  (ho:o.op=.call ⟨.value f,args,ats⟩) (hgd:qbk ops st.env o=some true) (hd:qcu C.N o=true)
  (hk:qbp st.env f args.toList=some (k,[.own L g0 0 n]))
  (hobj:qaw st.heap L=.arr e sz g0 (xs.map AV.p)) (hnn:n=xs.length)
  (hel:(xs.map AV.p).all (qg7 sz)=true) (hn:xs.length≤maxLen) (hby:xs.length * by'≤140737488355328) (hg:qaw st.heap K=.dead g)
  (h:AL C ops rest Q ⟨qgb st.env o.dst (.own K (g+1) 0 n),qm9 st.heap K (.arr e sz (g+1) (xs.map AV.p))⟩):AL C ops (o :: rest) Q st:=by
 intro inj a w hs;simp only [wpList,qdg hs hgd,if_true];refine .inl ?_;obtain ⟨vs,hrun,hars⟩:=ql9 hs ho S.body hk;unfold Oper.wp;rw [hrun];simp only [Oper.upon];obtain ⟨v1,r1,rfl,ha1,rfl⟩:=hars;obtain ⟨⟨sa,sn,sc,rfl⟩,hown⟩:=ha1;obtain ⟨hge,hown⟩:=hown _ hobj;obtain ⟨hle,hcase⟩:=hown rfl e sz _ rfl;obtain ⟨us,o1,o2,o3,o4⟩:=hs.hr.obj L _ hobj;have hlen:us.length=xs.length:=by have:=o1.length;simpa using this.symm
 have hfl:(flat us).length=xs.length * sz:=by rw [qbe o2,hlen]
 have fin:∀v w',World.ownsRow w' w.heap.size e sz v xs.length (flat us)→RowKit.Below w.heap.size w w'→∃inj',SR C ⟨qgb st.env o.dst (.own K (g+1) 0 n),qm9 st.heap K (.arr e sz (g+1) (xs.map AV.p))⟩ inj' (a.put o.dst v) w':=by
  intro v w' hrow hbel;have hfz:∀a:Addr,a.block < w.heap.size→w'.frozen? a=w.frozen? a:=fun a ha=>by unfold World.frozen?;rw [hbel.block _ ha]
  obtain ⟨_,hrow⟩:=hrow;rcases hrow with ⟨rfl,hz⟩ | ⟨gb,cp,cur,rfl,hbase,hgb,q1,q2,q3,q4⟩
  ·have hxs:xs=[]:=List.length_eq_zero_iff.1 hz;have hup:=hs.hr.update (D:=C.D) (w':=w') (l:=K) (o:=.dead g) (o':=.arr e sz (g+1) (xs.map AV.p)) (x:=none) hg hbel.os hbel.tape hbel.output (fun hd=>absurd hd hw) hbel.size hfz
    (fun b hb _=>hbel.block b hb) (fun b1 c1 h1=>by cases h1) ⟨by simp [AO.gen],fun _ he=>by simp [AO.gen] at he⟩
   obtain ⟨hev,hhr⟩:=hup;refine ⟨_,hs.put (u:=some (K,.arr e sz (g+1) (xs.map AV.p))) hd (hhr ⟨us,ARs.ev hev hs.hr.xlt _ us o1,o2,o3,.inl ⟨by simp,by rw [hxs];rfl⟩⟩) hev ?_⟩;refine ⟨⟨_,_,_,rfl⟩,fun oo hoo=>?_⟩;have:oo=.arr e sz (g+1) (xs.map AV.p):=by rw [←hoo];exact qeg _ _ _
   subst this;exact ⟨Nat.le_refl _,fun _ e1 sz1 es1 he=>by cases he;exact ⟨by simp [hnn],.inl ⟨by simp,rfl,rfl,by rw [hnn];exact hz⟩⟩⟩
  ·have hup:=hs.hr.update (D:=C.D) (w':=w') (l:=K) (o:=.dead g) (o':=.arr e sz (g+1) (xs.map AV.p)) (x:=some (gb,cp)) hg hbel.os hbel.tape hbel.output (fun hd=>absurd hd hw) hbel.size hfz
    (fun b hb _=>hbel.block b hb) (fun b1 c1 h1=>by cases h1;exact .inl hbase) ⟨by simp [AO.gen],fun _ he=>by simp [AO.gen] at he⟩
   obtain ⟨hev,hhr⟩:=hup;have hH:=hhr ⟨us,ARs.ev hev hs.hr.xlt _ us o1,o2,o3,.inr ⟨gb,cp,cur,by simp,fun hX=>by have:=hs.hr.xlt gb hX;omega,hgb,by simpa using q1,q2,q3,by simpa using q4⟩⟩;refine ⟨_,hs.put (u:=some (K,.arr e sz (g+1) (xs.map AV.p))) hd hH hev ?_⟩;have hown:vgj (fun q=>if q=K then some (gb,cp) else inj q) (qly st.sig K (.arr e sz (g+1) (xs.map AV.p))) K (g+1) 0 n (.slice (some ⟨gb,0,none⟩) xs.length cp):=by
    rw [hnn];exact ql7 (qeg _ _ _) (if_pos rfl) (by simp) q1
   exact hown
 rcases hcase with ⟨hi0,h2,_,hn0⟩ | ⟨b,cp,a0,hi,h2,h3,h4⟩
 ·have hx0:xs.length=0:=by omega
  rw [h2];refine (S.nil _ _ w).mono ?_;rintro e' w' ⟨rfl,rfl⟩;have hu:us=[]:=vti (by omega);obtain ⟨inj',hsr⟩:=fin _ _ (by rw [hx0,hu];exact ⟨by simp [flat],.inl ⟨rfl,rfl⟩⟩) (RowKit.Below.refl _ _);exact h inj' _ _ hsr
 ·have ha0:a0=some ⟨b,0,none⟩:=by
   rcases h4 with ⟨h4,_⟩ | h4
   ·exact absurd rfl h4
   ·simpa using h4
  rw [h2,ha0,hnn];rcases o4 with ⟨o4,_⟩ | ⟨b',c',cur,i1,i2,i3,i4,i5,i6,i7⟩
  ·rw [hi] at o4;cases o4
  rw [hi] at i1;cases i1;refine (S.ptr b 0 _ _ (flat us) w hfl hn hby ?_ o3).mono ?_
  ·intro j u hj;have hj2:(cur.toList.take ((xs.map AV.p).length * sz))[j]?=some u:=by rw [i7];exact hj
   have hlt:j < (xs.map AV.p).length * sz:=by
    have:=(List.getElem?_eq_some_iff.1 hj2).1;rw [List.length_take] at this;omega
   rw [vtv,if_pos hlt,vss] at hj2;simp only [World.cell?,i3,Nat.zero_add];simpa using hj2
  ·rintro e' w' ⟨v,rfl,h1,h2⟩;obtain ⟨inj',hsr⟩:=fin _ _ h1 h2;exact h inj' _ _ hsr
theorem zCo {ops:Array Oper} {o:Oper} {f:Operand} {args:Array Operand} {ats:Array TypeId} {rest:List Oper} {c:FuncId} {e sz by' g g0 L:Nat} {α:Type}
  (S:Cln C.P c e sz by') (k:Nat) (enc:α→PV) (l:List α) (n:Nat) (hl:l.length=n) (hn:n≤maxLen∧n * by'≤140737488355328)
  (h:AL C ops rest Q ⟨qgb st.env o.dst (.own k (g+1) 0 n),qm9 st.heap k (.arr e sz (g+1) ((l.map enc).map AV.p))⟩)
  (hw:¬C.D:=by exact id) (ho:o.op=.call ⟨.value f,args,ats⟩:=by rfl) (hgd:qbk ops st.env o=some true:=by first | exact qbf rfl | exact qga rfl rfl (by exact rfl) (by exact rfl)) (hd:qcu C.N o=true:=by rfl)
  (hc:qbp st.env f args.toList=some (c,[.own L g0 0 n]):=by simp only [go_sem,seval, *];all_goals first | exact rfl | exact ⟨rfl,rfl,rfl⟩ | exact ⟨rfl,rfl⟩)
  (hobj:qaw st.heap L=.arr e sz g0 ((l.map enc).map AV.p):=by simp only [go_sem,seval, *];all_goals exact rfl)
  (hel:((l.map enc).map AV.p).all (qg7 sz)=true:=by exact qjf _ _ _ fun _=>⟨rfl,rfl⟩)
  (hg:qaw st.heap k=.dead g:=by simp only [go_sem,seval, *];all_goals first | exact rfl | exact qsk rfl):AL C ops (o :: rest) Q st :=
 vdx S hw ho hgd hd hc hobj (by rw [vtz,hl]) hel (by rw [vtz,hl];exact hn.1) (by rw [vtz,hl];exact hn.2) hg h
end Go.Ab
namespace Go.Ab
open Go
variable {C:Cx} {Q:Exit→St→Prop} {st:St}
@[go_sem] theorem LeV_nopt (σ σ':Nat→AO) (b:Bool) (l:List PV):LeV σ σ' (if b=true then .p (.slc l) else .nils) (if b=true then .p (.slc l) else .nils)=True:=by
 cases b <;> simp [LeV,qd3]
theorem qrg {α:Type} {l t:List α} {x:α} (h:l.drop 1=t) (hx:l[0]?=some x):l=x :: t:=by
 cases l with
 | nil=>cases hx
 | cons a l =>
  cases hx;subst h;rfl
def vmi:AV→Bool
 | .p (.slc _)=>true
 | .nils=>true
 | .own _ _ _ _=>true
 | _=>false
theorem vhu (es:List PV):vmi (.p (.slc es))=true:=rfl
theorem vdy:vmi .nils=true:=rfl
theorem vhv (l g off len:Nat):vmi (.own l g off len)=true:=rfl
attribute [go_sem] vhu vdy vhv
theorem vdz {X:Nat→Prop} {inj:Inj} {σ:Nat→AO} {w:World} {x:AV} {v:Value} (h:vmi x=true) (hx:AR X inj σ w x v):∃a n c,v=.slice a n c:=by
 unfold vmi at h;split at h
 ·simp only [AR,PR] at hx;obtain ⟨a,cap,vs,rfl,_⟩:=hx;exact ⟨_,_,_,rfl⟩
 ·simp only [AR] at hx;exact ⟨_,_,_,hx⟩
 ·obtain ⟨⟨a,n,c,rfl⟩,_⟩:=hx;exact ⟨_,_,_,rfl⟩
 ·cases h
theorem vp8 {rows:List (Nat×List Value)} {y:AV} {o:Oper} {xo:Operand} {t e:TypeId} (ho:o.op=.call ⟨.builtin .len,#[xo],#[t]⟩) (hu:C.P.underlying t=some (.slice e)) (hs:vmi (ev st.env xo)=true)
  (hy:(aop.lenT C.P t (ev st.env xo)).run (qaw st.heap)=some y) :
  ∀inj a w,SR C st inj a w→qnn rows w→∃v,(∀w',qnn rows w'→(execOp a.eval o).run C.P w'=.ok (.value v) w')∧AR C.X inj st.sig w y v:=by
 intro inj a w hsr hR;have hx:=hsr.eval xo;obtain ⟨b,n,c,hv⟩:=vdz hs hx;obtain ⟨val,h1,h2⟩:=qy5 (P:=C.P) (ty:=o.type) hsr.hr hx hy;have hlen:∀(ty:TypeId) (w':World),(Builtin.len_ #[t] ty #[a.eval xo]).run C.P w'=.ok (goInt n) w':=fun ty w'=>by
  rw [hv];simp [Builtin.len_,run_underlying hu]
 rw [hlen] at h1;cases h1;refine ⟨_,fun w' _=>?_,h2⟩;obtain ⟨dst,op,ty,pos,af,gd⟩:=o;simp only at ho;subst ho;simp only [execOp,resolve,vvh,Sem.run_pure,vvf,invoke,qv7];have:(#[xo]:Array Operand).map a.eval=#[a.eval xo]:=by simp
 rw [this,hlen];simp
def q6u:AV→Bool
 | .p (.int _ _)=>true
 | _=>false
theorem vd0 (k:IntKind) (n:Int):q6u (.p (.int k n))=true:=rfl
def vd1:AV→Bool
 | .p p=>q77 p
 | _=>false
theorem vd2 (k:IntKind) (n:Int):vd1 (.p (.int k n))=true:=rfl
theorem van (b:Bool):vd1 (.p (.bool b))=true:=rfl
attribute [go_sem] vd0 vd2 van
theorem q8a {X:Nat→Prop} {inj:Inj} {σ:Nat→AO} {w w':World} {x:AV} {v:Value} (h:q6u x=true) (hx:AR X inj σ w x v):AR X inj σ w' x v:=by
 unfold q6u at h;split at h
 ·simp only [AR,PR] at hx ⊢;exact hx
 ·cases h
theorem vp9 {rows:List (Nat×List Value)} {y:AV} {o:Oper} {op:BinOp} {t yt:TypeId} {xo yo:Operand} (ho:o.op=.binOp op t xo yo yt) (h1:q6u (ev st.env xo)=true) (h2:q6u (ev st.env yo)=true)
  (hy:vkf C.P op t (ev st.env xo) (ev st.env yo)=some y) (hr:vd1 y=true) :
  ∀inj a w,SR C st inj a w→qnn rows w→∃v,(∀w',qnn rows w'→(execOp a.eval o).run C.P w'=.ok (.value v) w')∧AR C.X inj st.sig w y v:=by
 intro inj a w hsr hR;have hx1:=hsr.eval xo;have hx2:=hsr.eval yo;obtain ⟨val,q1,q2⟩:=qts (P:=C.P) (ox:=xo) (oy:=yo) hx1 hx2 hy;refine ⟨val,fun w' _=>?_,q2⟩;obtain ⟨val',r1,r2⟩:=qts (P:=C.P) (ox:=xo) (oy:=yo) (q8a (w':=w') h1 hx1) (q8a (w':=w') h2 hx2) hy;have:val=val':=by
  unfold vd1 at hr;split at hr
  ·simp only [AR] at q2 r2;exact q78 _ hr q2 r2
  ·cases hr
 subst this;obtain ⟨dst,op',ty,pos,af,gd⟩:=o;simp only at ho;subst ho;have r1':=r1;simp only [vvh] at r1';simp only [execOp,vvh];generalize Sem.run C.P (eqGuard op t xo yo (a.eval xo) (a.eval yo)) w'=r at r1' ⊢;cases r with
 | ok u w2=>simp only [vvf] at r1' ⊢;rw [r1'];rfl
 | halt x w2=>cases r1'
def vd3 (H0 H:List (Nat×AO)) (p:Nat):Prop:=∃e sz g x x',qaw H0 p=.arr e sz g [x]∧qaw H p=.arr e sz g [x']
def vd4 (H0 H:List (Nat×AO)):List Nat→Prop
 | []=>True
 | p :: ps=>vd3 H0 H p∧vd4 H0 H ps
theorem qwv {H0 H:List (Nat×AO)}:∀{ps:List Nat},vd4 H0 H ps→∀p∈ps,vd3 H0 H p
 | [],_,_,hp=>by cases hp
 | q :: ps,h,p,hp=>by
  rcases List.mem_cons.1 hp with rfl | hp
  ·exact h.1
  ·exact qwv h.2 p hp
theorem q1b {H0 H:List (Nat×AO)} {p e sz g:Nat} {x x':AV} (h1:qaw H0 p=.arr e sz g [x]:=by simp only [go_sem,seval, *];all_goals exact zF) (h2:qaw H p=.arr e sz g [x']:=by simp only [go_sem,seval, *];all_goals exact zF):vd3 H0 H p:=⟨_,_,_,_,_,h1,h2⟩
theorem vhw {Ls:List Nat} {rows:List (Nat×List Value)} {L:Nat} {oL:AO} {inj:Inj} {a:Act} {w w':World} (hs:SR C st inj a w) (hk:∀r∈rows,LkR C Ls r) (hR:qnn rows w)
  (hL:qaw st.heap L=oL) (hal:oL.alive=true) (hb:∀p∈Ls,vd3 C.H0 st.heap p) (hn:L ∉ Ls)
  (hsame:∀b',(∀c,inj L≠some (b',c))→w'.heap[b']?=w.heap[b']?):qnn rows w':=by
 intro r hr j v hv;obtain ⟨p,hp,e,sz,g,x,c,u,k1,k2,k3,k4⟩:=hk r hr;obtain ⟨e',sz',g',y,y',b1,b2⟩:=hb p hp;have hi:inj p=C.inj0 p:=by
  have:=hs.ev.objs p;exact (this.2 (by rw [show st.sig p=qaw st.heap p from rfl,b2];rfl) (by rw [show st.sig p=qaw st.heap p from rfl,b1,b2];rfl)).1
 have hne:∀c',inj L≠some (r.1,c'):=by
  intro c' hc;have hp2:inj p=some (r.1,c):=by rw [hi,k2]
  have hpa:AO.alive (.arr e' sz' g' [y'])=true:=rfl;exact hn (by rw [←hs.hr.inj1 p L _ _ r.1 c c' b2 hL hpa hal hp2 hc];exact hp)
 have h1:=hR r hr j v hv;have h2:=hsame r.1 hne;simp only [World.cell?] at h1 ⊢;rw [h2];exact h1
theorem vqa {ops:Array Oper} {rows:List (Nat×List Value)} {Ls:List Nat} {fuel:Nat} {listed:Array Bool} {i:Nat} {o:Oper} {f:Operand} {args:Array Operand} {ats:Array TypeId} {k:FuncId} {e g n L d:Nat} {l l':List Int}
  (hi:ops[i]?=some o) (hr:Region.ready .any ops listed=[i]) (hk:∀r∈rows,LkR C Ls r)
  (S:CptI C.P k) (hl':vw0 l=l') (hl:l.length≤1000000000000)
  (ho:o.op=.call ⟨.value f,args,ats⟩) (hg:o.guard=none) (hd:qcu C.N o=true) (hdst:o.dst=some d)
  (hc:qbp st.env f args.toList=some (k,[.own L g 0 n]))
  (hobj:qaw st.heap L=.arr e 1 g (vwb AV.p (vwb (PV.int .i64) l))) (hn:n=l.length) (hb:∀p∈Ls,vd3 C.H0 st.heap p) (hnL:L ∉ Ls)
  (h:HJ C ops rows Q fuel (listed.setIfInBounds i true) ⟨qgb st.env (some d) (.own L (g+1) 0 l'.length),qm9 st.heap L (.arr e 1 (g+1) (vwb AV.p (vwb (PV.int .i64) l')))⟩):HJ C ops rows Q (fuel+1) listed st:=by
 intro inj a w hs hR;refine wpAnyH_all hr (by simp) ?_;intro j hj;obtain rfl:=List.mem_singleton.1 hj;unfold wpOp;simp only [hi];have hw:Region.wanted o (yielded ops a.tmps)=true:=by simp [Region.wanted,hg]
 rw [if_pos hw];refine .inl (q79 S hl' hl ho hd hdst hc hobj hn hs fun a' w' h1 h2=>?_);have:=vhw hs hk hR hobj rfl hb hnL h2;exact ⟨this,h inj a' w' h1 this⟩
theorem zHc {ops:Array Oper} {rows:List (Nat×List Value)} {Ls:List Nat} {fuel:Nat} {listed listed':Array Bool} {o:Oper} {f:Operand} {args:Array Operand} {ats:Array TypeId} {k:FuncId} {e g n L d:Nat} {l l':List Int} {st':St}
  (S:CptI C.P k) (i:Nat) (hk:∀r∈rows,LkR C Ls r) (hl:vf8 l=some l') (h:HJ C ops rows Q fuel listed' st')
  (hi:ops[i]?=some o:=by rfl) (hr:Region.ready .any ops listed=[i]:=by kernel_rfl)
  (ho:o.op=.call ⟨.value f,args,ats⟩:=by rfl) (hg:o.guard=none:=by rfl) (hd:qcu C.N o=true:=by rfl) (hdst:o.dst=some d:=by rfl)
  (hc:qbp st.env f args.toList=some (k,[.own L g 0 n]):=by simp only [go_sem,seval, *];first | exact ⟨rfl,rfl,rfl⟩ | exact rfl)
  (hobj:qaw st.heap L=.arr e 1 g (List.map AV.p (List.map (PV.int .i64) l)):=by simp only [go_sem,seval, *];exact rfl) (hn:n=l.length:=by rfl)
  (hb:vd4 C.H0 st.heap Ls:=by first | exact trivial | exact ⟨q1b,trivial⟩ | exact ⟨q1b,q1b,trivial⟩) (hnL:L ∉ Ls:=by decide)
  (hlist:listed.setIfInBounds i true=listed':=by rfl)
  (hst:(⟨qgb st.env (some d) (.own L (g+1) 0 l'.length),qm9 st.heap L (.arr e 1 (g+1) (List.map AV.p (List.map (PV.int .i64) l')))⟩:St)=st':=by rfl):HJ C ops rows Q (fuel+1) listed st:=by
 subst hlist;subst hst;unfold vf8 at hl;split at hl
 ·exact vqa hi hr hk S (vwz hl) (by assumption) ho hg hd hdst hc hobj hn (qwv hb) hnL h
 ·cases hl
theorem zHb {ops:Array Oper} {rows:List (Nat×List Value)} {fuel:Nat} {listed listed':Array Bool} {o:Oper} {t e:TypeId} {xo:Operand} {y:AV} {st':St}
  (i:Nat) (hu:C.P.underlying t=some (.slice e)) (h:HJ C ops rows Q fuel listed' st') (hs:Region.noSelect ops=true:=by kernel_rfl) (hi:ops[i]?=some o:=by rfl) (ho:o.op=.call ⟨.builtin .len,#[xo],#[t]⟩:=by rfl)
  (hf:Region.free .any ops listed i=true:=by kernel_rfl) (hr:(Region.ready .any ops listed).contains i=true:=by kernel_rfl) (hg:o.guard=none:=by rfl) (hd:qcu C.N o=true:=by rfl)
  (hl:vmi (ev st.env xo)=true:=by simp only [go_sem,seval, *];done) (hy:(aop.lenT C.P t (ev st.env xo)).run (qaw st.heap)=some y:=by simp only [go_sem,seval, *];all_goals exact zF)
  (hlist:listed.setIfInBounds i true=listed':=by rfl) (hst:(⟨qgb st.env o.dst y,st.heap⟩:St)=st':=by rfl):HJ C ops rows Q (fuel+1) listed st:=by
 subst hlist;subst hst;exact qwu hi hs hf hr hg hd (vp8 ho hu hl hy) h
theorem zHq {ops:Array Oper} {rows:List (Nat×List Value)} {fuel:Nat} {listed listed':Array Bool} {o:Oper} {op:BinOp} {t yt:TypeId} {xo yo:Operand} {y:AV} {st':St}
  (i:Nat) (h:HJ C ops rows Q fuel listed' st') (hs:Region.noSelect ops=true:=by kernel_rfl) (hi:ops[i]?=some o:=by rfl) (ho:o.op=.binOp op t xo yo yt:=by rfl)
  (hf:Region.free .any ops listed i=true:=by kernel_rfl) (hr:(Region.ready .any ops listed).contains i=true:=by kernel_rfl) (hg:o.guard=none:=by rfl) (hd:qcu C.N o=true:=by rfl)
  (h1:q6u (ev st.env xo)=true:=by simp only [go_sem,seval, *];done) (h2:q6u (ev st.env yo)=true:=by simp only [go_sem,seval, *];done) (hy:vkf C.P op t (ev st.env xo) (ev st.env yo)=some y:=by simp only [go_sem,seval, *];all_goals exact zF)
  (hrig:vd1 y=true:=by rfl)
  (hlist:listed.setIfInBounds i true=listed':=by rfl) (hst:(⟨qgb st.env o.dst y,st.heap⟩:St)=st':=by rfl):HJ C ops rows Q (fuel+1) listed st:=by
 subst hlist;subst hst;exact qwu hi hs hf hr hg hd (vp9 ho h1 h2 hy hrig) h
end Go.Ab
