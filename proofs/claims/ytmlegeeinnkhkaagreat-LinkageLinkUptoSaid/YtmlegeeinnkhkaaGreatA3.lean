/- -/
import Derived.Lib.SlicesCompact
import Derived.Test.YtmlegeeinnkhkaaGreatA2
set_option linter.unusedVariables false
set_option linter.unusedSimpArgs false
open Array renaming getElem?_toList→vze
open Go.Lib renaming compact→v3r
open List renaming eq_nil_of_length_eq_zero→vz2,getElem?_take→v0f,length_map→v0j,map→v2v,map_take→v3s
open Option.some renaming inj→v3q
open Go.Result renaming andThen_ok→v1z
open Go.Sem renaming run_bind→v11
noncomputable section
namespace Go.Ab
open Go
variable {C:Cx} {Q:Exit→St→Prop} {st:St}
structure CptI (P:Program) (k:FuncId):Prop where
 body:HasBody P k
 rows:∀(blk off cap:Nat) (zs:List Int) (w:World),Sort.Holds (Value.int .i64) w blk off zs.toArray→zs.length≤9223372036854775807→zs.length≤cap →
  Calls P k #[.slice (some ⟨blk,off,none⟩) zs.length cap] w fun e w' =>
   e=.returned (.slice (some ⟨blk,off,none⟩) (v3r zs).length cap)∧∃n,w'=Sort.putRow (Value.int .i64) (Sort.ahead w n) blk off (v3r zs++List.replicate (zs.length - (v3r zs).length) 0).toArray
 none:∀(a:Option Addr) (cap:Nat) (w:World),Calls P k #[.slice a 0 cap] w fun e w'=>e=.returned (.slice a 0 cap)∧w'=w
theorem q4v (l:List Int):(v3r l).length≤l.length:=by
 unfold v3r Lib.compactUpTo;rw [v0j];have:=List.length_filter_le (Lib.keeps l.toArray) (List.range l.length);rw [List.length_range] at this;exact this
theorem vd5 {o:Oper} {f:Operand} {args:Array Operand} {ats:Array TypeId} {k:FuncId} {e g n L d:Nat}
  (S:CptI C.P k) {l l':List Int} (hl':v3r l=l') (hl:l.length≤1000000000000)
  (ho:o.op=.call ⟨.value f,args,ats⟩) (hd:qdm C.N o=true) (hdst:o.dst=some d)
  (hk:qby st.env f args.toList=some (k,[.own L g 0 n]))
  (hobj:qa4 st.heap L=.arr e 1 g (v2v AV.p (v2v (PV.int .i64) l))) (hn:n=l.length)
  {inj:Inj} {a:Act} {w:World} (hs:SR C st inj a w) {K:Act→World→Prop} {E:Exit→Act→World→Prop}
  (h:∀a' w',SR C ⟨qig st.env (some d) (.own L (g+1) 0 l'.length),qqv st.heap L (.arr e 1 (g+1) (v2v AV.p (v2v (PV.int .i64) l')))⟩ inj a' w'→(∀b',(∀c,inj L≠some (b',c))→w'.heap[b']?=w.heap[b']?)→K a' w'):o.wp C.P a w K E:=by
 subst hl';obtain ⟨vs,hrun,hars⟩:=qpw hs ho S.body hk;unfold Oper.wp;rw [hrun];simp only [Oper.upon];obtain ⟨v1,r1,rfl,ha1,rfl⟩:=hars;have ha1':=ha1;obtain ⟨⟨sa,sn,sc,rfl⟩,hown⟩:=ha1;obtain ⟨hge,hown⟩:=hown _ hobj;obtain ⟨hle,hcase⟩:=hown rfl e 1 _ rfl;have hcl:=q4v l
 -- the state behind the call,then cut
 have fin:∀(inj':Inj) (a':Act) (w':World) (zs:List Int),zs.length=l.length→zs.take (v3r l).length=v3r l →
   SR C ⟨qig st.env (some d) (.own L g 0 (v3r l).length),qqv st.heap L (.arr e 1 g (v2v AV.p (v2v (PV.int .i64) zs)))⟩ inj' a' w' →
   SR C ⟨qig st.env (some d) (.own L (g+1) 0 (v3r l).length),qqv st.heap L (.arr e 1 (g+1) (v2v AV.p (v2v (PV.int .i64) (v3r l))))⟩ inj' a' w':=by
  intro inj' a' w' zs hz ht hsr;have hob:qa4 (qqv st.heap L (.arr e 1 g (v2v AV.p (v2v (PV.int .i64) zs)))) L=.arr e 1 g (v2v AV.p (v2v (PV.int .i64) zs)):=by
   rw [qjo];simp [qpm]
  have:=hsr.shrink (t:=d) (m:=(v3r l).length) hob (by simp [qig,Env.get]);refine ⟨fun t=>?_,this.size,this.defers,?_,?_⟩
  ·have h1:=this.env t;have hsig:(St.mk (qig (qig st.env (some d) (.own L g 0 (v3r l).length)) (some d) (.own L (g+1) 0 (v3r l).length)) (qqv (qqv st.heap L (.arr e 1 g (v2v AV.p (v2v (PV.int .i64) zs)))) L (.arr e 1 (g+1) ((v2v AV.p (v2v (PV.int .i64) zs)).take (v3r l).length)))).sig=(St.mk (qig st.env (some d) (.own L (g+1) 0 (v3r l).length)) (qqv st.heap L (.arr e 1 (g+1) (v2v AV.p (v2v (PV.int .i64) (v3r l)))))).sig:=by
    simp only [St.sig];rw [qjo,qjo,qjo,←v3s,←v3s,ht];funext q;simp only [qpm];split <;> rfl
   rw [hsig] at h1;simp only [qig,Env.get] at h1 ⊢;by_cases hdt:d=t
   ·rw [if_pos hdt] at h1 ⊢;exact h1
   ·rw [if_neg hdt,if_neg hdt] at h1;rw [if_neg hdt];exact h1
  ·have h1:=this.hr;simp only [St.sig] at h1 ⊢;rw [qjo,qjo,←v3s,←v3s,ht] at h1;rw [qjo];have e1:qpm (qpm (qa4 st.heap) L (.arr e 1 g (v2v AV.p (v2v (PV.int .i64) zs)))) L (.arr e 1 (g+1) (v2v AV.p (v2v (PV.int .i64) (v3r l))))=qpm (qa4 st.heap) L (.arr e 1 (g+1) (v2v AV.p (v2v (PV.int .i64) (v3r l)))):=by
    funext q;simp only [qpm];split <;> rfl
   rw [e1] at h1;exact h1
  ·have h1:=this.ev;simp only [St.sig] at h1 ⊢;rw [qjo,qjo,←v3s,←v3s,ht] at h1;rw [qjo];have e1:qpm (qpm (qa4 st.heap) L (.arr e 1 g (v2v AV.p (v2v (PV.int .i64) zs)))) L (.arr e 1 (g+1) (v2v AV.p (v2v (PV.int .i64) (v3r l))))=qpm (qa4 st.heap) L (.arr e 1 (g+1) (v2v AV.p (v2v (PV.int .i64) (v3r l)))):=by
    funext q;simp only [qpm];split <;> rfl
   rw [e1] at h1;exact h1
 have hput:∀{v:AV} {val:Value} {u:Upd} {inj':Inj} {w':World},HR C.X inj' (upd st.sig u) w'→Ev C.D C.X inj st.sig w inj' (upd st.sig u) w'→AR C.X inj' (upd st.sig u) w' v val →
   SR C ⟨qig st.env (some d) v,qyu st.heap u⟩ inj' (a.put o.dst val) w':=by
  intro v val u inj' w' q1 q2 q3;have:=hs.put (u:=u) hd q1 q2 q3;rw [hdst] at this;rw [hdst];exact this
 rcases hcase with ⟨hi0,h2,_,hn0⟩ | ⟨b,cp,a0,hi,h2,h3,h4⟩
 ·have hl0:l=[]:=vz2 (by omega);subst hl0;have e0:v3r ([]:List Int)=[]:=vz2 (by simpa using hcl);rw [h2];refine (S.none none 0 w).mono ?_;rintro e' w' ⟨rfl,rfl⟩;have hsame:upd st.sig (some (L,.arr e 1 g (v2v AV.p (v2v (PV.int .i64) []))))=st.sig:=by
   funext q;simp only [upd,qpm];by_cases hq:q=L
   ·rw [if_pos hq,hq];exact hobj.symm
   ·rw [if_neg hq]
  refine h _ _ (fin inj _ _ [] rfl (by rw [e0];rfl) (hput (u:=some (L,.arr e 1 g (v2v AV.p (v2v (PV.int .i64) [])))) (by rw [hsame];exact hs.hr) (by rw [hsame];exact Ev.refl _ _ _ _) ?_)) ?_
  ·rw [hsame];subst hn;rw [e0];rw [h2] at ha1';exact ha1'
  ·exact fun _ _=>rfl
 ·obtain ⟨vs,o1,o2,o3,o4⟩:=hs.hr.obj L _ hobj;have ha0:a0=some ⟨b,0,none⟩:=by
   rcases h4 with ⟨h4,_⟩ | h4
   ·exact absurd rfl h4
   ·simpa using h4
  rw [h2,ha0,hn];rcases o4 with ⟨o4,_⟩ | ⟨b',c',cur,i1,i2,i3,i4,i5,i6,i7⟩
  ·rw [hi] at o4;cases o4
  rw [hi] at i1;cases i1;have hb:b < w.heap.size:=(Array.getElem?_eq_some_iff.1 i3).1;have hvs:=q6h o1;have hone:∀l:List Int,∀v∈l.map (Value.int .i64),v.oneCell'=true:=fun l v hv=>by obtain ⟨x,_,rfl⟩:=List.mem_map.1 hv;rfl
  refine (S.rows b 0 (cp - 0) l w ?_ (by omega) (by omega)).mono ?_
  ·intro j hj;have hj':j < l.length:=by simpa using hj
   have hcj:cur[j]?=some (Value.int .i64 l[j]):=by
    have h5:(cur.toList.take ((v2v AV.p (v2v (PV.int .i64) l)).length * 1))[j]?=vs[j]?:=by rw [i7,hvs,qil (hone l)]
    rw [v0f,if_pos (by simpa using hj'),vze] at h5;rw [h5,hvs,List.getElem?_map,List.getElem?_eq_getElem hj'];rfl
   have hr:l.toArray[j]! = l[j]:=by rw [getElem!_pos _ j (by simpa using hj')];simp
   rw [hr];refine ⟨?_,?_⟩
   ·simp only [World.cell?,i3,Nat.zero_add];simpa using hcj
   ·simp [World.frozen?,i3]
  ·rintro e' w' ⟨rfl,m,rfl⟩;generalize hzs:v3r l++List.replicate (l.length - (v3r l).length) 0=zs;have hzl:zs.length=l.length:=by rw [←hzs,List.length_append,List.length_replicate];omega
   have hzt:zs.take (v3r l).length=v3r l:=by rw [←hzs,List.take_left'];rfl
   have hfl':(flat (zs.map (Value.int .i64))).toArray=(zs.toArray).map (Value.int .i64):=by
    rw [qil (hone _)];apply Array.ext';simp
   have hw:Sort.putRow (Value.int .i64) (Sort.ahead w m) b 0 zs.toArray=Sort.grow (Sort.putRow id (Sort.ahead w m) b 0 (flat (zs.map (Value.int .i64))).toArray) #[]:=by
    rw [qq8,←hfl',Sort.grow_empty]
   rw [hw];obtain ⟨hH,hE⟩:=HR.rows hs.hr (D:=C.D) (m:=m) (os:=#[]) hobj hi (by simp [hzl]) (q1j zs)
    (fun v hv=>by obtain ⟨i,_,rfl⟩:=List.mem_map.1 hv;rfl) (by rw [qil (hone _)];exact hone _)
   refine h _ _ (fin inj _ _ zs hzl hzt (hput (u:=some (L,.arr e 1 g (v2v AV.p (v2v (PV.int .i64) zs)))) hH hE ?_)) ?_
   ·refine ⟨⟨_,_,_,rfl⟩,fun oo hoo=>?_⟩;have hoo':oo=.arr e 1 g (v2v AV.p (v2v (PV.int .i64) zs)):=by rw [←hoo];simp [upd,qpm]
    subst hoo';refine ⟨Nat.le_refl _,fun _ e' sz' es' heq=>?_⟩;cases heq;refine ⟨by simp [hzl];omega,.inr ⟨b,cp,some ⟨b,0,none⟩,hi,rfl,by omega,.inr (by simp)⟩⟩
   ·intro b' hb';have hne:b≠b':=fun e=>hb' cp (by rw [←e];exact hi)
    simp only [Sort.grow_empty,Sort.putRow,Sort.mapBlock,Array.getElem?_modify,if_neg hne,Sort.ahead]
theorem vsk {ops:Array Oper} {o:Oper} {rest:List Oper} {f:Operand} {args:Array Operand} {ats:Array TypeId} {k:FuncId} {e g n L d:Nat}
  (S:CptI C.P k) {l l':List Int} (hl':v3r l=l') (hl:l.length≤1000000000000)
  (ho:o.op=.call ⟨.value f,args,ats⟩) (hg:qbq ops st.env o=some true) (hd:qdm C.N o=true) (hdst:o.dst=some d)
  (hk:qby st.env f args.toList=some (k,[.own L g 0 n]))
  (hobj:qa4 st.heap L=.arr e 1 g (v2v AV.p (v2v (PV.int .i64) l))) (hn:n=l.length)
  (h:AL C ops rest Q ⟨qig st.env (some d) (.own L (g+1) 0 l'.length),qqv st.heap L (.arr e 1 (g+1) (v2v AV.p (v2v (PV.int .i64) l')))⟩):AL C ops (o :: rest) Q st:=by
 intro inj a w hs;simp only [wpList,qef hs hg,if_true];exact .inl (vd5 S hl' hl ho hd hdst hk hobj hn hs fun a' w' h1 _=>h inj a' w' h1)
def vma (l:List Int):Option (List Int):=if l.length≤1000000000000 then some (v3r l) else none
theorem q6u {l l':List Int} (h:vma l=some l'):l'.length≤l.length:=by
 unfold vma at h;split at h
 ·cases h;exact q4v l
 ·cases h
theorem zCI {ops:Array Oper} {o:Oper} {rest:List Oper} {f:Operand} {args:Array Operand} {ats:Array TypeId} {k:FuncId} {e g n L d:Nat}
  (S:CptI C.P k) {l l':List Int} (hl:vma l=some l') (h:AL C ops rest Q ⟨qig st.env (some d) (.own L (g+1) 0 l'.length),qqv st.heap L (.arr e 1 (g+1) (v2v AV.p (v2v (PV.int .i64) l')))⟩)
  (ho:o.op=.call ⟨.value f,args,ats⟩:=by rfl) (hg:qbq ops st.env o=some true:=by first | exact qbf rfl | exact qie rfl rfl (by exact rfl) (by exact rfl)) (hd:qdm C.N o=true:=by rfl) (hdst:o.dst=some d:=by rfl)
  (hk:qby st.env f args.toList=some (k,[.own L g 0 n]):=by simp only [go_sem,seval, *];first | exact ⟨rfl,rfl,rfl⟩ | exact rfl)
  (hobj:qa4 st.heap L=.arr e 1 g (List.map AV.p (List.map (PV.int .i64) l)):=by simp only [go_sem,seval, *];exact rfl) (hn:n=l.length:=by rfl):AL C ops (o :: rest) Q st:=by
 unfold vma at hl;split at hl
 ·exact vsk S (v3q hl) (by assumption) ho hg hd hdst hk hobj hn h
 ·cases hl
theorem vjx {ops:Array Oper} {o:Oper} {rest:List Oper} {f:Operand} {args:Array Operand} {ats:Array TypeId} {k:FuncId} {e sz by' g g0 n L K:Nat} {xs:List PV}
  (S:Cln C.P k e sz by') (hw:¬C.D)
  (ho:o.op=.call ⟨.value f,args,ats⟩) (hgd:qbq ops st.env o=some true) (hd:qdm C.N o=true)
  (hk:qby st.env f args.toList=some (k,[.own L g0 0 n]))
  (hobj:qa4 st.heap L=.arr e sz g0 (xs.map AV.p)) (hnn:n=xs.length)
  (hel:(xs.map AV.p).all (qjf sz)=true) (hn:xs.length≤maxLen) (hby:xs.length * by'≤140737488355328) (hg:qa4 st.heap K=.dead g)
  (h:AL C ops rest Q ⟨qig st.env o.dst (.own K (g+1) 0 n),qqv st.heap K (.arr e sz (g+1) (xs.map AV.p))⟩):AL C ops (o :: rest) Q st:=by
 intro inj a w hs;simp only [wpList,qef hs hgd,if_true];refine .inl ?_;obtain ⟨vs,hrun,hars⟩:=qpw hs ho S.body hk;unfold Oper.wp;rw [hrun];simp only [Oper.upon];obtain ⟨v1,r1,rfl,ha1,rfl⟩:=hars;obtain ⟨⟨sa,sn,sc,rfl⟩,hown⟩:=ha1;obtain ⟨hge,hown⟩:=hown _ hobj;obtain ⟨hle,hcase⟩:=hown rfl e sz _ rfl;obtain ⟨us,o1,o2,o3,o4⟩:=hs.hr.obj L _ hobj;have hlen:us.length=xs.length:=by have:=o1.length;simpa using this.symm
 have hfl:(flat us).length=xs.length * sz:=by rw [qbm o2,hlen]
 have fin:∀v w',World.ownsRow w' w.heap.size e sz v xs.length (flat us)→RowKit.Below w.heap.size w w'→∃inj',SR C ⟨qig st.env o.dst (.own K (g+1) 0 n),qqv st.heap K (.arr e sz (g+1) (xs.map AV.p))⟩ inj' (a.put o.dst v) w':=by
  intro v w' hrow hbel;have hfz:∀a:Addr,a.block < w.heap.size→w'.frozen? a=w.frozen? a:=fun a ha=>by unfold World.frozen?;rw [hbel.block _ ha]
  obtain ⟨_,hrow⟩:=hrow;rcases hrow with ⟨rfl,hz⟩ | ⟨gb,cp,cur,rfl,hbase,hgb,q1,q2,q3,q4⟩
  ·have hxs:xs=[]:=List.length_eq_zero_iff.1 hz;have hup:=hs.hr.update (D:=C.D) (w':=w') (l:=K) (o:=.dead g) (o':=.arr e sz (g+1) (xs.map AV.p)) (x:=none) hg hbel.os hbel.tape hbel.output (fun hd=>absurd hd hw) hbel.size hfz
    (fun b hb _=>hbel.block b hb) (fun b1 c1 h1=>by cases h1) ⟨by simp [AO.gen],fun _ he=>by simp [AO.gen] at he⟩
   obtain ⟨hev,hhr⟩:=hup;refine ⟨_,hs.put (u:=some (K,.arr e sz (g+1) (xs.map AV.p))) hd (hhr ⟨us,ARs.ev hev hs.hr.xlt _ us o1,o2,o3,.inl ⟨by simp,by rw [hxs];rfl⟩⟩) hev ?_⟩;refine ⟨⟨_,_,_,rfl⟩,fun oo hoo=>?_⟩;have:oo=.arr e sz (g+1) (xs.map AV.p):=by rw [←hoo];exact qfu _ _ _
   subst this;exact ⟨Nat.le_refl _,fun _ e1 sz1 es1 he=>by cases he;exact ⟨by simp [hnn],.inl ⟨by simp,rfl,rfl,by rw [hnn];exact hz⟩⟩⟩
  ·have hup:=hs.hr.update (D:=C.D) (w':=w') (l:=K) (o:=.dead g) (o':=.arr e sz (g+1) (xs.map AV.p)) (x:=some (gb,cp)) hg hbel.os hbel.tape hbel.output (fun hd=>absurd hd hw) hbel.size hfz
    (fun b hb _=>hbel.block b hb) (fun b1 c1 h1=>by cases h1;exact .inl hbase) ⟨by simp [AO.gen],fun _ he=>by simp [AO.gen] at he⟩
   obtain ⟨hev,hhr⟩:=hup;have hH:=hhr ⟨us,ARs.ev hev hs.hr.xlt _ us o1,o2,o3,.inr ⟨gb,cp,cur,by simp,fun hX=>by have:=hs.hr.xlt gb hX;omega,hgb,by simpa using q1,q2,q3,by simpa using q4⟩⟩;refine ⟨_,hs.put (u:=some (K,.arr e sz (g+1) (xs.map AV.p))) hd hH hev ?_⟩;have hown:vmm (fun q=>if q=K then some (gb,cp) else inj q) (qpm st.sig K (.arr e sz (g+1) (xs.map AV.p))) K (g+1) 0 n (.slice (some ⟨gb,0,none⟩) xs.length cp):=by
    rw [hnn];exact qpu (qfu _ _ _) (if_pos rfl) (by simp) q1
   exact hown
 rcases hcase with ⟨hi0,h2,_,hn0⟩ | ⟨b,cp,a0,hi,h2,h3,h4⟩
 ·have hx0:xs.length=0:=by omega
  rw [h2];refine (S.nil _ _ w).mono ?_;rintro e' w' ⟨rfl,rfl⟩;have hu:us=[]:=vz2 (by omega);obtain ⟨inj',hsr⟩:=fin _ _ (by rw [hx0,hu];exact ⟨by simp [flat],.inl ⟨rfl,rfl⟩⟩) (RowKit.Below.refl _ _);exact h inj' _ _ hsr
 ·have ha0:a0=some ⟨b,0,none⟩:=by
   rcases h4 with ⟨h4,_⟩ | h4
   ·exact absurd rfl h4
   ·simpa using h4
  rw [h2,ha0,hnn];rcases o4 with ⟨o4,_⟩ | ⟨b',c',cur,i1,i2,i3,i4,i5,i6,i7⟩
  ·rw [hi] at o4;cases o4
  rw [hi] at i1;cases i1;refine (S.ptr b 0 _ _ (flat us) w hfl hn hby ?_ o3).mono ?_
  ·intro j u hj;have hj2:(cur.toList.take ((xs.map AV.p).length * sz))[j]?=some u:=by rw [i7];exact hj
   have hlt:j < (xs.map AV.p).length * sz:=by
    have:=(List.getElem?_eq_some_iff.1 hj2).1;rw [List.length_take] at this;omega
   rw [v0f,if_pos hlt,vze] at hj2;simp only [World.cell?,i3,Nat.zero_add];simpa using hj2
  ·rintro e' w' ⟨v,rfl,h1,h2⟩;obtain ⟨inj',hsr⟩:=fin _ _ h1 h2;exact h inj' _ _ hsr
theorem zCo {ops:Array Oper} {o:Oper} {f:Operand} {args:Array Operand} {ats:Array TypeId} {rest:List Oper} {c:FuncId} {e sz by' g g0 L:Nat} {α:Type}
  (S:Cln C.P c e sz by') (k:Nat) (enc:α→PV) (l:List α) (n:Nat) (hl:l.length=n) (hn:n≤maxLen∧n * by'≤140737488355328)
  (h:AL C ops rest Q ⟨qig st.env o.dst (.own k (g+1) 0 n),qqv st.heap k (.arr e sz (g+1) ((l.map enc).map AV.p))⟩)
  (hw:¬C.D:=by exact id) (ho:o.op=.call ⟨.value f,args,ats⟩:=by rfl) (hgd:qbq ops st.env o=some true:=by first | exact qbf rfl | exact qie rfl rfl (by exact rfl) (by exact rfl)) (hd:qdm C.N o=true:=by rfl)
  (hc:qby st.env f args.toList=some (c,[.own L g0 0 n]):=by simp only [go_sem,seval, *];all_goals first | exact rfl | exact ⟨rfl,rfl,rfl⟩ | exact ⟨rfl,rfl⟩)
  (hobj:qa4 st.heap L=.arr e sz g0 ((l.map enc).map AV.p):=by simp only [go_sem,seval, *];all_goals exact rfl)
  (hel:((l.map enc).map AV.p).all (qjf sz)=true:=by exact qk2 _ _ _ fun _=>⟨rfl,rfl⟩)
  (hg:qa4 st.heap k=.dead g:=by simp only [go_sem,seval, *];all_goals first | exact rfl | exact qxg rfl):AL C ops (o :: rest) Q st :=
 vjx S hw ho hgd hd hc hobj (by rw [v0j,hl]) hel (by rw [v0j,hl];exact hn.1) (by rw [v0j,hl];exact hn.2) hg h
@[go_sem] theorem LeV_nopt (σ σ':Nat→AO) (b:Bool) (l:List PV):LeV σ σ' (if b=true then .p (.slc l) else .nils) (if b=true then .p (.slc l) else .nils)=True:=by
 cases b <;> simp [LeV,qe8]
theorem qwc {α:Type} {l t:List α} {x:α} (h:l.drop 1=t) (hx:l[0]?=some x):l=x :: t:=by
 cases l with
 | nil=>cases hx
 | cons a l =>
  cases hx;subst h;rfl
def vsl:AV→Bool
 | .p (.slc _)=>true
 | .nils=>true
 | .own _ _ _ _=>true
 | _=>false
theorem vns (es:List PV):vsl (.p (.slc es))=true:=rfl
theorem vjy:vsl .nils=true:=rfl
theorem vnt (l g off len:Nat):vsl (.own l g off len)=true:=rfl
attribute [go_sem] vns vjy vnt
theorem vjz {X:Nat→Prop} {inj:Inj} {σ:Nat→AO} {w:World} {x:AV} {v:Value} (h:vsl x=true) (hx:AR X inj σ w x v):∃a n c,v=.slice a n c:=by
 unfold vsl at h;split at h
 ·simp only [AR,PR] at hx;obtain ⟨a,cap,vs,rfl,_⟩:=hx;exact ⟨_,_,_,rfl⟩
 ·simp only [AR] at hx;exact ⟨_,_,_,hx⟩
 ·obtain ⟨⟨a,n,c,rfl⟩,_⟩:=hx;exact ⟨_,_,_,rfl⟩
 ·cases h
theorem vwo {rows:List (Nat×List Value)} {y:AV} {o:Oper} {xo:Operand} {t e:TypeId} (ho:o.op=.call ⟨.builtin .len,#[xo],#[t]⟩) (hu:C.P.underlying t=some (.slice e)) (hs:vsl (ev st.env xo)=true)
  (hy:(aop.lenT C.P t (ev st.env xo)).run (qa4 st.heap)=some y) :
  ∀inj a w,SR C st inj a w→qq9 rows w→∃v,(∀w',qq9 rows w'→(execOp a.eval o).run C.P w'=.ok (.value v) w')∧AR C.X inj st.sig w y v:=by
 intro inj a w hsr hR;have hx:=hsr.eval xo;obtain ⟨b,n,c,hv⟩:=vjz hs hx;obtain ⟨val,h1,h2⟩:=q4h (P:=C.P) (ty:=o.type) hsr.hr hx hy;have hlen:∀(ty:TypeId) (w':World),(Builtin.len_ #[t] ty #[a.eval xo]).run C.P w'=.ok (goInt n) w':=fun ty w'=>by
  rw [hv];simp [Builtin.len_,run_underlying hu]
 rw [hlen] at h1;cases h1;refine ⟨_,fun w' _=>?_,h2⟩;obtain ⟨dst,op,ty,pos,af,gd⟩:=o;simp only at ho;subst ho;simp only [execOp,resolve,v11,Sem.run_pure,v1z,invoke,q01];have:(#[xo]:Array Operand).map a.eval=#[a.eval xo]:=by simp
 rw [this,hlen];simp
def vcp:AV→Bool
 | .p (.int _ _)=>true
 | _=>false
theorem vj0 (k:IntKind) (n:Int):vcp (.p (.int k n))=true:=rfl
def vj1:AV→Bool
 | .p p=>vd3 p
 | _=>false
theorem vj2 (k:IntKind) (n:Int):vj1 (.p (.int k n))=true:=rfl
theorem vgi (b:Bool):vj1 (.p (.bool b))=true:=rfl
attribute [go_sem] vj0 vj2 vgi
theorem vd6 {X:Nat→Prop} {inj:Inj} {σ:Nat→AO} {w w':World} {x:AV} {v:Value} (h:vcp x=true) (hx:AR X inj σ w x v):AR X inj σ w' x v:=by
 unfold vcp at h;split at h
 ·simp only [AR,PR] at hx ⊢;exact hx
 ·cases h
theorem vwp {rows:List (Nat×List Value)} {y:AV} {o:Oper} {op:BinOp} {t yt:TypeId} {xo yo:Operand} (ho:o.op=.binOp op t xo yo yt) (h1:vcp (ev st.env xo)=true) (h2:vcp (ev st.env yo)=true)
  (hy:vqk C.P op t (ev st.env xo) (ev st.env yo)=some y) (hr:vj1 y=true) :
  ∀inj a w,SR C st inj a w→qq9 rows w→∃v,(∀w',qq9 rows w'→(execOp a.eval o).run C.P w'=.ok (.value v) w')∧AR C.X inj st.sig w y v:=by
 intro inj a w hsr hR;have hx1:=hsr.eval xo;have hx2:=hsr.eval yo;obtain ⟨val,q1,q2⟩:=qys (P:=C.P) (ox:=xo) (oy:=yo) hx1 hx2 hy;refine ⟨val,fun w' _=>?_,q2⟩;obtain ⟨val',r1,r2⟩:=qys (P:=C.P) (ox:=xo) (oy:=yo) (vd6 (w':=w') h1 hx1) (vd6 (w':=w') h2 hx2) hy;have:val=val':=by
  unfold vj1 at hr;split at hr
  ·simp only [AR] at q2 r2;exact vd4 _ hr q2 r2
  ·cases hr
 subst this;obtain ⟨dst,op',ty,pos,af,gd⟩:=o;simp only at ho;subst ho;have r1':=r1;simp only [v11] at r1';simp only [execOp,v11];generalize Sem.run C.P (eqGuard op t xo yo (a.eval xo) (a.eval yo)) w'=r at r1' ⊢;cases r with
 | ok u w2=>simp only [v1z] at r1' ⊢;rw [r1'];rfl
 | halt x w2=>cases r1'
def vj3 (H0 H:List (Nat×AO)) (p:Nat):Prop:=∃e sz g x x',qa4 H0 p=.arr e sz g [x]∧qa4 H p=.arr e sz g [x']
def vj4 (H0 H:List (Nat×AO)):List Nat→Prop
 | []=>True
 | p :: ps=>vj3 H0 H p∧vj4 H0 H ps
theorem q1r {H0 H:List (Nat×AO)}:∀{ps:List Nat},vj4 H0 H ps→∀p∈ps,vj3 H0 H p
 | [],_,_,hp=>by cases hp
 | q :: ps,h,p,hp=>by
  rcases List.mem_cons.1 hp with rfl | hp
  ·exact h.1
  ·exact q1r h.2 p hp
theorem q6v {H0 H:List (Nat×AO)} {p e sz g:Nat} {x x':AV} (h1:qa4 H0 p=.arr e sz g [x]:=by simp only [go_sem,seval, *];all_goals exact zF) (h2:qa4 H p=.arr e sz g [x']:=by simp only [go_sem,seval, *];all_goals exact zF):vj3 H0 H p:=⟨_,_,_,_,_,h1,h2⟩
theorem vnu {Ls:List Nat} {rows:List (Nat×List Value)} {L:Nat} {oL:AO} {inj:Inj} {a:Act} {w w':World} (hs:SR C st inj a w) (hk:∀r∈rows,LkR C Ls r) (hR:qq9 rows w)
  (hL:qa4 st.heap L=oL) (hal:oL.alive=true) (hb:∀p∈Ls,vj3 C.H0 st.heap p) (hn:L ∉ Ls)
  (hsame:∀b',(∀c,inj L≠some (b',c))→w'.heap[b']?=w.heap[b']?):qq9 rows w':=by
 intro r hr j v hv;obtain ⟨p,hp,e,sz,g,x,c,u,k1,k2,k3,k4⟩:=hk r hr;obtain ⟨e',sz',g',y,y',b1,b2⟩:=hb p hp;have hi:inj p=C.inj0 p:=by
  have:=hs.ev.objs p;exact (this.2 (by rw [show st.sig p=qa4 st.heap p from rfl,b2];rfl) (by rw [show st.sig p=qa4 st.heap p from rfl,b1,b2];rfl)).1
 have hne:∀c',inj L≠some (r.1,c'):=by
  intro c' hc;have hp2:inj p=some (r.1,c):=by rw [hi,k2]
  have hpa:AO.alive (.arr e' sz' g' [y'])=true:=rfl;exact hn (by rw [←hs.hr.inj1 p L _ _ r.1 c c' b2 hL hpa hal hp2 hc];exact hp)
 have h1:=hR r hr j v hv;have h2:=hsame r.1 hne;simp only [World.cell?] at h1 ⊢;rw [h2];exact h1
theorem vwq {ops:Array Oper} {rows:List (Nat×List Value)} {Ls:List Nat} {fuel:Nat} {listed:Array Bool} {i:Nat} {o:Oper} {f:Operand} {args:Array Operand} {ats:Array TypeId} {k:FuncId} {e g n L d:Nat} {l l':List Int}
  (hi:ops[i]?=some o) (hr:Region.ready .any ops listed=[i]) (hk:∀r∈rows,LkR C Ls r)
  (S:CptI C.P k) (hl':v3r l=l') (hl:l.length≤1000000000000)
  (ho:o.op=.call ⟨.value f,args,ats⟩) (hg:o.guard=none) (hd:qdm C.N o=true) (hdst:o.dst=some d)
  (hc:qby st.env f args.toList=some (k,[.own L g 0 n]))
  (hobj:qa4 st.heap L=.arr e 1 g (v2v AV.p (v2v (PV.int .i64) l))) (hn:n=l.length) (hb:∀p∈Ls,vj3 C.H0 st.heap p) (hnL:L ∉ Ls)
  (h:HJ C ops rows Q fuel (listed.setIfInBounds i true) ⟨qig st.env (some d) (.own L (g+1) 0 l'.length),qqv st.heap L (.arr e 1 (g+1) (v2v AV.p (v2v (PV.int .i64) l')))⟩):HJ C ops rows Q (fuel+1) listed st:=by
 intro inj a w hs hR;refine wpAnyH_all hr (by simp) ?_;intro j hj;obtain rfl:=List.mem_singleton.1 hj;unfold wpOp;simp only [hi];have hw:Region.wanted o (yielded ops a.tmps)=true:=by simp [Region.wanted,hg]
 rw [if_pos hw];refine .inl (vd5 S hl' hl ho hd hdst hc hobj hn hs fun a' w' h1 h2=>?_);have:=vnu hs hk hR hobj rfl hb hnL h2;exact ⟨this,h inj a' w' h1 this⟩
theorem zHc {ops:Array Oper} {rows:List (Nat×List Value)} {Ls:List Nat} {fuel:Nat} {listed listed':Array Bool} {o:Oper} {f:Operand} {args:Array Operand} {ats:Array TypeId} {k:FuncId} {e g n L d:Nat} {l l':List Int} {st':St}
  (S:CptI C.P k) (i:Nat) (hk:∀r∈rows,LkR C Ls r) (hl:vma l=some l') (h:HJ C ops rows Q fuel listed' st')
  (hi:ops[i]?=some o:=by rfl) (hr:Region.ready .any ops listed=[i]:=by kernel_rfl)
  (ho:o.op=.call ⟨.value f,args,ats⟩:=by rfl) (hg:o.guard=none:=by rfl) (hd:qdm C.N o=true:=by rfl) (hdst:o.dst=some d:=by rfl)
  (hc:qby st.env f args.toList=some (k,[.own L g 0 n]):=by simp only [go_sem,seval, *];first | exact ⟨rfl,rfl,rfl⟩ | exact rfl)
  (hobj:qa4 st.heap L=.arr e 1 g (List.map AV.p (List.map (PV.int .i64) l)):=by simp only [go_sem,seval, *];exact rfl) (hn:n=l.length:=by rfl)
  (hb:vj4 C.H0 st.heap Ls:=by first | exact trivial | exact ⟨q6v,trivial⟩ | exact ⟨q6v,q6v,trivial⟩) (hnL:L ∉ Ls:=by decide)
  (hlist:listed.setIfInBounds i true=listed':=by rfl)
  (hst:(⟨qig st.env (some d) (.own L (g+1) 0 l'.length),qqv st.heap L (.arr e 1 (g+1) (List.map AV.p (List.map (PV.int .i64) l')))⟩:St)=st':=by rfl):HJ C ops rows Q (fuel+1) listed st:=by
 subst hlist;subst hst;unfold vma at hl;split at hl
 ·exact vwq hi hr hk S (v3q hl) (by assumption) ho hg hd hdst hc hobj hn (q1r hb) hnL h
 ·cases hl
theorem zHb {ops:Array Oper} {rows:List (Nat×List Value)} {fuel:Nat} {listed listed':Array Bool} {o:Oper} {t e:TypeId} {xo:Operand} {y:AV} {st':St}
  (i:Nat) (hu:C.P.underlying t=some (.slice e)) (h:HJ C ops rows Q fuel listed' st') (hs:Region.noSelect ops=true:=by kernel_rfl) (hi:ops[i]?=some o:=by rfl) (ho:o.op=.call ⟨.builtin .len,#[xo],#[t]⟩:=by rfl)
  (hf:Region.free .any ops listed i=true:=by kernel_rfl) (hr:(Region.ready .any ops listed).contains i=true:=by kernel_rfl) (hg:o.guard=none:=by rfl) (hd:qdm C.N o=true:=by rfl)
  (hl:vsl (ev st.env xo)=true:=by simp only [go_sem,seval, *];done) (hy:(aop.lenT C.P t (ev st.env xo)).run (qa4 st.heap)=some y:=by simp only [go_sem,seval, *];all_goals exact zF)
  (hlist:listed.setIfInBounds i true=listed':=by rfl) (hst:(⟨qig st.env o.dst y,st.heap⟩:St)=st':=by rfl):HJ C ops rows Q (fuel+1) listed st:=by
 subst hlist;subst hst;exact q1q hi hs hf hr hg hd (vwo ho hu hl hy) h
theorem zHq {ops:Array Oper} {rows:List (Nat×List Value)} {fuel:Nat} {listed listed':Array Bool} {o:Oper} {op:BinOp} {t yt:TypeId} {xo yo:Operand} {y:AV} {st':St}
  (i:Nat) (h:HJ C ops rows Q fuel listed' st') (hs:Region.noSelect ops=true:=by kernel_rfl) (hi:ops[i]?=some o:=by rfl) (ho:o.op=.binOp op t xo yo yt:=by rfl)
  (hf:Region.free .any ops listed i=true:=by kernel_rfl) (hr:(Region.ready .any ops listed).contains i=true:=by kernel_rfl) (hg:o.guard=none:=by rfl) (hd:qdm C.N o=true:=by rfl)
  (h1:vcp (ev st.env xo)=true:=by simp only [go_sem,seval, *];done) (h2:vcp (ev st.env yo)=true:=by simp only [go_sem,seval, *];done) (hy:vqk C.P op t (ev st.env xo) (ev st.env yo)=some y:=by simp only [go_sem,seval, *];all_goals exact zF)
  (hrig:vj1 y=true:=by rfl)
  (hlist:listed.setIfInBounds i true=listed':=by rfl) (hst:(⟨qig st.env o.dst y,st.heap⟩:St)=st':=by rfl):HJ C ops rows Q (fuel+1) listed st:=by
 subst hlist;subst hst;exact q1q hi hs hf hr hg hd (vwp ho h1 h2 hy hrig) h
end Go.Ab
namespace Go.Ab
structure Bx (q:Prop):Prop where
 o:q
variable {p q r:Prop}
theorem M0(h:r)(H:Bx r→p:=by intro h;obtain ⟨h⟩:=h;refine zU<|zl ?_;cases h;exact ⟨rfl,zE⟩):p:=H ⟨h⟩
theorem M1(h:r)(e:q)(H:Bx r→Bx q→p:=by intro h k;obtain ⟨h⟩:=h;refine zi<|zs<|zr ?_;refine zU<|zl<|zn<|zq<|zt ?_;cases h;exact zT k.1):p:=H ⟨h⟩ ⟨e⟩
theorem M2(h:r)(H:Bx r→p:=by intro h;obtain ⟨h⟩:=h;refine zj<|zx<|ze ?_;cases h;exact ⟨rfl,zE⟩):p:=H ⟨h⟩
theorem M3(h:r)(e:q)(H:Bx r→Bx q→p:=by intro h k;obtain ⟨h⟩:=h;refine zU<|zl<|zn<|zq ?_;cases h;exact zT k.1):p:=H ⟨h⟩ ⟨e⟩
theorem M4(k:q)(H:Bx q→p:=by intro k;refine zg ?_;refine zg ?_;refine zg ?_;exact k.1):p:=H ⟨k⟩
theorem M5(k:q)(H:Bx q→p:=by intro k;refine zU<|zl<|zn<|zs<|zs<|zr ?_;refine zU<|zl<|zn<|zb ?_;exact k.1):p:=H ⟨k⟩
theorem M6(k:q)(H:Bx q→p:=by intro k;refine zU<|zl<|zn<|zs<|zr ?_;exact k.1):p:=H ⟨k⟩
theorem M7(h:r)(H:Bx r→p:=by intro h;obtain ⟨h⟩:=h;try simp only at h;refine zZ fun s hq=>?_;refine yr<|zt ?_;cases h;exact hq):p:=H ⟨h⟩
theorem M8(k:q)(H:Bx q→p:=by intro k;refine zU<|zl<|zn ?_;exact k.1):p:=H ⟨k⟩
theorem M9(k:q)(H:Bx q→p:=by intro k;refine zi<|zk<|zn<|zs<|zb<|zs<|zr ?_;exact k.1):p:=H ⟨k⟩
theorem Ma(k:q)(H:Bx q→p:=by intro k;refine zi<|zs<|zr ?_;refine zU<|zl<|zn<|zq<|yr<|zt ?_;exact k.1):p:=H ⟨k⟩
theorem Mb(k:q)(H:Bx q→p:=by intro k;dsimp only;refine zs<|zr ?_;refine zU<|zl<|zn<|zs ?_;exact k.1):p:=H ⟨k⟩
theorem Mc(k:q)(H:Bx q→p:=by intro k;refine zs<|zr ?_;refine zU<|zl<|zn<|zs<|zs<|zr ?_;exact k.1):p:=H ⟨k⟩
theorem Md(k:q)(H:Bx q→p:=by intro k;refine zA<|yh<|zn<|zs<|zr ?_;exact k.1):p:=H ⟨k⟩
theorem Me(k:q)(H:Bx q→p:=by intro k;refine zi<|zs<|zr ?_;refine zU<|zl<|zn<|zq<|zt<|yr<|zt ?_;exact k.1):p:=H ⟨k⟩
theorem Mf(k:q)(H:Bx q→p:=by intro k;refine zj<|zk<|zn<|zs<|zr ?_;exact k.1):p:=H ⟨k⟩
theorem Mg(h:r)(e:q)(H:Bx r→Bx q→p:=by intro h k;obtain ⟨h⟩:=h;refine zU<|zl<|zn<|zq<|yr<|zt ?_;cases h;exact zT k.1):p:=H ⟨h⟩ ⟨e⟩
theorem Mh(k:q)(H:Bx q→p:=by intro k;refine zU<|zl<|yn<|zn<|zr ?_;exact k.1):p:=H ⟨k⟩
theorem Mi(k:q)(H:Bx q→p:=by intro k;dsimp only;refine zs<|zs<|zr ?_;exact k.1):p:=H ⟨k⟩
theorem Mj(k:q)(H:Bx q→p:=by intro k;refine zj<|zk<|yn<|zn<|zr ?_;exact k.1):p:=H ⟨k⟩
theorem Mk(k:q)(H:Bx q→p:=by intro k;refine yg ?_;refine yg ?_;refine yg ?_;exact k.1):p:=H ⟨k⟩
theorem Ml(k:q)(H:Bx q→p:=by intro k;refine yk ?_;refine yU ?_;refine yk ?_;refine yU ?_;refine yk ?_;refine yU ?_;exact k.1):p:=H ⟨k⟩
theorem Mm(k:q)(H:Bx q→p:=by intro k;refine zj<|zk<|zn<|zs<|zs<|zr ?_;exact k.1):p:=H ⟨k⟩
theorem Mn(k:q)(H:Bx q→p:=by intro k;refine zh ?_;refine zU ?_;refine zh ?_;exact k.1):p:=H ⟨k⟩
theorem Mo(k:q)(H:Bx q→p:=by intro k;refine zU<|zl<|zn<|zs<|zs<|zr ?_;exact k.1):p:=H ⟨k⟩
theorem Mp(h:r)(e:q)(H:Bx r→Bx q→p:=by intro h k;obtain ⟨h⟩:=h;refine yU ?_;refine yd<|zn<|zq ?_;cases h;exact zT k.1):p:=H ⟨h⟩ ⟨e⟩
theorem Mq(k:q)(H:Bx q→p:=by intro k;refine zU<|zl<|zn<|zb ?_;exact k.1):p:=H ⟨k⟩
theorem Mr(k:q)(H:Bx q→p:=by intro k;refine zg ?_;refine zg ?_;exact k.1):p:=H ⟨k⟩
theorem Ms(k:q)(H:Bx q→p:=by intro k;refine zs<|zr ?_;exact k.1):p:=H ⟨k⟩
theorem Mt(k:q)(H:Bx q→p:=by intro k;refine zi<|zs<|zr ?_;refine zU ?_;exact k.1):p:=H ⟨k⟩
theorem Mu(k:q)(H:Bx q→p:=by intro k;refine yU ?_;refine yd<|zn ?_;exact k.1):p:=H ⟨k⟩
theorem Mv(h:r)(H:Bx r→p:=by intro h;obtain ⟨h⟩:=h;cases h;exact ⟨rfl,zE⟩):p:=H ⟨h⟩
theorem Mw(k:q)(H:Bx q→p:=by intro k;refine zi<|zk<|zn<|zs<|zb<|zs<|zd ?_;exact k.1):p:=H ⟨k⟩
theorem Mx(k:q)(H:Bx q→p:=by intro k;refine zU<|zl<|zn<|zr ?_;exact k.1):p:=H ⟨k⟩
theorem My(k:q)(H:Bx q→p:=by intro k;refine yU ?_;refine yd<|yn<|zn<|zr ?_;exact k.1):p:=H ⟨k⟩
theorem Mz(k:q)(H:Bx q→p:=by intro k;refine zU<|zl<|zn<|zs<|zd ?_;exact k.1):p:=H ⟨k⟩
theorem T0(k:q)(H:Bx q→p:=by intro k;refine zl<|yn<|zn<|zr ?_;exact k.1):p:=H ⟨k⟩
theorem T1(k:q)(H:Bx q→p:=by intro k;refine zA<|yh<|yn<|zn<|zr ?_;exact k.1):p:=H ⟨k⟩
theorem T2(k:q)(H:Bx q→p:=by intro k;refine yg ?_;refine yg ?_;exact k.1):p:=H ⟨k⟩
theorem T3(k:q)(H:Bx q→p:=by intro k;refine zU<|zl<|zn<|zq<|zt ?_;exact k.1):p:=H ⟨k⟩
theorem T4(k:q)(H:Bx q→p:=by intro k;refine zU<|zl<|zn<|zs ?_;exact k.1):p:=H ⟨k⟩
theorem T5(k:q)(H:Bx q→p:=by intro k;refine zj<|zs<|zr ?_;exact k.1):p:=H ⟨k⟩
theorem T6(k:q)(H:Bx q→p:=by intro k;refine zr ?_;refine zU ?_;exact k.1):p:=H ⟨k⟩
theorem T7(h:r)(e:q)(H:Bx r→Bx q→p:=by intro h k;obtain ⟨h⟩:=h;cases h;exact zT k.1):p:=H ⟨h⟩ ⟨e⟩
theorem T8(k:q)(H:Bx q→p:=by intro k;refine zs<|zs<|zr ?_;exact k.1):p:=H ⟨k⟩
theorem T9(k:q)(H:Bx q→p:=by intro k;refine zA<|yh<|zn<|zs<|zs<|zr ?_;exact k.1):p:=H ⟨k⟩
theorem Ta(k:q)(H:Bx q→p:=by intro k;refine yU ?_;refine yd<|zn<|zs<|zs<|zr ?_;exact k.1):p:=H ⟨k⟩
theorem Tb(k:q)(H:Bx q→p:=by intro k;refine zh ?_;refine zg ?_;exact k.1):p:=H ⟨k⟩
theorem Tc(k:q)(H:Bx q→p:=by intro k;refine zi<|zr ?_;exact k.1):p:=H ⟨k⟩
theorem Td(k:q)(H:Bx q→p:=by intro k;refine zj<|zk<|zn<|zr ?_;exact k.1):p:=H ⟨k⟩
theorem Te(k:q)(H:Bx q→p:=by intro k;refine zU<|zl<|zn<|zb<|zs<|zr ?_;exact k.1):p:=H ⟨k⟩
theorem Tf(k:q)(H:Bx q→p:=by intro k;refine zj<|zk<|yn<|zn<|zs<|zr ?_;exact k.1):p:=H ⟨k⟩
theorem Tg(k:q)(H:Bx q→p:=by intro k;refine zU ?_;refine zh ?_;exact k.1):p:=H ⟨k⟩
theorem Th(k:q)(H:Bx q→p:=by intro k;refine zU<|zl<|zn<|zd ?_;exact k.1):p:=H ⟨k⟩
theorem Ti(k:q)(H:Bx q→p:=by intro k;refine yU ?_;refine yd<|zn<|zs<|zr ?_;exact k.1):p:=H ⟨k⟩
theorem Tj(k:q)(H:Bx q→p:=by intro k;refine zi<|zk<|zn<|zs<|zb<|zr ?_;exact k.1):p:=H ⟨k⟩
theorem Tk(k:q)(H:Bx q→p:=by intro k;refine zi<|zk<|zn<|zs<|zb<|zs<|zs<|zr ?_;exact k.1):p:=H ⟨k⟩
theorem Tl(k:q)(H:Bx q→p:=by intro k;refine zi<|zs<|zr ?_;exact k.1):p:=H ⟨k⟩
theorem Tm(k:q)(H:Bx q→p:=by intro k;dsimp only;refine zs<|zs<|zd ?_;refine yU ?_;exact k.1):p:=H ⟨k⟩
theorem Tn(k:q)(H:Bx q→p:=by intro k;refine zA<|yh<|zn<|zr ?_;exact k.1):p:=H ⟨k⟩
theorem To(k:q)(H:Bx q→p:=by intro k;refine yU ?_;refine yd<|zn<|zq<|yr<|zt ?_;exact k.1):p:=H ⟨k⟩
theorem Tp(k:q)(H:Bx q→p:=by intro k;refine zl<|zn ?_;exact k.1):p:=H ⟨k⟩
theorem Tq(k:q)(H:Bx q→p:=by intro k;refine zA<|zn<|zs<|zs<|zr ?_;exact k.1):p:=H ⟨k⟩
theorem Tr(k:q)(H:Bx q→p:=by intro k;refine zi<|zk<|zn<|zs<|zb<|zd ?_;exact k.1):p:=H ⟨k⟩
end Go.Ab
