/- -/
import Derived.Test.YtpealiejioeonaaGreatDoorRows
import Derived.Test.YtpealiejioeonaaGreatDoorCards
import Derived.Test.YtpealiejioeonaaGreatDoorTie
import Derived.Lib.LaidTab
import Derived.Deep.DeepHandedRow
import Derived.Test.YtpealiejioeonaaGreatDoorA2
import Derived.Test.YtpealiejioeonaaGreatDoorW1
import Derived.Test.YtpealiejioeonaaGreatDoorL1
import Derived.Test.YtpealiejioeonaaGreatDoorW2
import Derived.Test.YtpealiejioeonaaGreatDoorL4
set_option linter.unusedVariables false
set_option linter.unusedSimpArgs false
namespace Go.Proofs.YtpealiejioeonaaGreatDoor
open Go Go.Ab
abbrev bk:(H:Type)→DataW H→Nat:=fun H d=>YtpealiejioeonaaGreatDoor.Rows.uptoBulk d
theorem bk_one {H:Type} (d:DataW H):1≤YtpealiejioeonaaGreatDoor.Rows.uptoBulk d:=by
  cases d with
  | lit l=>cases l <;> simp [YtpealiejioeonaaGreatDoor.Rows.uptoBulk]
  | _=>simp [YtpealiejioeonaaGreatDoor.Rows.uptoBulk]
theorem bk_part {H:Type} {d:DataW H} {l:List (DataW H)} (h:d∈l):YtpealiejioeonaaGreatDoor.Rows.uptoBulk d≤YtpealiejioeonaaGreatDoor.Rows.uptoBulkAll l:=by
  induction l with
  | nil=>cases h
  | cons x r ih =>
    simp only [YtpealiejioeonaaGreatDoor.Rows.uptoBulkAll]
    cases List.mem_cons.1 h with
    | inl e=>subst e;omega
    | inr e=>have:=ih e;omega
theorem bk_len {H:Type} (l:List (DataW H)):l.length≤YtpealiejioeonaaGreatDoor.Rows.uptoBulkAll l:=by
  induction l with
  | nil=>simp [YtpealiejioeonaaGreatDoor.Rows.uptoBulkAll]
  | cons x r ih=>have:=bk_one x;simp only [YtpealiejioeonaaGreatDoor.Rows.uptoBulkAll,List.length_cons];omega
theorem bk_law:Bulk bk:=by
  refine ⟨fun H s=>?_,fun H es sp=>?_,fun H es sp d hd=>?_,fun H ps d hd=>?_⟩
  · simp [bk,YtpealiejioeonaaGreatDoor.Rows.uptoBulk]
  · have:=bk_len es;simp only [bk,YtpealiejioeonaaGreatDoor.Rows.uptoBulk];omega
  · have:=bk_part hd;simp only [bk,YtpealiejioeonaaGreatDoor.Rows.uptoBulk];omega
  · have:=bk_part hd;simp only [bk,YtpealiejioeonaaGreatDoor.Rows.uptoBulk];omega
theorem bk_small {H:Type} {ds:List (DataW H)} (h:YtpealiejioeonaaGreatDoor.Rows.uptoSmall H ds=true) {d:DataW H} (hd:d∈ds):bk H d≤1048576:=Nat.le_trans (bk_part hd) (of_decide_eq_true h)
theorem rd5:Rd Tryz.prog bk 5 (PV.int .u8) (okI .u8):=vtt Tryz.underlying5 (by kernel_rfl)
theorem rd26:Rd Tryz.prog bk 26 (qal (PV.int .u8)) (okL (okI .u8)):=q1f Tryz.underlying26 (by kernel_rfl) (by rw [show Tryz.prog.cellsOf 5=1 by kernel_rfl];omega) bk_law rd5
theorem rd22:Rd Tryz.prog bk 22 (qal (qal (PV.int .u8))) (okL (okL (okI .u8))):=q1f Tryz.underlying22 (by kernel_rfl) (by rw [show Tryz.prog.cellsOf 26=1 by kernel_rfl];omega) bk_law rd26
theorem rd24:Rd Tryz.prog bk 24 qav qha:=by
  refine q3l Tryz.underlying24 (by kernel_rfl) bk_law (RdFs.cons rd5 (RdFs.cons rd5 (RdFs.cons rd22 RdFs.nil))) (fun x=>⟨x.1,x.2.1,x.2.2.1⟩) (fun x=>by rw [show Tryz.prog.cellsOf 24=3 by kernel_rfl];rfl) ?_ (fun _=>rfl) (fun _=>rfl) ?_
  · intro x y hy
    simp only [qm4,List.mem_cons,List.not_mem_nil,or_false] at hy
    rcases hy with rfl | rfl | rfl <;> exact ⟨rfl,rfl⟩
  · rintro ⟨x0,x1,x2,⟨⟩⟩ h
    simp only [qha] at h ⊢
    simp_all
theorem rd105:Rd Tryz.prog bk 105 qbo qhm:=by
  refine q3l Tryz.underlying105 (by kernel_rfl) bk_law (RdFs.cons rd5 (RdFs.cons rd5 RdFs.nil)) (fun x=>⟨x.1,x.2.1⟩) (fun x=>by rw [show Tryz.prog.cellsOf 105=2 by kernel_rfl];rfl) ?_ (fun _=>rfl) (fun _=>rfl) ?_
  · intro x y hy
    simp only [qpf,List.mem_cons,List.not_mem_nil,or_false] at hy
    rcases hy with rfl | rfl <;> exact ⟨rfl,rfl⟩
  · rintro ⟨x0,x1,⟨⟩⟩ h
    simp only [qhm] at h ⊢
    simp_all
theorem rd25:Rd Tryz.prog bk 25 (qal qbo) (okL qhm):=q1f Tryz.underlying25 (by kernel_rfl) (by rw [show Tryz.prog.cellsOf 105=2 by kernel_rfl];omega) bk_law rd105
end Go.Proofs.YtpealiejioeonaaGreatDoor
namespace Go.Proofs.YtpealiejioeonaaGreatDoor.TopPriorities
open Go Go.Ab Go.ChangeShapes
theorem own:ownKnob Tryz.prog.godebug=none:=by kernel_rfl
theorem gTab : Tryz.prog.globalNamed "math/bits.deBruijn32tab" = some 0 := by kernel_rfl
theorem gTabType:(Tryz.prog.globals[0]?).map (·.type)=some 278:=by kernel_rfl
theorem gCells:Tryz.prog.cellsOf 278=32:=by kernel_rfl
theorem eCells:Tryz.prog.cellsOf 5=1:=by kernel_rfl
theorem table {W : World} (h : laidMetH Tryz.prog YtpealiejioeonaaGreatDoor.Rows.topPrioritiesUptoRow.laid W) : Lib.TabIs Tryz.prog W "math/bits.deBruijn32tab" .u8 qkt :=
  Lib.tabIs_of_head (rest:=[]) gTab gTabType Tryz.underlying278 Tryz.underlying5 eCells gCells h
theorem tabOk {W:World} (h:laidMetH Tryz.prog YtpealiejioeonaaGreatDoor.Rows.topPrioritiesUptoRow.laid W):Go.Ab.TabOk Tryz.prog NoX W:=by
  intro g hg
  obtain rfl:=Option.some.inj (gTab.symm.trans hg)
  have hc:∀i,i < 32→W.cell? ⟨0,i,none⟩=some (.int .u8 (qkt.getD i 0)):=fun i hi=>(table h).cell gTab i (by simpa [qkt] using hi)
  refine ⟨World.block_lt_of_cell? W _ (hc 0 (by omega)),fun h=>h,fun j u hu=>?_⟩
  rw [List.getElem?_map] at hu
  cases hj:qkt[j]? with
  | none=>rw [hj] at hu;cases hu
  | some z =>
    rw [hj] at hu
    simp only [Option.map_some,Option.some.injEq] at hu
    subst hu
    have hlt:j < 32:=by have:=(List.getElem?_eq_some_iff.1 hj).1;simpa [qkt] using this
    have:=hc j hlt
    rw [List.getD_eq_getElem?_getD,hj] at this
    simpa using this
set_option maxRecDepth 100000 in
theorem contract (H:Type) (enc:TypeId×Go.Value→H) (W:World) (base:Nat) (args:Array Go.Value) (ds gs:List (DataW H)) (before:List MemPlace)
    (hval:∀(j:Nat) t v,Tryz.f3.params[j]?=some t→args[j]?=some v→Go.Value.okWide Tryz.prog W .any base t v)
    (hW:DataW.Whole enc Tryz.prog Tryz.f3.params.toList YtpealiejioeonaaGreatDoor.Rows.topPrioritiesSpec.vars false W args.toList ds gs before) (hk:YtpealiejioeonaaGreatDoor.Rows.uptoSmall H (ds++gs)=true) (hL:laidMetH Tryz.prog YtpealiejioeonaaGreatDoor.Rows.topPrioritiesUptoRow.laid W) :
    Calls Tryz.prog 3 args W fun e W'=>∃v,e=.returned v∧YtpealiejioeonaaGreatDoor.Rows.topPrioritiesSpec.post enc Tryz.prog Tryz.f3 false true false false W args v W':=by
  have hW0:=hW
  obtain ⟨p,q,hA,hV,rfl,hfz,hnd⟩:=hW0
  rw [Tryz.params3] at hA hval
  obtain ⟨v0,vs0,d0,ds0,p0,q0,hargs0,rfl,rfl,h0,r0⟩:=trodAll_cons hA
  obtain ⟨v1,vs1,d1,ds1,p1,q1,hargs1,rfl,rfl,h1,r1⟩:=trodAll_cons r0
  obtain ⟨v2,vs2,d2,ds2,p2,q2,hargs2,rfl,rfl,h2,r2⟩:=trodAll_cons r1
  obtain ⟨rfl,rfl,rfl⟩:=trodAll_nil r2
  obtain rfl:args=#[v0,v1,v2]:=by cases args;simp_all
  obtain ⟨rfl,rfl⟩:=trodVars_none hV
  obtain ⟨x0,hx0,ok0⟩:=rd24.val (hval 0 24 v0 rfl rfl) h0 (bk_small hk (by simp))
  obtain ⟨x1,hx1,ok1⟩:=rd25.val (hval 1 25 v1 rfl rfl) h1 (bk_small hk (by simp))
  obtain ⟨x2,hx2,ok2⟩:=rd26.val (hval 2 26 v2 rfl rfl) h2 (bk_small hk (by simp))
  exact vic (D:=False) hW rfl rfl rfl Tryz.underlying4 (by kernel_rfl) (by kernel_rfl) (by kernel_rfl) (by rw [Tryz.params3];decide +kernel) (qm9 x0 x1 x2 _ (qs5 x0 x1 x2 ok0 ok1 ok2)) (tabOk hL) ⟨_,_,rfl,hx0,⟨_,_,rfl,hx1,⟨_,_,rfl,hx2,rfl⟩⟩⟩
noncomputable def laidWorld (os:Os):World :=
  { World.holding Tryz.prog os ⟨#[],#[],[]⟩ with heap:=(World.holding Tryz.prog os ⟨#[],#[],[]⟩).heap.modify 0 fun
      | .cells _ t frozen=>.cells #[.int .u8 0,.int .u8 1,.int .u8 28,.int .u8 2,.int .u8 29,.int .u8 14,.int .u8 24,.int .u8 3,.int .u8 30,.int .u8 22,.int .u8 20,.int .u8 15,.int .u8 25,.int .u8 17,.int .u8 4,.int .u8 8,.int .u8 31,.int .u8 27,.int .u8 13,.int .u8 23,.int .u8 21,.int .u8 19,.int .u8 16,.int .u8 7,.int .u8 26,.int .u8 12,.int .u8 18,.int .u8 6,.int .u8 11,.int .u8 5,.int .u8 10,.int .u8 9] t frozen
      | o=>o }
theorem laid_met (os:Os):laidMet Tryz.prog YtpealiejioeonaaGreatDoor.Rows.topPrioritiesUptoRow.laid ((laidWorld os).forCall (fun _ _=>0) ⟨#[],#[.agg #[.int .u8 0,.int .u8 0,.slice none 0 0],.slice none 0 0,.slice none 0 0],[]⟩).memory :=
  laidMet_of_run' 8 (by kernel_rfl) (by kernel_rfl)
theorem reads (os:Os) {H:Type} (enc:TypeId×Go.Value→H):∃places,DataW.whole enc Tryz.prog ((laidWorld os).forCall (fun _ _=>0) ⟨#[],#[.agg #[.int .u8 0,.int .u8 0,.slice none 0 0],.slice none 0 0,.slice none 0 0],[]⟩).memory Tryz.f3.params.toList YtpealiejioeonaaGreatDoor.Rows.topPrioritiesSpec.vars false (#[.agg #[.int .u8 0,.int .u8 0,.slice none 0 0],.slice none 0 0,.slice none 0 0]:Array Go.Value).toList 8=some ([.agg [.lit (.int .u8 0),.lit (.int .u8 0),.nil],.nil,.nil],[],places) :=
  ⟨[],by kernel_rfl⟩
set_option maxRecDepth 100000 in
theorem lifted (os:Os) (started:os.Started) (H:Type) (enc:TypeId×Go.Value→H) (F:Stop.Interp) :
    ReturnsInHanded {} Tryz.checked os 3 .any ((YtpealiejioeonaaGreatDoor.Rows.OpenSpec.upto YtpealiejioeonaaGreatDoor.Rows.topPrioritiesSpec).preRow enc Tryz.prog Tryz.f3 YtpealiejioeonaaGreatDoor.Rows.topPrioritiesUptoRow.domain false YtpealiejioeonaaGreatDoor.Rows.topPrioritiesUptoRow.laid) (((YtpealiejioeonaaGreatDoor.Rows.OpenSpec.upto YtpealiejioeonaaGreatDoor.Rows.topPrioritiesSpec).at F).post enc Tryz.prog Tryz.f3 false true false false):=by
  obtain ⟨places,hx⟩:=reads os enc
  refine returnsInHanded_of_row (C:=Tryz.checked) (s:=YtpealiejioeonaaGreatDoor.Rows.OpenSpec.upto YtpealiejioeonaaGreatDoor.Rows.topPrioritiesSpec) own started (by kernel_rfl) Tryz.func3
    (witness_row_at (enc:=enc) (C:=Tryz.checked) false (laidWorld os) #[.agg #[.int .u8 0,.int .u8 0,.slice none 0 0],.slice none 0 0,.slice none 0 0] rfl (by kernel_rfl) (by kernel_rfl) (by kernel_rfl)
      (OpenSpec.preRow_of_cond 8 hx (by kernel_rfl) (fun k hk=>by cases hk;kernel_rfl) (by kernel_rfl) (laid_met os))) ?_
  intro W base args ds gs before hval hW _ hcond _ hL _ _
  exact contract H enc W base args ds gs before hval hW (hcond _ rfl) hL
theorem jA:(YtpealiejioeonaaGreatDoor.Rows.topPrioritiesUptoRow.inPlace == Tryz.prog.inPlace 3)=true:=by kernel_rfl
theorem jB:(YtpealiejioeonaaGreatDoor.Rows.topPrioritiesUptoRow.unfollowed == Tryz.prog.unfollowed 3)=true:=by kernel_rfl
theorem jC:(YtpealiejioeonaaGreatDoor.Rows.topPrioritiesUptoRow.recurses == Tryz.prog.recurses 3)=true:=by kernel_rfl
theorem jD:(YtpealiejioeonaaGreatDoor.Rows.topPrioritiesUptoRow.named == Tryz.prog.varsNamed 3)=true:=by kernel_rfl
theorem jF:joinedFacts Tryz.prog 3 Tryz.f3 (OpenSpec.bare (YtpealiejioeonaaGreatDoor.Rows.OpenSpec.upto YtpealiejioeonaaGreatDoor.Rows.topPrioritiesSpec)) YtpealiejioeonaaGreatDoor.Rows.topPrioritiesUptoRow=true:=by
  unfold joinedFacts
  rw [jA,jB,jC,jD]
  kernel_rfl
theorem said:YtpealiejioeonaaGreatDoor.Rows.TopPrioritiesUptoSaid :=
  OpenClaim.holds_of_cond 3 Tryz.f3 rfl rfl rfl rfl rfl rfl rfl ⟨rfl,rfl,rfl,rfl,rfl⟩ rfl rfl rfl rfl rfl (by kernel_rfl) Tryz.func3 jF
    (of_decide_eq_true (by kernel_rfl)) (by unfold Func.isWrapper;first | (rw [if_pos (by decide +kernel)];kernel_rfl) | (rw [if_neg (by decide +kernel)];exact ⟨rfl,rfl⟩))
    (fun os started H enc _ F=>by rw [OpenClaim.pre_eq_preRow];exact lifted os started H enc F)
theorem plain (f : FuncId) (fn : Func) (hf : YtpealiejioeonaaGreatDoor.Tryz.pinned.checked.prog.funcNamed "dross/drosstop.TopPriorities" = some f) (hfn : YtpealiejioeonaaGreatDoor.Tryz.pinned.checked.prog.funcs[f]? = some fn) :
    false=YtpealiejioeonaaGreatDoor.Tryz.pinned.checked.prog.looks []∧∀(j:Nat) t,fn.params[j]?=some t→YtpealiejioeonaaGreatDoor.Tryz.pinned.checked.prog.wantsStandIn t=false:=by
  obtain rfl : f = 3 := Option.some.inj ((show Tryz.prog.funcNamed "dross/drosstop.TopPriorities" = some 3 by kernel_rfl).symm.trans hf) |>.symm
  obtain rfl:fn=Tryz.f3:=(Option.some.inj (Tryz.func3.symm.trans hfn)).symm
  refine ⟨by kernel_rfl,fun j t ht=>?_⟩
  rw [Tryz.params3] at ht
  have hm:t∈[24,25,26]:=by simpa using Array.mem_of_getElem? ht
  have hall:([24,25,26].all fun u=>!Tryz.prog.wantsStandIn u)=true:=by kernel_rfl
  exact (show Tryz.prog.wantsStandIn t=false by simpa using List.all_eq_true.1 hall t hm)
theorem proved:YtpealiejioeonaaGreatDoor.Rows.TopPrioritiesUptoCardSaid :=
  Claim7.holds_tied_plain_at .later [] _ _ _ _ said (fun _ h=>by cases h) (by kernel_rfl) (fun _ h=>by cases h) YtpealiejioeonaaGreatDoor.topPrioritiesUpto_row_tie rfl ⟨rfl,rfl⟩ (by kernel_rfl) rfl plain (by kernel_rfl)
end Go.Proofs.YtpealiejioeonaaGreatDoor.TopPriorities
