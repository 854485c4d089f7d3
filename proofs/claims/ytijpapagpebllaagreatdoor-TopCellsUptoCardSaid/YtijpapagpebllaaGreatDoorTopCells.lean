/- -/
import Derived.Test.YtijpapagpebllaaGreatDoorRows
import Derived.Test.YtijpapagpebllaaGreatDoorCards
import Derived.Test.YtijpapagpebllaaGreatDoorTie
import Derived.Lib.LaidTab
import Derived.Deep.DeepHandedRow
import Derived.Test.YtijpapagpebllaaGreatDoorA2
import Derived.Test.YtijpapagpebllaaGreatDoorW1
import Derived.Test.YtijpapagpebllaaGreatDoorL1
import Derived.Test.YtijpapagpebllaaGreatDoorW3
import Derived.Test.YtijpapagpebllaaGreatDoorL3
set_option linter.unusedVariables false
set_option linter.unusedSimpArgs false
namespace Go.Proofs.YtijpapagpebllaaGreatDoor
open Go Go.Ab
abbrev bk:(H:Type)→DataW H→Nat:=fun H d=>YtijpapagpebllaaGreatDoor.Rows.uptoBulk d
theorem bk_one {H:Type} (d:DataW H):1≤YtijpapagpebllaaGreatDoor.Rows.uptoBulk d:=by
  cases d with
  | lit l=>cases l <;> simp [YtijpapagpebllaaGreatDoor.Rows.uptoBulk]
  | _=>simp [YtijpapagpebllaaGreatDoor.Rows.uptoBulk]
theorem bk_part {H:Type} {d:DataW H} {l:List (DataW H)} (h:d∈l):YtijpapagpebllaaGreatDoor.Rows.uptoBulk d≤YtijpapagpebllaaGreatDoor.Rows.uptoBulkAll l:=by
  induction l with
  | nil=>cases h
  | cons x r ih =>
    simp only [YtijpapagpebllaaGreatDoor.Rows.uptoBulkAll]
    cases List.mem_cons.1 h with
    | inl e=>subst e;omega
    | inr e=>have:=ih e;omega
theorem bk_len {H:Type} (l:List (DataW H)):l.length≤YtijpapagpebllaaGreatDoor.Rows.uptoBulkAll l:=by
  induction l with
  | nil=>simp [YtijpapagpebllaaGreatDoor.Rows.uptoBulkAll]
  | cons x r ih=>have:=bk_one x;simp only [YtijpapagpebllaaGreatDoor.Rows.uptoBulkAll,List.length_cons];omega
theorem bk_law:Bulk bk:=by
  refine ⟨fun H s=>?_,fun H es sp=>?_,fun H es sp d hd=>?_,fun H ps d hd=>?_⟩
  · simp [bk,YtijpapagpebllaaGreatDoor.Rows.uptoBulk]
  · have:=bk_len es;simp only [bk,YtijpapagpebllaaGreatDoor.Rows.uptoBulk];omega
  · have:=bk_part hd;simp only [bk,YtijpapagpebllaaGreatDoor.Rows.uptoBulk];omega
  · have:=bk_part hd;simp only [bk,YtijpapagpebllaaGreatDoor.Rows.uptoBulk];omega
theorem bk_small {H:Type} {ds:List (DataW H)} (h:YtijpapagpebllaaGreatDoor.Rows.uptoSmall H ds=true) {d:DataW H} (hd:d∈ds):bk H d≤1048576:=Nat.le_trans (bk_part hd) (of_decide_eq_true h)
theorem rd5:Rd Tryz.prog bk 5 (PV.int .u8) (okI .u8):=v07 Tryz.underlying5 (by kernel_rfl)
theorem rd61:Rd Tryz.prog bk 61 (qal (PV.int .u8)) (okL (okI .u8)):=q4q Tryz.underlying61 (by kernel_rfl) (by rw [show Tryz.prog.cellsOf 5=1 by kernel_rfl];omega) bk_law rd5
theorem rd22:Rd Tryz.prog bk 22 (qal (qal (PV.int .u8))) (okL (okL (okI .u8))):=q4q Tryz.underlying22 (by kernel_rfl) (by rw [show Tryz.prog.cellsOf 61=1 by kernel_rfl];omega) bk_law rd61
theorem rd24:Rd Tryz.prog bk 24 qbf qk2:=by
  refine q0t Tryz.underlying24 (by kernel_rfl) bk_law (RdFs.cons rd5 (RdFs.cons rd5 (RdFs.cons rd22 RdFs.nil))) (fun x=>⟨x.1,x.2.1,x.2.2.1⟩) (fun x=>by rw [show Tryz.prog.cellsOf 24=3 by kernel_rfl];rfl) ?_ (fun _=>rfl) (fun _=>rfl) ?_
  · intro x y hy
    simp only [qo1,List.mem_cons,List.not_mem_nil,or_false] at hy
    rcases hy with rfl | rfl | rfl <;> exact ⟨rfl,rfl⟩
  · rintro ⟨x0,x1,x2,⟨⟩⟩ h
    simp only [qk2] at h ⊢
    simp_all
theorem rd127:Rd Tryz.prog bk 127 qbi qis:=by
  refine q0t Tryz.underlying127 (by kernel_rfl) bk_law (RdFs.cons rd5 (RdFs.cons rd5 RdFs.nil)) (fun x=>⟨x.1,x.2.1⟩) (fun x=>by rw [show Tryz.prog.cellsOf 127=2 by kernel_rfl];rfl) ?_ (fun _=>rfl) (fun _=>rfl) ?_
  · intro x y hy
    simp only [qr0,List.mem_cons,List.not_mem_nil,or_false] at hy
    rcases hy with rfl | rfl <;> exact ⟨rfl,rfl⟩
  · rintro ⟨x0,x1,⟨⟩⟩ h
    simp only [qis] at h ⊢
    simp_all
theorem rd25:Rd Tryz.prog bk 25 (qal qbi) (okL qis):=q4q Tryz.underlying25 (by kernel_rfl) (by rw [show Tryz.prog.cellsOf 127=2 by kernel_rfl];omega) bk_law rd127
theorem rd27:Rd Tryz.prog bk 27 qcy qkb:=by
  refine q0t Tryz.underlying27 (by kernel_rfl) bk_law (RdFs.cons rd24 (RdFs.cons rd25 RdFs.nil)) (fun x=>⟨x.1,x.2.1⟩) (fun x=>by rw [show Tryz.prog.cellsOf 27=4 by kernel_rfl];rfl) ?_ (fun _=>rfl) (fun _=>rfl) ?_
  · intro x y hy
    simp only [qqz,List.mem_cons,List.not_mem_nil,or_false] at hy
    rcases hy with rfl | rfl | rfl | rfl <;> exact ⟨rfl,rfl⟩
  · rintro ⟨x0,x1,⟨⟩⟩ h
    simp only [qkb] at h ⊢
    simp_all
end Go.Proofs.YtijpapagpebllaaGreatDoor
namespace Go.Proofs.YtijpapagpebllaaGreatDoor.TopCells
open Go Go.Ab Go.ChangeShapes
theorem own:ownKnob Tryz.prog.godebug=none:=by kernel_rfl
theorem gTab : Tryz.prog.globalNamed "math/bits.deBruijn32tab" = some 1 := by kernel_rfl
theorem gTabType:(Tryz.prog.globals[1]?).map (·.type)=some 365:=by kernel_rfl
theorem gCells:Tryz.prog.cellsOf 365=32:=by kernel_rfl
theorem eCells:Tryz.prog.cellsOf 5=1:=by kernel_rfl
theorem table {W : World} (h : laidMetH Tryz.prog YtijpapagpebllaaGreatDoor.Rows.topCellsUptoRow.laid W) : Lib.TabIs Tryz.prog W "math/bits.deBruijn32tab" .u8 qoy :=
  Lib.tabIs_of_head (rest:=[]) gTab gTabType Tryz.underlying365 Tryz.underlying5 eCells gCells h
theorem tabOk {W:World} (h:laidMetH Tryz.prog YtijpapagpebllaaGreatDoor.Rows.topCellsUptoRow.laid W):Go.Ab.TabOk Tryz.prog NoX W:=by
  intro g hg
  obtain rfl:=Option.some.inj (gTab.symm.trans hg)
  have hc:∀i,i < 32→W.cell? ⟨1,i,none⟩=some (.int .u8 (qoy.getD i 0)):=fun i hi=>(table h).cell gTab i (by simpa [qoy] using hi)
  refine ⟨World.block_lt_of_cell? W _ (hc 0 (by omega)),fun h=>h,fun j u hu=>?_⟩
  rw [List.getElem?_map] at hu
  cases hj:qoy[j]? with
  | none=>rw [hj] at hu;cases hu
  | some z =>
    rw [hj] at hu
    simp only [Option.map_some,Option.some.injEq] at hu
    subst hu
    have hlt:j < 32:=by have:=(List.getElem?_eq_some_iff.1 hj).1;simpa [qoy] using this
    have:=hc j hlt
    rw [List.getD_eq_getElem?_getD,hj] at this
    simpa using this
set_option maxRecDepth 100000 in
theorem contract (H:Type) (enc:TypeId×Go.Value→H) (W:World) (base:Nat) (args:Array Go.Value) (ds gs:List (DataW H)) (before:List MemPlace)
    (hval:∀(j:Nat) t v,Tryz.f3.params[j]?=some t→args[j]?=some v→Go.Value.okWide Tryz.prog W .any base t v)
    (hW:DataW.Whole enc Tryz.prog Tryz.f3.params.toList YtijpapagpebllaaGreatDoor.Rows.topCellsSpec.vars false W args.toList ds gs before) (hk:YtijpapagpebllaaGreatDoor.Rows.uptoSmall H (ds++gs)=true) (hL:laidMetH Tryz.prog YtijpapagpebllaaGreatDoor.Rows.topCellsUptoRow.laid W) :
    Calls Tryz.prog 3 args W fun e W'=>∃v,e=.returned v∧YtijpapagpebllaaGreatDoor.Rows.topCellsSpec.post enc Tryz.prog Tryz.f3 false true false false W args v W':=by
  have hW0:=hW
  obtain ⟨p,q,hA,hV,rfl,hfz,hnd⟩:=hW0
  rw [Tryz.params3] at hA hval
  obtain ⟨v0,vs0,d0,ds0,p0,q0,hargs0,rfl,rfl,h0,r0⟩:=trodAll_cons hA
  obtain ⟨rfl,rfl,rfl⟩:=trodAll_nil r0
  obtain rfl:args=#[v0]:=by cases args;simp_all
  obtain ⟨rfl,rfl⟩:=trodVars_none hV
  obtain ⟨x0,hx0,ok0⟩:=rd27.val (hval 0 27 v0 rfl rfl) h0 (bk_small hk (by simp))
  exact vo9 (D:=False) hW rfl rfl rfl Tryz.underlying4 (by kernel_rfl) (by kernel_rfl) (by kernel_rfl) (by rw [Tryz.params3];decide +kernel) (qua x0 _ (q23 x0 ok0)) (tabOk hL) ⟨_,_,rfl,hx0,rfl⟩
noncomputable def laidWorld (os:Os):World :=
  { World.holding Tryz.prog os ⟨#[],#[],[]⟩ with heap:=(World.holding Tryz.prog os ⟨#[],#[],[]⟩).heap.modify 1 fun
      | .cells _ t frozen=>.cells #[.int .u8 0,.int .u8 1,.int .u8 28,.int .u8 2,.int .u8 29,.int .u8 14,.int .u8 24,.int .u8 3,.int .u8 30,.int .u8 22,.int .u8 20,.int .u8 15,.int .u8 25,.int .u8 17,.int .u8 4,.int .u8 8,.int .u8 31,.int .u8 27,.int .u8 13,.int .u8 23,.int .u8 21,.int .u8 19,.int .u8 16,.int .u8 7,.int .u8 26,.int .u8 12,.int .u8 18,.int .u8 6,.int .u8 11,.int .u8 5,.int .u8 10,.int .u8 9] t frozen
      | o=>o }
theorem laid_met (os:Os):laidMet Tryz.prog YtijpapagpebllaaGreatDoor.Rows.topCellsUptoRow.laid ((laidWorld os).forCall (fun _ _=>0) ⟨#[],#[.agg #[.int .u8 0,.int .u8 0,.slice none 0 0,.slice none 0 0]],[]⟩).memory :=
  laidMet_of_run' 8 (by kernel_rfl) (by kernel_rfl)
theorem reads (os:Os) {H:Type} (enc:TypeId×Go.Value→H):∃places,DataW.whole enc Tryz.prog ((laidWorld os).forCall (fun _ _=>0) ⟨#[],#[.agg #[.int .u8 0,.int .u8 0,.slice none 0 0,.slice none 0 0]],[]⟩).memory Tryz.f3.params.toList YtijpapagpebllaaGreatDoor.Rows.topCellsSpec.vars false (#[.agg #[.int .u8 0,.int .u8 0,.slice none 0 0,.slice none 0 0]]:Array Go.Value).toList 8=some ([.agg [.agg [.lit (.int .u8 0),.lit (.int .u8 0),.nil],.nil]],[],places) :=
  ⟨[],by kernel_rfl⟩
set_option maxRecDepth 100000 in
theorem lifted (os:Os) (started:os.Started) (H:Type) (enc:TypeId×Go.Value→H) (F:Stop.Interp) :
    ReturnsInHanded {} Tryz.checked os 3 .any ((YtijpapagpebllaaGreatDoor.Rows.OpenSpec.upto YtijpapagpebllaaGreatDoor.Rows.topCellsSpec).preRow enc Tryz.prog Tryz.f3 YtijpapagpebllaaGreatDoor.Rows.topCellsUptoRow.domain false YtijpapagpebllaaGreatDoor.Rows.topCellsUptoRow.laid) (((YtijpapagpebllaaGreatDoor.Rows.OpenSpec.upto YtijpapagpebllaaGreatDoor.Rows.topCellsSpec).at F).post enc Tryz.prog Tryz.f3 false true false false):=by
  obtain ⟨places,hx⟩:=reads os enc
  refine returnsInHanded_of_row (C:=Tryz.checked) (s:=YtijpapagpebllaaGreatDoor.Rows.OpenSpec.upto YtijpapagpebllaaGreatDoor.Rows.topCellsSpec) own started (by kernel_rfl) Tryz.func3
    (witness_row_at (enc:=enc) (C:=Tryz.checked) false (laidWorld os) #[.agg #[.int .u8 0,.int .u8 0,.slice none 0 0,.slice none 0 0]] rfl (by kernel_rfl) (by kernel_rfl) (by kernel_rfl)
      (OpenSpec.preRow_of_cond 8 hx (by kernel_rfl) (fun k hk=>by cases hk;kernel_rfl) (by kernel_rfl) (laid_met os))) ?_
  intro W base args ds gs before hval hW _ hcond _ hL _ _
  exact contract H enc W base args ds gs before hval hW (hcond _ rfl) hL
theorem jA:(YtijpapagpebllaaGreatDoor.Rows.topCellsUptoRow.inPlace == Tryz.prog.inPlace 3)=true:=by kernel_rfl
theorem jB:(YtijpapagpebllaaGreatDoor.Rows.topCellsUptoRow.unfollowed == Tryz.prog.unfollowed 3)=true:=by kernel_rfl
theorem jC:(YtijpapagpebllaaGreatDoor.Rows.topCellsUptoRow.recurses == Tryz.prog.recurses 3)=true:=by kernel_rfl
theorem jD:(YtijpapagpebllaaGreatDoor.Rows.topCellsUptoRow.named == Tryz.prog.varsNamed 3)=true:=by kernel_rfl
theorem jF:joinedFacts Tryz.prog 3 Tryz.f3 (OpenSpec.bare (YtijpapagpebllaaGreatDoor.Rows.OpenSpec.upto YtijpapagpebllaaGreatDoor.Rows.topCellsSpec)) YtijpapagpebllaaGreatDoor.Rows.topCellsUptoRow=true:=by
  unfold joinedFacts
  rw [jA,jB,jC,jD]
  kernel_rfl
theorem said:YtijpapagpebllaaGreatDoor.Rows.TopCellsUptoSaid :=
  OpenClaim.holds_of_cond 3 Tryz.f3 rfl rfl rfl rfl rfl rfl rfl ⟨rfl,rfl,rfl,rfl,rfl⟩ rfl rfl rfl rfl rfl (by kernel_rfl) Tryz.func3 jF
    (of_decide_eq_true (by kernel_rfl)) (by unfold Func.isWrapper;first | (rw [if_pos (by decide +kernel)];kernel_rfl) | (rw [if_neg (by decide +kernel)];exact ⟨rfl,rfl⟩))
    (fun os started H enc _ F=>by rw [OpenClaim.pre_eq_preRow];exact lifted os started H enc F)
theorem plain (f : FuncId) (fn : Func) (hf : YtijpapagpebllaaGreatDoor.Tryz.pinned.checked.prog.funcNamed "dross/drosstop.TopCells" = some f) (hfn : YtijpapagpebllaaGreatDoor.Tryz.pinned.checked.prog.funcs[f]? = some fn) :
    false=YtijpapagpebllaaGreatDoor.Tryz.pinned.checked.prog.looks []∧∀(j:Nat) t,fn.params[j]?=some t→YtijpapagpebllaaGreatDoor.Tryz.pinned.checked.prog.wantsStandIn t=false:=by
  obtain rfl : f = 3 := Option.some.inj ((show Tryz.prog.funcNamed "dross/drosstop.TopCells" = some 3 by kernel_rfl).symm.trans hf) |>.symm
  obtain rfl:fn=Tryz.f3:=(Option.some.inj (Tryz.func3.symm.trans hfn)).symm
  refine ⟨by kernel_rfl,fun j t ht=>?_⟩
  rw [Tryz.params3] at ht
  have hm:t∈[27]:=by simpa using Array.mem_of_getElem? ht
  have hall:([27].all fun u=>!Tryz.prog.wantsStandIn u)=true:=by kernel_rfl
  exact (show Tryz.prog.wantsStandIn t=false by simpa using List.all_eq_true.1 hall t hm)
theorem proved:YtijpapagpebllaaGreatDoor.Rows.TopCellsUptoCardSaid :=
  Claim7.holds_tied_plain_at .later [] _ _ _ _ said (fun _ h=>by cases h) (by kernel_rfl) (fun _ h=>by cases h) YtijpapagpebllaaGreatDoor.topCellsUpto_row_tie rfl ⟨rfl,rfl⟩ (by kernel_rfl) rfl plain (by kernel_rfl)
end Go.Proofs.YtijpapagpebllaaGreatDoor.TopCells
