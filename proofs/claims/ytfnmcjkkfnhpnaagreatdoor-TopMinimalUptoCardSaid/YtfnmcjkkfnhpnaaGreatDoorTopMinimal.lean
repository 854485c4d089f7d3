/- The statement TopMinimal: the arguments are read, the function is called, the answer is true. -/
import Derived.Test.YtfnmcjkkfnhpnaaGreatDoorRows
import Derived.Test.YtfnmcjkkfnhpnaaGreatDoorCards
import Derived.Test.YtfnmcjkkfnhpnaaGreatDoorTie
import Derived.Lib.LaidTab
import Derived.Deep.DeepHandedRow
import Derived.Test.YtfnmcjkkfnhpnaaGreatDoorA2
import Derived.Test.YtfnmcjkkfnhpnaaGreatDoorW1
import Derived.Test.YtfnmcjkkfnhpnaaGreatDoorL1
import Derived.Test.YtfnmcjkkfnhpnaaGreatDoorW2
import Derived.Test.YtfnmcjkkfnhpnaaGreatDoorL3
set_option linter.unusedVariables false
set_option linter.unusedSimpArgs false
namespace Go.Proofs.YtfnmcjkkfnhpnaaGreatDoor
open Go Go.Ab
abbrev bk:(H:Type)→DataW H→Nat:=fun H d=>YtfnmcjkkfnhpnaaGreatDoor.Rows.uptoBulk d
theorem bk_one {H:Type} (d:DataW H):1≤YtfnmcjkkfnhpnaaGreatDoor.Rows.uptoBulk d:=by
  cases d with
  | lit l=>cases l <;> simp [YtfnmcjkkfnhpnaaGreatDoor.Rows.uptoBulk]
  | _=>simp [YtfnmcjkkfnhpnaaGreatDoor.Rows.uptoBulk]
theorem bk_part {H:Type} {d:DataW H} {l:List (DataW H)} (h:d∈l):YtfnmcjkkfnhpnaaGreatDoor.Rows.uptoBulk d≤YtfnmcjkkfnhpnaaGreatDoor.Rows.uptoBulkAll l:=by
  induction l with
  | nil=>cases h
  | cons x r ih =>
    simp only [YtfnmcjkkfnhpnaaGreatDoor.Rows.uptoBulkAll]
    cases List.mem_cons.1 h with
    | inl e=>subst e;omega
    | inr e=>have:=ih e;omega
theorem bk_len {H:Type} (l:List (DataW H)):l.length≤YtfnmcjkkfnhpnaaGreatDoor.Rows.uptoBulkAll l:=by
  induction l with
  | nil=>simp [YtfnmcjkkfnhpnaaGreatDoor.Rows.uptoBulkAll]
  | cons x r ih=>have:=bk_one x;simp only [YtfnmcjkkfnhpnaaGreatDoor.Rows.uptoBulkAll,List.length_cons];omega
theorem bk_law:Bulk bk:=by
  refine ⟨fun H s=>?_,fun H es sp=>?_,fun H es sp d hd=>?_,fun H ps d hd=>?_⟩
  · simp [bk,YtfnmcjkkfnhpnaaGreatDoor.Rows.uptoBulk]
  · have:=bk_len es;simp only [bk,YtfnmcjkkfnhpnaaGreatDoor.Rows.uptoBulk];omega
  · have:=bk_part hd;simp only [bk,YtfnmcjkkfnhpnaaGreatDoor.Rows.uptoBulk];omega
  · have:=bk_part hd;simp only [bk,YtfnmcjkkfnhpnaaGreatDoor.Rows.uptoBulk];omega
theorem bk_small {H:Type} {ds:List (DataW H)} (h:YtfnmcjkkfnhpnaaGreatDoor.Rows.uptoSmall H ds=true) {d:DataW H} (hd:d∈ds):bk H d≤1048576:=Nat.le_trans (bk_part hd) (of_decide_eq_true h)
theorem rd5:Rd Tryz.prog bk 5 (PV.int .u8) (okI .u8):=vl8 Tryz.underlying5 (by kernel_rfl)
theorem rd26:Rd Tryz.prog bk 26 (qbh (PV.int .u8)) (okL (okI .u8)):=qsc Tryz.underlying26 (by kernel_rfl) (by rw [show Tryz.prog.cellsOf 5=1 by kernel_rfl];omega) bk_law rd5
theorem rd22:Rd Tryz.prog bk 22 (qbh (qbh (PV.int .u8))) (okL (okL (okI .u8))):=qsc Tryz.underlying22 (by kernel_rfl) (by rw [show Tryz.prog.cellsOf 26=1 by kernel_rfl];omega) bk_law rd26
theorem rd24:Rd Tryz.prog bk 24 qao qfv:=by
  refine qh1 Tryz.underlying24 (by kernel_rfl) bk_law (RdFs.cons rd5 (RdFs.cons rd5 (RdFs.cons rd22 RdFs.nil))) (fun x=>⟨x.1,x.2.1,x.2.2.1⟩) (fun x=>by rw [show Tryz.prog.cellsOf 24=3 by kernel_rfl];rfl) ?_ (fun _=>rfl) (fun _=>rfl) ?_
  · intro x y hy
    simp only [qkm,List.mem_cons,List.not_mem_nil,or_false] at hy
    rcases hy with rfl | rfl | rfl <;> exact ⟨rfl,rfl⟩
  · rintro ⟨x0,x1,x2,⟨⟩⟩ h
    simp only [qfv] at h ⊢
    simp_all
theorem rd116:Rd Tryz.prog bk 116 qb2 qhj:=by
  refine qh1 Tryz.underlying116 (by kernel_rfl) bk_law (RdFs.cons rd5 (RdFs.cons rd5 RdFs.nil)) (fun x=>⟨x.1,x.2.1⟩) (fun x=>by rw [show Tryz.prog.cellsOf 116=2 by kernel_rfl];rfl) ?_ (fun _=>rfl) (fun _=>rfl) ?_
  · intro x y hy
    simp only [qmh,List.mem_cons,List.not_mem_nil,or_false] at hy
    rcases hy with rfl | rfl <;> exact ⟨rfl,rfl⟩
  · rintro ⟨x0,x1,⟨⟩⟩ h
    simp only [qhj] at h ⊢
    simp_all
theorem rd118:Rd Tryz.prog bk 118 qaw qgi:=by
  refine qh1 Tryz.underlying118 (by kernel_rfl) bk_law (RdFs.cons rd5 (RdFs.cons rd5 (RdFs.cons rd26 RdFs.nil))) (fun x=>⟨x.1,x.2.1,x.2.2.1⟩) (fun x=>by rw [show Tryz.prog.cellsOf 118=3 by kernel_rfl];rfl) ?_ (fun _=>rfl) (fun _=>rfl) ?_
  · intro x y hy
    simp only [qlc,List.mem_cons,List.not_mem_nil,or_false] at hy
    rcases hy with rfl | rfl | rfl <;> exact ⟨rfl,rfl⟩
  · rintro ⟨x0,x1,x2,⟨⟩⟩ h
    simp only [qgi] at h ⊢
    simp_all
theorem rd120:Rd Tryz.prog bk 120 qcl qgj:=by
  refine qh1 Tryz.underlying120 (by kernel_rfl) bk_law (RdFs.cons rd26 (RdFs.cons rd26 RdFs.nil)) (fun x=>⟨x.1,x.2.1⟩) (fun x=>by rw [show Tryz.prog.cellsOf 120=2 by kernel_rfl];rfl) ?_ (fun _=>rfl) (fun _=>rfl) ?_
  · intro x y hy
    simp only [qld,List.mem_cons,List.not_mem_nil,or_false] at hy
    rcases hy with rfl | rfl <;> exact ⟨rfl,rfl⟩
  · rintro ⟨x0,x1,⟨⟩⟩ h
    simp only [qgj] at h ⊢
    simp_all
theorem rd262:Rd Tryz.prog bk 262 qbp qfn:=by
  refine qh1 Tryz.underlying262 (by kernel_rfl) bk_law (RdFs.cons rd5 (RdFs.cons rd5 RdFs.nil)) (fun x=>⟨x.1,x.2.1⟩) (fun x=>by rw [show Tryz.prog.cellsOf 262=2 by kernel_rfl];rfl) ?_ (fun _=>rfl) (fun _=>rfl) ?_
  · intro x y hy
    simp only [ql0,List.mem_cons,List.not_mem_nil,or_false] at hy
    rcases hy with rfl | rfl <;> exact ⟨rfl,rfl⟩
  · rintro ⟨x0,x1,⟨⟩⟩ h
    simp only [qfn] at h ⊢
    simp_all
theorem rd264:Rd Tryz.prog bk 264 qag qe3:=by
  refine qh1 Tryz.underlying264 (by kernel_rfl) bk_law (RdFs.cons rd262 (RdFs.cons rd5 (RdFs.cons rd262 RdFs.nil))) (fun x=>⟨x.1,x.2.1,x.2.2.1⟩) (fun x=>by rw [show Tryz.prog.cellsOf 264=5 by kernel_rfl];rfl) ?_ (fun _=>rfl) (fun _=>rfl) ?_
  · intro x y hy
    simp only [qjo,List.mem_cons,List.not_mem_nil,or_false] at hy
    rcases hy with rfl | rfl | rfl | rfl | rfl <;> exact ⟨rfl,rfl⟩
  · rintro ⟨x0,x1,x2,⟨⟩⟩ h
    simp only [qe3] at h ⊢
    simp_all
theorem rd121:Rd Tryz.prog bk 121 (qbh qag) (okL qe3):=qsc Tryz.underlying121 (by kernel_rfl) (by rw [show Tryz.prog.cellsOf 264=5 by kernel_rfl];omega) bk_law rd264
theorem rd123:Rd Tryz.prog bk 123 qa8 qfw:=by
  refine qh1 Tryz.underlying123 (by kernel_rfl) bk_law (RdFs.cons rd5 (RdFs.cons rd121 RdFs.nil)) (fun x=>⟨x.1,x.2.1⟩) (fun x=>by rw [show Tryz.prog.cellsOf 123=2 by kernel_rfl];rfl) ?_ (fun _=>rfl) (fun _=>rfl) ?_
  · intro x y hy
    simp only [qkn,List.mem_cons,List.not_mem_nil,or_false] at hy
    rcases hy with rfl | rfl <;> exact ⟨rfl,rfl⟩
  · rintro ⟨x0,x1,⟨⟩⟩ h
    simp only [qfw] at h ⊢
    simp_all
theorem rd125:Rd Tryz.prog bk 125 qan qd6:=by
  refine qh1 Tryz.underlying125 (by kernel_rfl) bk_law (RdFs.cons rd5 (RdFs.cons rd116 (RdFs.cons rd118 (RdFs.cons rd120 (RdFs.cons rd123 RdFs.nil))))) (fun x=>⟨x.1,x.2.1,x.2.2.1,x.2.2.2.1,x.2.2.2.2.1⟩) (fun x=>by rw [show Tryz.prog.cellsOf 125=10 by kernel_rfl];rfl) ?_ (fun _=>rfl) (fun _=>rfl) ?_
  · intro x y hy
    simp only [ql1,List.mem_cons,List.not_mem_nil,or_false] at hy
    rcases hy with rfl | rfl | rfl | rfl | rfl | rfl | rfl | rfl | rfl | rfl <;> exact ⟨rfl,rfl⟩
  · rintro ⟨x0,x1,x2,x3,x4,⟨⟩⟩ h
    simp only [qd6] at h ⊢
    simp_all
theorem rd25:Rd Tryz.prog bk 25 (qbh qan) (okL qd6):=qsc Tryz.underlying25 (by kernel_rfl) (by rw [show Tryz.prog.cellsOf 125=10 by kernel_rfl];omega) bk_law rd125
theorem rd28:Rd Tryz.prog bk 28 qbq qg4:=by
  refine qh1 Tryz.underlying28 (by kernel_rfl) bk_law (RdFs.cons rd24 (RdFs.cons rd25 (RdFs.cons rd26 RdFs.nil))) (fun x=>⟨x.1,x.2.1,x.2.2.1⟩) (fun x=>by rw [show Tryz.prog.cellsOf 28=5 by kernel_rfl];rfl) ?_ (fun _=>rfl) (fun _=>rfl) ?_
  · intro x y hy
    simp only [ql2,List.mem_cons,List.not_mem_nil,or_false] at hy
    rcases hy with rfl | rfl | rfl | rfl | rfl <;> exact ⟨rfl,rfl⟩
  · rintro ⟨x0,x1,x2,⟨⟩⟩ h
    simp only [qg4] at h ⊢
    simp_all
end Go.Proofs.YtfnmcjkkfnhpnaaGreatDoor
namespace Go.Proofs.YtfnmcjkkfnhpnaaGreatDoor.TopMinimal
open Go Go.Ab Go.ChangeShapes
theorem own:ownKnob Tryz.prog.godebug=none:=by kernel_rfl
theorem gTab : Tryz.prog.globalNamed "math/bits.deBruijn32tab" = some 0 := by kernel_rfl
theorem gTabType:(Tryz.prog.globals[0]?).map (·.type)=some 339:=by kernel_rfl
theorem gCells:Tryz.prog.cellsOf 339=32:=by kernel_rfl
theorem eCells:Tryz.prog.cellsOf 5=1:=by kernel_rfl
theorem table {W : World} (h : laidMetH Tryz.prog YtfnmcjkkfnhpnaaGreatDoor.Rows.topMinimalUptoRow.laid W) : Lib.TabIs Tryz.prog W "math/bits.deBruijn32tab" .u8 qkg :=
  Lib.tabIs_of_head (rest:=[]) gTab gTabType Tryz.underlying339 Tryz.underlying5 eCells gCells h
theorem tabOk {W:World} (h:laidMetH Tryz.prog YtfnmcjkkfnhpnaaGreatDoor.Rows.topMinimalUptoRow.laid W):Go.Ab.TabOk Tryz.prog NoX W:=by
  intro g hg
  obtain rfl:=Option.some.inj (gTab.symm.trans hg)
  have hc:∀i,i < 32→W.cell? ⟨0,i,none⟩=some (.int .u8 (qkg.getD i 0)):=fun i hi=>(table h).cell gTab i (by simpa [qkg] using hi)
  refine ⟨World.block_lt_of_cell? W _ (hc 0 (by omega)),fun h=>h,fun j u hu=>?_⟩
  rw [List.getElem?_map] at hu
  cases hj:qkg[j]? with
  | none=>rw [hj] at hu;cases hu
  | some z =>
    rw [hj] at hu
    simp only [Option.map_some,Option.some.injEq] at hu
    subst hu
    have hlt:j < 32:=by have:=(List.getElem?_eq_some_iff.1 hj).1;simpa [qkg] using this
    have:=hc j hlt
    rw [List.getD_eq_getElem?_getD,hj] at this
    simpa using this
set_option maxRecDepth 100000 in
theorem contract (H:Type) (enc:TypeId×Go.Value→H) (W:World) (base:Nat) (args:Array Go.Value) (ds gs:List (DataW H)) (qjc:List MemPlace)
    (hval:∀(j:Nat) t v,Tryz.f3.params[j]?=some t→args[j]?=some v→Go.Value.okWide Tryz.prog W .any base t v)
    (hW:DataW.Whole enc Tryz.prog Tryz.f3.params.toList YtfnmcjkkfnhpnaaGreatDoor.Rows.topMinimalSpec.vars false W args.toList ds gs qjc) (hk:YtfnmcjkkfnhpnaaGreatDoor.Rows.uptoSmall H (ds++gs)=true) (hL:laidMetH Tryz.prog YtfnmcjkkfnhpnaaGreatDoor.Rows.topMinimalUptoRow.laid W) :
    Calls Tryz.prog 3 args W fun e W'=>∃v,e=.returned v∧YtfnmcjkkfnhpnaaGreatDoor.Rows.topMinimalSpec.post enc Tryz.prog Tryz.f3 false true false false W args v W':=by
  have hW0:=hW
  obtain ⟨p,q,hA,hV,rfl,hfz,hnd⟩:=hW0
  rw [Tryz.params3] at hA hval
  obtain ⟨v0,vs0,d0,ds0,p0,q0,hargs0,rfl,rfl,h0,r0⟩:=trodAll_cons hA
  obtain ⟨v1,vs1,d1,ds1,p1,q1,hargs1,rfl,rfl,h1,r1⟩:=trodAll_cons r0
  obtain ⟨rfl,rfl,rfl⟩:=trodAll_nil r1
  obtain rfl:args=#[v0,v1]:=by cases args;simp_all
  obtain ⟨rfl,rfl⟩:=trodVars_none hV
  obtain ⟨x0,hx0,ok0⟩:=rd28.val (hval 0 28 v0 rfl rfl) h0 (bk_small hk (by simp))
  obtain ⟨x1,hx1,ok1⟩:=rd5.val (hval 1 5 v1 rfl rfl) h1 (bk_small hk (by simp))
  exact vbu (D:=False) hW rfl rfl rfl Tryz.underlying4 (by kernel_rfl) (by kernel_rfl) (by kernel_rfl) (by rw [Tryz.params3];decide +kernel) (qmn x0 x1 _ (qr8 x0 x1 ok0 ok1)) (tabOk hL) ⟨_,_,rfl,hx0,⟨_,_,rfl,hx1,rfl⟩⟩
noncomputable def laidWorld (os:Os):World :=
  { World.holding Tryz.prog os ⟨#[],#[],[]⟩ with heap:=(World.holding Tryz.prog os ⟨#[],#[],[]⟩).heap.modify 0 fun
      | .cells _ t frozen=>.cells #[.int .u8 0,.int .u8 1,.int .u8 28,.int .u8 2,.int .u8 29,.int .u8 14,.int .u8 24,.int .u8 3,.int .u8 30,.int .u8 22,.int .u8 20,.int .u8 15,.int .u8 25,.int .u8 17,.int .u8 4,.int .u8 8,.int .u8 31,.int .u8 27,.int .u8 13,.int .u8 23,.int .u8 21,.int .u8 19,.int .u8 16,.int .u8 7,.int .u8 26,.int .u8 12,.int .u8 18,.int .u8 6,.int .u8 11,.int .u8 5,.int .u8 10,.int .u8 9] t frozen
      | o=>o }
theorem laid_met (os:Os):laidMet Tryz.prog YtfnmcjkkfnhpnaaGreatDoor.Rows.topMinimalUptoRow.laid ((laidWorld os).forCall (fun _ _=>0) ⟨#[],#[.agg #[.int .u8 0,.int .u8 0,.slice none 0 0,.slice none 0 0,.slice none 0 0],.int .u8 0],[]⟩).memory :=
  laidMet_of_run' 8 (by kernel_rfl) (by kernel_rfl)
theorem reads (os:Os) {H:Type} (enc:TypeId×Go.Value→H):∃places,DataW.whole enc Tryz.prog ((laidWorld os).forCall (fun _ _=>0) ⟨#[],#[.agg #[.int .u8 0,.int .u8 0,.slice none 0 0,.slice none 0 0,.slice none 0 0],.int .u8 0],[]⟩).memory Tryz.f3.params.toList YtfnmcjkkfnhpnaaGreatDoor.Rows.topMinimalSpec.vars false (#[.agg #[.int .u8 0,.int .u8 0,.slice none 0 0,.slice none 0 0,.slice none 0 0],.int .u8 0]:Array Go.Value).toList 8=some ([.agg [.agg [.lit (.int .u8 0),.lit (.int .u8 0),.nil],.nil,.nil],.lit (.int .u8 0)],[],places) :=
  ⟨[],by kernel_rfl⟩
set_option maxRecDepth 100000 in
theorem lifted (os:Os) (started:os.Started) (H:Type) (enc:TypeId×Go.Value→H) (F:Stop.Interp) :
    ReturnsInHanded {} Tryz.checked os 3 .any ((YtfnmcjkkfnhpnaaGreatDoor.Rows.OpenSpec.upto YtfnmcjkkfnhpnaaGreatDoor.Rows.topMinimalSpec).preRow enc Tryz.prog Tryz.f3 YtfnmcjkkfnhpnaaGreatDoor.Rows.topMinimalUptoRow.domain false YtfnmcjkkfnhpnaaGreatDoor.Rows.topMinimalUptoRow.laid) (((YtfnmcjkkfnhpnaaGreatDoor.Rows.OpenSpec.upto YtfnmcjkkfnhpnaaGreatDoor.Rows.topMinimalSpec).at F).post enc Tryz.prog Tryz.f3 false true false false):=by
  obtain ⟨places,hx⟩:=reads os enc
  refine returnsInHanded_of_row (C:=Tryz.checked) (s:=YtfnmcjkkfnhpnaaGreatDoor.Rows.OpenSpec.upto YtfnmcjkkfnhpnaaGreatDoor.Rows.topMinimalSpec) own started (by kernel_rfl) Tryz.func3
    (witness_row_at (enc:=enc) (C:=Tryz.checked) false (laidWorld os) #[.agg #[.int .u8 0,.int .u8 0,.slice none 0 0,.slice none 0 0,.slice none 0 0],.int .u8 0] rfl (by kernel_rfl) (by kernel_rfl) (by kernel_rfl)
      (OpenSpec.preRow_of_cond 8 hx (by kernel_rfl) (fun k hk=>by cases hk;kernel_rfl) (by kernel_rfl) (laid_met os))) ?_
  intro W base args ds gs qjc hval hW _ hcond _ hL _ _
  exact contract H enc W base args ds gs qjc hval hW (hcond _ rfl) hL
theorem said:YtfnmcjkkfnhpnaaGreatDoor.Rows.TopMinimalUptoSaid :=
  OpenClaim.holds_of_cond 3 Tryz.f3 rfl rfl rfl rfl rfl rfl rfl ⟨rfl,rfl,rfl,rfl,rfl⟩ rfl rfl rfl rfl rfl (by kernel_rfl) Tryz.func3 (by kernel_rfl)
    (of_decide_eq_true (by kernel_rfl)) (by unfold Func.isWrapper;first | (rw [if_pos (by decide +kernel)];kernel_rfl) | (rw [if_neg (by decide +kernel)];exact ⟨rfl,rfl⟩))
    (fun os started H enc _ F=>by rw [OpenClaim.pre_eq_preRow];exact lifted os started H enc F)
theorem plain (f : FuncId) (fn : Func) (hf : YtfnmcjkkfnhpnaaGreatDoor.Tryz.pinned.checked.prog.funcNamed "dross/drosstop.TopMinimal" = some f) (hfn : YtfnmcjkkfnhpnaaGreatDoor.Tryz.pinned.checked.prog.funcs[f]? = some fn) :
    false=YtfnmcjkkfnhpnaaGreatDoor.Tryz.pinned.checked.prog.looks []∧∀(j:Nat) t,fn.params[j]?=some t→YtfnmcjkkfnhpnaaGreatDoor.Tryz.pinned.checked.prog.wantsStandIn t=false:=by
  obtain rfl : f = 3 := Option.some.inj ((show Tryz.prog.funcNamed "dross/drosstop.TopMinimal" = some 3 by kernel_rfl).symm.trans hf) |>.symm
  obtain rfl:fn=Tryz.f3:=(Option.some.inj (Tryz.func3.symm.trans hfn)).symm
  refine ⟨by kernel_rfl,fun j t ht=>?_⟩
  rw [Tryz.params3] at ht
  have hm:t∈[28,5]:=by simpa using Array.mem_of_getElem? ht
  have hall:([28,5].all fun u=>!Tryz.prog.wantsStandIn u)=true:=by kernel_rfl
  exact (show Tryz.prog.wantsStandIn t=false by simpa using List.all_eq_true.1 hall t hm)
theorem proved:YtfnmcjkkfnhpnaaGreatDoor.Rows.TopMinimalUptoCardSaid :=
  Claim7.holds_tied_plain_at .later [] _ _ _ _ said (fun _ h=>by cases h) (by kernel_rfl) (fun _ h=>by cases h) YtfnmcjkkfnhpnaaGreatDoor.topMinimalUpto_row_tie rfl ⟨rfl,rfl⟩ (by kernel_rfl) rfl plain (by kernel_rfl)
end Go.Proofs.YtfnmcjkkfnhpnaaGreatDoor.TopMinimal
