/- The statement LinkageValid: the arguments are read, the function is called, the answer is true. -/
import Derived.Test.YtmlegeeinnkhkaaGreatRows
import Derived.Test.YtmlegeeinnkhkaaGreatA2
import Derived.Test.YtmlegeeinnkhkaaGreatW1
import Derived.Test.YtmlegeeinnkhkaaGreatL1
import Derived.Test.YtmlegeeinnkhkaaGreatW2
import Derived.Test.YtmlegeeinnkhkaaGreatL2
set_option linter.unusedVariables false
set_option linter.unusedSimpArgs false
namespace Go.Proofs.YtmlegeeinnkhkaaGreat
open Go Go.Ab
abbrev bk:(H:Type)→DataW H→Nat:=fun H d=>YtmlegeeinnkhkaaGreat.Rows.uptoBulk d
theorem bk_one {H:Type} (d:DataW H):1≤YtmlegeeinnkhkaaGreat.Rows.uptoBulk d:=by
  cases d with
  | lit l=>cases l <;> simp [YtmlegeeinnkhkaaGreat.Rows.uptoBulk]
  | _=>simp [YtmlegeeinnkhkaaGreat.Rows.uptoBulk]
theorem bk_part {H:Type} {d:DataW H} {l:List (DataW H)} (h:d∈l):YtmlegeeinnkhkaaGreat.Rows.uptoBulk d≤YtmlegeeinnkhkaaGreat.Rows.uptoBulkAll l:=by
  induction l with
  | nil=>cases h
  | cons x r ih =>
    simp only [YtmlegeeinnkhkaaGreat.Rows.uptoBulkAll]
    cases List.mem_cons.1 h with
    | inl e=>subst e;omega
    | inr e=>have:=ih e;omega
theorem bk_len {H:Type} (l:List (DataW H)):l.length≤YtmlegeeinnkhkaaGreat.Rows.uptoBulkAll l:=by
  induction l with
  | nil=>simp [YtmlegeeinnkhkaaGreat.Rows.uptoBulkAll]
  | cons x r ih=>have:=bk_one x;simp only [YtmlegeeinnkhkaaGreat.Rows.uptoBulkAll,List.length_cons];omega
theorem bk_law:Bulk bk:=by
  refine ⟨fun H s=>?_,fun H es sp=>?_,fun H es sp d hd=>?_,fun H ps d hd=>?_⟩
  · simp [bk,YtmlegeeinnkhkaaGreat.Rows.uptoBulk]
  · have:=bk_len es;simp only [bk,YtmlegeeinnkhkaaGreat.Rows.uptoBulk];omega
  · have:=bk_part hd;simp only [bk,YtmlegeeinnkhkaaGreat.Rows.uptoBulk];omega
  · have:=bk_part hd;simp only [bk,YtmlegeeinnkhkaaGreat.Rows.uptoBulk];omega
theorem bk_small {H:Type} {ds:List (DataW H)} (h:YtmlegeeinnkhkaaGreat.Rows.uptoSmall H ds=true) {d:DataW H} (hd:d∈ds):bk H d≤1048576:=Nat.le_trans (bk_part hd) (of_decide_eq_true h)
theorem rd3:Rd Tryz.prog bk 3 (PV.int .i64) (okI .i64):=Rd_int Tryz.underlying3 (by kernel_rfl)
theorem rd2:Rd Tryz.prog bk 2 (PV.int .i64) (okI .i64):=Rd_int Tryz.underlying2 (by kernel_rfl)
theorem rd95:Rd Tryz.prog bk 95 encSimilar okSimilar:=by
  refine Rd_struct Tryz.underlying95 (by kernel_rfl) bk_law (RdFs.cons rd3 (RdFs.cons rd3 (RdFs.cons rd2 RdFs.nil))) (fun x=>⟨x.1,x.2.1,x.2.2.1⟩) (fun x=>by rw [show Tryz.prog.cellsOf 95=3 by kernel_rfl];rfl) ?_ (fun _=>rfl) (fun _=>rfl) ?_
  · intro x y hy
    simp only [encSimilar_cells,List.mem_cons,List.not_mem_nil,or_false] at hy
    rcases hy with rfl | rfl | rfl <;> exact ⟨rfl,rfl⟩
  · rintro ⟨x0,x1,x2,⟨⟩⟩ h
    simp only [okSimilar] at h ⊢
    simp_all
theorem rd93:Rd Tryz.prog bk 93 (encL encSimilar) (okL okSimilar):=Rd_slice Tryz.underlying93 (by kernel_rfl) (by rw [show Tryz.prog.cellsOf 95=3 by kernel_rfl];omega) bk_law rd95
theorem rd22:Rd Tryz.prog bk 22 (encL (encL encSimilar)) (okL (okL okSimilar)):=Rd_slice Tryz.underlying22 (by kernel_rfl) (by rw [show Tryz.prog.cellsOf 93=1 by kernel_rfl];omega) bk_law rd93
theorem rd23:Rd Tryz.prog bk 23 (encL (PV.int .i64)) (okL (okI .i64)):=Rd_slice Tryz.underlying23 (by kernel_rfl) (by rw [show Tryz.prog.cellsOf 3=1 by kernel_rfl];omega) bk_law rd3
theorem rd25:Rd Tryz.prog bk 25 encLinkage okLinkage:=by
  refine Rd_struct Tryz.underlying25 (by kernel_rfl) bk_law (RdFs.cons rd22 (RdFs.cons rd23 (RdFs.cons rd23 RdFs.nil))) (fun x=>⟨x.1,x.2.1,x.2.2.1⟩) (fun x=>by rw [show Tryz.prog.cellsOf 25=3 by kernel_rfl];rfl) ?_ (fun _=>rfl) (fun _=>rfl) ?_
  · intro x y hy
    simp only [encLinkage_cells,List.mem_cons,List.not_mem_nil,or_false] at hy
    rcases hy with rfl | rfl | rfl <;> exact ⟨rfl,rfl⟩
  · rintro ⟨x0,x1,x2,⟨⟩⟩ h
    simp only [okLinkage] at h ⊢
    simp_all
theorem rd5:Rd Tryz.prog bk 5 (PV.int .u8) (okI .u8):=Rd_int Tryz.underlying5 (by kernel_rfl)
theorem rd35:Rd Tryz.prog bk 35 (encL (PV.int .u8)) (okL (okI .u8)):=Rd_slice Tryz.underlying35 (by kernel_rfl) (by rw [show Tryz.prog.cellsOf 5=1 by kernel_rfl];omega) bk_law rd5
theorem rd31:Rd Tryz.prog bk 31 (encL (encL (PV.int .u8))) (okL (okL (okI .u8))):=Rd_slice Tryz.underlying31 (by kernel_rfl) (by rw [show Tryz.prog.cellsOf 35=1 by kernel_rfl];omega) bk_law rd35
theorem rd33:Rd Tryz.prog bk 33 encDrossref03_Recipe okDrossref03_Recipe:=by
  refine Rd_struct Tryz.underlying33 (by kernel_rfl) bk_law (RdFs.cons rd5 (RdFs.cons rd5 (RdFs.cons rd31 RdFs.nil))) (fun x=>⟨x.1,x.2.1,x.2.2.1⟩) (fun x=>by rw [show Tryz.prog.cellsOf 33=3 by kernel_rfl];rfl) ?_ (fun _=>rfl) (fun _=>rfl) ?_
  · intro x y hy
    simp only [encDrossref03_Recipe_cells,List.mem_cons,List.not_mem_nil,or_false] at hy
    rcases hy with rfl | rfl | rfl <;> exact ⟨rfl,rfl⟩
  · rintro ⟨x0,x1,x2,⟨⟩⟩ h
    simp only [okDrossref03_Recipe] at h ⊢
    simp_all
theorem rd51:Rd Tryz.prog bk 51 encDrossref56_Test okDrossref56_Test:=by
  refine Rd_struct Tryz.underlying51 (by kernel_rfl) bk_law (RdFs.cons rd5 (RdFs.cons rd5 (RdFs.cons rd5 RdFs.nil))) (fun x=>⟨x.1,x.2.1,x.2.2.1⟩) (fun x=>by rw [show Tryz.prog.cellsOf 51=3 by kernel_rfl];rfl) ?_ (fun _=>rfl) (fun _=>rfl) ?_
  · intro x y hy
    simp only [encDrossref56_Test_cells,List.mem_cons,List.not_mem_nil,or_false] at hy
    rcases hy with rfl | rfl | rfl <;> exact ⟨rfl,rfl⟩
  · rintro ⟨x0,x1,x2,⟨⟩⟩ h
    simp only [okDrossref56_Test] at h ⊢
    simp_all
theorem rd55:Rd Tryz.prog bk 55 (encL encDrossref56_Test) (okL okDrossref56_Test):=Rd_slice Tryz.underlying55 (by kernel_rfl) (by rw [show Tryz.prog.cellsOf 51=3 by kernel_rfl];omega) bk_law rd51
theorem rd34:Rd Tryz.prog bk 34 (encL (encL encDrossref56_Test)) (okL (okL okDrossref56_Test)):=Rd_slice Tryz.underlying34 (by kernel_rfl) (by rw [show Tryz.prog.cellsOf 55=1 by kernel_rfl];omega) bk_law rd55
theorem rd37:Rd Tryz.prog bk 37 encDrossref56_Draft okDrossref56_Draft:=by
  refine Rd_struct Tryz.underlying37 (by kernel_rfl) bk_law (RdFs.cons rd34 (RdFs.cons rd5 (RdFs.cons rd35 RdFs.nil))) (fun x=>⟨x.1,x.2.1,x.2.2.1⟩) (fun x=>by rw [show Tryz.prog.cellsOf 37=3 by kernel_rfl];rfl) ?_ (fun _=>rfl) (fun _=>rfl) ?_
  · intro x y hy
    simp only [encDrossref56_Draft_cells,List.mem_cons,List.not_mem_nil,or_false] at hy
    rcases hy with rfl | rfl | rfl <;> exact ⟨rfl,rfl⟩
  · rintro ⟨x0,x1,x2,⟨⟩⟩ h
    simp only [okDrossref56_Draft] at h ⊢
    simp_all
theorem rd63:Rd Tryz.prog bk 63 (encL (PV.int .i64)) (okL (okI .i64)):=Rd_slice Tryz.underlying63 (by kernel_rfl) (by rw [show Tryz.prog.cellsOf 2=1 by kernel_rfl];omega) bk_law rd2
theorem rd52:Rd Tryz.prog bk 52 (encL (encL (PV.int .i64))) (okL (okL (okI .i64))):=Rd_slice Tryz.underlying52 (by kernel_rfl) (by rw [show Tryz.prog.cellsOf 63=1 by kernel_rfl];omega) bk_law rd63
theorem rd58:Rd Tryz.prog bk 58 encArr2_int64 okArr2_int64:=by
  refine Rd_array (fs := [⟨ "", 2, 0, false, "", "", 0⟩, ⟨ "", 2, 1, false, "", "", 0⟩]) Tryz.underlying58 (by rw [show Tryz.prog.cellsOf 2 = 1 by kernel_rfl]; rfl) (by kernel_rfl) bk_law (RdFs.cons (fd := ⟨ "", 2, 0, false, "", "", 0⟩) rd2 (RdFs.cons (fd := ⟨ "", 2, 1, false, "", "", 0⟩) rd2 RdFs.nil)) (fun x => ⟨x.1, x.2.1⟩) (fun x => by rw [show Tryz.prog.cellsOf 58 = 2 by kernel_rfl]; rfl) ?_ (fun _ => rfl) (fun _ => rfl) ?_
  · intro x y hy
    simp only [encArr2_int64_cells,List.mem_cons,List.not_mem_nil,or_false] at hy
    rcases hy with rfl | rfl <;> exact ⟨rfl,rfl⟩
  · rintro ⟨x0,x1,⟨⟩⟩ h
    simp only [okArr2_int64] at h ⊢
    simp_all
theorem rd9:Rd Tryz.prog bk 9 PV.str okS:=Rd_str Tryz.underlying9 (by kernel_rfl) bk_law
theorem rd38:Rd Tryz.prog bk 38 (encL PV.str) (okL okS):=Rd_slice Tryz.underlying38 (by kernel_rfl) (by rw [show Tryz.prog.cellsOf 9=1 by kernel_rfl];omega) bk_law rd9
theorem rd142:Rd Tryz.prog bk 142 encValue okValue:=by
  refine Rd_struct Tryz.underlying142 (by kernel_rfl) bk_law (RdFs.cons rd3 (RdFs.cons rd2 (RdFs.cons rd9 RdFs.nil))) (fun x=>⟨x.1,x.2.1,x.2.2.1⟩) (fun x=>by rw [show Tryz.prog.cellsOf 142=3 by kernel_rfl];rfl) ?_ (fun _=>rfl) (fun _=>rfl) ?_
  · intro x y hy
    simp only [encValue_cells,List.mem_cons,List.not_mem_nil,or_false] at hy
    rcases hy with rfl | rfl | rfl <;> exact ⟨rfl,rfl⟩
  · rintro ⟨x0,x1,x2,⟨⟩⟩ h
    simp only [okValue] at h ⊢
    simp_all
theorem rd64:Rd Tryz.prog bk 64 (encL encValue) (okL okValue):=Rd_slice Tryz.underlying64 (by kernel_rfl) (by rw [show Tryz.prog.cellsOf 142=3 by kernel_rfl];omega) bk_law rd142
theorem rd66:Rd Tryz.prog bk 66 encRow okRow:=by
  refine Rd_struct Tryz.underlying66 (by kernel_rfl) bk_law (RdFs.cons rd2 (RdFs.cons rd64 RdFs.nil)) (fun x=>⟨x.1,x.2.1⟩) (fun x=>by rw [show Tryz.prog.cellsOf 66=2 by kernel_rfl];rfl) ?_ (fun _=>rfl) (fun _=>rfl) ?_
  · intro x y hy
    simp only [encRow_cells,List.mem_cons,List.not_mem_nil,or_false] at hy
    rcases hy with rfl | rfl <;> exact ⟨rfl,rfl⟩
  · rintro ⟨x0,x1,⟨⟩⟩ h
    simp only [okRow] at h ⊢
    simp_all
theorem rd39:Rd Tryz.prog bk 39 (encL encRow) (okL okRow):=Rd_slice Tryz.underlying39 (by kernel_rfl) (by rw [show Tryz.prog.cellsOf 66=2 by kernel_rfl];omega) bk_law rd66
theorem rd41:Rd Tryz.prog bk 41 encTable okTable:=by
  refine Rd_struct Tryz.underlying41 (by kernel_rfl) bk_law (RdFs.cons rd9 (RdFs.cons rd38 (RdFs.cons rd39 RdFs.nil))) (fun x=>⟨x.1,x.2.1,x.2.2.1⟩) (fun x=>by rw [show Tryz.prog.cellsOf 41=3 by kernel_rfl];rfl) ?_ (fun _=>rfl) (fun _=>rfl) ?_
  · intro x y hy
    simp only [encTable_cells,List.mem_cons,List.not_mem_nil,or_false] at hy
    rcases hy with rfl | rfl | rfl <;> exact ⟨rfl,rfl⟩
  · rintro ⟨x0,x1,x2,⟨⟩⟩ h
    simp only [okTable] at h ⊢
    simp_all
end Go.Proofs.YtmlegeeinnkhkaaGreat
namespace Go.Proofs.YtmlegeeinnkhkaaGreat.LinkageValid
open Go Go.Ab Go.ChangeShapes
theorem own:ownKnob Tryz.prog.godebug=none:=by kernel_rfl
set_option maxRecDepth 100000 in
theorem contract (H:Type) (enc:TypeId×Go.Value→H) (W:World) (base:Nat) (args:Array Go.Value) (ds gs:List (DataW H)) (before:List MemPlace)
    (hval:∀(j:Nat) t v,Tryz.f3.params[j]?=some t→args[j]?=some v→Go.Value.okWide Tryz.prog W .any base t v)
    (hW:DataW.Whole enc Tryz.prog Tryz.f3.params.toList YtmlegeeinnkhkaaGreat.Rows.linkageValidSpec.vars false W args.toList ds gs before) (hk:YtmlegeeinnkhkaaGreat.Rows.uptoSmall H (ds++gs)=true) :
    Calls Tryz.prog 3 args W fun e W'=>∃v,e=.returned v∧YtmlegeeinnkhkaaGreat.Rows.linkageValidSpec.post enc Tryz.prog Tryz.f3 false true false false W args v W':=by
  have hW0:=hW
  obtain ⟨p,q,hA,hV,rfl,hfz,hnd⟩:=hW0
  rw [Tryz.params3] at hA hval
  obtain ⟨v0,vs0,d0,ds0,p0,q0,hargs0,rfl,rfl,h0,r0⟩:=trodAll_cons hA
  obtain ⟨v1,vs1,d1,ds1,p1,q1,hargs1,rfl,rfl,h1,r1⟩:=trodAll_cons r0
  obtain ⟨rfl,rfl,rfl⟩:=trodAll_nil r1
  obtain rfl:args=#[v0,v1]:=by cases args;simp_all
  obtain ⟨rfl,rfl⟩:=trodVars_none hV
  obtain ⟨x0,hx0,ok0⟩:=rd3.val (hval 0 3 v0 rfl rfl) h0 (bk_small hk (by simp))
  obtain ⟨x1,hx1,ok1⟩:=rd25.val (hval 1 25 v1 rfl rfl) h1 (bk_small hk (by simp))
  exact law_post (D := False) hW rfl rfl rfl Tryz.underlying4 (by kernel_rfl) (by kernel_rfl) (by kernel_rfl) (by rw [Tryz.params3]; decide +kernel) (drosslaw56_LinkageValid_con x0 x1 _ (LinkageValid_holds x0 x1 ok0 ok1)) (fun g hg => by rw [show Tryz.prog.globalNamed "math/bits.deBruijn32tab" = none by kernel_rfl] at hg; cases hg) ⟨_, _, rfl, hx0, ⟨_, _, rfl, hx1, rfl⟩⟩
set_option maxRecDepth 100000 in
theorem lifted (os:Os) (started:os.Started) (H:Type) (enc:TypeId×Go.Value→H) (F:Stop.Interp) :
    ReturnsInHanded {} Tryz.checked os 3 .any ((YtmlegeeinnkhkaaGreat.Rows.OpenSpec.upto YtmlegeeinnkhkaaGreat.Rows.linkageValidSpec).pre6 enc Tryz.prog Tryz.f3 YtmlegeeinnkhkaaGreat.Rows.linkageValidUptoRow.domain false) (((YtmlegeeinnkhkaaGreat.Rows.OpenSpec.upto YtmlegeeinnkhkaaGreat.Rows.linkageValidSpec).at F).post enc Tryz.prog Tryz.f3 false true false false):=by
  refine returnsInHanded_of_cond (C:=Tryz.checked) (s:=YtmlegeeinnkhkaaGreat.Rows.OpenSpec.upto YtmlegeeinnkhkaaGreat.Rows.linkageValidSpec) (k:=YtmlegeeinnkhkaaGreat.Rows.uptoSmall) rfl own started (by kernel_rfl) Tryz.func3
    (OpenSpec.witness (enc:=enc) (C:=Tryz.checked) (s:=YtmlegeeinnkhkaaGreat.Rows.OpenSpec.upto YtmlegeeinnkhkaaGreat.Rows.linkageValidSpec) (k:=YtmlegeeinnkhkaaGreat.Rows.uptoSmall) rfl false ⟨#[],#[.int .i64 0,.agg #[.slice none 0 0,.slice none 0 0,.slice none 0 0]],[]⟩ 8 (by kernel_rfl) (by kernel_rfl) (by kernel_rfl)
      (x:=([.lit (.int .i64 0),.agg [.nil,.nil,.nil]],[],[])) (by kernel_rfl) rfl (by kernel_rfl)) ?_
  intro W base args ds gs before hval hW _ hk _
  exact contract H enc W base args ds gs before hval hW hk
theorem proved:YtmlegeeinnkhkaaGreat.Rows.LinkageValidUptoSaid :=
  OpenClaim.holds_of_cond 3 Tryz.f3 rfl rfl rfl rfl rfl rfl rfl ⟨rfl,rfl,rfl,rfl,rfl⟩ rfl rfl rfl rfl rfl (by kernel_rfl) Tryz.func3 (by kernel_rfl)
    (of_decide_eq_true (by kernel_rfl)) (by unfold Func.isWrapper;first | (rw [if_pos (by decide +kernel)];kernel_rfl) | (rw [if_neg (by decide +kernel)];exact ⟨rfl,rfl⟩))
    (fun os started H enc _ F=>lifted os started H enc F)
end Go.Proofs.YtmlegeeinnkhkaaGreat.LinkageValid
