/-
  No cell of these rows narrows 'for every input' (looked for: loops, veiled, ifaces, maps, wideKeys, modest, calm, conditions, laid).
  DERIVED. THE GIVEN ROWS OF THIS SEAT. 5 by the template 'for every input the law returns true; each argument reads behind the call as it read before'; 0 by the template 'total and deterministic' (their statements: YtdmddoljldjjeaaGreatTotals.lean).
  GIVEN WITH THE SEED: the statements are not yours to turn. If you find one false, say at which input.
  Laid BY PROGRAM, IN A SANDBOX (cutbox-rows.mjs): the forced cells as the released guide's own fill.sh prints them over the translation 0b85cdabc430c201… (all of the seat's roots in one cut). By AI agents, Wed Nov 11 2026. No macro, syntax, notation, axiom, sorry.
-/
import Derived.Test.YtdmddoljldjjeaaGreatChecked
import GoSem.Claim
import GoSem.ClaimJoined
import GoSem.ClaimMapViews
import Derived.JoinedTies
import Derived.KernelRfl
namespace Go.Proofs.YtdmddoljldjjeaaGreat
/- THE CELL 'sum', in the pinned program and in every row, IS THE sha256 OF THE DUMP (.gsa) THAT YtdmddoljldjjeaaGreatProg.lean LOADS. Nothing in Lean hashes anything: it is a label: what it is worth is what the hold of that sum in a sandbox is worth. -/
noncomputable def Tryz.pinned : Pinned := { name := "ytdmddoljldjjeaagreat", sum := "0b85cdabc430c2012f97f720150dc494c86928bd00254d5c3370de4462729c92", checked := Tryz.checked }
namespace Rows
def none {H : Type} : Left H := { results := [], args := [] }

/-- 'drosslaw55.SurvivorTable': WHATEVER THE INPUT: true; the input reads as it did. -/
def survivorTableSpec : ChangeSpec := { name := "survivorTable", fn := fun _ => fun
  | [d1, d2, d3] => { results := [.lit (.bool true)], args := [d1, d2, d3] }
  | _ => none }
def survivorTableRow : OpenClaim := { program := "ytdmddoljldjjeaagreat", sum := "0b85cdabc430c2012f97f720150dc494c86928bd00254d5c3370de4462729c92", func := "dross/drosslaw55.SurvivorTable", spec := "survivorTable", inPlace := ["internal/bytealg.abigen_runtime_cmpstring"], unfollowed := true, recurses := true, apart := false }
def SurvivorTableSaid : Prop := survivorTableRow.holds Tryz.pinned (OpenSpec.ofChange survivorTableSpec)

/-- ITS FALSE NEIGHBOUR: 'it returns false'. Refute it at one input. -/
def survivorTableWrong : ChangeSpec := { name := "survivorTable", fn := fun _ => fun
  | [d1, d2, d3] => { results := [.lit (.bool false)], args := [d1, d2, d3] }
  | _ => none }
def SurvivorTableWrongFalsely : Prop := survivorTableRow.holds Tryz.pinned (OpenSpec.ofChange survivorTableWrong)

/-- 'drosslaw55.SurvivorCheck': WHATEVER THE INPUT: true; the input reads as it did. -/
def survivorCheckSpec : ChangeSpec := { name := "survivorCheck", fn := fun _ => fun
  | [d1, d2, d3] => { results := [.lit (.bool true)], args := [d1, d2, d3] }
  | _ => none }
def survivorCheckRow : OpenClaim := { program := "ytdmddoljldjjeaagreat", sum := "0b85cdabc430c2012f97f720150dc494c86928bd00254d5c3370de4462729c92", func := "dross/drosslaw55.SurvivorCheck", spec := "survivorCheck", inPlace := ["internal/bytealg.abigen_runtime_cmpstring"], unfollowed := true, recurses := true, apart := false }
def SurvivorCheckSaid : Prop := survivorCheckRow.holds Tryz.pinned (OpenSpec.ofChange survivorCheckSpec)

/-- ITS FALSE NEIGHBOUR: 'it returns false'. Refute it at one input. -/
def survivorCheckWrong : ChangeSpec := { name := "survivorCheck", fn := fun _ => fun
  | [d1, d2, d3] => { results := [.lit (.bool false)], args := [d1, d2, d3] }
  | _ => none }
def SurvivorCheckWrongFalsely : Prop := survivorCheckRow.holds Tryz.pinned (OpenSpec.ofChange survivorCheckWrong)

/-- 'drosslaw55.SurvivorCompose': WHATEVER THE INPUT: true; the input reads as it did. -/
def survivorComposeSpec : ChangeSpec := { name := "survivorCompose", fn := fun _ => fun
  | [d1, d2] => { results := [.lit (.bool true)], args := [d1, d2] }
  | _ => none }
def survivorComposeRow : OpenClaim := { program := "ytdmddoljldjjeaagreat", sum := "0b85cdabc430c2012f97f720150dc494c86928bd00254d5c3370de4462729c92", func := "dross/drosslaw55.SurvivorCompose", spec := "survivorCompose", inPlace := ["internal/bytealg.abigen_runtime_cmpstring"], unfollowed := true, recurses := true, apart := false }
def SurvivorComposeSaid : Prop := survivorComposeRow.holds Tryz.pinned (OpenSpec.ofChange survivorComposeSpec)

/-- ITS FALSE NEIGHBOUR: 'it returns false'. Refute it at one input. -/
def survivorComposeWrong : ChangeSpec := { name := "survivorCompose", fn := fun _ => fun
  | [d1, d2] => { results := [.lit (.bool false)], args := [d1, d2] }
  | _ => none }
def SurvivorComposeWrongFalsely : Prop := survivorComposeRow.holds Tryz.pinned (OpenSpec.ofChange survivorComposeWrong)

/-- 'drosslaw55.SurvivorMerging': WHATEVER THE INPUT: true; the input reads as it did. -/
def survivorMergingSpec : ChangeSpec := { name := "survivorMerging", fn := fun _ => fun
  | [d1, d2] => { results := [.lit (.bool true)], args := [d1, d2] }
  | _ => none }
def survivorMergingRow : OpenClaim := { program := "ytdmddoljldjjeaagreat", sum := "0b85cdabc430c2012f97f720150dc494c86928bd00254d5c3370de4462729c92", func := "dross/drosslaw55.SurvivorMerging", spec := "survivorMerging", inPlace := ["internal/bytealg.abigen_runtime_cmpstring"], unfollowed := true, recurses := true, apart := false }
def SurvivorMergingSaid : Prop := survivorMergingRow.holds Tryz.pinned (OpenSpec.ofChange survivorMergingSpec)

/-- ITS FALSE NEIGHBOUR: 'it returns false'. Refute it at one input. -/
def survivorMergingWrong : ChangeSpec := { name := "survivorMerging", fn := fun _ => fun
  | [d1, d2] => { results := [.lit (.bool false)], args := [d1, d2] }
  | _ => none }
def SurvivorMergingWrongFalsely : Prop := survivorMergingRow.holds Tryz.pinned (OpenSpec.ofChange survivorMergingWrong)

/-- 'drosslaw55.SurvivorSteps': WHATEVER THE INPUT: true; the input reads as it did. -/
def survivorStepsSpec : ChangeSpec := { name := "survivorSteps", fn := fun _ => fun
  | [d1, d2, d3] => { results := [.lit (.bool true)], args := [d1, d2, d3] }
  | _ => none }
def survivorStepsRow : OpenClaim := { program := "ytdmddoljldjjeaagreat", sum := "0b85cdabc430c2012f97f720150dc494c86928bd00254d5c3370de4462729c92", func := "dross/drosslaw55.SurvivorSteps", spec := "survivorSteps", inPlace := ["internal/bytealg.abigen_runtime_cmpstring"], unfollowed := true, recurses := true, apart := false }
def SurvivorStepsSaid : Prop := survivorStepsRow.holds Tryz.pinned (OpenSpec.ofChange survivorStepsSpec)

/-- ITS FALSE NEIGHBOUR: 'it returns false'. Refute it at one input. -/
def survivorStepsWrong : ChangeSpec := { name := "survivorSteps", fn := fun _ => fun
  | [d1, d2, d3] => { results := [.lit (.bool false)], args := [d1, d2, d3] }
  | _ => none }
def SurvivorStepsWrongFalsely : Prop := survivorStepsRow.holds Tryz.pinned (OpenSpec.ofChange survivorStepsWrong)

/- THE SECOND FORM. 'bulk': how many values and letters a reading holds, each counted each time it is reached (what is shared counts as often as it is met; a slice's spare places count too). A statement '..UptoSaid' is the law's where the arguments, and the package variables that the reading takes, are together of bulk at most 1048576: NARROWER than '..Said'. Prove '..Said' where nothing that the law and all that it calls make is longer than what came in: it says more and counts as full. Else prove '..UptoSaid'. A law counts once. -/
mutual
def uptoBulk {H : Type} : DataW H → Nat
  | .lit (.string bytes) => bytes.length + 1
  | .lit _ => 1
  | .nil => 1
  | .ptr d => uptoBulk d + 1
  | .slice elems spare => uptoBulkAll elems + uptoBulkAll spare + 1
  | .agg parts => uptoBulkAll parts + 1
  | .iface _ d => uptoBulk d + 1
  | .map entries => uptoBulkEntries entries + 1
  | .held _ => 1
def uptoBulkAll {H : Type} : List (DataW H) → Nat
  | [] => 0
  | d :: r => uptoBulk d + uptoBulkAll r
def uptoBulkEntries {H : Type} : List (Lit × DataW H) → Nat
  | [] => 0
  | x :: r => uptoBulkEntry x + uptoBulkEntries r
def uptoBulkEntry {H : Type} : Lit × DataW H → Nat
  | (.string bytes, d) => bytes.length + uptoBulk d + 1
  | (_, d) => uptoBulk d + 1
 end
def uptoSmall : (H : Type) → List (DataW H) → Bool := fun _ ds => decide (uptoBulkAll ds ≤ 1048576)
def OpenSpec.upto (s : _root_.Go.ChangeSpec) : _root_.Go.OpenSpec := { _root_.Go.OpenSpec.ofChange s with cond := some uptoSmall }

/-- 'drosslaw55.SurvivorTable', WHERE WHAT IT READS IS OF BULK AT MOST 1048576: true; the input reads as it did. -/
def survivorTableUptoRow : OpenClaim := { program := "ytdmddoljldjjeaagreat", sum := "0b85cdabc430c2012f97f720150dc494c86928bd00254d5c3370de4462729c92", func := "dross/drosslaw55.SurvivorTable", spec := "survivorTable", inPlace := ["internal/bytealg.abigen_runtime_cmpstring"], unfollowed := true, recurses := true, apart := false, narrowed := true }
def SurvivorTableUptoSaid : Prop := survivorTableUptoRow.holds Tryz.pinned (OpenSpec.upto survivorTableSpec)

/-- 'drosslaw55.SurvivorCheck', WHERE WHAT IT READS IS OF BULK AT MOST 1048576: true; the input reads as it did. -/
def survivorCheckUptoRow : OpenClaim := { program := "ytdmddoljldjjeaagreat", sum := "0b85cdabc430c2012f97f720150dc494c86928bd00254d5c3370de4462729c92", func := "dross/drosslaw55.SurvivorCheck", spec := "survivorCheck", inPlace := ["internal/bytealg.abigen_runtime_cmpstring"], unfollowed := true, recurses := true, apart := false, narrowed := true }
def SurvivorCheckUptoSaid : Prop := survivorCheckUptoRow.holds Tryz.pinned (OpenSpec.upto survivorCheckSpec)

/-- 'drosslaw55.SurvivorCompose', WHERE WHAT IT READS IS OF BULK AT MOST 1048576: true; the input reads as it did. -/
def survivorComposeUptoRow : OpenClaim := { program := "ytdmddoljldjjeaagreat", sum := "0b85cdabc430c2012f97f720150dc494c86928bd00254d5c3370de4462729c92", func := "dross/drosslaw55.SurvivorCompose", spec := "survivorCompose", inPlace := ["internal/bytealg.abigen_runtime_cmpstring"], unfollowed := true, recurses := true, apart := false, narrowed := true }
def SurvivorComposeUptoSaid : Prop := survivorComposeUptoRow.holds Tryz.pinned (OpenSpec.upto survivorComposeSpec)

/-- 'drosslaw55.SurvivorMerging', WHERE WHAT IT READS IS OF BULK AT MOST 1048576: true; the input reads as it did. -/
def survivorMergingUptoRow : OpenClaim := { program := "ytdmddoljldjjeaagreat", sum := "0b85cdabc430c2012f97f720150dc494c86928bd00254d5c3370de4462729c92", func := "dross/drosslaw55.SurvivorMerging", spec := "survivorMerging", inPlace := ["internal/bytealg.abigen_runtime_cmpstring"], unfollowed := true, recurses := true, apart := false, narrowed := true }
def SurvivorMergingUptoSaid : Prop := survivorMergingUptoRow.holds Tryz.pinned (OpenSpec.upto survivorMergingSpec)

/-- 'drosslaw55.SurvivorSteps', WHERE WHAT IT READS IS OF BULK AT MOST 1048576: true; the input reads as it did. -/
def survivorStepsUptoRow : OpenClaim := { program := "ytdmddoljldjjeaagreat", sum := "0b85cdabc430c2012f97f720150dc494c86928bd00254d5c3370de4462729c92", func := "dross/drosslaw55.SurvivorSteps", spec := "survivorSteps", inPlace := ["internal/bytealg.abigen_runtime_cmpstring"], unfollowed := true, recurses := true, apart := false, narrowed := true }
def SurvivorStepsUptoSaid : Prop := survivorStepsUptoRow.holds Tryz.pinned (OpenSpec.upto survivorStepsSpec)

end Rows
end Go.Proofs.YtdmddoljldjjeaaGreat
