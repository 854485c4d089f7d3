/-
  No cell of these rows narrows 'for every input' (looked for: loops, veiled, ifaces, maps, wideKeys, modest, calm, conditions, laid).
  DERIVED. THE GIVEN ROWS OF THIS SEAT. 4 by the template 'for every input the law returns true; each argument reads behind the call as it read before'; 0 by the template 'total and deterministic' (their statements: YtdmddoljldjjeaaTotals.lean).
  GIVEN WITH THE SEED: the statements are not yours to turn. If you find one false, say at which input.
  Laid BY PROGRAM, IN A SANDBOX (cutbox-rows.mjs): the forced cells as the released guide's own fill.sh prints them over the translation 8c80bd974f919605… (all of the seat's roots in one cut). By AI agents, Wed Nov 11 2026. No macro, syntax, notation, axiom, sorry.
-/
import Derived.Test.YtdmddoljldjjeaaChecked
import GoSem.Claim
import GoSem.ClaimJoined
import GoSem.ClaimMapViews
import Derived.JoinedTies
import Derived.KernelRfl
namespace Go.Proofs.Ytdmddoljldjjeaa
/- THE CELL 'sum', in the pinned program and in every row, IS THE sha256 OF THE DUMP (.gsa) THAT YtdmddoljldjjeaaProg.lean LOADS. Nothing in Lean hashes anything: it is a label: what it is worth is what the hold of that sum in a sandbox is worth. -/
noncomputable def Try.pinned : Pinned := { name := "ytdmddoljldjjeaa", sum := "8c80bd974f9196058408d98011a99ce589f206605a6250351441c7172d025597", checked := Try.checked }
namespace Rows
def none {H : Type} : Left H := { results := [], args := [] }

/-- 'drosslaw55.SurvivorChoose': WHATEVER THE INPUT: true; the input reads as it did. -/
def survivorChooseSpec : ChangeSpec := { name := "survivorChoose", fn := fun _ => fun
  | [d1, d2, d3] => { results := [.lit (.bool true)], args := [d1, d2, d3] }
  | _ => none }
def survivorChooseRow : OpenClaim := { program := "ytdmddoljldjjeaa", sum := "8c80bd974f9196058408d98011a99ce589f206605a6250351441c7172d025597", func := "dross/drosslaw55.SurvivorChoose", spec := "survivorChoose", inPlace := ["internal/bytealg.abigen_runtime_cmpstring"], unfollowed := true, recurses := true, apart := false }
def SurvivorChooseSaid : Prop := survivorChooseRow.holds Try.pinned (OpenSpec.ofChange survivorChooseSpec)

/-- ITS FALSE NEIGHBOUR: 'it returns false'. Refute it at one input. -/
def survivorChooseWrong : ChangeSpec := { name := "survivorChoose", fn := fun _ => fun
  | [d1, d2, d3] => { results := [.lit (.bool false)], args := [d1, d2, d3] }
  | _ => none }
def SurvivorChooseWrongFalsely : Prop := survivorChooseRow.holds Try.pinned (OpenSpec.ofChange survivorChooseWrong)

/-- 'drosslaw55.SurvivorMerge': WHATEVER THE INPUT: true; the input reads as it did. -/
def survivorMergeSpec : ChangeSpec := { name := "survivorMerge", fn := fun _ => fun
  | [d1, d2] => { results := [.lit (.bool true)], args := [d1, d2] }
  | _ => none }
def survivorMergeRow : OpenClaim := { program := "ytdmddoljldjjeaa", sum := "8c80bd974f9196058408d98011a99ce589f206605a6250351441c7172d025597", func := "dross/drosslaw55.SurvivorMerge", spec := "survivorMerge", inPlace := ["internal/bytealg.abigen_runtime_cmpstring"], unfollowed := true, recurses := true, apart := false }
def SurvivorMergeSaid : Prop := survivorMergeRow.holds Try.pinned (OpenSpec.ofChange survivorMergeSpec)

/-- ITS FALSE NEIGHBOUR: 'it returns false'. Refute it at one input. -/
def survivorMergeWrong : ChangeSpec := { name := "survivorMerge", fn := fun _ => fun
  | [d1, d2] => { results := [.lit (.bool false)], args := [d1, d2] }
  | _ => none }
def SurvivorMergeWrongFalsely : Prop := survivorMergeRow.holds Try.pinned (OpenSpec.ofChange survivorMergeWrong)

/-- 'drosslaw55.SurvivorSource': WHATEVER THE INPUT: true; the input reads as it did. -/
def survivorSourceSpec : ChangeSpec := { name := "survivorSource", fn := fun _ => fun
  | [d1, d2] => { results := [.lit (.bool true)], args := [d1, d2] }
  | _ => none }
def survivorSourceRow : OpenClaim := { program := "ytdmddoljldjjeaa", sum := "8c80bd974f9196058408d98011a99ce589f206605a6250351441c7172d025597", func := "dross/drosslaw55.SurvivorSource", spec := "survivorSource", inPlace := ["internal/bytealg.abigen_runtime_cmpstring"], unfollowed := true, recurses := true, apart := false }
def SurvivorSourceSaid : Prop := survivorSourceRow.holds Try.pinned (OpenSpec.ofChange survivorSourceSpec)

/-- ITS FALSE NEIGHBOUR: 'it returns false'. Refute it at one input. -/
def survivorSourceWrong : ChangeSpec := { name := "survivorSource", fn := fun _ => fun
  | [d1, d2] => { results := [.lit (.bool false)], args := [d1, d2] }
  | _ => none }
def SurvivorSourceWrongFalsely : Prop := survivorSourceRow.holds Try.pinned (OpenSpec.ofChange survivorSourceWrong)

/-- 'drosslaw55.SurvivorLost': WHATEVER THE INPUT: true; the input reads as it did. -/
def survivorLostSpec : ChangeSpec := { name := "survivorLost", fn := fun _ => fun
  | [d1, d2] => { results := [.lit (.bool true)], args := [d1, d2] }
  | _ => none }
def survivorLostRow : OpenClaim := { program := "ytdmddoljldjjeaa", sum := "8c80bd974f9196058408d98011a99ce589f206605a6250351441c7172d025597", func := "dross/drosslaw55.SurvivorLost", spec := "survivorLost", inPlace := ["internal/bytealg.abigen_runtime_cmpstring"], unfollowed := true, recurses := true, apart := false }
def SurvivorLostSaid : Prop := survivorLostRow.holds Try.pinned (OpenSpec.ofChange survivorLostSpec)

/-- ITS FALSE NEIGHBOUR: 'it returns false'. Refute it at one input. -/
def survivorLostWrong : ChangeSpec := { name := "survivorLost", fn := fun _ => fun
  | [d1, d2] => { results := [.lit (.bool false)], args := [d1, d2] }
  | _ => none }
def SurvivorLostWrongFalsely : Prop := survivorLostRow.holds Try.pinned (OpenSpec.ofChange survivorLostWrong)

/- THE SECOND FORM. 'bulk': how many values and letters a reading holds, each counted each time it is reached (what is shared counts as often as it is met; a slice's spare places count too). A statement '..UptoSaid' is the law's where the arguments, and the package variables that the reading takes, are together of bulk at most 1048576: NARROWER than '..Said'. Prove '..Said' where nothing that the law and all that it calls make is longer than what came in: it says more and counts as full. Else prove '..UptoSaid'. A law counts once. -/
mutual
def uptoBulk {H : Type} : DataW H → Nat
  | .lit (.string bytes) => bytes.length + 1
  | .lit _ => 1
  | .nil => 1
  | .ptr d => uptoBulk d + 1
  | .slice elems spare => uptoBulkAll elems + uptoBulkAll spare + 1
  | .agg parts => uptoBulkAll parts + 1
  | .iface _ d => uptoBulk d + 1
  | .map entries => uptoBulkEntries entries + 1
  | .held _ => 1
def uptoBulkAll {H : Type} : List (DataW H) → Nat
  | [] => 0
  | d :: r => uptoBulk d + uptoBulkAll r
def uptoBulkEntries {H : Type} : List (Lit × DataW H) → Nat
  | [] => 0
  | x :: r => uptoBulkEntry x + uptoBulkEntries r
def uptoBulkEntry {H : Type} : Lit × DataW H → Nat
  | (.string bytes, d) => bytes.length + uptoBulk d + 1
  | (_, d) => uptoBulk d + 1
 end
def uptoSmall : (H : Type) → List (DataW H) → Bool := fun _ ds => decide (uptoBulkAll ds ≤ 1048576)
def OpenSpec.upto (s : _root_.Go.ChangeSpec) : _root_.Go.OpenSpec := { _root_.Go.OpenSpec.ofChange s with cond := some uptoSmall }

/-- 'drosslaw55.SurvivorChoose', WHERE WHAT IT READS IS OF BULK AT MOST 1048576: true; the input reads as it did. -/
def survivorChooseUptoRow : OpenClaim := { program := "ytdmddoljldjjeaa", sum := "8c80bd974f9196058408d98011a99ce589f206605a6250351441c7172d025597", func := "dross/drosslaw55.SurvivorChoose", spec := "survivorChoose", inPlace := ["internal/bytealg.abigen_runtime_cmpstring"], unfollowed := true, recurses := true, apart := false, narrowed := true }
def SurvivorChooseUptoSaid : Prop := survivorChooseUptoRow.holds Try.pinned (OpenSpec.upto survivorChooseSpec)

/-- 'drosslaw55.SurvivorMerge', WHERE WHAT IT READS IS OF BULK AT MOST 1048576: true; the input reads as it did. -/
def survivorMergeUptoRow : OpenClaim := { program := "ytdmddoljldjjeaa", sum := "8c80bd974f9196058408d98011a99ce589f206605a6250351441c7172d025597", func := "dross/drosslaw55.SurvivorMerge", spec := "survivorMerge", inPlace := ["internal/bytealg.abigen_runtime_cmpstring"], unfollowed := true, recurses := true, apart := false, narrowed := true }
def SurvivorMergeUptoSaid : Prop := survivorMergeUptoRow.holds Try.pinned (OpenSpec.upto survivorMergeSpec)

/-- 'drosslaw55.SurvivorSource', WHERE WHAT IT READS IS OF BULK AT MOST 1048576: true; the input reads as it did. -/
def survivorSourceUptoRow : OpenClaim := { program := "ytdmddoljldjjeaa", sum := "8c80bd974f9196058408d98011a99ce589f206605a6250351441c7172d025597", func := "dross/drosslaw55.SurvivorSource", spec := "survivorSource", inPlace := ["internal/bytealg.abigen_runtime_cmpstring"], unfollowed := true, recurses := true, apart := false, narrowed := true }
def SurvivorSourceUptoSaid : Prop := survivorSourceUptoRow.holds Try.pinned (OpenSpec.upto survivorSourceSpec)

/-- 'drosslaw55.SurvivorLost', WHERE WHAT IT READS IS OF BULK AT MOST 1048576: true; the input reads as it did. -/
def survivorLostUptoRow : OpenClaim := { program := "ytdmddoljldjjeaa", sum := "8c80bd974f9196058408d98011a99ce589f206605a6250351441c7172d025597", func := "dross/drosslaw55.SurvivorLost", spec := "survivorLost", inPlace := ["internal/bytealg.abigen_runtime_cmpstring"], unfollowed := true, recurses := true, apart := false, narrowed := true }
def SurvivorLostUptoSaid : Prop := survivorLostUptoRow.holds Try.pinned (OpenSpec.upto survivorLostSpec)

end Rows
end Go.Proofs.Ytdmddoljldjjeaa
