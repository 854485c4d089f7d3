/-
  No cell of these rows narrows 'for every input' (looked for: loops, veiled, ifaces, maps, wideKeys, modest, calm, conditions, laid).
  DERIVED. THE GIVEN ROWS OF THIS SEAT. 9 by the template 'for every input the law returns true; each argument reads behind the call as it read before'; 0 by the template 'total and deterministic' (their statements: YtmlegeeinnkhkaaGreatTotals.lean).
  GIVEN WITH THE SEED: the statements are not yours to turn. If you find one false, say at which input.
  Laid BY PROGRAM, IN A SANDBOX (cutbox-rows.mjs): the forced cells as the released guide's own fill.sh prints them over the translation eff5e704e5d1b4e7… (all of the seat's roots in one cut). By AI agents, Wed Nov 11 2026. No macro, syntax, notation, axiom, sorry.
-/
import Derived.Test.YtmlegeeinnkhkaaGreatChecked
import GoSem.Claim
import GoSem.ClaimJoined
import GoSem.ClaimMapViews
import Derived.JoinedTies
import Derived.KernelRfl
namespace Go.Proofs.YtmlegeeinnkhkaaGreat
/- THE CELL 'sum', in the pinned program and in every row, IS THE sha256 OF THE DUMP (.gsa) THAT YtmlegeeinnkhkaaGreatProg.lean LOADS. Nothing in Lean hashes anything: it is a label: what it is worth is what the hold of that sum in a sandbox is worth. -/
noncomputable def Tryz.pinned : Pinned := { name := "ytmlegeeinnkhkaagreat", sum := "eff5e704e5d1b4e735979e73cbd0541626e52f1580c733b73ae1ad280dc0ca63", checked := Tryz.checked }
namespace Rows
def none {H : Type} : Left H := { results := [], args := [] }

/-- 'drosslaw56.LinkageValid': WHATEVER THE INPUT: true; the input reads as it did. -/
def linkageValidSpec : ChangeSpec := { name := "linkageValid", fn := fun _ => fun
  | [d1, d2] => { results := [.lit (.bool true)], args := [d1, d2] }
  | _ => none }
def linkageValidRow : OpenClaim := { program := "ytmlegeeinnkhkaagreat", sum := "eff5e704e5d1b4e735979e73cbd0541626e52f1580c733b73ae1ad280dc0ca63", func := "dross/drosslaw56.LinkageValid", spec := "linkageValid", inPlace := ["internal/abi.NoEscape", "internal/bytealg.MakeNoZero", "internal/bytealg.abigen_runtime_cmpstring", "math/bits.Add64", "math/bits.Sub64"], unfollowed := true, recurses := true, plainKeys := false, apart := false }
def LinkageValidSaid : Prop := linkageValidRow.holds Tryz.pinned (OpenSpec.ofChange linkageValidSpec)

/-- ITS FALSE NEIGHBOUR: 'it returns false'. Refute it at one input. -/
def linkageValidWrong : ChangeSpec := { name := "linkageValid", fn := fun _ => fun
  | [d1, d2] => { results := [.lit (.bool false)], args := [d1, d2] }
  | _ => none }
def LinkageValidWrongFalsely : Prop := linkageValidRow.holds Tryz.pinned (OpenSpec.ofChange linkageValidWrong)

/-- 'drosslaw56.LinkageMatches': WHATEVER THE INPUT: true; the input reads as it did. -/
def linkageMatchesSpec : ChangeSpec := { name := "linkageMatches", fn := fun _ => fun
  | [d1, d2] => { results := [.lit (.bool true)], args := [d1, d2] }
  | _ => none }
def linkageMatchesRow : OpenClaim := { program := "ytmlegeeinnkhkaagreat", sum := "eff5e704e5d1b4e735979e73cbd0541626e52f1580c733b73ae1ad280dc0ca63", func := "dross/drosslaw56.LinkageMatches", spec := "linkageMatches", inPlace := ["internal/abi.NoEscape", "internal/bytealg.MakeNoZero", "internal/bytealg.abigen_runtime_cmpstring", "math/bits.Add64", "math/bits.Sub64"], unfollowed := true, recurses := true, plainKeys := false, apart := false }
def LinkageMatchesSaid : Prop := linkageMatchesRow.holds Tryz.pinned (OpenSpec.ofChange linkageMatchesSpec)

/-- ITS FALSE NEIGHBOUR: 'it returns false'. Refute it at one input. -/
def linkageMatchesWrong : ChangeSpec := { name := "linkageMatches", fn := fun _ => fun
  | [d1, d2] => { results := [.lit (.bool false)], args := [d1, d2] }
  | _ => none }
def LinkageMatchesWrongFalsely : Prop := linkageMatchesRow.holds Tryz.pinned (OpenSpec.ofChange linkageMatchesWrong)

/-- 'drosslaw56.LinkageMore': WHATEVER THE INPUT: true; the input reads as it did. -/
def linkageMoreSpec : ChangeSpec := { name := "linkageMore", fn := fun _ => fun
  | [d1, d2, d3] => { results := [.lit (.bool true)], args := [d1, d2, d3] }
  | _ => none }
def linkageMoreRow : OpenClaim := { program := "ytmlegeeinnkhkaagreat", sum := "eff5e704e5d1b4e735979e73cbd0541626e52f1580c733b73ae1ad280dc0ca63", func := "dross/drosslaw56.LinkageMore", spec := "linkageMore", inPlace := ["internal/abi.NoEscape", "internal/bytealg.MakeNoZero", "internal/bytealg.abigen_runtime_cmpstring", "math/bits.Add64", "math/bits.Sub64"], unfollowed := true, recurses := true, plainKeys := false, apart := false }
def LinkageMoreSaid : Prop := linkageMoreRow.holds Tryz.pinned (OpenSpec.ofChange linkageMoreSpec)

/-- ITS FALSE NEIGHBOUR: 'it returns false'. Refute it at one input. -/
def linkageMoreWrong : ChangeSpec := { name := "linkageMore", fn := fun _ => fun
  | [d1, d2, d3] => { results := [.lit (.bool false)], args := [d1, d2, d3] }
  | _ => none }
def LinkageMoreWrongFalsely : Prop := linkageMoreRow.holds Tryz.pinned (OpenSpec.ofChange linkageMoreWrong)

/-- 'drosslaw56.LinkageClusters': WHATEVER THE INPUT: true; the input reads as it did. -/
def linkageClustersSpec : ChangeSpec := { name := "linkageClusters", fn := fun _ => fun
  | [d1, d2] => { results := [.lit (.bool true)], args := [d1, d2] }
  | _ => none }
def linkageClustersRow : OpenClaim := { program := "ytmlegeeinnkhkaagreat", sum := "eff5e704e5d1b4e735979e73cbd0541626e52f1580c733b73ae1ad280dc0ca63", func := "dross/drosslaw56.LinkageClusters", spec := "linkageClusters", inPlace := ["internal/abi.NoEscape", "internal/bytealg.MakeNoZero", "internal/bytealg.abigen_runtime_cmpstring", "math/bits.Add64", "math/bits.Sub64"], unfollowed := true, recurses := true, plainKeys := false, apart := false }
def LinkageClustersSaid : Prop := linkageClustersRow.holds Tryz.pinned (OpenSpec.ofChange linkageClustersSpec)

/-- ITS FALSE NEIGHBOUR: 'it returns false'. Refute it at one input. -/
def linkageClustersWrong : ChangeSpec := { name := "linkageClusters", fn := fun _ => fun
  | [d1, d2] => { results := [.lit (.bool false)], args := [d1, d2] }
  | _ => none }
def LinkageClustersWrongFalsely : Prop := linkageClustersRow.holds Tryz.pinned (OpenSpec.ofChange linkageClustersWrong)

/-- 'drosslaw56.LinkageBest': WHATEVER THE INPUT: true; the input reads as it did. -/
def linkageBestSpec : ChangeSpec := { name := "linkageBest", fn := fun _ => fun
  | [d1, d2] => { results := [.lit (.bool true)], args := [d1, d2] }
  | _ => none }
def linkageBestRow : OpenClaim := { program := "ytmlegeeinnkhkaagreat", sum := "eff5e704e5d1b4e735979e73cbd0541626e52f1580c733b73ae1ad280dc0ca63", func := "dross/drosslaw56.LinkageBest", spec := "linkageBest", inPlace := ["internal/abi.NoEscape", "internal/bytealg.MakeNoZero", "internal/bytealg.abigen_runtime_cmpstring", "math/bits.Add64", "math/bits.Sub64"], unfollowed := true, recurses := true, plainKeys := false, apart := false }
def LinkageBestSaid : Prop := linkageBestRow.holds Tryz.pinned (OpenSpec.ofChange linkageBestSpec)

/-- ITS FALSE NEIGHBOUR: 'it returns false'. Refute it at one input. -/
def linkageBestWrong : ChangeSpec := { name := "linkageBest", fn := fun _ => fun
  | [d1, d2] => { results := [.lit (.bool false)], args := [d1, d2] }
  | _ => none }
def LinkageBestWrongFalsely : Prop := linkageBestRow.holds Tryz.pinned (OpenSpec.ofChange linkageBestWrong)

/-- 'drosslaw56.LinkageScores': WHATEVER THE INPUT: true; the input reads as it did. -/
def linkageScoresSpec : ChangeSpec := { name := "linkageScores", fn := fun _ => fun
  | [d1, d2] => { results := [.lit (.bool true)], args := [d1, d2] }
  | _ => none }
def linkageScoresRow : OpenClaim := { program := "ytmlegeeinnkhkaagreat", sum := "eff5e704e5d1b4e735979e73cbd0541626e52f1580c733b73ae1ad280dc0ca63", func := "dross/drosslaw56.LinkageScores", spec := "linkageScores", inPlace := ["internal/abi.NoEscape", "internal/bytealg.MakeNoZero", "internal/bytealg.abigen_runtime_cmpstring", "math/bits.Add64", "math/bits.Sub64"], unfollowed := true, recurses := true, plainKeys := false, apart := false }
def LinkageScoresSaid : Prop := linkageScoresRow.holds Tryz.pinned (OpenSpec.ofChange linkageScoresSpec)

/-- ITS FALSE NEIGHBOUR: 'it returns false'. Refute it at one input. -/
def linkageScoresWrong : ChangeSpec := { name := "linkageScores", fn := fun _ => fun
  | [d1, d2] => { results := [.lit (.bool false)], args := [d1, d2] }
  | _ => none }
def LinkageScoresWrongFalsely : Prop := linkageScoresRow.holds Tryz.pinned (OpenSpec.ofChange linkageScoresWrong)

/-- 'drosslaw56.LinkageExplain': WHATEVER THE INPUT: true; the input reads as it did. -/
def linkageExplainSpec : ChangeSpec := { name := "linkageExplain", fn := fun _ => fun
  | [d1, d2, d3] => { results := [.lit (.bool true)], args := [d1, d2, d3] }
  | _ => none }
def linkageExplainRow : OpenClaim := { program := "ytmlegeeinnkhkaagreat", sum := "eff5e704e5d1b4e735979e73cbd0541626e52f1580c733b73ae1ad280dc0ca63", func := "dross/drosslaw56.LinkageExplain", spec := "linkageExplain", inPlace := ["internal/abi.NoEscape", "internal/bytealg.MakeNoZero", "internal/bytealg.abigen_runtime_cmpstring", "math/bits.Add64", "math/bits.Sub64"], unfollowed := true, recurses := true, plainKeys := false, apart := false }
def LinkageExplainSaid : Prop := linkageExplainRow.holds Tryz.pinned (OpenSpec.ofChange linkageExplainSpec)

/-- ITS FALSE NEIGHBOUR: 'it returns false'. Refute it at one input. -/
def linkageExplainWrong : ChangeSpec := { name := "linkageExplain", fn := fun _ => fun
  | [d1, d2, d3] => { results := [.lit (.bool false)], args := [d1, d2, d3] }
  | _ => none }
def LinkageExplainWrongFalsely : Prop := linkageExplainRow.holds Tryz.pinned (OpenSpec.ofChange linkageExplainWrong)

/-- 'drosslaw56.LinkageLink': WHATEVER THE INPUT: true; the input reads as it did. -/
def linkageLinkSpec : ChangeSpec := { name := "linkageLink", fn := fun _ => fun
  | [d1, d2] => { results := [.lit (.bool true)], args := [d1, d2] }
  | _ => none }
def linkageLinkRow : OpenClaim := { program := "ytmlegeeinnkhkaagreat", sum := "eff5e704e5d1b4e735979e73cbd0541626e52f1580c733b73ae1ad280dc0ca63", func := "dross/drosslaw56.LinkageLink", spec := "linkageLink", inPlace := ["internal/abi.NoEscape", "internal/bytealg.MakeNoZero", "internal/bytealg.abigen_runtime_cmpstring", "math/bits.Add64", "math/bits.Sub64"], unfollowed := true, recurses := true, plainKeys := false, apart := false }
def LinkageLinkSaid : Prop := linkageLinkRow.holds Tryz.pinned (OpenSpec.ofChange linkageLinkSpec)

/-- ITS FALSE NEIGHBOUR: 'it returns false'. Refute it at one input. -/
def linkageLinkWrong : ChangeSpec := { name := "linkageLink", fn := fun _ => fun
  | [d1, d2] => { results := [.lit (.bool false)], args := [d1, d2] }
  | _ => none }
def LinkageLinkWrongFalsely : Prop := linkageLinkRow.holds Tryz.pinned (OpenSpec.ofChange linkageLinkWrong)

/-- 'drosslaw56.LinkageErrors': WHATEVER THE INPUT: true; the input reads as it did. -/
def linkageErrorsSpec : ChangeSpec := { name := "linkageErrors", fn := fun _ => fun
  | [d1, d2] => { results := [.lit (.bool true)], args := [d1, d2] }
  | _ => none }
def linkageErrorsRow : OpenClaim := { program := "ytmlegeeinnkhkaagreat", sum := "eff5e704e5d1b4e735979e73cbd0541626e52f1580c733b73ae1ad280dc0ca63", func := "dross/drosslaw56.LinkageErrors", spec := "linkageErrors", inPlace := ["internal/abi.NoEscape", "internal/bytealg.MakeNoZero", "internal/bytealg.abigen_runtime_cmpstring", "math/bits.Add64", "math/bits.Sub64"], unfollowed := true, recurses := true, plainKeys := false, apart := false }
def LinkageErrorsSaid : Prop := linkageErrorsRow.holds Tryz.pinned (OpenSpec.ofChange linkageErrorsSpec)

/-- ITS FALSE NEIGHBOUR: 'it returns false'. Refute it at one input. -/
def linkageErrorsWrong : ChangeSpec := { name := "linkageErrors", fn := fun _ => fun
  | [d1, d2] => { results := [.lit (.bool false)], args := [d1, d2] }
  | _ => none }
def LinkageErrorsWrongFalsely : Prop := linkageErrorsRow.holds Tryz.pinned (OpenSpec.ofChange linkageErrorsWrong)

/- THE SECOND FORM. 'bulk': how many values and letters a reading holds, each counted each time it is reached (what is shared counts as often as it is met; a slice's spare places count too). A statement '..UptoSaid' is the law's where the arguments, and the package variables that the reading takes, are together of bulk at most 1048576: NARROWER than '..Said'. Prove '..Said' where nothing that the law and all that it calls make is longer than what came in: it says more and counts as full. Else prove '..UptoSaid'. A law counts once. -/
mutual
def uptoBulk {H : Type} : DataW H → Nat
  | .lit (.string bytes) => bytes.length + 1
  | .lit _ => 1
  | .nil => 1
  | .ptr d => uptoBulk d + 1
  | .slice elems spare => uptoBulkAll elems + uptoBulkAll spare + 1
  | .agg parts => uptoBulkAll parts + 1
  | .iface _ d => uptoBulk d + 1
  | .map entries => uptoBulkEntries entries + 1
  | .held _ => 1
def uptoBulkAll {H : Type} : List (DataW H) → Nat
  | [] => 0
  | d :: r => uptoBulk d + uptoBulkAll r
def uptoBulkEntries {H : Type} : List (Lit × DataW H) → Nat
  | [] => 0
  | x :: r => uptoBulkEntry x + uptoBulkEntries r
def uptoBulkEntry {H : Type} : Lit × DataW H → Nat
  | (.string bytes, d) => bytes.length + uptoBulk d + 1
  | (_, d) => uptoBulk d + 1
 end
def uptoSmall : (H : Type) → List (DataW H) → Bool := fun _ ds => decide (uptoBulkAll ds ≤ 1048576)
def OpenSpec.upto (s : _root_.Go.ChangeSpec) : _root_.Go.OpenSpec := { _root_.Go.OpenSpec.ofChange s with cond := some uptoSmall }

/-- 'drosslaw56.LinkageValid', WHERE WHAT IT READS IS OF BULK AT MOST 1048576: true; the input reads as it did. -/
def linkageValidUptoRow : OpenClaim := { program := "ytmlegeeinnkhkaagreat", sum := "eff5e704e5d1b4e735979e73cbd0541626e52f1580c733b73ae1ad280dc0ca63", func := "dross/drosslaw56.LinkageValid", spec := "linkageValid", inPlace := ["internal/abi.NoEscape", "internal/bytealg.MakeNoZero", "internal/bytealg.abigen_runtime_cmpstring", "math/bits.Add64", "math/bits.Sub64"], unfollowed := true, recurses := true, plainKeys := false, apart := false, narrowed := true }
def LinkageValidUptoSaid : Prop := linkageValidUptoRow.holds Tryz.pinned (OpenSpec.upto linkageValidSpec)

/-- 'drosslaw56.LinkageMatches', WHERE WHAT IT READS IS OF BULK AT MOST 1048576: true; the input reads as it did. -/
def linkageMatchesUptoRow : OpenClaim := { program := "ytmlegeeinnkhkaagreat", sum := "eff5e704e5d1b4e735979e73cbd0541626e52f1580c733b73ae1ad280dc0ca63", func := "dross/drosslaw56.LinkageMatches", spec := "linkageMatches", inPlace := ["internal/abi.NoEscape", "internal/bytealg.MakeNoZero", "internal/bytealg.abigen_runtime_cmpstring", "math/bits.Add64", "math/bits.Sub64"], unfollowed := true, recurses := true, plainKeys := false, apart := false, narrowed := true }
def LinkageMatchesUptoSaid : Prop := linkageMatchesUptoRow.holds Tryz.pinned (OpenSpec.upto linkageMatchesSpec)

/-- 'drosslaw56.LinkageMore', WHERE WHAT IT READS IS OF BULK AT MOST 1048576: true; the input reads as it did. -/
def linkageMoreUptoRow : OpenClaim := { program := "ytmlegeeinnkhkaagreat", sum := "eff5e704e5d1b4e735979e73cbd0541626e52f1580c733b73ae1ad280dc0ca63", func := "dross/drosslaw56.LinkageMore", spec := "linkageMore", inPlace := ["internal/abi.NoEscape", "internal/bytealg.MakeNoZero", "internal/bytealg.abigen_runtime_cmpstring", "math/bits.Add64", "math/bits.Sub64"], unfollowed := true, recurses := true, plainKeys := false, apart := false, narrowed := true }
def LinkageMoreUptoSaid : Prop := linkageMoreUptoRow.holds Tryz.pinned (OpenSpec.upto linkageMoreSpec)

/-- 'drosslaw56.LinkageClusters', WHERE WHAT IT READS IS OF BULK AT MOST 1048576: true; the input reads as it did. -/
def linkageClustersUptoRow : OpenClaim := { program := "ytmlegeeinnkhkaagreat", sum := "eff5e704e5d1b4e735979e73cbd0541626e52f1580c733b73ae1ad280dc0ca63", func := "dross/drosslaw56.LinkageClusters", spec := "linkageClusters", inPlace := ["internal/abi.NoEscape", "internal/bytealg.MakeNoZero", "internal/bytealg.abigen_runtime_cmpstring", "math/bits.Add64", "math/bits.Sub64"], unfollowed := true, recurses := true, plainKeys := false, apart := false, narrowed := true }
def LinkageClustersUptoSaid : Prop := linkageClustersUptoRow.holds Tryz.pinned (OpenSpec.upto linkageClustersSpec)

/-- 'drosslaw56.LinkageBest', WHERE WHAT IT READS IS OF BULK AT MOST 1048576: true; the input reads as it did. -/
def linkageBestUptoRow : OpenClaim := { program := "ytmlegeeinnkhkaagreat", sum := "eff5e704e5d1b4e735979e73cbd0541626e52f1580c733b73ae1ad280dc0ca63", func := "dross/drosslaw56.LinkageBest", spec := "linkageBest", inPlace := ["internal/abi.NoEscape", "internal/bytealg.MakeNoZero", "internal/bytealg.abigen_runtime_cmpstring", "math/bits.Add64", "math/bits.Sub64"], unfollowed := true, recurses := true, plainKeys := false, apart := false, narrowed := true }
def LinkageBestUptoSaid : Prop := linkageBestUptoRow.holds Tryz.pinned (OpenSpec.upto linkageBestSpec)

/-- 'drosslaw56.LinkageScores', WHERE WHAT IT READS IS OF BULK AT MOST 1048576: true; the input reads as it did. -/
def linkageScoresUptoRow : OpenClaim := { program := "ytmlegeeinnkhkaagreat", sum := "eff5e704e5d1b4e735979e73cbd0541626e52f1580c733b73ae1ad280dc0ca63", func := "dross/drosslaw56.LinkageScores", spec := "linkageScores", inPlace := ["internal/abi.NoEscape", "internal/bytealg.MakeNoZero", "internal/bytealg.abigen_runtime_cmpstring", "math/bits.Add64", "math/bits.Sub64"], unfollowed := true, recurses := true, plainKeys := false, apart := false, narrowed := true }
def LinkageScoresUptoSaid : Prop := linkageScoresUptoRow.holds Tryz.pinned (OpenSpec.upto linkageScoresSpec)

/-- 'drosslaw56.LinkageExplain', WHERE WHAT IT READS IS OF BULK AT MOST 1048576: true; the input reads as it did. -/
def linkageExplainUptoRow : OpenClaim := { program := "ytmlegeeinnkhkaagreat", sum := "eff5e704e5d1b4e735979e73cbd0541626e52f1580c733b73ae1ad280dc0ca63", func := "dross/drosslaw56.LinkageExplain", spec := "linkageExplain", inPlace := ["internal/abi.NoEscape", "internal/bytealg.MakeNoZero", "internal/bytealg.abigen_runtime_cmpstring", "math/bits.Add64", "math/bits.Sub64"], unfollowed := true, recurses := true, plainKeys := false, apart := false, narrowed := true }
def LinkageExplainUptoSaid : Prop := linkageExplainUptoRow.holds Tryz.pinned (OpenSpec.upto linkageExplainSpec)

/-- 'drosslaw56.LinkageLink', WHERE WHAT IT READS IS OF BULK AT MOST 1048576: true; the input reads as it did. -/
def linkageLinkUptoRow : OpenClaim := { program := "ytmlegeeinnkhkaagreat", sum := "eff5e704e5d1b4e735979e73cbd0541626e52f1580c733b73ae1ad280dc0ca63", func := "dross/drosslaw56.LinkageLink", spec := "linkageLink", inPlace := ["internal/abi.NoEscape", "internal/bytealg.MakeNoZero", "internal/bytealg.abigen_runtime_cmpstring", "math/bits.Add64", "math/bits.Sub64"], unfollowed := true, recurses := true, plainKeys := false, apart := false, narrowed := true }
def LinkageLinkUptoSaid : Prop := linkageLinkUptoRow.holds Tryz.pinned (OpenSpec.upto linkageLinkSpec)

/-- 'drosslaw56.LinkageErrors', WHERE WHAT IT READS IS OF BULK AT MOST 1048576: true; the input reads as it did. -/
def linkageErrorsUptoRow : OpenClaim := { program := "ytmlegeeinnkhkaagreat", sum := "eff5e704e5d1b4e735979e73cbd0541626e52f1580c733b73ae1ad280dc0ca63", func := "dross/drosslaw56.LinkageErrors", spec := "linkageErrors", inPlace := ["internal/abi.NoEscape", "internal/bytealg.MakeNoZero", "internal/bytealg.abigen_runtime_cmpstring", "math/bits.Add64", "math/bits.Sub64"], unfollowed := true, recurses := true, plainKeys := false, apart := false, narrowed := true }
def LinkageErrorsUptoSaid : Prop := linkageErrorsUptoRow.holds Tryz.pinned (OpenSpec.upto linkageErrorsSpec)

end Rows
end Go.Proofs.YtmlegeeinnkhkaaGreat
