/-
  No cell of these rows narrows 'for every input' (looked for: loops, veiled, ifaces, maps, wideKeys, modest, calm, conditions, laid).
  DERIVED. THE GIVEN ROWS OF THIS SEAT. 5 by the template 'for every input the law returns true; each argument reads behind the call as it read before'; 0 by the template 'total and deterministic' (their statements: YtbiklagfjeileaaGreatTotals.lean).
  GIVEN WITH THE SEED: the statements are not yours to turn. If you find one false, say at which input.
  Laid BY PROGRAM, IN A SANDBOX (cutbox-rows.mjs): the forced cells as the released guide's own fill.sh prints them over the translation 023c76fc694251ac… (all of the seat's roots in one cut). By AI agents, Wed Nov 11 2026. No macro, syntax, notation, axiom, sorry.
-/
import Derived.Test.YtbiklagfjeileaaGreatChecked
import GoSem.Claim
import GoSem.ClaimJoined
import GoSem.ClaimMapViews
import Derived.JoinedTies
import Derived.KernelRfl
namespace Go.Proofs.YtbiklagfjeileaaGreat
/- THE CELL 'sum', in the pinned program and in every row, IS THE sha256 OF THE DUMP (.gsa) THAT YtbiklagfjeileaaGreatProg.lean LOADS. Nothing in Lean hashes anything: it is a label: what it is worth is what the hold of that sum in a sandbox is worth. -/
noncomputable def Tryz.pinned : Pinned := { name := "ytbiklagfjeileaagreat", sum := "023c76fc694251acb5cb15a06ed6f8f7436dc3b192dca9f6e1177c3a99114330", checked := Tryz.checked }
namespace Rows
def none {H : Type} : Left H := { results := [], args := [] }

/-- 'drosslaw53.BlockingValues': WHATEVER THE INPUT: true; the input reads as it did. -/
def blockingValuesSpec : ChangeSpec := { name := "blockingValues", fn := fun _ => fun
  | [d1, d2, d3] => { results := [.lit (.bool true)], args := [d1, d2, d3] }
  | _ => none }
def blockingValuesRow : OpenClaim := { program := "ytbiklagfjeileaagreat", sum := "023c76fc694251acb5cb15a06ed6f8f7436dc3b192dca9f6e1177c3a99114330", func := "dross/drosslaw53.BlockingValues", spec := "blockingValues", inPlace := ["internal/bytealg.abigen_runtime_cmpstring", "internal/abi.NoEscape", "internal/bytealg.MakeNoZero"], unfollowed := true, recurses := true, apart := false }
def BlockingValuesSaid : Prop := blockingValuesRow.holds Tryz.pinned (OpenSpec.ofChange blockingValuesSpec)

/-- ITS FALSE NEIGHBOUR: 'it returns false'. Refute it at one input. -/
def blockingValuesWrong : ChangeSpec := { name := "blockingValues", fn := fun _ => fun
  | [d1, d2, d3] => { results := [.lit (.bool false)], args := [d1, d2, d3] }
  | _ => none }
def BlockingValuesWrongFalsely : Prop := blockingValuesRow.holds Tryz.pinned (OpenSpec.ofChange blockingValuesWrong)

/-- 'drosslaw53.BlockingUnion': WHATEVER THE INPUT: true; the input reads as it did. -/
def blockingUnionSpec : ChangeSpec := { name := "blockingUnion", fn := fun _ => fun
  | [d1, d2] => { results := [.lit (.bool true)], args := [d1, d2] }
  | _ => none }
def blockingUnionRow : OpenClaim := { program := "ytbiklagfjeileaagreat", sum := "023c76fc694251acb5cb15a06ed6f8f7436dc3b192dca9f6e1177c3a99114330", func := "dross/drosslaw53.BlockingUnion", spec := "blockingUnion", inPlace := ["internal/bytealg.abigen_runtime_cmpstring", "internal/abi.NoEscape", "internal/bytealg.MakeNoZero"], unfollowed := true, recurses := true, apart := false }
def BlockingUnionSaid : Prop := blockingUnionRow.holds Tryz.pinned (OpenSpec.ofChange blockingUnionSpec)

/-- ITS FALSE NEIGHBOUR: 'it returns false'. Refute it at one input. -/
def blockingUnionWrong : ChangeSpec := { name := "blockingUnion", fn := fun _ => fun
  | [d1, d2] => { results := [.lit (.bool false)], args := [d1, d2] }
  | _ => none }
def BlockingUnionWrongFalsely : Prop := blockingUnionRow.holds Tryz.pinned (OpenSpec.ofChange blockingUnionWrong)

/-- 'drosslaw53.BlockingWhole': WHATEVER THE INPUT: true; the input reads as it did. -/
def blockingWholeSpec : ChangeSpec := { name := "blockingWhole", fn := fun _ => fun
  | [d] => { results := [.lit (.bool true)], args := [d] }
  | _ => none }
def blockingWholeRow : OpenClaim := { program := "ytbiklagfjeileaagreat", sum := "023c76fc694251acb5cb15a06ed6f8f7436dc3b192dca9f6e1177c3a99114330", func := "dross/drosslaw53.BlockingWhole", spec := "blockingWhole", inPlace := ["internal/bytealg.abigen_runtime_cmpstring", "internal/abi.NoEscape", "internal/bytealg.MakeNoZero"], unfollowed := true, recurses := true, apart := false }
def BlockingWholeSaid : Prop := blockingWholeRow.holds Tryz.pinned (OpenSpec.ofChange blockingWholeSpec)

/-- ITS FALSE NEIGHBOUR: 'it returns false'. Refute it at one input. -/
def blockingWholeWrong : ChangeSpec := { name := "blockingWhole", fn := fun _ => fun
  | [d] => { results := [.lit (.bool false)], args := [d] }
  | _ => none }
def BlockingWholeWrongFalsely : Prop := blockingWholeRow.holds Tryz.pinned (OpenSpec.ofChange blockingWholeWrong)

/-- 'drosslaw53.BlockingErrors': WHATEVER THE INPUT: true; the input reads as it did. -/
def blockingErrorsSpec : ChangeSpec := { name := "blockingErrors", fn := fun _ => fun
  | [d1, d2] => { results := [.lit (.bool true)], args := [d1, d2] }
  | _ => none }
def blockingErrorsRow : OpenClaim := { program := "ytbiklagfjeileaagreat", sum := "023c76fc694251acb5cb15a06ed6f8f7436dc3b192dca9f6e1177c3a99114330", func := "dross/drosslaw53.BlockingErrors", spec := "blockingErrors", inPlace := ["internal/bytealg.abigen_runtime_cmpstring", "internal/abi.NoEscape", "internal/bytealg.MakeNoZero", "math/bits.Add64", "math/bits.Sub64"], unfollowed := true, recurses := true, apart := false }
def BlockingErrorsSaid : Prop := blockingErrorsRow.holds Tryz.pinned (OpenSpec.ofChange blockingErrorsSpec)

/-- ITS FALSE NEIGHBOUR: 'it returns false'. Refute it at one input. -/
def blockingErrorsWrong : ChangeSpec := { name := "blockingErrors", fn := fun _ => fun
  | [d1, d2] => { results := [.lit (.bool false)], args := [d1, d2] }
  | _ => none }
def BlockingErrorsWrongFalsely : Prop := blockingErrorsRow.holds Tryz.pinned (OpenSpec.ofChange blockingErrorsWrong)

/-- 'drosslaw53.BlockingReduction': WHATEVER THE INPUT: true; the input reads as it did. -/
def blockingReductionSpec : ChangeSpec := { name := "blockingReduction", fn := fun _ => fun
  | [d1, d2] => { results := [.lit (.bool true)], args := [d1, d2] }
  | _ => none }
def blockingReductionRow : OpenClaim := { program := "ytbiklagfjeileaagreat", sum := "023c76fc694251acb5cb15a06ed6f8f7436dc3b192dca9f6e1177c3a99114330", func := "dross/drosslaw53.BlockingReduction", spec := "blockingReduction", inPlace := ["internal/bytealg.abigen_runtime_cmpstring", "internal/abi.NoEscape", "internal/bytealg.MakeNoZero", "math/bits.Add64", "math/bits.Sub64"], unfollowed := true, recurses := true, apart := false }
def BlockingReductionSaid : Prop := blockingReductionRow.holds Tryz.pinned (OpenSpec.ofChange blockingReductionSpec)

/-- ITS FALSE NEIGHBOUR: 'it returns false'. Refute it at one input. -/
def blockingReductionWrong : ChangeSpec := { name := "blockingReduction", fn := fun _ => fun
  | [d1, d2] => { results := [.lit (.bool false)], args := [d1, d2] }
  | _ => none }
def BlockingReductionWrongFalsely : Prop := blockingReductionRow.holds Tryz.pinned (OpenSpec.ofChange blockingReductionWrong)

/- THE SECOND FORM. 'bulk': how many values and letters a reading holds, each counted each time it is reached (what is shared counts as often as it is met; a slice's spare places count too). A statement '..UptoSaid' is the law's where the arguments, and the package variables that the reading takes, are together of bulk at most 1048576: NARROWER than '..Said'. Prove '..Said' where nothing that the law and all that it calls make is longer than what came in: it says more and counts as full. Else prove '..UptoSaid'. A law counts once. -/
mutual
def uptoBulk {H : Type} : DataW H → Nat
  | .lit (.string bytes) => bytes.length + 1
  | .lit _ => 1
  | .nil => 1
  | .ptr d => uptoBulk d + 1
  | .slice elems spare => uptoBulkAll elems + uptoBulkAll spare + 1
  | .agg parts => uptoBulkAll parts + 1
  | .iface _ d => uptoBulk d + 1
  | .map entries => uptoBulkEntries entries + 1
  | .held _ => 1
def uptoBulkAll {H : Type} : List (DataW H) → Nat
  | [] => 0
  | d :: r => uptoBulk d + uptoBulkAll r
def uptoBulkEntries {H : Type} : List (Lit × DataW H) → Nat
  | [] => 0
  | x :: r => uptoBulkEntry x + uptoBulkEntries r
def uptoBulkEntry {H : Type} : Lit × DataW H → Nat
  | (.string bytes, d) => bytes.length + uptoBulk d + 1
  | (_, d) => uptoBulk d + 1
 end
def uptoSmall : (H : Type) → List (DataW H) → Bool := fun _ ds => decide (uptoBulkAll ds ≤ 1048576)
def OpenSpec.upto (s : _root_.Go.ChangeSpec) : _root_.Go.OpenSpec := { _root_.Go.OpenSpec.ofChange s with cond := some uptoSmall }

/-- 'drosslaw53.BlockingValues', WHERE WHAT IT READS IS OF BULK AT MOST 1048576: true; the input reads as it did. -/
def blockingValuesUptoRow : OpenClaim := { program := "ytbiklagfjeileaagreat", sum := "023c76fc694251acb5cb15a06ed6f8f7436dc3b192dca9f6e1177c3a99114330", func := "dross/drosslaw53.BlockingValues", spec := "blockingValues", inPlace := ["internal/bytealg.abigen_runtime_cmpstring", "internal/abi.NoEscape", "internal/bytealg.MakeNoZero"], unfollowed := true, recurses := true, apart := false, narrowed := true }
def BlockingValuesUptoSaid : Prop := blockingValuesUptoRow.holds Tryz.pinned (OpenSpec.upto blockingValuesSpec)

/-- 'drosslaw53.BlockingUnion', WHERE WHAT IT READS IS OF BULK AT MOST 1048576: true; the input reads as it did. -/
def blockingUnionUptoRow : OpenClaim := { program := "ytbiklagfjeileaagreat", sum := "023c76fc694251acb5cb15a06ed6f8f7436dc3b192dca9f6e1177c3a99114330", func := "dross/drosslaw53.BlockingUnion", spec := "blockingUnion", inPlace := ["internal/bytealg.abigen_runtime_cmpstring", "internal/abi.NoEscape", "internal/bytealg.MakeNoZero"], unfollowed := true, recurses := true, apart := false, narrowed := true }
def BlockingUnionUptoSaid : Prop := blockingUnionUptoRow.holds Tryz.pinned (OpenSpec.upto blockingUnionSpec)

/-- 'drosslaw53.BlockingWhole', WHERE WHAT IT READS IS OF BULK AT MOST 1048576: true; the input reads as it did. -/
def blockingWholeUptoRow : OpenClaim := { program := "ytbiklagfjeileaagreat", sum := "023c76fc694251acb5cb15a06ed6f8f7436dc3b192dca9f6e1177c3a99114330", func := "dross/drosslaw53.BlockingWhole", spec := "blockingWhole", inPlace := ["internal/bytealg.abigen_runtime_cmpstring", "internal/abi.NoEscape", "internal/bytealg.MakeNoZero"], unfollowed := true, recurses := true, apart := false, narrowed := true }
def BlockingWholeUptoSaid : Prop := blockingWholeUptoRow.holds Tryz.pinned (OpenSpec.upto blockingWholeSpec)

/-- 'drosslaw53.BlockingErrors', WHERE WHAT IT READS IS OF BULK AT MOST 1048576: true; the input reads as it did. -/
def blockingErrorsUptoRow : OpenClaim := { program := "ytbiklagfjeileaagreat", sum := "023c76fc694251acb5cb15a06ed6f8f7436dc3b192dca9f6e1177c3a99114330", func := "dross/drosslaw53.BlockingErrors", spec := "blockingErrors", inPlace := ["internal/bytealg.abigen_runtime_cmpstring", "internal/abi.NoEscape", "internal/bytealg.MakeNoZero", "math/bits.Add64", "math/bits.Sub64"], unfollowed := true, recurses := true, apart := false, narrowed := true }
def BlockingErrorsUptoSaid : Prop := blockingErrorsUptoRow.holds Tryz.pinned (OpenSpec.upto blockingErrorsSpec)

/-- 'drosslaw53.BlockingReduction', WHERE WHAT IT READS IS OF BULK AT MOST 1048576: true; the input reads as it did. -/
def blockingReductionUptoRow : OpenClaim := { program := "ytbiklagfjeileaagreat", sum := "023c76fc694251acb5cb15a06ed6f8f7436dc3b192dca9f6e1177c3a99114330", func := "dross/drosslaw53.BlockingReduction", spec := "blockingReduction", inPlace := ["internal/bytealg.abigen_runtime_cmpstring", "internal/abi.NoEscape", "internal/bytealg.MakeNoZero", "math/bits.Add64", "math/bits.Sub64"], unfollowed := true, recurses := true, apart := false, narrowed := true }
def BlockingReductionUptoSaid : Prop := blockingReductionUptoRow.holds Tryz.pinned (OpenSpec.upto blockingReductionSpec)

end Rows
end Go.Proofs.YtbiklagfjeileaaGreat
