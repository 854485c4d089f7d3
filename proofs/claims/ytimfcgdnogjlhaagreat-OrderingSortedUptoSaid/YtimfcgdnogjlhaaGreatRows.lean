/-
  No cell of these rows narrows 'for every input' (looked for: loops, veiled, ifaces, maps, wideKeys, modest, calm, conditions, laid).
  DERIVED. THE GIVEN ROWS OF THIS SEAT. 2 by the template 'for every input the law returns true; each argument reads behind the call as it read before'; 0 by the template 'total and deterministic' (their statements: YtimfcgdnogjlhaaGreatTotals.lean).
  GIVEN WITH THE SEED: the statements are not yours to turn. If you find one false, say at which input.
  Laid BY PROGRAM, IN A SANDBOX (cutbox-rows.mjs): the forced cells as the released guide's own fill.sh prints them over the translation 9f04fbbc3c9c8243… (all of the seat's roots in one cut). By AI agents, Wed Nov 11 2026. No macro, syntax, notation, axiom, sorry.
-/
import Derived.Test.YtimfcgdnogjlhaaGreatChecked
import GoSem.Claim
import GoSem.ClaimJoined
import GoSem.ClaimMapViews
import Derived.JoinedTies
import Derived.KernelRfl
namespace Go.Proofs.YtimfcgdnogjlhaaGreat
/- THE CELL 'sum', in the pinned program and in every row, IS THE sha256 OF THE DUMP (.gsa) THAT YtimfcgdnogjlhaaGreatProg.lean LOADS. Nothing in Lean hashes anything: it is a label: what it is worth is what the hold of that sum in a sandbox is worth. -/
noncomputable def Tryz.pinned : Pinned := { name := "ytimfcgdnogjlhaagreat", sum := "9f04fbbc3c9c824381e120cfce70c2156e00b0abbf015a134241d88813eb5307", checked := Tryz.checked }
namespace Rows
def none {H : Type} : Left H := { results := [], args := [] }

/-- 'drosslaw17.OrderingSorted': WHATEVER THE INPUT: true; the input reads as it did. -/
def orderingSortedSpec : ChangeSpec := { name := "orderingSorted", fn := fun _ => fun
  | [d1, d2] => { results := [.lit (.bool true)], args := [d1, d2] }
  | _ => none }
def orderingSortedRow : OpenClaim := { program := "ytimfcgdnogjlhaagreat", sum := "9f04fbbc3c9c824381e120cfce70c2156e00b0abbf015a134241d88813eb5307", func := "dross/drosslaw17.OrderingSorted", spec := "orderingSorted", inPlace := ["internal/bytealg.abigen_runtime_cmpstring"], unfollowed := true, recurses := true, apart := false }
def OrderingSortedSaid : Prop := orderingSortedRow.holds Tryz.pinned (OpenSpec.ofChange orderingSortedSpec)

/-- ITS FALSE NEIGHBOUR: 'it returns false'. Refute it at one input. -/
def orderingSortedWrong : ChangeSpec := { name := "orderingSorted", fn := fun _ => fun
  | [d1, d2] => { results := [.lit (.bool false)], args := [d1, d2] }
  | _ => none }
def OrderingSortedWrongFalsely : Prop := orderingSortedRow.holds Tryz.pinned (OpenSpec.ofChange orderingSortedWrong)

/-- 'drosslaw17.OrderingErrors': WHATEVER THE INPUT: true; the input reads as it did. -/
def orderingErrorsSpec : ChangeSpec := { name := "orderingErrors", fn := fun _ => fun
  | [d1, d2, d3] => { results := [.lit (.bool true)], args := [d1, d2, d3] }
  | _ => none }
def orderingErrorsRow : OpenClaim := { program := "ytimfcgdnogjlhaagreat", sum := "9f04fbbc3c9c824381e120cfce70c2156e00b0abbf015a134241d88813eb5307", func := "dross/drosslaw17.OrderingErrors", spec := "orderingErrors", inPlace := ["internal/bytealg.abigen_runtime_cmpstring"], unfollowed := true, recurses := true, apart := false }
def OrderingErrorsSaid : Prop := orderingErrorsRow.holds Tryz.pinned (OpenSpec.ofChange orderingErrorsSpec)

/-- ITS FALSE NEIGHBOUR: 'it returns false'. Refute it at one input. -/
def orderingErrorsWrong : ChangeSpec := { name := "orderingErrors", fn := fun _ => fun
  | [d1, d2, d3] => { results := [.lit (.bool false)], args := [d1, d2, d3] }
  | _ => none }
def OrderingErrorsWrongFalsely : Prop := orderingErrorsRow.holds Tryz.pinned (OpenSpec.ofChange orderingErrorsWrong)

/- THE SECOND FORM. 'bulk': how many values and letters a reading holds, each counted each time it is reached (what is shared counts as often as it is met; a slice's spare places count too). A statement '..UptoSaid' is the law's where the arguments, and the package variables that the reading takes, are together of bulk at most 1048576: NARROWER than '..Said'. Prove '..Said' where nothing that the law and all that it calls make is longer than what came in: it says more and counts as full. Else prove '..UptoSaid'. A law counts once. -/
mutual
def uptoBulk {H : Type} : DataW H → Nat
  | .lit (.string bytes) => bytes.length + 1
  | .lit _ => 1
  | .nil => 1
  | .ptr d => uptoBulk d + 1
  | .slice elems spare => uptoBulkAll elems + uptoBulkAll spare + 1
  | .agg parts => uptoBulkAll parts + 1
  | .iface _ d => uptoBulk d + 1
  | .map entries => uptoBulkEntries entries + 1
  | .held _ => 1
def uptoBulkAll {H : Type} : List (DataW H) → Nat
  | [] => 0
  | d :: r => uptoBulk d + uptoBulkAll r
def uptoBulkEntries {H : Type} : List (Lit × DataW H) → Nat
  | [] => 0
  | x :: r => uptoBulkEntry x + uptoBulkEntries r
def uptoBulkEntry {H : Type} : Lit × DataW H → Nat
  | (.string bytes, d) => bytes.length + uptoBulk d + 1
  | (_, d) => uptoBulk d + 1
 end
def uptoSmall : (H : Type) → List (DataW H) → Bool := fun _ ds => decide (uptoBulkAll ds ≤ 1048576)
def OpenSpec.upto (s : _root_.Go.ChangeSpec) : _root_.Go.OpenSpec := { _root_.Go.OpenSpec.ofChange s with cond := some uptoSmall }

/-- 'drosslaw17.OrderingSorted', WHERE WHAT IT READS IS OF BULK AT MOST 1048576: true; the input reads as it did. -/
def orderingSortedUptoRow : OpenClaim := { program := "ytimfcgdnogjlhaagreat", sum := "9f04fbbc3c9c824381e120cfce70c2156e00b0abbf015a134241d88813eb5307", func := "dross/drosslaw17.OrderingSorted", spec := "orderingSorted", inPlace := ["internal/bytealg.abigen_runtime_cmpstring"], unfollowed := true, recurses := true, apart := false, narrowed := true }
def OrderingSortedUptoSaid : Prop := orderingSortedUptoRow.holds Tryz.pinned (OpenSpec.upto orderingSortedSpec)

/-- 'drosslaw17.OrderingErrors', WHERE WHAT IT READS IS OF BULK AT MOST 1048576: true; the input reads as it did. -/
def orderingErrorsUptoRow : OpenClaim := { program := "ytimfcgdnogjlhaagreat", sum := "9f04fbbc3c9c824381e120cfce70c2156e00b0abbf015a134241d88813eb5307", func := "dross/drosslaw17.OrderingErrors", spec := "orderingErrors", inPlace := ["internal/bytealg.abigen_runtime_cmpstring"], unfollowed := true, recurses := true, apart := false, narrowed := true }
def OrderingErrorsUptoSaid : Prop := orderingErrorsUptoRow.holds Tryz.pinned (OpenSpec.upto orderingErrorsSpec)

end Rows
end Go.Proofs.YtimfcgdnogjlhaaGreat
