/-
  No cell of these rows narrows 'for every input' (looked for: loops, veiled, ifaces, maps, wideKeys, modest, calm, conditions, laid).
  DERIVED. THE GIVEN ROWS OF THIS SEAT. 6 by the template 'for every input the law returns true; each argument reads behind the call as it read before'; 0 by the template 'total and deterministic' (their statements: YtimfcgdnogjlhaaTotals.lean).
  GIVEN WITH THE SEED: the statements are not yours to turn. If you find one false, say at which input.
  Laid BY PROGRAM, IN A SANDBOX (cutbox-rows.mjs): the forced cells as the released guide's own fill.sh prints them over the translation d09590a5edc64dd2… (all of the seat's roots in one cut). By AI agents, Wed Nov 11 2026. No macro, syntax, notation, axiom, sorry.
-/
import Derived.Test.YtimfcgdnogjlhaaChecked
import GoSem.Claim
import GoSem.ClaimJoined
import GoSem.ClaimMapViews
import Derived.JoinedTies
import Derived.KernelRfl
namespace Go.Proofs.Ytimfcgdnogjlhaa
/- THE CELL 'sum', in the pinned program and in every row, IS THE sha256 OF THE DUMP (.gsa) THAT YtimfcgdnogjlhaaProg.lean LOADS. Nothing in Lean hashes anything: it is a label: what it is worth is what the hold of that sum in a sandbox is worth. -/
noncomputable def Try.pinned : Pinned := { name := "ytimfcgdnogjlhaa", sum := "d09590a5edc64dd270ce9a78e551133fc26ad053e4e0b664a5245e62ae733142", checked := Try.checked }
namespace Rows
def none {H : Type} : Left H := { results := [], args := [] }

/-- 'drosslaw17.OrderingList': WHATEVER THE INPUT: true; the input reads as it did. -/
def orderingListSpec : ChangeSpec := { name := "orderingList", fn := fun _ => fun
  | [d] => { results := [.lit (.bool true)], args := [d] }
  | _ => none }
def orderingListRow : OpenClaim := { program := "ytimfcgdnogjlhaa", sum := "d09590a5edc64dd270ce9a78e551133fc26ad053e4e0b664a5245e62ae733142", func := "dross/drosslaw17.OrderingList", spec := "orderingList", inPlace := ["internal/bytealg.abigen_runtime_cmpstring"], unfollowed := true, recurses := true, apart := false }
def OrderingListSaid : Prop := orderingListRow.holds Try.pinned (OpenSpec.ofChange orderingListSpec)

/-- ITS FALSE NEIGHBOUR: 'it returns false'. Refute it at one input. -/
def orderingListWrong : ChangeSpec := { name := "orderingList", fn := fun _ => fun
  | [d] => { results := [.lit (.bool false)], args := [d] }
  | _ => none }
def OrderingListWrongFalsely : Prop := orderingListRow.holds Try.pinned (OpenSpec.ofChange orderingListWrong)

/-- 'drosslaw17.OrderingValid': WHATEVER THE INPUT: true; the input reads as it did. -/
def orderingValidSpec : ChangeSpec := { name := "orderingValid", fn := fun _ => fun
  | [d1, d2] => { results := [.lit (.bool true)], args := [d1, d2] }
  | _ => none }
def orderingValidRow : OpenClaim := { program := "ytimfcgdnogjlhaa", sum := "d09590a5edc64dd270ce9a78e551133fc26ad053e4e0b664a5245e62ae733142", func := "dross/drosslaw17.OrderingValid", spec := "orderingValid", inPlace := ["internal/bytealg.abigen_runtime_cmpstring"], unfollowed := true, recurses := true, apart := false }
def OrderingValidSaid : Prop := orderingValidRow.holds Try.pinned (OpenSpec.ofChange orderingValidSpec)

/-- ITS FALSE NEIGHBOUR: 'it returns false'. Refute it at one input. -/
def orderingValidWrong : ChangeSpec := { name := "orderingValid", fn := fun _ => fun
  | [d1, d2] => { results := [.lit (.bool false)], args := [d1, d2] }
  | _ => none }
def OrderingValidWrongFalsely : Prop := orderingValidRow.holds Try.pinned (OpenSpec.ofChange orderingValidWrong)

/-- 'drosslaw17.OrderingViolations': WHATEVER THE INPUT: true; the input reads as it did. -/
def orderingViolationsSpec : ChangeSpec := { name := "orderingViolations", fn := fun _ => fun
  | [d1, d2] => { results := [.lit (.bool true)], args := [d1, d2] }
  | _ => none }
def orderingViolationsRow : OpenClaim := { program := "ytimfcgdnogjlhaa", sum := "d09590a5edc64dd270ce9a78e551133fc26ad053e4e0b664a5245e62ae733142", func := "dross/drosslaw17.OrderingViolations", spec := "orderingViolations", inPlace := ["internal/bytealg.abigen_runtime_cmpstring"], unfollowed := true, recurses := true, apart := false }
def OrderingViolationsSaid : Prop := orderingViolationsRow.holds Try.pinned (OpenSpec.ofChange orderingViolationsSpec)

/-- ITS FALSE NEIGHBOUR: 'it returns false'. Refute it at one input. -/
def orderingViolationsWrong : ChangeSpec := { name := "orderingViolations", fn := fun _ => fun
  | [d1, d2] => { results := [.lit (.bool false)], args := [d1, d2] }
  | _ => none }
def OrderingViolationsWrongFalsely : Prop := orderingViolationsRow.holds Try.pinned (OpenSpec.ofChange orderingViolationsWrong)

/-- 'drosslaw17.OrderingHolds': WHATEVER THE INPUT: true; the input reads as it did. -/
def orderingHoldsSpec : ChangeSpec := { name := "orderingHolds", fn := fun _ => fun
  | [d1, d2] => { results := [.lit (.bool true)], args := [d1, d2] }
  | _ => none }
def orderingHoldsRow : OpenClaim := { program := "ytimfcgdnogjlhaa", sum := "d09590a5edc64dd270ce9a78e551133fc26ad053e4e0b664a5245e62ae733142", func := "dross/drosslaw17.OrderingHolds", spec := "orderingHolds", inPlace := ["internal/bytealg.abigen_runtime_cmpstring"], unfollowed := true, recurses := true, apart := false }
def OrderingHoldsSaid : Prop := orderingHoldsRow.holds Try.pinned (OpenSpec.ofChange orderingHoldsSpec)

/-- ITS FALSE NEIGHBOUR: 'it returns false'. Refute it at one input. -/
def orderingHoldsWrong : ChangeSpec := { name := "orderingHolds", fn := fun _ => fun
  | [d1, d2] => { results := [.lit (.bool false)], args := [d1, d2] }
  | _ => none }
def OrderingHoldsWrongFalsely : Prop := orderingHoldsRow.holds Try.pinned (OpenSpec.ofChange orderingHoldsWrong)

/-- 'drosslaw17.OrderingCanonical': WHATEVER THE INPUT: true; the input reads as it did. -/
def orderingCanonicalSpec : ChangeSpec := { name := "orderingCanonical", fn := fun _ => fun
  | [d1, d2] => { results := [.lit (.bool true)], args := [d1, d2] }
  | _ => none }
def orderingCanonicalRow : OpenClaim := { program := "ytimfcgdnogjlhaa", sum := "d09590a5edc64dd270ce9a78e551133fc26ad053e4e0b664a5245e62ae733142", func := "dross/drosslaw17.OrderingCanonical", spec := "orderingCanonical", inPlace := ["internal/bytealg.abigen_runtime_cmpstring"], unfollowed := true, recurses := true, apart := false }
def OrderingCanonicalSaid : Prop := orderingCanonicalRow.holds Try.pinned (OpenSpec.ofChange orderingCanonicalSpec)

/-- ITS FALSE NEIGHBOUR: 'it returns false'. Refute it at one input. -/
def orderingCanonicalWrong : ChangeSpec := { name := "orderingCanonical", fn := fun _ => fun
  | [d1, d2] => { results := [.lit (.bool false)], args := [d1, d2] }
  | _ => none }
def OrderingCanonicalWrongFalsely : Prop := orderingCanonicalRow.holds Try.pinned (OpenSpec.ofChange orderingCanonicalWrong)

/-- 'drosslaw17.OrderingChain': WHATEVER THE INPUT: true; the input reads as it did. -/
def orderingChainSpec : ChangeSpec := { name := "orderingChain", fn := fun _ => fun
  | [d1, d2, d3] => { results := [.lit (.bool true)], args := [d1, d2, d3] }
  | _ => none }
def orderingChainRow : OpenClaim := { program := "ytimfcgdnogjlhaa", sum := "d09590a5edc64dd270ce9a78e551133fc26ad053e4e0b664a5245e62ae733142", func := "dross/drosslaw17.OrderingChain", spec := "orderingChain", inPlace := ["internal/bytealg.abigen_runtime_cmpstring"], unfollowed := true, recurses := true, apart := false }
def OrderingChainSaid : Prop := orderingChainRow.holds Try.pinned (OpenSpec.ofChange orderingChainSpec)

/-- ITS FALSE NEIGHBOUR: 'it returns false'. Refute it at one input. -/
def orderingChainWrong : ChangeSpec := { name := "orderingChain", fn := fun _ => fun
  | [d1, d2, d3] => { results := [.lit (.bool false)], args := [d1, d2, d3] }
  | _ => none }
def OrderingChainWrongFalsely : Prop := orderingChainRow.holds Try.pinned (OpenSpec.ofChange orderingChainWrong)

/- THE SECOND FORM. 'bulk': how many values and letters a reading holds, each counted each time it is reached (what is shared counts as often as it is met; a slice's spare places count too). A statement '..UptoSaid' is the law's where the arguments, and the package variables that the reading takes, are together of bulk at most 1048576: NARROWER than '..Said'. Prove '..Said' where nothing that the law and all that it calls make is longer than what came in: it says more and counts as full. Else prove '..UptoSaid'. A law counts once. -/
mutual
def uptoBulk {H : Type} : DataW H → Nat
  | .lit (.string bytes) => bytes.length + 1
  | .lit _ => 1
  | .nil => 1
  | .ptr d => uptoBulk d + 1
  | .slice elems spare => uptoBulkAll elems + uptoBulkAll spare + 1
  | .agg parts => uptoBulkAll parts + 1
  | .iface _ d => uptoBulk d + 1
  | .map entries => uptoBulkEntries entries + 1
  | .held _ => 1
def uptoBulkAll {H : Type} : List (DataW H) → Nat
  | [] => 0
  | d :: r => uptoBulk d + uptoBulkAll r
def uptoBulkEntries {H : Type} : List (Lit × DataW H) → Nat
  | [] => 0
  | x :: r => uptoBulkEntry x + uptoBulkEntries r
def uptoBulkEntry {H : Type} : Lit × DataW H → Nat
  | (.string bytes, d) => bytes.length + uptoBulk d + 1
  | (_, d) => uptoBulk d + 1
 end
def uptoSmall : (H : Type) → List (DataW H) → Bool := fun _ ds => decide (uptoBulkAll ds ≤ 1048576)
def OpenSpec.upto (s : _root_.Go.ChangeSpec) : _root_.Go.OpenSpec := { _root_.Go.OpenSpec.ofChange s with cond := some uptoSmall }

/-- 'drosslaw17.OrderingList', WHERE WHAT IT READS IS OF BULK AT MOST 1048576: true; the input reads as it did. -/
def orderingListUptoRow : OpenClaim := { program := "ytimfcgdnogjlhaa", sum := "d09590a5edc64dd270ce9a78e551133fc26ad053e4e0b664a5245e62ae733142", func := "dross/drosslaw17.OrderingList", spec := "orderingList", inPlace := ["internal/bytealg.abigen_runtime_cmpstring"], unfollowed := true, recurses := true, apart := false, narrowed := true }
def OrderingListUptoSaid : Prop := orderingListUptoRow.holds Try.pinned (OpenSpec.upto orderingListSpec)

/-- 'drosslaw17.OrderingValid', WHERE WHAT IT READS IS OF BULK AT MOST 1048576: true; the input reads as it did. -/
def orderingValidUptoRow : OpenClaim := { program := "ytimfcgdnogjlhaa", sum := "d09590a5edc64dd270ce9a78e551133fc26ad053e4e0b664a5245e62ae733142", func := "dross/drosslaw17.OrderingValid", spec := "orderingValid", inPlace := ["internal/bytealg.abigen_runtime_cmpstring"], unfollowed := true, recurses := true, apart := false, narrowed := true }
def OrderingValidUptoSaid : Prop := orderingValidUptoRow.holds Try.pinned (OpenSpec.upto orderingValidSpec)

/-- 'drosslaw17.OrderingViolations', WHERE WHAT IT READS IS OF BULK AT MOST 1048576: true; the input reads as it did. -/
def orderingViolationsUptoRow : OpenClaim := { program := "ytimfcgdnogjlhaa", sum := "d09590a5edc64dd270ce9a78e551133fc26ad053e4e0b664a5245e62ae733142", func := "dross/drosslaw17.OrderingViolations", spec := "orderingViolations", inPlace := ["internal/bytealg.abigen_runtime_cmpstring"], unfollowed := true, recurses := true, apart := false, narrowed := true }
def OrderingViolationsUptoSaid : Prop := orderingViolationsUptoRow.holds Try.pinned (OpenSpec.upto orderingViolationsSpec)

/-- 'drosslaw17.OrderingHolds', WHERE WHAT IT READS IS OF BULK AT MOST 1048576: true; the input reads as it did. -/
def orderingHoldsUptoRow : OpenClaim := { program := "ytimfcgdnogjlhaa", sum := "d09590a5edc64dd270ce9a78e551133fc26ad053e4e0b664a5245e62ae733142", func := "dross/drosslaw17.OrderingHolds", spec := "orderingHolds", inPlace := ["internal/bytealg.abigen_runtime_cmpstring"], unfollowed := true, recurses := true, apart := false, narrowed := true }
def OrderingHoldsUptoSaid : Prop := orderingHoldsUptoRow.holds Try.pinned (OpenSpec.upto orderingHoldsSpec)

/-- 'drosslaw17.OrderingCanonical', WHERE WHAT IT READS IS OF BULK AT MOST 1048576: true; the input reads as it did. -/
def orderingCanonicalUptoRow : OpenClaim := { program := "ytimfcgdnogjlhaa", sum := "d09590a5edc64dd270ce9a78e551133fc26ad053e4e0b664a5245e62ae733142", func := "dross/drosslaw17.OrderingCanonical", spec := "orderingCanonical", inPlace := ["internal/bytealg.abigen_runtime_cmpstring"], unfollowed := true, recurses := true, apart := false, narrowed := true }
def OrderingCanonicalUptoSaid : Prop := orderingCanonicalUptoRow.holds Try.pinned (OpenSpec.upto orderingCanonicalSpec)

/-- 'drosslaw17.OrderingChain', WHERE WHAT IT READS IS OF BULK AT MOST 1048576: true; the input reads as it did. -/
def orderingChainUptoRow : OpenClaim := { program := "ytimfcgdnogjlhaa", sum := "d09590a5edc64dd270ce9a78e551133fc26ad053e4e0b664a5245e62ae733142", func := "dross/drosslaw17.OrderingChain", spec := "orderingChain", inPlace := ["internal/bytealg.abigen_runtime_cmpstring"], unfollowed := true, recurses := true, apart := false, narrowed := true }
def OrderingChainUptoSaid : Prop := orderingChainUptoRow.holds Try.pinned (OpenSpec.upto orderingChainSpec)

end Rows
end Go.Proofs.Ytimfcgdnogjlhaa
