/-
  No cell of these rows narrows 'for every input' (looked for: loops, veiled, ifaces, maps, wideKeys, modest, calm, conditions, laid).
  DERIVED. THE GIVEN ROWS OF THIS SEAT. 5 by the template 'for every input the law returns true; each argument reads behind the call as it read before'; 0 by the template 'total and deterministic' (their statements: YthgnkhchpjcboaaGreatTotals.lean).
  GIVEN WITH THE SEED: the statements are not yours to turn. If you find one false, say at which input.
  Laid BY PROGRAM, IN A SANDBOX (cutbox-rows.mjs): the forced cells as the released guide's own fill.sh prints them over the translation b27b1d355bfe6320… (all of the seat's roots in one cut). By AI agents, Wed Nov 11 2026. No macro, syntax, notation, axiom, sorry.
-/
import Derived.Test.YthgnkhchpjcboaaGreatChecked
import GoSem.Claim
import GoSem.ClaimJoined
import GoSem.ClaimMapViews
import Derived.JoinedTies
import Derived.KernelRfl
namespace Go.Proofs.YthgnkhchpjcboaaGreat
/- THE CELL 'sum', in the pinned program and in every row, IS THE sha256 OF THE DUMP (.gsa) THAT YthgnkhchpjcboaaGreatProg.lean LOADS. Nothing in Lean hashes anything: it is a label: what it is worth is what the hold of that sum in a sandbox is worth. -/
noncomputable def Tryz.pinned : Pinned := { name := "ythgnkhchpjcboaagreat", sum := "b27b1d355bfe632029d93f12f90dc06744b7019679b7021fad42f3b5661a915e", checked := Tryz.checked }
namespace Rows
def none {H : Type} : Left H := { results := [], args := [] }

/-- 'drosslaw31.OdmineCheck': WHATEVER THE INPUT: true; the input reads as it did. -/
def odmineCheckSpec : ChangeSpec := { name := "odmineCheck", fn := fun _ => fun
  | [d1, d2] => { results := [.lit (.bool true)], args := [d1, d2] }
  | _ => none }
def odmineCheckRow : OpenClaim := { program := "ythgnkhchpjcboaagreat", sum := "b27b1d355bfe632029d93f12f90dc06744b7019679b7021fad42f3b5661a915e", func := "dross/drosslaw31.OdmineCheck", spec := "odmineCheck", inPlace := ["internal/bytealg.abigen_runtime_cmpstring"], unfollowed := true, recurses := true, plainKeys := false, apart := false }
def OdmineCheckSaid : Prop := odmineCheckRow.holds Tryz.pinned (OpenSpec.ofChange odmineCheckSpec)

/-- ITS FALSE NEIGHBOUR: 'it returns false'. Refute it at one input. -/
def odmineCheckWrong : ChangeSpec := { name := "odmineCheck", fn := fun _ => fun
  | [d1, d2] => { results := [.lit (.bool false)], args := [d1, d2] }
  | _ => none }
def OdmineCheckWrongFalsely : Prop := odmineCheckRow.holds Tryz.pinned (OpenSpec.ofChange odmineCheckWrong)

/-- 'drosslaw31.OdmineAll': WHATEVER THE INPUT: true; the input reads as it did. -/
def odmineAllSpec : ChangeSpec := { name := "odmineAll", fn := fun _ => fun
  | [d] => { results := [.lit (.bool true)], args := [d] }
  | _ => none }
def odmineAllRow : OpenClaim := { program := "ythgnkhchpjcboaagreat", sum := "b27b1d355bfe632029d93f12f90dc06744b7019679b7021fad42f3b5661a915e", func := "dross/drosslaw31.OdmineAll", spec := "odmineAll", inPlace := ["internal/bytealg.abigen_runtime_cmpstring"], unfollowed := true, recurses := true, plainKeys := false, apart := false }
def OdmineAllSaid : Prop := odmineAllRow.holds Tryz.pinned (OpenSpec.ofChange odmineAllSpec)

/-- ITS FALSE NEIGHBOUR: 'it returns false'. Refute it at one input. -/
def odmineAllWrong : ChangeSpec := { name := "odmineAll", fn := fun _ => fun
  | [d] => { results := [.lit (.bool false)], args := [d] }
  | _ => none }
def OdmineAllWrongFalsely : Prop := odmineAllRow.holds Tryz.pinned (OpenSpec.ofChange odmineAllWrong)

/-- 'drosslaw31.OdmineComplete': WHATEVER THE INPUT: true; the input reads as it did. -/
def odmineCompleteSpec : ChangeSpec := { name := "odmineComplete", fn := fun _ => fun
  | [d1, d2] => { results := [.lit (.bool true)], args := [d1, d2] }
  | _ => none }
def odmineCompleteRow : OpenClaim := { program := "ythgnkhchpjcboaagreat", sum := "b27b1d355bfe632029d93f12f90dc06744b7019679b7021fad42f3b5661a915e", func := "dross/drosslaw31.OdmineComplete", spec := "odmineComplete", inPlace := ["internal/bytealg.abigen_runtime_cmpstring"], unfollowed := true, recurses := true, plainKeys := false, apart := false }
def OdmineCompleteSaid : Prop := odmineCompleteRow.holds Tryz.pinned (OpenSpec.ofChange odmineCompleteSpec)

/-- ITS FALSE NEIGHBOUR: 'it returns false'. Refute it at one input. -/
def odmineCompleteWrong : ChangeSpec := { name := "odmineComplete", fn := fun _ => fun
  | [d1, d2] => { results := [.lit (.bool false)], args := [d1, d2] }
  | _ => none }
def OdmineCompleteWrongFalsely : Prop := odmineCompleteRow.holds Tryz.pinned (OpenSpec.ofChange odmineCompleteWrong)

/-- 'drosslaw31.OdmineOrders': WHATEVER THE INPUT: true; the input reads as it did. -/
def odmineOrdersSpec : ChangeSpec := { name := "odmineOrders", fn := fun _ => fun
  | [d1, d2] => { results := [.lit (.bool true)], args := [d1, d2] }
  | _ => none }
def odmineOrdersRow : OpenClaim := { program := "ythgnkhchpjcboaagreat", sum := "b27b1d355bfe632029d93f12f90dc06744b7019679b7021fad42f3b5661a915e", func := "dross/drosslaw31.OdmineOrders", spec := "odmineOrders", inPlace := ["internal/bytealg.abigen_runtime_cmpstring"], unfollowed := true, recurses := true, plainKeys := false, apart := false }
def OdmineOrdersSaid : Prop := odmineOrdersRow.holds Tryz.pinned (OpenSpec.ofChange odmineOrdersSpec)

/-- ITS FALSE NEIGHBOUR: 'it returns false'. Refute it at one input. -/
def odmineOrdersWrong : ChangeSpec := { name := "odmineOrders", fn := fun _ => fun
  | [d1, d2] => { results := [.lit (.bool false)], args := [d1, d2] }
  | _ => none }
def OdmineOrdersWrongFalsely : Prop := odmineOrdersRow.holds Tryz.pinned (OpenSpec.ofChange odmineOrdersWrong)

/-- 'drosslaw31.OdmineOrdersAny': WHATEVER THE INPUT: true; the input reads as it did. -/
def odmineOrdersAnySpec : ChangeSpec := { name := "odmineOrdersAny", fn := fun _ => fun
  | [d1, d2, d3] => { results := [.lit (.bool true)], args := [d1, d2, d3] }
  | _ => none }
def odmineOrdersAnyRow : OpenClaim := { program := "ythgnkhchpjcboaagreat", sum := "b27b1d355bfe632029d93f12f90dc06744b7019679b7021fad42f3b5661a915e", func := "dross/drosslaw31.OdmineOrdersAny", spec := "odmineOrdersAny", inPlace := ["internal/bytealg.abigen_runtime_cmpstring"], unfollowed := true, recurses := true, plainKeys := false, apart := false }
def OdmineOrdersAnySaid : Prop := odmineOrdersAnyRow.holds Tryz.pinned (OpenSpec.ofChange odmineOrdersAnySpec)

/-- ITS FALSE NEIGHBOUR: 'it returns false'. Refute it at one input. -/
def odmineOrdersAnyWrong : ChangeSpec := { name := "odmineOrdersAny", fn := fun _ => fun
  | [d1, d2, d3] => { results := [.lit (.bool false)], args := [d1, d2, d3] }
  | _ => none }
def OdmineOrdersAnyWrongFalsely : Prop := odmineOrdersAnyRow.holds Tryz.pinned (OpenSpec.ofChange odmineOrdersAnyWrong)

/- THE SECOND FORM. 'bulk': how many values and letters a reading holds, each counted each time it is reached (what is shared counts as often as it is met; a slice's spare places count too). A statement '..UptoSaid' is the law's where the arguments, and the package variables that the reading takes, are together of bulk at most 1048576: NARROWER than '..Said'. Prove '..Said' where nothing that the law and all that it calls make is longer than what came in: it says more and counts as full. Else prove '..UptoSaid'. A law counts once. -/
mutual
def uptoBulk {H : Type} : DataW H → Nat
  | .lit (.string bytes) => bytes.length + 1
  | .lit _ => 1
  | .nil => 1
  | .ptr d => uptoBulk d + 1
  | .slice elems spare => uptoBulkAll elems + uptoBulkAll spare + 1
  | .agg parts => uptoBulkAll parts + 1
  | .iface _ d => uptoBulk d + 1
  | .map entries => uptoBulkEntries entries + 1
  | .held _ => 1
def uptoBulkAll {H : Type} : List (DataW H) → Nat
  | [] => 0
  | d :: r => uptoBulk d + uptoBulkAll r
def uptoBulkEntries {H : Type} : List (Lit × DataW H) → Nat
  | [] => 0
  | x :: r => uptoBulkEntry x + uptoBulkEntries r
def uptoBulkEntry {H : Type} : Lit × DataW H → Nat
  | (.string bytes, d) => bytes.length + uptoBulk d + 1
  | (_, d) => uptoBulk d + 1
 end
def uptoSmall : (H : Type) → List (DataW H) → Bool := fun _ ds => decide (uptoBulkAll ds ≤ 1048576)
def OpenSpec.upto (s : _root_.Go.ChangeSpec) : _root_.Go.OpenSpec := { _root_.Go.OpenSpec.ofChange s with cond := some uptoSmall }

/-- 'drosslaw31.OdmineCheck', WHERE WHAT IT READS IS OF BULK AT MOST 1048576: true; the input reads as it did. -/
def odmineCheckUptoRow : OpenClaim := { program := "ythgnkhchpjcboaagreat", sum := "b27b1d355bfe632029d93f12f90dc06744b7019679b7021fad42f3b5661a915e", func := "dross/drosslaw31.OdmineCheck", spec := "odmineCheck", inPlace := ["internal/bytealg.abigen_runtime_cmpstring"], unfollowed := true, recurses := true, plainKeys := false, apart := false, narrowed := true }
def OdmineCheckUptoSaid : Prop := odmineCheckUptoRow.holds Tryz.pinned (OpenSpec.upto odmineCheckSpec)

/-- 'drosslaw31.OdmineAll', WHERE WHAT IT READS IS OF BULK AT MOST 1048576: true; the input reads as it did. -/
def odmineAllUptoRow : OpenClaim := { program := "ythgnkhchpjcboaagreat", sum := "b27b1d355bfe632029d93f12f90dc06744b7019679b7021fad42f3b5661a915e", func := "dross/drosslaw31.OdmineAll", spec := "odmineAll", inPlace := ["internal/bytealg.abigen_runtime_cmpstring"], unfollowed := true, recurses := true, plainKeys := false, apart := false, narrowed := true }
def OdmineAllUptoSaid : Prop := odmineAllUptoRow.holds Tryz.pinned (OpenSpec.upto odmineAllSpec)

/-- 'drosslaw31.OdmineComplete', WHERE WHAT IT READS IS OF BULK AT MOST 1048576: true; the input reads as it did. -/
def odmineCompleteUptoRow : OpenClaim := { program := "ythgnkhchpjcboaagreat", sum := "b27b1d355bfe632029d93f12f90dc06744b7019679b7021fad42f3b5661a915e", func := "dross/drosslaw31.OdmineComplete", spec := "odmineComplete", inPlace := ["internal/bytealg.abigen_runtime_cmpstring"], unfollowed := true, recurses := true, plainKeys := false, apart := false, narrowed := true }
def OdmineCompleteUptoSaid : Prop := odmineCompleteUptoRow.holds Tryz.pinned (OpenSpec.upto odmineCompleteSpec)

/-- 'drosslaw31.OdmineOrders', WHERE WHAT IT READS IS OF BULK AT MOST 1048576: true; the input reads as it did. -/
def odmineOrdersUptoRow : OpenClaim := { program := "ythgnkhchpjcboaagreat", sum := "b27b1d355bfe632029d93f12f90dc06744b7019679b7021fad42f3b5661a915e", func := "dross/drosslaw31.OdmineOrders", spec := "odmineOrders", inPlace := ["internal/bytealg.abigen_runtime_cmpstring"], unfollowed := true, recurses := true, plainKeys := false, apart := false, narrowed := true }
def OdmineOrdersUptoSaid : Prop := odmineOrdersUptoRow.holds Tryz.pinned (OpenSpec.upto odmineOrdersSpec)

/-- 'drosslaw31.OdmineOrdersAny', WHERE WHAT IT READS IS OF BULK AT MOST 1048576: true; the input reads as it did. -/
def odmineOrdersAnyUptoRow : OpenClaim := { program := "ythgnkhchpjcboaagreat", sum := "b27b1d355bfe632029d93f12f90dc06744b7019679b7021fad42f3b5661a915e", func := "dross/drosslaw31.OdmineOrdersAny", spec := "odmineOrdersAny", inPlace := ["internal/bytealg.abigen_runtime_cmpstring"], unfollowed := true, recurses := true, plainKeys := false, apart := false, narrowed := true }
def OdmineOrdersAnyUptoSaid : Prop := odmineOrdersAnyUptoRow.holds Tryz.pinned (OpenSpec.upto odmineOrdersAnySpec)

end Rows
end Go.Proofs.YthgnkhchpjcboaaGreat
