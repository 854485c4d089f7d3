/-
  No cell of these rows narrows 'for every input' (looked for: loops, veiled, ifaces, maps, wideKeys, modest, calm, conditions, laid).
  DERIVED. THE GIVEN ROWS OF THIS SEAT. 4 by the template 'for every input the law returns true; each argument reads behind the call as it read before'; 0 by the template 'total and deterministic' (their statements: YthgnkhchpjcboaaTotals.lean).
  GIVEN WITH THE SEED: the statements are not yours to turn. If you find one false, say at which input.
  Laid BY PROGRAM, IN A SANDBOX (cutbox-rows.mjs): the forced cells as the released guide's own fill.sh prints them over the translation 58ab1766ccd5fe10… (all of the seat's roots in one cut). By AI agents, Wed Nov 11 2026. No macro, syntax, notation, axiom, sorry.
-/
import Derived.Test.YthgnkhchpjcboaaChecked
import GoSem.Claim
import GoSem.ClaimJoined
import GoSem.ClaimMapViews
import Derived.JoinedTies
import Derived.KernelRfl
namespace Go.Proofs.Ythgnkhchpjcboaa
/- THE CELL 'sum', in the pinned program and in every row, IS THE sha256 OF THE DUMP (.gsa) THAT YthgnkhchpjcboaaProg.lean LOADS. Nothing in Lean hashes anything: it is a label: what it is worth is what the hold of that sum in a sandbox is worth. -/
noncomputable def Try.pinned : Pinned := { name := "ythgnkhchpjcboaa", sum := "58ab1766ccd5fe1039f4082f6fbc55b841d1794ed63bf4046cde6c22abd47b36", checked := Try.checked }
namespace Rows
def none {H : Type} : Left H := { results := [], args := [] }

/-- 'drosslaw31.OdmineKeys': WHATEVER THE INPUT: true; the input reads as it did. -/
def odmineKeysSpec : ChangeSpec := { name := "odmineKeys", fn := fun _ => fun
  | [d] => { results := [.lit (.bool true)], args := [d] }
  | _ => none }
def odmineKeysRow : OpenClaim := { program := "ythgnkhchpjcboaa", sum := "58ab1766ccd5fe1039f4082f6fbc55b841d1794ed63bf4046cde6c22abd47b36", func := "dross/drosslaw31.OdmineKeys", spec := "odmineKeys", inPlace := ["internal/bytealg.abigen_runtime_cmpstring"], unfollowed := true, recurses := true, plainKeys := false, apart := false }
def OdmineKeysSaid : Prop := odmineKeysRow.holds Try.pinned (OpenSpec.ofChange odmineKeysSpec)

/-- ITS FALSE NEIGHBOUR: 'it returns false'. Refute it at one input. -/
def odmineKeysWrong : ChangeSpec := { name := "odmineKeys", fn := fun _ => fun
  | [d] => { results := [.lit (.bool false)], args := [d] }
  | _ => none }
def OdmineKeysWrongFalsely : Prop := odmineKeysRow.holds Try.pinned (OpenSpec.ofChange odmineKeysWrong)

/-- 'drosslaw31.OdmineConstants': WHATEVER THE INPUT: true; the input reads as it did. -/
def odmineConstantsSpec : ChangeSpec := { name := "odmineConstants", fn := fun _ => fun
  | [d1, d2, d3] => { results := [.lit (.bool true)], args := [d1, d2, d3] }
  | _ => none }
def odmineConstantsRow : OpenClaim := { program := "ythgnkhchpjcboaa", sum := "58ab1766ccd5fe1039f4082f6fbc55b841d1794ed63bf4046cde6c22abd47b36", func := "dross/drosslaw31.OdmineConstants", spec := "odmineConstants", inPlace := ["internal/bytealg.abigen_runtime_cmpstring"], unfollowed := true, recurses := true, plainKeys := false, apart := false }
def OdmineConstantsSaid : Prop := odmineConstantsRow.holds Try.pinned (OpenSpec.ofChange odmineConstantsSpec)

/-- ITS FALSE NEIGHBOUR: 'it returns false'. Refute it at one input. -/
def odmineConstantsWrong : ChangeSpec := { name := "odmineConstants", fn := fun _ => fun
  | [d1, d2, d3] => { results := [.lit (.bool false)], args := [d1, d2, d3] }
  | _ => none }
def OdmineConstantsWrongFalsely : Prop := odmineConstantsRow.holds Try.pinned (OpenSpec.ofChange odmineConstantsWrong)

/-- 'drosslaw31.OdmineImplied': WHATEVER THE INPUT: true; the input reads as it did. -/
def odmineImpliedSpec : ChangeSpec := { name := "odmineImplied", fn := fun _ => fun
  | [d1, d2] => { results := [.lit (.bool true)], args := [d1, d2] }
  | _ => none }
def odmineImpliedRow : OpenClaim := { program := "ythgnkhchpjcboaa", sum := "58ab1766ccd5fe1039f4082f6fbc55b841d1794ed63bf4046cde6c22abd47b36", func := "dross/drosslaw31.OdmineImplied", spec := "odmineImplied", inPlace := ["internal/bytealg.abigen_runtime_cmpstring"], unfollowed := true, recurses := true, plainKeys := false, apart := false }
def OdmineImpliedSaid : Prop := odmineImpliedRow.holds Try.pinned (OpenSpec.ofChange odmineImpliedSpec)

/-- ITS FALSE NEIGHBOUR: 'it returns false'. Refute it at one input. -/
def odmineImpliedWrong : ChangeSpec := { name := "odmineImplied", fn := fun _ => fun
  | [d1, d2] => { results := [.lit (.bool false)], args := [d1, d2] }
  | _ => none }
def OdmineImpliedWrongFalsely : Prop := odmineImpliedRow.holds Try.pinned (OpenSpec.ofChange odmineImpliedWrong)

/-- 'drosslaw31.OdmineLeast': WHATEVER THE INPUT: true; the input reads as it did. -/
def odmineLeastSpec : ChangeSpec := { name := "odmineLeast", fn := fun _ => fun
  | [d1, d2] => { results := [.lit (.bool true)], args := [d1, d2] }
  | _ => none }
def odmineLeastRow : OpenClaim := { program := "ythgnkhchpjcboaa", sum := "58ab1766ccd5fe1039f4082f6fbc55b841d1794ed63bf4046cde6c22abd47b36", func := "dross/drosslaw31.OdmineLeast", spec := "odmineLeast", inPlace := ["internal/bytealg.abigen_runtime_cmpstring"], unfollowed := true, recurses := true, plainKeys := false, apart := false }
def OdmineLeastSaid : Prop := odmineLeastRow.holds Try.pinned (OpenSpec.ofChange odmineLeastSpec)

/-- ITS FALSE NEIGHBOUR: 'it returns false'. Refute it at one input. -/
def odmineLeastWrong : ChangeSpec := { name := "odmineLeast", fn := fun _ => fun
  | [d1, d2] => { results := [.lit (.bool false)], args := [d1, d2] }
  | _ => none }
def OdmineLeastWrongFalsely : Prop := odmineLeastRow.holds Try.pinned (OpenSpec.ofChange odmineLeastWrong)

/- THE SECOND FORM. 'bulk': how many values and letters a reading holds, each counted each time it is reached (what is shared counts as often as it is met; a slice's spare places count too). A statement '..UptoSaid' is the law's where the arguments, and the package variables that the reading takes, are together of bulk at most 1048576: NARROWER than '..Said'. Prove '..Said' where nothing that the law and all that it calls make is longer than what came in: it says more and counts as full. Else prove '..UptoSaid'. A law counts once. -/
mutual
def uptoBulk {H : Type} : DataW H → Nat
  | .lit (.string bytes) => bytes.length + 1
  | .lit _ => 1
  | .nil => 1
  | .ptr d => uptoBulk d + 1
  | .slice elems spare => uptoBulkAll elems + uptoBulkAll spare + 1
  | .agg parts => uptoBulkAll parts + 1
  | .iface _ d => uptoBulk d + 1
  | .map entries => uptoBulkEntries entries + 1
  | .held _ => 1
def uptoBulkAll {H : Type} : List (DataW H) → Nat
  | [] => 0
  | d :: r => uptoBulk d + uptoBulkAll r
def uptoBulkEntries {H : Type} : List (Lit × DataW H) → Nat
  | [] => 0
  | x :: r => uptoBulkEntry x + uptoBulkEntries r
def uptoBulkEntry {H : Type} : Lit × DataW H → Nat
  | (.string bytes, d) => bytes.length + uptoBulk d + 1
  | (_, d) => uptoBulk d + 1
 end
def uptoSmall : (H : Type) → List (DataW H) → Bool := fun _ ds => decide (uptoBulkAll ds ≤ 1048576)
def OpenSpec.upto (s : _root_.Go.ChangeSpec) : _root_.Go.OpenSpec := { _root_.Go.OpenSpec.ofChange s with cond := some uptoSmall }

/-- 'drosslaw31.OdmineKeys', WHERE WHAT IT READS IS OF BULK AT MOST 1048576: true; the input reads as it did. -/
def odmineKeysUptoRow : OpenClaim := { program := "ythgnkhchpjcboaa", sum := "58ab1766ccd5fe1039f4082f6fbc55b841d1794ed63bf4046cde6c22abd47b36", func := "dross/drosslaw31.OdmineKeys", spec := "odmineKeys", inPlace := ["internal/bytealg.abigen_runtime_cmpstring"], unfollowed := true, recurses := true, plainKeys := false, apart := false, narrowed := true }
def OdmineKeysUptoSaid : Prop := odmineKeysUptoRow.holds Try.pinned (OpenSpec.upto odmineKeysSpec)

/-- 'drosslaw31.OdmineConstants', WHERE WHAT IT READS IS OF BULK AT MOST 1048576: true; the input reads as it did. -/
def odmineConstantsUptoRow : OpenClaim := { program := "ythgnkhchpjcboaa", sum := "58ab1766ccd5fe1039f4082f6fbc55b841d1794ed63bf4046cde6c22abd47b36", func := "dross/drosslaw31.OdmineConstants", spec := "odmineConstants", inPlace := ["internal/bytealg.abigen_runtime_cmpstring"], unfollowed := true, recurses := true, plainKeys := false, apart := false, narrowed := true }
def OdmineConstantsUptoSaid : Prop := odmineConstantsUptoRow.holds Try.pinned (OpenSpec.upto odmineConstantsSpec)

/-- 'drosslaw31.OdmineImplied', WHERE WHAT IT READS IS OF BULK AT MOST 1048576: true; the input reads as it did. -/
def odmineImpliedUptoRow : OpenClaim := { program := "ythgnkhchpjcboaa", sum := "58ab1766ccd5fe1039f4082f6fbc55b841d1794ed63bf4046cde6c22abd47b36", func := "dross/drosslaw31.OdmineImplied", spec := "odmineImplied", inPlace := ["internal/bytealg.abigen_runtime_cmpstring"], unfollowed := true, recurses := true, plainKeys := false, apart := false, narrowed := true }
def OdmineImpliedUptoSaid : Prop := odmineImpliedUptoRow.holds Try.pinned (OpenSpec.upto odmineImpliedSpec)

/-- 'drosslaw31.OdmineLeast', WHERE WHAT IT READS IS OF BULK AT MOST 1048576: true; the input reads as it did. -/
def odmineLeastUptoRow : OpenClaim := { program := "ythgnkhchpjcboaa", sum := "58ab1766ccd5fe1039f4082f6fbc55b841d1794ed63bf4046cde6c22abd47b36", func := "dross/drosslaw31.OdmineLeast", spec := "odmineLeast", inPlace := ["internal/bytealg.abigen_runtime_cmpstring"], unfollowed := true, recurses := true, plainKeys := false, apart := false, narrowed := true }
def OdmineLeastUptoSaid : Prop := odmineLeastUptoRow.holds Try.pinned (OpenSpec.upto odmineLeastSpec)

end Rows
end Go.Proofs.Ythgnkhchpjcboaa
