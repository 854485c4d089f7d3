/-
  NARROWER THAN 'FOR EVERY INPUT', by the rows' own cells (each row's printed sentence says how): DenialValid: laid · DenialFD: laid · DenialOD: laid · DenialContradictory: laid · DenialViolations: laid · DenialNegate: laid · DenialFewer: laid · DenialCFD: laid.
  DERIVED. THE GIVEN ROWS OF THIS SEAT. 8 by the template 'for every input the law returns true; each argument reads behind the call as it read before'; 0 by the template 'total and deterministic' (their statements: YtlaodgbkpmdhoaaGreatDoorTotals.lean).
  GIVEN WITH THE SEED: the statements are not yours to turn. If you find one false, say at which input.
  Laid BY PROGRAM, IN A SANDBOX (cutbox-rows.mjs): the forced cells as the released guide's own fill.sh prints them over the translation a3ea47ef893e62ea… (all of the seat's roots in one cut). By AI agents, Wed Nov 11 2026. No macro, syntax, notation, axiom, sorry.
-/
import Derived.Test.YtlaodgbkpmdhoaaGreatDoorChecked
import GoSem.Claim
import GoSem.ClaimJoined
import GoSem.ClaimMapViews
import Derived.JoinedTies
import Derived.KernelRfl
namespace Go.Proofs.YtlaodgbkpmdhoaaGreatDoor
/- THE CELL 'sum', in the pinned program and in every row, IS THE sha256 OF THE DUMP (.gsa) THAT YtlaodgbkpmdhoaaGreatDoorProg.lean LOADS. Nothing in Lean hashes anything: it is a label: what it is worth is what the hold of that sum in a sandbox is worth. -/
noncomputable def Tryz.pinned : Pinned := { name := "ytlaodgbkpmdhoaagreatdoor", sum := "a3ea47ef893e62ea276788bf39d6ab8a8f4c8734fdd4948521ebd3eb4ebe18bc", checked := Tryz.checked }
namespace Rows
def none {H : Type} : Left H := { results := [], args := [] }

/- WHAT THE LISTED PACKAGE-LEVEL VARIABLES READ AS WHEN THE CALL BEGINS. Each datum BY PROGRAM (the guide's laid-datum.mjs) off the statement by which the dump's own 'gosem.cut.vars' lays the variable. In a bare row this is a premise. The card (YtlaodgbkpmdhoaaGreatDoorCards.lean) ties it to the program's text. -/
def laid_math_bits_deBruijn32tab {H : Type} : DataW H := .agg [.lit (.int .u8 0), .lit (.int .u8 1), .lit (.int .u8 28), .lit (.int .u8 2), .lit (.int .u8 29), .lit (.int .u8 14), .lit (.int .u8 24), .lit (.int .u8 3), .lit (.int .u8 30), .lit (.int .u8 22), .lit (.int .u8 20), .lit (.int .u8 15), .lit (.int .u8 25), .lit (.int .u8 17), .lit (.int .u8 4), .lit (.int .u8 8), .lit (.int .u8 31), .lit (.int .u8 27), .lit (.int .u8 13), .lit (.int .u8 23), .lit (.int .u8 21), .lit (.int .u8 19), .lit (.int .u8 16), .lit (.int .u8 7), .lit (.int .u8 26), .lit (.int .u8 12), .lit (.int .u8 18), .lit (.int .u8 6), .lit (.int .u8 11), .lit (.int .u8 5), .lit (.int .u8 10), .lit (.int .u8 9)]

/-- 'drosslaw18.DenialValid': WHATEVER THE INPUT: true; the input reads as it did. -/
def denialValidSpec : ChangeSpec := { name := "denialValid", fn := fun _ => fun
  | [d1, d2] => { results := [.lit (.bool true)], args := [d1, d2] }
  | _ => none }
def denialValidRow : OpenClaim := { program := "ytlaodgbkpmdhoaagreatdoor", sum := "a3ea47ef893e62ea276788bf39d6ab8a8f4c8734fdd4948521ebd3eb4ebe18bc", func := "dross/drosslaw18.DenialValid", spec := "denialValid", inPlace := ["internal/bytealg.abigen_runtime_cmpstring"], unfollowed := true, recurses := true, named := ["math/bits.deBruijn32tab"], plainKeys := false, apart := false, laid := [("math/bits.deBruijn32tab", laid_math_bits_deBruijn32tab)] }
def DenialValidSaid : Prop := denialValidRow.holds Tryz.pinned (OpenSpec.ofChange denialValidSpec)

/-- ITS FALSE NEIGHBOUR: 'it returns false'. Refute it at one input. -/
def denialValidWrong : ChangeSpec := { name := "denialValid", fn := fun _ => fun
  | [d1, d2] => { results := [.lit (.bool false)], args := [d1, d2] }
  | _ => none }
def DenialValidWrongFalsely : Prop := denialValidRow.holds Tryz.pinned (OpenSpec.ofChange denialValidWrong)

/-- 'drosslaw18.DenialFD': WHATEVER THE INPUT: true; the input reads as it did. -/
def denialFDSpec : ChangeSpec := { name := "denialFD", fn := fun _ => fun
  | [d1, d2, d3] => { results := [.lit (.bool true)], args := [d1, d2, d3] }
  | _ => none }
def denialFDRow : OpenClaim := { program := "ytlaodgbkpmdhoaagreatdoor", sum := "a3ea47ef893e62ea276788bf39d6ab8a8f4c8734fdd4948521ebd3eb4ebe18bc", func := "dross/drosslaw18.DenialFD", spec := "denialFD", inPlace := ["internal/bytealg.abigen_runtime_cmpstring"], unfollowed := true, recurses := true, named := ["math/bits.deBruijn32tab"], plainKeys := false, apart := false, laid := [("math/bits.deBruijn32tab", laid_math_bits_deBruijn32tab)] }
def DenialFDSaid : Prop := denialFDRow.holds Tryz.pinned (OpenSpec.ofChange denialFDSpec)

/-- ITS FALSE NEIGHBOUR: 'it returns false'. Refute it at one input. -/
def denialFDWrong : ChangeSpec := { name := "denialFD", fn := fun _ => fun
  | [d1, d2, d3] => { results := [.lit (.bool false)], args := [d1, d2, d3] }
  | _ => none }
def DenialFDWrongFalsely : Prop := denialFDRow.holds Tryz.pinned (OpenSpec.ofChange denialFDWrong)

/-- 'drosslaw18.DenialOD': WHATEVER THE INPUT: true; the input reads as it did. -/
def denialODSpec : ChangeSpec := { name := "denialOD", fn := fun _ => fun
  | [d1, d2] => { results := [.lit (.bool true)], args := [d1, d2] }
  | _ => none }
def denialODRow : OpenClaim := { program := "ytlaodgbkpmdhoaagreatdoor", sum := "a3ea47ef893e62ea276788bf39d6ab8a8f4c8734fdd4948521ebd3eb4ebe18bc", func := "dross/drosslaw18.DenialOD", spec := "denialOD", inPlace := ["internal/bytealg.abigen_runtime_cmpstring"], unfollowed := true, recurses := true, named := ["math/bits.deBruijn32tab"], plainKeys := false, apart := false, laid := [("math/bits.deBruijn32tab", laid_math_bits_deBruijn32tab)] }
def DenialODSaid : Prop := denialODRow.holds Tryz.pinned (OpenSpec.ofChange denialODSpec)

/-- ITS FALSE NEIGHBOUR: 'it returns false'. Refute it at one input. -/
def denialODWrong : ChangeSpec := { name := "denialOD", fn := fun _ => fun
  | [d1, d2] => { results := [.lit (.bool false)], args := [d1, d2] }
  | _ => none }
def DenialODWrongFalsely : Prop := denialODRow.holds Tryz.pinned (OpenSpec.ofChange denialODWrong)

/-- 'drosslaw18.DenialContradictory': WHATEVER THE INPUT: true; the input reads as it did. -/
def denialContradictorySpec : ChangeSpec := { name := "denialContradictory", fn := fun _ => fun
  | [d1, d2] => { results := [.lit (.bool true)], args := [d1, d2] }
  | _ => none }
def denialContradictoryRow : OpenClaim := { program := "ytlaodgbkpmdhoaagreatdoor", sum := "a3ea47ef893e62ea276788bf39d6ab8a8f4c8734fdd4948521ebd3eb4ebe18bc", func := "dross/drosslaw18.DenialContradictory", spec := "denialContradictory", inPlace := ["internal/bytealg.abigen_runtime_cmpstring"], unfollowed := true, recurses := true, named := ["math/bits.deBruijn32tab"], plainKeys := false, apart := false, laid := [("math/bits.deBruijn32tab", laid_math_bits_deBruijn32tab)] }
def DenialContradictorySaid : Prop := denialContradictoryRow.holds Tryz.pinned (OpenSpec.ofChange denialContradictorySpec)

/-- ITS FALSE NEIGHBOUR: 'it returns false'. Refute it at one input. -/
def denialContradictoryWrong : ChangeSpec := { name := "denialContradictory", fn := fun _ => fun
  | [d1, d2] => { results := [.lit (.bool false)], args := [d1, d2] }
  | _ => none }
def DenialContradictoryWrongFalsely : Prop := denialContradictoryRow.holds Tryz.pinned (OpenSpec.ofChange denialContradictoryWrong)

/-- 'drosslaw18.DenialViolations': WHATEVER THE INPUT: true; the input reads as it did. -/
def denialViolationsSpec : ChangeSpec := { name := "denialViolations", fn := fun _ => fun
  | [d1, d2, d3] => { results := [.lit (.bool true)], args := [d1, d2, d3] }
  | _ => none }
def denialViolationsRow : OpenClaim := { program := "ytlaodgbkpmdhoaagreatdoor", sum := "a3ea47ef893e62ea276788bf39d6ab8a8f4c8734fdd4948521ebd3eb4ebe18bc", func := "dross/drosslaw18.DenialViolations", spec := "denialViolations", inPlace := ["internal/bytealg.abigen_runtime_cmpstring"], unfollowed := true, recurses := true, named := ["math/bits.deBruijn32tab"], plainKeys := false, apart := false, laid := [("math/bits.deBruijn32tab", laid_math_bits_deBruijn32tab)] }
def DenialViolationsSaid : Prop := denialViolationsRow.holds Tryz.pinned (OpenSpec.ofChange denialViolationsSpec)

/-- ITS FALSE NEIGHBOUR: 'it returns false'. Refute it at one input. -/
def denialViolationsWrong : ChangeSpec := { name := "denialViolations", fn := fun _ => fun
  | [d1, d2, d3] => { results := [.lit (.bool false)], args := [d1, d2, d3] }
  | _ => none }
def DenialViolationsWrongFalsely : Prop := denialViolationsRow.holds Tryz.pinned (OpenSpec.ofChange denialViolationsWrong)

/-- 'drosslaw18.DenialNegate': WHATEVER THE INPUT: true; the input reads as it did. -/
def denialNegateSpec : ChangeSpec := { name := "denialNegate", fn := fun _ => fun
  | [d1, d2] => { results := [.lit (.bool true)], args := [d1, d2] }
  | _ => none }
def denialNegateRow : OpenClaim := { program := "ytlaodgbkpmdhoaagreatdoor", sum := "a3ea47ef893e62ea276788bf39d6ab8a8f4c8734fdd4948521ebd3eb4ebe18bc", func := "dross/drosslaw18.DenialNegate", spec := "denialNegate", inPlace := ["internal/bytealg.abigen_runtime_cmpstring"], unfollowed := true, recurses := true, named := ["math/bits.deBruijn32tab"], plainKeys := false, apart := false, laid := [("math/bits.deBruijn32tab", laid_math_bits_deBruijn32tab)] }
def DenialNegateSaid : Prop := denialNegateRow.holds Tryz.pinned (OpenSpec.ofChange denialNegateSpec)

/-- ITS FALSE NEIGHBOUR: 'it returns false'. Refute it at one input. -/
def denialNegateWrong : ChangeSpec := { name := "denialNegate", fn := fun _ => fun
  | [d1, d2] => { results := [.lit (.bool false)], args := [d1, d2] }
  | _ => none }
def DenialNegateWrongFalsely : Prop := denialNegateRow.holds Tryz.pinned (OpenSpec.ofChange denialNegateWrong)

/-- 'drosslaw18.DenialFewer': WHATEVER THE INPUT: true; the input reads as it did. -/
def denialFewerSpec : ChangeSpec := { name := "denialFewer", fn := fun _ => fun
  | [d1, d2, d3] => { results := [.lit (.bool true)], args := [d1, d2, d3] }
  | _ => none }
def denialFewerRow : OpenClaim := { program := "ytlaodgbkpmdhoaagreatdoor", sum := "a3ea47ef893e62ea276788bf39d6ab8a8f4c8734fdd4948521ebd3eb4ebe18bc", func := "dross/drosslaw18.DenialFewer", spec := "denialFewer", inPlace := ["internal/bytealg.abigen_runtime_cmpstring"], unfollowed := true, recurses := true, named := ["math/bits.deBruijn32tab"], plainKeys := false, apart := false, laid := [("math/bits.deBruijn32tab", laid_math_bits_deBruijn32tab)] }
def DenialFewerSaid : Prop := denialFewerRow.holds Tryz.pinned (OpenSpec.ofChange denialFewerSpec)

/-- ITS FALSE NEIGHBOUR: 'it returns false'. Refute it at one input. -/
def denialFewerWrong : ChangeSpec := { name := "denialFewer", fn := fun _ => fun
  | [d1, d2, d3] => { results := [.lit (.bool false)], args := [d1, d2, d3] }
  | _ => none }
def DenialFewerWrongFalsely : Prop := denialFewerRow.holds Tryz.pinned (OpenSpec.ofChange denialFewerWrong)

/-- 'drosslaw18.DenialCFD': WHATEVER THE INPUT: true; the input reads as it did. -/
def denialCFDSpec : ChangeSpec := { name := "denialCFD", fn := fun _ => fun
  | [d1, d2] => { results := [.lit (.bool true)], args := [d1, d2] }
  | _ => none }
def denialCFDRow : OpenClaim := { program := "ytlaodgbkpmdhoaagreatdoor", sum := "a3ea47ef893e62ea276788bf39d6ab8a8f4c8734fdd4948521ebd3eb4ebe18bc", func := "dross/drosslaw18.DenialCFD", spec := "denialCFD", inPlace := ["internal/bytealg.abigen_runtime_cmpstring"], unfollowed := true, recurses := true, named := ["math/bits.deBruijn32tab"], plainKeys := false, apart := false, laid := [("math/bits.deBruijn32tab", laid_math_bits_deBruijn32tab)] }
def DenialCFDSaid : Prop := denialCFDRow.holds Tryz.pinned (OpenSpec.ofChange denialCFDSpec)

/-- ITS FALSE NEIGHBOUR: 'it returns false'. Refute it at one input. -/
def denialCFDWrong : ChangeSpec := { name := "denialCFD", fn := fun _ => fun
  | [d1, d2] => { results := [.lit (.bool false)], args := [d1, d2] }
  | _ => none }
def DenialCFDWrongFalsely : Prop := denialCFDRow.holds Tryz.pinned (OpenSpec.ofChange denialCFDWrong)

/- THE SECOND FORM. 'bulk': how many values and letters a reading holds, each counted each time it is reached (what is shared counts as often as it is met; a slice's spare places count too). A statement '..UptoSaid' is the law's where the arguments, and the package variables that the reading takes, are together of bulk at most 1048576: NARROWER than '..Said'. Prove '..Said' where nothing that the law and all that it calls make is longer than what came in: it says more and counts as full. Else prove '..UptoSaid'. A law counts once. -/
mutual
def uptoBulk {H : Type} : DataW H → Nat
  | .lit (.string bytes) => bytes.length + 1
  | .lit _ => 1
  | .nil => 1
  | .ptr d => uptoBulk d + 1
  | .slice elems spare => uptoBulkAll elems + uptoBulkAll spare + 1
  | .agg parts => uptoBulkAll parts + 1
  | .iface _ d => uptoBulk d + 1
  | .map entries => uptoBulkEntries entries + 1
  | .held _ => 1
def uptoBulkAll {H : Type} : List (DataW H) → Nat
  | [] => 0
  | d :: r => uptoBulk d + uptoBulkAll r
def uptoBulkEntries {H : Type} : List (Lit × DataW H) → Nat
  | [] => 0
  | x :: r => uptoBulkEntry x + uptoBulkEntries r
def uptoBulkEntry {H : Type} : Lit × DataW H → Nat
  | (.string bytes, d) => bytes.length + uptoBulk d + 1
  | (_, d) => uptoBulk d + 1
 end
def uptoSmall : (H : Type) → List (DataW H) → Bool := fun _ ds => decide (uptoBulkAll ds ≤ 1048576)
def OpenSpec.upto (s : _root_.Go.ChangeSpec) : _root_.Go.OpenSpec := { _root_.Go.OpenSpec.ofChange s with cond := some uptoSmall }

/-- 'drosslaw18.DenialValid', WHERE WHAT IT READS IS OF BULK AT MOST 1048576: true; the input reads as it did. -/
def denialValidUptoRow : OpenClaim := { program := "ytlaodgbkpmdhoaagreatdoor", sum := "a3ea47ef893e62ea276788bf39d6ab8a8f4c8734fdd4948521ebd3eb4ebe18bc", func := "dross/drosslaw18.DenialValid", spec := "denialValid", inPlace := ["internal/bytealg.abigen_runtime_cmpstring"], unfollowed := true, recurses := true, named := ["math/bits.deBruijn32tab"], plainKeys := false, apart := false, laid := [("math/bits.deBruijn32tab", laid_math_bits_deBruijn32tab)], narrowed := true }
def DenialValidUptoSaid : Prop := denialValidUptoRow.holds Tryz.pinned (OpenSpec.upto denialValidSpec)

/-- 'drosslaw18.DenialFD', WHERE WHAT IT READS IS OF BULK AT MOST 1048576: true; the input reads as it did. -/
def denialFDUptoRow : OpenClaim := { program := "ytlaodgbkpmdhoaagreatdoor", sum := "a3ea47ef893e62ea276788bf39d6ab8a8f4c8734fdd4948521ebd3eb4ebe18bc", func := "dross/drosslaw18.DenialFD", spec := "denialFD", inPlace := ["internal/bytealg.abigen_runtime_cmpstring"], unfollowed := true, recurses := true, named := ["math/bits.deBruijn32tab"], plainKeys := false, apart := false, laid := [("math/bits.deBruijn32tab", laid_math_bits_deBruijn32tab)], narrowed := true }
def DenialFDUptoSaid : Prop := denialFDUptoRow.holds Tryz.pinned (OpenSpec.upto denialFDSpec)

/-- 'drosslaw18.DenialOD', WHERE WHAT IT READS IS OF BULK AT MOST 1048576: true; the input reads as it did. -/
def denialODUptoRow : OpenClaim := { program := "ytlaodgbkpmdhoaagreatdoor", sum := "a3ea47ef893e62ea276788bf39d6ab8a8f4c8734fdd4948521ebd3eb4ebe18bc", func := "dross/drosslaw18.DenialOD", spec := "denialOD", inPlace := ["internal/bytealg.abigen_runtime_cmpstring"], unfollowed := true, recurses := true, named := ["math/bits.deBruijn32tab"], plainKeys := false, apart := false, laid := [("math/bits.deBruijn32tab", laid_math_bits_deBruijn32tab)], narrowed := true }
def DenialODUptoSaid : Prop := denialODUptoRow.holds Tryz.pinned (OpenSpec.upto denialODSpec)

/-- 'drosslaw18.DenialContradictory', WHERE WHAT IT READS IS OF BULK AT MOST 1048576: true; the input reads as it did. -/
def denialContradictoryUptoRow : OpenClaim := { program := "ytlaodgbkpmdhoaagreatdoor", sum := "a3ea47ef893e62ea276788bf39d6ab8a8f4c8734fdd4948521ebd3eb4ebe18bc", func := "dross/drosslaw18.DenialContradictory", spec := "denialContradictory", inPlace := ["internal/bytealg.abigen_runtime_cmpstring"], unfollowed := true, recurses := true, named := ["math/bits.deBruijn32tab"], plainKeys := false, apart := false, laid := [("math/bits.deBruijn32tab", laid_math_bits_deBruijn32tab)], narrowed := true }
def DenialContradictoryUptoSaid : Prop := denialContradictoryUptoRow.holds Tryz.pinned (OpenSpec.upto denialContradictorySpec)

/-- 'drosslaw18.DenialViolations', WHERE WHAT IT READS IS OF BULK AT MOST 1048576: true; the input reads as it did. -/
def denialViolationsUptoRow : OpenClaim := { program := "ytlaodgbkpmdhoaagreatdoor", sum := "a3ea47ef893e62ea276788bf39d6ab8a8f4c8734fdd4948521ebd3eb4ebe18bc", func := "dross/drosslaw18.DenialViolations", spec := "denialViolations", inPlace := ["internal/bytealg.abigen_runtime_cmpstring"], unfollowed := true, recurses := true, named := ["math/bits.deBruijn32tab"], plainKeys := false, apart := false, laid := [("math/bits.deBruijn32tab", laid_math_bits_deBruijn32tab)], narrowed := true }
def DenialViolationsUptoSaid : Prop := denialViolationsUptoRow.holds Tryz.pinned (OpenSpec.upto denialViolationsSpec)

/-- 'drosslaw18.DenialNegate', WHERE WHAT IT READS IS OF BULK AT MOST 1048576: true; the input reads as it did. -/
def denialNegateUptoRow : OpenClaim := { program := "ytlaodgbkpmdhoaagreatdoor", sum := "a3ea47ef893e62ea276788bf39d6ab8a8f4c8734fdd4948521ebd3eb4ebe18bc", func := "dross/drosslaw18.DenialNegate", spec := "denialNegate", inPlace := ["internal/bytealg.abigen_runtime_cmpstring"], unfollowed := true, recurses := true, named := ["math/bits.deBruijn32tab"], plainKeys := false, apart := false, laid := [("math/bits.deBruijn32tab", laid_math_bits_deBruijn32tab)], narrowed := true }
def DenialNegateUptoSaid : Prop := denialNegateUptoRow.holds Tryz.pinned (OpenSpec.upto denialNegateSpec)

/-- 'drosslaw18.DenialFewer', WHERE WHAT IT READS IS OF BULK AT MOST 1048576: true; the input reads as it did. -/
def denialFewerUptoRow : OpenClaim := { program := "ytlaodgbkpmdhoaagreatdoor", sum := "a3ea47ef893e62ea276788bf39d6ab8a8f4c8734fdd4948521ebd3eb4ebe18bc", func := "dross/drosslaw18.DenialFewer", spec := "denialFewer", inPlace := ["internal/bytealg.abigen_runtime_cmpstring"], unfollowed := true, recurses := true, named := ["math/bits.deBruijn32tab"], plainKeys := false, apart := false, laid := [("math/bits.deBruijn32tab", laid_math_bits_deBruijn32tab)], narrowed := true }
def DenialFewerUptoSaid : Prop := denialFewerUptoRow.holds Tryz.pinned (OpenSpec.upto denialFewerSpec)

/-- 'drosslaw18.DenialCFD', WHERE WHAT IT READS IS OF BULK AT MOST 1048576: true; the input reads as it did. -/
def denialCFDUptoRow : OpenClaim := { program := "ytlaodgbkpmdhoaagreatdoor", sum := "a3ea47ef893e62ea276788bf39d6ab8a8f4c8734fdd4948521ebd3eb4ebe18bc", func := "dross/drosslaw18.DenialCFD", spec := "denialCFD", inPlace := ["internal/bytealg.abigen_runtime_cmpstring"], unfollowed := true, recurses := true, named := ["math/bits.deBruijn32tab"], plainKeys := false, apart := false, laid := [("math/bits.deBruijn32tab", laid_math_bits_deBruijn32tab)], narrowed := true }
def DenialCFDUptoSaid : Prop := denialCFDUptoRow.holds Tryz.pinned (OpenSpec.upto denialCFDSpec)

end Rows
end Go.Proofs.YtlaodgbkpmdhoaaGreatDoor
