/-
  NARROWER THAN 'FOR EVERY INPUT', by the rows' own cells (each row's printed sentence says how): ApproxLeast: laid · ApproxError: laid · ApproxMeasures: laid · ApproxMonotone: laid.
  DERIVED. THE GIVEN ROWS OF THIS SEAT. 4 by the template 'for every input the law returns true; each argument reads behind the call as it read before'; 0 by the template 'total and deterministic' (their statements: YtjcdclpfeflfkaaDoorTotals.lean).
  GIVEN WITH THE SEED: the statements are not yours to turn. If you find one false, say at which input.
  Laid BY PROGRAM, IN A SANDBOX (cutbox-rows.mjs): the forced cells as the released guide's own fill.sh prints them over the translation 89ace9736d7dea0c… (all of the seat's roots in one cut). By AI agents, Wed Nov 11 2026. No macro, syntax, notation, axiom, sorry.
-/
import Derived.Test.YtjcdclpfeflfkaaDoorChecked
import GoSem.Claim
import GoSem.ClaimJoined
import GoSem.ClaimMapViews
import Derived.JoinedTies
import Derived.KernelRfl
namespace Go.Proofs.YtjcdclpfeflfkaaDoor
/- THE CELL 'sum', in the pinned program and in every row, IS THE sha256 OF THE DUMP (.gsa) THAT YtjcdclpfeflfkaaDoorProg.lean LOADS. Nothing in Lean hashes anything: it is a label: what it is worth is what the hold of that sum in a sandbox is worth. -/
noncomputable def Tryd.pinned : Pinned := { name := "ytjcdclpfeflfkaadoor", sum := "89ace9736d7dea0ca070030caa074ce55bf22b5d4808be816100daa6db2de525", checked := Tryd.checked }
namespace Rows
def none {H : Type} : Left H := { results := [], args := [] }

/- WHAT THE LISTED PACKAGE-LEVEL VARIABLES READ AS WHEN THE CALL BEGINS. Each datum BY PROGRAM (the guide's laid-datum.mjs) off the statement by which the dump's own 'gosem.cut.vars' lays the variable. In a bare row this is a premise. The card (YtjcdclpfeflfkaaDoorCards.lean) ties it to the program's text. -/
def laid_math_bits_deBruijn32tab {H : Type} : DataW H := .agg [.lit (.int .u8 0), .lit (.int .u8 1), .lit (.int .u8 28), .lit (.int .u8 2), .lit (.int .u8 29), .lit (.int .u8 14), .lit (.int .u8 24), .lit (.int .u8 3), .lit (.int .u8 30), .lit (.int .u8 22), .lit (.int .u8 20), .lit (.int .u8 15), .lit (.int .u8 25), .lit (.int .u8 17), .lit (.int .u8 4), .lit (.int .u8 8), .lit (.int .u8 31), .lit (.int .u8 27), .lit (.int .u8 13), .lit (.int .u8 23), .lit (.int .u8 21), .lit (.int .u8 19), .lit (.int .u8 16), .lit (.int .u8 7), .lit (.int .u8 26), .lit (.int .u8 12), .lit (.int .u8 18), .lit (.int .u8 6), .lit (.int .u8 11), .lit (.int .u8 5), .lit (.int .u8 10), .lit (.int .u8 9)]

/-- 'drosslaw32.ApproxLeast': WHATEVER THE INPUT: true; the input reads as it did. -/
def approxLeastSpec : ChangeSpec := { name := "approxLeast", fn := fun _ => fun
  | [d1, d2, d3] => { results := [.lit (.bool true)], args := [d1, d2, d3] }
  | _ => none }
def approxLeastRow : OpenClaim := { program := "ytjcdclpfeflfkaadoor", sum := "89ace9736d7dea0ca070030caa074ce55bf22b5d4808be816100daa6db2de525", func := "dross/drosslaw32.ApproxLeast", spec := "approxLeast", inPlace := ["internal/abi.NoEscape", "math/bits.Add64", "math/bits.Sub64"], unfollowed := true, recurses := true, named := ["math/bits.deBruijn32tab"], apart := false, laid := [("math/bits.deBruijn32tab", laid_math_bits_deBruijn32tab)] }
def ApproxLeastSaid : Prop := approxLeastRow.holds Tryd.pinned (OpenSpec.ofChange approxLeastSpec)

/-- ITS FALSE NEIGHBOUR: 'it returns false'. Refute it at one input. -/
def approxLeastWrong : ChangeSpec := { name := "approxLeast", fn := fun _ => fun
  | [d1, d2, d3] => { results := [.lit (.bool false)], args := [d1, d2, d3] }
  | _ => none }
def ApproxLeastWrongFalsely : Prop := approxLeastRow.holds Tryd.pinned (OpenSpec.ofChange approxLeastWrong)

/-- 'drosslaw32.ApproxError': WHATEVER THE INPUT: true; the input reads as it did. -/
def approxErrorSpec : ChangeSpec := { name := "approxError", fn := fun _ => fun
  | [d1, d2, d3] => { results := [.lit (.bool true)], args := [d1, d2, d3] }
  | _ => none }
def approxErrorRow : OpenClaim := { program := "ytjcdclpfeflfkaadoor", sum := "89ace9736d7dea0ca070030caa074ce55bf22b5d4808be816100daa6db2de525", func := "dross/drosslaw32.ApproxError", spec := "approxError", inPlace := ["internal/abi.NoEscape", "math/bits.Add64", "math/bits.Sub64"], unfollowed := true, recurses := true, named := ["math/bits.deBruijn32tab"], apart := false, laid := [("math/bits.deBruijn32tab", laid_math_bits_deBruijn32tab)] }
def ApproxErrorSaid : Prop := approxErrorRow.holds Tryd.pinned (OpenSpec.ofChange approxErrorSpec)

/-- ITS FALSE NEIGHBOUR: 'it returns false'. Refute it at one input. -/
def approxErrorWrong : ChangeSpec := { name := "approxError", fn := fun _ => fun
  | [d1, d2, d3] => { results := [.lit (.bool false)], args := [d1, d2, d3] }
  | _ => none }
def ApproxErrorWrongFalsely : Prop := approxErrorRow.holds Tryd.pinned (OpenSpec.ofChange approxErrorWrong)

/-- 'drosslaw32.ApproxMeasures': WHATEVER THE INPUT: true; the input reads as it did. -/
def approxMeasuresSpec : ChangeSpec := { name := "approxMeasures", fn := fun _ => fun
  | [d1, d2, d3] => { results := [.lit (.bool true)], args := [d1, d2, d3] }
  | _ => none }
def approxMeasuresRow : OpenClaim := { program := "ytjcdclpfeflfkaadoor", sum := "89ace9736d7dea0ca070030caa074ce55bf22b5d4808be816100daa6db2de525", func := "dross/drosslaw32.ApproxMeasures", spec := "approxMeasures", inPlace := ["internal/abi.NoEscape", "math/bits.Add64", "math/bits.Sub64"], unfollowed := true, recurses := true, named := ["math/bits.deBruijn32tab"], apart := false, laid := [("math/bits.deBruijn32tab", laid_math_bits_deBruijn32tab)] }
def ApproxMeasuresSaid : Prop := approxMeasuresRow.holds Tryd.pinned (OpenSpec.ofChange approxMeasuresSpec)

/-- ITS FALSE NEIGHBOUR: 'it returns false'. Refute it at one input. -/
def approxMeasuresWrong : ChangeSpec := { name := "approxMeasures", fn := fun _ => fun
  | [d1, d2, d3] => { results := [.lit (.bool false)], args := [d1, d2, d3] }
  | _ => none }
def ApproxMeasuresWrongFalsely : Prop := approxMeasuresRow.holds Tryd.pinned (OpenSpec.ofChange approxMeasuresWrong)

/-- 'drosslaw32.ApproxMonotone': WHATEVER THE INPUT: true; the input reads as it did. -/
def approxMonotoneSpec : ChangeSpec := { name := "approxMonotone", fn := fun _ => fun
  | [d1, d2, d3] => { results := [.lit (.bool true)], args := [d1, d2, d3] }
  | _ => none }
def approxMonotoneRow : OpenClaim := { program := "ytjcdclpfeflfkaadoor", sum := "89ace9736d7dea0ca070030caa074ce55bf22b5d4808be816100daa6db2de525", func := "dross/drosslaw32.ApproxMonotone", spec := "approxMonotone", inPlace := ["internal/abi.NoEscape", "math/bits.Add64", "math/bits.Sub64"], unfollowed := true, recurses := true, named := ["math/bits.deBruijn32tab"], apart := false, laid := [("math/bits.deBruijn32tab", laid_math_bits_deBruijn32tab)] }
def ApproxMonotoneSaid : Prop := approxMonotoneRow.holds Tryd.pinned (OpenSpec.ofChange approxMonotoneSpec)

/-- ITS FALSE NEIGHBOUR: 'it returns false'. Refute it at one input. -/
def approxMonotoneWrong : ChangeSpec := { name := "approxMonotone", fn := fun _ => fun
  | [d1, d2, d3] => { results := [.lit (.bool false)], args := [d1, d2, d3] }
  | _ => none }
def ApproxMonotoneWrongFalsely : Prop := approxMonotoneRow.holds Tryd.pinned (OpenSpec.ofChange approxMonotoneWrong)

/- THE SECOND FORM. 'bulk': how many values and letters a reading holds, each counted each time it is reached (what is shared counts as often as it is met; a slice's spare places count too). A statement '..UptoSaid' is the law's where the arguments, and the package variables that the reading takes, are together of bulk at most 1048576: NARROWER than '..Said'. Prove '..Said' where nothing that the law and all that it calls make is longer than what came in: it says more and counts as full. Else prove '..UptoSaid'. A law counts once. -/
mutual
def uptoBulk {H : Type} : DataW H → Nat
  | .lit (.string bytes) => bytes.length + 1
  | .lit _ => 1
  | .nil => 1
  | .ptr d => uptoBulk d + 1
  | .slice elems spare => uptoBulkAll elems + uptoBulkAll spare + 1
  | .agg parts => uptoBulkAll parts + 1
  | .iface _ d => uptoBulk d + 1
  | .map entries => uptoBulkEntries entries + 1
  | .held _ => 1
def uptoBulkAll {H : Type} : List (DataW H) → Nat
  | [] => 0
  | d :: r => uptoBulk d + uptoBulkAll r
def uptoBulkEntries {H : Type} : List (Lit × DataW H) → Nat
  | [] => 0
  | x :: r => uptoBulkEntry x + uptoBulkEntries r
def uptoBulkEntry {H : Type} : Lit × DataW H → Nat
  | (.string bytes, d) => bytes.length + uptoBulk d + 1
  | (_, d) => uptoBulk d + 1
 end
def uptoSmall : (H : Type) → List (DataW H) → Bool := fun _ ds => decide (uptoBulkAll ds ≤ 1048576)
def OpenSpec.upto (s : _root_.Go.ChangeSpec) : _root_.Go.OpenSpec := { _root_.Go.OpenSpec.ofChange s with cond := some uptoSmall }

/-- 'drosslaw32.ApproxLeast', WHERE WHAT IT READS IS OF BULK AT MOST 1048576: true; the input reads as it did. -/
def approxLeastUptoRow : OpenClaim := { program := "ytjcdclpfeflfkaadoor", sum := "89ace9736d7dea0ca070030caa074ce55bf22b5d4808be816100daa6db2de525", func := "dross/drosslaw32.ApproxLeast", spec := "approxLeast", inPlace := ["internal/abi.NoEscape", "math/bits.Add64", "math/bits.Sub64"], unfollowed := true, recurses := true, named := ["math/bits.deBruijn32tab"], apart := false, laid := [("math/bits.deBruijn32tab", laid_math_bits_deBruijn32tab)], narrowed := true }
def ApproxLeastUptoSaid : Prop := approxLeastUptoRow.holds Tryd.pinned (OpenSpec.upto approxLeastSpec)

/-- 'drosslaw32.ApproxError', WHERE WHAT IT READS IS OF BULK AT MOST 1048576: true; the input reads as it did. -/
def approxErrorUptoRow : OpenClaim := { program := "ytjcdclpfeflfkaadoor", sum := "89ace9736d7dea0ca070030caa074ce55bf22b5d4808be816100daa6db2de525", func := "dross/drosslaw32.ApproxError", spec := "approxError", inPlace := ["internal/abi.NoEscape", "math/bits.Add64", "math/bits.Sub64"], unfollowed := true, recurses := true, named := ["math/bits.deBruijn32tab"], apart := false, laid := [("math/bits.deBruijn32tab", laid_math_bits_deBruijn32tab)], narrowed := true }
def ApproxErrorUptoSaid : Prop := approxErrorUptoRow.holds Tryd.pinned (OpenSpec.upto approxErrorSpec)

/-- 'drosslaw32.ApproxMeasures', WHERE WHAT IT READS IS OF BULK AT MOST 1048576: true; the input reads as it did. -/
def approxMeasuresUptoRow : OpenClaim := { program := "ytjcdclpfeflfkaadoor", sum := "89ace9736d7dea0ca070030caa074ce55bf22b5d4808be816100daa6db2de525", func := "dross/drosslaw32.ApproxMeasures", spec := "approxMeasures", inPlace := ["internal/abi.NoEscape", "math/bits.Add64", "math/bits.Sub64"], unfollowed := true, recurses := true, named := ["math/bits.deBruijn32tab"], apart := false, laid := [("math/bits.deBruijn32tab", laid_math_bits_deBruijn32tab)], narrowed := true }
def ApproxMeasuresUptoSaid : Prop := approxMeasuresUptoRow.holds Tryd.pinned (OpenSpec.upto approxMeasuresSpec)

/-- 'drosslaw32.ApproxMonotone', WHERE WHAT IT READS IS OF BULK AT MOST 1048576: true; the input reads as it did. -/
def approxMonotoneUptoRow : OpenClaim := { program := "ytjcdclpfeflfkaadoor", sum := "89ace9736d7dea0ca070030caa074ce55bf22b5d4808be816100daa6db2de525", func := "dross/drosslaw32.ApproxMonotone", spec := "approxMonotone", inPlace := ["internal/abi.NoEscape", "math/bits.Add64", "math/bits.Sub64"], unfollowed := true, recurses := true, named := ["math/bits.deBruijn32tab"], apart := false, laid := [("math/bits.deBruijn32tab", laid_math_bits_deBruijn32tab)], narrowed := true }
def ApproxMonotoneUptoSaid : Prop := approxMonotoneUptoRow.holds Tryd.pinned (OpenSpec.upto approxMonotoneSpec)

end Rows
end Go.Proofs.YtjcdclpfeflfkaaDoor
