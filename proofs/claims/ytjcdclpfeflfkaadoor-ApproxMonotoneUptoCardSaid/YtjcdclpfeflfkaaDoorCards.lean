/-
  DERIVED. GIVEN WITH THE SEED: THE CARDS: each row of YtjcdclpfeflfkaaDoorRows.lean that lists a variable, with what it lists TIED to the program's text (the seventh form; the later family's looks); each row that meets fmt, with fmt's text TOLD by the authors' own Lean function (tested against real Go, not proved from fmt's source: count such statements apart). THE CARD IS WHAT COUNTS. Prove the row's statement (the work); the ties are given (YtjcdclpfeflfkaaDoorTie.lean); close each card by the builder's one call (the guide's Derived/Test/ToyasCard.lean, 'card_holds'). Laid BY PROGRAM, IN A SANDBOX (cutbox-door.mjs). By AI agents, Wed Nov 11 2026. No macro, syntax, notation, axiom, sorry.
-/
import Derived.Test.YtjcdclpfeflfkaaDoorRows
import GoSem.ClaimSeven
namespace Go.Proofs.YtjcdclpfeflfkaaDoor
namespace Rows

/-- THE TIED CARD OF 'drosslaw32.ApproxLeast'. -/
def approxLeastCard : Claim7 := { stood := { row := approxLeastRow, standIns := [], harness := (true, "4115dbac83a465d8dd56fc39ef54c309f1a5aee59a215f312bc0e3f89feb490b"), looks := false }, kinds := [], alts := [], laidByText := true, laidKinds := [.data], laidTests := true, laidLooks := .later }
def ApproxLeastCardSaid : Prop := Claim7.holds Tryd.pinned (.plain (OpenSpec.ofChange approxLeastSpec)) approxLeastCard

/-- THE TIED CARD OF 'drosslaw32.ApproxError'. -/
def approxErrorCard : Claim7 := { stood := { row := approxErrorRow, standIns := [], harness := (true, "4115dbac83a465d8dd56fc39ef54c309f1a5aee59a215f312bc0e3f89feb490b"), looks := false }, kinds := [], alts := [], laidByText := true, laidKinds := [.data], laidTests := true, laidLooks := .later }
def ApproxErrorCardSaid : Prop := Claim7.holds Tryd.pinned (.plain (OpenSpec.ofChange approxErrorSpec)) approxErrorCard

/-- THE TIED CARD OF 'drosslaw32.ApproxMeasures'. -/
def approxMeasuresCard : Claim7 := { stood := { row := approxMeasuresRow, standIns := [], harness := (true, "4115dbac83a465d8dd56fc39ef54c309f1a5aee59a215f312bc0e3f89feb490b"), looks := false }, kinds := [], alts := [], laidByText := true, laidKinds := [.data], laidTests := true, laidLooks := .later }
def ApproxMeasuresCardSaid : Prop := Claim7.holds Tryd.pinned (.plain (OpenSpec.ofChange approxMeasuresSpec)) approxMeasuresCard

/-- THE TIED CARD OF 'drosslaw32.ApproxMonotone'. -/
def approxMonotoneCard : Claim7 := { stood := { row := approxMonotoneRow, standIns := [], harness := (true, "4115dbac83a465d8dd56fc39ef54c309f1a5aee59a215f312bc0e3f89feb490b"), looks := false }, kinds := [], alts := [], laidByText := true, laidKinds := [.data], laidTests := true, laidLooks := .later }
def ApproxMonotoneCardSaid : Prop := Claim7.holds Tryd.pinned (.plain (OpenSpec.ofChange approxMonotoneSpec)) approxMonotoneCard

/-- THE SECOND FORM's CARD OF 'drosslaw32.ApproxLeast'. -/
def approxLeastUptoCard : Claim7 := { stood := { row := approxLeastUptoRow, standIns := [], harness := (true, "4115dbac83a465d8dd56fc39ef54c309f1a5aee59a215f312bc0e3f89feb490b"), looks := false }, kinds := [], alts := [], laidByText := true, laidKinds := [.data], laidTests := true, laidLooks := .later }
def ApproxLeastUptoCardSaid : Prop := Claim7.holds Tryd.pinned (.plain (OpenSpec.upto approxLeastSpec)) approxLeastUptoCard

/-- THE SECOND FORM's CARD OF 'drosslaw32.ApproxError'. -/
def approxErrorUptoCard : Claim7 := { stood := { row := approxErrorUptoRow, standIns := [], harness := (true, "4115dbac83a465d8dd56fc39ef54c309f1a5aee59a215f312bc0e3f89feb490b"), looks := false }, kinds := [], alts := [], laidByText := true, laidKinds := [.data], laidTests := true, laidLooks := .later }
def ApproxErrorUptoCardSaid : Prop := Claim7.holds Tryd.pinned (.plain (OpenSpec.upto approxErrorSpec)) approxErrorUptoCard

/-- THE SECOND FORM's CARD OF 'drosslaw32.ApproxMeasures'. -/
def approxMeasuresUptoCard : Claim7 := { stood := { row := approxMeasuresUptoRow, standIns := [], harness := (true, "4115dbac83a465d8dd56fc39ef54c309f1a5aee59a215f312bc0e3f89feb490b"), looks := false }, kinds := [], alts := [], laidByText := true, laidKinds := [.data], laidTests := true, laidLooks := .later }
def ApproxMeasuresUptoCardSaid : Prop := Claim7.holds Tryd.pinned (.plain (OpenSpec.upto approxMeasuresSpec)) approxMeasuresUptoCard

/-- THE SECOND FORM's CARD OF 'drosslaw32.ApproxMonotone'. -/
def approxMonotoneUptoCard : Claim7 := { stood := { row := approxMonotoneUptoRow, standIns := [], harness := (true, "4115dbac83a465d8dd56fc39ef54c309f1a5aee59a215f312bc0e3f89feb490b"), looks := false }, kinds := [], alts := [], laidByText := true, laidKinds := [.data], laidTests := true, laidLooks := .later }
def ApproxMonotoneUptoCardSaid : Prop := Claim7.holds Tryd.pinned (.plain (OpenSpec.upto approxMonotoneSpec)) approxMonotoneUptoCard
end Rows
end Go.Proofs.YtjcdclpfeflfkaaDoor
