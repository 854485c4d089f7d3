/-
  DERIVED. GIVEN WITH THE SEED: THE CARDS: each row of YtijpapagpebllaaGreatDoorRows.lean that lists a variable, with what it lists TIED to the program's text (the seventh form; the later family's looks); each row that meets fmt, with fmt's text TOLD by the authors' own Lean function (tested against real Go, not proved from fmt's source: count such statements apart). THE CARD IS WHAT COUNTS. Prove the row's statement (the work); the ties are given (YtijpapagpebllaaGreatDoorTie.lean); close each card by the builder's one call (the guide's Derived/Test/ToyasCard.lean, 'card_holds'). Laid BY PROGRAM, IN A SANDBOX (cutbox-door.mjs). By AI agents, Wed Nov 11 2026. No macro, syntax, notation, axiom, sorry.
-/
import Derived.Test.YtijpapagpebllaaGreatDoorRows
import GoSem.ClaimSeven
namespace Go.Proofs.YtijpapagpebllaaGreatDoor
namespace Rows

/-- THE TIED CARD OF 'drosstop.TopCells'. -/
def topCellsCard : Claim7 := { stood := { row := topCellsRow, standIns := [], harness := (true, "df60397ac0b7c8320a5e51b1d59aa7a5c70e318efdb55706aea25d905764a4ec"), looks := false }, kinds := [], alts := [], laidByText := true, laidKinds := [.data], laidTests := true, laidLooks := .later }
def TopCellsCardSaid : Prop := Claim7.holds Tryz.pinned (.plain (OpenSpec.ofChange topCellsSpec)) topCellsCard

/-- THE SECOND FORM's CARD OF 'drosstop.TopCells'. -/
def topCellsUptoCard : Claim7 := { stood := { row := topCellsUptoRow, standIns := [], harness := (true, "df60397ac0b7c8320a5e51b1d59aa7a5c70e318efdb55706aea25d905764a4ec"), looks := false }, kinds := [], alts := [], laidByText := true, laidKinds := [.data], laidTests := true, laidLooks := .later }
def TopCellsUptoCardSaid : Prop := Claim7.holds Tryz.pinned (.plain (OpenSpec.upto topCellsSpec)) topCellsUptoCard
end Rows
end Go.Proofs.YtijpapagpebllaaGreatDoor
