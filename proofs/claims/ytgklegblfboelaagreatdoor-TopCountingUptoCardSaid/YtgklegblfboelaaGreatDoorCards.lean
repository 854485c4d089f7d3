/-
  DERIVED. GIVEN WITH THE SEED: THE CARDS: each row of YtgklegblfboelaaGreatDoorRows.lean that lists a variable, with what it lists TIED to the program's text (the seventh form; the later family's looks); each row that meets fmt, with fmt's text TOLD by the authors' own Lean function (tested against real Go, not proved from fmt's source: count such statements apart). THE CARD IS WHAT COUNTS. Prove the row's statement (the work); the ties are given (YtgklegblfboelaaGreatDoorTie.lean); close each card by the builder's one call (the guide's Derived/Test/ToyasCard.lean, 'card_holds'). Laid BY PROGRAM, IN A SANDBOX (cutbox-door.mjs). By AI agents, Wed Nov 11 2026. No macro, syntax, notation, axiom, sorry.
-/
import Derived.Test.YtgklegblfboelaaGreatDoorRows
import GoSem.ClaimSeven
namespace Go.Proofs.YtgklegblfboelaaGreatDoor
namespace Rows

/-- THE TIED CARD OF 'drosstop.TopCounting'. -/
def topCountingCard : Claim7 := { stood := { row := topCountingRow, standIns := [], harness := (true, "ae1e1a5a211befa2c81a0104a923faffe3c682698e318c9fde238aa743fb6c30"), looks := false }, kinds := [], alts := [], laidByText := true, laidKinds := [.data], laidTests := true, laidLooks := .later }
def TopCountingCardSaid : Prop := Claim7.holds Tryz.pinned (.plain (OpenSpec.ofChange topCountingSpec)) topCountingCard

/-- THE SECOND FORM's CARD OF 'drosstop.TopCounting'. -/
def topCountingUptoCard : Claim7 := { stood := { row := topCountingUptoRow, standIns := [], harness := (true, "ae1e1a5a211befa2c81a0104a923faffe3c682698e318c9fde238aa743fb6c30"), looks := false }, kinds := [], alts := [], laidByText := true, laidKinds := [.data], laidTests := true, laidLooks := .later }
def TopCountingUptoCardSaid : Prop := Claim7.holds Tryz.pinned (.plain (OpenSpec.upto topCountingSpec)) topCountingUptoCard
end Rows
end Go.Proofs.YtgklegblfboelaaGreatDoor
