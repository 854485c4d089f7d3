/-
  DERIVED. GIVEN WITH THE SEED: THE CARDS: each row of YtpealiejioeonaaGreatDoorRows.lean that lists a variable, with what it lists TIED to the program's text (the seventh form; the later family's looks); each row that meets fmt, with fmt's text TOLD by the authors' own Lean function (tested against real Go, not proved from fmt's source: count such statements apart). THE CARD IS WHAT COUNTS. Prove the row's statement (the work); the ties are given (YtpealiejioeonaaGreatDoorTie.lean); close each card by the builder's one call (the guide's Derived/Test/ToyasCard.lean, 'card_holds'). Laid BY PROGRAM, IN A SANDBOX (cutbox-door.mjs). By AI agents, Wed Nov 11 2026. No macro, syntax, notation, axiom, sorry.
-/
import Derived.Test.YtpealiejioeonaaGreatDoorRows
import GoSem.ClaimSeven
namespace Go.Proofs.YtpealiejioeonaaGreatDoor
namespace Rows

/-- THE TIED CARD OF 'drosstop.TopPriorities'. -/
def topPrioritiesCard : Claim7 := { stood := { row := topPrioritiesRow, standIns := [], harness := (true, "f3b247834ddf9a5c2ed699da2fea0d750cde3c36e955f1858fbe62e5b686dd93"), looks := false }, kinds := [], alts := [], laidByText := true, laidKinds := [.data], laidTests := true, laidLooks := .later }
def TopPrioritiesCardSaid : Prop := Claim7.holds Tryz.pinned (.plain (OpenSpec.ofChange topPrioritiesSpec)) topPrioritiesCard

/-- THE SECOND FORM's CARD OF 'drosstop.TopPriorities'. -/
def topPrioritiesUptoCard : Claim7 := { stood := { row := topPrioritiesUptoRow, standIns := [], harness := (true, "f3b247834ddf9a5c2ed699da2fea0d750cde3c36e955f1858fbe62e5b686dd93"), looks := false }, kinds := [], alts := [], laidByText := true, laidKinds := [.data], laidTests := true, laidLooks := .later }
def TopPrioritiesUptoCardSaid : Prop := Claim7.holds Tryz.pinned (.plain (OpenSpec.upto topPrioritiesSpec)) topPrioritiesUptoCard
end Rows
end Go.Proofs.YtpealiejioeonaaGreatDoor
