/-
  DERIVED. GIVEN WITH THE SEED: THE CARDS: each row of YtfnmcjkkfnhpnaaGreatDoorRows.lean that lists a variable, with what it lists TIED to the program's text (the seventh form; the later family's looks); each row that meets fmt, with fmt's text TOLD by the authors' own Lean function (tested against real Go, not proved from fmt's source: count such statements apart). THE CARD IS WHAT COUNTS. Prove the row's statement (the work); the ties are given (YtfnmcjkkfnhpnaaGreatDoorTie.lean); close each card by the builder's one call (the guide's Derived/Test/ToyasCard.lean, 'card_holds'). Laid BY PROGRAM, IN A SANDBOX (cutbox-door.mjs). By AI agents, Wed Nov 11 2026. No macro, syntax, notation, axiom, sorry.
-/
import Derived.Test.YtfnmcjkkfnhpnaaGreatDoorRows
import GoSem.ClaimSeven
namespace Go.Proofs.YtfnmcjkkfnhpnaaGreatDoor
namespace Rows

/-- THE TIED CARD OF 'drosstop.TopMinimal'. -/
def topMinimalCard : Claim7 := { stood := { row := topMinimalRow, standIns := [], harness := (true, "fbe82700420c2b49ad5fa533f08813766d69fe1f24ef91bcfd4bdc09a06b18ee"), looks := false }, kinds := [], alts := [], laidByText := true, laidKinds := [.data], laidTests := true, laidLooks := .later }
def TopMinimalCardSaid : Prop := Claim7.holds Tryz.pinned (.plain (OpenSpec.ofChange topMinimalSpec)) topMinimalCard

/-- THE SECOND FORM's CARD OF 'drosstop.TopMinimal'. -/
def topMinimalUptoCard : Claim7 := { stood := { row := topMinimalUptoRow, standIns := [], harness := (true, "fbe82700420c2b49ad5fa533f08813766d69fe1f24ef91bcfd4bdc09a06b18ee"), looks := false }, kinds := [], alts := [], laidByText := true, laidKinds := [.data], laidTests := true, laidLooks := .later }
def TopMinimalUptoCardSaid : Prop := Claim7.holds Tryz.pinned (.plain (OpenSpec.upto topMinimalSpec)) topMinimalUptoCard
end Rows
end Go.Proofs.YtfnmcjkkfnhpnaaGreatDoor
