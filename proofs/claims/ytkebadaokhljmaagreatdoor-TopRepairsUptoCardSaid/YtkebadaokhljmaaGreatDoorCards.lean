/-
  DERIVED. GIVEN WITH THE SEED: THE CARDS: each row of YtkebadaokhljmaaGreatDoorRows.lean that lists a variable, with what it lists TIED to the program's text (the seventh form; the later family's looks); each row that meets fmt, with fmt's text TOLD by the authors' own Lean function (tested against real Go, not proved from fmt's source: count such statements apart). THE CARD IS WHAT COUNTS. Prove the row's statement (the work); the ties are given (YtkebadaokhljmaaGreatDoorTie.lean); close each card by the builder's one call (the guide's Derived/Test/ToyasCard.lean, 'card_holds'). Laid BY PROGRAM, IN A SANDBOX (cutbox-door.mjs). By AI agents, Wed Nov 11 2026. No macro, syntax, notation, axiom, sorry.
-/
import Derived.Test.YtkebadaokhljmaaGreatDoorRows
import GoSem.ClaimSeven
namespace Go.Proofs.YtkebadaokhljmaaGreatDoor
namespace Rows

/-- THE TIED CARD OF 'drosstop.TopRepairs'. -/
def topRepairsCard : Claim7 := { stood := { row := topRepairsRow, standIns := [], harness := (true, "ee83b9e2e085d3c7f7a605a4500a8c288cf87cfa2f29d415e09433282f5ceefe"), looks := false }, kinds := [], alts := [], laidByText := true, laidKinds := [.data], laidTests := true, laidLooks := .later }
def TopRepairsCardSaid : Prop := Claim7.holds Tryz.pinned (.plain (OpenSpec.ofChange topRepairsSpec)) topRepairsCard

/-- THE SECOND FORM's CARD OF 'drosstop.TopRepairs'. -/
def topRepairsUptoCard : Claim7 := { stood := { row := topRepairsUptoRow, standIns := [], harness := (true, "ee83b9e2e085d3c7f7a605a4500a8c288cf87cfa2f29d415e09433282f5ceefe"), looks := false }, kinds := [], alts := [], laidByText := true, laidKinds := [.data], laidTests := true, laidLooks := .later }
def TopRepairsUptoCardSaid : Prop := Claim7.holds Tryz.pinned (.plain (OpenSpec.upto topRepairsSpec)) topRepairsUptoCard
end Rows
end Go.Proofs.YtkebadaokhljmaaGreatDoor
