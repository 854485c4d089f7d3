/-
  DERIVED. GIVEN WITH THE SEED: THE CARDS: each row of YtlaodgbkpmdhoaaGreatDoorRows.lean that lists a variable, with what it lists TIED to the program's text (the seventh form; the later family's looks); each row that meets fmt, with fmt's text TOLD by the authors' own Lean function (tested against real Go, not proved from fmt's source: count such statements apart). THE CARD IS WHAT COUNTS. Prove the row's statement (the work); the ties are given (YtlaodgbkpmdhoaaGreatDoorTie.lean); close each card by the builder's one call (the guide's Derived/Test/ToyasCard.lean, 'card_holds'). Laid BY PROGRAM, IN A SANDBOX (cutbox-door.mjs). By AI agents, Wed Nov 11 2026. No macro, syntax, notation, axiom, sorry.
-/
import Derived.Test.YtlaodgbkpmdhoaaGreatDoorRows
import GoSem.ClaimSeven
namespace Go.Proofs.YtlaodgbkpmdhoaaGreatDoor
namespace Rows

/-- THE TIED CARD OF 'drosslaw18.DenialValid'. -/
def denialValidCard : Claim7 := { stood := { row := denialValidRow, standIns := [], harness := (true, "0a374a05273376d2b279b7577105921616ddd8e59d2e9e8633665773064f5bc4"), looks := false }, kinds := [], alts := [], laidByText := true, laidKinds := [.data], laidTests := true, laidLooks := .later }
def DenialValidCardSaid : Prop := Claim7.holds Tryz.pinned (.plain (OpenSpec.ofChange denialValidSpec)) denialValidCard

/-- THE TIED CARD OF 'drosslaw18.DenialFD'. -/
def denialFDCard : Claim7 := { stood := { row := denialFDRow, standIns := [], harness := (true, "0a374a05273376d2b279b7577105921616ddd8e59d2e9e8633665773064f5bc4"), looks := false }, kinds := [], alts := [], laidByText := true, laidKinds := [.data], laidTests := true, laidLooks := .later }
def DenialFDCardSaid : Prop := Claim7.holds Tryz.pinned (.plain (OpenSpec.ofChange denialFDSpec)) denialFDCard

/-- THE TIED CARD OF 'drosslaw18.DenialOD'. -/
def denialODCard : Claim7 := { stood := { row := denialODRow, standIns := [], harness := (true, "0a374a05273376d2b279b7577105921616ddd8e59d2e9e8633665773064f5bc4"), looks := false }, kinds := [], alts := [], laidByText := true, laidKinds := [.data], laidTests := true, laidLooks := .later }
def DenialODCardSaid : Prop := Claim7.holds Tryz.pinned (.plain (OpenSpec.ofChange denialODSpec)) denialODCard

/-- THE TIED CARD OF 'drosslaw18.DenialContradictory'. -/
def denialContradictoryCard : Claim7 := { stood := { row := denialContradictoryRow, standIns := [], harness := (true, "0a374a05273376d2b279b7577105921616ddd8e59d2e9e8633665773064f5bc4"), looks := false }, kinds := [], alts := [], laidByText := true, laidKinds := [.data], laidTests := true, laidLooks := .later }
def DenialContradictoryCardSaid : Prop := Claim7.holds Tryz.pinned (.plain (OpenSpec.ofChange denialContradictorySpec)) denialContradictoryCard

/-- THE TIED CARD OF 'drosslaw18.DenialViolations'. -/
def denialViolationsCard : Claim7 := { stood := { row := denialViolationsRow, standIns := [], harness := (true, "0a374a05273376d2b279b7577105921616ddd8e59d2e9e8633665773064f5bc4"), looks := false }, kinds := [], alts := [], laidByText := true, laidKinds := [.data], laidTests := true, laidLooks := .later }
def DenialViolationsCardSaid : Prop := Claim7.holds Tryz.pinned (.plain (OpenSpec.ofChange denialViolationsSpec)) denialViolationsCard

/-- THE TIED CARD OF 'drosslaw18.DenialNegate'. -/
def denialNegateCard : Claim7 := { stood := { row := denialNegateRow, standIns := [], harness := (true, "0a374a05273376d2b279b7577105921616ddd8e59d2e9e8633665773064f5bc4"), looks := false }, kinds := [], alts := [], laidByText := true, laidKinds := [.data], laidTests := true, laidLooks := .later }
def DenialNegateCardSaid : Prop := Claim7.holds Tryz.pinned (.plain (OpenSpec.ofChange denialNegateSpec)) denialNegateCard

/-- THE TIED CARD OF 'drosslaw18.DenialFewer'. -/
def denialFewerCard : Claim7 := { stood := { row := denialFewerRow, standIns := [], harness := (true, "0a374a05273376d2b279b7577105921616ddd8e59d2e9e8633665773064f5bc4"), looks := false }, kinds := [], alts := [], laidByText := true, laidKinds := [.data], laidTests := true, laidLooks := .later }
def DenialFewerCardSaid : Prop := Claim7.holds Tryz.pinned (.plain (OpenSpec.ofChange denialFewerSpec)) denialFewerCard

/-- THE TIED CARD OF 'drosslaw18.DenialCFD'. -/
def denialCFDCard : Claim7 := { stood := { row := denialCFDRow, standIns := [], harness := (true, "0a374a05273376d2b279b7577105921616ddd8e59d2e9e8633665773064f5bc4"), looks := false }, kinds := [], alts := [], laidByText := true, laidKinds := [.data], laidTests := true, laidLooks := .later }
def DenialCFDCardSaid : Prop := Claim7.holds Tryz.pinned (.plain (OpenSpec.ofChange denialCFDSpec)) denialCFDCard

/-- THE SECOND FORM's CARD OF 'drosslaw18.DenialValid'. -/
def denialValidUptoCard : Claim7 := { stood := { row := denialValidUptoRow, standIns := [], harness := (true, "0a374a05273376d2b279b7577105921616ddd8e59d2e9e8633665773064f5bc4"), looks := false }, kinds := [], alts := [], laidByText := true, laidKinds := [.data], laidTests := true, laidLooks := .later }
def DenialValidUptoCardSaid : Prop := Claim7.holds Tryz.pinned (.plain (OpenSpec.upto denialValidSpec)) denialValidUptoCard

/-- THE SECOND FORM's CARD OF 'drosslaw18.DenialFD'. -/
def denialFDUptoCard : Claim7 := { stood := { row := denialFDUptoRow, standIns := [], harness := (true, "0a374a05273376d2b279b7577105921616ddd8e59d2e9e8633665773064f5bc4"), looks := false }, kinds := [], alts := [], laidByText := true, laidKinds := [.data], laidTests := true, laidLooks := .later }
def DenialFDUptoCardSaid : Prop := Claim7.holds Tryz.pinned (.plain (OpenSpec.upto denialFDSpec)) denialFDUptoCard

/-- THE SECOND FORM's CARD OF 'drosslaw18.DenialOD'. -/
def denialODUptoCard : Claim7 := { stood := { row := denialODUptoRow, standIns := [], harness := (true, "0a374a05273376d2b279b7577105921616ddd8e59d2e9e8633665773064f5bc4"), looks := false }, kinds := [], alts := [], laidByText := true, laidKinds := [.data], laidTests := true, laidLooks := .later }
def DenialODUptoCardSaid : Prop := Claim7.holds Tryz.pinned (.plain (OpenSpec.upto denialODSpec)) denialODUptoCard

/-- THE SECOND FORM's CARD OF 'drosslaw18.DenialContradictory'. -/
def denialContradictoryUptoCard : Claim7 := { stood := { row := denialContradictoryUptoRow, standIns := [], harness := (true, "0a374a05273376d2b279b7577105921616ddd8e59d2e9e8633665773064f5bc4"), looks := false }, kinds := [], alts := [], laidByText := true, laidKinds := [.data], laidTests := true, laidLooks := .later }
def DenialContradictoryUptoCardSaid : Prop := Claim7.holds Tryz.pinned (.plain (OpenSpec.upto denialContradictorySpec)) denialContradictoryUptoCard

/-- THE SECOND FORM's CARD OF 'drosslaw18.DenialViolations'. -/
def denialViolationsUptoCard : Claim7 := { stood := { row := denialViolationsUptoRow, standIns := [], harness := (true, "0a374a05273376d2b279b7577105921616ddd8e59d2e9e8633665773064f5bc4"), looks := false }, kinds := [], alts := [], laidByText := true, laidKinds := [.data], laidTests := true, laidLooks := .later }
def DenialViolationsUptoCardSaid : Prop := Claim7.holds Tryz.pinned (.plain (OpenSpec.upto denialViolationsSpec)) denialViolationsUptoCard

/-- THE SECOND FORM's CARD OF 'drosslaw18.DenialNegate'. -/
def denialNegateUptoCard : Claim7 := { stood := { row := denialNegateUptoRow, standIns := [], harness := (true, "0a374a05273376d2b279b7577105921616ddd8e59d2e9e8633665773064f5bc4"), looks := false }, kinds := [], alts := [], laidByText := true, laidKinds := [.data], laidTests := true, laidLooks := .later }
def DenialNegateUptoCardSaid : Prop := Claim7.holds Tryz.pinned (.plain (OpenSpec.upto denialNegateSpec)) denialNegateUptoCard

/-- THE SECOND FORM's CARD OF 'drosslaw18.DenialFewer'. -/
def denialFewerUptoCard : Claim7 := { stood := { row := denialFewerUptoRow, standIns := [], harness := (true, "0a374a05273376d2b279b7577105921616ddd8e59d2e9e8633665773064f5bc4"), looks := false }, kinds := [], alts := [], laidByText := true, laidKinds := [.data], laidTests := true, laidLooks := .later }
def DenialFewerUptoCardSaid : Prop := Claim7.holds Tryz.pinned (.plain (OpenSpec.upto denialFewerSpec)) denialFewerUptoCard

/-- THE SECOND FORM's CARD OF 'drosslaw18.DenialCFD'. -/
def denialCFDUptoCard : Claim7 := { stood := { row := denialCFDUptoRow, standIns := [], harness := (true, "0a374a05273376d2b279b7577105921616ddd8e59d2e9e8633665773064f5bc4"), looks := false }, kinds := [], alts := [], laidByText := true, laidKinds := [.data], laidTests := true, laidLooks := .later }
def DenialCFDUptoCardSaid : Prop := Claim7.holds Tryz.pinned (.plain (OpenSpec.upto denialCFDSpec)) denialCFDUptoCard
end Rows
end Go.Proofs.YtlaodgbkpmdhoaaGreatDoor
