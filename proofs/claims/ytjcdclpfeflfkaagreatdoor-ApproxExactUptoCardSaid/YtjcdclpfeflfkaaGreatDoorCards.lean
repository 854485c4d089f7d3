/-
  DERIVED. GIVEN WITH THE SEED: THE CARDS: each row of YtjcdclpfeflfkaaGreatDoorRows.lean that lists a variable, with what it lists TIED to the program's text (the seventh form; the later family's looks); each row that meets fmt, with fmt's text TOLD by the authors' own Lean function (tested against real Go, not proved from fmt's source: count such statements apart). THE CARD IS WHAT COUNTS. Prove the row's statement (the work); the ties are given (YtjcdclpfeflfkaaGreatDoorTie.lean); close each card by the builder's one call (the guide's Derived/Test/ToyasCard.lean, 'card_holds'). Laid BY PROGRAM, IN A SANDBOX (cutbox-door.mjs). By AI agents, Wed Nov 11 2026. No macro, syntax, notation, axiom, sorry.
-/
import Derived.Test.YtjcdclpfeflfkaaGreatDoorRows
import GoSem.ClaimSeven
namespace Go.Proofs.YtjcdclpfeflfkaaGreatDoor
namespace Rows

/-- THE TIED CARD OF 'drosslaw32.ApproxRemoval'. -/
def approxRemovalCard : Claim7 := { stood := { row := approxRemovalRow, standIns := [], harness := (true, "e9e2c4af0e08b16d0189d2b75139b352d86b3ad6ee6cc1071badba61f1d830a6"), looks := false }, kinds := [], alts := [], laidByText := true, laidKinds := [.data], laidTests := true, laidLooks := .later }
def ApproxRemovalCardSaid : Prop := Claim7.holds Tryz.pinned (.plain (OpenSpec.ofChange approxRemovalSpec)) approxRemovalCard

/-- THE TIED CARD OF 'drosslaw32.ApproxRank'. -/
def approxRankCard : Claim7 := { stood := { row := approxRankRow, standIns := [], harness := (true, "e9e2c4af0e08b16d0189d2b75139b352d86b3ad6ee6cc1071badba61f1d830a6"), looks := false }, kinds := [], alts := [], laidByText := true, laidKinds := [.data], laidTests := true, laidLooks := .later }
def ApproxRankCardSaid : Prop := Claim7.holds Tryz.pinned (.plain (OpenSpec.ofChange approxRankSpec)) approxRankCard

/-- THE TIED CARD OF 'drosslaw32.ApproxMinimal'. -/
def approxMinimalCard : Claim7 := { stood := { row := approxMinimalRow, standIns := [], harness := (true, "e9e2c4af0e08b16d0189d2b75139b352d86b3ad6ee6cc1071badba61f1d830a6"), looks := false }, kinds := [], alts := [], laidByText := true, laidKinds := [.data], laidTests := true, laidLooks := .later }
def ApproxMinimalCardSaid : Prop := Claim7.holds Tryz.pinned (.plain (OpenSpec.ofChange approxMinimalSpec)) approxMinimalCard

/-- THE TIED CARD OF 'drosslaw32.ApproxExact'. -/
def approxExactCard : Claim7 := { stood := { row := approxExactRow, standIns := [], harness := (true, "e9e2c4af0e08b16d0189d2b75139b352d86b3ad6ee6cc1071badba61f1d830a6"), looks := false }, kinds := [], alts := [], laidByText := true, laidKinds := [.data], laidTests := true, laidLooks := .later }
def ApproxExactCardSaid : Prop := Claim7.holds Tryz.pinned (.plain (OpenSpec.ofChange approxExactSpec)) approxExactCard

/-- THE SECOND FORM's CARD OF 'drosslaw32.ApproxRemoval'. -/
def approxRemovalUptoCard : Claim7 := { stood := { row := approxRemovalUptoRow, standIns := [], harness := (true, "e9e2c4af0e08b16d0189d2b75139b352d86b3ad6ee6cc1071badba61f1d830a6"), looks := false }, kinds := [], alts := [], laidByText := true, laidKinds := [.data], laidTests := true, laidLooks := .later }
def ApproxRemovalUptoCardSaid : Prop := Claim7.holds Tryz.pinned (.plain (OpenSpec.upto approxRemovalSpec)) approxRemovalUptoCard

/-- THE SECOND FORM's CARD OF 'drosslaw32.ApproxRank'. -/
def approxRankUptoCard : Claim7 := { stood := { row := approxRankUptoRow, standIns := [], harness := (true, "e9e2c4af0e08b16d0189d2b75139b352d86b3ad6ee6cc1071badba61f1d830a6"), looks := false }, kinds := [], alts := [], laidByText := true, laidKinds := [.data], laidTests := true, laidLooks := .later }
def ApproxRankUptoCardSaid : Prop := Claim7.holds Tryz.pinned (.plain (OpenSpec.upto approxRankSpec)) approxRankUptoCard

/-- THE SECOND FORM's CARD OF 'drosslaw32.ApproxMinimal'. -/
def approxMinimalUptoCard : Claim7 := { stood := { row := approxMinimalUptoRow, standIns := [], harness := (true, "e9e2c4af0e08b16d0189d2b75139b352d86b3ad6ee6cc1071badba61f1d830a6"), looks := false }, kinds := [], alts := [], laidByText := true, laidKinds := [.data], laidTests := true, laidLooks := .later }
def ApproxMinimalUptoCardSaid : Prop := Claim7.holds Tryz.pinned (.plain (OpenSpec.upto approxMinimalSpec)) approxMinimalUptoCard

/-- THE SECOND FORM's CARD OF 'drosslaw32.ApproxExact'. -/
def approxExactUptoCard : Claim7 := { stood := { row := approxExactUptoRow, standIns := [], harness := (true, "e9e2c4af0e08b16d0189d2b75139b352d86b3ad6ee6cc1071badba61f1d830a6"), looks := false }, kinds := [], alts := [], laidByText := true, laidKinds := [.data], laidTests := true, laidLooks := .later }
def ApproxExactUptoCardSaid : Prop := Claim7.holds Tryz.pinned (.plain (OpenSpec.upto approxExactSpec)) approxExactUptoCard
end Rows
end Go.Proofs.YtjcdclpfeflfkaaGreatDoor
