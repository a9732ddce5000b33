/-
  DERIVED. GIVEN WITH THE SEED: THE CARDS: each row of YtnjbcjmkkejfpaaGreatDoorRows.lean that lists a variable, with what it lists TIED to the program's text (the seventh form; the later family's looks); each row that meets fmt, with fmt's text TOLD by the authors' own Lean function (tested against real Go, not proved from fmt's source: count such statements apart). THE CARD IS WHAT COUNTS. Prove the row's statement (the work); the ties are given (YtnjbcjmkkejfpaaGreatDoorTie.lean); close each card by the builder's one call (the guide's Derived/Test/ToyasCard.lean, 'card_holds'). Laid BY PROGRAM, IN A SANDBOX (cutbox-door.mjs). By AI agents, Wed Nov 11 2026. No macro, syntax, notation, axiom, sorry.
-/
import Derived.Test.YtnjbcjmkkejfpaaGreatDoorRows
import GoSem.ClaimSeven
namespace Go.Proofs.YtnjbcjmkkejfpaaGreatDoor
namespace Rows

/-- THE TIED CARD OF 'linkworklaw36.OutputEnds'. -/
def outputEndsCard : Claim7 := { stood := { row := outputEndsRow, standIns := [], harness := (true, "f6944c7ba4007747227eb304f6385f2614cecc1ff36070059e3a988f5c7f0efd"), looks := true }, kinds := [], alts := [], laidByText := true, laidKinds := [.data, .data, .data], laidTests := true, laidLooks := .later }
def OutputEndsCardSaid : Prop := Claim7.holds Tryz.pinned (.plain (OpenSpec.ofChange outputEndsSpec)) outputEndsCard

/-- THE TIED CARD OF 'linkworklaw36.OutputChecks'. -/
def outputChecksCard : Claim7 := { stood := { row := outputChecksRow, standIns := [], harness := (true, "f6944c7ba4007747227eb304f6385f2614cecc1ff36070059e3a988f5c7f0efd"), looks := true }, kinds := [], alts := [], laidByText := true, laidKinds := [.data, .data, .data], laidTests := true, laidLooks := .later }
def OutputChecksCardSaid : Prop := Claim7.holds Tryz.pinned (.plain (OpenSpec.ofChange outputChecksSpec)) outputChecksCard

/-- THE TIED CARD OF 'linkworklaw36.OutputLines'. -/
def outputLinesCard : Claim7 := { stood := { row := outputLinesRow, standIns := [], harness := (true, "f6944c7ba4007747227eb304f6385f2614cecc1ff36070059e3a988f5c7f0efd"), looks := true }, kinds := [], alts := [], laidByText := true, laidKinds := [.data, .data, .data], laidTests := true, laidLooks := .later }
def OutputLinesCardSaid : Prop := Claim7.holds Tryz.pinned (.plain (OpenSpec.ofChange outputLinesSpec)) outputLinesCard

/-- THE TIED CARD OF 'linkworklaw36.OutputMirror'. -/
def outputMirrorCard : Claim7 := { stood := { row := outputMirrorRow, standIns := [], harness := (true, "f6944c7ba4007747227eb304f6385f2614cecc1ff36070059e3a988f5c7f0efd"), looks := true }, kinds := [], alts := [], laidByText := true, laidKinds := [.data, .data, .data], laidTests := true, laidLooks := .later }
def OutputMirrorCardSaid : Prop := Claim7.holds Tryz.pinned (.plain (OpenSpec.ofChange outputMirrorSpec)) outputMirrorCard

/-- THE TIED CARD OF 'linkworklaw36.OutputRational'. -/
def outputRationalCard : Claim7 := { stood := { row := outputRationalRow, standIns := [], harness := (true, "f6944c7ba4007747227eb304f6385f2614cecc1ff36070059e3a988f5c7f0efd"), looks := true }, kinds := [], alts := [], laidByText := true, laidKinds := [.data, .data, .data], laidTests := true, laidLooks := .later }
def OutputRationalCardSaid : Prop := Claim7.holds Tryz.pinned (.plain (OpenSpec.ofChange outputRationalSpec)) outputRationalCard

/-- THE TIED CARD OF 'linkworklaw36.OutputDistances'. -/
def outputDistancesCard : Claim7 := { stood := { row := outputDistancesRow, standIns := [], harness := (true, "f6944c7ba4007747227eb304f6385f2614cecc1ff36070059e3a988f5c7f0efd"), looks := true }, kinds := [], alts := [], laidByText := true, laidKinds := [.data, .data, .data], laidTests := true, laidLooks := .later }
def OutputDistancesCardSaid : Prop := Claim7.holds Tryz.pinned (.plain (OpenSpec.ofChange outputDistancesSpec)) outputDistancesCard

/-- THE TIED CARD OF 'linkworklaw36.OutputRotation'. -/
def outputRotationCard : Claim7 := { stood := { row := outputRotationRow, standIns := [], harness := (true, "f6944c7ba4007747227eb304f6385f2614cecc1ff36070059e3a988f5c7f0efd"), looks := true }, kinds := [], alts := [], laidByText := true, laidKinds := [.data, .data, .data], laidTests := true, laidLooks := .later }
def OutputRotationCardSaid : Prop := Claim7.holds Tryz.pinned (.plain (OpenSpec.ofChange outputRotationSpec)) outputRotationCard

/-- THE SECOND FORM's CARD OF 'linkworklaw36.OutputEnds'. -/
def outputEndsUptoCard : Claim7 := { stood := { row := outputEndsUptoRow, standIns := [], harness := (true, "f6944c7ba4007747227eb304f6385f2614cecc1ff36070059e3a988f5c7f0efd"), looks := true }, kinds := [], alts := [], laidByText := true, laidKinds := [.data, .data, .data], laidTests := true, laidLooks := .later }
def OutputEndsUptoCardSaid : Prop := Claim7.holds Tryz.pinned (.plain (OpenSpec.upto outputEndsSpec)) outputEndsUptoCard

/-- THE SECOND FORM's CARD OF 'linkworklaw36.OutputChecks'. -/
def outputChecksUptoCard : Claim7 := { stood := { row := outputChecksUptoRow, standIns := [], harness := (true, "f6944c7ba4007747227eb304f6385f2614cecc1ff36070059e3a988f5c7f0efd"), looks := true }, kinds := [], alts := [], laidByText := true, laidKinds := [.data, .data, .data], laidTests := true, laidLooks := .later }
def OutputChecksUptoCardSaid : Prop := Claim7.holds Tryz.pinned (.plain (OpenSpec.upto outputChecksSpec)) outputChecksUptoCard

/-- THE SECOND FORM's CARD OF 'linkworklaw36.OutputLines'. -/
def outputLinesUptoCard : Claim7 := { stood := { row := outputLinesUptoRow, standIns := [], harness := (true, "f6944c7ba4007747227eb304f6385f2614cecc1ff36070059e3a988f5c7f0efd"), looks := true }, kinds := [], alts := [], laidByText := true, laidKinds := [.data, .data, .data], laidTests := true, laidLooks := .later }
def OutputLinesUptoCardSaid : Prop := Claim7.holds Tryz.pinned (.plain (OpenSpec.upto outputLinesSpec)) outputLinesUptoCard

/-- THE SECOND FORM's CARD OF 'linkworklaw36.OutputMirror'. -/
def outputMirrorUptoCard : Claim7 := { stood := { row := outputMirrorUptoRow, standIns := [], harness := (true, "f6944c7ba4007747227eb304f6385f2614cecc1ff36070059e3a988f5c7f0efd"), looks := true }, kinds := [], alts := [], laidByText := true, laidKinds := [.data, .data, .data], laidTests := true, laidLooks := .later }
def OutputMirrorUptoCardSaid : Prop := Claim7.holds Tryz.pinned (.plain (OpenSpec.upto outputMirrorSpec)) outputMirrorUptoCard

/-- THE SECOND FORM's CARD OF 'linkworklaw36.OutputRational'. -/
def outputRationalUptoCard : Claim7 := { stood := { row := outputRationalUptoRow, standIns := [], harness := (true, "f6944c7ba4007747227eb304f6385f2614cecc1ff36070059e3a988f5c7f0efd"), looks := true }, kinds := [], alts := [], laidByText := true, laidKinds := [.data, .data, .data], laidTests := true, laidLooks := .later }
def OutputRationalUptoCardSaid : Prop := Claim7.holds Tryz.pinned (.plain (OpenSpec.upto outputRationalSpec)) outputRationalUptoCard

/-- THE SECOND FORM's CARD OF 'linkworklaw36.OutputDistances'. -/
def outputDistancesUptoCard : Claim7 := { stood := { row := outputDistancesUptoRow, standIns := [], harness := (true, "f6944c7ba4007747227eb304f6385f2614cecc1ff36070059e3a988f5c7f0efd"), looks := true }, kinds := [], alts := [], laidByText := true, laidKinds := [.data, .data, .data], laidTests := true, laidLooks := .later }
def OutputDistancesUptoCardSaid : Prop := Claim7.holds Tryz.pinned (.plain (OpenSpec.upto outputDistancesSpec)) outputDistancesUptoCard

/-- THE SECOND FORM's CARD OF 'linkworklaw36.OutputRotation'. -/
def outputRotationUptoCard : Claim7 := { stood := { row := outputRotationUptoRow, standIns := [], harness := (true, "f6944c7ba4007747227eb304f6385f2614cecc1ff36070059e3a988f5c7f0efd"), looks := true }, kinds := [], alts := [], laidByText := true, laidKinds := [.data, .data, .data], laidTests := true, laidLooks := .later }
def OutputRotationUptoCardSaid : Prop := Claim7.holds Tryz.pinned (.plain (OpenSpec.upto outputRotationSpec)) outputRotationUptoCard
end Rows
end Go.Proofs.YtnjbcjmkkejfpaaGreatDoor
