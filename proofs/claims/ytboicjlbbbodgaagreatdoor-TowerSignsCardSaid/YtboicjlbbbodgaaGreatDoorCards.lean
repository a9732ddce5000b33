/-
  DERIVED. GIVEN WITH THE SEED: THE CARDS: each row of YtboicjlbbbodgaaGreatDoorRows.lean that lists a variable, with what it lists TIED to the program's text (the seventh form; the later family's looks); each row that meets fmt, with fmt's text TOLD by the authors' own Lean function (tested against real Go, not proved from fmt's source: count such statements apart). THE CARD IS WHAT COUNTS. Prove the row's statement (the work); the ties are given (YtboicjlbbbodgaaGreatDoorTie.lean); close each card by the builder's one call (the guide's Derived/Test/ToyasCard.lean, 'card_holds'). Laid BY PROGRAM, IN A SANDBOX (cutbox-door.mjs). By AI agents, Wed Nov 11 2026. No macro, syntax, notation, axiom, sorry.
-/
import Derived.Test.YtboicjlbbbodgaaGreatDoorRows
import GoSem.ClaimSeven
namespace Go.Proofs.YtboicjlbbbodgaaGreatDoor
namespace Rows

/-- THE TIED CARD OF 'linkworklaw04.TowerField'. -/
def towerFieldCard : Claim7 := { stood := { row := towerFieldRow, standIns := [], harness := (true, "81437d084b71725233a2a5eaddbe382a74249c7d0d18f0e1afb2d40c3b272a3d"), looks := true }, kinds := [], alts := [], laidByText := true, laidKinds := [.data, .data, .data], laidTests := true, laidLooks := .later }
def TowerFieldCardSaid : Prop := Claim7.holds Tryz.pinned (.plain (OpenSpec.ofChange towerFieldSpec)) towerFieldCard

/-- THE TIED CARD OF 'linkworklaw04.TowerDivides'. -/
def towerDividesCard : Claim7 := { stood := { row := towerDividesRow, standIns := [], harness := (true, "81437d084b71725233a2a5eaddbe382a74249c7d0d18f0e1afb2d40c3b272a3d"), looks := true }, kinds := [], alts := [], laidByText := true, laidKinds := [.data, .data, .data], laidTests := true, laidLooks := .later }
def TowerDividesCardSaid : Prop := Claim7.holds Tryz.pinned (.plain (OpenSpec.ofChange towerDividesSpec)) towerDividesCard

/-- THE TIED CARD OF 'linkworklaw04.TowerNorms'. -/
def towerNormsCard : Claim7 := { stood := { row := towerNormsRow, standIns := [], harness := (true, "81437d084b71725233a2a5eaddbe382a74249c7d0d18f0e1afb2d40c3b272a3d"), looks := true }, kinds := [], alts := [], laidByText := true, laidKinds := [.data, .data, .data], laidTests := true, laidLooks := .later }
def TowerNormsCardSaid : Prop := Claim7.holds Tryz.pinned (.plain (OpenSpec.ofChange towerNormsSpec)) towerNormsCard

/-- THE TIED CARD OF 'linkworklaw04.TowerComputes'. -/
def towerComputesCard : Claim7 := { stood := { row := towerComputesRow, standIns := [], harness := (true, "81437d084b71725233a2a5eaddbe382a74249c7d0d18f0e1afb2d40c3b272a3d"), looks := true }, kinds := [], alts := [], laidByText := true, laidKinds := [.data, .data, .data], laidTests := true, laidLooks := .later }
def TowerComputesCardSaid : Prop := Claim7.holds Tryz.pinned (.plain (OpenSpec.ofChange towerComputesSpec)) towerComputesCard

/-- THE TIED CARD OF 'linkworklaw04.TowerSigns'. -/
def towerSignsCard : Claim7 := { stood := { row := towerSignsRow, standIns := [], harness := (true, "81437d084b71725233a2a5eaddbe382a74249c7d0d18f0e1afb2d40c3b272a3d"), looks := true }, kinds := [], alts := [], laidByText := true, laidKinds := [.data, .data, .data], laidTests := true, laidLooks := .later }
def TowerSignsCardSaid : Prop := Claim7.holds Tryz.pinned (.plain (OpenSpec.ofChange towerSignsSpec)) towerSignsCard

/-- THE TIED CARD OF 'linkworklaw04.TowerChecks'. -/
def towerChecksCard : Claim7 := { stood := { row := towerChecksRow, standIns := [], harness := (true, "81437d084b71725233a2a5eaddbe382a74249c7d0d18f0e1afb2d40c3b272a3d"), looks := true }, kinds := [], alts := [], laidByText := true, laidKinds := [.data, .data, .data], laidTests := true, laidLooks := .later }
def TowerChecksCardSaid : Prop := Claim7.holds Tryz.pinned (.plain (OpenSpec.ofChange towerChecksSpec)) towerChecksCard

/-- THE TIED CARD OF 'linkworklaw04.TowerEncloses'. -/
def towerEnclosesCard : Claim7 := { stood := { row := towerEnclosesRow, standIns := [], harness := (true, "81437d084b71725233a2a5eaddbe382a74249c7d0d18f0e1afb2d40c3b272a3d"), looks := true }, kinds := [], alts := [], laidByText := true, laidKinds := [.data, .data, .data], laidTests := true, laidLooks := .later }
def TowerEnclosesCardSaid : Prop := Claim7.holds Tryz.pinned (.plain (OpenSpec.ofChange towerEnclosesSpec)) towerEnclosesCard

/-- THE TIED CARD OF 'linkworklaw04.TowerRoots'. -/
def towerRootsCard : Claim7 := { stood := { row := towerRootsRow, standIns := [], harness := (true, "81437d084b71725233a2a5eaddbe382a74249c7d0d18f0e1afb2d40c3b272a3d"), looks := true }, kinds := [], alts := [], laidByText := true, laidKinds := [.data, .data, .data], laidTests := true, laidLooks := .later }
def TowerRootsCardSaid : Prop := Claim7.holds Tryz.pinned (.plain (OpenSpec.ofChange towerRootsSpec)) towerRootsCard

/-- THE TIED CARD OF 'linkworklaw04.TowerExtends'. -/
def towerExtendsCard : Claim7 := { stood := { row := towerExtendsRow, standIns := [], harness := (true, "81437d084b71725233a2a5eaddbe382a74249c7d0d18f0e1afb2d40c3b272a3d"), looks := true }, kinds := [], alts := [], laidByText := true, laidKinds := [.data, .data, .data], laidTests := true, laidLooks := .later }
def TowerExtendsCardSaid : Prop := Claim7.holds Tryz.pinned (.plain (OpenSpec.ofChange towerExtendsSpec)) towerExtendsCard

/-- THE SECOND FORM's CARD OF 'linkworklaw04.TowerField'. -/
def towerFieldUptoCard : Claim7 := { stood := { row := towerFieldUptoRow, standIns := [], harness := (true, "81437d084b71725233a2a5eaddbe382a74249c7d0d18f0e1afb2d40c3b272a3d"), looks := true }, kinds := [], alts := [], laidByText := true, laidKinds := [.data, .data, .data], laidTests := true, laidLooks := .later }
def TowerFieldUptoCardSaid : Prop := Claim7.holds Tryz.pinned (.plain (OpenSpec.upto towerFieldSpec)) towerFieldUptoCard

/-- THE SECOND FORM's CARD OF 'linkworklaw04.TowerDivides'. -/
def towerDividesUptoCard : Claim7 := { stood := { row := towerDividesUptoRow, standIns := [], harness := (true, "81437d084b71725233a2a5eaddbe382a74249c7d0d18f0e1afb2d40c3b272a3d"), looks := true }, kinds := [], alts := [], laidByText := true, laidKinds := [.data, .data, .data], laidTests := true, laidLooks := .later }
def TowerDividesUptoCardSaid : Prop := Claim7.holds Tryz.pinned (.plain (OpenSpec.upto towerDividesSpec)) towerDividesUptoCard

/-- THE SECOND FORM's CARD OF 'linkworklaw04.TowerNorms'. -/
def towerNormsUptoCard : Claim7 := { stood := { row := towerNormsUptoRow, standIns := [], harness := (true, "81437d084b71725233a2a5eaddbe382a74249c7d0d18f0e1afb2d40c3b272a3d"), looks := true }, kinds := [], alts := [], laidByText := true, laidKinds := [.data, .data, .data], laidTests := true, laidLooks := .later }
def TowerNormsUptoCardSaid : Prop := Claim7.holds Tryz.pinned (.plain (OpenSpec.upto towerNormsSpec)) towerNormsUptoCard

/-- THE SECOND FORM's CARD OF 'linkworklaw04.TowerComputes'. -/
def towerComputesUptoCard : Claim7 := { stood := { row := towerComputesUptoRow, standIns := [], harness := (true, "81437d084b71725233a2a5eaddbe382a74249c7d0d18f0e1afb2d40c3b272a3d"), looks := true }, kinds := [], alts := [], laidByText := true, laidKinds := [.data, .data, .data], laidTests := true, laidLooks := .later }
def TowerComputesUptoCardSaid : Prop := Claim7.holds Tryz.pinned (.plain (OpenSpec.upto towerComputesSpec)) towerComputesUptoCard

/-- THE SECOND FORM's CARD OF 'linkworklaw04.TowerSigns'. -/
def towerSignsUptoCard : Claim7 := { stood := { row := towerSignsUptoRow, standIns := [], harness := (true, "81437d084b71725233a2a5eaddbe382a74249c7d0d18f0e1afb2d40c3b272a3d"), looks := true }, kinds := [], alts := [], laidByText := true, laidKinds := [.data, .data, .data], laidTests := true, laidLooks := .later }
def TowerSignsUptoCardSaid : Prop := Claim7.holds Tryz.pinned (.plain (OpenSpec.upto towerSignsSpec)) towerSignsUptoCard

/-- THE SECOND FORM's CARD OF 'linkworklaw04.TowerChecks'. -/
def towerChecksUptoCard : Claim7 := { stood := { row := towerChecksUptoRow, standIns := [], harness := (true, "81437d084b71725233a2a5eaddbe382a74249c7d0d18f0e1afb2d40c3b272a3d"), looks := true }, kinds := [], alts := [], laidByText := true, laidKinds := [.data, .data, .data], laidTests := true, laidLooks := .later }
def TowerChecksUptoCardSaid : Prop := Claim7.holds Tryz.pinned (.plain (OpenSpec.upto towerChecksSpec)) towerChecksUptoCard

/-- THE SECOND FORM's CARD OF 'linkworklaw04.TowerEncloses'. -/
def towerEnclosesUptoCard : Claim7 := { stood := { row := towerEnclosesUptoRow, standIns := [], harness := (true, "81437d084b71725233a2a5eaddbe382a74249c7d0d18f0e1afb2d40c3b272a3d"), looks := true }, kinds := [], alts := [], laidByText := true, laidKinds := [.data, .data, .data], laidTests := true, laidLooks := .later }
def TowerEnclosesUptoCardSaid : Prop := Claim7.holds Tryz.pinned (.plain (OpenSpec.upto towerEnclosesSpec)) towerEnclosesUptoCard

/-- THE SECOND FORM's CARD OF 'linkworklaw04.TowerRoots'. -/
def towerRootsUptoCard : Claim7 := { stood := { row := towerRootsUptoRow, standIns := [], harness := (true, "81437d084b71725233a2a5eaddbe382a74249c7d0d18f0e1afb2d40c3b272a3d"), looks := true }, kinds := [], alts := [], laidByText := true, laidKinds := [.data, .data, .data], laidTests := true, laidLooks := .later }
def TowerRootsUptoCardSaid : Prop := Claim7.holds Tryz.pinned (.plain (OpenSpec.upto towerRootsSpec)) towerRootsUptoCard

/-- THE SECOND FORM's CARD OF 'linkworklaw04.TowerExtends'. -/
def towerExtendsUptoCard : Claim7 := { stood := { row := towerExtendsUptoRow, standIns := [], harness := (true, "81437d084b71725233a2a5eaddbe382a74249c7d0d18f0e1afb2d40c3b272a3d"), looks := true }, kinds := [], alts := [], laidByText := true, laidKinds := [.data, .data, .data], laidTests := true, laidLooks := .later }
def TowerExtendsUptoCardSaid : Prop := Claim7.holds Tryz.pinned (.plain (OpenSpec.upto towerExtendsSpec)) towerExtendsUptoCard
end Rows
end Go.Proofs.YtboicjlbbbodgaaGreatDoor
