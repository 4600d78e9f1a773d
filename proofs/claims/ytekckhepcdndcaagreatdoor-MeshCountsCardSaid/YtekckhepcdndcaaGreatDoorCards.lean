/-
  DERIVED. GIVEN WITH THE SEED: THE CARDS: each row of YtekckhepcdndcaaGreatDoorRows.lean that lists a variable, with what it lists TIED to the program's text (the seventh form; the later family's looks); each row that meets fmt, with fmt's text TOLD by the authors' own Lean function (tested against real Go, not proved from fmt's source: count such statements apart). THE CARD IS WHAT COUNTS. Prove the row's statement (the work); the ties are given (YtekckhepcdndcaaGreatDoorTie.lean); close each card by the builder's one call (the guide's Derived/Test/ToyasCard.lean, 'card_holds'). Laid BY PROGRAM, IN A SANDBOX (cutbox-door.mjs). By AI agents, Wed Nov 11 2026. No macro, syntax, notation, axiom, sorry.
-/
import Derived.Test.YtekckhepcdndcaaGreatDoorRows
import GoSem.ClaimSeven
namespace Go.Proofs.YtekckhepcdndcaaGreatDoor
namespace Rows

/-- THE TIED CARD OF 'groynelaw24.MeshSends'. -/
def meshSendsCard : Claim7 := { stood := { row := meshSendsRow, standIns := [], harness := (true, "d0709714cd1d473a1604558b3d241b529983c0b22563312980dac685cf0469a0"), looks := true }, kinds := [], alts := [], laidByText := true, laidKinds := [.data, .handle, .pinned], laidTests := true, laidLooks := .later }
def MeshSendsCardSaid : Prop := Claim7.holds Tryz.pinned (.plain (OpenSpec.ofChange meshSendsSpec)) meshSendsCard

/-- THE TIED CARD OF 'groynelaw24.MeshParts'. -/
def meshPartsCard : Claim7 := { stood := { row := meshPartsRow, standIns := [], harness := (true, "d0709714cd1d473a1604558b3d241b529983c0b22563312980dac685cf0469a0"), looks := true }, kinds := [], alts := [], laidByText := true, laidKinds := [.data, .handle, .pinned], laidTests := true, laidLooks := .later }
def MeshPartsCardSaid : Prop := Claim7.holds Tryz.pinned (.plain (OpenSpec.ofChange meshPartsSpec)) meshPartsCard

/-- THE TIED CARD OF 'groynelaw24.MeshCounts'. -/
def meshCountsCard : Claim7 := { stood := { row := meshCountsRow, standIns := [], harness := (true, "d0709714cd1d473a1604558b3d241b529983c0b22563312980dac685cf0469a0"), looks := true }, kinds := [], alts := [], laidByText := true, laidKinds := [.data, .handle, .pinned], laidTests := true, laidLooks := .later }
def MeshCountsCardSaid : Prop := Claim7.holds Tryz.pinned (.plain (OpenSpec.ofChange meshCountsSpec)) meshCountsCard

/-- THE SECOND FORM's CARD OF 'groynelaw24.MeshSends'. -/
def meshSendsUptoCard : Claim7 := { stood := { row := meshSendsUptoRow, standIns := [], harness := (true, "d0709714cd1d473a1604558b3d241b529983c0b22563312980dac685cf0469a0"), looks := true }, kinds := [], alts := [], laidByText := true, laidKinds := [.data, .handle, .pinned], laidTests := true, laidLooks := .later }
def MeshSendsUptoCardSaid : Prop := Claim7.holds Tryz.pinned (.plain (OpenSpec.upto meshSendsSpec)) meshSendsUptoCard

/-- THE SECOND FORM's CARD OF 'groynelaw24.MeshParts'. -/
def meshPartsUptoCard : Claim7 := { stood := { row := meshPartsUptoRow, standIns := [], harness := (true, "d0709714cd1d473a1604558b3d241b529983c0b22563312980dac685cf0469a0"), looks := true }, kinds := [], alts := [], laidByText := true, laidKinds := [.data, .handle, .pinned], laidTests := true, laidLooks := .later }
def MeshPartsUptoCardSaid : Prop := Claim7.holds Tryz.pinned (.plain (OpenSpec.upto meshPartsSpec)) meshPartsUptoCard

/-- THE SECOND FORM's CARD OF 'groynelaw24.MeshCounts'. -/
def meshCountsUptoCard : Claim7 := { stood := { row := meshCountsUptoRow, standIns := [], harness := (true, "d0709714cd1d473a1604558b3d241b529983c0b22563312980dac685cf0469a0"), looks := true }, kinds := [], alts := [], laidByText := true, laidKinds := [.data, .handle, .pinned], laidTests := true, laidLooks := .later }
def MeshCountsUptoCardSaid : Prop := Claim7.holds Tryz.pinned (.plain (OpenSpec.upto meshCountsSpec)) meshCountsUptoCard
end Rows
end Go.Proofs.YtekckhepcdndcaaGreatDoor
