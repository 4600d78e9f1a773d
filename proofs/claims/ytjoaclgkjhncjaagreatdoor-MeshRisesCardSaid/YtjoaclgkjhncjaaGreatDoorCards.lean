/-
  DERIVED. GIVEN WITH THE SEED: THE CARDS: each row of YtjoaclgkjhncjaaGreatDoorRows.lean that lists a variable, with what it lists TIED to the program's text (the seventh form; the later family's looks); each row that meets fmt, with fmt's text TOLD by the authors' own Lean function (tested against real Go, not proved from fmt's source: count such statements apart). THE CARD IS WHAT COUNTS. Prove the row's statement (the work); the ties are given (YtjoaclgkjhncjaaGreatDoorTie.lean); close each card by the builder's one call (the guide's Derived/Test/ToyasCard.lean, 'card_holds'). Laid BY PROGRAM, IN A SANDBOX (cutbox-door.mjs). By AI agents, Wed Nov 11 2026. No macro, syntax, notation, axiom, sorry.
-/
import Derived.Test.YtjoaclgkjhncjaaGreatDoorRows
import GoSem.ClaimSeven
namespace Go.Proofs.YtjoaclgkjhncjaaGreatDoor
namespace Rows

/-- THE TIED CARD OF 'groynelaw24.MeshRises'. -/
def meshRisesCard : Claim7 := { stood := { row := meshRisesRow, standIns := [], harness := (true, "e6d4a370698aa80a299b515e4ac3d6b1c0adec9400a15b6848d026c0d8a899f1"), looks := true }, kinds := [], alts := [], laidByText := true, laidKinds := [.data, .handle, .pinned], laidTests := true, laidLooks := .later }
def MeshRisesCardSaid : Prop := Claim7.holds Tryz.pinned (.plain (OpenSpec.ofChange meshRisesSpec)) meshRisesCard

/-- THE TIED CARD OF 'groynelaw24.MeshShows'. -/
def meshShowsCard : Claim7 := { stood := { row := meshShowsRow, standIns := [], harness := (true, "e6d4a370698aa80a299b515e4ac3d6b1c0adec9400a15b6848d026c0d8a899f1"), looks := true }, kinds := [], alts := [], laidByText := true, laidKinds := [.data, .handle, .pinned], laidTests := true, laidLooks := .later }
def MeshShowsCardSaid : Prop := Claim7.holds Tryz.pinned (.plain (OpenSpec.ofChange meshShowsSpec)) meshShowsCard

/-- THE TIED CARD OF 'groynelaw24.MeshDrains'. -/
def meshDrainsCard : Claim7 := { stood := { row := meshDrainsRow, standIns := [], harness := (true, "e6d4a370698aa80a299b515e4ac3d6b1c0adec9400a15b6848d026c0d8a899f1"), looks := true }, kinds := [], alts := [], laidByText := true, laidKinds := [.data, .handle, .pinned], laidTests := true, laidLooks := .later }
def MeshDrainsCardSaid : Prop := Claim7.holds Tryz.pinned (.plain (OpenSpec.ofChange meshDrainsSpec)) meshDrainsCard

/-- THE TIED CARD OF 'groynelaw24.MeshWants'. -/
def meshWantsCard : Claim7 := { stood := { row := meshWantsRow, standIns := [], harness := (true, "e6d4a370698aa80a299b515e4ac3d6b1c0adec9400a15b6848d026c0d8a899f1"), looks := true }, kinds := [], alts := [], laidByText := true, laidKinds := [.data, .handle, .pinned], laidTests := true, laidLooks := .later }
def MeshWantsCardSaid : Prop := Claim7.holds Tryz.pinned (.plain (OpenSpec.ofChange meshWantsSpec)) meshWantsCard

/-- THE SECOND FORM's CARD OF 'groynelaw24.MeshRises'. -/
def meshRisesUptoCard : Claim7 := { stood := { row := meshRisesUptoRow, standIns := [], harness := (true, "e6d4a370698aa80a299b515e4ac3d6b1c0adec9400a15b6848d026c0d8a899f1"), looks := true }, kinds := [], alts := [], laidByText := true, laidKinds := [.data, .handle, .pinned], laidTests := true, laidLooks := .later }
def MeshRisesUptoCardSaid : Prop := Claim7.holds Tryz.pinned (.plain (OpenSpec.upto meshRisesSpec)) meshRisesUptoCard

/-- THE SECOND FORM's CARD OF 'groynelaw24.MeshShows'. -/
def meshShowsUptoCard : Claim7 := { stood := { row := meshShowsUptoRow, standIns := [], harness := (true, "e6d4a370698aa80a299b515e4ac3d6b1c0adec9400a15b6848d026c0d8a899f1"), looks := true }, kinds := [], alts := [], laidByText := true, laidKinds := [.data, .handle, .pinned], laidTests := true, laidLooks := .later }
def MeshShowsUptoCardSaid : Prop := Claim7.holds Tryz.pinned (.plain (OpenSpec.upto meshShowsSpec)) meshShowsUptoCard

/-- THE SECOND FORM's CARD OF 'groynelaw24.MeshDrains'. -/
def meshDrainsUptoCard : Claim7 := { stood := { row := meshDrainsUptoRow, standIns := [], harness := (true, "e6d4a370698aa80a299b515e4ac3d6b1c0adec9400a15b6848d026c0d8a899f1"), looks := true }, kinds := [], alts := [], laidByText := true, laidKinds := [.data, .handle, .pinned], laidTests := true, laidLooks := .later }
def MeshDrainsUptoCardSaid : Prop := Claim7.holds Tryz.pinned (.plain (OpenSpec.upto meshDrainsSpec)) meshDrainsUptoCard

/-- THE SECOND FORM's CARD OF 'groynelaw24.MeshWants'. -/
def meshWantsUptoCard : Claim7 := { stood := { row := meshWantsUptoRow, standIns := [], harness := (true, "e6d4a370698aa80a299b515e4ac3d6b1c0adec9400a15b6848d026c0d8a899f1"), looks := true }, kinds := [], alts := [], laidByText := true, laidKinds := [.data, .handle, .pinned], laidTests := true, laidLooks := .later }
def MeshWantsUptoCardSaid : Prop := Claim7.holds Tryz.pinned (.plain (OpenSpec.upto meshWantsSpec)) meshWantsUptoCard
end Rows
end Go.Proofs.YtjoaclgkjhncjaaGreatDoor
