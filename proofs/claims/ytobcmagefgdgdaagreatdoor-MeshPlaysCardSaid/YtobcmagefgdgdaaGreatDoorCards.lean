/-
  DERIVED. GIVEN WITH THE SEED: THE CARDS: each row of YtobcmagefgdgdaaGreatDoorRows.lean that lists a variable, with what it lists TIED to the program's text (the seventh form; the later family's looks); each row that meets fmt, with fmt's text TOLD by the authors' own Lean function (tested against real Go, not proved from fmt's source: count such statements apart). THE CARD IS WHAT COUNTS. Prove the row's statement (the work); the ties are given (YtobcmagefgdgdaaGreatDoorTie.lean); close each card by the builder's one call (the guide's Derived/Test/ToyasCard.lean, 'card_holds'). Laid BY PROGRAM, IN A SANDBOX (cutbox-door.mjs). By AI agents, Wed Nov 11 2026. No macro, syntax, notation, axiom, sorry.
-/
import Derived.Test.YtobcmagefgdgdaaGreatDoorRows
import GoSem.ClaimSeven
namespace Go.Proofs.YtobcmagefgdgdaaGreatDoor
namespace Rows

/-- THE TIED CARD OF 'groynetop.TopModel'. -/
def topModelCard : Claim7 := { stood := { row := topModelRow, standIns := [], harness := (true, "8d40eac8914a3402d9c69353c576468e8e57af3b63085273fad4e4c9fcd59c25"), looks := true }, kinds := [], alts := [], laidByText := true, laidKinds := [.pinned, .data, .handle], laidTests := true, laidLooks := .later }
def TopModelCardSaid : Prop := Claim7.holds Tryz.pinned (.plain (OpenSpec.ofChange topModelSpec)) topModelCard

/-- THE TIED CARD OF 'groynelaw24.MeshPlays'. -/
def meshPlaysCard : Claim7 := { stood := { row := meshPlaysRow, standIns := [], harness := (true, "8d40eac8914a3402d9c69353c576468e8e57af3b63085273fad4e4c9fcd59c25"), looks := true }, kinds := [], alts := [], laidByText := true, laidKinds := [.pinned, .data, .handle], laidTests := true, laidLooks := .later }
def MeshPlaysCardSaid : Prop := Claim7.holds Tryz.pinned (.plain (OpenSpec.ofChange meshPlaysSpec)) meshPlaysCard

/-- THE SECOND FORM's CARD OF 'groynetop.TopModel'. -/
def topModelUptoCard : Claim7 := { stood := { row := topModelUptoRow, standIns := [], harness := (true, "8d40eac8914a3402d9c69353c576468e8e57af3b63085273fad4e4c9fcd59c25"), looks := true }, kinds := [], alts := [], laidByText := true, laidKinds := [.pinned, .data, .handle], laidTests := true, laidLooks := .later }
def TopModelUptoCardSaid : Prop := Claim7.holds Tryz.pinned (.plain (OpenSpec.upto topModelSpec)) topModelUptoCard

/-- THE SECOND FORM's CARD OF 'groynelaw24.MeshPlays'. -/
def meshPlaysUptoCard : Claim7 := { stood := { row := meshPlaysUptoRow, standIns := [], harness := (true, "8d40eac8914a3402d9c69353c576468e8e57af3b63085273fad4e4c9fcd59c25"), looks := true }, kinds := [], alts := [], laidByText := true, laidKinds := [.pinned, .data, .handle], laidTests := true, laidLooks := .later }
def MeshPlaysUptoCardSaid : Prop := Claim7.holds Tryz.pinned (.plain (OpenSpec.upto meshPlaysSpec)) meshPlaysUptoCard
end Rows
end Go.Proofs.YtobcmagefgdgdaaGreatDoor
