/-
  DERIVED. GIVEN WITH THE SEED: THE CARDS: each row of YtmhfcgpmmghakaaGreatDoorRows.lean that lists a variable, with what it lists TIED to the program's text (the seventh form; the later family's looks); each row that meets fmt, with fmt's text TOLD by the authors' own Lean function (tested against real Go, not proved from fmt's source: count such statements apart). THE CARD IS WHAT COUNTS. Prove the row's statement (the work); the ties are given (YtmhfcgpmmghakaaGreatDoorTie.lean); close each card by the builder's one call (the guide's Derived/Test/ToyasCard.lean, 'card_holds'). Laid BY PROGRAM, IN A SANDBOX (cutbox-door.mjs). By AI agents, Wed Nov 11 2026. No macro, syntax, notation, axiom, sorry.
-/
import Derived.Test.YtmhfcgpmmghakaaGreatDoorRows
import GoSem.ClaimSeven
namespace Go.Proofs.YtmhfcgpmmghakaaGreatDoor
namespace Rows

/-- THE TIED CARD OF 'groynelaw24.MeshNone'. -/
def meshNoneCard : Claim7 := { stood := { row := meshNoneRow, standIns := [], harness := (true, "96b4f1e5f3b866e3dc39b460aa4e1227f28e8a1588836f6276ca3be789e54976"), looks := true }, kinds := [], alts := [], laidByText := true, laidKinds := [.data, .handle, .pinned], laidTests := true, laidLooks := .later }
def MeshNoneCardSaid : Prop := Claim7.holds Tryz.pinned (.plain (OpenSpec.ofChange meshNoneSpec)) meshNoneCard

/-- THE SECOND FORM's CARD OF 'groynelaw24.MeshNone'. -/
def meshNoneUptoCard : Claim7 := { stood := { row := meshNoneUptoRow, standIns := [], harness := (true, "96b4f1e5f3b866e3dc39b460aa4e1227f28e8a1588836f6276ca3be789e54976"), looks := true }, kinds := [], alts := [], laidByText := true, laidKinds := [.data, .handle, .pinned], laidTests := true, laidLooks := .later }
def MeshNoneUptoCardSaid : Prop := Claim7.holds Tryz.pinned (.plain (OpenSpec.upto meshNoneSpec)) meshNoneUptoCard
end Rows
end Go.Proofs.YtmhfcgpmmghakaaGreatDoor
