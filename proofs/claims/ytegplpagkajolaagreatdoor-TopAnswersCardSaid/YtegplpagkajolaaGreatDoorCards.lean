/-
  DERIVED. GIVEN WITH THE SEED: THE CARDS: each row of YtegplpagkajolaaGreatDoorRows.lean that lists a variable, with what it lists TIED to the program's text (the seventh form; the later family's looks); each row that meets fmt, with fmt's text TOLD by the authors' own Lean function (tested against real Go, not proved from fmt's source: count such statements apart). THE CARD IS WHAT COUNTS. Prove the row's statement (the work); the ties are given (YtegplpagkajolaaGreatDoorTie.lean); close each card by the builder's one call (the guide's Derived/Test/ToyasCard.lean, 'card_holds'). Laid BY PROGRAM, IN A SANDBOX (cutbox-door.mjs). By AI agents, Wed Nov 11 2026. No macro, syntax, notation, axiom, sorry.
-/
import Derived.Test.YtegplpagkajolaaGreatDoorRows
import GoSem.ClaimSeven
namespace Go.Proofs.YtegplpagkajolaaGreatDoor
namespace Rows

/-- THE TIED CARD OF 'groynetop.TopAnswers'. -/
def topAnswersCard : Claim7 := { stood := { row := topAnswersRow, standIns := [], harness := (true, "1604842e972a5d2c74dc1de6ce4eeb34ffd76f8c6ac96c0f0f254f83ddb7ae55"), looks := true }, kinds := [], alts := [], laidByText := true, laidKinds := [.data, .handle, .pinned], laidTests := true, laidLooks := .later }
def TopAnswersCardSaid : Prop := Claim7.holds Tryz.pinned (.plain (OpenSpec.ofChange topAnswersSpec)) topAnswersCard

/-- THE TIED CARD OF 'groynetop.TopSettles'. -/
def topSettlesCard : Claim7 := { stood := { row := topSettlesRow, standIns := [], harness := (true, "1604842e972a5d2c74dc1de6ce4eeb34ffd76f8c6ac96c0f0f254f83ddb7ae55"), looks := true }, kinds := [], alts := [], laidByText := true, laidKinds := [.data, .handle, .pinned], laidTests := true, laidLooks := .later }
def TopSettlesCardSaid : Prop := Claim7.holds Tryz.pinned (.plain (OpenSpec.ofChange topSettlesSpec)) topSettlesCard

/-- THE TIED CARD OF 'groynelaw24.MeshSettles'. -/
def meshSettlesCard : Claim7 := { stood := { row := meshSettlesRow, standIns := [], harness := (true, "1604842e972a5d2c74dc1de6ce4eeb34ffd76f8c6ac96c0f0f254f83ddb7ae55"), looks := true }, kinds := [], alts := [], laidByText := true, laidKinds := [.data, .handle, .pinned], laidTests := true, laidLooks := .later }
def MeshSettlesCardSaid : Prop := Claim7.holds Tryz.pinned (.plain (OpenSpec.ofChange meshSettlesSpec)) meshSettlesCard

/-- THE TIED CARD OF 'groynelaw24.MeshAnswers'. -/
def meshAnswersCard : Claim7 := { stood := { row := meshAnswersRow, standIns := [], harness := (true, "1604842e972a5d2c74dc1de6ce4eeb34ffd76f8c6ac96c0f0f254f83ddb7ae55"), looks := true }, kinds := [], alts := [], laidByText := true, laidKinds := [.data, .handle, .pinned], laidTests := true, laidLooks := .later }
def MeshAnswersCardSaid : Prop := Claim7.holds Tryz.pinned (.plain (OpenSpec.ofChange meshAnswersSpec)) meshAnswersCard

/-- THE SECOND FORM's CARD OF 'groynetop.TopAnswers'. -/
def topAnswersUptoCard : Claim7 := { stood := { row := topAnswersUptoRow, standIns := [], harness := (true, "1604842e972a5d2c74dc1de6ce4eeb34ffd76f8c6ac96c0f0f254f83ddb7ae55"), looks := true }, kinds := [], alts := [], laidByText := true, laidKinds := [.data, .handle, .pinned], laidTests := true, laidLooks := .later }
def TopAnswersUptoCardSaid : Prop := Claim7.holds Tryz.pinned (.plain (OpenSpec.upto topAnswersSpec)) topAnswersUptoCard

/-- THE SECOND FORM's CARD OF 'groynetop.TopSettles'. -/
def topSettlesUptoCard : Claim7 := { stood := { row := topSettlesUptoRow, standIns := [], harness := (true, "1604842e972a5d2c74dc1de6ce4eeb34ffd76f8c6ac96c0f0f254f83ddb7ae55"), looks := true }, kinds := [], alts := [], laidByText := true, laidKinds := [.data, .handle, .pinned], laidTests := true, laidLooks := .later }
def TopSettlesUptoCardSaid : Prop := Claim7.holds Tryz.pinned (.plain (OpenSpec.upto topSettlesSpec)) topSettlesUptoCard

/-- THE SECOND FORM's CARD OF 'groynelaw24.MeshSettles'. -/
def meshSettlesUptoCard : Claim7 := { stood := { row := meshSettlesUptoRow, standIns := [], harness := (true, "1604842e972a5d2c74dc1de6ce4eeb34ffd76f8c6ac96c0f0f254f83ddb7ae55"), looks := true }, kinds := [], alts := [], laidByText := true, laidKinds := [.data, .handle, .pinned], laidTests := true, laidLooks := .later }
def MeshSettlesUptoCardSaid : Prop := Claim7.holds Tryz.pinned (.plain (OpenSpec.upto meshSettlesSpec)) meshSettlesUptoCard

/-- THE SECOND FORM's CARD OF 'groynelaw24.MeshAnswers'. -/
def meshAnswersUptoCard : Claim7 := { stood := { row := meshAnswersUptoRow, standIns := [], harness := (true, "1604842e972a5d2c74dc1de6ce4eeb34ffd76f8c6ac96c0f0f254f83ddb7ae55"), looks := true }, kinds := [], alts := [], laidByText := true, laidKinds := [.data, .handle, .pinned], laidTests := true, laidLooks := .later }
def MeshAnswersUptoCardSaid : Prop := Claim7.holds Tryz.pinned (.plain (OpenSpec.upto meshAnswersSpec)) meshAnswersUptoCard
end Rows
end Go.Proofs.YtegplpagkajolaaGreatDoor
