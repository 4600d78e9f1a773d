/-
  DERIVED. GIVEN WITH THE SEED: THE CARDS: each row of YtnmocaniljacpaaGreatDoorRows.lean that lists a variable, with what it lists TIED to the program's text (the seventh form; the later family's looks); each row that meets fmt, with fmt's text TOLD by the authors' own Lean function (tested against real Go, not proved from fmt's source: count such statements apart). THE CARD IS WHAT COUNTS. Prove the row's statement (the work); the ties are given (YtnmocaniljacpaaGreatDoorTie.lean); close each card by the builder's one call (the guide's Derived/Test/ToyasCard.lean, 'card_holds'). Laid BY PROGRAM, IN A SANDBOX (cutbox-door.mjs). By AI agents, Wed Nov 11 2026. No macro, syntax, notation, axiom, sorry.
-/
import Derived.Test.YtnmocaniljacpaaGreatDoorRows
import GoSem.ClaimSeven
namespace Go.Proofs.YtnmocaniljacpaaGreatDoor
namespace Rows

/-- THE TIED CARD OF 'groynelaw14.ViewBack'. -/
def viewBackCard : Claim7 := { stood := { row := viewBackRow, standIns := [], harness := (true, "39f09ed73c21a57f48101aefbd881dc5258c1400a46c8e9e049513589b24aa86"), looks := true }, kinds := [], alts := [], laidByText := true, laidKinds := [.data, .pinned], laidTests := true, laidLooks := .later }
def ViewBackCardSaid : Prop := Claim7.holds Tryz.pinned (.plain (OpenSpec.ofChange viewBackSpec)) viewBackCard

/-- THE TIED CARD OF 'groynelaw09.PolicyPlays'. -/
def policyPlaysCard : Claim7 := { stood := { row := policyPlaysRow, standIns := [], harness := (true, "39f09ed73c21a57f48101aefbd881dc5258c1400a46c8e9e049513589b24aa86"), looks := true }, kinds := [], alts := [], laidByText := true, laidKinds := [.data, .handle, .pinned], laidTests := true, laidLooks := .later }
def PolicyPlaysCardSaid : Prop := Claim7.holds Tryz.pinned (.plain (OpenSpec.ofChange policyPlaysSpec)) policyPlaysCard

/-- THE TIED CARD OF 'groynelaw09.PolicyBack'. -/
def policyBackCard : Claim7 := { stood := { row := policyBackRow, standIns := [], harness := (true, "39f09ed73c21a57f48101aefbd881dc5258c1400a46c8e9e049513589b24aa86"), looks := true }, kinds := [], alts := [], laidByText := true, laidKinds := [.data, .handle, .pinned], laidTests := true, laidLooks := .later }
def PolicyBackCardSaid : Prop := Claim7.holds Tryz.pinned (.plain (OpenSpec.ofChange policyBackSpec)) policyBackCard

/-- THE TIED CARD OF 'groynelaw09.PolicyAlone'. -/
def policyAloneCard : Claim7 := { stood := { row := policyAloneRow, standIns := [], harness := (true, "39f09ed73c21a57f48101aefbd881dc5258c1400a46c8e9e049513589b24aa86"), looks := true }, kinds := [], alts := [], laidByText := true, laidKinds := [.data, .handle, .pinned], laidTests := true, laidLooks := .later }
def PolicyAloneCardSaid : Prop := Claim7.holds Tryz.pinned (.plain (OpenSpec.ofChange policyAloneSpec)) policyAloneCard

/-- THE TIED CARD OF 'groynelaw09.PolicyVersions'. -/
def policyVersionsCard : Claim7 := { stood := { row := policyVersionsRow, standIns := [], harness := (true, "39f09ed73c21a57f48101aefbd881dc5258c1400a46c8e9e049513589b24aa86"), looks := true }, kinds := [], alts := [], laidByText := true, laidKinds := [.data, .handle, .pinned], laidTests := true, laidLooks := .later }
def PolicyVersionsCardSaid : Prop := Claim7.holds Tryz.pinned (.plain (OpenSpec.ofChange policyVersionsSpec)) policyVersionsCard

/-- THE TIED CARD OF 'groynelaw09.PolicyOut'. -/
def policyOutCard : Claim7 := { stood := { row := policyOutRow, standIns := [], harness := (true, "39f09ed73c21a57f48101aefbd881dc5258c1400a46c8e9e049513589b24aa86"), looks := true }, kinds := [], alts := [], laidByText := true, laidKinds := [.data, .handle, .pinned], laidTests := true, laidLooks := .later }
def PolicyOutCardSaid : Prop := Claim7.holds Tryz.pinned (.plain (OpenSpec.ofChange policyOutSpec)) policyOutCard

/-- THE SECOND FORM's CARD OF 'groynelaw14.ViewBack'. -/
def viewBackUptoCard : Claim7 := { stood := { row := viewBackUptoRow, standIns := [], harness := (true, "39f09ed73c21a57f48101aefbd881dc5258c1400a46c8e9e049513589b24aa86"), looks := true }, kinds := [], alts := [], laidByText := true, laidKinds := [.data, .pinned], laidTests := true, laidLooks := .later }
def ViewBackUptoCardSaid : Prop := Claim7.holds Tryz.pinned (.plain (OpenSpec.upto viewBackSpec)) viewBackUptoCard

/-- THE SECOND FORM's CARD OF 'groynelaw09.PolicyPlays'. -/
def policyPlaysUptoCard : Claim7 := { stood := { row := policyPlaysUptoRow, standIns := [], harness := (true, "39f09ed73c21a57f48101aefbd881dc5258c1400a46c8e9e049513589b24aa86"), looks := true }, kinds := [], alts := [], laidByText := true, laidKinds := [.data, .handle, .pinned], laidTests := true, laidLooks := .later }
def PolicyPlaysUptoCardSaid : Prop := Claim7.holds Tryz.pinned (.plain (OpenSpec.upto policyPlaysSpec)) policyPlaysUptoCard

/-- THE SECOND FORM's CARD OF 'groynelaw09.PolicyBack'. -/
def policyBackUptoCard : Claim7 := { stood := { row := policyBackUptoRow, standIns := [], harness := (true, "39f09ed73c21a57f48101aefbd881dc5258c1400a46c8e9e049513589b24aa86"), looks := true }, kinds := [], alts := [], laidByText := true, laidKinds := [.data, .handle, .pinned], laidTests := true, laidLooks := .later }
def PolicyBackUptoCardSaid : Prop := Claim7.holds Tryz.pinned (.plain (OpenSpec.upto policyBackSpec)) policyBackUptoCard

/-- THE SECOND FORM's CARD OF 'groynelaw09.PolicyAlone'. -/
def policyAloneUptoCard : Claim7 := { stood := { row := policyAloneUptoRow, standIns := [], harness := (true, "39f09ed73c21a57f48101aefbd881dc5258c1400a46c8e9e049513589b24aa86"), looks := true }, kinds := [], alts := [], laidByText := true, laidKinds := [.data, .handle, .pinned], laidTests := true, laidLooks := .later }
def PolicyAloneUptoCardSaid : Prop := Claim7.holds Tryz.pinned (.plain (OpenSpec.upto policyAloneSpec)) policyAloneUptoCard

/-- THE SECOND FORM's CARD OF 'groynelaw09.PolicyVersions'. -/
def policyVersionsUptoCard : Claim7 := { stood := { row := policyVersionsUptoRow, standIns := [], harness := (true, "39f09ed73c21a57f48101aefbd881dc5258c1400a46c8e9e049513589b24aa86"), looks := true }, kinds := [], alts := [], laidByText := true, laidKinds := [.data, .handle, .pinned], laidTests := true, laidLooks := .later }
def PolicyVersionsUptoCardSaid : Prop := Claim7.holds Tryz.pinned (.plain (OpenSpec.upto policyVersionsSpec)) policyVersionsUptoCard

/-- THE SECOND FORM's CARD OF 'groynelaw09.PolicyOut'. -/
def policyOutUptoCard : Claim7 := { stood := { row := policyOutUptoRow, standIns := [], harness := (true, "39f09ed73c21a57f48101aefbd881dc5258c1400a46c8e9e049513589b24aa86"), looks := true }, kinds := [], alts := [], laidByText := true, laidKinds := [.data, .handle, .pinned], laidTests := true, laidLooks := .later }
def PolicyOutUptoCardSaid : Prop := Claim7.holds Tryz.pinned (.plain (OpenSpec.upto policyOutSpec)) policyOutUptoCard
end Rows
end Go.Proofs.YtnmocaniljacpaaGreatDoor
