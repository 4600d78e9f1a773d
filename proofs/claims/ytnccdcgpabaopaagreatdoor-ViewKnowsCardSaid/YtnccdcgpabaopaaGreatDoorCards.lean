/-
  DERIVED. GIVEN WITH THE SEED: THE CARDS: each row of YtnccdcgpabaopaaGreatDoorRows.lean that lists a variable, with what it lists TIED to the program's text (the seventh form; the later family's looks); each row that meets fmt, with fmt's text TOLD by the authors' own Lean function (tested against real Go, not proved from fmt's source: count such statements apart). THE CARD IS WHAT COUNTS. Prove the row's statement (the work); the ties are given (YtnccdcgpabaopaaGreatDoorTie.lean); close each card by the builder's one call (the guide's Derived/Test/ToyasCard.lean, 'card_holds'). Laid BY PROGRAM, IN A SANDBOX (cutbox-door.mjs). By AI agents, Wed Nov 11 2026. No macro, syntax, notation, axiom, sorry.
-/
import Derived.Test.YtnccdcgpabaopaaGreatDoorRows
import GoSem.ClaimSeven
namespace Go.Proofs.YtnccdcgpabaopaaGreatDoor
namespace Rows

/-- THE TIED CARD OF 'groynelaw14.ViewIs'. -/
def viewIsCard : Claim7 := { stood := { row := viewIsRow, standIns := [], harness := (true, "bf403ddc2deb7e9e024a1aa79c22e9a0a8362b662e45a3508f86a5bf7ac3edaa"), looks := false }, kinds := [], alts := [], laidByText := true, laidKinds := [.data, .pinned], laidTests := true, laidLooks := .later }
def ViewIsCardSaid : Prop := Claim7.holds Tryz.pinned (.plain (OpenSpec.ofChange viewIsSpec)) viewIsCard

/-- THE TIED CARD OF 'groynelaw14.ViewAnswers'. -/
def viewAnswersCard : Claim7 := { stood := { row := viewAnswersRow, standIns := [], harness := (true, "bf403ddc2deb7e9e024a1aa79c22e9a0a8362b662e45a3508f86a5bf7ac3edaa"), looks := false }, kinds := [], alts := [], laidByText := true, laidKinds := [.data, .pinned], laidTests := true, laidLooks := .later }
def ViewAnswersCardSaid : Prop := Claim7.holds Tryz.pinned (.plain (OpenSpec.ofChange viewAnswersSpec)) viewAnswersCard

/-- THE TIED CARD OF 'groynelaw14.ViewOnce'. -/
def viewOnceCard : Claim7 := { stood := { row := viewOnceRow, standIns := [], harness := (true, "bf403ddc2deb7e9e024a1aa79c22e9a0a8362b662e45a3508f86a5bf7ac3edaa"), looks := false }, kinds := [], alts := [], laidByText := true, laidKinds := [.data, .pinned], laidTests := true, laidLooks := .later }
def ViewOnceCardSaid : Prop := Claim7.holds Tryz.pinned (.plain (OpenSpec.ofChange viewOnceSpec)) viewOnceCard

/-- THE TIED CARD OF 'groynelaw14.ViewTurns'. -/
def viewTurnsCard : Claim7 := { stood := { row := viewTurnsRow, standIns := [], harness := (true, "bf403ddc2deb7e9e024a1aa79c22e9a0a8362b662e45a3508f86a5bf7ac3edaa"), looks := false }, kinds := [], alts := [], laidByText := true, laidKinds := [.data, .pinned], laidTests := true, laidLooks := .later }
def ViewTurnsCardSaid : Prop := Claim7.holds Tryz.pinned (.plain (OpenSpec.ofChange viewTurnsSpec)) viewTurnsCard

/-- THE TIED CARD OF 'groynelaw14.ViewKnows'. -/
def viewKnowsCard : Claim7 := { stood := { row := viewKnowsRow, standIns := [], harness := (true, "bf403ddc2deb7e9e024a1aa79c22e9a0a8362b662e45a3508f86a5bf7ac3edaa"), looks := false }, kinds := [], alts := [], laidByText := true, laidKinds := [.data, .pinned], laidTests := true, laidLooks := .later }
def ViewKnowsCardSaid : Prop := Claim7.holds Tryz.pinned (.plain (OpenSpec.ofChange viewKnowsSpec)) viewKnowsCard

/-- THE TIED CARD OF 'groynelaw14.ViewFree'. -/
def viewFreeCard : Claim7 := { stood := { row := viewFreeRow, standIns := [], harness := (true, "bf403ddc2deb7e9e024a1aa79c22e9a0a8362b662e45a3508f86a5bf7ac3edaa"), looks := false }, kinds := [], alts := [], laidByText := true, laidKinds := [.data, .pinned], laidTests := true, laidLooks := .later }
def ViewFreeCardSaid : Prop := Claim7.holds Tryz.pinned (.plain (OpenSpec.ofChange viewFreeSpec)) viewFreeCard

/-- THE TIED CARD OF 'groynelaw14.ViewBack'. -/
def viewBackCard : Claim7 := { stood := { row := viewBackRow, standIns := [], harness := (true, "bf403ddc2deb7e9e024a1aa79c22e9a0a8362b662e45a3508f86a5bf7ac3edaa"), looks := false }, kinds := [], alts := [], laidByText := true, laidKinds := [.data, .pinned], laidTests := true, laidLooks := .later }
def ViewBackCardSaid : Prop := Claim7.holds Tryz.pinned (.plain (OpenSpec.ofChange viewBackSpec)) viewBackCard

/-- THE SECOND FORM's CARD OF 'groynelaw14.ViewIs'. -/
def viewIsUptoCard : Claim7 := { stood := { row := viewIsUptoRow, standIns := [], harness := (true, "bf403ddc2deb7e9e024a1aa79c22e9a0a8362b662e45a3508f86a5bf7ac3edaa"), looks := false }, kinds := [], alts := [], laidByText := true, laidKinds := [.data, .pinned], laidTests := true, laidLooks := .later }
def ViewIsUptoCardSaid : Prop := Claim7.holds Tryz.pinned (.plain (OpenSpec.upto viewIsSpec)) viewIsUptoCard

/-- THE SECOND FORM's CARD OF 'groynelaw14.ViewAnswers'. -/
def viewAnswersUptoCard : Claim7 := { stood := { row := viewAnswersUptoRow, standIns := [], harness := (true, "bf403ddc2deb7e9e024a1aa79c22e9a0a8362b662e45a3508f86a5bf7ac3edaa"), looks := false }, kinds := [], alts := [], laidByText := true, laidKinds := [.data, .pinned], laidTests := true, laidLooks := .later }
def ViewAnswersUptoCardSaid : Prop := Claim7.holds Tryz.pinned (.plain (OpenSpec.upto viewAnswersSpec)) viewAnswersUptoCard

/-- THE SECOND FORM's CARD OF 'groynelaw14.ViewOnce'. -/
def viewOnceUptoCard : Claim7 := { stood := { row := viewOnceUptoRow, standIns := [], harness := (true, "bf403ddc2deb7e9e024a1aa79c22e9a0a8362b662e45a3508f86a5bf7ac3edaa"), looks := false }, kinds := [], alts := [], laidByText := true, laidKinds := [.data, .pinned], laidTests := true, laidLooks := .later }
def ViewOnceUptoCardSaid : Prop := Claim7.holds Tryz.pinned (.plain (OpenSpec.upto viewOnceSpec)) viewOnceUptoCard

/-- THE SECOND FORM's CARD OF 'groynelaw14.ViewTurns'. -/
def viewTurnsUptoCard : Claim7 := { stood := { row := viewTurnsUptoRow, standIns := [], harness := (true, "bf403ddc2deb7e9e024a1aa79c22e9a0a8362b662e45a3508f86a5bf7ac3edaa"), looks := false }, kinds := [], alts := [], laidByText := true, laidKinds := [.data, .pinned], laidTests := true, laidLooks := .later }
def ViewTurnsUptoCardSaid : Prop := Claim7.holds Tryz.pinned (.plain (OpenSpec.upto viewTurnsSpec)) viewTurnsUptoCard

/-- THE SECOND FORM's CARD OF 'groynelaw14.ViewKnows'. -/
def viewKnowsUptoCard : Claim7 := { stood := { row := viewKnowsUptoRow, standIns := [], harness := (true, "bf403ddc2deb7e9e024a1aa79c22e9a0a8362b662e45a3508f86a5bf7ac3edaa"), looks := false }, kinds := [], alts := [], laidByText := true, laidKinds := [.data, .pinned], laidTests := true, laidLooks := .later }
def ViewKnowsUptoCardSaid : Prop := Claim7.holds Tryz.pinned (.plain (OpenSpec.upto viewKnowsSpec)) viewKnowsUptoCard

/-- THE SECOND FORM's CARD OF 'groynelaw14.ViewFree'. -/
def viewFreeUptoCard : Claim7 := { stood := { row := viewFreeUptoRow, standIns := [], harness := (true, "bf403ddc2deb7e9e024a1aa79c22e9a0a8362b662e45a3508f86a5bf7ac3edaa"), looks := false }, kinds := [], alts := [], laidByText := true, laidKinds := [.data, .pinned], laidTests := true, laidLooks := .later }
def ViewFreeUptoCardSaid : Prop := Claim7.holds Tryz.pinned (.plain (OpenSpec.upto viewFreeSpec)) viewFreeUptoCard

/-- THE SECOND FORM's CARD OF 'groynelaw14.ViewBack'. -/
def viewBackUptoCard : Claim7 := { stood := { row := viewBackUptoRow, standIns := [], harness := (true, "bf403ddc2deb7e9e024a1aa79c22e9a0a8362b662e45a3508f86a5bf7ac3edaa"), looks := false }, kinds := [], alts := [], laidByText := true, laidKinds := [.data, .pinned], laidTests := true, laidLooks := .later }
def ViewBackUptoCardSaid : Prop := Claim7.holds Tryz.pinned (.plain (OpenSpec.upto viewBackSpec)) viewBackUptoCard
end Rows
end Go.Proofs.YtnccdcgpabaopaaGreatDoor
