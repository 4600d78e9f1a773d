/-
  DERIVED. GIVEN WITH THE SEED: THE CARDS: each row of YtelooagbkmpdpaaGreatDoorRows.lean that lists a variable, with what it lists TIED to the program's text (the seventh form; the later family's looks); each row that meets fmt, with fmt's text TOLD by the authors' own Lean function (tested against real Go, not proved from fmt's source: count such statements apart). THE CARD IS WHAT COUNTS. Prove the row's statement (the work); the ties are given (YtelooagbkmpdpaaGreatDoorTie.lean); close each card by the builder's one call (the guide's Derived/Test/ToyasCard.lean, 'card_holds'). Laid BY PROGRAM, IN A SANDBOX (cutbox-door.mjs). By AI agents, Wed Nov 11 2026. No macro, syntax, notation, axiom, sorry.
-/
import Derived.Test.YtelooagbkmpdpaaGreatDoorRows
import GoSem.ClaimSeven
namespace Go.Proofs.YtelooagbkmpdpaaGreatDoor
namespace Rows

/-- THE TIED CARD OF 'groynelaw20.ServerIs'. -/
def serverIsCard : Claim7 := { stood := { row := serverIsRow, standIns := [], harness := (true, "280d05ba08931249563960736ecb039ed90b295c6760b92d836f1003414018b0"), looks := true }, kinds := [], alts := [], laidByText := true, laidKinds := [.data, .handle, .pinned], laidTests := true, laidLooks := .later }
def ServerIsCardSaid : Prop := Claim7.holds Tryz.pinned (.plain (OpenSpec.ofChange serverIsSpec)) serverIsCard

/-- THE SECOND FORM's CARD OF 'groynelaw20.ServerIs'. -/
def serverIsUptoCard : Claim7 := { stood := { row := serverIsUptoRow, standIns := [], harness := (true, "280d05ba08931249563960736ecb039ed90b295c6760b92d836f1003414018b0"), looks := true }, kinds := [], alts := [], laidByText := true, laidKinds := [.data, .handle, .pinned], laidTests := true, laidLooks := .later }
def ServerIsUptoCardSaid : Prop := Claim7.holds Tryz.pinned (.plain (OpenSpec.upto serverIsSpec)) serverIsUptoCard
end Rows
end Go.Proofs.YtelooagbkmpdpaaGreatDoor
