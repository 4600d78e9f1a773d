/-
  DERIVED. GIVEN WITH THE SEED: THE CARDS: each row of YtbmnaehodmgibaaGreatDoorRows.lean that lists a variable, with what it lists TIED to the program's text (the seventh form; the later family's looks); each row that meets fmt, with fmt's text TOLD by the authors' own Lean function (tested against real Go, not proved from fmt's source: count such statements apart). THE CARD IS WHAT COUNTS. Prove the row's statement (the work); the ties are given (YtbmnaehodmgibaaGreatDoorTie.lean); close each card by the builder's one call (the guide's Derived/Test/ToyasCard.lean, 'card_holds'). Laid BY PROGRAM, IN A SANDBOX (cutbox-door.mjs). By AI agents, Wed Nov 11 2026. No macro, syntax, notation, axiom, sorry.
-/
import Derived.Test.YtbmnaehodmgibaaGreatDoorRows
import GoSem.ClaimSeven
namespace Go.Proofs.YtbmnaehodmgibaaGreatDoor
namespace Rows

/-- THE TIED CARD OF 'groynelaw20.ServerStale'. -/
def serverStaleCard : Claim7 := { stood := { row := serverStaleRow, standIns := [], harness := (true, "95631658c80ea8f1a0a86a72ecd4447b8563d5df46c476c7354fed95c718ced3"), looks := true }, kinds := [], alts := [], laidByText := true, laidKinds := [.data, .handle, .pinned], laidTests := true, laidLooks := .later }
def ServerStaleCardSaid : Prop := Claim7.holds Tryz.pinned (.plain (OpenSpec.ofChange serverStaleSpec)) serverStaleCard

/-- THE TIED CARD OF 'groynelaw20.ServerHello'. -/
def serverHelloCard : Claim7 := { stood := { row := serverHelloRow, standIns := [], harness := (true, "95631658c80ea8f1a0a86a72ecd4447b8563d5df46c476c7354fed95c718ced3"), looks := true }, kinds := [], alts := [], laidByText := true, laidKinds := [.data, .handle, .pinned], laidTests := true, laidLooks := .later }
def ServerHelloCardSaid : Prop := Claim7.holds Tryz.pinned (.plain (OpenSpec.ofChange serverHelloSpec)) serverHelloCard

/-- THE TIED CARD OF 'groynelaw20.ServerIs'. -/
def serverIsCard : Claim7 := { stood := { row := serverIsRow, standIns := [], harness := (true, "95631658c80ea8f1a0a86a72ecd4447b8563d5df46c476c7354fed95c718ced3"), looks := true }, kinds := [], alts := [], laidByText := true, laidKinds := [.data, .handle, .pinned], laidTests := true, laidLooks := .later }
def ServerIsCardSaid : Prop := Claim7.holds Tryz.pinned (.plain (OpenSpec.ofChange serverIsSpec)) serverIsCard

/-- THE TIED CARD OF 'groynelaw20.ServerSends'. -/
def serverSendsCard : Claim7 := { stood := { row := serverSendsRow, standIns := [], harness := (true, "95631658c80ea8f1a0a86a72ecd4447b8563d5df46c476c7354fed95c718ced3"), looks := true }, kinds := [], alts := [], laidByText := true, laidKinds := [.data, .handle, .pinned], laidTests := true, laidLooks := .later }
def ServerSendsCardSaid : Prop := Claim7.holds Tryz.pinned (.plain (OpenSpec.ofChange serverSendsSpec)) serverSendsCard

/-- THE TIED CARD OF 'groynelaw20.ServerAgain'. -/
def serverAgainCard : Claim7 := { stood := { row := serverAgainRow, standIns := [], harness := (true, "95631658c80ea8f1a0a86a72ecd4447b8563d5df46c476c7354fed95c718ced3"), looks := true }, kinds := [], alts := [], laidByText := true, laidKinds := [.data, .handle, .pinned], laidTests := true, laidLooks := .later }
def ServerAgainCardSaid : Prop := Claim7.holds Tryz.pinned (.plain (OpenSpec.ofChange serverAgainSpec)) serverAgainCard

/-- THE TIED CARD OF 'groynelaw20.ServerMeets'. -/
def serverMeetsCard : Claim7 := { stood := { row := serverMeetsRow, standIns := [], harness := (true, "95631658c80ea8f1a0a86a72ecd4447b8563d5df46c476c7354fed95c718ced3"), looks := true }, kinds := [], alts := [], laidByText := true, laidKinds := [.data, .handle, .pinned], laidTests := true, laidLooks := .later }
def ServerMeetsCardSaid : Prop := Claim7.holds Tryz.pinned (.plain (OpenSpec.ofChange serverMeetsSpec)) serverMeetsCard

/-- THE SECOND FORM's CARD OF 'groynelaw20.ServerStale'. -/
def serverStaleUptoCard : Claim7 := { stood := { row := serverStaleUptoRow, standIns := [], harness := (true, "95631658c80ea8f1a0a86a72ecd4447b8563d5df46c476c7354fed95c718ced3"), looks := true }, kinds := [], alts := [], laidByText := true, laidKinds := [.data, .handle, .pinned], laidTests := true, laidLooks := .later }
def ServerStaleUptoCardSaid : Prop := Claim7.holds Tryz.pinned (.plain (OpenSpec.upto serverStaleSpec)) serverStaleUptoCard

/-- THE SECOND FORM's CARD OF 'groynelaw20.ServerHello'. -/
def serverHelloUptoCard : Claim7 := { stood := { row := serverHelloUptoRow, standIns := [], harness := (true, "95631658c80ea8f1a0a86a72ecd4447b8563d5df46c476c7354fed95c718ced3"), looks := true }, kinds := [], alts := [], laidByText := true, laidKinds := [.data, .handle, .pinned], laidTests := true, laidLooks := .later }
def ServerHelloUptoCardSaid : Prop := Claim7.holds Tryz.pinned (.plain (OpenSpec.upto serverHelloSpec)) serverHelloUptoCard

/-- THE SECOND FORM's CARD OF 'groynelaw20.ServerIs'. -/
def serverIsUptoCard : Claim7 := { stood := { row := serverIsUptoRow, standIns := [], harness := (true, "95631658c80ea8f1a0a86a72ecd4447b8563d5df46c476c7354fed95c718ced3"), looks := true }, kinds := [], alts := [], laidByText := true, laidKinds := [.data, .handle, .pinned], laidTests := true, laidLooks := .later }
def ServerIsUptoCardSaid : Prop := Claim7.holds Tryz.pinned (.plain (OpenSpec.upto serverIsSpec)) serverIsUptoCard

/-- THE SECOND FORM's CARD OF 'groynelaw20.ServerSends'. -/
def serverSendsUptoCard : Claim7 := { stood := { row := serverSendsUptoRow, standIns := [], harness := (true, "95631658c80ea8f1a0a86a72ecd4447b8563d5df46c476c7354fed95c718ced3"), looks := true }, kinds := [], alts := [], laidByText := true, laidKinds := [.data, .handle, .pinned], laidTests := true, laidLooks := .later }
def ServerSendsUptoCardSaid : Prop := Claim7.holds Tryz.pinned (.plain (OpenSpec.upto serverSendsSpec)) serverSendsUptoCard

/-- THE SECOND FORM's CARD OF 'groynelaw20.ServerAgain'. -/
def serverAgainUptoCard : Claim7 := { stood := { row := serverAgainUptoRow, standIns := [], harness := (true, "95631658c80ea8f1a0a86a72ecd4447b8563d5df46c476c7354fed95c718ced3"), looks := true }, kinds := [], alts := [], laidByText := true, laidKinds := [.data, .handle, .pinned], laidTests := true, laidLooks := .later }
def ServerAgainUptoCardSaid : Prop := Claim7.holds Tryz.pinned (.plain (OpenSpec.upto serverAgainSpec)) serverAgainUptoCard

/-- THE SECOND FORM's CARD OF 'groynelaw20.ServerMeets'. -/
def serverMeetsUptoCard : Claim7 := { stood := { row := serverMeetsUptoRow, standIns := [], harness := (true, "95631658c80ea8f1a0a86a72ecd4447b8563d5df46c476c7354fed95c718ced3"), looks := true }, kinds := [], alts := [], laidByText := true, laidKinds := [.data, .handle, .pinned], laidTests := true, laidLooks := .later }
def ServerMeetsUptoCardSaid : Prop := Claim7.holds Tryz.pinned (.plain (OpenSpec.upto serverMeetsSpec)) serverMeetsUptoCard
end Rows
end Go.Proofs.YtbmnaehodmgibaaGreatDoor
