/-
  NARROWER THAN 'FOR EVERY INPUT', by the rows' own cells (each row's printed sentence says how): ViewIs: laid · ViewAnswers: laid · ViewOnce: laid · ViewTurns: laid · ViewKnows: laid · ViewFree: laid · ViewBack: laid.
  DERIVED. THE GIVEN ROWS OF THIS SEAT. 7 by the template 'for every input the law returns true; each argument reads behind the call as it read before'; 0 by the template 'total and deterministic' (their statements: YtnccdcgpabaopaaGreatDoorTotals.lean).
  GIVEN WITH THE SEED: the statements are not yours to turn. If you find one false, say at which input.
  Laid BY PROGRAM, IN A SANDBOX (cutbox-rows.mjs): the forced cells as the released guide's own fill.sh prints them over the translation 1015ffb6d1e09d2a… (all of the seat's roots in one cut). By AI agents, Wed Nov 11 2026. No macro, syntax, notation, axiom, sorry.
-/
import Derived.Test.YtnccdcgpabaopaaGreatDoorChecked
import GoSem.PinnedTables
import GoSem.Claim
import GoSem.ClaimJoined
import GoSem.ClaimMapViews
import Derived.JoinedTies
import Derived.KernelRfl
namespace Go.Proofs.YtnccdcgpabaopaaGreatDoor
/- THE CELL 'sum', in the pinned program and in every row, IS THE sha256 OF THE DUMP (.gsa) THAT YtnccdcgpabaopaaGreatDoorProg.lean LOADS. Nothing in Lean hashes anything: it is a label: what it is worth is what the hold of that sum in a sandbox is worth. -/
noncomputable def Tryz.pinned : Pinned := { name := "ytnccdcgpabaopaagreatdoor", sum := "1015ffb6d1e09d2a95291a484b628f638ea7ea6823a0c7f9a25225f044c8cb09", checked := Tryz.checked }
namespace Rows
def none {H : Type} : Left H := { results := [], args := [] }

/- WHAT THE LISTED PACKAGE-LEVEL VARIABLES READ AS WHEN THE CALL BEGINS. Each datum BY PROGRAM (the guide's laid-datum.mjs) off the statement by which the dump's own 'gosem.cut.vars' lays the variable. In a bare row this is a premise. The card (YtnccdcgpabaopaaGreatDoorCards.lean) ties it to the program's text. -/
def laid_unicode_utf8_acceptRanges {H : Type} : DataW H := .agg [.agg [.lit (.int .u8 128), .lit (.int .u8 191)], .agg [.lit (.int .u8 160), .lit (.int .u8 191)], .agg [.lit (.int .u8 128), .lit (.int .u8 159)], .agg [.lit (.int .u8 144), .lit (.int .u8 191)], .agg [.lit (.int .u8 128), .lit (.int .u8 143)], .agg [.lit (.int .u8 0), .lit (.int .u8 0)], .agg [.lit (.int .u8 0), .lit (.int .u8 0)], .agg [.lit (.int .u8 0), .lit (.int .u8 0)], .agg [.lit (.int .u8 0), .lit (.int .u8 0)], .agg [.lit (.int .u8 0), .lit (.int .u8 0)], .agg [.lit (.int .u8 0), .lit (.int .u8 0)], .agg [.lit (.int .u8 0), .lit (.int .u8 0)], .agg [.lit (.int .u8 0), .lit (.int .u8 0)], .agg [.lit (.int .u8 0), .lit (.int .u8 0)], .agg [.lit (.int .u8 0), .lit (.int .u8 0)], .agg [.lit (.int .u8 0), .lit (.int .u8 0)]]
/-- One of Go's own tables, pinned by name: the form's constant. -/
def laid_unicode_utf8_first : DataW Unit := Go.Pinned.utf8First

/-- 'groynelaw14.ViewIs': WHATEVER THE INPUT: true; the input reads as it did. -/
def viewIsSpec : ChangeSpec := { name := "viewIs", fn := fun _ => fun
  | [d1, d2, d3, d4, d5] => { results := [.lit (.bool true)], args := [d1, d2, d3, d4, d5] }
  | _ => none }
def viewIsRow : OpenClaim := { program := "ytnccdcgpabaopaagreatdoor", sum := "1015ffb6d1e09d2a95291a484b628f638ea7ea6823a0c7f9a25225f044c8cb09", func := "groyne/groynelaw14.ViewIs", spec := "viewIs", inPlace := ["internal/bytealg.abigen_runtime_cmpstring", "internal/bytealg.IndexByteString", "internal/bytealg.IndexString"], unfollowed := true, recurses := true, named := ["unicode/utf8.first", "unicode/utf8.acceptRanges", "internal/bytealg.MaxLen"], plainKeys := false, apart := false, laid := [("unicode/utf8.acceptRanges", laid_unicode_utf8_acceptRanges), ("unicode/utf8.first", laid_unicode_utf8_first)] }
def ViewIsSaid : Prop := viewIsRow.holds Tryz.pinned (OpenSpec.ofChange viewIsSpec)

/-- ITS FALSE NEIGHBOUR: 'it returns false'. Refute it at one input. -/
def viewIsWrong : ChangeSpec := { name := "viewIs", fn := fun _ => fun
  | [d1, d2, d3, d4, d5] => { results := [.lit (.bool false)], args := [d1, d2, d3, d4, d5] }
  | _ => none }
def ViewIsWrongFalsely : Prop := viewIsRow.holds Tryz.pinned (OpenSpec.ofChange viewIsWrong)

/-- 'groynelaw14.ViewAnswers': WHATEVER THE INPUT: true; the input reads as it did. -/
def viewAnswersSpec : ChangeSpec := { name := "viewAnswers", fn := fun _ => fun
  | [d1, d2, d3] => { results := [.lit (.bool true)], args := [d1, d2, d3] }
  | _ => none }
def viewAnswersRow : OpenClaim := { program := "ytnccdcgpabaopaagreatdoor", sum := "1015ffb6d1e09d2a95291a484b628f638ea7ea6823a0c7f9a25225f044c8cb09", func := "groyne/groynelaw14.ViewAnswers", spec := "viewAnswers", inPlace := ["internal/bytealg.abigen_runtime_cmpstring", "internal/bytealg.IndexByteString", "internal/bytealg.IndexString"], unfollowed := true, recurses := true, named := ["unicode/utf8.first", "unicode/utf8.acceptRanges", "internal/bytealg.MaxLen"], plainKeys := false, apart := false, laid := [("unicode/utf8.acceptRanges", laid_unicode_utf8_acceptRanges), ("unicode/utf8.first", laid_unicode_utf8_first)] }
def ViewAnswersSaid : Prop := viewAnswersRow.holds Tryz.pinned (OpenSpec.ofChange viewAnswersSpec)

/-- ITS FALSE NEIGHBOUR: 'it returns false'. Refute it at one input. -/
def viewAnswersWrong : ChangeSpec := { name := "viewAnswers", fn := fun _ => fun
  | [d1, d2, d3] => { results := [.lit (.bool false)], args := [d1, d2, d3] }
  | _ => none }
def ViewAnswersWrongFalsely : Prop := viewAnswersRow.holds Tryz.pinned (OpenSpec.ofChange viewAnswersWrong)

/-- 'groynelaw14.ViewOnce': WHATEVER THE INPUT: true; the input reads as it did. -/
def viewOnceSpec : ChangeSpec := { name := "viewOnce", fn := fun _ => fun
  | [d1, d2, d3] => { results := [.lit (.bool true)], args := [d1, d2, d3] }
  | _ => none }
def viewOnceRow : OpenClaim := { program := "ytnccdcgpabaopaagreatdoor", sum := "1015ffb6d1e09d2a95291a484b628f638ea7ea6823a0c7f9a25225f044c8cb09", func := "groyne/groynelaw14.ViewOnce", spec := "viewOnce", inPlace := ["internal/bytealg.abigen_runtime_cmpstring", "internal/bytealg.IndexByteString", "internal/bytealg.IndexString"], unfollowed := true, recurses := true, named := ["unicode/utf8.first", "unicode/utf8.acceptRanges", "internal/bytealg.MaxLen"], plainKeys := false, apart := false, laid := [("unicode/utf8.acceptRanges", laid_unicode_utf8_acceptRanges), ("unicode/utf8.first", laid_unicode_utf8_first)] }
def ViewOnceSaid : Prop := viewOnceRow.holds Tryz.pinned (OpenSpec.ofChange viewOnceSpec)

/-- ITS FALSE NEIGHBOUR: 'it returns false'. Refute it at one input. -/
def viewOnceWrong : ChangeSpec := { name := "viewOnce", fn := fun _ => fun
  | [d1, d2, d3] => { results := [.lit (.bool false)], args := [d1, d2, d3] }
  | _ => none }
def ViewOnceWrongFalsely : Prop := viewOnceRow.holds Tryz.pinned (OpenSpec.ofChange viewOnceWrong)

/-- 'groynelaw14.ViewTurns': WHATEVER THE INPUT: true; the input reads as it did. -/
def viewTurnsSpec : ChangeSpec := { name := "viewTurns", fn := fun _ => fun
  | [d1, d2, d3, d4, d5] => { results := [.lit (.bool true)], args := [d1, d2, d3, d4, d5] }
  | _ => none }
def viewTurnsRow : OpenClaim := { program := "ytnccdcgpabaopaagreatdoor", sum := "1015ffb6d1e09d2a95291a484b628f638ea7ea6823a0c7f9a25225f044c8cb09", func := "groyne/groynelaw14.ViewTurns", spec := "viewTurns", inPlace := ["internal/bytealg.abigen_runtime_cmpstring", "internal/bytealg.IndexByteString", "internal/bytealg.IndexString"], unfollowed := true, recurses := true, named := ["unicode/utf8.first", "unicode/utf8.acceptRanges", "internal/bytealg.MaxLen"], plainKeys := false, apart := false, laid := [("unicode/utf8.acceptRanges", laid_unicode_utf8_acceptRanges), ("unicode/utf8.first", laid_unicode_utf8_first)] }
def ViewTurnsSaid : Prop := viewTurnsRow.holds Tryz.pinned (OpenSpec.ofChange viewTurnsSpec)

/-- ITS FALSE NEIGHBOUR: 'it returns false'. Refute it at one input. -/
def viewTurnsWrong : ChangeSpec := { name := "viewTurns", fn := fun _ => fun
  | [d1, d2, d3, d4, d5] => { results := [.lit (.bool false)], args := [d1, d2, d3, d4, d5] }
  | _ => none }
def ViewTurnsWrongFalsely : Prop := viewTurnsRow.holds Tryz.pinned (OpenSpec.ofChange viewTurnsWrong)

/-- 'groynelaw14.ViewKnows': WHATEVER THE INPUT: true; the input reads as it did. -/
def viewKnowsSpec : ChangeSpec := { name := "viewKnows", fn := fun _ => fun
  | [d1, d2, d3] => { results := [.lit (.bool true)], args := [d1, d2, d3] }
  | _ => none }
def viewKnowsRow : OpenClaim := { program := "ytnccdcgpabaopaagreatdoor", sum := "1015ffb6d1e09d2a95291a484b628f638ea7ea6823a0c7f9a25225f044c8cb09", func := "groyne/groynelaw14.ViewKnows", spec := "viewKnows", inPlace := ["internal/bytealg.abigen_runtime_cmpstring", "internal/bytealg.IndexByteString", "internal/bytealg.IndexString"], unfollowed := true, recurses := true, named := ["unicode/utf8.first", "unicode/utf8.acceptRanges", "internal/bytealg.MaxLen"], plainKeys := false, apart := false, laid := [("unicode/utf8.acceptRanges", laid_unicode_utf8_acceptRanges), ("unicode/utf8.first", laid_unicode_utf8_first)] }
def ViewKnowsSaid : Prop := viewKnowsRow.holds Tryz.pinned (OpenSpec.ofChange viewKnowsSpec)

/-- ITS FALSE NEIGHBOUR: 'it returns false'. Refute it at one input. -/
def viewKnowsWrong : ChangeSpec := { name := "viewKnows", fn := fun _ => fun
  | [d1, d2, d3] => { results := [.lit (.bool false)], args := [d1, d2, d3] }
  | _ => none }
def ViewKnowsWrongFalsely : Prop := viewKnowsRow.holds Tryz.pinned (OpenSpec.ofChange viewKnowsWrong)

/-- 'groynelaw14.ViewFree': WHATEVER THE INPUT: true; the input reads as it did. -/
def viewFreeSpec : ChangeSpec := { name := "viewFree", fn := fun _ => fun
  | [d1, d2] => { results := [.lit (.bool true)], args := [d1, d2] }
  | _ => none }
def viewFreeRow : OpenClaim := { program := "ytnccdcgpabaopaagreatdoor", sum := "1015ffb6d1e09d2a95291a484b628f638ea7ea6823a0c7f9a25225f044c8cb09", func := "groyne/groynelaw14.ViewFree", spec := "viewFree", inPlace := ["internal/bytealg.abigen_runtime_cmpstring", "internal/bytealg.IndexByteString", "internal/bytealg.IndexString"], unfollowed := true, recurses := true, named := ["unicode/utf8.first", "unicode/utf8.acceptRanges", "internal/bytealg.MaxLen"], plainKeys := false, apart := false, laid := [("unicode/utf8.acceptRanges", laid_unicode_utf8_acceptRanges), ("unicode/utf8.first", laid_unicode_utf8_first)] }
def ViewFreeSaid : Prop := viewFreeRow.holds Tryz.pinned (OpenSpec.ofChange viewFreeSpec)

/-- ITS FALSE NEIGHBOUR: 'it returns false'. Refute it at one input. -/
def viewFreeWrong : ChangeSpec := { name := "viewFree", fn := fun _ => fun
  | [d1, d2] => { results := [.lit (.bool false)], args := [d1, d2] }
  | _ => none }
def ViewFreeWrongFalsely : Prop := viewFreeRow.holds Tryz.pinned (OpenSpec.ofChange viewFreeWrong)

/-- 'groynelaw14.ViewBack': WHATEVER THE INPUT: true; the input reads as it did. -/
def viewBackSpec : ChangeSpec := { name := "viewBack", fn := fun _ => fun
  | [d1, d2, d3] => { results := [.lit (.bool true)], args := [d1, d2, d3] }
  | _ => none }
def viewBackRow : OpenClaim := { program := "ytnccdcgpabaopaagreatdoor", sum := "1015ffb6d1e09d2a95291a484b628f638ea7ea6823a0c7f9a25225f044c8cb09", func := "groyne/groynelaw14.ViewBack", spec := "viewBack", inPlace := ["internal/bytealg.abigen_runtime_cmpstring", "internal/bytealg.IndexByteString", "internal/bytealg.IndexString"], unfollowed := true, recurses := true, named := ["unicode/utf8.first", "unicode/utf8.acceptRanges", "internal/bytealg.MaxLen"], plainKeys := false, apart := false, laid := [("unicode/utf8.acceptRanges", laid_unicode_utf8_acceptRanges), ("unicode/utf8.first", laid_unicode_utf8_first)] }
def ViewBackSaid : Prop := viewBackRow.holds Tryz.pinned (OpenSpec.ofChange viewBackSpec)

/-- ITS FALSE NEIGHBOUR: 'it returns false'. Refute it at one input. -/
def viewBackWrong : ChangeSpec := { name := "viewBack", fn := fun _ => fun
  | [d1, d2, d3] => { results := [.lit (.bool false)], args := [d1, d2, d3] }
  | _ => none }
def ViewBackWrongFalsely : Prop := viewBackRow.holds Tryz.pinned (OpenSpec.ofChange viewBackWrong)

/- THE SECOND FORM. 'bulk': how many values and letters a reading holds, each counted each time it is reached (what is shared counts as often as it is met; a slice's spare places count too). A statement '..UptoSaid' is the law's where the arguments, and the package variables that the reading takes, are together of bulk at most 1048576: NARROWER than '..Said'. Prove '..Said' where nothing that the law and all that it calls make is longer than what came in: it says more and counts as full. Else prove '..UptoSaid'. A law counts once. -/
mutual
def uptoBulk {H : Type} : DataW H → Nat
  | .lit (.string bytes) => bytes.length + 1
  | .lit _ => 1
  | .nil => 1
  | .ptr d => uptoBulk d + 1
  | .slice elems spare => uptoBulkAll elems + uptoBulkAll spare + 1
  | .agg parts => uptoBulkAll parts + 1
  | .iface _ d => uptoBulk d + 1
  | .map entries => uptoBulkEntries entries + 1
  | .held _ => 1
def uptoBulkAll {H : Type} : List (DataW H) → Nat
  | [] => 0
  | d :: r => uptoBulk d + uptoBulkAll r
def uptoBulkEntries {H : Type} : List (Lit × DataW H) → Nat
  | [] => 0
  | x :: r => uptoBulkEntry x + uptoBulkEntries r
def uptoBulkEntry {H : Type} : Lit × DataW H → Nat
  | (.string bytes, d) => bytes.length + uptoBulk d + 1
  | (_, d) => uptoBulk d + 1
 end
def uptoSmall : (H : Type) → List (DataW H) → Bool := fun _ ds => decide (uptoBulkAll ds ≤ 1048576)
def OpenSpec.upto (s : _root_.Go.ChangeSpec) : _root_.Go.OpenSpec := { _root_.Go.OpenSpec.ofChange s with cond := some uptoSmall }

/-- 'groynelaw14.ViewIs', WHERE WHAT IT READS IS OF BULK AT MOST 1048576: true; the input reads as it did. -/
def viewIsUptoRow : OpenClaim := { program := "ytnccdcgpabaopaagreatdoor", sum := "1015ffb6d1e09d2a95291a484b628f638ea7ea6823a0c7f9a25225f044c8cb09", func := "groyne/groynelaw14.ViewIs", spec := "viewIs", inPlace := ["internal/bytealg.abigen_runtime_cmpstring", "internal/bytealg.IndexByteString", "internal/bytealg.IndexString"], unfollowed := true, recurses := true, named := ["unicode/utf8.first", "unicode/utf8.acceptRanges", "internal/bytealg.MaxLen"], plainKeys := false, apart := false, laid := [("unicode/utf8.acceptRanges", laid_unicode_utf8_acceptRanges), ("unicode/utf8.first", laid_unicode_utf8_first)], narrowed := true }
def ViewIsUptoSaid : Prop := viewIsUptoRow.holds Tryz.pinned (OpenSpec.upto viewIsSpec)

/-- 'groynelaw14.ViewAnswers', WHERE WHAT IT READS IS OF BULK AT MOST 1048576: true; the input reads as it did. -/
def viewAnswersUptoRow : OpenClaim := { program := "ytnccdcgpabaopaagreatdoor", sum := "1015ffb6d1e09d2a95291a484b628f638ea7ea6823a0c7f9a25225f044c8cb09", func := "groyne/groynelaw14.ViewAnswers", spec := "viewAnswers", inPlace := ["internal/bytealg.abigen_runtime_cmpstring", "internal/bytealg.IndexByteString", "internal/bytealg.IndexString"], unfollowed := true, recurses := true, named := ["unicode/utf8.first", "unicode/utf8.acceptRanges", "internal/bytealg.MaxLen"], plainKeys := false, apart := false, laid := [("unicode/utf8.acceptRanges", laid_unicode_utf8_acceptRanges), ("unicode/utf8.first", laid_unicode_utf8_first)], narrowed := true }
def ViewAnswersUptoSaid : Prop := viewAnswersUptoRow.holds Tryz.pinned (OpenSpec.upto viewAnswersSpec)

/-- 'groynelaw14.ViewOnce', WHERE WHAT IT READS IS OF BULK AT MOST 1048576: true; the input reads as it did. -/
def viewOnceUptoRow : OpenClaim := { program := "ytnccdcgpabaopaagreatdoor", sum := "1015ffb6d1e09d2a95291a484b628f638ea7ea6823a0c7f9a25225f044c8cb09", func := "groyne/groynelaw14.ViewOnce", spec := "viewOnce", inPlace := ["internal/bytealg.abigen_runtime_cmpstring", "internal/bytealg.IndexByteString", "internal/bytealg.IndexString"], unfollowed := true, recurses := true, named := ["unicode/utf8.first", "unicode/utf8.acceptRanges", "internal/bytealg.MaxLen"], plainKeys := false, apart := false, laid := [("unicode/utf8.acceptRanges", laid_unicode_utf8_acceptRanges), ("unicode/utf8.first", laid_unicode_utf8_first)], narrowed := true }
def ViewOnceUptoSaid : Prop := viewOnceUptoRow.holds Tryz.pinned (OpenSpec.upto viewOnceSpec)

/-- 'groynelaw14.ViewTurns', WHERE WHAT IT READS IS OF BULK AT MOST 1048576: true; the input reads as it did. -/
def viewTurnsUptoRow : OpenClaim := { program := "ytnccdcgpabaopaagreatdoor", sum := "1015ffb6d1e09d2a95291a484b628f638ea7ea6823a0c7f9a25225f044c8cb09", func := "groyne/groynelaw14.ViewTurns", spec := "viewTurns", inPlace := ["internal/bytealg.abigen_runtime_cmpstring", "internal/bytealg.IndexByteString", "internal/bytealg.IndexString"], unfollowed := true, recurses := true, named := ["unicode/utf8.first", "unicode/utf8.acceptRanges", "internal/bytealg.MaxLen"], plainKeys := false, apart := false, laid := [("unicode/utf8.acceptRanges", laid_unicode_utf8_acceptRanges), ("unicode/utf8.first", laid_unicode_utf8_first)], narrowed := true }
def ViewTurnsUptoSaid : Prop := viewTurnsUptoRow.holds Tryz.pinned (OpenSpec.upto viewTurnsSpec)

/-- 'groynelaw14.ViewKnows', WHERE WHAT IT READS IS OF BULK AT MOST 1048576: true; the input reads as it did. -/
def viewKnowsUptoRow : OpenClaim := { program := "ytnccdcgpabaopaagreatdoor", sum := "1015ffb6d1e09d2a95291a484b628f638ea7ea6823a0c7f9a25225f044c8cb09", func := "groyne/groynelaw14.ViewKnows", spec := "viewKnows", inPlace := ["internal/bytealg.abigen_runtime_cmpstring", "internal/bytealg.IndexByteString", "internal/bytealg.IndexString"], unfollowed := true, recurses := true, named := ["unicode/utf8.first", "unicode/utf8.acceptRanges", "internal/bytealg.MaxLen"], plainKeys := false, apart := false, laid := [("unicode/utf8.acceptRanges", laid_unicode_utf8_acceptRanges), ("unicode/utf8.first", laid_unicode_utf8_first)], narrowed := true }
def ViewKnowsUptoSaid : Prop := viewKnowsUptoRow.holds Tryz.pinned (OpenSpec.upto viewKnowsSpec)

/-- 'groynelaw14.ViewFree', WHERE WHAT IT READS IS OF BULK AT MOST 1048576: true; the input reads as it did. -/
def viewFreeUptoRow : OpenClaim := { program := "ytnccdcgpabaopaagreatdoor", sum := "1015ffb6d1e09d2a95291a484b628f638ea7ea6823a0c7f9a25225f044c8cb09", func := "groyne/groynelaw14.ViewFree", spec := "viewFree", inPlace := ["internal/bytealg.abigen_runtime_cmpstring", "internal/bytealg.IndexByteString", "internal/bytealg.IndexString"], unfollowed := true, recurses := true, named := ["unicode/utf8.first", "unicode/utf8.acceptRanges", "internal/bytealg.MaxLen"], plainKeys := false, apart := false, laid := [("unicode/utf8.acceptRanges", laid_unicode_utf8_acceptRanges), ("unicode/utf8.first", laid_unicode_utf8_first)], narrowed := true }
def ViewFreeUptoSaid : Prop := viewFreeUptoRow.holds Tryz.pinned (OpenSpec.upto viewFreeSpec)

/-- 'groynelaw14.ViewBack', WHERE WHAT IT READS IS OF BULK AT MOST 1048576: true; the input reads as it did. -/
def viewBackUptoRow : OpenClaim := { program := "ytnccdcgpabaopaagreatdoor", sum := "1015ffb6d1e09d2a95291a484b628f638ea7ea6823a0c7f9a25225f044c8cb09", func := "groyne/groynelaw14.ViewBack", spec := "viewBack", inPlace := ["internal/bytealg.abigen_runtime_cmpstring", "internal/bytealg.IndexByteString", "internal/bytealg.IndexString"], unfollowed := true, recurses := true, named := ["unicode/utf8.first", "unicode/utf8.acceptRanges", "internal/bytealg.MaxLen"], plainKeys := false, apart := false, laid := [("unicode/utf8.acceptRanges", laid_unicode_utf8_acceptRanges), ("unicode/utf8.first", laid_unicode_utf8_first)], narrowed := true }
def ViewBackUptoSaid : Prop := viewBackUptoRow.holds Tryz.pinned (OpenSpec.upto viewBackSpec)

end Rows
end Go.Proofs.YtnccdcgpabaopaaGreatDoor
