/-
  No cell of these rows narrows 'for every input' (looked for: loops, veiled, ifaces, maps, wideKeys, modest, calm, conditions, laid).
  DERIVED. THE GIVEN ROWS OF THIS SEAT. 5 by the template 'for every input the law returns true; each argument reads behind the call as it read before'; 0 by the template 'total and deterministic' (their statements: YtipkcdjpaneimaaTotals.lean).
  GIVEN WITH THE SEED: the statements are not yours to turn. If you find one false, say at which input.
  Laid BY PROGRAM, IN A SANDBOX (cutbox-rows.mjs): the forced cells as the released guide's own fill.sh prints them over the translation e61e7459fd56ec8b… (all of the seat's roots in one cut). By AI agents, Wed Nov 11 2026. No macro, syntax, notation, axiom, sorry.
-/
import Derived.Test.YtipkcdjpaneimaaChecked
import GoSem.Claim
import GoSem.ClaimJoined
import GoSem.ClaimMapViews
import Derived.JoinedTies
import Derived.KernelRfl
namespace Go.Proofs.Ytipkcdjpaneimaa
/- THE CELL 'sum', in the pinned program and in every row, IS THE sha256 OF THE DUMP (.gsa) THAT YtipkcdjpaneimaaProg.lean LOADS. Nothing in Lean hashes anything: it is a label: what it is worth is what the hold of that sum in a sandbox is worth. -/
noncomputable def Try.pinned : Pinned := { name := "ytipkcdjpaneimaa", sum := "e61e7459fd56ec8b7a5d487c8454ab2037dd03f0b2ea91b28bf60f877c7ce7a4", checked := Try.checked }
namespace Rows
def none {H : Type} : Left H := { results := [], args := [] }

/-- 'groynelaw13.NonceIs': WHATEVER THE INPUT: true; the input reads as it did. -/
def nonceIsSpec : ChangeSpec := { name := "nonceIs", fn := fun _ => fun
  | [d1, d2, d3, d4] => { results := [.lit (.bool true)], args := [d1, d2, d3, d4] }
  | _ => none }
def nonceIsRow : OpenClaim := { program := "ytipkcdjpaneimaa", sum := "e61e7459fd56ec8b7a5d487c8454ab2037dd03f0b2ea91b28bf60f877c7ce7a4", func := "groyne/groynelaw13.NonceIs", spec := "nonceIs", apart := false }
def NonceIsSaid : Prop := nonceIsRow.holds Try.pinned (OpenSpec.ofChange nonceIsSpec)

/-- ITS FALSE NEIGHBOUR: 'it returns false'. Refute it at one input. -/
def nonceIsWrong : ChangeSpec := { name := "nonceIs", fn := fun _ => fun
  | [d1, d2, d3, d4] => { results := [.lit (.bool false)], args := [d1, d2, d3, d4] }
  | _ => none }
def NonceIsWrongFalsely : Prop := nonceIsRow.holds Try.pinned (OpenSpec.ofChange nonceIsWrong)

/-- 'groynelaw13.NonceOnce': WHATEVER THE INPUT: true; the input reads as it did. -/
def nonceOnceSpec : ChangeSpec := { name := "nonceOnce", fn := fun _ => fun
  | [d1, d2] => { results := [.lit (.bool true)], args := [d1, d2] }
  | _ => none }
def nonceOnceRow : OpenClaim := { program := "ytipkcdjpaneimaa", sum := "e61e7459fd56ec8b7a5d487c8454ab2037dd03f0b2ea91b28bf60f877c7ce7a4", func := "groyne/groynelaw13.NonceOnce", spec := "nonceOnce", apart := false }
def NonceOnceSaid : Prop := nonceOnceRow.holds Try.pinned (OpenSpec.ofChange nonceOnceSpec)

/-- ITS FALSE NEIGHBOUR: 'it returns false'. Refute it at one input. -/
def nonceOnceWrong : ChangeSpec := { name := "nonceOnce", fn := fun _ => fun
  | [d1, d2] => { results := [.lit (.bool false)], args := [d1, d2] }
  | _ => none }
def NonceOnceWrongFalsely : Prop := nonceOnceRow.holds Try.pinned (OpenSpec.ofChange nonceOnceWrong)

/-- 'groynelaw13.NonceOpen': WHATEVER THE INPUT: true; the input reads as it did. -/
def nonceOpenSpec : ChangeSpec := { name := "nonceOpen", fn := fun _ => fun
  | [d1, d2, d3] => { results := [.lit (.bool true)], args := [d1, d2, d3] }
  | _ => none }
def nonceOpenRow : OpenClaim := { program := "ytipkcdjpaneimaa", sum := "e61e7459fd56ec8b7a5d487c8454ab2037dd03f0b2ea91b28bf60f877c7ce7a4", func := "groyne/groynelaw13.NonceOpen", spec := "nonceOpen", apart := false }
def NonceOpenSaid : Prop := nonceOpenRow.holds Try.pinned (OpenSpec.ofChange nonceOpenSpec)

/-- ITS FALSE NEIGHBOUR: 'it returns false'. Refute it at one input. -/
def nonceOpenWrong : ChangeSpec := { name := "nonceOpen", fn := fun _ => fun
  | [d1, d2, d3] => { results := [.lit (.bool false)], args := [d1, d2, d3] }
  | _ => none }
def NonceOpenWrongFalsely : Prop := nonceOpenRow.holds Try.pinned (OpenSpec.ofChange nonceOpenWrong)

/-- 'groynelaw13.NonceKinds': WHATEVER THE INPUT: true; the input reads as it did. -/
def nonceKindsSpec : ChangeSpec := { name := "nonceKinds", fn := fun _ => fun
  | [d1, d2, d3, d4, d5] => { results := [.lit (.bool true)], args := [d1, d2, d3, d4, d5] }
  | _ => none }
def nonceKindsRow : OpenClaim := { program := "ytipkcdjpaneimaa", sum := "e61e7459fd56ec8b7a5d487c8454ab2037dd03f0b2ea91b28bf60f877c7ce7a4", func := "groyne/groynelaw13.NonceKinds", spec := "nonceKinds", apart := false }
def NonceKindsSaid : Prop := nonceKindsRow.holds Try.pinned (OpenSpec.ofChange nonceKindsSpec)

/-- ITS FALSE NEIGHBOUR: 'it returns false'. Refute it at one input. -/
def nonceKindsWrong : ChangeSpec := { name := "nonceKinds", fn := fun _ => fun
  | [d1, d2, d3, d4, d5] => { results := [.lit (.bool false)], args := [d1, d2, d3, d4, d5] }
  | _ => none }
def NonceKindsWrongFalsely : Prop := nonceKindsRow.holds Try.pinned (OpenSpec.ofChange nonceKindsWrong)

/-- 'groynelaw13.NoncePairs': WHATEVER THE INPUT: true; the input reads as it did. -/
def noncePairsSpec : ChangeSpec := { name := "noncePairs", fn := fun _ => fun
  | [d1, d2, d3] => { results := [.lit (.bool true)], args := [d1, d2, d3] }
  | _ => none }
def noncePairsRow : OpenClaim := { program := "ytipkcdjpaneimaa", sum := "e61e7459fd56ec8b7a5d487c8454ab2037dd03f0b2ea91b28bf60f877c7ce7a4", func := "groyne/groynelaw13.NoncePairs", spec := "noncePairs", apart := false }
def NoncePairsSaid : Prop := noncePairsRow.holds Try.pinned (OpenSpec.ofChange noncePairsSpec)

/-- ITS FALSE NEIGHBOUR: 'it returns false'. Refute it at one input. -/
def noncePairsWrong : ChangeSpec := { name := "noncePairs", fn := fun _ => fun
  | [d1, d2, d3] => { results := [.lit (.bool false)], args := [d1, d2, d3] }
  | _ => none }
def NoncePairsWrongFalsely : Prop := noncePairsRow.holds Try.pinned (OpenSpec.ofChange noncePairsWrong)

/- THE SECOND FORM. 'bulk': how many values and letters a reading holds, each counted each time it is reached (what is shared counts as often as it is met; a slice's spare places count too). A statement '..UptoSaid' is the law's where the arguments, and the package variables that the reading takes, are together of bulk at most 1048576: NARROWER than '..Said'. Prove '..Said' where nothing that the law and all that it calls make is longer than what came in: it says more and counts as full. Else prove '..UptoSaid'. A law counts once. -/
mutual
def uptoBulk {H : Type} : DataW H → Nat
  | .lit (.string bytes) => bytes.length + 1
  | .lit _ => 1
  | .nil => 1
  | .ptr d => uptoBulk d + 1
  | .slice elems spare => uptoBulkAll elems + uptoBulkAll spare + 1
  | .agg parts => uptoBulkAll parts + 1
  | .iface _ d => uptoBulk d + 1
  | .map entries => uptoBulkEntries entries + 1
  | .held _ => 1
def uptoBulkAll {H : Type} : List (DataW H) → Nat
  | [] => 0
  | d :: r => uptoBulk d + uptoBulkAll r
def uptoBulkEntries {H : Type} : List (Lit × DataW H) → Nat
  | [] => 0
  | x :: r => uptoBulkEntry x + uptoBulkEntries r
def uptoBulkEntry {H : Type} : Lit × DataW H → Nat
  | (.string bytes, d) => bytes.length + uptoBulk d + 1
  | (_, d) => uptoBulk d + 1
 end
def uptoSmall : (H : Type) → List (DataW H) → Bool := fun _ ds => decide (uptoBulkAll ds ≤ 1048576)
def OpenSpec.upto (s : _root_.Go.ChangeSpec) : _root_.Go.OpenSpec := { _root_.Go.OpenSpec.ofChange s with cond := some uptoSmall }

/-- 'groynelaw13.NonceIs', WHERE WHAT IT READS IS OF BULK AT MOST 1048576: true; the input reads as it did. -/
def nonceIsUptoRow : OpenClaim := { program := "ytipkcdjpaneimaa", sum := "e61e7459fd56ec8b7a5d487c8454ab2037dd03f0b2ea91b28bf60f877c7ce7a4", func := "groyne/groynelaw13.NonceIs", spec := "nonceIs", apart := false, narrowed := true }
def NonceIsUptoSaid : Prop := nonceIsUptoRow.holds Try.pinned (OpenSpec.upto nonceIsSpec)

/-- 'groynelaw13.NonceOnce', WHERE WHAT IT READS IS OF BULK AT MOST 1048576: true; the input reads as it did. -/
def nonceOnceUptoRow : OpenClaim := { program := "ytipkcdjpaneimaa", sum := "e61e7459fd56ec8b7a5d487c8454ab2037dd03f0b2ea91b28bf60f877c7ce7a4", func := "groyne/groynelaw13.NonceOnce", spec := "nonceOnce", apart := false, narrowed := true }
def NonceOnceUptoSaid : Prop := nonceOnceUptoRow.holds Try.pinned (OpenSpec.upto nonceOnceSpec)

/-- 'groynelaw13.NonceOpen', WHERE WHAT IT READS IS OF BULK AT MOST 1048576: true; the input reads as it did. -/
def nonceOpenUptoRow : OpenClaim := { program := "ytipkcdjpaneimaa", sum := "e61e7459fd56ec8b7a5d487c8454ab2037dd03f0b2ea91b28bf60f877c7ce7a4", func := "groyne/groynelaw13.NonceOpen", spec := "nonceOpen", apart := false, narrowed := true }
def NonceOpenUptoSaid : Prop := nonceOpenUptoRow.holds Try.pinned (OpenSpec.upto nonceOpenSpec)

/-- 'groynelaw13.NonceKinds', WHERE WHAT IT READS IS OF BULK AT MOST 1048576: true; the input reads as it did. -/
def nonceKindsUptoRow : OpenClaim := { program := "ytipkcdjpaneimaa", sum := "e61e7459fd56ec8b7a5d487c8454ab2037dd03f0b2ea91b28bf60f877c7ce7a4", func := "groyne/groynelaw13.NonceKinds", spec := "nonceKinds", apart := false, narrowed := true }
def NonceKindsUptoSaid : Prop := nonceKindsUptoRow.holds Try.pinned (OpenSpec.upto nonceKindsSpec)

/-- 'groynelaw13.NoncePairs', WHERE WHAT IT READS IS OF BULK AT MOST 1048576: true; the input reads as it did. -/
def noncePairsUptoRow : OpenClaim := { program := "ytipkcdjpaneimaa", sum := "e61e7459fd56ec8b7a5d487c8454ab2037dd03f0b2ea91b28bf60f877c7ce7a4", func := "groyne/groynelaw13.NoncePairs", spec := "noncePairs", apart := false, narrowed := true }
def NoncePairsUptoSaid : Prop := noncePairsUptoRow.holds Try.pinned (OpenSpec.upto noncePairsSpec)

end Rows
end Go.Proofs.Ytipkcdjpaneimaa
