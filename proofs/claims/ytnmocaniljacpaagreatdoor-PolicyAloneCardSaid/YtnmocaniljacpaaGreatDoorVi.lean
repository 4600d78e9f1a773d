/-
  LAYER 14: the walks of small helpers.
-/
import Derived.Test.YtnmocaniljacpaaGreatDoorWc
import Derived.Test.YtnmocaniljacpaaGreatDoorPl
set_option linter.unusedSimpArgs false
set_option linter.unusedVariables false
section
namespace Go.Proofs.YtnmocaniljacpaaGreatDoor
open Go.AI Go.G
set_option maxRecDepth 20000
end Go.Proofs.YtnmocaniljacpaaGreatDoor
end
