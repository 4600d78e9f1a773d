/- The row's closed facts. -/
import Derived.Test.YtobcmagefgdgdaaGreatDoorWza
import Derived.JoinedOf
import Derived.Test.YtobcmagefgdgdaaGreatDoorLKa
set_option linter.unusedSimpArgs false
set_option linter.unusedVariables false
set_option maxRecDepth 100000
set_option maxHeartbeats 8000000
namespace Go.Proofs.YtobcmagefgdgdaaGreatDoor
open Go.AI Go.G
theorem lTT:laidOutB Tryz.pinned.checked.prog=true:=zgb
theorem jFF:joinedFacts Tryz.pinned.checked.prog 4 Tryz.f4 Rows.meshPlaysSpec Rows.meshPlaysRow=true:=by
 unfold joinedFacts;(repeat' (with_reducible refine Bool.and_eq_true_iff.2 ⟨?_,?_⟩));all_goals(first|with_reducible exact lTT|with_reducible exact jx_inPlace|with_reducible exact jx_unfollowed|with_reducible exact jx_recurses|with_reducible exact jx_named|(as_aux_lemma=>kernel_rfl))
end Go.Proofs.YtobcmagefgdgdaaGreatDoor
