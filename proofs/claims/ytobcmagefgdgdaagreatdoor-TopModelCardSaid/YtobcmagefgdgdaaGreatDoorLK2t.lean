/- The row's closed facts. -/
import Derived.Test.YtobcmagefgdgdaaGreatDoorRows
import Derived.JoinedOf
set_option maxRecDepth 100000
set_option maxHeartbeats 8000000
namespace Go.Proofs.YtobcmagefgdgdaaGreatDoor
theorem jx_recurses:(Rows.topModelRow.recurses==Tryz.pinned.checked.prog.recurses 3)=true:=by kernel_rfl
end Go.Proofs.YtobcmagefgdgdaaGreatDoor
