/- The row's closed facts. -/
import Derived.Test.YtobcmagefgdgdaaGreatDoorRows
import Derived.JoinedOf
set_option maxRecDepth 100000
set_option maxHeartbeats 8000000
namespace Go.Proofs.YtobcmagefgdgdaaGreatDoor
theorem jx_recurses:(Rows.meshPlaysRow.recurses==Tryz.pinned.checked.prog.recurses 4)=true:=by kernel_rfl
end Go.Proofs.YtobcmagefgdgdaaGreatDoor
