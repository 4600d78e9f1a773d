/- The row's closed facts. -/
import Derived.Test.YtobcmagefgdgdaaGreatDoorRows
import Derived.JoinedOf
set_option maxRecDepth 100000
set_option maxHeartbeats 8000000
namespace Go.Proofs.YtobcmagefgdgdaaGreatDoor
theorem jx_inPlace:(Rows.meshPlaysRow.inPlace==Tryz.pinned.checked.prog.inPlace 4)=true:=by kernel_rfl
theorem jx_unfollowed:(Rows.meshPlaysRow.unfollowed==Tryz.pinned.checked.prog.unfollowed 4)=true:=by kernel_rfl
end Go.Proofs.YtobcmagefgdgdaaGreatDoor
