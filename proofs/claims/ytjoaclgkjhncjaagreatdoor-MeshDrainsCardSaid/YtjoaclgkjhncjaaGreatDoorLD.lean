/-
  MeshDrains holds: behind each step of whatever steps nothing is taken away that a snapshot holds.
-/
import Derived.Test.YtjoaclgkjhncjaaGreatDoorLDr
import Derived.Lay
import Derived.LaidOnce
import Derived.SevenTiedAt
import Derived.Test.YtjoaclgkjhncjaaGreatDoorTie
import Derived.Test.YtjoaclgkjhncjaaGreatDoorCards
import Derived.ProofKit
import Derived.LaidMore
set_option linter.unusedSimpArgs false
set_option linter.unusedVariables false
namespace Go.Proofs.YtjoaclgkjhncjaaGreatDoor
open Go.ChangeShapes Go.WideShapes Go.ChangeAt Go.RowKit Go.AI Go.G
set_option maxRecDepth 20000
set_option maxHeartbeats 8000000 in
theorem meshDrains_holds :Rows.MeshDrainsCardSaid:=
 Claim7.holds_tied_plain_at .later [] [.data,.handle,.pinned] true (true,"e6d4a370698aa80a299b515e4ac3d6b1c0adec9400a15b6848d026c0d8a899f1") true
  zre (fun _ h=>by cases h) (by as_aux_lemma=>kernel_rfl) (fun _ h=>by cases h) meshDrains_row_tie rfl ⟨rfl,rfl⟩ (by as_aux_lemma=>kernel_rfl) rfl
  (fun f fn hf hfn=>by
    obtain rfl:f=5:=Option.some.inj ((show Tryz.prog.funcNamed "groyne/groynelaw24.MeshDrains" =some 5 by kernel_rfl).symm.trans hf)|>.symm
    obtain rfl:fn=Tryz.f5:=(Option.some.inj (Tryz.func5.symm.trans hfn)).symm;exact⟨by kernel_rfl,fun j t ht=>by
     rw[show Tryz.f5.params=#[23,24] by kernel_rfl]at ht;have hm:t∈[23,24]:=by simpa using Array.mem_of_getElem? ht
     have hall:([23,24].all fun u=>!Tryz.prog.wantsStandIn u)=true:=by kernel_rfl
     exact(show Tryz.prog.wantsStandIn t=false by simpa using List.all_eq_true.1 hall t hm)⟩)
  (goes_none none_goes _ rfl)
end Go.Proofs.YtjoaclgkjhncjaaGreatDoor
