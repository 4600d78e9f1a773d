/-
  MeshRises holds: of whatever steps each resource that a sidecar shows has a version that is no lower than the one with which it was shown ahead.
-/
import Derived.Test.YtjoaclgkjhncjaaGreatDoorLRr
import Derived.Lay
import Derived.LaidOnce
import Derived.SevenTiedAt
import Derived.Test.YtjoaclgkjhncjaaGreatDoorTie
import Derived.Test.YtjoaclgkjhncjaaGreatDoorCards
import Derived.ProofKit
import Derived.LaidMore
set_option linter.unusedSimpArgs false
set_option linter.unusedVariables false
namespace Go.Proofs.YtjoaclgkjhncjaaGreatDoor
open Go.ChangeShapes Go.WideShapes Go.ChangeAt Go.RowKit Go.AI Go.G
set_option maxRecDepth 20000
set_option maxHeartbeats 8000000 in
theorem meshRises_holds :Rows.MeshRisesCardSaid:=
 Claim7.holds_tied_plain_at .later [] [.data,.handle,.pinned] true (true,"e6d4a370698aa80a299b515e4ac3d6b1c0adec9400a15b6848d026c0d8a899f1") true
  zt4 (fun _ h=>by cases h) (by as_aux_lemma=>kernel_rfl) (fun _ h=>by cases h) meshRises_row_tie rfl ⟨rfl,rfl⟩ (by as_aux_lemma=>kernel_rfl) rfl
  (fun f fn hf hfn=>by
    obtain rfl:f=3:=Option.some.inj ((show Tryz.prog.funcNamed "groyne/groynelaw24.MeshRises" =some 3 by kernel_rfl).symm.trans hf)|>.symm
    obtain rfl:fn=Tryz.f3:=(Option.some.inj (Tryz.func3.symm.trans hfn)).symm;exact⟨by kernel_rfl,fun j t ht=>by
     rw[show Tryz.f3.params=#[23,24,26,3] by kernel_rfl]at ht;have hm:t∈[23,24,26,3]:=by simpa using Array.mem_of_getElem? ht
     have hall:([23,24,26,3].all fun u=>!Tryz.prog.wantsStandIn u)=true:=by kernel_rfl
     exact(show Tryz.prog.wantsStandIn t=false by simpa using List.all_eq_true.1 hall t hm)⟩)
  (goes_none none_goes _ rfl)
end Go.Proofs.YtjoaclgkjhncjaaGreatDoor
