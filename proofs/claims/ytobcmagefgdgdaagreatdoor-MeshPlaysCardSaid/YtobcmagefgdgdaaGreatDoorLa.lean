/-
  MeshPlays holds: of whatever steps the program's mesh and the document's come to the same. No further conditions.
-/
import Derived.Test.YtobcmagefgdgdaaGreatDoorLas
set_option linter.unusedSimpArgs false
set_option linter.unusedVariables false
set_option maxRecDepth 100000
set_option maxHeartbeats 8000000
namespace Go.Proofs.YtobcmagefgdgdaaGreatDoor
open Go.ChangeShapes Go.WideShapes Go.ChangeAt Go.RowKit Go.AI Go.G
set_option maxHeartbeats 8000000 in
theorem meshPlays_holds :Rows.MeshPlaysCardSaid:=
 Claim7.holds_tied_plain_at .later [] [.pinned,.data,.handle] true (true,"8d40eac8914a3402d9c69353c576468e8e57af3b63085273fad4e4c9fcd59c25") true
  zfv (λ_ h=>by cases h) (by as_aux_lemma=>kernel_rfl) (λ_ h=>by cases h) meshPlays_rt rfl ⟨rfl,rfl⟩ (by as_aux_lemma=>kernel_rfl) rfl
  (λf fn hf hfn=>by
    obtain rfl:f=4:=mW ((show Tryz.prog.funcNamed "groyne/groynelaw24.MeshPlays" =some 4 by kernel_rfl).symm.trans hf)|>.symm
    obtain rfl:fn=Tryz.f4:=(mW (Tryz.func4.symm.trans hfn)).symm;exact⟨by kernel_rfl,λj t ht=>by
     rw[show Tryz.f4.params=#[23,26] by kernel_rfl]at ht;have hm:t∈[23,26]:=by simpa using Array.mem_of_getElem? ht
     have hall:([23,26].all λu=>!Tryz.prog.wantsStandIn u)=true:=by kernel_rfl
     exact(show Tryz.prog.wantsStandIn t=false by simpa using dP.1 hall t hm)⟩)
  (zhm zeM _ rfl)
end Go.Proofs.YtobcmagefgdgdaaGreatDoor
