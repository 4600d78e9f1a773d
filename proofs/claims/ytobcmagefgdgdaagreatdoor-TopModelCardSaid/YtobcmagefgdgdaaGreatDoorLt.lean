/-
  TopModel holds: whatever bytes are answered by the program as by the document's model. No further conditions.
-/
import Derived.Test.YtobcmagefgdgdaaGreatDoorLts
set_option linter.unusedSimpArgs false
set_option linter.unusedVariables false
set_option maxRecDepth 100000
set_option maxHeartbeats 8000000
namespace Go.Proofs.YtobcmagefgdgdaaGreatDoor
open Go.ChangeShapes Go.WideShapes Go.ChangeAt Go.RowKit Go.AI Go.G
set_option maxHeartbeats 8000000 in
theorem topModel_holds :Rows.TopModelCardSaid:=
 Claim7.holds_tied_plain_at .later [] [.pinned,.data,.handle] true (true,"8d40eac8914a3402d9c69353c576468e8e57af3b63085273fad4e4c9fcd59c25") true
  zm1 (λ_ h=>by cases h) (by as_aux_lemma=>kernel_rfl) (λ_ h=>by cases h) topModel_rt rfl ⟨rfl,rfl⟩ (by as_aux_lemma=>kernel_rfl) rfl
  (λf fn hf hfn=>by
    obtain rfl:f=3:=mW ((show Tryz.prog.funcNamed "groyne/groynetop.TopModel" =some 3 by kernel_rfl).symm.trans hf)|>.symm
    obtain rfl:fn=Tryz.f3:=(mW (Tryz.func3.symm.trans hfn)).symm;exact⟨by kernel_rfl,λj t ht=>by
     rw[show Tryz.f3.params=#[23,24] by kernel_rfl]at ht;have hm:t∈[23,24]:=by simpa using Array.mem_of_getElem? ht
     have hall:([23,24].all λu=>!Tryz.prog.wantsStandIn u)=true:=by kernel_rfl
     exact(show Tryz.prog.wantsStandIn t=false by simpa using dP.1 hall t hm)⟩)
  (zhm zeM _ rfl)
end Go.Proofs.YtobcmagefgdgdaaGreatDoor
