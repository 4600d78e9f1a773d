/-
  ServerIs holds: of whatever session, history and frame the program answers as the document's model. No further conditions.
-/
import Derived.Test.YtelooagbkmpdpaaGreatDoorLr
set_option linter.unusedSimpArgs false
set_option linter.unusedVariables false
set_option maxRecDepth 100000
set_option maxHeartbeats 8000000
namespace Go.Proofs.YtelooagbkmpdpaaGreatDoor
open Go.ChangeShapes Go.WideShapes Go.ChangeAt Go.RowKit Go.AI Go.G
set_option maxHeartbeats 8000000 in
theorem serverIs_holds :Rows.ServerIsCardSaid:=
 Claim7.holds_tied_plain_at .later [] [.data,.handle,.pinned] true (true,"280d05ba08931249563960736ecb039ed90b295c6760b92d836f1003414018b0") true
  SD (λ_ h=>by cases h) (by as_aux_lemma=>kernel_rfl) (λ_ h=>by cases h) serverIs_row_tie rfl ⟨rfl,rfl⟩ (by as_aux_lemma=>kernel_rfl) rfl
  (λf fn hf hfn=>by
    obtain rfl:f=3:=kJ ((show Tryz.prog.funcNamed "groyne/groynelaw20.ServerIs" =some 3 by kernel_rfl).symm.trans hf)|>.symm
    obtain rfl:fn=Tryz.f3:=(kJ (Tryz.func3.symm.trans hfn)).symm;exact⟨by kernel_rfl,λj t ht=>by
     rw[show Tryz.f3.params=#[35,38,31] by kernel_rfl]at ht;have hm:t∈[35,38,31]:=by simpa using Array.mem_of_getElem? ht
     have hall:([35,38,31].all λu=>!Tryz.prog.wantsStandIn u)=true:=by kernel_rfl
     exact(show Tryz.prog.wantsStandIn t=false by simpa using cS.1 hall t hm)⟩)
  (ZZ WZ _ rfl)
end Go.Proofs.YtelooagbkmpdpaaGreatDoor
