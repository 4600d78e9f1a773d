/-
  TopAnswers holds: of whatever steps each request that is done is answered as by one configuration that its sidecar showed from its beginning to its end.
-/
import Derived.Test.YtegplpagkajolaaGreatDoorLAr
import Derived.Lay
import Derived.LaidOnce
import Derived.SevenTiedAt
import Derived.Test.YtegplpagkajolaaGreatDoorTie
import Derived.Test.YtegplpagkajolaaGreatDoorCards
import Derived.ProofKit
import Derived.LaidMore
set_option linter.unusedSimpArgs false
set_option linter.unusedVariables false
set_option maxRecDepth 100000
set_option maxHeartbeats 8000000
namespace Go.Proofs.YtegplpagkajolaaGreatDoor
open Go.ChangeShapes Go.WideShapes Go.ChangeAt Go.RowKit Go.AI Go.G
set_option maxHeartbeats 8000000 in
theorem topAnswers_holds :Rows.TopAnswersCardSaid:=
 Claim7.holds_tied_plain_at .later [] [.data,.handle,.pinned] true (true,"1604842e972a5d2c74dc1de6ce4eeb34ffd76f8c6ac96c0f0f254f83ddb7ae55") true
  Wh (fun _ h=>by cases h) (by as_aux_lemma=>kernel_rfl) (fun _ h=>by cases h) topAnswers_row_tie rfl ⟨rfl,rfl⟩ (by as_aux_lemma=>kernel_rfl) rfl
  (fun f fn hf hfn=>by
    obtain rfl:f=3:=lT ((show Tryz.prog.funcNamed "groyne/groynetop.TopAnswers" =some 3 by kernel_rfl).symm.trans hf)|>.symm
    obtain rfl:fn=Tryz.f3:=(lT (Tryz.func3.symm.trans hfn)).symm;exact⟨by kernel_rfl,fun j t ht=>by
     rw[show Tryz.f3.params=#[23,24] by kernel_rfl]at ht;have hm:t∈[23,24]:=by simpa using Array.mem_of_getElem? ht
     have hall:([23,24].all fun u=>!Tryz.prog.wantsStandIn u)=true:=by kernel_rfl
     exact(show Tryz.prog.wantsStandIn t=false by simpa using eF.1 hall t hm)⟩)
  (GW GA _ rfl)
end Go.Proofs.YtegplpagkajolaaGreatDoor
