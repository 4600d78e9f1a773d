/-
  EACH RENEWAL IS AN EPOCH (MeshCounts): the law holds of the given program for every input; no further conditions.
-/
import Derived.Test.YtekckhepcdndcaaGreatDoorLNc
import Derived.Lay
import Derived.LaidOnce
import Derived.SevenTiedAt
import Derived.Test.YtekckhepcdndcaaGreatDoorTie
import Derived.Test.YtekckhepcdndcaaGreatDoorCards
import Derived.ProofKit
import Derived.LaidMore
set_option linter.unusedSimpArgs false
set_option linter.unusedVariables false
namespace Go.Proofs.YtekckhepcdndcaaGreatDoor
open Go.ChangeShapes Go.WideShapes Go.ChangeAt Go.RowKit Go.AI Go.G
set_option maxRecDepth 20000
theorem goes_none {P:Program}(h:(P.funcs.toList.all fun f=>!f.goes)=true)(c:OpenClaim)(hs:c.start=.entering):false=c.goesBy P:=by
 have key:∀f:Func,f∈P.funcs.toList→f.goes=false:=fun f hf=>by
  have:=List.all_eq_true.1 h f hf;simpa using this
 have any:∀g:Nat,(P.funcs[g]?).any Func.goes=false:=fun g=>by
  cases e:P.funcs[g]? with
  |none=>rfl
  |some x=>exact key x (Array.mem_toList_iff.2 (Array.mem_of_getElem? e))
 have all:P.funcs.any Func.goes=false:=by
  rw[←Array.any_toList,List.any_eq_false];intro x hx;simp[key x hx]
 have go:∀f,P.goes f=false:=fun f=>by
  unfold Program.goes;rw[all,Bool.and_false,Bool.or_false,List.any_eq_false];intro g _;simp[any g]
 unfold OpenClaim.goesBy Program.goesAt Program.goesFrom;rw[hs];cases P.funcNamed c.func with
 |none=>rfl
 |some f=>simp[go f]
theorem none_goes :(Tryz.prog.funcs.toList.all fun f=>!f.goes)=true:=by kernel_rfl
set_option maxHeartbeats 8000000 in
theorem meshCounts_holds :Rows.MeshCountsCardSaid:=
 Claim7.holds_tied_plain_at .later [] [.data,.handle,.pinned] true (true,"d0709714cd1d473a1604558b3d241b529983c0b22563312980dac685cf0469a0") true
  zqe (fun _ h=>by cases h) (by as_aux_lemma=>kernel_rfl) (fun _ h=>by cases h) meshCounts_row_tie rfl ⟨rfl,rfl⟩ (by as_aux_lemma=>kernel_rfl) rfl
  (fun f fn hf hfn=>by
    obtain rfl:f=5:=Option.some.inj ((show Tryz.prog.funcNamed "groyne/groynelaw24.MeshCounts" =some 5 by kernel_rfl).symm.trans hf)|>.symm
    obtain rfl:fn=Tryz.f5:=(Option.some.inj (Tryz.func5.symm.trans hfn)).symm;exact⟨by kernel_rfl,fun j t ht=>by
     rw[show Tryz.f5.params=#[23,24] by kernel_rfl]at ht;have hm:t∈[23,24]:=by simpa using Array.mem_of_getElem? ht
     have hall:([23,24].all fun u=>!Tryz.prog.wantsStandIn u)=true:=by kernel_rfl
     exact(show Tryz.prog.wantsStandIn t=false by simpa using List.all_eq_true.1 hall t hm)⟩)
  (goes_none none_goes _ rfl)
end Go.Proofs.YtekckhepcdndcaaGreatDoor
