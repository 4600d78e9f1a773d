/- The law's row (2). -/
import Derived.Test.YtobcmagefgdgdaaGreatDoorLar
import Derived.Test.YtobcmagefgdgdaaGreatDoorLJa
set_option linter.unusedSimpArgs false
set_option linter.unusedVariables false
set_option maxRecDepth 100000
set_option maxHeartbeats 8000000
namespace Go.Proofs.YtobcmagefgdgdaaGreatDoor
open Go.ChangeShapes Go.WideShapes Go.ChangeAt Go.RowKit Go.AI Go.G
set_option maxHeartbeats 8000000 in
theorem zfv :Rows.MeshPlaysSaid:=
 OpenClaim.holds_of_wide 4 Tryz.f4 rfl rfl rfl rfl rfl rfl rfl ⟨rfl,rfl,rfl,rfl,rfl⟩ rfl rfl rfl rfl rfl (by as_aux_lemma=>kernel_rfl) Tryz.func4 jFF
  (lS (by as_aux_lemma=>kernel_rfl)) (by unfold Func.isWrapper;first| (rw[aZ (by decide+kernel)];kernel_rfl)| (rw[aT (by decide+kernel)];exact⟨rfl,rfl⟩))
  (λos started H enc _=>zfw os started H enc)
theorem zhm {P:Program}(h:(P.funcs.toList.all λf=>!f.goes)=true)(c:OpenClaim)(hs:c.start=.entering):false=c.goesBy P:=by
 have key:∀f:Func,f∈P.funcs.toList->f.goes=false:=λf hf=>by
  have:=dP.1 h f hf;simpa using this
 have any:∀g:Nat,(P.funcs[g]?).any Func.goes=false:=λg=>by
  cases e:P.funcs[g]? with
  |none=>rfl
  |some x=>exact key x (Array.mem_toList_iff.2 (Array.mem_of_getElem? e))
 have all:P.funcs.any Func.goes=false:=by
  rw[<-Array.any_toList,JV];intro x hx;simp[key x hx]
 have go:∀f,P.goes f=false:=λf=>by
  unfold Program.goes;rw[all,zF,Bool.or_false,JV];intro g _;simp[any g]
 unfold OpenClaim.goesBy Program.goesAt Program.goesFrom;rw[hs];cases P.funcNamed c.func with
 |none=>rfl
 |some f=>simp[go f]
theorem zeM :(Tryz.prog.funcs.toList.all λf=>!f.goes)=true:=by kernel_rfl
end Go.Proofs.YtobcmagefgdgdaaGreatDoor
