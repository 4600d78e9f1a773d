/- The row's closed facts. -/
import Derived.Test.YtobcmagefgdgdaaGreatDoorRows
import Derived.JoinedOf
set_option maxRecDepth 100000
set_option maxHeartbeats 8000000
namespace Go.Proofs.YtobcmagefgdgdaaGreatDoor
def jx_M(T:Nat->List Nat):Nat->List Nat->Nat->List Nat->List Nat
 |0,_,_,s=>s.reverse
 |_+1,[],_,s=>s.reverse
 |n+1,f::t,m,s=>match Nat.beq (Nat.land (Nat.shiftRight m f) 1) 0 with
  |true=>jx_M T n (T f++t) (Nat.lor m (Nat.shiftLeft 1 f)) (f::s)
  |false=>jx_M T n t m s
theorem jx_b(m f:Nat):Nat.beq (Nat.land (Nat.shiftRight m f) 1) 0= !m.testBit f:=by
 unfold Nat.testBit;rw[Nat.and_comm];show Nat.beq ((m>>>f)&&&1) 0=_
 cases (m>>>f)&&&1 with
 |zero=>rfl
 |succ q=>simp[bne];rfl
theorem jx_e(P:Program):∀(n:Nat)(t:List Nat)(m:Nat)(s:List Nat),(∀k,m.testBit k=s.contains k)->P.closureVia n t s=jx_M (λk=>(P.funcs[k]?).elim [] P.leadsTo) n t m s
 |0,_,_,_,_=>rfl
 |_+1,[],_,_,_=>rfl
 |n+1,f::t,m,s,h=>by
  unfold Program.closureVia jx_M;rw[jx_b,h]
  cases e:s.contains f
  ·refine jx_e P n _ _ _ λk=>?_
   show (m|||1<<<f).testBit k=_
   rw[Nat.testBit_or,h,Nat.testBit_shiftLeft,List.contains_cons]
   by_cases g:f=k
   ·subst g;simp
   ·rw[show (k==f)=false by simpa using λx:k=f=>g x.symm]
    by_cases l:f≤k
    ·cases x:k-f with
     |zero=>omega
     |succ q=>simp[l,Nat.testBit_succ]
    ·simp[l]
  ·exact jx_e P n _ _ _ h
theorem jx_c:Tryz.prog.closure=λf=>jx_M (λk=>(Tryz.prog.funcs.toList[k]?).elim [] Tryz.prog.leadsTo) (1+(Tryz.prog.funcs.toList.map λg=>(Tryz.prog.leadsTo g).length+1).sum) [f] 0 []:=by
 simp only[Array.getElem?_toList];exact funext λ_=>jx_e _ _ _ _ _ (by simp)
theorem jx_inPlace:(Rows.meshPlaysRow.inPlace==Tryz.pinned.checked.prog.inPlace 4)=true:=by
 show (Rows.meshPlaysRow.inPlace==Tryz.prog.inPlace 4)=true
 unfold Program.inPlace;rw[jx_c];simp only[<-Array.getElem?_toList];kernel_rfl
theorem jx_unfollowed:(Rows.meshPlaysRow.unfollowed==Tryz.pinned.checked.prog.unfollowed 4)=true:=by
 show (Rows.meshPlaysRow.unfollowed==Tryz.prog.unfollowed 4)=true
 unfold Program.unfollowed;rw[jx_c];simp only[<-Array.getElem?_toList];kernel_rfl
theorem jx_recurses:(Rows.meshPlaysRow.recurses==Tryz.pinned.checked.prog.recurses 4)=true:=by
 show (Rows.meshPlaysRow.recurses==Tryz.prog.recurses 4)=true
 unfold Program.recurses;rw[<-show true=Tryz.prog.unfollowed 4 from beq_iff_eq.1 jx_unfollowed];rfl
theorem jx_named:(Rows.meshPlaysRow.named==Tryz.pinned.checked.prog.varsNamed 4)=true:=by
 show (Rows.meshPlaysRow.named==Tryz.prog.varsNamed 4)=true
 unfold Program.varsNamed;rw[jx_c];simp only[<-Array.getElem?_toList];kernel_rfl
end Go.Proofs.YtobcmagefgdgdaaGreatDoor
