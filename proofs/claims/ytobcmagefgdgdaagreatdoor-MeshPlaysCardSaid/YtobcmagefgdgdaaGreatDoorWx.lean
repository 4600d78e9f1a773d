/- LAYER 9, walked (2) -/
import Derived.Test.YtobcmagefgdgdaaGreatDoorWf
set_option linter.unusedSimpArgs false
set_option linter.unusedVariables false
set_option maxRecDepth 100000
set_option maxHeartbeats 8000000
namespace Go.G
open Go.AI

end Go.G
namespace Go.Proofs.YtobcmagefgdgdaaGreatDoor
open Go.AI Go.G Tryz
attribute [simp] ntmps87 results87 ntmps46 results46
theorem UC (a b:List aC)(ha:cL a):C0 87 [aB (a.map aF),aB (b.map aF)] (bool (decide (a=b))):=by
 refine Ct.B func87 ?_;simp;refine aX (λh1 zz=>?_) (λh1 zz=>?_)<;>simp only[zz]<;>simp
 ·have e:¬a=b:=λe=>h1 (by rw[e]);exact aA (by simp[e])
 have hab:a.length=b.length:=by omega
 have hh:=ha.len;refine aH.inv mixed rfl (ι:={k:Nat//k<=(a).length/\a.take k=b.take k}) (λk=>[(0,aB (a.map aF)),(1,aB (b.map aF)),(5,int k.1)]) (λk=>[]) 64 (λk=>(a).length-k.1) ⟨0,by omega,by simp⟩ [] (by constructor<;>simp) ?_;rintro⟨k,hk1,hi⟩ B hB;refine CI.n ?_;simp;rcases bC hk1 with⟨x,hk,hx,hr,hm,ht,hd,hw,h⟩|rfl
 ·simp[h,hr,hw];have hrb:b[k]? =some b[k]:=bO (by omega);have htb:b.take (k+1)=b.take k++[b[k]]:=by rw[jH,hrb];rfl
  have hne:x≠b[k]->a≠b:=by
   intro h2 e;subst e;rw[hr]at hrb;cases hrb;exact h2 rfl
  generalize b[k]=y at hrb htb hne;simp[hrb];refine CI.p (VN x y (ha.all x hm)) ?_;simp;refine dr ?_;refine aX (λh2 zz=>?_) (λh2 zz=>?_)<;>simp only[zz]<;>simp
  ·exact aA (by simp[hne h2])
  ·refine hB _ ⟨k+1,by omega,by rw[ht,htb,hi,h2]⟩ [] ?_ (by simp;omega);constructor<;>simp[hw]
 ·simp;have e:a=b:=by
   rw[bX,hab,bX]at hi;exact hi
  exact aA (by simp[e])
end Go.Proofs.YtobcmagefgdgdaaGreatDoor
