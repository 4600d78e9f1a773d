/-
  LAYER 24: a mesh that is settled.
-/
import Derived.Test.YtegplpagkajolaaGreatDoorWo
set_option linter.unusedSimpArgs false
set_option linter.unusedVariables false
set_option maxRecDepth 100000
set_option maxHeartbeats 8000000
namespace Go.Proofs.YtegplpagkajolaaGreatDoor
open Go.AI Go.G Tryz
attribute [simp] ntmps24 results24
theorem A0 {n:G.Node}(h:dG n):n.bA.v.bF.length<=1000000:=by
 have S:=lV.1 h.ss;have:=S.hl;omega
theorem za6 (c:bS)(p:aT)(l0:Int)(a1:G.Node)(hp:p.bV.length<=1000000)(ha1:dG a1)(ia1:uH a1=true)(sa1:pF a1.bA p=true):Ct prog 24 [.ptr 0 0] (BM ⟨c,p,[a1],l0⟩) [] (bool true) []:=by
 refine Ct.B func24 ?_;simp;refine CI.cc [0,1,2] (qG c p l0 [gG a1] (by simp) (by simp)) ?_;simp;refine aQ.rounds 2 ?_;refine dE.s ?_;simp;refine CI.cc [2] (zL a1 ha1) ?_ (ha:=by simp[ia1]) (hk:=by simp[ia1]);simp[ia1];refine CI.p (xS a1.bA p ha1.so (A0 ha1) (by omega)) ?_ (ha:=by simp[sa1]);simp[sa1];refine⟨by decide+kernel,?_⟩;refine dE.s ?_;simp;exact⟨[],by constructor<;>simp[aV,aW]⟩
theorem za5 (c:bS)(p:aT)(l0:Int)(a1 a2:G.Node)(hp:p.bV.length<=1000000)(ha1:dG a1)(ia1:uH a1=true)(sa1:pF a1.bA p=true)(ha2:dG a2)(ia2:uH a2=true)(sa2:pF a2.bA p=true):Ct prog 24 [.ptr 0 0] (BM ⟨c,p,[a1,a2],l0⟩) [] (bool true) []:=by
 refine Ct.B func24 ?_;simp;refine CI.cc [0,1,2,3] (qG c p l0 [gG a1,gG a2] (by simp) (by simp)) ?_;simp;refine aQ.rounds 3 ?_;refine dE.s ?_;simp;refine CI.cc [2] (zL a1 ha1) ?_ (ha:=by simp[ia1]) (hk:=by simp[ia1]);simp[ia1];refine CI.p (xS a1.bA p ha1.so (A0 ha1) (by omega)) ?_ (ha:=by simp[sa1]);simp[sa1];refine⟨by decide+kernel,?_⟩;refine dE.s ?_;simp;refine CI.cc [3] (zL a2 ha2) ?_ (ha:=by simp[ia2]) (hk:=by simp[ia2]);simp[ia2];refine CI.p (xS a2.bA p ha2.so (A0 ha2) (by omega)) ?_ (ha:=by simp[sa2]);simp[sa2];refine⟨by decide+kernel,?_⟩;refine dE.s ?_;simp;exact⟨[],by constructor<;>simp[aV,aW]⟩
theorem za4 (c:bS)(p:aT)(l0:Int)(a1 a2 a3:G.Node)(hp:p.bV.length<=1000000)(ha1:dG a1)(ia1:uH a1=true)(sa1:pF a1.bA p=true)(ha2:dG a2)(ia2:uH a2=true)(sa2:pF a2.bA p=true)(ha3:dG a3)(ia3:uH a3=true)(sa3:pF a3.bA p=true):Ct prog 24 [.ptr 0 0] (BM ⟨c,p,[a1,a2,a3],l0⟩) [] (bool true) []:=by
 refine Ct.B func24 ?_;simp;refine CI.cc [0,1,2,3,4] (qG c p l0 [gG a1,gG a2,gG a3] (by simp) (by simp)) ?_;simp;refine aQ.rounds 4 ?_;refine dE.s ?_;simp;refine CI.cc [2] (zL a1 ha1) ?_ (ha:=by simp[ia1]) (hk:=by simp[ia1]);simp[ia1];refine CI.p (xS a1.bA p ha1.so (A0 ha1) (by omega)) ?_ (ha:=by simp[sa1]);simp[sa1];refine⟨by decide+kernel,?_⟩;refine dE.s ?_;simp;refine CI.cc [3] (zL a2 ha2) ?_ (ha:=by simp[ia2]) (hk:=by simp[ia2]);simp[ia2];refine CI.p (xS a2.bA p ha2.so (A0 ha2) (by omega)) ?_ (ha:=by simp[sa2]);simp[sa2];refine⟨by decide+kernel,?_⟩;refine dE.s ?_;simp;refine CI.cc [4] (zL a3 ha3) ?_ (ha:=by simp[ia3]) (hk:=by simp[ia3]);simp[ia3];refine CI.p (xS a3.bA p ha3.so (A0 ha3) (by omega)) ?_ (ha:=by simp[sa3]);simp[sa3];refine⟨by decide+kernel,?_⟩;refine dE.s ?_;simp;exact⟨[],by constructor<;>simp[aV,aW]⟩
theorem za3 (c:bS)(p:aT)(l0:Int)(a1 a2 a3 a4:G.Node)(hp:p.bV.length<=1000000)(ha1:dG a1)(ia1:uH a1=true)(sa1:pF a1.bA p=true)(ha2:dG a2)(ia2:uH a2=true)(sa2:pF a2.bA p=true)(ha3:dG a3)(ia3:uH a3=true)(sa3:pF a3.bA p=true)(ha4:dG a4)(ia4:uH a4=true)(sa4:pF a4.bA p=true):Ct prog 24 [.ptr 0 0] (BM ⟨c,p,[a1,a2,a3,a4],l0⟩) [] (bool true) []:=by
 refine Ct.B func24 ?_;simp;refine CI.cc [0,1,2,3,4,5] (qG c p l0 [gG a1,gG a2,gG a3,gG a4] (by simp) (by simp)) ?_;simp;refine aQ.rounds 5 ?_;refine dE.s ?_;simp;refine CI.cc [2] (zL a1 ha1) ?_ (ha:=by simp[ia1]) (hk:=by simp[ia1]);simp[ia1];refine CI.p (xS a1.bA p ha1.so (A0 ha1) (by omega)) ?_ (ha:=by simp[sa1]);simp[sa1];refine⟨by decide+kernel,?_⟩;refine dE.s ?_;simp;refine CI.cc [3] (zL a2 ha2) ?_ (ha:=by simp[ia2]) (hk:=by simp[ia2]);simp[ia2];refine CI.p (xS a2.bA p ha2.so (A0 ha2) (by omega)) ?_ (ha:=by simp[sa2]);simp[sa2];refine⟨by decide+kernel,?_⟩;refine dE.s ?_;simp;refine CI.cc [4] (zL a3 ha3) ?_ (ha:=by simp[ia3]) (hk:=by simp[ia3]);simp[ia3];refine CI.p (xS a3.bA p ha3.so (A0 ha3) (by omega)) ?_ (ha:=by simp[sa3]);simp[sa3];refine⟨by decide+kernel,?_⟩;refine dE.s ?_;simp;refine CI.cc [5] (zL a4 ha4) ?_ (ha:=by simp[ia4]) (hk:=by simp[ia4]);simp[ia4];refine CI.p (xS a4.bA p ha4.so (A0 ha4) (by omega)) ?_ (ha:=by simp[sa4]);simp[sa4];refine⟨by decide+kernel,?_⟩;refine dE.s ?_;simp;exact⟨[],by constructor<;>simp[aV,aW]⟩
theorem VN (M:G.bL){B:Int}{k:Nat}(hk:M.ns.length=k)(hM:cN M B)(hs:FU M=true):Ct prog 24 [.ptr 0 0] (BC M.c M.p M.lost (aI M 0 k)) [] (bool true) []:=by
 have hh:=((rB M.p).1 hM.p).2.1;have ok:=hM.ok;have hs:∀n∈M.ns,uH n=true/\pF n.bA M.p=true:=by
  unfold FU at hs;rw[bN,eF]at hs;exact fun n hn=>Bool.and_eq_true_iff.1 (hs.2 n hn)
 have key:Ct prog 24 [.ptr 0 0] (BM M) [] (bool true) []:=by
  clear hk;have n1:=hM.n1;have n4:=hM.n4;clear hM;obtain⟨c,p,ns,l0⟩:=M;simp only at n1 n4 hh ok hs;rcases four n1 n4 with⟨a1,x⟩|⟨a1,a2,x⟩|⟨a1,a2,a3,x⟩|⟨a1,a2,a3,a4,x⟩<;>subst x
  ·exact za6 c p l0 a1 (by omega) (ok a1 (by simp)) (hs a1 (by simp)).1 (hs a1 (by simp)).2
  ·exact za5 c p l0 a1 a2 (by omega) (ok a1 (by simp)) (hs a1 (by simp)).1 (hs a1 (by simp)).2 (ok a2 (by simp)) (hs a2 (by simp)).1 (hs a2 (by simp)).2
  ·exact za4 c p l0 a1 a2 a3 (by omega) (ok a1 (by simp)) (hs a1 (by simp)).1 (hs a1 (by simp)).2 (ok a2 (by simp)) (hs a2 (by simp)).1 (hs a2 (by simp)).2 (ok a3 (by simp)) (hs a3 (by simp)).1 (hs a3 (by simp)).2
  ·exact za3 c p l0 a1 a2 a3 a4 (by omega) (ok a1 (by simp)) (hs a1 (by simp)).1 (hs a1 (by simp)).2 (ok a2 (by simp)) (hs a2 (by simp)).1 (hs a2 (by simp)).2 (ok a3 (by simp)) (hs a3 (by simp)).1 (hs a3 (by simp)).2 (ok a4 (by simp)) (hs a4 (by simp)).1 (hs a4 (by simp)).2
 rw[BM,x7 hk]at key;exact key
end Go.Proofs.YtegplpagkajolaaGreatDoor
