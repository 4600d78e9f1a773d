/-
  LAYER 24: the walks of a mesh's steps, of what is not made, of the laws' example.
-/
import Derived.Test.YtegplpagkajolaaGreatDoorWm
import Derived.Test.YtegplpagkajolaaGreatDoorWh
import Derived.Test.YtegplpagkajolaaGreatDoorPq
import Derived.Test.YtegplpagkajolaaGreatDoorWb
import Derived.Test.YtegplpagkajolaaGreatDoorPl
set_option linter.unusedSimpArgs false
set_option linter.unusedVariables false
set_option maxRecDepth 100000
set_option maxHeartbeats 8000000
namespace Go.Proofs.YtegplpagkajolaaGreatDoor
open Go.AI Go.G Tryz
attribute [simp] ntmps78 results78
theorem AN (b:Nat)(c:bS)(p:aT)(lost:Int)(n:G.Node)(l:List G.Frame)(hn:gF n.dn)(hf:∀f∈l,jB f)(hl:l.length<=1000)(h0:0<=lost)(h1:lost<=1000000000000):Ct prog 114 [.ptr 0 0,.ptr 1 0,int 1,aC (l.map fY)] [] [dW c p lost b,iR n] (.bI []) [dW c p (dP n.dn lost l).2 b,iR {n with dn:=(dP n.dn lost l).1}]:=Ct.rJ (mr:=[]) (pre:=j2 c p) (pre':=j2 c p) (post:=[int lost]) (post':=[int (dP n.dn lost l).2]) rfl fun v=>Ex v c p lost n l hn hf hl h0 h1
theorem AK {n:G.Node}(h:dG n)(lost:Int):(∀f∈fJ n.bA,jB f)/\(fJ n.bA).length<=1/\lost<=(dP n.dn lost (fJ n.bA)).2/\(dP n.dn lost (fJ n.bA)).2<=lost+1/\n.bA.v.bF.length<=1000000:=by
 have f:=Gs h;have d:=GF h.dn lost (fJ n.bA);have S:=lV.1 h.ss;exact⟨f.1,f.2,d.1,by omega,by have:=S.hl;omega⟩
theorem Xa (s:bJ)(c:bS)(p:aT)(l0:Int)(a1:G.Node)(ha1:dG a1)(h0:0<=l0)(h1:l0<=100000000):Ct prog 78 [.ptr 0 0,st (cZ s)] [] (BM ⟨c,p,[a1],l0⟩) (st (eV (oO ⟨c,p,[a1],l0⟩).2)) (BM (oO ⟨c,p,[a1],l0⟩).1):=by
 refine Ct.B func78 ?_;simp;simp only[oO,nG,EM,iB];refine aQ.rounds 2 ?_;have t1:=AK ha1 l0;obtain⟨f1,n1,u1,v1,w1⟩:=t1;refine dE.s ?_;simp;refine CI.p (AQ a1.bA ha1.so w1) ?_;simp;refine CI.cc [0,2,1] (AN 2 c p l0 a1 (fJ a1.bA) ha1.dn f1 (by omega) (by omega) (by omega)) ?_;simp;generalize hl1:(dP a1.dn l0 (fJ a1.bA)).2=l1 at u1 v1⊢;generalize hm1:(fJ a1.bA).length=m1 at n1⊢;have x1:=wrap_i64 (n:=(m1:Int)) (by omega) (by omega);simp[x1];refine dE.s ?_;simp;exact⟨[],by constructor<;>simp[aV,aW]⟩
theorem Wz (s:bJ)(c:bS)(p:aT)(l0:Int)(a1 a2:G.Node)(ha1:dG a1)(ha2:dG a2)(h0:0<=l0)(h1:l0<=100000000):Ct prog 78 [.ptr 0 0,st (cZ s)] [] (BM ⟨c,p,[a1,a2],l0⟩) (st (eV (oO ⟨c,p,[a1,a2],l0⟩).2)) (BM (oO ⟨c,p,[a1,a2],l0⟩).1):=by
 refine Ct.B func78 ?_;simp;simp only[oO,nG,EM,iB];refine aQ.rounds 3 ?_;have t1:=AK ha1 l0;obtain⟨f1,n1,u1,v1,w1⟩:=t1;refine dE.s ?_;simp;refine CI.p (AQ a1.bA ha1.so w1) ?_;simp;refine CI.cc [0,2,1] (AN 2 c p l0 a1 (fJ a1.bA) ha1.dn f1 (by omega) (by omega) (by omega)) ?_;simp;generalize hl1:(dP a1.dn l0 (fJ a1.bA)).2=l1 at u1 v1⊢;generalize hm1:(fJ a1.bA).length=m1 at n1⊢;have x1:=wrap_i64 (n:=(m1:Int)) (by omega) (by omega);simp[x1];have t2:=AK ha2 l1;obtain⟨f2,n2,u2,v2,w2⟩:=t2;refine dE.s ?_;simp;refine CI.p (AQ a2.bA ha2.so w2) ?_;simp;refine CI.cc [0,3,1] (AN 2 c p l1 a2 (fJ a2.bA) ha2.dn f2 (by omega) (by omega) (by omega)) ?_;simp;generalize hl2:(dP a2.dn l1 (fJ a2.bA)).2=l2 at u2 v2⊢;generalize hm2:(fJ a2.bA).length=m2 at n2⊢;have x2:=wrap_i64 (n:=(m1:Int)+(m2:Int)) (by omega) (by omega);simp[x2];refine dE.s ?_;simp;exact⟨[],by constructor<;>simp[aV,aW]⟩
theorem Wy (s:bJ)(c:bS)(p:aT)(l0:Int)(a1 a2 a3:G.Node)(ha1:dG a1)(ha2:dG a2)(ha3:dG a3)(h0:0<=l0)(h1:l0<=100000000):Ct prog 78 [.ptr 0 0,st (cZ s)] [] (BM ⟨c,p,[a1,a2,a3],l0⟩) (st (eV (oO ⟨c,p,[a1,a2,a3],l0⟩).2)) (BM (oO ⟨c,p,[a1,a2,a3],l0⟩).1):=by
 refine Ct.B func78 ?_;simp;simp only[oO,nG,EM,iB];refine aQ.rounds 4 ?_;have t1:=AK ha1 l0;obtain⟨f1,n1,u1,v1,w1⟩:=t1;refine dE.s ?_;simp;refine CI.p (AQ a1.bA ha1.so w1) ?_;simp;refine CI.cc [0,2,1] (AN 2 c p l0 a1 (fJ a1.bA) ha1.dn f1 (by omega) (by omega) (by omega)) ?_;simp;generalize hl1:(dP a1.dn l0 (fJ a1.bA)).2=l1 at u1 v1⊢;generalize hm1:(fJ a1.bA).length=m1 at n1⊢;have x1:=wrap_i64 (n:=(m1:Int)) (by omega) (by omega);simp[x1];have t2:=AK ha2 l1;obtain⟨f2,n2,u2,v2,w2⟩:=t2;refine dE.s ?_;simp;refine CI.p (AQ a2.bA ha2.so w2) ?_;simp;refine CI.cc [0,3,1] (AN 2 c p l1 a2 (fJ a2.bA) ha2.dn f2 (by omega) (by omega) (by omega)) ?_;simp;generalize hl2:(dP a2.dn l1 (fJ a2.bA)).2=l2 at u2 v2⊢;generalize hm2:(fJ a2.bA).length=m2 at n2⊢;have x2:=wrap_i64 (n:=(m1:Int)+(m2:Int)) (by omega) (by omega);simp[x2];have t3:=AK ha3 l2;obtain⟨f3,n3,u3,v3,w3⟩:=t3;refine dE.s ?_;simp;refine CI.p (AQ a3.bA ha3.so w3) ?_;simp;refine CI.cc [0,4,1] (AN 2 c p l2 a3 (fJ a3.bA) ha3.dn f3 (by omega) (by omega) (by omega)) ?_;simp;generalize hl3:(dP a3.dn l2 (fJ a3.bA)).2=l3 at u3 v3⊢;generalize hm3:(fJ a3.bA).length=m3 at n3⊢;have x3:=wrap_i64 (n:=(m1:Int)+(m2:Int)+(m3:Int)) (by omega) (by omega);simp[x3];refine dE.s ?_;simp;exact⟨[],by constructor<;>simp[aV,aW]⟩
theorem Wx (s:bJ)(c:bS)(p:aT)(l0:Int)(a1 a2 a3 a4:G.Node)(ha1:dG a1)(ha2:dG a2)(ha3:dG a3)(ha4:dG a4)(h0:0<=l0)(h1:l0<=100000000):Ct prog 78 [.ptr 0 0,st (cZ s)] [] (BM ⟨c,p,[a1,a2,a3,a4],l0⟩) (st (eV (oO ⟨c,p,[a1,a2,a3,a4],l0⟩).2)) (BM (oO ⟨c,p,[a1,a2,a3,a4],l0⟩).1):=by
 refine Ct.B func78 ?_;simp;simp only[oO,nG,EM,iB];refine aQ.rounds 5 ?_;have t1:=AK ha1 l0;obtain⟨f1,n1,u1,v1,w1⟩:=t1;refine dE.s ?_;simp;refine CI.p (AQ a1.bA ha1.so w1) ?_;simp;refine CI.cc [0,2,1] (AN 2 c p l0 a1 (fJ a1.bA) ha1.dn f1 (by omega) (by omega) (by omega)) ?_;simp;generalize hl1:(dP a1.dn l0 (fJ a1.bA)).2=l1 at u1 v1⊢;generalize hm1:(fJ a1.bA).length=m1 at n1⊢;have x1:=wrap_i64 (n:=(m1:Int)) (by omega) (by omega);simp[x1];have t2:=AK ha2 l1;obtain⟨f2,n2,u2,v2,w2⟩:=t2;refine dE.s ?_;simp;refine CI.p (AQ a2.bA ha2.so w2) ?_;simp;refine CI.cc [0,3,1] (AN 2 c p l1 a2 (fJ a2.bA) ha2.dn f2 (by omega) (by omega) (by omega)) ?_;simp;generalize hl2:(dP a2.dn l1 (fJ a2.bA)).2=l2 at u2 v2⊢;generalize hm2:(fJ a2.bA).length=m2 at n2⊢;have x2:=wrap_i64 (n:=(m1:Int)+(m2:Int)) (by omega) (by omega);simp[x2];have t3:=AK ha3 l2;obtain⟨f3,n3,u3,v3,w3⟩:=t3;refine dE.s ?_;simp;refine CI.p (AQ a3.bA ha3.so w3) ?_;simp;refine CI.cc [0,4,1] (AN 2 c p l2 a3 (fJ a3.bA) ha3.dn f3 (by omega) (by omega) (by omega)) ?_;simp;generalize hl3:(dP a3.dn l2 (fJ a3.bA)).2=l3 at u3 v3⊢;generalize hm3:(fJ a3.bA).length=m3 at n3⊢;have x3:=wrap_i64 (n:=(m1:Int)+(m2:Int)+(m3:Int)) (by omega) (by omega);simp[x3];have t4:=AK ha4 l3;obtain⟨f4,n4,u4,v4,w4⟩:=t4;refine dE.s ?_;simp;refine CI.p (AQ a4.bA ha4.so w4) ?_;simp;refine CI.cc [0,5,1] (AN 2 c p l3 a4 (fJ a4.bA) ha4.dn f4 (by omega) (by omega) (by omega)) ?_;simp;generalize hl4:(dP a4.dn l3 (fJ a4.bA)).2=l4 at u4 v4⊢;generalize hm4:(fJ a4.bA).length=m4 at n4⊢;have x4:=wrap_i64 (n:=(m1:Int)+(m2:Int)+(m3:Int)+(m4:Int)) (by omega) (by omega);simp[x4];refine dE.s ?_;simp;exact⟨[],by constructor<;>simp[aV,aW]⟩
theorem Vf (s:bJ)(c:bS)(p q:aT)(l0 e:Int)(ks:List (List D))(h1:1<=ks.length)(h4:ks.length<=4)(he:¬e=0)(hP:cO eY prog 111 [st (jT p),aC (s.aD.map aK),aC (s.gone.map bP)] [] [] (.bI [st (jT q),int e]) []):
  cO eY prog 77 [.ptr 0 0,st (cZ s)] [] (BC c p l0 ks) (st (eV (fP e))) (BC c q l0 ks):=by
 rcases four h1 h4 with⟨a,x⟩|⟨a,b,x⟩|⟨a,b,d,x⟩|⟨a,b,d,f,x⟩<;>subst x
 all_goals
  refine cO.B lZ func77 ?_;simp;refine CI.j [] hP ?_;simp;refine⟨by decide+kernel,?_⟩;simp[he];exact⟨[],by constructor<;>simp[aV,aW,he,fP,iB]⟩
theorem Vb (M:G.bL)(s:bJ)(B:Int)(hM:cN M B)(hB:B<=100000000)(hs:eK s):cO eY prog 77 [.ptr 0 0,st (cZ s)] [] (BM M) (st (eV (sU M s).2)) (BM (sU M s).1):=by
 have l0:=hM.l0;have l1:=hM.l1;have hm0:=hM.p;have hok:=hM.ok;have hlast:=IA hm0;have hlt:=rW hlast.rX;have hh:=((rB M.p).1 hm0).2.1;have ha:=hs.aD;have hg:=hs.gone;have n1:=hM.n1;have n4:=hM.n4;have hP:=zkV M.p s.aD s.gone (by omega) (by rw[y9 hm0];exact QA hlast.rX) (by rw[y9 hm0];omega) (by omega);rw[y9 hm0]at hP;have hp:=H9 hm0 s.aD s.gone;obtain⟨c,p,ns,lost⟩:=M;unfold sU;dsimp only at*;generalize tC p s.aD s.gone=q at hp hP⊢;generalize rF p s.aD s.gone=e at hP⊢;have hq:=((rB q).1 hp).2.1;by_cases he:e=0
 ·subst he;rw[aH (by simp)];rcases four n1 n4 with⟨a,x⟩|⟨a,b,x⟩|⟨a,b,d,x⟩|⟨a,b,d,f,x⟩<;>subst x
  ·have o1:=hok a (by simp);have u1:=o1.dD c.max hp lost;have P1:=AU 2 c q lost a o1 hp (by omega) (by omega);rcases hA1:gM c.max q lost a with⟨r1,m1,e1⟩
   rw[hA1]at P1 u1;simp only at P1 u1;rw[show mT c.max q [a] lost 0=([r1],m1,e1)from by simp[mT,hA1]];exact Vj s c p q lost m1 _ _ e1 hP (by omega) P1
  ·have o1:=hok a (by simp);have u1:=o1.dD c.max hp lost;have P1:=AU 2 c q lost a o1 hp (by omega) (by omega);rcases hA1:gM c.max q lost a with⟨r1,m1,e1⟩
   rw[hA1]at P1 u1;simp only at P1 u1;have o2:=hok b (by simp);have u2:=o2.dD c.max hp m1;have P2:=AU 2 c q m1 b o2 hp (by omega) (by omega);rcases hA2:gM c.max q m1 b with⟨r2,m2,e2⟩
   rw[hA2]at P2 u2;simp only at P2 u2;rw[show mT c.max q [a,b] lost 0=([r1,r2],m2,if e1=0 then e2 else e1)from by simp[mT,hA1,hA2]];exact Vi s c p q lost m1 m2 _ _ _ _ e1 e2 hP (by omega) P1 P2
  ·have o1:=hok a (by simp);have u1:=o1.dD c.max hp lost;have P1:=AU 2 c q lost a o1 hp (by omega) (by omega);rcases hA1:gM c.max q lost a with⟨r1,m1,e1⟩
   rw[hA1]at P1 u1;simp only at P1 u1;have o2:=hok b (by simp);have u2:=o2.dD c.max hp m1;have P2:=AU 2 c q m1 b o2 hp (by omega) (by omega);rcases hA2:gM c.max q m1 b with⟨r2,m2,e2⟩
   rw[hA2]at P2 u2;simp only at P2 u2;have o3:=hok d (by simp);have u3:=o3.dD c.max hp m2;have P3:=AU 2 c q m2 d o3 hp (by omega) (by omega);rcases hA3:gM c.max q m2 d with⟨r3,m3,e3⟩
   rw[hA3]at P3 u3;simp only at P3 u3;rw[show mT c.max q [a,b,d] lost 0=([r1,r2,r3],m3,if(if e1=0 then e2 else e1)=0 then e3 else(if e1=0 then e2 else e1))from by simp[mT,hA1,hA2,hA3]];exact Vh s c p q lost m1 m2 m3 _ _ _ _ _ _ e1 e2 e3 hP (by omega) P1 P2 P3
  ·have o1:=hok a (by simp);have u1:=o1.dD c.max hp lost;have P1:=AU 2 c q lost a o1 hp (by omega) (by omega);rcases hA1:gM c.max q lost a with⟨r1,m1,e1⟩
   rw[hA1]at P1 u1;simp only at P1 u1;have o2:=hok b (by simp);have u2:=o2.dD c.max hp m1;have P2:=AU 2 c q m1 b o2 hp (by omega) (by omega);rcases hA2:gM c.max q m1 b with⟨r2,m2,e2⟩
   rw[hA2]at P2 u2;simp only at P2 u2;have o3:=hok d (by simp);have u3:=o3.dD c.max hp m2;have P3:=AU 2 c q m2 d o3 hp (by omega) (by omega);rcases hA3:gM c.max q m2 d with⟨r3,m3,e3⟩
   rw[hA3]at P3 u3;simp only at P3 u3;have o4:=hok f (by simp);have u4:=o4.dD c.max hp m3;have P4:=AU 2 c q m3 f o4 hp (by omega) (by omega);rcases hA4:gM c.max q m3 f with⟨r4,m4,e4⟩
   rw[hA4]at P4 u4;simp only at P4 u4;rw[show mT c.max q [a,b,d,f] lost 0=([r1,r2,r3,r4],m4,if(if(if e1=0 then e2 else e1)=0 then e3 else(if e1=0 then e2 else e1))=0 then e4 else(if(if e1=0 then e2 else e1)=0 then e3 else(if e1=0 then e2 else e1)))from by simp[mT,hA1,hA2,hA3,hA4]];exact Vg s c p q lost m1 m2 m3 m4 _ _ _ _ _ _ _ _ e1 e2 e3 e4 hP (by omega) P1 P2 P3 P4
 ·rw[aU he];exact Vf s c p q lost e (ns.map gG) (by simpa using n1) (by simpa using n4) he hP
theorem Ww (M:G.bL)(s:bJ)(B:Int)(hM:cN M B)(hB:B<=100000000):Ct prog 78 [.ptr 0 0,st (cZ s)] [] (BM M) (st (eV (oO M).2)) (BM (oO M).1):=by
 have l0:=hM.l0;have l1:=hM.l1;have hok:=hM.ok;have n1:=hM.n1;have n4:=hM.n4;obtain⟨c,p,ns,lost⟩:=M;dsimp only at*;rcases four n1 n4 with⟨a,x⟩|⟨a,b,x⟩|⟨a,b,d,x⟩|⟨a,b,d,f,x⟩<;>subst x
 ·exact Xa s c p lost a (hok a (by simp)) (by omega) (by omega)
 ·exact Wz s c p lost a b (hok a (by simp)) (hok b (by simp)) (by omega) (by omega)
 ·exact Wy s c p lost a b d (hok a (by simp)) (hok b (by simp)) (hok d (by simp)) (by omega) (by omega)
 ·exact Wx s c p lost a b d f (hok a (by simp)) (hok b (by simp)) (hok d (by simp)) (hok f (by simp)) (by omega) (by omega)
theorem Dk (c:bS)(p q:aT)(lost l':Int)(ks ks':List (List D))(s:bJ)(F:Nat)(o:sQ)(h1:1<=ks.length)(h4:ks.length<=4)(hl:ks'.length=ks.length)(k0:0<=s.kind)(k9:s.kind<=9)(hen:Enters prog F)
  (hW:Ct prog 40 [.ptr 0 0,int s.kind] [] [dW c p lost 1] (.fn (.func F) [.ptr 0 0] []) [dW c p lost 1])
  (hF:cO eY prog F [.ptr 0 0,st (cZ s)] [] (BC c p lost ks) (st (eV o)) (BC c q l' ks')):cO eY prog 12 [.ptr 0 0,st (cZ s)] [] (BC c p lost ks) (st (eV o)) (BC c q l' ks'):=by
 have hne:=L6 k0 k9;rcases four h1 h4 with⟨a,x⟩|⟨a,b,x⟩|⟨a,b,d,x⟩|⟨a,b,d,f,x⟩<;>subst x<;>rcases four (l:=ks') (by omega) (by omega)with⟨a',x⟩|⟨a',b',x⟩|⟨a',b',d',x⟩|⟨a',b',d',f',x⟩<;>subst x
 all_goals first
  | (exfalso;simp at hl;done)
  |skip
 all_goals
  refine cO.B lZ func12 ?_;simp;refine CI.cc [0,1,2,3,4,5] (qG c p lost _ h1 h4) ?_;simp;refine CI.p (L8 s.kind k0 k9) ?_;simp;simp[hne];refine CI.cc [0,1] hW ?_;simp;refine CI.j [0,1,2,3,4,5] hF ?_ (hen:=hen);simp;exact⟨[],by constructor<;>simp[aV,aW]⟩
section
variable (b : Nat) (c : bS) (p : aT) (lost : Int)
theorem zay :Ct prog 42 [.ptr 0 0,int 1] [] [dW c p lost b] (.fn (.func 79) [.ptr 0 0] []) [dW c p lost b]:=Ct.rJ (mr:=[]) (pre:=j2 c p) (pre':=j2 c p) (post:=[int lost]) (post':=[int lost]) rfl fun v=>zax v c p lost
theorem zaw :Ct prog 42 [.ptr 0 0,int 2] [] [dW c p lost b] (.d (.fn (.func 119) [] [.bM [dX 81]])) [dW c p lost b]:=Ct.rJ (mr:=[]) (pre:=j2 c p) (pre':=j2 c p) (post:=[int lost]) (post':=[int lost]) rfl fun v=>zav v c p lost
theorem zau :Ct prog 42 [.ptr 0 0,int 3] [] [dW c p lost b] (.d (.fn (.func 119) [] [.bM [dX 82]])) [dW c p lost b]:=Ct.rJ (mr:=[]) (pre:=j2 c p) (pre':=j2 c p) (post:=[int lost]) (post':=[int lost]) rfl fun v=>zat v c p lost
theorem zas :Ct prog 42 [.ptr 0 0,int 4] [] [dW c p lost b] (.d (.fn (.func 119) [] [.bM [dX 83]])) [dW c p lost b]:=Ct.rJ (mr:=[]) (pre:=j2 c p) (pre':=j2 c p) (post:=[int lost]) (post':=[int lost]) rfl fun v=>zar v c p lost
theorem zaq :Ct prog 42 [.ptr 0 0,int 5] [] [dW c p lost b] (.fn (.func 84) [.ptr 0 0] []) [dW c p lost b]:=Ct.rJ (mr:=[]) (pre:=j2 c p) (pre':=j2 c p) (post:=[int lost]) (post':=[int lost]) rfl fun v=>zap v c p lost
theorem zao :Ct prog 42 [.ptr 0 0,int 7] [] [dW c p lost b] (.fn (.func 85) [.ptr 0 0] []) [dW c p lost b]:=Ct.rJ (mr:=[]) (pre:=j2 c p) (pre':=j2 c p) (post:=[int lost]) (post':=[int lost]) rfl fun v=>zan v c p lost
theorem zam :Ct prog 42 [.ptr 0 0,int 8] [] [dW c p lost b] (.fn (.func 86) [.ptr 0 0] []) [dW c p lost b]:=Ct.rJ (mr:=[]) (pre:=j2 c p) (pre':=j2 c p) (post:=[int lost]) (post':=[int lost]) rfl fun v=>zal v c p lost
theorem zak :Ct prog 42 [.ptr 0 0,int 9] [] [dW c p lost b] (.fn (.func 87) [.ptr 0 0] []) [dW c p lost b]:=Ct.rJ (mr:=[]) (pre:=j2 c p) (pre':=j2 c p) (post:=[int lost]) (post':=[int lost]) rfl fun v=>zaj v c p lost
theorem Ut :Ct prog 40 [.ptr 0 0,int 0] [] [dW c p lost b] (.fn (.func 77) [.ptr 0 0] []) [dW c p lost b]:=Ct.rJ (mr:=[]) (pre:=j2 c p) (pre':=j2 c p) (post:=[int lost]) (post':=[int lost]) rfl fun v=>Us v c p lost
theorem Ur :Ct prog 40 [.ptr 0 0,int 6] [] [dW c p lost b] (.fn (.func 78) [.ptr 0 0] []) [dW c p lost b]:=Ct.rJ (mr:=[]) (pre:=j2 c p) (pre':=j2 c p) (post:=[int lost]) (post':=[int lost]) rfl fun v=>Uq v c p lost
variable (n : G.Node) (s : bJ)
theorem zkv (hn:dG n)(h0:0<=lost)(h1:lost<=1000000000):Ct prog 84 [.ptr 0 0,.ptr 1 0,st (cZ s)] [] [dW c p lost b,iR n] (st (eV (((gD c.max lost n).1,(gD c.max lost n).2.1,fP (gD c.max lost n).2.2)).2.2)) [dW c p (((gD c.max lost n).1,(gD c.max lost n).2.1,fP (gD c.max lost n).2.2)).2.1 b,iR (((gD c.max lost n).1,(gD c.max lost n).2.1,fP (gD c.max lost n).2.2)).1]:=Ct.rJ (mr:=[]) (pre:=j2 c p) (pre':=j2 c p) (post:=[int lost]) (post':=[int (((gD c.max lost n).1,(gD c.max lost n).2.1,fP (gD c.max lost n).2.2)).2.1]) rfl fun v=>zkt v c p lost n s hn h0 (by omega)
theorem zjl (hn:dG n):Ct prog 85 [.ptr 0 0,.ptr 1 0,st (cZ s)] [] [dW c p lost b,iR n] (st (eV (rM lost n s).2.2)) [dW c p (rM lost n s).2.1 b,iR (rM lost n s).1]:=Ct.rJ (mr:=[]) (pre:=j2 c p) (pre':=j2 c p) (post:=[int lost]) (post':=[int (rM lost n s).2.1]) rfl fun v=>zjj v c p lost n s hn
theorem zgQ (hn:dG n)(h0:0<=lost)(h1:lost<=1000000000):Ct prog 86 [.ptr 0 0,.ptr 1 0,st (cZ s)] [] [dW c p lost b,iR n] (st (eV (oE lost n s).2.2)) [dW c p (oE lost n s).2.1 b,iR (oE lost n s).1]:=Ct.rJ (mr:=[]) (pre:=j2 c p) (pre':=j2 c p) (post:=[int lost]) (post':=[int (oE lost n s).2.1]) rfl fun v=>zgP v c p lost n s hn h0 h1
theorem zi2 (hn:dG n)(hp:fN p=true)(h0:0<=lost)(h1:lost<=1000000000)(hw:s.bG=0\/s.bG=1):Ct prog 79 [.ptr 0 0,.ptr 1 0,st (cZ s)] [] [dW c p lost b,iR n] (st (eV (jI c.max p lost n s).2.2)) [dW c p (jI c.max p lost n s).2.1 b,iR (jI c.max p lost n s).1]:=Ct.rJ (mr:=[]) (pre:=j2 c p) (pre':=j2 c p) (post:=[int lost]) (post':=[int (jI c.max p lost n s).2.1]) rfl fun v=>zi1 v c p lost n s hn hp hw h0 h1
theorem Xd (hn:dG n)(hp:fN p=true):Ct prog 87 [.ptr 0 0,.ptr 1 0,st (cZ s)] [] [dW c p lost b,iR n] (st (eV (yZ p lost n).2.2)) [dW c p (yZ p lost n).2.1 b,iR (yZ p lost n).1]:=Ct.rJ (mr:=[]) (pre:=j2 c p) (pre':=j2 c p) (post:=[int lost]) (post':=[int (yZ p lost n).2.1]) rfl fun v=>Xc v c p lost n s hn hp
end
theorem LD (c:bS)(p:aT)(lost:Int)(ns:List G.Node)(s:bJ)(n:G.Node)(F:Nat)(r:NR)(hn:nodeAt ns s.side=some n)(h4:ns.length<=4)(k1:1<=s.kind)(k9:s.kind<=9)(k6:¬s.kind=6)(hw:s.kind<=4->s.bG=0\/s.bG=1)(hen:Enters prog F)
  (hS:Ct prog 42 [.ptr 0 0,int s.kind] [] [dW c p lost 1] (.fn (.func F) [.ptr 0 0] []) [dW c p lost 1])
  (hF:Ct prog F [.ptr 0 0,.ptr 1 0,st (cZ s)] [] [dW c p lost 2,iR n] (st (eV r.2.2)) [dW c p r.2.1 2,iR r.1]):
  cO eY prog 12 [.ptr 0 0,st (cZ s)] [] (BM ⟨c,p,ns,lost⟩) (st (eV r.2.2)) (BM ⟨c,p,ns.set s.side.toNat r.1,r.2.1⟩):=by
 have hi:=L5 hn;have:=Zb c p lost (ns.map gG) s s.side.toNat (gG n) F (gG r.1) r.2.2 r.2.1 k1 k9 k6 hw (by simpa using h4) (by rw[iJ,hi.2.2.2];rfl) (by omega) hen hS hF;rw[<-HI]at this;exact this.HR
theorem U9 (c:bS)(p:aT)(lost:Int)(ns:List G.Node)(s:bJ)(n:G.Node)(kf:Nat)(f:dS->Int->dS×Int)(hf:∀l i,gF l->Ct prog kf [st (kR l),int i] [] [] (.bI [st (kR (f l i).1),int (f l i).2]) [])(hE:Enters prog kf)(ho:dG n)(hn:nodeAt ns s.side=some n)(h4:ns.length<=4)(k1:1<=s.kind)(k4:s.kind<=4)(hw:s.bG=0\/s.bG=1)
  (hS:Ct prog 42 [.ptr 0 0,int s.kind] [] [dW c p lost 1] (.d (.fn (.func 119) [] [.bM [dX kf]])) [dW c p lost 1]):
  cO eY prog 12 [.ptr 0 0,st (cZ s)] [] (BM ⟨c,p,ns,lost⟩) (st (eV (mW f lost n s).2.2)) (BM ⟨c,p,ns.set s.side.toNat (mW f lost n s).1,(mW f lost n s).2.1⟩):=by
 have hi:=L5 hn;have:=Yw c p lost (ns.map gG) s s.side.toNat (gG n) 119 (gG (mW f lost n s).1) (mW f lost n s).2.2 (dX kf) k1 k4 hw (by simpa using h4) (by rw[iJ,hi.2.2.2];rfl) (by omega) call119 hS
  (zgA lost n s (dX kf) f (fun l i hl=>cB.of (hf l i hl) hE rfl rfl) ho hw)
 rw[<-HI]at this;exact this.HR
theorem HT (M:G.bL)(s:bJ)(B:Int)(hM:cN M B)(hB:B<=100000000)(hs:eK s):cO eY prog 12 [.ptr 0 0,st (cZ s)] [] (BM M) (st (eV (bH M s).2)) (BM (bH M s).1):=by
 have l0:=hM.l0;have l1:=hM.l1;have hp:=hM.p;have n1:=hM.n1;have n4:=hM.n4;have hne:M.ns≠[]:=by intro e;rw[e]at n1;simp at n1
 by_cases k0:s.kind=0
 ·rw[Yb hne k0];have hU:=Vb M s B hM hB hs;have hl:(sU M s).1.ns.length=M.ns.length:=by
   unfold sU;dsimp only;split
   ·rfl
   ·exact(LX M.c.max (H9 hp s.aD s.gone) M.ns M.lost 0 hM.ok).2.1
  have hc:(sU M s).1.c=M.c:=by unfold sU;dsimp only;split<;>rfl
  rw[BM,BM,hc]at hU;rw[BM,BM,hc];exact Dk _ _ _ _ _ _ _ s _ _ (by simpa using n1) (by simpa using n4) (by simpa using hl) (by omega) (by omega) call77 (by rw[k0];exact Ut 1 M.c M.p M.lost) hU
 by_cases k6:s.kind=6
 ·have hU:=(Ww M s B hM hB).HR (G:=eY);have hl:(oO M).1.ns.length=M.ns.length:=(LA M.ns M.lost 0 hM.ok).2.1;have e:bH M s=oO M:=by
   unfold bH;rw[aH hne,aH (by omega),aH k0,aU k6]
  rw[e];exact Dk _ _ _ _ _ _ _ s _ _ (by simpa using n1) (by simpa using n4) (by simpa using hl) (by omega) (by omega) call78 (by rw[k6];exact Ur 1 M.c M.p M.lost) hU
 have ha:=hs.a;obtain⟨c,p,ns,lost⟩:=M;have hok:=hM.ok;unfold bH;dsimp only at*;rw[aH hne];by_cases hk:0<=s.kind/\s.kind<=9
 ·rw[aH (by omega),aH k0,aH k6];cases hn:nodeAt ns s.side with
  |none=>
   refine(Yu c p lost (ns.map gG) s (by simpa using n1) (by simpa using n4) (by omega) hk.2 k6 ?_).HR;unfold nodeAt at hn;split at hn
   ·have:=List.getElem?_eq_none_iff.1 hn;exact .inr (by simp;omega)
   ·exact .inl (by omega)
  |some n=>
   have hi:=L5 hn;have on:=hok n hi.1;dsimp only;by_cases hw:s.kind<=4/\(s.bG<0\/2<=s.bG)
   ·rw[aU hw];exact(Yt c p lost (ns.map gG) s s.side.toNat (by simpa using hi.2.2.1) (by simpa using n4) (by omega) (by omega) hw.1 hw.2).HR
   ·rw[aH hw];have hw':s.kind<=4->s.bG=0\/s.bG=1:=fun g=>by omega
    have e:s.kind=1\/s.kind=2\/s.kind=3\/s.kind=4\/s.kind=5\/s.kind=7\/s.kind=8\/s.kind=9:=by omega
    rcases e with e|e|e|e|e|e|e|e
    ·rw[show fC c.max p lost n s=jI c.max p lost n s from by simp[fC,e]];exact LD c p lost ns s n _ (jI c.max p lost n s) hn n4 (by omega) hk.2 k6 hw' call79 (by rw[e];exact zay 1 c p lost) (zi2 2 c p lost n s on hp l0 (by omega) (hw' (by omega)))
    ·rw[show fC c.max p lost n s=mW yM lost n s from by simp[fC,e]];exact U9 c p lost ns s n _ yM zhO call81 on hn n4 (by omega) (by omega) (hw' (by omega)) (by rw[e];exact zaw 1 c p lost)
    ·rw[show fC c.max p lost n s=mW vS lost n s from by simp[fC,e]];exact U9 c p lost ns s n _ vS zkw call82 on hn n4 (by omega) (by omega) (hw' (by omega)) (by rw[e];exact zau 1 c p lost)
    ·rw[show fC c.max p lost n s=mW vH lost n s from by simp[fC,e]];exact U9 c p lost ns s n _ vH zfJ call83 on hn n4 (by omega) (by omega) (hw' (by omega)) (by rw[e];exact zas 1 c p lost)
    ·rw[show fC c.max p lost n s=((gD c.max lost n).1,(gD c.max lost n).2.1,fP (gD c.max lost n).2.2)from by simp[fC,e]];exact LD c p lost ns s n _ (((gD c.max lost n).1,(gD c.max lost n).2.1,fP (gD c.max lost n).2.2)) hn n4 (by omega) hk.2 k6 hw' call84 (by rw[e];exact zaq 1 c p lost) (zkv 2 c p lost n s on l0 (by omega))
    ·rw[show fC c.max p lost n s=rM lost n s from by simp[fC,e]];exact LD c p lost ns s n _ (rM lost n s) hn n4 (by omega) hk.2 k6 hw' call85 (by rw[e];exact zao 1 c p lost) (zjl 2 c p lost n s on)
    ·rw[show fC c.max p lost n s=oE lost n s from by simp[fC,e]];exact LD c p lost ns s n _ (oE lost n s) hn n4 (by omega) hk.2 k6 hw' call86 (by rw[e];exact zam 1 c p lost) (zgQ 2 c p lost n s on l0 (by omega))
    ·rw[show fC c.max p lost n s=yZ p lost n from by simp[fC,e]];exact LD c p lost ns s n _ (yZ p lost n) hn n4 (by omega) hk.2 k6 hw' call87 (by rw[e];exact zak 1 c p lost) (Xd 2 c p lost n s on hp)
 ·rw[aU hk];exact(Yv c p lost (ns.map gG) s (by simpa using n1) (by simpa using n4) hk).HR
attribute [simp] ntmps9 results9 ntmps59 results59 ntmps24 results24
abbrev B1 (M:G.bL):List (Nat×bC):=[dW M.c M.p M.lost 1,(1,.eW [2] 93),XC 2 (nth M 0)]
theorem LJ (M:G.bL):Ct prog 21 [.ptr 0 0] (B1 M) [] (int 1) []:=qG M.c M.p M.lost [gG (nth M 0)] (by simp) (by simp)
theorem Ks (M:G.bL):Ct prog 41 [.ptr 0 0,int 0] (B1 M) [] (.ptr 2 0) []:=IN M.c M.p M.lost [gG (nth M 0)] 0 0 rfl (by simp) (by simp)
theorem uW {M:G.bL}{B:Int}(hM:cN M B)(s:bJ):(bH M s).1.ns.length=M.ns.length:=by
 unfold bH;split
 ·rfl
 split
 ·rfl
 split
 ·unfold sU;dsimp only;split
  ·rfl
  ·exact(LX M.c.max (H9 hM.p s.aD s.gone) M.ns M.lost 0 hM.ok).2.1
 split
 ·exact(LA M.ns M.lost 0 hM.ok).2.1
 split
 ·rfl
 ·split
  ·rfl
  ·simp
theorem Ua {M:G.bL}(hk:M.ns.length=1):BM M=B1 M:=by
 show BC M.c M.p M.lost (M.ns.map gG)=_;rw[W9 hk];rfl
theorem DY (M:G.bL)(s:bJ)(B:Int)(hk:M.ns.length=1)(hM:cN M B)(hB:B<=100000000)(hs:eK s):cO eY prog 12 [.ptr 0 0,st (cZ s)] [] (B1 M) (st (eV (bH M s).2)) (B1 (bH M s).1):=by
 have h:=HT M s B hM hB hs
 rwa[Ua hk,Ua (by rw[uW hM];exact hk)]at h
theorem zL (n:G.Node)(hn:dG n):Ct prog 60 [.ptr 0 0] [(0,.cells ((gG n).map .d) 114)] [] (bool (uH n)) []:=zgn n hn
abbrev BNe (c:bS)(p:aT)(lost:Int)(n:G.Node):List (Nat×bC):=[(64,.cells [int c.qH,int c.cap,int c.iG,int c.max,int p.cap,aC (p.bV.map r9),.own 65,int lost] 92),(65,.eW [66] 93),XC 66 n]
theorem zeK :Ct prog 9 [st (jR ⟨1,9,9,99⟩)] [] [] (.ptr 64 0) (BNe ⟨1,9,9,99⟩ (iA 9) 0 (fZ ⟨1,9,9,99⟩)):=by
 refine Ct.B func9 ?_;simp;refine CI.p (IQ 9) ?_;simp;refine⟨by decide+kernel,?_⟩;refine aQ.un ?_;simp;refine CI.p (wL 9 99) ?_;simp;refine CI.p (wM 0 99) ?_;simp;refine⟨by decide+kernel,?_⟩;refine aQ.Cb mixed (Plain.wI _ _ _ _ _) rfl ?_;refine CI.run 6 400 rfl ?_;simp;refine CI.s (tm:=[(3,.ptr 512 0)]) (mm:=[(512,.cells [int 1,int 9,int 9,int 99,int (iA 9).cap,aC ((iA 9).bV.map r9),.own 2048,int 0] 92),(2048,.eW [1920] 93),(1920,.cells ((gG (fZ ⟨1,9,9,99⟩)).map .d) 114)]) (nx:=2112) [] [] (by constructor<;>simp[fZ,qB]) ?_;refine CI.n ?_;simp;exact⟨[(64,512),(65,2048),(66,1920)],by constructor<;>simp[aV,aW]⟩
theorem Bv (M:G.bL):Ct prog 59 [.ptr 0 0,int 0,int 0] (B1 M) [] (.bI [st (kR (nth M 0).up),bool true]) []:=by
 refine Ct.B func59 ?_;simp;refine CI.cc [0,1,2] (Ks M) ?_;simp;exact⟨[],by constructor<;>simp[aV,aW]⟩
theorem Bu (M:G.bL):Ct prog 59 [.ptr 0 0,int 0,int 1] (B1 M) [] (.bI [st (kR (nth M 0).dn),bool true]) []:=by
 refine Ct.B func59 ?_;simp;refine CI.cc [0,1,2] (Ks M) ?_;simp;exact⟨[],by constructor<;>simp[aV,aW]⟩
theorem Ej (M:G.bL)(B:Int)(hk:M.ns.length=1)(hM:cN M B):Ct prog 24 [.ptr 0 0] (B1 M) [] (bool (FU M)) []:=by
 refine Ct.B func24 ?_;simp;have n0:=Km hM (i:=0) (by omega);have S:=lV.1 n0.ss;have hh:=((rB M.p).1 hM.p).2.1;unfold FU;rw[W9 hk];refine CI.cc [0,1,2] (LJ M) ?_;simp;refine aQ.un ?_;simp;refine CI.cc [2] (zL (nth M 0) n0) ?_;simp;cases h1:uH (nth M 0)with
 |false=>
  simp[h1];first| (refine⟨[],?_,?_,?_,?_,?_,?_,?_⟩<;>simp[aV,aW,h1];done)| (refine⟨by decide+kernel,?_⟩;refine⟨[],?_,?_,?_,?_,?_,?_,?_⟩<;>simp[aV,aW,h1])
 |true=>
  simp[h1];refine CI.p (xS (nth M 0).bA M.p n0.so (by have:=S.hl;omega) (by omega)) ?_;simp;cases h2:pF (nth M 0).bA M.p with
  |false=>
   simp[h2];first| (refine⟨[],?_,?_,?_,?_,?_,?_,?_⟩<;>simp[aV,aW,h1,h2];done)| (refine⟨by decide+kernel,?_⟩;refine⟨[],?_,?_,?_,?_,?_,?_,?_⟩<;>simp[aV,aW,h1,h2])
  |true=>
   simp[h2];refine⟨by decide+kernel,?_⟩;refine aQ.un ?_;simp;exact⟨[],by constructor<;>simp[aV,aW,h1,h2]⟩
attribute [simp] ntmps32 results32
theorem ziX (M:G.bL)(r:Nat)(B:Int)(hk:M.ns.length=1)(hM:cN M B)(hB:B<=230600)(hr:r<=100):cO eY prog 32 [.ptr 0 0,int r] [] (B1 M) (.bI []) (B1 (oH M r)):=by
 refine cO.B lZ func32 ?_;simp;refine aQ.inv mixed rfl (ι:={k:Nat//k<=r}) (fun k=>[(0,.ptr 0 0),(1,int r),(4,int k.1)]) (fun k=>B1 (oH M k.1)) 64 (fun k=>r-k.1) ⟨0,by omega⟩ [] (by constructor<;>simp[oH]) ?_;rintro⟨kk,hk1⟩ B1_ hB;refine CI.n ?_;simp;refine aJ (fun h1=>?_) (fun h1=>?_)<;>simp only[h1]<;>simp<;>(try simp only[nT,nF,dT,dF]at h1)
 ·obtain⟨q1,q2⟩:=NB hk hM kk;generalize hN:oH M kk=N at q1 q2⊢;refine aQ.rounds 2 ?_;refine dE.s ?_;simp;refine CI.cc [0,1,2] (LJ N) ?_;simp;refine aQ.rounds 3 ?_;refine dE.s ?_;simp;refine CI.cc [0,1,2] (Bv N) ?_;simp;refine aQ.inv mixed rfl (ι:={j:Nat//j<=(nth N 0).up.q.length}) (fun k=>[(0,.ptr 0 0),(1,int r),(4,int kk),(5,int 0),(6,int 0),(7,.ptr 1216 0),(9,int k.1)]) (fun k=>B1 (jX N 0 k.1)++[(1216,.cells ((kR (nth N 0).up).map .d) 108)]) 1217 (fun k=>(nth N 0).up.q.length-k.1) ⟨0,by omega⟩ [] (by constructor<;>simp[jX]) ?_;rintro⟨j,hj⟩ B0 hB0;have hlen:(nth N 0).up.q.length<=32:=K2 q1 q2 0;refine CI.n ?_;simp;refine aJ (fun h2=>?_) (fun h2=>?_)<;>simp only[h2]<;>simp<;>(try simp only[nT,nF,dT,dF]at h2)
  ·have hb:=JU q1 q2 (w:=0) (by omega) j;have wj:IntKind.wrap .i64 ((j:Int)+1)=j+1:=wrap_i64 (by omega) (by omega);generalize hbk:jX N 0 j=K at hb⊢;refine CI.j [0,1,2] (DY K (l6 0) _ hb.1 hb.2 (by omega) (L2 0)) ?_ (ha:=by simp[l6,cQ]) (hk:=by simp[l6,cQ]);simp[l6,cQ];refine hB0 _ ⟨j+1,by omega⟩ [] ?_ (by simp;omega);constructor<;>simp[jX,hbk,l6,cQ,wj]
  ·have e:j=(nth N 0).up.q.length:=by omega
   subst e;have hw0:(jX N 0 (nth N 0).up.q.length).ns.length=1/\cN (jX N 0 (nth N 0).up.q.length) (B+768*kk+384):=JT q1 q2 (w:=0) (.inl rfl);generalize hW:jX N 0 (nth N 0).up.q.length=W at hw0⊢;obtain⟨p1,p2⟩:=hw0;refine dE.s ?_;simp;refine CI.cc [0,1,2] (Bu W) ?_;simp;refine aQ.inv mixed rfl (ι:={j:Nat//j<=(nth W 0).dn.q.length}) (fun k=>[(0,.ptr 0 0),(1,int r),(4,int kk),(5,int 0),(6,int 1),(7,.ptr 2305 0),(9,int k.1)]) (fun k=>B1 (jX W 1 k.1)++[(2305,.cells ((kR (nth W 0).dn).map .d) 108)]) 2306 (fun k=>(nth W 0).dn.q.length-k.1) ⟨0,by omega⟩ [] (by constructor<;>simp[jX]) ?_;rintro⟨j,hj⟩ B1 hB1;have hlen:(nth W 0).dn.q.length<=32:=K2 p1 p2 1;refine CI.n ?_;simp;refine aJ (fun h2=>?_) (fun h2=>?_)<;>simp only[h2]<;>simp<;>(try simp only[nT,nF,dT,dF]at h2)
   ·have hb:=JU p1 p2 (w:=1) (by omega) j;have wj:IntKind.wrap .i64 ((j:Int)+1)=j+1:=wrap_i64 (by omega) (by omega);generalize hbk:jX W 1 j=K at hb⊢;refine CI.j [0,1,2] (DY K (l6 1) _ hb.1 hb.2 (by omega) (L2 1)) ?_ (ha:=by simp[l6,cQ]) (hk:=by simp[l6,cQ]);simp[l6,cQ];refine hB1 _ ⟨j+1,by omega⟩ [] ?_ (by simp;omega);constructor<;>simp[jX,hbk,l6,cQ,wj]
   ·have e:j=(nth W 0).dn.q.length:=by omega
    subst e;have hw1:(jX W 1 (nth W 0).dn.q.length).ns.length=1/\cN (jX W 1 (nth W 0).dn.q.length) (B+768*kk+384+384):=JT p1 p2 (w:=1) (.inr rfl);have hR:oH M (kk+1)=jX W 1 (nth W 0).dn.q.length:=by
     have e1:oH M (kk+1)=BE (BE (oH M kk) 0) 1:=rfl;have e2:BE (oH M kk) 0=W:=by rw[hN,<-hW];rfl
     rw[e1,e2];rfl
    rw[<-hR]at hw1⊢;generalize hV:oH M (kk+1)=V at hw1⊢;have wk:IntKind.wrap .i64 ((kk:Int)+1)=kk+1:=wrap_i64 (by omega) (by omega);refine dE.s ?_;simp;refine dE.s ?_;simp;refine CI.cc [0,1,2] (LJ V) ?_;simp;refine hB _ ⟨kk+1,by omega⟩ [] ?_ (by simp;omega);constructor<;>simp[wk,hV]
 ·have e:kk=r:=by omega
  subst e;exact⟨[],by constructor<;>simp[aV,aW]⟩
attribute [simp] ntmps21 results21 ntmps41 results41 ntmps12 results12 ntmps13 results13 ntmps59 results59 ntmps31 results31 ntmps24 results24 ntmps20 results20 ntmps69 results69 ntmps35 results35 ntmps28 results28 ntmps30 results30
theorem zaf :Ct prog 69 [] [] [] (aC (FT.map aK)) []:=by
 refine Ct.B func69 ?_;simp;refine CI.L1 [256] 99 400 rfl rfl (by first|exact .inl rfl|exact .inr ⟨_,_,rfl,by simp⟩|exact .inr ⟨_,_,rfl,by simp[*]⟩) (by simp) ?_;simp[zO,pX];refine CI.L1 [384,576] 99 400 rfl rfl (by first|exact .inl rfl|exact .inr ⟨_,_,rfl,by simp⟩|exact .inr ⟨_,_,rfl,by simp[*]⟩) (by simp) ?_;simp[zO,pX];exact aB (by simp[FT]) rfl
attribute [simp] ntmps27 results27
abbrev BN (M:G.bL):List (Nat×bC):=[(64,.cells [int M.c.qH,int M.c.cap,int M.c.iG,int M.c.max,int M.p.cap,aC (M.p.bV.map r9),.own 65,int M.lost] 92),(65,.eW [66] 93),XC 66 (nth M 0)]
theorem Lf :Ct prog 9 [st (jR ⟨1,9,9,99⟩)] [] [] (.ptr 64 0) (BN G7):=zeK
theorem Fx :cO eY prog 12 [.ptr 0 0,st [iD 5,iD 0,iD 0,iD 0,lD [],lD [],iD 0,sD ⟨#[]⟩,sD ⟨#[]⟩,iD 0,iD 0]] [] (B1 G7) (st (eV (bH G7 FX).2)) (B1 E9):=DY G7 FX 0 I7 Jw (by omega) Jh
theorem Fy :cO eY prog 12 [.ptr 0 0,st [iD 0,iD 0,iD 0,iD 0,lD (FT.map aK),lD [],iD 0,sD ⟨#[]⟩,sD ⟨#[]⟩,iD 0,iD 0]] [] (B1 E9) (st (eV Tu)) (B1 E8):=DY E9 D7 12 Nb Jv (by omega) Jc
theorem Fw :cO eY prog 12 [.ptr 0 0,st [iD 7,iD 0,iD 0,iD 0,lD [],lD [],iD 80,sD ⟨#[104]⟩,sD ⟨#[47]⟩,iD 0,iD 0]] [] (B1 C6) (st (eV Ts)) (B1 J3):=DY C6 FZ 10000 Na Ju (by omega) Jp
theorem AO (k:Nat)(hk:k<=10):cO eY prog 12 [.ptr 0 0,st [iD 8,iD 0,iD 0,iD 0,lD [],lD [],iD 0,sD ⟨#[]⟩,sD ⟨#[]⟩,iD 0,iD 0]] [] (B1 (aG k)) (st (eV (aO (k+1)))) (B1 (aG (k+1))):=DY (aG k) FY _ (RA k) (QF k) (by omega) Jm
theorem b8a :cO eY prog 32 [.ptr 0 0,int 8] [] (B1 E8) (.bI []) (B1 C6):=ziX E8 8 24 RC QG (by omega) (by omega)
theorem JW :cO eY prog 27 [] [] [] (bool true) []:=by
 refine cO.B lZ func27 ?_;simp;refine CI.cc [] Lf ?_;simp;refine CI.j [192,193,194] Fx ?_;simp;refine CI.p zaf ?_;simp;refine CI.j [192,193,194] Fy ?_;simp;refine CI.j [192,193,194] b8a ?_;simp;refine CI.j [192,193,194] Fw ?_;simp;rw[show J3=aG 0 from rfl];refine aQ.rounds 6 ?_;refine dE.s ?_;simp;refine CI.j [192,193,194] (AO 0 (by omega)) ?_;simp;refine dE.s ?_;simp;refine CI.j [192,193,194] (AO 1 (by omega)) ?_;simp;refine dE.s ?_;simp;refine CI.j [192,193,194] (AO 2 (by omega)) ?_;simp;refine dE.s ?_;simp;refine CI.j [192,193,194] (AO 3 (by omega)) ?_;simp;refine dE.s ?_;simp;refine CI.j [192,193,194] (AO 4 (by omega)) ?_;simp;have a1:(aO 5).n=1:=E4.1;have a2:(aO 5).iT.nD=3:=by rw[E4.2]
 have a3:(aO 5).iT.gI=⟨#[99]⟩:=by rw[E4.2]
 have a4:(aO 5).iT.host=7:=by rw[E4.2]
 refine dE.s ?_;simp[Tt,Tr,a1,a2,a3,a4];refine CI.cc [192,193,194] (Ej (aG 5) _ (RA 5) (QF 5)) ?_;simp;exact aB (by simp[Sm]) rfl
end Go.Proofs.YtegplpagkajolaaGreatDoor
