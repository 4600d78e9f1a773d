/- LAYER 24, walked (2) -/
import Derived.Test.YtobcmagefgdgdaaGreatDoorWma
import Derived.Test.YtobcmagefgdgdaaGreatDoorWx
import Derived.Test.YtobcmagefgdgdaaGreatDoorPr
set_option linter.unusedSimpArgs false
set_option linter.unusedVariables false
set_option maxRecDepth 100000
set_option maxHeartbeats 8000000
namespace Go.Proofs.YtobcmagefgdgdaaGreatDoor
open Go.AI Go.G Tryz
attribute [simp] ntmps101 results101
theorem zL (b:Nat)(c:bT)(p:aW)(lost:Int)(n:G.Node)(l:List G.Frame)(hn:eA n.dn)(hf:∀f∈l,fJ f)(hl:l.length<=1000)(h0:0<=lost)(h1:lost<=1000000000000):C1 160 [.ptr 0 0,.ptr 1 0,int 1,aB (l.map cA)] [] [dC c p lost b,iE n] (.aU []) [dC c p (fM n.dn lost l).2 b,iE {n with dn:=(fM n.dn lost l).1}]:=Ct.rH (mr:=[]) (pre:=jL c p) (pre':=jL c p) (post:=[int lost]) (post':=[int (fM n.dn lost l).2]) rfl λv=>Ef v c p lost n l hn hf hl h0 h1
theorem zJ {n:G.Node}(h:cF n)(lost:Int):(∀f∈eO n.bF,fJ f)/\(eO n.bF).length<=1/\lost<=(fM n.dn lost (eO n.bF)).2/\(fM n.dn lost (eO n.bF)).2<=lost+1/\n.bF.v.aP.length<=1000000:=by
 have f:=OX h;have d:=DL h.dn lost (eO n.bF);have S:=mQ.1 h.ss;exact⟨f.1,f.2,d.1,by omega,by have:=S.hl;omega⟩
theorem Wh (s:cB)(c:bT)(p:aW)(l0:Int)(a1:G.Node)(ha1:cF a1)(h0:0<=l0)(h1:l0<=100000000):C1 101 [.ptr 0 0,st (eD s)] [] (BM ⟨c,p,[a1],l0⟩) (st (dV (lE ⟨c,p,[a1],l0⟩).2)) (BM (lE ⟨c,p,[a1],l0⟩).1):=by
 refine Ct.B func101 ?_;simp;simp only[lE,gQ,E7,cU];refine aH.rounds 2 ?_;have t1:=zJ ha1 l0;obtain⟨f1,n1,u1,v1,w1⟩:=t1;refine cC.s ?_;simp;refine CI.p (zO a1.bF ha1.so w1) ?_;simp;refine CI.cc [0,2,1] (zL 2 c p l0 a1 (eO a1.bF) ha1.dn f1 (by omega) (by omega) (by omega)) ?_;simp;generalize hl1:(fM a1.dn l0 (eO a1.bF)).2=l1 at u1 v1⊢;generalize hm1:(eO a1.bF).length=m1 at n1⊢;have x1:=wz ((m1:Int));simp[x1];refine cC.s ?_;simp;exact⟨[],by constructor<;>simp[aI,aJ]⟩
theorem Wg (s:cB)(c:bT)(p:aW)(l0:Int)(a1 a2:G.Node)(ha1:cF a1)(ha2:cF a2)(h0:0<=l0)(h1:l0<=100000000):C1 101 [.ptr 0 0,st (eD s)] [] (BM ⟨c,p,[a1,a2],l0⟩) (st (dV (lE ⟨c,p,[a1,a2],l0⟩).2)) (BM (lE ⟨c,p,[a1,a2],l0⟩).1):=by
 refine Ct.B func101 ?_;simp;simp only[lE,gQ,E7,cU];refine aH.rounds 3 ?_;have t1:=zJ ha1 l0;obtain⟨f1,n1,u1,v1,w1⟩:=t1;refine cC.s ?_;simp;refine CI.p (zO a1.bF ha1.so w1) ?_;simp;refine CI.cc [0,2,1] (zL 2 c p l0 a1 (eO a1.bF) ha1.dn f1 (by omega) (by omega) (by omega)) ?_;simp;generalize hl1:(fM a1.dn l0 (eO a1.bF)).2=l1 at u1 v1⊢;generalize hm1:(eO a1.bF).length=m1 at n1⊢;have x1:=wz ((m1:Int));simp[x1];have t2:=zJ ha2 l1;obtain⟨f2,n2,u2,v2,w2⟩:=t2;refine cC.s ?_;simp;refine CI.p (zO a2.bF ha2.so w2) ?_;simp;refine CI.cc [0,3,1] (zL 2 c p l1 a2 (eO a2.bF) ha2.dn f2 (by omega) (by omega) (by omega)) ?_;simp;generalize hl2:(fM a2.dn l1 (eO a2.bF)).2=l2 at u2 v2⊢;generalize hm2:(eO a2.bF).length=m2 at n2⊢;have x2:=wz ((m1:Int)+(m2:Int));simp[x2];refine cC.s ?_;simp;exact⟨[],by constructor<;>simp[aI,aJ]⟩
theorem We (s:cB)(c:bT)(p:aW)(l0:Int)(a1 a2 a3:G.Node)(ha1:cF a1)(ha2:cF a2)(ha3:cF a3)(h0:0<=l0)(h1:l0<=100000000):C1 101 [.ptr 0 0,st (eD s)] [] (BM ⟨c,p,[a1,a2,a3],l0⟩) (st (dV (lE ⟨c,p,[a1,a2,a3],l0⟩).2)) (BM (lE ⟨c,p,[a1,a2,a3],l0⟩).1):=by
 refine Ct.B func101 ?_;simp;simp only[lE,gQ,E7,cU];refine aH.rounds 4 ?_;have t1:=zJ ha1 l0;obtain⟨f1,n1,u1,v1,w1⟩:=t1;refine cC.s ?_;simp;refine CI.p (zO a1.bF ha1.so w1) ?_;simp;refine CI.cc [0,2,1] (zL 2 c p l0 a1 (eO a1.bF) ha1.dn f1 (by omega) (by omega) (by omega)) ?_;simp;generalize hl1:(fM a1.dn l0 (eO a1.bF)).2=l1 at u1 v1⊢;generalize hm1:(eO a1.bF).length=m1 at n1⊢;have x1:=wz ((m1:Int));simp[x1];have t2:=zJ ha2 l1;obtain⟨f2,n2,u2,v2,w2⟩:=t2;refine cC.s ?_;simp;refine CI.p (zO a2.bF ha2.so w2) ?_;simp;refine CI.cc [0,3,1] (zL 2 c p l1 a2 (eO a2.bF) ha2.dn f2 (by omega) (by omega) (by omega)) ?_;simp;generalize hl2:(fM a2.dn l1 (eO a2.bF)).2=l2 at u2 v2⊢;generalize hm2:(eO a2.bF).length=m2 at n2⊢;have x2:=wz ((m1:Int)+(m2:Int));simp[x2];have t3:=zJ ha3 l2;obtain⟨f3,n3,u3,v3,w3⟩:=t3;refine cC.s ?_;simp;refine CI.p (zO a3.bF ha3.so w3) ?_;simp;refine CI.cc [0,4,1] (zL 2 c p l2 a3 (eO a3.bF) ha3.dn f3 (by omega) (by omega) (by omega)) ?_;simp;generalize hl3:(fM a3.dn l2 (eO a3.bF)).2=l3 at u3 v3⊢;generalize hm3:(eO a3.bF).length=m3 at n3⊢;have x3:=wz ((m1:Int)+(m2:Int)+(m3:Int));simp[x3];refine cC.s ?_;simp;exact⟨[],by constructor<;>simp[aI,aJ]⟩
theorem Wd (s:cB)(c:bT)(p:aW)(l0:Int)(a1 a2 a3 a4:G.Node)(ha1:cF a1)(ha2:cF a2)(ha3:cF a3)(ha4:cF a4)(h0:0<=l0)(h1:l0<=100000000):C1 101 [.ptr 0 0,st (eD s)] [] (BM ⟨c,p,[a1,a2,a3,a4],l0⟩) (st (dV (lE ⟨c,p,[a1,a2,a3,a4],l0⟩).2)) (BM (lE ⟨c,p,[a1,a2,a3,a4],l0⟩).1):=by
 refine Ct.B func101 ?_;simp;simp only[lE,gQ,E7,cU];refine aH.rounds 5 ?_;have t1:=zJ ha1 l0;obtain⟨f1,n1,u1,v1,w1⟩:=t1;refine cC.s ?_;simp;refine CI.p (zO a1.bF ha1.so w1) ?_;simp;refine CI.cc [0,2,1] (zL 2 c p l0 a1 (eO a1.bF) ha1.dn f1 (by omega) (by omega) (by omega)) ?_;simp;generalize hl1:(fM a1.dn l0 (eO a1.bF)).2=l1 at u1 v1⊢;generalize hm1:(eO a1.bF).length=m1 at n1⊢;have x1:=wz ((m1:Int));simp[x1];have t2:=zJ ha2 l1;obtain⟨f2,n2,u2,v2,w2⟩:=t2;refine cC.s ?_;simp;refine CI.p (zO a2.bF ha2.so w2) ?_;simp;refine CI.cc [0,3,1] (zL 2 c p l1 a2 (eO a2.bF) ha2.dn f2 (by omega) (by omega) (by omega)) ?_;simp;generalize hl2:(fM a2.dn l1 (eO a2.bF)).2=l2 at u2 v2⊢;generalize hm2:(eO a2.bF).length=m2 at n2⊢;have x2:=wz ((m1:Int)+(m2:Int));simp[x2];have t3:=zJ ha3 l2;obtain⟨f3,n3,u3,v3,w3⟩:=t3;refine cC.s ?_;simp;refine CI.p (zO a3.bF ha3.so w3) ?_;simp;refine CI.cc [0,4,1] (zL 2 c p l2 a3 (eO a3.bF) ha3.dn f3 (by omega) (by omega) (by omega)) ?_;simp;generalize hl3:(fM a3.dn l2 (eO a3.bF)).2=l3 at u3 v3⊢;generalize hm3:(eO a3.bF).length=m3 at n3⊢;have x3:=wz ((m1:Int)+(m2:Int)+(m3:Int));simp[x3];have t4:=zJ ha4 l3;obtain⟨f4,n4,u4,v4,w4⟩:=t4;refine cC.s ?_;simp;refine CI.p (zO a4.bF ha4.so w4) ?_;simp;refine CI.cc [0,5,1] (zL 2 c p l3 a4 (eO a4.bF) ha4.dn f4 (by omega) (by omega) (by omega)) ?_;simp;generalize hl4:(fM a4.dn l3 (eO a4.bF)).2=l4 at u4 v4⊢;generalize hm4:(eO a4.bF).length=m4 at n4⊢;have x4:=wz ((m1:Int)+(m2:Int)+(m3:Int)+(m4:Int));simp[x4];refine cC.s ?_;simp;exact⟨[],by constructor<;>simp[aI,aJ]⟩
theorem Ux (s:cB)(c:bT)(p q:aW)(l0 e:Int)(ks:List (List D))(h1:1<=ks.length)(h4:ks.length<=4)(he:¬e=0)(hP:eL i6 prog 157 [st (eW p),aB (s.aD.map aF),aB (s.gone.map aQ)] [] [] (.aU [st (eW q),int e]) []):
  eL i6 prog 100 [.ptr 0 0,st (eD s)] [] (BC c p l0 ks) (st (dV (cG e))) (BC c q l0 ks):=by
 rcases four h1 h4 with⟨a,x⟩|⟨a,b,x⟩|⟨a,b,d,x⟩|⟨a,b,d,f,x⟩<;>subst x
 all_goals
  refine eL.B xY func100 ?_;simp;refine CI.j [] hP ?_;simp;refine dr ?_;simp[he];exact⟨[],by constructor<;>simp[aI,aJ,he,cG,cU]⟩
theorem Ut (M:G.cX)(s:cB)(B:Int)(hM:fQ M B)(hB:B<=100000000)(hs:rO s):eL i6 prog 100 [.ptr 0 0,st (eD s)] [] (BM M) (st (dV (mZ M s).2)) (BM (mZ M s).1):=by
 have l0:=hM.l0;have l1:=hM.l1;have hm0:=hM.p;have hok:=hM.ok;have hlast:=VI hm0;have hlt:=vZ hlast.GN;have hh:=((oW M.p).1 hm0).2.1;have ha:=hs.aD;have hg:=hs.gone;have n1:=hM.n1;have n4:=hM.n4;have hP:=zlw M.p s.aD s.gone (by omega) (by rw[GZ hm0];exact WL hlast.GN) (by rw[GZ hm0];omega) (by omega);rw[GZ hm0]at hP;have hp:=EU hm0 s.aD s.gone;obtain⟨c,p,ns,lost⟩:=M;unfold mZ;dsimp only at*;generalize oY p s.aD s.gone=q at hp hP⊢;generalize oZ p s.aD s.gone=e at hP⊢;have hq:=((oW q).1 hp).2.1;by_cases he:e=0
 ·subst he;rw[aT (by simp)];rcases four n1 n4 with⟨a,x⟩|⟨a,b,x⟩|⟨a,b,d,x⟩|⟨a,b,d,f,x⟩<;>subst x
  ·have o1:=hok a (by simp);have u1:=o1.iL c.max hp lost;have P1:=zR 2 c q lost a o1 hp (by omega) (by omega);rcases hA1:iK c.max q lost a with⟨r1,m1,e1⟩
   rw[hA1]at P1 u1;simp only at P1 u1;rw[show fX c.max q [a] lost 0=([r1],m1,e1)from by simp[fX,hA1]];exact Vb s c p q lost m1 _ _ e1 hP (by omega) P1
  ·have o1:=hok a (by simp);have u1:=o1.iL c.max hp lost;have P1:=zR 2 c q lost a o1 hp (by omega) (by omega);rcases hA1:iK c.max q lost a with⟨r1,m1,e1⟩
   rw[hA1]at P1 u1;simp only at P1 u1;have o2:=hok b (by simp);have u2:=o2.iL c.max hp m1;have P2:=zR 2 c q m1 b o2 hp (by omega) (by omega);rcases hA2:iK c.max q m1 b with⟨r2,m2,e2⟩
   rw[hA2]at P2 u2;simp only at P2 u2;rw[show fX c.max q [a,b] lost 0=([r1,r2],m2,if e1=0 then e2 else e1)from by simp[fX,hA1,hA2]];exact Va s c p q lost m1 m2 _ _ _ _ e1 e2 hP (by omega) P1 P2
  ·have o1:=hok a (by simp);have u1:=o1.iL c.max hp lost;have P1:=zR 2 c q lost a o1 hp (by omega) (by omega);rcases hA1:iK c.max q lost a with⟨r1,m1,e1⟩
   rw[hA1]at P1 u1;simp only at P1 u1;have o2:=hok b (by simp);have u2:=o2.iL c.max hp m1;have P2:=zR 2 c q m1 b o2 hp (by omega) (by omega);rcases hA2:iK c.max q m1 b with⟨r2,m2,e2⟩
   rw[hA2]at P2 u2;simp only at P2 u2;have o3:=hok d (by simp);have u3:=o3.iL c.max hp m2;have P3:=zR 2 c q m2 d o3 hp (by omega) (by omega);rcases hA3:iK c.max q m2 d with⟨r3,m3,e3⟩
   rw[hA3]at P3 u3;simp only at P3 u3;rw[show fX c.max q [a,b,d] lost 0=([r1,r2,r3],m3,if(if e1=0 then e2 else e1)=0 then e3 else(if e1=0 then e2 else e1))from by simp[fX,hA1,hA2,hA3]];exact Uz s c p q lost m1 m2 m3 _ _ _ _ _ _ e1 e2 e3 hP (by omega) P1 P2 P3
  ·have o1:=hok a (by simp);have u1:=o1.iL c.max hp lost;have P1:=zR 2 c q lost a o1 hp (by omega) (by omega);rcases hA1:iK c.max q lost a with⟨r1,m1,e1⟩
   rw[hA1]at P1 u1;simp only at P1 u1;have o2:=hok b (by simp);have u2:=o2.iL c.max hp m1;have P2:=zR 2 c q m1 b o2 hp (by omega) (by omega);rcases hA2:iK c.max q m1 b with⟨r2,m2,e2⟩
   rw[hA2]at P2 u2;simp only at P2 u2;have o3:=hok d (by simp);have u3:=o3.iL c.max hp m2;have P3:=zR 2 c q m2 d o3 hp (by omega) (by omega);rcases hA3:iK c.max q m2 d with⟨r3,m3,e3⟩
   rw[hA3]at P3 u3;simp only at P3 u3;have o4:=hok f (by simp);have u4:=o4.iL c.max hp m3;have P4:=zR 2 c q m3 f o4 hp (by omega) (by omega);rcases hA4:iK c.max q m3 f with⟨r4,m4,e4⟩
   rw[hA4]at P4 u4;simp only at P4 u4;rw[show fX c.max q [a,b,d,f] lost 0=([r1,r2,r3,r4],m4,if(if(if e1=0 then e2 else e1)=0 then e3 else(if e1=0 then e2 else e1))=0 then e4 else(if(if e1=0 then e2 else e1)=0 then e3 else(if e1=0 then e2 else e1)))from by simp[fX,hA1,hA2,hA3,hA4]];exact Uy s c p q lost m1 m2 m3 m4 _ _ _ _ _ _ _ _ e1 e2 e3 e4 hP (by omega) P1 P2 P3 P4
 ·rw[aZ he];exact Ux s c p q lost e (ns.map dZ) (by simpa using n1) (by simpa using n4) he hP
theorem Wa (M:G.cX)(s:cB)(B:Int)(hM:fQ M B)(hB:B<=100000000):C1 101 [.ptr 0 0,st (eD s)] [] (BM M) (st (dV (lE M).2)) (BM (lE M).1):=by
 have l0:=hM.l0;have l1:=hM.l1;have hok:=hM.ok;have n1:=hM.n1;have n4:=hM.n4;obtain⟨c,p,ns,lost⟩:=M;dsimp only at*;rcases four n1 n4 with⟨a,x⟩|⟨a,b,x⟩|⟨a,b,d,x⟩|⟨a,b,d,f,x⟩<;>subst x
 ·exact Wh s c p lost a (hok a (by simp)) (by omega) (by omega)
 ·exact Wg s c p lost a b (hok a (by simp)) (hok b (by simp)) (by omega) (by omega)
 ·exact We s c p lost a b d (hok a (by simp)) (hok b (by simp)) (hok d (by simp)) (by omega) (by omega)
 ·exact Wd s c p lost a b d f (hok a (by simp)) (hok b (by simp)) (hok d (by simp)) (hok f (by simp)) (by omega) (by omega)
theorem Cz (c:bT)(p q:aW)(lost l':Int)(ks ks':List (List D))(s:cB)(F:Nat)(o:sJ)(h1:1<=ks.length)(h4:ks.length<=4)(hl:ks'.length=ks.length)(k0:0<=s.kind)(k9:s.kind<=9)(hen:Enters prog F)
  (hW:C1 60 [.ptr 0 0,int s.kind] [] [dC c p lost 1] (.fn (.func F) [.ptr 0 0] []) [dC c p lost 1])
  (hF:eL i6 prog F [.ptr 0 0,st (eD s)] [] (BC c p lost ks) (st (dV o)) (BC c q l' ks')):eL i6 prog 25 [.ptr 0 0,st (eD s)] [] (BC c p lost ks) (st (dV o)) (BC c q l' ks'):=by
 have hne:=KV k0 k9;rcases four h1 h4 with⟨a,x⟩|⟨a,b,x⟩|⟨a,b,d,x⟩|⟨a,b,d,f,x⟩<;>subst x<;>rcases four (l:=ks') (by omega) (by omega)with⟨a',x⟩|⟨a',b',x⟩|⟨a',b',d',x⟩|⟨a',b',d',f',x⟩<;>subst x
 all_goals first
  | (exfalso;simp at hl;done)
  |skip
 all_goals
  refine eL.B xY func25 ?_;simp;refine CI.cc [0,1,2,3,4,5] (uV c p lost _ h1 h4) ?_;simp;refine CI.p (KX s.kind k0 k9) ?_;simp;simp[hne];refine CI.cc [0,1] hW ?_;simp;refine CI.j [0,1,2,3,4,5] hF ?_ (hen:=hen);simp;exact⟨[],by constructor<;>simp[aI,aJ]⟩
section
variable (b : Nat) (c : bT) (p : aW) (lost : Int)
theorem zan :C1 62 [.ptr 0 0,int 1] [] [dC c p lost b] (.fn (.func 102) [.ptr 0 0] []) [dC c p lost b]:=Ct.rH (mr:=[]) (pre:=jL c p) (pre':=jL c p) (post:=[int lost]) (post':=[int lost]) rfl λv=>zam v c p lost
theorem zal :C1 62 [.ptr 0 0,int 2] [] [dC c p lost b] (.d (.fn (.func 165) [] [.bE [dE 104]])) [dC c p lost b]:=Ct.rH (mr:=[]) (pre:=jL c p) (pre':=jL c p) (post:=[int lost]) (post':=[int lost]) rfl λv=>zak v c p lost
theorem zaj :C1 62 [.ptr 0 0,int 3] [] [dC c p lost b] (.d (.fn (.func 165) [] [.bE [dE 105]])) [dC c p lost b]:=Ct.rH (mr:=[]) (pre:=jL c p) (pre':=jL c p) (post:=[int lost]) (post':=[int lost]) rfl λv=>zai v c p lost
theorem zah :C1 62 [.ptr 0 0,int 4] [] [dC c p lost b] (.d (.fn (.func 165) [] [.bE [dE 106]])) [dC c p lost b]:=Ct.rH (mr:=[]) (pre:=jL c p) (pre':=jL c p) (post:=[int lost]) (post':=[int lost]) rfl λv=>zag v c p lost
theorem zaf :C1 62 [.ptr 0 0,int 5] [] [dC c p lost b] (.fn (.func 107) [.ptr 0 0] []) [dC c p lost b]:=Ct.rH (mr:=[]) (pre:=jL c p) (pre':=jL c p) (post:=[int lost]) (post':=[int lost]) rfl λv=>zae v c p lost
theorem zad :C1 62 [.ptr 0 0,int 7] [] [dC c p lost b] (.fn (.func 108) [.ptr 0 0] []) [dC c p lost b]:=Ct.rH (mr:=[]) (pre:=jL c p) (pre':=jL c p) (post:=[int lost]) (post':=[int lost]) rfl λv=>zac v c p lost
theorem zab :C1 62 [.ptr 0 0,int 8] [] [dC c p lost b] (.fn (.func 109) [.ptr 0 0] []) [dC c p lost b]:=Ct.rH (mr:=[]) (pre:=jL c p) (pre':=jL c p) (post:=[int lost]) (post':=[int lost]) rfl λv=>zaa v c p lost
theorem Zz :C1 62 [.ptr 0 0,int 9] [] [dC c p lost b] (.fn (.func 110) [.ptr 0 0] []) [dC c p lost b]:=Ct.rH (mr:=[]) (pre:=jL c p) (pre':=jL c p) (post:=[int lost]) (post':=[int lost]) rfl λv=>Zy v c p lost
theorem Uh :C1 60 [.ptr 0 0,int 0] [] [dC c p lost b] (.fn (.func 100) [.ptr 0 0] []) [dC c p lost b]:=Ct.rH (mr:=[]) (pre:=jL c p) (pre':=jL c p) (post:=[int lost]) (post':=[int lost]) rfl λv=>Ug v c p lost
theorem Uf :C1 60 [.ptr 0 0,int 6] [] [dC c p lost b] (.fn (.func 101) [.ptr 0 0] []) [dC c p lost b]:=Ct.rH (mr:=[]) (pre:=jL c p) (pre':=jL c p) (post:=[int lost]) (post':=[int lost]) rfl λv=>Ue v c p lost
variable (n : G.Node) (s : cB)
theorem zk7 (hn:cF n)(h0:0<=lost)(h1:lost<=1000000000):C1 107 [.ptr 0 0,.ptr 1 0,st (eD s)] [] [dC c p lost b,iE n] (st (dV (((fP c.max lost n).1,(fP c.max lost n).2.1,cG (fP c.max lost n).2.2)).2.2)) [dC c p (((fP c.max lost n).1,(fP c.max lost n).2.1,cG (fP c.max lost n).2.2)).2.1 b,iE (((fP c.max lost n).1,(fP c.max lost n).2.1,cG (fP c.max lost n).2.2)).1]:=Ct.rH (mr:=[]) (pre:=jL c p) (pre':=jL c p) (post:=[int lost]) (post':=[int (((fP c.max lost n).1,(fP c.max lost n).2.1,cG (fP c.max lost n).2.2)).2.1]) rfl λv=>zk5 v c p lost n s hn h0 (by omega)
theorem zj5 (hn:cF n):C1 108 [.ptr 0 0,.ptr 1 0,st (eD s)] [] [dC c p lost b,iE n] (st (dV (tG lost n s).2.2)) [dC c p (tG lost n s).2.1 b,iE (tG lost n s).1]:=Ct.rH (mr:=[]) (pre:=jL c p) (pre':=jL c p) (post:=[int lost]) (post':=[int (tG lost n s).2.1]) rfl λv=>zj3 v c p lost n s hn
theorem zho (hn:cF n)(h0:0<=lost)(h1:lost<=1000000000):C1 109 [.ptr 0 0,.ptr 1 0,st (eD s)] [] [dC c p lost b,iE n] (st (dV (rJ lost n s).2.2)) [dC c p (rJ lost n s).2.1 b,iE (rJ lost n s).1]:=Ct.rH (mr:=[]) (pre:=jL c p) (pre':=jL c p) (post:=[int lost]) (post':=[int (rJ lost n s).2.1]) rfl λv=>zhn v c p lost n s hn h0 h1
theorem zjK (hn:cF n)(hp:gN p=true)(h0:0<=lost)(h1:lost<=1000000000)(hw:s.way=0\/s.way=1):C1 102 [.ptr 0 0,.ptr 1 0,st (eD s)] [] [dC c p lost b,iE n] (st (dV (gY c.max p lost n s).2.2)) [dC c p (gY c.max p lost n s).2.1 b,iE (gY c.max p lost n s).1]:=Ct.rH (mr:=[]) (pre:=jL c p) (pre':=jL c p) (post:=[int lost]) (post':=[int (gY c.max p lost n s).2.1]) rfl λv=>zjJ v c p lost n s hn hp hw h0 h1
theorem Wm (hn:cF n)(hp:gN p=true):C1 110 [.ptr 0 0,.ptr 1 0,st (eD s)] [] [dC c p lost b,iE n] (st (dV (rS p lost n).2.2)) [dC c p (rS p lost n).2.1 b,iE (rS p lost n).1]:=Ct.rH (mr:=[]) (pre:=jL c p) (pre':=jL c p) (post:=[int lost]) (post':=[int (rS p lost n).2.1]) rfl λv=>Wl v c p lost n s hn hp
end
theorem J8 (c:bT)(p:aW)(lost:Int)(ns:List G.Node)(s:cB)(n:G.Node)(F:Nat)(r:NR)(hn:nodeAt ns s.side=some n)(h4:ns.length<=4)(k1:1<=s.kind)(k9:s.kind<=9)(k6:¬s.kind=6)(hw:s.kind<=4->s.way=0\/s.way=1)(hen:Enters prog F)
  (hS:C1 62 [.ptr 0 0,int s.kind] [] [dC c p lost 1] (.fn (.func F) [.ptr 0 0] []) [dC c p lost 1])
  (hF:C1 F [.ptr 0 0,.ptr 1 0,st (eD s)] [] [dC c p lost 2,iE n] (st (dV r.2.2)) [dC c p r.2.1 2,iE r.1]):
  eL i6 prog 25 [.ptr 0 0,st (eD s)] [] (BM ⟨c,p,ns,lost⟩) (st (dV r.2.2)) (BM ⟨c,p,ns.set s.side.toNat r.1,r.2.1⟩):=by
 have hi:=DI hn;have:=Yi c p lost (ns.map dZ) s s.side.toNat (dZ n) F (dZ r.1) r.2.2 r.2.1 k1 k9 k6 hw (by simpa using h4) (by rw[jX,hi.2.2.2];rfl) (by omega) hen hS hF;rw[<-GD]at this;exact this.GL
theorem UW (c:bT)(p:aW)(lost:Int)(ns:List G.Node)(s:cB)(n:G.Node)(kf:Nat)(f:dM->Int->dM×Int)(hf:∀l i,eA l->C1 kf [st (gP l),int i] [] [] (.aU [st (gP (f l i).1),int (f l i).2]) [])(hE:Enters prog kf)(ho:cF n)(hn:nodeAt ns s.side=some n)(h4:ns.length<=4)(k1:1<=s.kind)(k4:s.kind<=4)(hw:s.way=0\/s.way=1)
  (hS:C1 62 [.ptr 0 0,int s.kind] [] [dC c p lost 1] (.d (.fn (.func 165) [] [.bE [dE kf]])) [dC c p lost 1]):
  eL i6 prog 25 [.ptr 0 0,st (eD s)] [] (BM ⟨c,p,ns,lost⟩) (st (dV (iM f lost n s).2.2)) (BM ⟨c,p,ns.set s.side.toNat (iM f lost n s).1,(iM f lost n s).2.1⟩):=by
 have hi:=DI hn;have:=Yg c p lost (ns.map dZ) s s.side.toNat (dZ n) 165 (dZ (iM f lost n s).1) (iM f lost n s).2.2 (dE kf) k1 k4 hw (by simpa using h4) (by rw[jX,hi.2.2.2];rfl) (by omega) call165 hS
  (zg3 lost n s (dE kf) f (λl i hl=>bN.of (hf l i hl) hE rfl rfl) ho hw)
 rw[<-GD]at this;exact this.GL
theorem Cy (M:G.cX)(s:cB)(B:Int)(hM:fQ M B)(hB:B<=100000000)(hs:rO s):eL i6 prog 25 [.ptr 0 0,st (eD s)] [] (BM M) (st (dV (eX M s).2)) (BM (eX M s).1):=by
 have l0:=hM.l0;have l1:=hM.l1;have hp:=hM.p;have n1:=hM.n1;have n4:=hM.n4;have hne:M.ns≠[]:=by intro e;rw[e]at n1;simp at n1
 by_cases k0:s.kind=0
 ·rw[Xn hne k0];have hU:=Ut M s B hM hB hs;have hl:(mZ M s).1.ns.length=M.ns.length:=by
   unfold mZ;dsimp only;split
   ·rfl
   ·exact(HB M.c.max (EU hp s.aD s.gone) M.ns M.lost 0 hM.ok).2.1
  have hc:(mZ M s).1.c=M.c:=by unfold mZ;dsimp only;split<;>rfl
  rw[BM,BM,hc]at hU;rw[BM,BM,hc];exact Cz _ _ _ _ _ _ _ s _ _ (by simpa using n1) (by simpa using n4) (by simpa using hl) (by omega) (by omega) call100 (by rw[k0];exact Uh 1 M.c M.p M.lost) hU
 by_cases k6:s.kind=6
 ·have hU:=(Wa M s B hM hB).GL (G:=i6);have hl:(lE M).1.ns.length=M.ns.length:=(GM M.ns M.lost 0 hM.ok).2.1;have e:eX M s=lE M:=by
   unfold eX;rw[aT hne,aT (by omega),aT k0,aZ k6]
  rw[e];exact Cz _ _ _ _ _ _ _ s _ _ (by simpa using n1) (by simpa using n4) (by simpa using hl) (by omega) (by omega) call101 (by rw[k6];exact Uf 1 M.c M.p M.lost) hU
 have ha:=hs.a;obtain⟨c,p,ns,lost⟩:=M;have hok:=hM.ok;unfold eX;dsimp only at*;rw[aT hne];by_cases hk:0<=s.kind/\s.kind<=9
 ·rw[aT (by omega),aT k0,aT k6];cases hn:nodeAt ns s.side with
  |none=>
   refine(Ye c p lost (ns.map dZ) s (by simpa using n1) (by simpa using n4) (by omega) hk.2 k6 ?_).GL;unfold nodeAt at hn;split at hn
   ·have:=List.getElem?_eq_none_iff.1 hn;exact .inr (by simp;omega)
   ·exact .inl (by omega)
  |some n=>
   have hi:=DI hn;have on:=hok n hi.1;dsimp only;by_cases hw:s.kind<=4/\(s.way<0\/2<=s.way)
   ·rw[aZ hw];exact(Yd c p lost (ns.map dZ) s s.side.toNat (by simpa using hi.2.2.1) (by simpa using n4) (by omega) (by omega) hw.1 hw.2).GL
   ·rw[aT hw];have hw':s.kind<=4->s.way=0\/s.way=1:=λg=>by omega
    have e:s.kind=1\/s.kind=2\/s.kind=3\/s.kind=4\/s.kind=5\/s.kind=7\/s.kind=8\/s.kind=9:=by omega
    rcases e with e|e|e|e|e|e|e|e
    ·rw[show fW c.max p lost n s=gY c.max p lost n s from by simp[fW,e]];exact J8 c p lost ns s n _ (gY c.max p lost n s) hn n4 (by omega) hk.2 k6 hw' call102 (by rw[e];exact zan 1 c p lost) (zjK 2 c p lost n s on hp l0 (by omega) (hw' (by omega)))
    ·rw[show fW c.max p lost n s=iM vM lost n s from by simp[fW,e]];exact UW c p lost ns s n _ vM zis call104 on hn n4 (by omega) (by omega) (hw' (by omega)) (by rw[e];exact zal 1 c p lost)
    ·rw[show fW c.max p lost n s=iM uL lost n s from by simp[fW,e]];exact UW c p lost ns s n _ uL zk8 call105 on hn n4 (by omega) (by omega) (hw' (by omega)) (by rw[e];exact zaj 1 c p lost)
    ·rw[show fW c.max p lost n s=iM uC lost n s from by simp[fW,e]];exact UW c p lost ns s n _ uC zf5 call106 on hn n4 (by omega) (by omega) (hw' (by omega)) (by rw[e];exact zah 1 c p lost)
    ·rw[show fW c.max p lost n s=((fP c.max lost n).1,(fP c.max lost n).2.1,cG (fP c.max lost n).2.2)from by simp[fW,e]];exact J8 c p lost ns s n _ (((fP c.max lost n).1,(fP c.max lost n).2.1,cG (fP c.max lost n).2.2)) hn n4 (by omega) hk.2 k6 hw' call107 (by rw[e];exact zaf 1 c p lost) (zk7 2 c p lost n s on l0 (by omega))
    ·rw[show fW c.max p lost n s=tG lost n s from by simp[fW,e]];exact J8 c p lost ns s n _ (tG lost n s) hn n4 (by omega) hk.2 k6 hw' call108 (by rw[e];exact zad 1 c p lost) (zj5 2 c p lost n s on)
    ·rw[show fW c.max p lost n s=rJ lost n s from by simp[fW,e]];exact J8 c p lost ns s n _ (rJ lost n s) hn n4 (by omega) hk.2 k6 hw' call109 (by rw[e];exact zab 1 c p lost) (zho 2 c p lost n s on l0 (by omega))
    ·rw[show fW c.max p lost n s=rS p lost n from by simp[fW,e]];exact J8 c p lost ns s n _ (rS p lost n) hn n4 (by omega) hk.2 k6 hw' call110 (by rw[e];exact Zz 1 c p lost) (Wm 2 c p lost n s on hp)
 ·rw[aZ hk];exact(Yf c p lost (ns.map dZ) s (by simpa using n1) (by simpa using n4) hk).GL
attribute [simp] ntmps24 results24 ntmps54 results54 ntmps14 results14
abbrev B1 (M:G.cX):List (Nat×aY):=[dC M.c M.p M.lost 1,(1,.dR [2] 88),W6 2 (nth M 0)]
theorem U8 (M:G.cX):C1 37 [.ptr 0 0] (B1 M) [] (int 1) []:=uV M.c M.p M.lost [dZ (nth M 0)] (by simp) (by simp)
theorem Km (M:G.cX):C1 61 [.ptr 0 0,int 0] (B1 M) [] (.ptr 2 0) []:=DH M.c M.p M.lost [dZ (nth M 0)] 0 0 rfl (by simp) (by simp)
theorem N5 {M:G.cX}{B:Int}(hM:fQ M B)(s:cB):(eX M s).1.ns.length=M.ns.length:=by
 unfold eX;split
 ·rfl
 split
 ·rfl
 split
 ·unfold mZ;dsimp only;split
  ·rfl
  ·exact(HB M.c.max (EU hM.p s.aD s.gone) M.ns M.lost 0 hM.ok).2.1
 split
 ·exact(GM M.ns M.lost 0 hM.ok).2.1
 split
 ·rfl
 ·split
  ·rfl
  ·simp
theorem Tm {M:G.cX}(hk:M.ns.length=1):BM M=B1 M:=by
 show BC M.c M.p M.lost (M.ns.map dZ)=_;rw[WZ hk];rfl
theorem GP (M:G.cX)(s:cB)(B:Int)(hk:M.ns.length=1)(hM:fQ M B)(hB:B<=100000000)(hs:rO s):eL i6 prog 25 [.ptr 0 0,st (eD s)] [] (B1 M) (st (dV (eX M s).2)) (B1 (eX M s).1):=by
 have h:=Cy M s B hM hB hs
 rwa[Tm hk,Tm (by rw[N5 hM];exact hk)]at h
theorem pA (n:G.Node)(hn:cF n):C1 38 [.ptr 0 0] [(0,.cells ((dZ n).map .d) 121)] [] (bool (sE n)) []:=zgR n hn
abbrev BNe (c:bT)(p:aW)(lost:Int)(n:G.Node):List (Nat×aY):=[(64,.cells [int c.sides,int c.cap,int c.limit,int c.max,int p.cap,aB (p.bA.map oX),.own 65,int lost] 87),(65,.dR [66] 88),W6 66 n]
theorem ze4 :C1 24 [st (tF ⟨1,9,9,99⟩)] [] [] (.ptr 64 0) (BNe ⟨1,9,9,99⟩ (fZ 9) 0 (gX ⟨1,9,9,99⟩)):=by
 refine Ct.B func24 ?_;simp;refine CI.p (HZ 9) ?_;simp;refine dr ?_;refine aH.un ?_;simp;refine CI.p (wK 9 99) ?_;simp;refine CI.p (wL 0 99) ?_;simp;refine dr ?_;refine aH.Bp mixed (Plain.wH _ _ _ _ _) rfl ?_;refine CI.run 6 400 rfl ?_;simp;refine CI.s (tm:=[(3,.ptr 512 0)]) (mm:=[(512,.cells [int 1,int 9,int 9,int 99,int (fZ 9).cap,aB ((fZ 9).bA.map oX),.own 2048,int 0] 87),(2048,.dR [1920] 88),(1920,.cells ((dZ (gX ⟨1,9,9,99⟩)).map .d) 121)]) (nx:=2112) [] [] (by constructor<;>simp[gX,pI]) ?_;refine CI.n ?_;simp;exact⟨[(64,512),(65,2048),(66,1920)],by constructor<;>simp[aI,aJ]⟩
theorem Um (M:G.cX):C1 54 [.ptr 0 0,int 0,int 0] (B1 M) [] (.aU [st (gP (nth M 0).up),bool true]) []:=by
 refine Ct.B func54 ?_;simp;refine CI.cc [0,1,2] (Km M) ?_;simp;exact⟨[],by constructor<;>simp[aI,aJ]⟩
theorem Ul (M:G.cX):C1 54 [.ptr 0 0,int 0,int 1] (B1 M) [] (.aU [st (gP (nth M 0).dn),bool true]) []:=by
 refine Ct.B func54 ?_;simp;refine CI.cc [0,1,2] (Km M) ?_;simp;exact⟨[],by constructor<;>simp[aI,aJ]⟩
theorem zaR (M:G.cX)(B:Int)(hk:M.ns.length=1)(hM:fQ M B):C1 14 [.ptr 0 0] (B1 M) [] (bool (fL M)) []:=by
 refine Ct.B func14 ?_;simp;have n0:=Ki hM (i:=0) (by omega);have S:=mQ.1 n0.ss;have hh:=((oW M.p).1 hM.p).2.1;unfold fL;rw[WZ hk];refine CI.cc [0,1,2] (U8 M) ?_;simp;refine aH.un ?_;simp;refine CI.cc [2] (pA (nth M 0) n0) ?_;simp;cases h1:sE (nth M 0)with
 |false=>
  simp[h1];refine dr ?_;refine⟨[],?_,?_,?_,?_,?_,?_,?_⟩<;>simp[aI,aJ,h1]
 |true=>
  simp[h1];refine CI.p (oG (nth M 0).bF M.p n0.so (by have:=S.hl;omega) (by omega)) ?_;simp;cases h2:nC (nth M 0).bF M.p with
  |false=>
   simp[h2];first| (refine⟨[],?_,?_,?_,?_,?_,?_,?_⟩<;>simp[aI,aJ,h1,h2];done)| (refine dr ?_;refine⟨[],?_,?_,?_,?_,?_,?_,?_⟩<;>simp[aI,aJ,h1,h2])
  |true=>
   simp[h2];refine dr ?_;refine aH.un ?_;simp;exact⟨[],by constructor<;>simp[aI,aJ,h1,h2]⟩
theorem Yz (a b:aW)(ha:vR a):C0 46 [st (eW a),st (eW b)] (bool (decide (a=b))):=by
 refine Ct.B func46 ?_;simp;have hh:=ha.len;by_cases h0:a.cap=b.cap
 ·simp[h0];refine aX (λh1 zz=>?_) (λh1 zz=>?_)<;>simp only[zz]<;>simp
  ·have e:¬a=b:=λe=>h1 (by rw[e]);exact aA (by simp[e])
  have hab:a.bA.length=b.bA.length:=by omega
  refine aH.inv mixed rfl (ι:={k:Nat//k<=(a.bA).length/\a.bA.take k=b.bA.take k}) (λk=>[(2,.ptr 64 0),(3,.ptr 65 0),(5,int k.1)]) (λk=>[(64,.cells ((eW a).map .d) 45),(65,.cells ((eW b).map .d) 45)]) 66 (λk=>(a.bA).length-k.1) ⟨0,by omega,by simp⟩ [] (by constructor<;>simp[h0]) ?_;rintro⟨k,hk1,hi⟩ B hB;refine CI.n ?_;simp[h0];rcases bC hk1 with⟨x,hk,hx,hr,hm,ht,hd,hw,h⟩|rfl
  ·simp[h,hr,hw];have hrb:b.bA[k]? =some b.bA[k]:=bO (by omega);have htb:b.bA.take (k+1)=b.bA.take k++[b.bA[k]]:=by rw[jH,hrb];rfl
   have hne:x≠b.bA[k]->a≠b:=by
    intro h2 e;subst e;rw[hr]at hrb;cases hrb;exact h2 rfl
   generalize b.bA[k]=y at hrb htb hne;simp[hrb];refine CI.p (UC x y (ha.all x hm)) ?_;simp;refine dr ?_;refine aX (λh2 zz=>?_) (λh2 zz=>?_)<;>simp only[zz]<;>simp
   ·first|exact aA (by simp[hne h2])|exact aK (by simp[hne h2])
   ·refine hB _ ⟨k+1,by omega,by rw[ht,htb,hi,h2]⟩ [] ?_ (by simp;omega);constructor<;>simp[hw,h0]
  ·simp;have e:a=b:=by
    rw[bX,hab,bX]at hi;cases a;cases b;simp at h0 hi;rw[h0,hi]
   exact aA (by simp[e])
 ·have e:¬a=b:=λe=>h0 (by rw[e]);simp[h0];exact aA (by simp[e])
theorem zhA {a b:G.Frame}(h1:a.type=b.type)(h2:a.aM=b.aM)(h3:a.kind=b.kind)(h4:a.cN=b.cN)(h5:a.turn=b.turn)(h6:a.err=b.err)(h7:a.aP=b.aP):decide (a=b)=(decide (a.aD=b.aD)&&decide (a.gone=b.gone)&&decide (a.held=b.held)):=by
 obtain⟨a1,a2,a3,a4,a5,a6,a7,a8,a9,a10⟩:=a;obtain⟨b1,b2,b3,b4,b5,b6,b7,b8,b9,b10⟩:=b;simp only at h1 h2 h3 h4 h5 h6 h7;subst h1 h2 h3 h4 h5 h6 h7;rw[tQ];simp[and_assoc]
attribute [simp] Tryz.ntmps153 Tryz.results153
theorem zbt (a b:G.Frame)(hl:fJ a):Ct Tryz.prog 153 [st (cA a),st (cA b)] [] [] (bool (decide (a=b))) []:=by
 refine Ct.B Tryz.func153 ?_;simp;refine cV (λh1 zz=>?_) (λh1 zz=>?_)<;>simp only[zz]<;>simp
 ·have e:¬a=b:=λe=>h1 (by rw[e]);first|exact aA (by simp[e])|exact aK (by simp[e])
 refine cV (λh2 zz=>?_) (λh2 zz=>?_)<;>simp only[zz]<;>simp
 ·have e:¬a=b:=λe=>h2 (by rw[e]);first|exact aA (by simp[e])|exact aK (by simp[e])
 refine cV (λh3 zz=>?_) (λh3 zz=>?_)<;>simp only[zz]<;>simp
 ·have e:¬a=b:=λe=>h3 (by rw[e]);first|exact aA (by simp[e])|exact aK (by simp[e])
 refine cV (λh4 zz=>?_) (λh4 zz=>?_)<;>simp only[zz]<;>simp
 ·have e:¬a=b:=λe=>h4 (by rw[e]);first|exact aA (by simp[e])|exact aK (by simp[e])
 refine cV (λh5 zz=>?_) (λh5 zz=>?_)<;>simp only[zz]<;>simp
 ·have e:¬a=b:=λe=>h5 (by rw[e]);first|exact aA (by simp[e])|exact aK (by simp[e])
 refine cV (λh6 zz=>?_) (λh6 zz=>?_)<;>simp only[zz]<;>simp
 ·have e:¬a=b:=λe=>h6 (by rw[e]);first|exact aA (by simp[e])|exact aK (by simp[e])
 refine aX (λh7 zz=>?_) (λh7 zz=>?_)<;>simp only[zz]<;>simp
 ·have e:¬a=b:=λe=>h7 (by rw[e]);first|exact aA (by simp[e])|exact aK (by simp[e])
 have hab:a.aP.length=b.aP.length:=by omega
 have hh:=hl.aP;refine aH.inv mixed rfl (ι:={k:Nat//k<=(a.aP).length/\a.aP.take k=b.aP.take k}) (λk=>[(2,.ptr 64 0),(3,.ptr 65 0),(5,int k.1)]) (λk=>[(64,.cells ((cA a).map .d) 134),(65,.cells ((cA b).map .d) 134)]) 66 (λk=>(a.aP).length-k.1) ⟨0,by omega,by simp⟩ [] (by constructor<;>simp) ?_;rintro⟨k,hk1,hi⟩ B hB;refine CI.n ?_;simp;rcases bC hk1 with⟨x,hk,hx,hr,hm,ht,hd,hw,h⟩|rfl
 ·simp[h,hr,hw];have hrb:b.aP[k]? =some b.aP[k]:=bO (by omega);have htb:b.aP.take (k+1)=b.aP.take k++[b.aP[k]]:=by rw[jH,hrb];rfl
  have hne:x≠b.aP[k]->¬a=b:=by
   intro h2 e;subst e;rw[hr]at hrb;cases hrb;exact h2 rfl
  generalize b.aP[k]=y at hrb htb hne;simp[hrb];refine dr ?_;refine aX (λh8 zz=>?_) (λh8 zz=>?_)<;>simp only[zz]<;>simp[hr,hrb]
  ·have e:¬a=b:=hne (λe=>by subst e;simp at h8);first|exact aA (by simp[e])|exact aK (by simp[e])
  ·have e:x=y:=by
    have:=Me x y;rw[tQ]at this;simp at h8 this;exact this.1 (by simpa[and_assoc]using h8)
   refine hB _ ⟨k+1,by omega,by rw[ht,htb,hi,e]⟩ [] ?_ (by simp;omega);constructor<;>simp[hw]
 ·simp;have e:a.aP=b.aP:=by
   rw[bX,hab,bX]at hi;exact hi
  rw[zhA h1 h2 h3 h4 h5 h6 e];refine CI.p (D3 a.aD b.aD hl.aD) ?_;simp;refine cV (λh8 zz=>?_) (λh8 zz=>?_)<;>simp only[zz]<;>simp
  ·refine CI.p (LB a.gone b.gone hl.gone) ?_;simp;refine cV (λh9 zz=>?_) (λh9 zz=>?_)<;>simp only[zz]<;>simp
   ·refine CI.p (LB a.held b.held hl.held) ?_;simp;first|exact aA (by simp[h8,h9])|exact aK (by simp[h8,h9])
   ·first|exact aA (by simp[h9])|exact aK (by simp[h9])
  ·first|exact aA (by simp[h8])|exact aK (by simp[h8])
theorem zbq (a b:View)(hl:Aa a):C0 92 [st (q7 a),st (q7 b)] (bool (decide (a=b))):=by
 refine Ct.B func92 ?_;simp;refine CI.p (D3 a.aP b.aP hl.aP) ?_;simp;refine cV (λh1 zz=>?_) (λh1 zz=>?_)<;>simp only[zz]<;>simp
 ·refine CI.p (LB a.held b.held hl.held) ?_;simp;refine cV (λh2 zz=>?_) (λh2 zz=>?_)<;>simp only[zz]<;>simp
  ·refine cV (λh3 zz=>?_) (λh3 zz=>?_)<;>simp only[zz]<;>simp
   ·refine CI.p (zbt a.push b.push hl.push) ?_;simp;refine cV (λh4 zz=>?_) (λh4 zz=>?_)<;>simp only[zz]<;>simp
    ·have e:decide (a=b)=decide (a.open_=b.open_):=by
      obtain⟨a1,a2,a3,a4,a5⟩:=a;obtain⟨b1,b2,b3,b4,b5⟩:=b;simp only at h1 h2 h3 h4;subst h1 h2 h3 h4;rw[tQ];simp
     first|exact aA (by simp[e])|exact aK (by simp[e])
    ·have e:¬a=b:=λe=>h4 (by rw[e]);first|exact aA (by simp[e])|exact aK (by simp[e])
   ·have e:¬a=b:=λe=>h3 (by rw[e]);first|exact aA (by simp[e])|exact aK (by simp[e])
  ·have e:¬a=b:=λe=>h2 (by rw[e]);first|exact aA (by simp[e])|exact aK (by simp[e])
 ·have e:¬a=b:=λe=>h1 (by rw[e]);first|exact aA (by simp[e])|exact aK (by simp[e])
end Go.Proofs.YtobcmagefgdgdaaGreatDoor
namespace Go.Proofs.YtobcmagefgdgdaaGreatDoor
open Go.AI Go.G
theorem zdO (a b:Nonce.Ou):(a=b)=(a.l0=b.l0/\a.l1=b.l1/\a.l2=b.l2/\a.l3=b.l3/\a.o0=b.o0/\a.o1=b.o1/\a.o2=b.o2/\a.o3=b.o3/\a.m=b.m):=by
 obtain⟨a0,a1,a2,a3,a4,a5,a6,a7,a8⟩:=a;obtain⟨b0,b1,b2,b3,b4,b5,b6,b7,b8⟩:=b;simp only[Nonce.Ou.mk.injEq]
theorem zaV (a b:cW):(a=b)=(a.aM=b.aM/\a.oL=b.oL/\a.out=b.out/\a.v=b.v/\a.stuck=b.stuck/\a.at_=b.at_):=by
 obtain⟨a0,a1,a2,a3,a4,a5⟩:=a;obtain⟨b0,b1,b2,b3,b4,b5⟩:=b;simp only[cW.mk.injEq]
attribute [simp] Tryz.ntmps52 Tryz.results52
theorem zbr (a b:cW)(ha:rP a):Ct Tryz.prog 52 [st (iB a),st (iB b)] [] [] (bool (decide (a=b))) []:=by
 refine Ct.B Tryz.func52 ?_;simp;refine bM (λh1=>?_) (λh1=>?_)<;>simp only[h1]<;>simp
 ·refine bM (λh2=>?_) (λh2=>?_)<;>simp only[h2]<;>simp
  ·refine bM (λh3=>?_) (λh3=>?_)<;>simp only[h3]<;>simp
   ·have h3':a.out=b.out:=by
     rw[zdO];simpa[and_assoc]using h3
    refine CI.p (zbq a.v b.v ha.v) ?_;simp;refine bM (λh4=>?_) (λh4=>?_)<;>simp only[h4]<;>simp
    ·refine bM (λh5=>?_) (λh5=>?_)<;>simp only[h5]<;>simp
     ·have e:decide (a=b)=decide (a.at_=b.at_):=by
       simp only[dA]at h1 h2 h4 h5;rw[EF,zaV];simp[h1,h2,h3',h4,h5]
      rw[e];first|exact aA|exact aK
     ·have e:¬a=b:=λh=>by subst h;simp at h5
      first|exact aA (by simp[e])|exact aK (by simp[e])
    ·have e:¬a=b:=λh=>by subst h;simp at h4
     first|exact aA (by simp[e])|exact aK (by simp[e])
   ·have e:¬a=b:=λh=>by subst h;simp at h3
    first|exact aA (by simp[e])|exact aK (by simp[e])
  ·have e:¬a=b:=λh=>by subst h;simp at h2
   first|exact aA (by simp[e])|exact aK (by simp[e])
 ·have e:¬a=b:=λh=>by subst h;simp at h1
  first|exact aA (by simp[e])|exact aK (by simp[e])
open Tryz
attribute [simp] ntmps44 results44
theorem zjH (M:G.cX)(r:Nat)(B:Int)(hk:M.ns.length=1)(hM:fQ M B)(hB:B<=230600)(hr:r<=100):eL i6 prog 44 [.ptr 0 0,int r] [] (B1 M) (.aU []) (B1 (vO M r)):=by
 refine eL.B xY func44 ?_;simp;refine aH.inv mixed rfl (ι:={k:Nat//k<=r}) (λk=>[(0,.ptr 0 0),(1,int r),(4,int k.1)]) (λk=>B1 (vO M k.1)) 64 (λk=>r-k.1) ⟨0,by omega⟩ [] (by constructor<;>simp[vO]) ?_;rintro⟨kk,hk1⟩ B1_ hB;refine CI.n ?_;simp;refine aX (λh1 zz=>?_) (λh1 zz=>?_)<;>simp only[zz]<;>simp
 ·obtain⟨q1,q2⟩:=SF hk hM kk;generalize hN:vO M kk=N at q1 q2⊢;refine aH.rounds 2 ?_;refine cC.s ?_;simp;refine CI.cc [0,1,2] (U8 N) ?_;simp;refine aH.rounds 3 ?_;refine cC.s ?_;simp;refine CI.cc [0,1,2] (Um N) ?_;simp;refine aH.inv mixed rfl (ι:={j:Nat//j<=(nth N 0).up.q.length}) (λk=>[(0,.ptr 0 0),(1,int r),(4,int kk),(5,int 0),(6,int 0),(7,.ptr 1216 0),(9,int k.1)]) (λk=>B1 (pE N 0 k.1)++[(1216,.cells ((gP (nth N 0).up).map .d) 115)]) 1217 (λk=>(nth N 0).up.q.length-k.1) ⟨0,by omega⟩ [] (by constructor<;>simp[pE]) ?_;rintro⟨j,hj⟩ B0 hB0;have hlen:(nth N 0).up.q.length<=32:=T9 q1 q2 0;refine CI.n ?_;simp;refine aX (λh2 zz=>?_) (λh2 zz=>?_)<;>simp only[zz]<;>simp
  ·have hb:=SH q1 q2 (w:=0) (by omega) j;have wj:IntKind.wrap .i64 ((j:Int)+1)=j+1:=wz _;generalize hbk:pE N 0 j=K at hb⊢;refine CI.j [0,1,2] (GP K (rM 0) _ hb.1 hb.2 (by omega) (WS 0)) ?_ (ha:=by simp[rM,sP]) (hk:=by simp[rM,sP]);simp[rM,sP];refine hB0 _ ⟨j+1,by omega⟩ [] ?_ (by simp;omega);constructor<;>simp[pE,hbk,rM,sP,wj]
  ·have e:j=(nth N 0).up.q.length:=by omega
   subst e;have hw0:(pE N 0 (nth N 0).up.q.length).ns.length=1/\fQ (pE N 0 (nth N 0).up.q.length) (B+768*kk+384):=SG q1 q2 (w:=0) (.inl rfl);generalize hW:pE N 0 (nth N 0).up.q.length=W at hw0⊢;obtain⟨p1,p2⟩:=hw0;refine cC.s ?_;simp;refine CI.cc [0,1,2] (Ul W) ?_;simp;refine aH.inv mixed rfl (ι:={j:Nat//j<=(nth W 0).dn.q.length}) (λk=>[(0,.ptr 0 0),(1,int r),(4,int kk),(5,int 0),(6,int 1),(7,.ptr 2305 0),(9,int k.1)]) (λk=>B1 (pE W 1 k.1)++[(2305,.cells ((gP (nth W 0).dn).map .d) 115)]) 2306 (λk=>(nth W 0).dn.q.length-k.1) ⟨0,by omega⟩ [] (by constructor<;>simp[pE]) ?_;rintro⟨j,hj⟩ B1 hB1;have hlen:(nth W 0).dn.q.length<=32:=T9 p1 p2 1;refine CI.n ?_;simp;refine aX (λh2 zz=>?_) (λh2 zz=>?_)<;>simp only[zz]<;>simp
   ·have hb:=SH p1 p2 (w:=1) (by omega) j;have wj:IntKind.wrap .i64 ((j:Int)+1)=j+1:=wz _;generalize hbk:pE W 1 j=K at hb⊢;refine CI.j [0,1,2] (GP K (rM 1) _ hb.1 hb.2 (by omega) (WS 1)) ?_ (ha:=by simp[rM,sP]) (hk:=by simp[rM,sP]);simp[rM,sP];refine hB1 _ ⟨j+1,by omega⟩ [] ?_ (by simp;omega);constructor<;>simp[pE,hbk,rM,sP,wj]
   ·have e:j=(nth W 0).dn.q.length:=by omega
    subst e;have hw1:(pE W 1 (nth W 0).dn.q.length).ns.length=1/\fQ (pE W 1 (nth W 0).dn.q.length) (B+768*kk+384+384):=SG p1 p2 (w:=1) (.inr rfl);have hR:vO M (kk+1)=pE W 1 (nth W 0).dn.q.length:=by
     have e1:vO M (kk+1)=FY (FY (vO M kk) 0) 1:=rfl;have e2:FY (vO M kk) 0=W:=by rw[hN,<-hW];rfl
     rw[e1,e2];rfl
    rw[<-hR]at hw1⊢;generalize hV:vO M (kk+1)=V at hw1⊢;have wk:IntKind.wrap .i64 ((kk:Int)+1)=kk+1:=wz _;refine cC.s ?_;simp;refine cC.s ?_;simp;refine CI.cc [0,1,2] (U8 V) ?_;simp;refine hB _ ⟨kk+1,by omega⟩ [] ?_ (by simp;omega);constructor<;>simp[wk,hV]
 ·have e:kk=r:=by omega
  subst e;exact⟨[],by constructor<;>simp[aI,aJ]⟩
attribute [simp] ntmps37 results37 ntmps61 results61 ntmps25 results25 ntmps47 results47 ntmps48 results48 ntmps54 results54 ntmps49 results49 ntmps13 results13 ntmps14 results14 ntmps45 results45 ntmps43 results43 ntmps33 results33 ntmps19 results19 ntmps21 results21
theorem Zu :C0 43 [] (aB (KF.map aF)):=by
 refine Ct.B func43 ?_;simp;refine CI.WI [256] 99 400 rfl rfl (by first|exact .inl rfl|exact .inr ⟨_,_,rfl,by simp⟩|exact .inr ⟨_,_,rfl,by simp[*]⟩) (by simp) ?_;simp[BT,rI];refine CI.WI [384,576] 99 400 rfl rfl (by first|exact .inl rfl|exact .inr ⟨_,_,rfl,by simp⟩|exact .inr ⟨_,_,rfl,by simp[*]⟩) (by simp) ?_;simp[BT,rI];exact aA (by simp[KF])
attribute [simp] ntmps18 results18
abbrev BN (M:G.cX):List (Nat×aY):=[(64,.cells [int M.c.sides,int M.c.cap,int M.c.limit,int M.c.max,int M.p.cap,aB (M.p.bA.map oX),.own 65,int M.lost] 87),(65,.dR [66] 88),W6 66 (nth M 0)]
theorem ze5 :C1 24 [st (tF ⟨1,9,9,99⟩)] [] [] (.ptr 64 0) (BN F3):=ze4
theorem s5a :eL i6 prog 25 [.ptr 0 0,st [iD 5,iD 0,iD 0,iD 0,lD [],lD [],iD 0,sD ⟨#[]⟩,sD ⟨#[]⟩,iD 0,iD 0]] [] (B1 F3) (st (dV (eX F3 EW).2)) (B1 D7):=GP F3 EW 0 IB Js (by omega) Jd
theorem s0a :eL i6 prog 25 [.ptr 0 0,st [iD 0,iD 0,iD 0,iD 0,lD (KF.map aF),lD [],iD 0,sD ⟨#[]⟩,sD ⟨#[]⟩,iD 0,iD 0]] [] (B1 D7) (st (dV Te)) (B1 I7):=GP D7 C5 12 Mv Jr (by omega) Iz
theorem s7a :eL i6 prog 25 [.ptr 0 0,st [iD 7,iD 0,iD 0,iD 0,lD [],lD [],iD 80,sD ⟨#[104]⟩,sD ⟨#[47]⟩,iD 0,iD 0]] [] (B1 D6) (st (dV Td)) (B1 MG):=GP D6 EY 10000 Mu Jq (by omega) Jl
theorem KL (k:Nat)(hk:k<=10):eL i6 prog 25 [.ptr 0 0,st [iD 8,iD 0,iD 0,iD 0,lD [],lD [],iD 0,sD ⟨#[]⟩,sD ⟨#[]⟩,iD 0,iD 0]] [] (B1 (aG k)) (st (dV (aO (k+1)))) (B1 (aG (k+1))):=GP (aG k) EX _ (XU k) (WT k) (by omega) Jh
theorem b8a :eL i6 prog 44 [.ptr 0 0,int 8] [] (B1 I7) (.aU []) (B1 D6):=zjH I7 8 24 XV WU (by omega) (by omega)
theorem Rq :eL i6 prog 18 [] [] [] (bool true) []:=by
 refine eL.B xY func18 ?_;simp;refine CI.cc [] ze5 ?_;simp;refine CI.j [192,193,194] s5a ?_;simp;refine CI.p Zu ?_;simp;refine CI.j [192,193,194] s0a ?_;simp;refine CI.j [192,193,194] b8a ?_;simp;refine CI.j [192,193,194] s7a ?_;simp;rw[show MG=aG 0 from rfl];refine aH.rounds 6 ?_;refine cC.s ?_;simp;refine CI.j [192,193,194] (KL 0 (by omega)) ?_;simp;refine cC.s ?_;simp;refine CI.j [192,193,194] (KL 1 (by omega)) ?_;simp;refine cC.s ?_;simp;refine CI.j [192,193,194] (KL 2 (by omega)) ?_;simp;refine cC.s ?_;simp;refine CI.j [192,193,194] (KL 3 (by omega)) ?_;simp;refine cC.s ?_;simp;refine CI.j [192,193,194] (KL 4 (by omega)) ?_;simp;have a1:(aO 5).n=1:=SQ.1;have a2:(aO 5).L5.what=3:=by rw[SQ.2]
 have a3:(aO 5).L5.fT=⟨#[99]⟩:=by rw[SQ.2]
 have a4:(aO 5).L5.host=7:=by rw[SQ.2]
 refine cC.s ?_;simp[zlo,zln,a1,a2,a3,a4];refine CI.cc [192,193,194] (zaR (aG 5) _ (XU 5) (WT 5)) ?_;simp;exact aA (by simp[aw6])
end Go.Proofs.YtobcmagefgdgdaaGreatDoor
namespace Go.G
open Go.AI
theorem zha {s:cW}(p:aW)(f:Frame)(hs:gE s=true):((handle s p f).1.out=s.out/\(handle s p f).1.v.open_=s.v.open_/\(handle s p f).1.v.push=s.v.push)\/
  ((Nonce.done s.out f.kind f.cN).2=0/\s.v.open_=true/\f.kind=s.v.push.kind/\(handle s p f).1.out=(Nonce.done s.out f.kind f.cN).1/\(handle s p f).1.v=gC s.v f/\(gC s.v f).open_=false/\(gC s.v f).push=eV):=by
 unfold handle;rw[GS hs];unfold mT;split
 ·exact .inl ⟨rfl,rfl,rfl⟩
 split
 ·exact .inl ⟨rfl,rfl,rfl⟩
 split
 ·left;unfold sF;split<;>exact⟨rfl,rfl,rfl⟩
 split
 ·exact .inl ⟨rfl,rfl,rfl⟩
 split
 ·unfold lP;split
  ·exact .inl ⟨rfl,rfl,rfl⟩
  split
  ·exact .inl ⟨rfl,rfl,rfl⟩
  split
  ·exact .inl ⟨rfl,rfl,rfl⟩
  split
  ·exact .inl ⟨rfl,rfl,rfl⟩
  ·rename_i h1 h2 h3 _;right;have ho:s.v.open_=true:=by simpa using h2
   have hc:(gC s.v f).open_=false:=by simpa using h3
   have hk:mU s.v f=true:=by
    cases hf:mU s.v f
    ·rw[gC,aT (by simp[ho]),aZ hf,ho]at hc;cases hc
    ·rfl
   have e:gC s.v f={lZ ⟨s.v.aP,s.v.held,s.v.turn,eV,false⟩ f.turn f.held with aP:=if f.err=0 then iC s.v.aP s.v.push.aD s.v.push.gone else s.v.aP}:=by
    rw[gC,aT (by simp[ho]),aT (by simp[hk])]
   refine⟨M3.1 h1,ho,?_,rfl,rfl,hc,?_⟩
   ·simp only[mU,bL,dA]at hk;exact hk.1.2
   ·rw[e];unfold lZ;split<;>rfl
 ·left;unfold B6 lZ;refine⟨rfl,?_,?_⟩<;>(dsimp only;split<;>rfl)
def oO (n:Node):Prop:=n.bF.v.push=eV\/dD n.bF.v.push=0
theorem oO.len {n:Node}(h:oO n):n.bF.v.push.aP.length<=1000000:=by
 rcases h with h|h
 ·rw[h];simp[eV]
 ·have:=(LJ (j9.1 h)).lh;omega
theorem zcW {s:cW}{p:aW}(hs:gE s=true)(ho:rP s)(hp:gN p=true)(h:s.v.push=eV\/dD s.v.push=0):(iL s p).1.v.push=eV\/dD (iL s p).1.v.push=0:=by
 have k:=(PA hs ho hp).2.2.1;rcases Hd hs p with⟨h1,_⟩|⟨x,_,_,_,_,h5⟩
 ·rw[h1];exact h
 ·rw[h5]at k⊢;exact .inr (k _ (yA.2 rfl)).1
theorem zcY {s:cW}(p:aW)(f:Frame)(hs:gE s=true)(h:s.v.push=eV\/dD s.v.push=0):(handle s p f).1.v.push=eV\/dD (handle s p f).1.v.push=0:=by
 rcases zha p f hs with⟨_,_,e⟩|⟨_,_,_,_,e,_,z⟩
 ·rw[e];exact h
 ·rw[e];exact .inl z
theorem Hh {n:Node}(h:oO n)(mx lost:Int):oO (fP mx lost n).1:=by
 unfold fP;split
 ·exact h
 ·exact .inl rfl
theorem Hk {n:Node}(hn:cF n)(h:oO n)(mx:Int){p:aW}(hp:gN p=true)(lost:Int):oO (iK mx p lost n).1:=by
 have k:=zcW hn.ss hn.so hp h;unfold iK;dsimp only;split
 ·exact k
 ·refine Hh ?_ _ _;exact k
theorem PD {n:Node}(h:oO n)(w:Int)(l:dM):oO (nP n w l):=by
 unfold nP;split<;>exact h
theorem zcZ {n:Node}(hn:cF n)(h:oO n)(mx:Int){p:aW}(hp:gN p=true)(lost:Int)(s:cB):oO (gY mx p lost n s).1:=by
 have t:=(hn.way s.way).take s.n;have m:=hn.set s.way t.1;have hm:=PD h s.way (takeN (iP n s.way) s.n).1;unfold gY;dsimp only;split
 ·exact hm
 split
 ·exact hm
 ·have q:=zcY p (takeN (iP n s.way) s.n).2.1 m.ss hm;split
  ·exact q
  ·refine Hk ?_ ?_ _ hp _
   ·exact⟨m.d,LD p _ m.ss,Q6 _ m.ss m.so hp,m.up,m.dn,m.pl⟩
   ·exact q
theorem zcV {n:Node}(hn:cF n)(h:oO n)(mx:Int){p:aW}(hp:gN p=true)(lost:Int)(s:cB):oO (fW mx p lost n s).1:=by
 unfold fW;split
 ·exact zcZ hn h _ hp _ _
 split
 ·exact PD h _ _
 split
 ·exact PD h _ _
 split
 ·exact PD h _ _
 split
 ·exact Hh h _ _
 split
 ·exact h
 split
 ·exact h
 ·exact h
theorem Hl (mx:Int){p:aW}(hp:gN p=true):∀(l:List Node) (lost e:Int),(∀n∈l,cF n)->(∀n∈l,oO n)->∀n∈(fX mx p l lost e).1,oO n
 |[],_,_,_,_=>by simp[fX]
 |m::l,lost,e,ho,h=>by
  unfold fX;intro n hn;rcases kD.1 hn with q|q
  ·subst q;exact Hk (ho m (by simp)) (h m (by simp)) _ hp _
  ·exact Hl mx hp l _ _ (λn hn=>ho n (by simp[hn])) (λn hn=>h n (by simp[hn])) n q
theorem Hg :∀(l:List Node) (lost k:Int),(∀n∈l,oO n)->∀n∈(gQ l lost k).1,oO n
 |[],_,_,_=>by simp[gQ]
 |m::l,lost,k,h=>by
  unfold gQ;intro n hn;rcases kD.1 hn with q|q
  ·subst q;exact h m (by simp)
  ·exact Hg l _ _ (λn hn=>h n (by simp[hn])) n q
theorem zcU {M:cX}{B:Int}(hM:fQ M B)(h:∀n∈M.ns,oO n)(s:cB):∀n∈(eX M s).1.ns,oO n:=by
 unfold eX;split
 ·exact h
 split
 ·exact h
 split
 ·unfold mZ;dsimp only;split
  ·exact h
  ·exact Hl _ (EU hM.p _ _) _ _ _ hM.ok h
 split
 ·exact Hg _ _ _ h
 split
 ·exact h
 ·rename_i n hn;split
  ·exact h
  ·intro m hm;rcases GC hm with q|q
   ·exact h m q
   ·subst q;exact zcV (hM.ok n (DI hn).1) (h n (DI hn).1) _ hM.p _ _
theorem Hm :∀(l:List cB) {M:cX} {B:Int},fQ M B->(∀s∈l,rO s)->(∀n∈M.ns,oO n)->∀n∈(gO M l).1.ns,oO n
 |[],_,_,_,_,h=>h
 |s::l,_,_,hM,hs,h=>Hm l (hM.step (hs s (by simp))) (λx hx=>hs x (by simp[hx])) (zcU hM h s)
theorem zcX (c:bT):∀n∈(gA c).ns,oO n:=by
 intro n hn;rw[(List.mem_replicate.1 hn).2];exact .inl rfl
end Go.G
namespace Go.Proofs.YtobcmagefgdgdaaGreatDoor
open Go.AI Go.G Tryz
attribute [simp] ntmps33 results33 ntmps19 results19 ntmps21 results21
@[simp] theorem lenAll_mstep (l:List cB):iY (l.map eD) 11=True:=tZ (f:=eD) (n:=11) (λ_=>rfl) l
@[simp] theorem lenAll_mout (l:List sJ):iY (l.map dV) 7=True:=tZ (f:=dV) (n:=7) (λ_=>rfl) l
def xW (l:List cB):Bool:=l.all uH&&decide (l.length<=60)
theorem RL {l:List cB}{s:cB}(hm:s∈l)(h:uH s=false):xW l=false:=by
 have:l.all uH=false:=by rw[oE];exact⟨s,hm,by simp[h]⟩
 simp[xW,this]
theorem zhX (l:List cB)(ha:∀s∈l,cL s.aD)(hl:l.length<=9223372036854775807):C0 33 [aB (l.map eD)] (bool (xW l)):=by
 refine Ct.B func33 ?_;simp;refine aH.inv mixed rfl (ι:={k:Nat//k<=(l).length/\(l.take k).all uH=true}) (λk=>[(0,aB (l.map eD)),(3,int k.1)]) (λk=>[]) 64 (λk=>(l).length-k.1) ⟨0,by omega,by simp⟩ [] (by constructor<;>simp) ?_;rintro⟨k,hk1,hi⟩ B hB;refine CI.n ?_;simp;rcases bC hk1 with⟨s,hk,hx,hr,hm,ht,hd,hw,h⟩|rfl
 ·simp[h,hr,hw];have ea:=iA s.a.host;have eb:=iA s.a.path;refine CI.p (zhY s.aD (ha s hm)) ?_;simp;cases h1:FP s.aD with
  |false=>
   have hn:uH s=false:=by simp[uH,h1]
   simp[h1];exact aA (by simp[RL hm hn])
  |true=>
   by_cases h2:s.gone.length<=80
   ·have h2':¬(80:Int)<s.gone.length:=by omega
    by_cases h3:(bs s.a.host).length<=100
    ·have h3':¬(100:Int)<(bs s.a.host).length:=by omega
     by_cases h4:(bs s.a.path).length<=100
     ·have h4':¬(100:Int)<(bs s.a.path).length:=by omega
      simp[hr,h1,h2',ea,eb,h3',h4'];refine hB _ ⟨k+1,by omega,by simp[ht,hi,uH,h1,h2,h3,h4]⟩ [] ?_ (by simp;omega);constructor<;>simp[hw,ht,uH,h1,h2,h3,h4]
     ·have hn:uH s=false:=by simp[uH,h4]
      have h4':(100:Int)<(bs s.a.path).length:=by omega
      simp[hr,h1,h2',ea,eb,h3',h4'];exact aA (by simp[RL hm hn])
    ·have hn:uH s=false:=by simp[uH,h3]
     have h3':(100:Int)<(bs s.a.host).length:=by omega
     simp[hr,h1,h2',ea,eb,h3'];exact aA (by simp[RL hm hn])
   ·have hn:uH s=false:=by simp[uH,h2]
    have h2':(80:Int)<s.gone.length:=by omega
    simp[hr,h1,h2'];exact aA (by simp[RL hm hn])
 ·simp;rw[bX]at hi;have e60:((l.length:Int)<=60)=(l.length<=60):=propext (by omega);exact aA (by simp[xW,hi,e60])
theorem Pq (l:List cB)(ha:∀s∈l,cL s.aD)(hl:l.length<=9223372036854775807):C0 19 [aB (l.map eD)] (bool (xW l)):=by
 refine Ct.B func19 ?_;simp;refine CI.p (zhX l ha hl) ?_;simp;cases h1:xW l with
 |false=>
  simp[h1];exact aA (by simp[h1])
 |true=>
  have h2:(l.length:Int)<=60:=by simp[xW]at h1;omega
  simp[h1,h2];exact aA (by simp[h1])
theorem Xl (l:List cB)(hl:l.length<=1000000):C0 21 [aB (l.map eD)] (aB (l.map eD)):=by
 refine Ct.B func21 ?_;simp;refine aH.gH 3 11 69 rfl ?_;refine aH.V (l) (λk=>[(0,aB (l.map eD)),(3,.own 64),(4,int k.1)]) (λk=>[(64,.grow 11 ((l.take k.1).map eD) 69)]) 65 (λk hk1 B hB=>?_);simp;rcases bC hk1 with⟨x,hk,hx,hr,hm,ht,hd,hw,h⟩|rfl
 ·simp[h,hr,hw];refine⟨by omega,?_⟩;refine dr ?_;exact hB hk (by constructor<;>simp[hw,ht])
 ·simp;exact aA
attribute [simp] ntmps24 results24
abbrev U9 (c:bT):Int:=if 1<if 4<c.sides then 4 else c.sides then if 4<c.sides then 4 else c.sides else 1
theorem KI {c:bT}{k:Nat}(h:gV c=k):U9 c=k:=by
 unfold gV at h;unfold U9;split<;>split at* <;>omega
@[simp] def Rc :Nat->List (List D)->List (Nat×aY)
  |_,[]=>[]
  |j,n::l=>(j,.cells (n.map .d) 121)::Rc (j+1) l
abbrev BK (M:G.cX):List (Nat×aY):=(64,.cells [int M.c.sides,int M.c.cap,int M.c.limit,int M.c.max,int M.p.cap,aB (M.p.bA.map oX),.own 65,int M.lost] 87)::(65,.dR (P6 66 (M.ns.map dZ)) 88)::Rc 66 (M.ns.map dZ)
theorem ze2 (c:bT)(hk:gV c=1):C1 24 [st (tF c)] [] [] (.ptr 64 0) (BK ⟨c,fZ c.cap,[gX c],0⟩):=by
 refine Ct.B func24 ?_;simp;have hs:=KI hk;refine CI.p (HZ c.cap) ?_;simp;refine dr ?_;simp only[hs];refine aH.rounds 2 ?_;refine cC.s ?_;simp;refine CI.p (wK c.limit c.max) ?_;simp;refine CI.p (wL 0 c.max) ?_;simp;refine dr ?_;refine cC.step mixed rfl ?_;refine CI.run 6 400 rfl ?_;simp;refine CI.s (tm:=[(3,.ptr 512 0)]) (mm:=[(512,.cells [int c.sides,int c.cap,int c.limit,int c.max,int (fZ c.cap).cap,aB ((fZ c.cap).bA.map oX),.own 2048,int 0] 87),(2048,.dR [1920] 88),(1920,.cells ((dZ (gX c)).map .d) 121)]) (nx:=2112) [] [] (by constructor<;>simp[gX,pI]) ?_;refine CI.n ?_;simp;exact⟨[(64,512),(65,2048),(66,1920)],by constructor<;>simp[aI,aJ]⟩
theorem ze1 (c:bT)(hk:gV c=2):C1 24 [st (tF c)] [] [] (.ptr 64 0) (BK ⟨c,fZ c.cap,[gX c,gX c],0⟩):=by
 refine Ct.B func24 ?_;simp;have hs:=KI hk;refine CI.p (HZ c.cap) ?_;simp;refine dr ?_;simp only[hs];refine aH.rounds 3 ?_;refine cC.s ?_;simp;refine CI.p (wK c.limit c.max) ?_;simp;refine CI.p (wL 0 c.max) ?_;simp;refine dr ?_;refine cC.s ?_;simp;refine CI.p (wK c.limit c.max) ?_;simp;refine CI.p (wL 0 c.max) ?_;simp;refine dr ?_;refine cC.step mixed rfl ?_;refine CI.run 6 400 rfl ?_;simp;refine CI.s (tm:=[(3,.ptr 512 0)]) (mm:=[(512,.cells [int c.sides,int c.cap,int c.limit,int c.max,int (fZ c.cap).cap,aB ((fZ c.cap).bA.map oX),.own 3520,int 0] 87),(3520,.dR [1920,3392] 88),(1920,.cells ((dZ (gX c)).map .d) 121),(3392,.cells ((dZ (gX c)).map .d) 121)]) (nx:=3584) [] [] (by constructor<;>simp[gX,pI]) ?_;refine CI.n ?_;simp;exact⟨[(64,512),(65,3520),(66,1920),(67,3392)],by constructor<;>simp[aI,aJ]⟩
theorem ze0 (c:bT)(hk:gV c=3):C1 24 [st (tF c)] [] [] (.ptr 64 0) (BK ⟨c,fZ c.cap,[gX c,gX c,gX c],0⟩):=by
 refine Ct.B func24 ?_;simp;have hs:=KI hk;refine CI.p (HZ c.cap) ?_;simp;refine dr ?_;simp only[hs];refine aH.rounds 4 ?_;refine cC.s ?_;simp;refine CI.p (wK c.limit c.max) ?_;simp;refine CI.p (wL 0 c.max) ?_;simp;refine dr ?_;refine cC.s ?_;simp;refine CI.p (wK c.limit c.max) ?_;simp;refine CI.p (wL 0 c.max) ?_;simp;refine dr ?_;refine cC.s ?_;simp;refine CI.p (wK c.limit c.max) ?_;simp;refine CI.p (wL 0 c.max) ?_;simp;refine dr ?_;refine cC.step mixed rfl ?_;refine CI.run 6 400 rfl ?_;simp;refine CI.s (tm:=[(3,.ptr 512 0)]) (mm:=[(512,.cells [int c.sides,int c.cap,int c.limit,int c.max,int (fZ c.cap).cap,aB ((fZ c.cap).bA.map oX),.own 4992,int 0] 87),(4992,.dR [1920,3392,4864] 88),(1920,.cells ((dZ (gX c)).map .d) 121),(3392,.cells ((dZ (gX c)).map .d) 121),(4864,.cells ((dZ (gX c)).map .d) 121)]) (nx:=5056) [] [] (by constructor<;>simp[gX,pI]) ?_;refine CI.n ?_;simp;exact⟨[(64,512),(65,4992),(66,1920),(67,3392),(68,4864)],by constructor<;>simp[aI,aJ]⟩
theorem zeZ (c:bT)(hk:gV c=4):C1 24 [st (tF c)] [] [] (.ptr 64 0) (BK ⟨c,fZ c.cap,[gX c,gX c,gX c,gX c],0⟩):=by
 refine Ct.B func24 ?_;simp;have hs:=KI hk;refine CI.p (HZ c.cap) ?_;simp;refine dr ?_;simp only[hs];refine aH.rounds 5 ?_;refine cC.s ?_;simp;refine CI.p (wK c.limit c.max) ?_;simp;refine CI.p (wL 0 c.max) ?_;simp;refine dr ?_;refine cC.s ?_;simp;refine CI.p (wK c.limit c.max) ?_;simp;refine CI.p (wL 0 c.max) ?_;simp;refine dr ?_;refine cC.s ?_;simp;refine CI.p (wK c.limit c.max) ?_;simp;refine CI.p (wL 0 c.max) ?_;simp;refine dr ?_;refine cC.s ?_;simp;refine CI.p (wK c.limit c.max) ?_;simp;refine CI.p (wL 0 c.max) ?_;simp;refine dr ?_;refine cC.step mixed rfl ?_;refine CI.run 6 400 rfl ?_;simp;refine CI.s (tm:=[(3,.ptr 512 0)]) (mm:=[(512,.cells [int c.sides,int c.cap,int c.limit,int c.max,int (fZ c.cap).cap,aB ((fZ c.cap).bA.map oX),.own 6464,int 0] 87),(6464,.dR [1920,3392,4864,6336] 88),(1920,.cells ((dZ (gX c)).map .d) 121),(3392,.cells ((dZ (gX c)).map .d) 121),(4864,.cells ((dZ (gX c)).map .d) 121),(6336,.cells ((dZ (gX c)).map .d) 121)]) (nx:=6528) [] [] (by constructor<;>simp[gX,pI]) ?_;refine CI.n ?_;simp;exact⟨[(64,512),(65,6464),(66,1920),(67,3392),(68,4864),(69,6336)],by constructor<;>simp[aI,aJ]⟩
@[simp] theorem zdD :∀(l:List D) (ys:List AV),DD.pairL (l.map .d) ys=[]
  |[],ys=>by cases ys<;>rfl
  |x::l,[]=>rfl
  |x::l,y::ys=>by simp only[kE,DD.pairL,zdD l ys,MZ];cases y<;>simp[DD]
@[simp] theorem prA_mapd (kp:Nat->Bool)(mm:Nat->Option aY)(n:Nat):fG kp mm n∘AV.d=AV.d:=by funext x;cases n<;>simp[fG]
@[simp] theorem leL_refl (l:List AV):eQ.leL l l=True:=eq_true (QL l)
abbrev BD (b:Nat)(M:G.cX)(ks:List (List D)):List (Nat×aY):=(b,.cells [int M.c.sides,int M.c.cap,int M.c.limit,int M.c.max,int M.p.cap,aB (M.p.bA.map oX),.own (b+1),int M.lost] 87)::(b+1,.dR (P6 (b+2) ks) 88)::ZM (b+2) ks
theorem OH (c:bT):gV c=1\/gV c=2\/gV c=3\/gV c=4:=by unfold gV;omega
theorem ze3 (c:bT):C1 24 [st (tF c)] [] [] (.ptr 64 0) (BD 64 (gA c) (bW (gA c) 0 (gV c))):=by
 have e:gA c=⟨c,fZ c.cap,List.replicate (gV c) (gX c),0⟩:=rfl;rcases OH c with hk|hk|hk|hk<;>rw[e,hk]
 ·exact ze2 c hk
 ·exact ze1 c hk
 ·exact ze0 c hk
 ·exact zeZ c hk
theorem Yh (M:G.cX)(s:cB)(B:Int){k:Nat}(hk:M.ns.length=k)(hM:fQ M B)(hB:B<=100000000)(hs:rO s):eL i6 prog 25 [.ptr 0 0,st (eD s)] [] (BC M.c M.p M.lost (bW M 0 k)) (st (dV (eX M s).2)) (BC (eX M s).1.c (eX M s).1.p (eX M s).1.lost (bW (eX M s).1 0 k)):=by
 have h:=Cy M s B hM hB hs;rw[BM,BM,P0 hk,P0 ((N5 hM s).trans hk)]at h;exact h
theorem zdk (c:bT)(l:List cB)(hl:l.length<=1000)(hs:∀s∈l,rO s):eL i6 prog 11 [st (tF c),aB (l.map eD)] [] [] (.aU [.ptr 64 0,.own 127]) (BD 64 (gO (gA c) l).1 (bW (gO (gA c) l).1 0 (gV c))++[(127,.grow 7 ((gO (gA c) l).2.map dV) 59)]):=by
 have hn:(gA c).ns.length=gV c:=by simp[gA]
 rcases OH c with hc|hc|hc|hc
 all_goals
  refine eL.B xY func11 ?_;simp;refine CI.cc [] (ze3 c) ?_ (ha:=by simp[hc,bW]) (hn:=by constructor<;>simp[jB,hc,bW]) (hk:=by simp[hc,bW]);simp[hc,bW];refine aH.gH 7 7 59 rfl ?_;refine aH.V (l) (λk=>[(6,.ptr 320 0),(7,.own 704),(12,aB (l.map eD)),(13,int l.length),(14,int k.1)]) (λk=>BD 320 (gO (gA c) (l.take k.1)).1 (bW (gO (gA c) (l.take k.1)).1 0 (gV c))++[(704,.grow 7 ((gO (gA c) (l.take k.1)).2.map dV) 59)]) 705 (λk hk1 B hB=>?_) (h0:=by constructor<;>simp[gO,hc,bW]);simp[gO,hc,bW];rcases bC hk1 with⟨x,hk,hx,hr,hm,ht,hd,hw,h⟩|rfl
  ·simp[h,hr,hw];have q:=V8 (M:=gA c) (l.take k) (fQ.new c) (λs hm=>hs s (pY hm));have hq:=PE (l.take k) (gA c);have hq':(l.take k).length<=1000:=by simp;omega
   generalize hM:gO (gA c) (l.take k)=Q at q hq⊢;obtain⟨M,os⟩:=Q;simp only at q hq⊢;refine CI.j [320,321,322,323,324,325] (Yh M x _ (q.2.trans hn) q.1 (by omega) (hs x hm)) ?_ (ha:=by simp[hc,bW]) (hn:=by constructor<;>simp[jB,hc,bW]) (hk:=by simp[hc,bW]);simp[hc,bW];refine⟨by omega,?_⟩;exact hB hk (by constructor<;>simp[hw,ht,V7,hM,hc,bW])
  ·simp;refine⟨[(64,320),(65,321),(66,322),(67,323),(68,324),(69,325),(127,704)],?_,?_,?_,?_,?_,?_,?_⟩<;>simp[aI,aJ,hc,bW]
attribute [simp] ntmps20 results20 ntmps22 results22 ntmps42 results42 ntmps16 results16 ntmps13 results13 ntmps45 results45
theorem ziV (c:bT):C0 20 [st (tF c)] (st (tF c)):=by
 refine Ct.B func20 ?_;simp;exact aA
theorem zdM (o:sJ):C0 22 [st (dV o)] (st (dV o)):=by
 refine Ct.B func22 ?_;simp;first|exact aA|exact aK
theorem zgA (l:List Int)(hl:l.length<=1000000000):C0 42 [aB (l.map kP),aB (l.map kP)] (bool true):=by
 refine Ct.B func42 ?_;simp;refine aH.V (l) (λk=>[(0,aB (l.map kP)),(1,aB (l.map kP)),(5,int k.1)]) (λk=>[]) 64 (λk hk1 B hB=>?_);simp;rcases bC hk1 with⟨x,hk,hx,hr,hm,ht,hd,hw,h⟩|rfl
 ·simp[h,hr,hw];refine dr ?_;exact hB hk (by constructor<;>simp[hw,ht])
 ·simp;first|exact aA|exact aK
theorem zbk (o:sJ)(hl:o.l.length<=1000000000)(hk:o.keys.length<=1000000000):C0 16 [st (dV o),st (dV o)] (bool true):=by
 refine Ct.B func16 ?_;simp;refine CI.p (LB o.keys o.keys (by omega)) ?_;simp;refine CI.p (zgA o.l hl) ?_;simp;first|exact aA|exact aK
theorem zfK (c:bT)(p:aW)(lost:Int)(ks:List (List D))(h1:1<=ks.length)(h4:ks.length<=4):C1 13 [.ptr 0 0] (BC c p lost ks) [] (int lost) []:=by
 rcases four h1 h4 with⟨a,e⟩|⟨a,b,e⟩|⟨a,b,d,e⟩|⟨a,b,d,f,e⟩
 all_goals
  subst e;refine Ct.B func13 ?_;simp;exact⟨[],by constructor<;>simp[aI,aJ]⟩
theorem Xj (c:bT)(p:aW)(lost:Int)(ks:List (List D))(h1:1<=ks.length)(h4:ks.length<=4):C1 45 [.ptr 0 0] (BC c p lost ks) [] (st (eW p)) []:=by
 rcases four h1 h4 with⟨a,e⟩|⟨a,b,e⟩|⟨a,b,d,e⟩|⟨a,b,d,f,e⟩
 all_goals
  subst e;refine Ct.B func45 ?_;simp;exact⟨[],by constructor<;>simp[aI,aJ]⟩
theorem zez {l:List cB}(h:xW l=true):l.length<=60/\∀s∈l,rO s:=by
 simp only[xW,bL,dA,dP]at h;refine⟨h.2,λs hs=>?_⟩;have:=h.1 s hs;simp only[uH,bL,dA]at this;obtain⟨⟨⟨q1,q2⟩,q3⟩,q4⟩:=this;have:=zh0 q1;exact⟨⟨by omega,by omega⟩,by omega,by omega⟩
attribute [simp] ntmps54 results54 ntmps48 results48
theorem Bh (c:bT)(p:aW)(lost:Int)(ks:List (List D))(k_ w:Int)(i:Nat)(n:G.Node)(h4:ks.length<=4)(hi:ks[i]? =some (dZ n))(hk:k_=i)(hw:w=0\/w=1):C1 54 [.ptr 0 0,int k_,int w] (BC c p lost ks) [] (.aU [st (gP (iP n w)),bool true]) []:=by
 have hl:i<ks.length:=(cE.1 hi).1;have h1:1<=ks.length:=by omega
 have e:i=0\/i=1\/i=2\/i=3:=by omega
 rcases four h1 h4 with⟨a,x⟩|⟨a,b,x⟩|⟨a,b,d,x⟩|⟨a,b,d,f,x⟩<;>subst x<;>rcases e with x|x|x|x<;>subst x
 all_goals first
  | (exfalso;simp at hl;done)
  |skip
 all_goals
  simp only[GG,JQ,pX]at hi;subst hi;rcases hw with rfl|rfl
 all_goals
  refine Ct.B func54 ?_;simp;refine CI.cc [0,1,2,3,4,5] (DH c p lost _ k_ _ hk hl h4) ?_;simp;exact⟨[],by constructor<;>simp[aI,aJ,iP]⟩
theorem zaU (c:bT)(p:aW)(lost:Int)(ks:List (List D))(k_:Int)(i:Nat)(n:G.Node)(h4:ks.length<=4)(hi:ks[i]? =some (dZ n))(hk:k_=i):C1 48 [.ptr 0 0,int k_] (BC c p lost ks) [] (.aU [st (iB n.bF),bool true]) []:=by
 have hl:i<ks.length:=(cE.1 hi).1;have h1:1<=ks.length:=by omega
 have e:i=0\/i=1\/i=2\/i=3:=by omega
 rcases four h1 h4 with⟨a,x⟩|⟨a,b,x⟩|⟨a,b,d,x⟩|⟨a,b,d,f,x⟩<;>subst x<;>rcases e with x|x|x|x<;>subst x
 all_goals first
  | (exfalso;simp at hl;done)
  |skip
 all_goals
  simp only[GG,JQ,pX]at hi;subst hi;refine Ct.B func48 ?_;simp;refine CI.cc [0,1,2,3,4,5] (DH c p lost _ k_ _ hk hl h4) ?_;simp;first| (refine⟨[],?_,?_,?_,?_,?_,?_,?_⟩<;>simp[aI,aJ];done)| (refine dr ?_;refine⟨[],?_,?_,?_,?_,?_,?_,?_⟩<;>simp[aI,aJ])
attribute [simp] ntmps47 results47
theorem zar (c:bT)(p:aW)(lost:Int)(ks:List (List D))(k_:Int)(i:Nat)(n:G.Node)(h4:ks.length<=4)(hi:ks[i]? =some (dZ n))(hk:k_=i):C1 47 [.ptr 0 0,int k_] (BC c p lost ks) [] (.aU [st (dU n.side),bool true]) []:=by
 have hl:i<ks.length:=(cE.1 hi).1;have h1:1<=ks.length:=by omega
 have e:i=0\/i=1\/i=2\/i=3:=by omega
 rcases four h1 h4 with⟨a,x⟩|⟨a,b,x⟩|⟨a,b,d,x⟩|⟨a,b,d,f,x⟩<;>subst x<;>rcases e with x|x|x|x<;>subst x
 all_goals first
  | (exfalso;simp at hl;done)
  |skip
 all_goals
  simp only[GG,JQ,pX]at hi;subst hi;refine Ct.B func47 ?_;simp;refine CI.cc [0,1,2,3,4,5] (DH c p lost _ k_ _ hk hl h4) ?_;simp;exact⟨[],by constructor<;>simp[aI,aJ]⟩
theorem ze8 {M:G.cX}{k i:Nat}(q:M.ns.length=k){n:G.Node}(h:M.ns[i]? =some n):(bW M 0 k)[i]? =some (dZ n):=by
 have:=jW (λl=>l[i]?) (P0 q);simp only[jX,h]at this;exact this.symm
attribute [simp] ntmps154 results154
theorem zdm (f:G.Frame)(hl:f.aP.length<=1000000):C0 154 [st (cA f)] (st (cA f)):=by
 refine Ct.B func154 ?_;simp;refine aH.BJ 1408 8 3 325 134 _ rfl rfl ?_;refine aH.V (f.aP) (λk=>[(1,.ptr 64 0),(2,.ptr 65 0),(3,.ptr 66 0),(4,int k.1)]) (λk=>[(64,.cells ((cA f).map .d) 108),(65,.cells ((cA eV).map .d) 134),(66,.cells [int f.type,int f.aM,int f.kind,int f.cN,int f.turn,aB (f.aD.map aF),aB (f.gone.map aQ),int f.err,.own 67,aB (f.held.map aQ)] 134),(67,.grow 3 ((f.aP.take k.1).map jD) 325)]) 68 (λk hk1 B hB=>?_) (h0:=by constructor<;>simp[eV]);simp[eV];rcases bC hk1 with⟨x,hk,hx,hr,hm,ht,hd,hw,h⟩|rfl
 ·simp[h,hr,hw];refine⟨by omega,?_⟩;refine dr ?_;exact hB hk (by constructor<;>simp[hw,ht,eV])
 ·simp;have e:List.take f.aP.length (List.map jD f.aP)=List.map jD f.aP:=by rw[<-zB,bX]
  exact aA (by simp[e])
attribute [simp] ntmps14 results14
theorem pP {n:G.Node}(h:cF n):n.bF.v.aP.length<=1000000:=by
 have S:=mQ.1 h.ss;have:=S.hl;omega
end Go.Proofs.YtobcmagefgdgdaaGreatDoor
