/-
  LAYER 24: the walks of a mesh's steps, of what is not made, of the laws' example.
-/
import Derived.Test.YtjoaclgkjhncjaaGreatDoorWm
import Derived.Test.YtjoaclgkjhncjaaGreatDoorWh
import Derived.Test.YtjoaclgkjhncjaaGreatDoorPq
import Derived.Test.YtjoaclgkjhncjaaGreatDoorWb
import Derived.Test.YtjoaclgkjhncjaaGreatDoorPl
set_option linter.unusedSimpArgs false
set_option linter.unusedVariables false
namespace Go.Proofs.YtjoaclgkjhncjaaGreatDoor
open Go.AI Go.G
set_option maxRecDepth 20000
set_option maxHeartbeats 8000000
theorem zgy (b:Nat)(c:Cfg)(p:Store)(lost:Int)(n:G.Node)(l:List G.Frame)(hn:OkL n.dn)(hf:∀f∈l,OkFrame f)(hl:l.length≤1000)(h0:0≤lost)(h1:lost≤1000000000000):Ct Tryz.prog 115 [.ptr 0 0,.ptr 1 0,int 1,lst (l.map zam)] [] [zax c p lost b,zcl n] (.tup []) [zax c p (za1 n.dn lost l).2 b,zcl {n with dn:=(za1 n.dn lost l).1}]:=Ct.hide (mr:=[]) (pre:=mPre c p) (pre':=mPre c p) (post:=[int lost]) (post':=[int (za1 n.dn lost l).2]) rfl fun v=>qgl v c p lost n l hn hf hl h0 h1
theorem zer {n:G.Node}(h:OkN n)(lost:Int):(∀f∈zae n.sess,OkFrame f)∧(zae n.sess).length≤1∧lost≤(za1 n.dn lost (zae n.sess)).2∧(za1 n.dn lost (zae n.sess)).2≤lost+1∧n.sess.v.have_.length≤1000000:=by
 have f:=zv4 h;have d:=zf6 h.dn lost (zae n.sess);have S:=saneS_iff.1 h.ss;exact⟨f.1,f.2,d.1,by omega,by have:=S.hl;omega⟩
attribute [simp] Tryz.ntmps75 Tryz.results75
theorem qp0 (s:MStep)(c:Cfg)(p:Store)(l0:Int)(a1:G.Node)(ha1:OkN a1)(h0:0≤l0)(h1:l0≤100000000):Ct Tryz.prog 75 [.ptr 0 0,st (zaf s)] [] (BM ⟨c,p,[a1],l0⟩) (st (zb9 (zgv ⟨c,p,[a1],l0⟩).2)) (BM (zgv ⟨c,p,[a1],l0⟩).1):=by
 refine Ct.B Tryz.func75 mixed 9999 400 ?_;simp;simp only[zgv,zb4,outN,zAns];refine LoopI.rounds 2 ?_;have t1:=zer ha1 l0;obtain⟨f1,n1,u1,v1,w1⟩:=t1;refine RoundsI.step mixed rfl ?_;refine CI.run 9999 400 rfl ?_;simp;refine CI.p (zet a1.sess ha1.so w1) Tryz.call114 9999 ?_;simp;refine CI.cc [0,2,1] (zgy 2 c p l0 a1 (zae a1.sess) ha1.dn f1 (by omega) (by omega) (by omega)) Tryz.call115 9999 ?_;simp;generalize hl1:(za1 a1.dn l0 (zae a1.sess)).2=l1 at u1 v1⊢;generalize hm1:(zae a1.sess).length=m1 at n1⊢;have x1:IntKind.wrap .i64 ((m1:Int))=(m1:Int):=zab (by omega) (by omega);simp[x1];refine RoundsI.step mixed rfl ?_;refine CI.run 9999 400 rfl ?_;simp;first| (refine⟨[],?_,?_,?_,?_,?_,?_,?_⟩<;>simp[nmF,inB];done)| (refine⟨by decide+kernel,?_⟩;refine⟨[],?_,?_,?_,?_,?_,?_,?_⟩<;>simp[nmF,inB])
theorem qpz (s:MStep)(c:Cfg)(p:Store)(l0:Int)(a1 a2:G.Node)(ha1:OkN a1)(ha2:OkN a2)(h0:0≤l0)(h1:l0≤100000000):Ct Tryz.prog 75 [.ptr 0 0,st (zaf s)] [] (BM ⟨c,p,[a1,a2],l0⟩) (st (zb9 (zgv ⟨c,p,[a1,a2],l0⟩).2)) (BM (zgv ⟨c,p,[a1,a2],l0⟩).1):=by
 refine Ct.B Tryz.func75 mixed 9999 400 ?_;simp;simp only[zgv,zb4,outN,zAns];refine LoopI.rounds 3 ?_;have t1:=zer ha1 l0;obtain⟨f1,n1,u1,v1,w1⟩:=t1;refine RoundsI.step mixed rfl ?_;refine CI.run 9999 400 rfl ?_;simp;refine CI.p (zet a1.sess ha1.so w1) Tryz.call114 9999 ?_;simp;refine CI.cc [0,2,1] (zgy 2 c p l0 a1 (zae a1.sess) ha1.dn f1 (by omega) (by omega) (by omega)) Tryz.call115 9999 ?_;simp;generalize hl1:(za1 a1.dn l0 (zae a1.sess)).2=l1 at u1 v1⊢;generalize hm1:(zae a1.sess).length=m1 at n1⊢;have x1:IntKind.wrap .i64 ((m1:Int))=(m1:Int):=zab (by omega) (by omega);simp[x1];have t2:=zer ha2 l1;obtain⟨f2,n2,u2,v2,w2⟩:=t2;refine RoundsI.step mixed rfl ?_;refine CI.run 9999 400 rfl ?_;simp;refine CI.p (zet a2.sess ha2.so w2) Tryz.call114 9999 ?_;simp;refine CI.cc [0,3,1] (zgy 2 c p l1 a2 (zae a2.sess) ha2.dn f2 (by omega) (by omega) (by omega)) Tryz.call115 9999 ?_;simp;generalize hl2:(za1 a2.dn l1 (zae a2.sess)).2=l2 at u2 v2⊢;generalize hm2:(zae a2.sess).length=m2 at n2⊢;have x2:IntKind.wrap .i64 ((m1:Int)+(m2:Int))=(m1:Int)+(m2:Int):=zab (by omega) (by omega);simp[x2];refine RoundsI.step mixed rfl ?_;refine CI.run 9999 400 rfl ?_;simp;first| (refine⟨[],?_,?_,?_,?_,?_,?_,?_⟩<;>simp[nmF,inB];done)| (refine⟨by decide+kernel,?_⟩;refine⟨[],?_,?_,?_,?_,?_,?_,?_⟩<;>simp[nmF,inB])
theorem qpy (s:MStep)(c:Cfg)(p:Store)(l0:Int)(a1 a2 a3:G.Node)(ha1:OkN a1)(ha2:OkN a2)(ha3:OkN a3)(h0:0≤l0)(h1:l0≤100000000):Ct Tryz.prog 75 [.ptr 0 0,st (zaf s)] [] (BM ⟨c,p,[a1,a2,a3],l0⟩) (st (zb9 (zgv ⟨c,p,[a1,a2,a3],l0⟩).2)) (BM (zgv ⟨c,p,[a1,a2,a3],l0⟩).1):=by
 refine Ct.B Tryz.func75 mixed 9999 400 ?_;simp;simp only[zgv,zb4,outN,zAns];refine LoopI.rounds 4 ?_;have t1:=zer ha1 l0;obtain⟨f1,n1,u1,v1,w1⟩:=t1;refine RoundsI.step mixed rfl ?_;refine CI.run 9999 400 rfl ?_;simp;refine CI.p (zet a1.sess ha1.so w1) Tryz.call114 9999 ?_;simp;refine CI.cc [0,2,1] (zgy 2 c p l0 a1 (zae a1.sess) ha1.dn f1 (by omega) (by omega) (by omega)) Tryz.call115 9999 ?_;simp;generalize hl1:(za1 a1.dn l0 (zae a1.sess)).2=l1 at u1 v1⊢;generalize hm1:(zae a1.sess).length=m1 at n1⊢;have x1:IntKind.wrap .i64 ((m1:Int))=(m1:Int):=zab (by omega) (by omega);simp[x1];have t2:=zer ha2 l1;obtain⟨f2,n2,u2,v2,w2⟩:=t2;refine RoundsI.step mixed rfl ?_;refine CI.run 9999 400 rfl ?_;simp;refine CI.p (zet a2.sess ha2.so w2) Tryz.call114 9999 ?_;simp;refine CI.cc [0,3,1] (zgy 2 c p l1 a2 (zae a2.sess) ha2.dn f2 (by omega) (by omega) (by omega)) Tryz.call115 9999 ?_;simp;generalize hl2:(za1 a2.dn l1 (zae a2.sess)).2=l2 at u2 v2⊢;generalize hm2:(zae a2.sess).length=m2 at n2⊢;have x2:IntKind.wrap .i64 ((m1:Int)+(m2:Int))=(m1:Int)+(m2:Int):=zab (by omega) (by omega);simp[x2];have t3:=zer ha3 l2;obtain⟨f3,n3,u3,v3,w3⟩:=t3;refine RoundsI.step mixed rfl ?_;refine CI.run 9999 400 rfl ?_;simp;refine CI.p (zet a3.sess ha3.so w3) Tryz.call114 9999 ?_;simp;refine CI.cc [0,4,1] (zgy 2 c p l2 a3 (zae a3.sess) ha3.dn f3 (by omega) (by omega) (by omega)) Tryz.call115 9999 ?_;simp;generalize hl3:(za1 a3.dn l2 (zae a3.sess)).2=l3 at u3 v3⊢;generalize hm3:(zae a3.sess).length=m3 at n3⊢;have x3:IntKind.wrap .i64 ((m1:Int)+(m2:Int)+(m3:Int))=(m1:Int)+(m2:Int)+(m3:Int):=zab (by omega) (by omega);simp[x3];refine RoundsI.step mixed rfl ?_;refine CI.run 9999 400 rfl ?_;simp;first| (refine⟨[],?_,?_,?_,?_,?_,?_,?_⟩<;>simp[nmF,inB];done)| (refine⟨by decide+kernel,?_⟩;refine⟨[],?_,?_,?_,?_,?_,?_,?_⟩<;>simp[nmF,inB])
theorem qpx (s:MStep)(c:Cfg)(p:Store)(l0:Int)(a1 a2 a3 a4:G.Node)(ha1:OkN a1)(ha2:OkN a2)(ha3:OkN a3)(ha4:OkN a4)(h0:0≤l0)(h1:l0≤100000000):Ct Tryz.prog 75 [.ptr 0 0,st (zaf s)] [] (BM ⟨c,p,[a1,a2,a3,a4],l0⟩) (st (zb9 (zgv ⟨c,p,[a1,a2,a3,a4],l0⟩).2)) (BM (zgv ⟨c,p,[a1,a2,a3,a4],l0⟩).1):=by
 refine Ct.B Tryz.func75 mixed 9999 400 ?_;simp;simp only[zgv,zb4,outN,zAns];refine LoopI.rounds 5 ?_;have t1:=zer ha1 l0;obtain⟨f1,n1,u1,v1,w1⟩:=t1;refine RoundsI.step mixed rfl ?_;refine CI.run 9999 400 rfl ?_;simp;refine CI.p (zet a1.sess ha1.so w1) Tryz.call114 9999 ?_;simp;refine CI.cc [0,2,1] (zgy 2 c p l0 a1 (zae a1.sess) ha1.dn f1 (by omega) (by omega) (by omega)) Tryz.call115 9999 ?_;simp;generalize hl1:(za1 a1.dn l0 (zae a1.sess)).2=l1 at u1 v1⊢;generalize hm1:(zae a1.sess).length=m1 at n1⊢;have x1:IntKind.wrap .i64 ((m1:Int))=(m1:Int):=zab (by omega) (by omega);simp[x1];have t2:=zer ha2 l1;obtain⟨f2,n2,u2,v2,w2⟩:=t2;refine RoundsI.step mixed rfl ?_;refine CI.run 9999 400 rfl ?_;simp;refine CI.p (zet a2.sess ha2.so w2) Tryz.call114 9999 ?_;simp;refine CI.cc [0,3,1] (zgy 2 c p l1 a2 (zae a2.sess) ha2.dn f2 (by omega) (by omega) (by omega)) Tryz.call115 9999 ?_;simp;generalize hl2:(za1 a2.dn l1 (zae a2.sess)).2=l2 at u2 v2⊢;generalize hm2:(zae a2.sess).length=m2 at n2⊢;have x2:IntKind.wrap .i64 ((m1:Int)+(m2:Int))=(m1:Int)+(m2:Int):=zab (by omega) (by omega);simp[x2];have t3:=zer ha3 l2;obtain⟨f3,n3,u3,v3,w3⟩:=t3;refine RoundsI.step mixed rfl ?_;refine CI.run 9999 400 rfl ?_;simp;refine CI.p (zet a3.sess ha3.so w3) Tryz.call114 9999 ?_;simp;refine CI.cc [0,4,1] (zgy 2 c p l2 a3 (zae a3.sess) ha3.dn f3 (by omega) (by omega) (by omega)) Tryz.call115 9999 ?_;simp;generalize hl3:(za1 a3.dn l2 (zae a3.sess)).2=l3 at u3 v3⊢;generalize hm3:(zae a3.sess).length=m3 at n3⊢;have x3:IntKind.wrap .i64 ((m1:Int)+(m2:Int)+(m3:Int))=(m1:Int)+(m2:Int)+(m3:Int):=zab (by omega) (by omega);simp[x3];have t4:=zer ha4 l3;obtain⟨f4,n4,u4,v4,w4⟩:=t4;refine RoundsI.step mixed rfl ?_;refine CI.run 9999 400 rfl ?_;simp;refine CI.p (zet a4.sess ha4.so w4) Tryz.call114 9999 ?_;simp;refine CI.cc [0,5,1] (zgy 2 c p l3 a4 (zae a4.sess) ha4.dn f4 (by omega) (by omega) (by omega)) Tryz.call115 9999 ?_;simp;generalize hl4:(za1 a4.dn l3 (zae a4.sess)).2=l4 at u4 v4⊢;generalize hm4:(zae a4.sess).length=m4 at n4⊢;have x4:IntKind.wrap .i64 ((m1:Int)+(m2:Int)+(m3:Int)+(m4:Int))=(m1:Int)+(m2:Int)+(m3:Int)+(m4:Int):=zab (by omega) (by omega);simp[x4];refine RoundsI.step mixed rfl ?_;refine CI.run 9999 400 rfl ?_;simp;first| (refine⟨[],?_,?_,?_,?_,?_,?_,?_⟩<;>simp[nmF,inB];done)| (refine⟨by decide+kernel,?_⟩;refine⟨[],?_,?_,?_,?_,?_,?_,?_⟩<;>simp[nmF,inB])
end Go.Proofs.YtjoaclgkjhncjaaGreatDoor
namespace Go.Proofs.YtjoaclgkjhncjaaGreatDoor
open Go.AI Go.G
set_option maxRecDepth 20000
set_option maxHeartbeats 8000000
theorem qud (s:MStep)(c:Cfg)(p q:Store)(l0 e:Int)(ks:List (List D))(h1:1≤ks.length)(h4:ks.length≤4)(he:¬e=0)(hP:CtJ errG Tryz.prog 112 [st (zbg p),lst (s.adds.map resC),lst (s.gone.map keyC)] [] [] (.tup [st (zbg q),int e]) []):
  CtJ errG Tryz.prog 74 [.ptr 0 0,st (zaf s)] [] (BC c p l0 ks) (st (zb9 (outE e))) (BC c q l0 ks):=by
 rcases four h1 h4 with⟨a,x⟩|⟨a,b,x⟩|⟨a,b,d,x⟩|⟨a,b,d,f,x⟩<;>subst x
 all_goals
  refine CtJ.B errK Tryz.func74 mixed 9999 400 ?_;simp;refine CI.j [] hP Tryz.call112 9999 ?_;simp;refine⟨by decide+kernel,?_⟩;simp[he];first| (refine⟨[],?_,?_,?_,?_,?_,?_,?_⟩<;>simp[nmF,inB,he,outE,zAns];done)| (refine⟨by decide+kernel,?_⟩;refine⟨[],?_,?_,?_,?_,?_,?_,?_⟩<;>simp[nmF,inB,he,outE,zAns])
theorem qks (M:G.Mesh)(s:MStep)(B:Int)(hM:OkM M B)(hB:B≤100000000)(hs:OkSt s):CtJ errG Tryz.prog 74 [.ptr 0 0,st (zaf s)] [] (BM M) (st (zb9 (zdk M s).2)) (BM (zdk M s).1):=by
 have l0:=hM.l0;have l1:=hM.l1;have hm0:=hM.p;have hok:=hM.ok;have hlast:=qa4 hm0;have hlt:=tab_len hlast.tab;have hh:=((zcd M.p).1 hm0).2.1;have ha:=hs.adds;have hg:=hs.gone;have n1:=hM.n1;have n4:=hM.n4;have hP:=qkk M.p s.adds s.gone (by omega) (by rw[zde hm0];exact qhr hlast.tab) (by rw[zde hm0];omega) (by omega);rw[zde hm0]at hP;have hp:=zez hm0 s.adds s.gone;obtain⟨c,p,ns,lost⟩:=M;unfold zdk;dsimp only at*;generalize zgz p s.adds s.gone=q at hp hP⊢;generalize zif p s.adds s.gone=e at hP⊢;have hq:=((zcd q).1 hp).2.1;by_cases he:e=0
 ·subst he;rw[if_neg (by simp)];rcases four n1 n4 with⟨a,x⟩|⟨a,b,x⟩|⟨a,b,d,x⟩|⟨a,b,d,f,x⟩<;>subst x
  ·have o1:=hok a (by simp);have u1:=o1.pump c.max hp lost;have P1:=zj2 2 c q lost a o1 hp (by omega) (by omega);rcases hA1:zc9 c.max q lost a with⟨r1,m1,e1⟩
   rw[hA1]at P1 u1;simp only at P1 u1;rw[show zbn c.max q [a] lost 0=([r1],m1,e1)from by simp[zbn,hA1]];exact quh s c p q lost m1 _ _ e1 hP (by omega) P1
  ·have o1:=hok a (by simp);have u1:=o1.pump c.max hp lost;have P1:=zj2 2 c q lost a o1 hp (by omega) (by omega);rcases hA1:zc9 c.max q lost a with⟨r1,m1,e1⟩
   rw[hA1]at P1 u1;simp only at P1 u1;have o2:=hok b (by simp);have u2:=o2.pump c.max hp m1;have P2:=zj2 2 c q m1 b o2 hp (by omega) (by omega);rcases hA2:zc9 c.max q m1 b with⟨r2,m2,e2⟩
   rw[hA2]at P2 u2;simp only at P2 u2;rw[show zbn c.max q [a,b] lost 0=([r1,r2],m2,if e1=0 then e2 else e1)from by simp[zbn,hA1,hA2]];exact qug s c p q lost m1 m2 _ _ _ _ e1 e2 hP (by omega) P1 P2
  ·have o1:=hok a (by simp);have u1:=o1.pump c.max hp lost;have P1:=zj2 2 c q lost a o1 hp (by omega) (by omega);rcases hA1:zc9 c.max q lost a with⟨r1,m1,e1⟩
   rw[hA1]at P1 u1;simp only at P1 u1;have o2:=hok b (by simp);have u2:=o2.pump c.max hp m1;have P2:=zj2 2 c q m1 b o2 hp (by omega) (by omega);rcases hA2:zc9 c.max q m1 b with⟨r2,m2,e2⟩
   rw[hA2]at P2 u2;simp only at P2 u2;have o3:=hok d (by simp);have u3:=o3.pump c.max hp m2;have P3:=zj2 2 c q m2 d o3 hp (by omega) (by omega);rcases hA3:zc9 c.max q m2 d with⟨r3,m3,e3⟩
   rw[hA3]at P3 u3;simp only at P3 u3;rw[show zbn c.max q [a,b,d] lost 0=([r1,r2,r3],m3,if(if e1=0 then e2 else e1)=0 then e3 else(if e1=0 then e2 else e1))from by simp[zbn,hA1,hA2,hA3]];exact quf s c p q lost m1 m2 m3 _ _ _ _ _ _ e1 e2 e3 hP (by omega) P1 P2 P3
  ·have o1:=hok a (by simp);have u1:=o1.pump c.max hp lost;have P1:=zj2 2 c q lost a o1 hp (by omega) (by omega);rcases hA1:zc9 c.max q lost a with⟨r1,m1,e1⟩
   rw[hA1]at P1 u1;simp only at P1 u1;have o2:=hok b (by simp);have u2:=o2.pump c.max hp m1;have P2:=zj2 2 c q m1 b o2 hp (by omega) (by omega);rcases hA2:zc9 c.max q m1 b with⟨r2,m2,e2⟩
   rw[hA2]at P2 u2;simp only at P2 u2;have o3:=hok d (by simp);have u3:=o3.pump c.max hp m2;have P3:=zj2 2 c q m2 d o3 hp (by omega) (by omega);rcases hA3:zc9 c.max q m2 d with⟨r3,m3,e3⟩
   rw[hA3]at P3 u3;simp only at P3 u3;have o4:=hok f (by simp);have u4:=o4.pump c.max hp m3;have P4:=zj2 2 c q m3 f o4 hp (by omega) (by omega);rcases hA4:zc9 c.max q m3 f with⟨r4,m4,e4⟩
   rw[hA4]at P4 u4;simp only at P4 u4;rw[show zbn c.max q [a,b,d,f] lost 0=([r1,r2,r3,r4],m4,if(if(if e1=0 then e2 else e1)=0 then e3 else(if e1=0 then e2 else e1))=0 then e4 else(if(if e1=0 then e2 else e1)=0 then e3 else(if e1=0 then e2 else e1)))from by simp[zbn,hA1,hA2,hA3,hA4]];exact que s c p q lost m1 m2 m3 m4 _ _ _ _ _ _ _ _ e1 e2 e3 e4 hP (by omega) P1 P2 P3 P4
 ·rw[if_pos he];exact qud s c p q lost e (ns.map zcm) (by simpa using n1) (by simpa using n4) he hP
theorem qui (M:G.Mesh)(s:MStep)(B:Int)(hM:OkM M B)(hB:B≤100000000):Ct Tryz.prog 75 [.ptr 0 0,st (zaf s)] [] (BM M) (st (zb9 (zgv M).2)) (BM (zgv M).1):=by
 have l0:=hM.l0;have l1:=hM.l1;have hok:=hM.ok;have n1:=hM.n1;have n4:=hM.n4;obtain⟨c,p,ns,lost⟩:=M;dsimp only at*;rcases four n1 n4 with⟨a,x⟩|⟨a,b,x⟩|⟨a,b,d,x⟩|⟨a,b,d,f,x⟩<;>subst x
 ·exact qp0 s c p lost a (hok a (by simp)) (by omega) (by omega)
 ·exact qpz s c p lost a b (hok a (by simp)) (hok b (by simp)) (by omega) (by omega)
 ·exact qpy s c p lost a b d (hok a (by simp)) (hok b (by simp)) (hok d (by simp)) (by omega) (by omega)
 ·exact qpx s c p lost a b d f (hok a (by simp)) (hok b (by simp)) (hok d (by simp)) (hok f (by simp)) (by omega) (by omega)
theorem qfu (c:Cfg)(p q:Store)(lost l':Int)(ks ks':List (List D))(s:MStep)(F:Nat)(o:MOut)(h1:1≤ks.length)(h4:ks.length≤4)(hl:ks'.length=ks.length)(k0:0≤s.kind)(k9:s.kind≤9)(hen:zcz Tryz.prog F)
  (hW:Ct Tryz.prog 36 [.ptr 0 0,int s.kind] [] [zax c p lost 1] (.fn (.func F) [.ptr 0 0] []) [zax c p lost 1])
  (hF:CtJ errG Tryz.prog F [.ptr 0 0,st (zaf s)] [] (BC c p lost ks) (st (zb9 o)) (BC c q l' ks')):CtJ errG Tryz.prog 12 [.ptr 0 0,st (zaf s)] [] (BC c p lost ks) (st (zb9 o)) (BC c q l' ks'):=by
 have hne:=zwu k0 k9;rcases four h1 h4 with⟨a,x⟩|⟨a,b,x⟩|⟨a,b,d,x⟩|⟨a,b,d,f,x⟩<;>subst x<;>rcases four (l:=ks') (by omega) (by omega)with⟨a',x⟩|⟨a',b',x⟩|⟨a',b',d',x⟩|⟨a',b',d',f',x⟩<;>subst x
 all_goals first
  | (exfalso;simp at hl;done)
  |skip
 all_goals
  refine CtJ.B errK Tryz.func12 mixed 9999 400 ?_;simp;refine CI.cc [0,1,2,3,4,5] (zfa c p lost _ h1 h4) Tryz.call16 9999 ?_;simp;refine CI.p (zwy s.kind k0 k9) Tryz.call35 9999 ?_;simp;simp[hne];refine CI.cc [0,1] hW Tryz.call36 9999 ?_;simp;refine CI.j [0,1,2,3,4,5] hF hen 9999 ?_;simp;first| (refine⟨[],?_,?_,?_,?_,?_,?_,?_⟩<;>simp[nmF,inB];done)| (refine⟨by decide+kernel,?_⟩;refine⟨[],?_,?_,?_,?_,?_,?_,?_⟩<;>simp[nmF,inB])
end Go.Proofs.YtjoaclgkjhncjaaGreatDoor
namespace Go.Proofs.YtjoaclgkjhncjaaGreatDoor
open Go.AI Go.G
set_option maxRecDepth 20000
set_option maxHeartbeats 4000000
section
variable (b : Nat) (c : Cfg) (p : Store) (lost : Int)
theorem qgf :Ct Tryz.prog 38 [.ptr 0 0,int 1] [] [zax c p lost b] (.fn (.func 76) [.ptr 0 0] []) [zax c p lost b]:=Ct.hide (mr:=[]) (pre:=mPre c p) (pre':=mPre c p) (post:=[int lost]) (post':=[int lost]) rfl fun v=>qge v c p lost
theorem qgd :Ct Tryz.prog 38 [.ptr 0 0,int 2] [] [zax c p lost b] (.d (.fn (.func 120) [] [.pro [fnD 78]])) [zax c p lost b]:=Ct.hide (mr:=[]) (pre:=mPre c p) (pre':=mPre c p) (post:=[int lost]) (post':=[int lost]) rfl fun v=>qgc v c p lost
theorem qgb :Ct Tryz.prog 38 [.ptr 0 0,int 3] [] [zax c p lost b] (.d (.fn (.func 120) [] [.pro [fnD 79]])) [zax c p lost b]:=Ct.hide (mr:=[]) (pre:=mPre c p) (pre':=mPre c p) (post:=[int lost]) (post':=[int lost]) rfl fun v=>qga v c p lost
theorem qf9 :Ct Tryz.prog 38 [.ptr 0 0,int 4] [] [zax c p lost b] (.d (.fn (.func 120) [] [.pro [fnD 80]])) [zax c p lost b]:=Ct.hide (mr:=[]) (pre:=mPre c p) (pre':=mPre c p) (post:=[int lost]) (post':=[int lost]) rfl fun v=>qf8 v c p lost
theorem qf7 :Ct Tryz.prog 38 [.ptr 0 0,int 5] [] [zax c p lost b] (.fn (.func 81) [.ptr 0 0] []) [zax c p lost b]:=Ct.hide (mr:=[]) (pre:=mPre c p) (pre':=mPre c p) (post:=[int lost]) (post':=[int lost]) rfl fun v=>qf6 v c p lost
theorem qf5 :Ct Tryz.prog 38 [.ptr 0 0,int 7] [] [zax c p lost b] (.fn (.func 82) [.ptr 0 0] []) [zax c p lost b]:=Ct.hide (mr:=[]) (pre:=mPre c p) (pre':=mPre c p) (post:=[int lost]) (post':=[int lost]) rfl fun v=>qf4 v c p lost
theorem qf3 :Ct Tryz.prog 38 [.ptr 0 0,int 8] [] [zax c p lost b] (.fn (.func 83) [.ptr 0 0] []) [zax c p lost b]:=Ct.hide (mr:=[]) (pre:=mPre c p) (pre':=mPre c p) (post:=[int lost]) (post':=[int lost]) rfl fun v=>qf2 v c p lost
theorem qf1 :Ct Tryz.prog 38 [.ptr 0 0,int 9] [] [zax c p lost b] (.fn (.func 84) [.ptr 0 0] []) [zax c p lost b]:=Ct.hide (mr:=[]) (pre:=mPre c p) (pre':=mPre c p) (post:=[int lost]) (post':=[int lost]) rfl fun v=>qf0 v c p lost
theorem qkp :Ct Tryz.prog 36 [.ptr 0 0,int 0] [] [zax c p lost b] (.fn (.func 74) [.ptr 0 0] []) [zax c p lost b]:=Ct.hide (mr:=[]) (pre:=mPre c p) (pre':=mPre c p) (post:=[int lost]) (post':=[int lost]) rfl fun v=>qko v c p lost
theorem qkn :Ct Tryz.prog 36 [.ptr 0 0,int 6] [] [zax c p lost b] (.fn (.func 75) [.ptr 0 0] []) [zax c p lost b]:=Ct.hide (mr:=[]) (pre:=mPre c p) (pre':=mPre c p) (post:=[int lost]) (post':=[int lost]) rfl fun v=>qkm v c p lost
variable (n : G.Node) (s : MStep)
theorem qt3 (hn:OkN n)(h0:0≤lost)(h1:lost≤1000000000):Ct Tryz.prog 81 [.ptr 0 0,.ptr 1 0,st (zaf s)] [] [zax c p lost b,zcl n] (st (zb9 (((za6 c.max lost n).1,(za6 c.max lost n).2.1,outE (za6 c.max lost n).2.2)).2.2)) [zax c p (((za6 c.max lost n).1,(za6 c.max lost n).2.1,outE (za6 c.max lost n).2.2)).2.1 b,zcl (((za6 c.max lost n).1,(za6 c.max lost n).2.1,outE (za6 c.max lost n).2.2)).1]:=Ct.hide (mr:=[]) (pre:=mPre c p) (pre':=mPre c p) (post:=[int lost]) (post':=[int (((za6 c.max lost n).1,(za6 c.max lost n).2.1,outE (za6 c.max lost n).2.2)).2.1]) rfl fun v=>qt1 v c p lost n s hn h0 (by omega)
theorem qts (hn:OkN n):Ct Tryz.prog 82 [.ptr 0 0,.ptr 1 0,st (zaf s)] [] [zax c p lost b,zcl n] (st (zb9 (zfj lost n s).2.2)) [zax c p (zfj lost n s).2.1 b,zcl (zfj lost n s).1]:=Ct.hide (mr:=[]) (pre:=mPre c p) (pre':=mPre c p) (post:=[int lost]) (post':=[int (zfj lost n s).2.1]) rfl fun v=>qtr v c p lost n s hn
theorem qwp (hn:OkN n)(h0:0≤lost)(h1:lost≤1000000000):Ct Tryz.prog 83 [.ptr 0 0,.ptr 1 0,st (zaf s)] [] [zax c p lost b,zcl n] (st (zb9 (zl0 lost n s).2.2)) [zax c p (zl0 lost n s).2.1 b,zcl (zl0 lost n s).1]:=Ct.hide (mr:=[]) (pre:=mPre c p) (pre':=mPre c p) (post:=[int lost]) (post':=[int (zl0 lost n s).2.1]) rfl fun v=>qwo v c p lost n s hn h0 h1
theorem qth (hn:OkN n)(hp:sanS p=true)(h0:0≤lost)(h1:lost≤1000000000)(hw:s.way=0∨s.way=1):Ct Tryz.prog 76 [.ptr 0 0,.ptr 1 0,st (zaf s)] [] [zax c p lost b,zcl n] (st (zb9 (zck c.max p lost n s).2.2)) [zax c p (zck c.max p lost n s).2.1 b,zcl (zck c.max p lost n s).1]:=Ct.hide (mr:=[]) (pre:=mPre c p) (pre':=mPre c p) (post:=[int lost]) (post':=[int (zck c.max p lost n s).2.1]) rfl fun v=>qtg v c p lost n s hn hp hw h0 h1
theorem qul (hn:OkN n)(hp:sanS p=true):Ct Tryz.prog 84 [.ptr 0 0,.ptr 1 0,st (zaf s)] [] [zax c p lost b,zcl n] (st (zb9 (zn4 p lost n).2.2)) [zax c p (zn4 p lost n).2.1 b,zcl (zn4 p lost n).1]:=Ct.hide (mr:=[]) (pre:=mPre c p) (pre':=mPre c p) (post:=[int lost]) (post':=[int (zn4 p lost n).2.1]) rfl fun v=>quk v c p lost n s hn hp
end
theorem zpe (c:Cfg)(p:Store)(lost:Int)(ns:List G.Node)(s:MStep)(n:G.Node)(F:Nat)(r:NR)(hn:zlg ns s.side=some n)(h4:ns.length≤4)(k1:1≤s.kind)(k9:s.kind≤9)(k6:¬s.kind=6)(hw:s.kind≤4→s.way=0∨s.way=1)(hen:zcz Tryz.prog F)
  (hS:Ct Tryz.prog 38 [.ptr 0 0,int s.kind] [] [zax c p lost 1] (.fn (.func F) [.ptr 0 0] []) [zax c p lost 1])
  (hF:Ct Tryz.prog F [.ptr 0 0,.ptr 1 0,st (zaf s)] [] [zax c p lost 2,zcl n] (st (zb9 r.2.2)) [zax c p r.2.1 2,zcl r.1]):
  CtJ errG Tryz.prog 12 [.ptr 0 0,st (zaf s)] [] (BM ⟨c,p,ns,lost⟩) (st (zb9 r.2.2)) (BM ⟨c,p,ns.set s.side.toNat r.1,r.2.1⟩):=by
 have hi:=zhe hn;have:=qqh c p lost (ns.map zcm) s s.side.toNat (zcm n) F (zcm r.1) r.2.2 r.2.1 k1 k9 k6 hw (by simpa using h4) (by rw[List.getElem?_map,hi.2.2.2];rfl) (by omega) hen hS hF;rw[←List.map_set]at this;exact this.toJ
theorem zyw (c:Cfg)(p:Store)(lost:Int)(ns:List G.Node)(s:MStep)(n:G.Node)(kf:Nat)(f:FLk→Int→FLk×Int)(hf:∀l i,OkL l→Ct Tryz.prog kf [st (flkC l),int i] [] [] (.tup [st (flkC (f l i).1),int (f l i).2]) [])(hE:zcz Tryz.prog kf)(ho:OkN n)(hn:zlg ns s.side=some n)(h4:ns.length≤4)(k1:1≤s.kind)(k4:s.kind≤4)(hw:s.way=0∨s.way=1)
  (hS:Ct Tryz.prog 38 [.ptr 0 0,int s.kind] [] [zax c p lost 1] (.d (.fn (.func 120) [] [.pro [fnD kf]])) [zax c p lost 1]):
  CtJ errG Tryz.prog 12 [.ptr 0 0,st (zaf s)] [] (BM ⟨c,p,ns,lost⟩) (st (zb9 (ze3 f lost n s).2.2)) (BM ⟨c,p,ns.set s.side.toNat (ze3 f lost n s).1,(ze3 f lost n s).2.1⟩):=by
 have hi:=zhe hn;have:=qqg c p lost (ns.map zcm) s s.side.toNat (zcm n) 120 (zcm (ze3 f lost n s).1) (ze3 f lost n s).2.2 (fnD kf) k1 k4 hw (by simpa using h4) (by rw[List.getElem?_map,hi.2.2.2];rfl) (by omega) Tryz.call120 hS
  (qwk lost n s (fnD kf) f (fun l i hl=>FnOk.of (hf l i hl) hE rfl rfl) ho hw)
 rw[←List.map_set]at this;exact this.toJ
theorem qok (M:G.Mesh)(s:MStep)(B:Int)(hM:OkM M B)(hB:B≤100000000)(hs:OkSt s):CtJ errG Tryz.prog 12 [.ptr 0 0,st (zaf s)] [] (BM M) (st (zb9 (za2 M s).2)) (BM (za2 M s).1):=by
 have l0:=hM.l0;have l1:=hM.l1;have hp:=hM.p;have n1:=hM.n1;have n4:=hM.n4;have hne:M.ns≠[]:=by intro e;rw[e]at n1;simp at n1
 by_cases k0:s.kind=0
 ·rw[qqa hne k0];have hU:=qks M s B hM hB hs;have hl:(zdk M s).1.ns.length=M.ns.length:=by
   unfold zdk;dsimp only;split
   ·rfl
   ·exact(zhc M.c.max (zez hp s.adds s.gone) M.ns M.lost 0 hM.ok).2.1
  have hc:(zdk M s).1.c=M.c:=by unfold zdk;dsimp only;split<;>rfl
  rw[BM,BM,hc]at hU;rw[BM,BM,hc];exact qfu _ _ _ _ _ _ _ s _ _ (by simpa using n1) (by simpa using n4) (by simpa using hl) (by omega) (by omega) Tryz.call74 (by rw[k0];exact qkp 1 M.c M.p M.lost) hU
 by_cases k6:s.kind=6
 ·have hU:=(qui M s B hM hB).toJ (G:=errG);have hl:(zgv M).1.ns.length=M.ns.length:=(zg3 M.ns M.lost 0 hM.ok).2.1;have e:za2 M s=zgv M:=by
   unfold za2;rw[if_neg hne,if_neg (by omega),if_neg k0,if_pos k6]
  rw[e];exact qfu _ _ _ _ _ _ _ s _ _ (by simpa using n1) (by simpa using n4) (by simpa using hl) (by omega) (by omega) Tryz.call75 (by rw[k6];exact qkn 1 M.c M.p M.lost) hU
 have ha:=hs.a;obtain⟨c,p,ns,lost⟩:=M;have hok:=hM.ok;unfold za2;dsimp only at*;rw[if_neg hne];by_cases hk:0≤s.kind∧s.kind≤9
 ·rw[if_neg (by omega),if_neg k0,if_neg k6];cases hn:zlg ns s.side with
  |none=>
   refine(qk4 c p lost (ns.map zcm) s (by simpa using n1) (by simpa using n4) (by omega) hk.2 k6 ?_).toJ;unfold zlg at hn;split at hn
   ·have:=List.getElem?_eq_none_iff.1 hn;exact .inr (by simp;omega)
   ·exact .inl (by omega)
  |some n=>
   have hi:=zhe hn;have on:=hok n hi.1;dsimp only;by_cases hw:s.kind≤4∧(s.way<0∨2≤s.way)
   ·rw[if_pos hw];exact(qk3 c p lost (ns.map zcm) s s.side.toNat (by simpa using hi.2.2.1) (by simpa using n4) (by omega) (by omega) hw.1 hw.2).toJ
   ·rw[if_neg hw];have hw':s.kind≤4→s.way=0∨s.way=1:=fun g=>by omega
    have e:s.kind=1∨s.kind=2∨s.kind=3∨s.kind=4∨s.kind=5∨s.kind=7∨s.kind=8∨s.kind=9:=by omega
    rcases e with e|e|e|e|e|e|e|e
    ·rw[show za7 c.max p lost n s=zck c.max p lost n s from by simp[za7,e]];exact zpe c p lost ns s n _ (zck c.max p lost n s) hn n4 (by omega) hk.2 k6 hw' Tryz.call76 (by rw[e];exact qgf 1 c p lost) (qth 2 c p lost n s on hp l0 (by omega) (hw' (by omega)))
    ·rw[show za7 c.max p lost n s=ze3 zoe lost n s from by simp[za7,e]];exact zyw c p lost ns s n _ zoe qs6 Tryz.call78 on hn n4 (by omega) (by omega) (hw' (by omega)) (by rw[e];exact qgd 1 c p lost)
    ·rw[show za7 c.max p lost n s=ze3 zgu lost n s from by simp[za7,e]];exact zyw c p lost ns s n _ zgu qob Tryz.call79 on hn n4 (by omega) (by omega) (hw' (by omega)) (by rw[e];exact qgb 1 c p lost)
    ·rw[show za7 c.max p lost n s=ze3 zls lost n s from by simp[za7,e]];exact zyw c p lost ns s n _ zls qsi Tryz.call80 on hn n4 (by omega) (by omega) (hw' (by omega)) (by rw[e];exact qf9 1 c p lost)
    ·rw[show za7 c.max p lost n s=((za6 c.max lost n).1,(za6 c.max lost n).2.1,outE (za6 c.max lost n).2.2)from by simp[za7,e]];exact zpe c p lost ns s n _ (((za6 c.max lost n).1,(za6 c.max lost n).2.1,outE (za6 c.max lost n).2.2)) hn n4 (by omega) hk.2 k6 hw' Tryz.call81 (by rw[e];exact qf7 1 c p lost) (qt3 2 c p lost n s on l0 (by omega))
    ·rw[show za7 c.max p lost n s=zfj lost n s from by simp[za7,e]];exact zpe c p lost ns s n _ (zfj lost n s) hn n4 (by omega) hk.2 k6 hw' Tryz.call82 (by rw[e];exact qf5 1 c p lost) (qts 2 c p lost n s on)
    ·rw[show za7 c.max p lost n s=zl0 lost n s from by simp[za7,e]];exact zpe c p lost ns s n _ (zl0 lost n s) hn n4 (by omega) hk.2 k6 hw' Tryz.call83 (by rw[e];exact qf3 1 c p lost) (qwp 2 c p lost n s on l0 (by omega))
    ·rw[show za7 c.max p lost n s=zn4 p lost n from by simp[za7,e]];exact zpe c p lost ns s n _ (zn4 p lost n) hn n4 (by omega) hk.2 k6 hw' Tryz.call84 (by rw[e];exact qf1 1 c p lost) (qul 2 c p lost n s on hp)
 ·rw[if_pos hk];exact(qqf c p lost (ns.map zcm) s (by simpa using n1) (by simpa using n4) hk).toJ
end Go.Proofs.YtjoaclgkjhncjaaGreatDoor
namespace Go.Proofs.YtjoaclgkjhncjaaGreatDoor
open Go.AI Go.G
set_option maxRecDepth 20000
abbrev B1 (M:G.Mesh):List (Nat×Blk):=[zax M.c M.p M.lost 1,(1,.grp [2] 109),qry 2 (nth M 0)]
theorem ztd (M:G.Mesh):Ct Tryz.prog 16 [.ptr 0 0] (B1 M) [] (int 1) []:=zfa M.c M.p M.lost [zcm (nth M 0)] (by simp) (by simp)
theorem qbr (M:G.Mesh):Ct Tryz.prog 37 [.ptr 0 0,int 0] (B1 M) [] (.ptr 2 0) []:=zr4 M.c M.p M.lost [zcm (nth M 0)] 0 0 rfl (by simp) (by simp)
theorem stepM_len {M:G.Mesh}{B:Int}(hM:OkM M B)(s:MStep):(za2 M s).1.ns.length=M.ns.length:=by
 unfold za2;split
 ·rfl
 split
 ·rfl
 split
 ·unfold zdk;dsimp only;split
  ·rfl
  ·exact(zhc M.c.max (zez hM.p s.adds s.gone) M.ns M.lost 0 hM.ok).2.1
 split
 ·exact(zg3 M.ns M.lost 0 hM.ok).2.1
 split
 ·rfl
 ·split
  ·rfl
  ·simp
theorem qxq {M:G.Mesh}(hk:M.ns.length=1):BM M=B1 M:=by
 show BC M.c M.p M.lost (M.ns.map zcm)=_;rw[ns1 hk];rfl
theorem zmm (M:G.Mesh)(s:MStep)(B:Int)(hk:M.ns.length=1)(hM:OkM M B)(hB:B≤100000000)(hs:OkSt s):CtJ errG Tryz.prog 12 [.ptr 0 0,st (zaf s)] [] (B1 M) (st (zb9 (za2 M s).2)) (B1 (za2 M s).1):=by
 have h:=qok M s B hM hB hs
 rwa[qxq hk,qxq (by rw[stepM_len hM];exact hk)]at h
theorem qsx (n:G.Node)(hn:OkN n):Ct Tryz.prog 66 [.ptr 0 0] [(0,.cells ((zcm n).map .d) 120)] [] (bool (qsw n)) []:=qwi n hn
abbrev BNe (c:Cfg)(p:Store)(lost:Int)(n:G.Node):List (Nat×Blk):=[(64,.cells [int c.sides,int c.cap,int c.limit,int c.max,int p.cap,lst (p.hist.map rsC),.own 65,int lost] 108),(65,.grp [66] 109),qry 66 n]
attribute [simp] Tryz.ntmps9 Tryz.results9
theorem qv3 :Ct Tryz.prog 9 [st (cfgC ⟨1,9,9,99⟩)] [] [] (.ptr 64 0) (BNe ⟨1,9,9,99⟩ (newS 9) 0 (zag ⟨1,9,9,99⟩)):=by
 refine Ct.B Tryz.func9 mixed 9999 400 ?_;simp;refine CI.p (zr5 9) Tryz.call32 9999 ?_;simp;refine⟨by decide+kernel,?_⟩;refine LoopI.unroll mixed (Plain.retC _ _ _ _ _) rfl ?_;refine CI.run 9999 400 rfl ?_;simp;refine CI.p (zhf 9 99) Tryz.call33 9999 ?_;simp;refine CI.p (zci 0 99) Tryz.call34 9999 ?_;simp;refine⟨by decide+kernel,?_⟩;refine LoopI.unroll mixed (Plain.retC _ _ _ _ _) rfl ?_;refine CI.run 6 400 rfl ?_;simp;refine CI.s (tm:=[(3,.ptr 512 0)]) (mm:=[(512,.cells [int 1,int 9,int 9,int 99,int (newS 9).cap,lst ((newS 9).hist.map rsC),.own 2048,int 0] 108),(2048,.grp [1920] 109),(1920,.cells ((zcm (zag ⟨1,9,9,99⟩)).map .d) 120)]) (nx:=2112) [] [] (by constructor<;>simp[zag,zPool]) ?_;refine CI.run 9999 400 rfl ?_;simp;first| (refine⟨[(64,512),(65,2048),(66,1920)],?_,?_,?_,?_,?_,?_,?_⟩<;>simp[nmF,inB];done)| (refine⟨by decide+kernel,?_⟩;refine⟨[(64,512),(65,2048),(66,1920)],?_,?_,?_,?_,?_,?_,?_⟩<;>simp[nmF,inB])
attribute [simp] Tryz.ntmps65 Tryz.results65
theorem qpk (M:G.Mesh):Ct Tryz.prog 65 [.ptr 0 0,int 0,int 0] (B1 M) [] (.tup [st (flkC (nth M 0).up),bool true]) []:=by
 refine Ct.B Tryz.func65 mixed 9999 400 ?_;simp;refine CI.cc [0,1,2] (qbr M) Tryz.call37 9999 ?_;simp;first| (refine⟨[],?_,?_,?_,?_,?_,?_,?_⟩<;>simp[nmF,inB];done)| (refine⟨by decide+kernel,?_⟩;refine⟨[],?_,?_,?_,?_,?_,?_,?_⟩<;>simp[nmF,inB])
theorem qpj (M:G.Mesh):Ct Tryz.prog 65 [.ptr 0 0,int 0,int 1] (B1 M) [] (.tup [st (flkC (nth M 0).dn),bool true]) []:=by
 refine Ct.B Tryz.func65 mixed 9999 400 ?_;simp;refine CI.cc [0,1,2] (qbr M) Tryz.call37 9999 ?_;simp;first| (refine⟨[],?_,?_,?_,?_,?_,?_,?_⟩<;>simp[nmF,inB];done)| (refine⟨by decide+kernel,?_⟩;refine⟨[],?_,?_,?_,?_,?_,?_,?_⟩<;>simp[nmF,inB])
attribute [simp] Tryz.ntmps30 Tryz.results30
theorem qdk (M:G.Mesh)(B:Int)(hk:M.ns.length=1)(hM:OkM M B):Ct Tryz.prog 30 [.ptr 0 0] (B1 M) [] (bool (zth M)) []:=by
 refine Ct.B Tryz.func30 mixed 9999 400 ?_;simp;have n0:=qov hM (i:=0) (by omega);have S:=saneS_iff.1 n0.ss;have hh:=((zcd M.p).1 hM.p).2.1;unfold zth;rw[ns1 hk];refine CI.cc [0,1,2] (ztd M) Tryz.call16 9999 ?_;simp;refine LoopI.unroll mixed (Plain.retC _ _ _ _ _) rfl ?_;refine CI.run 9999 400 rfl ?_;simp;refine CI.cc [2] (qsx (nth M 0) n0) Tryz.call66 9999 ?_;simp;cases h1:qsw (nth M 0)with
 |false=>
  simp[h1];first| (refine⟨[],?_,?_,?_,?_,?_,?_,?_⟩<;>simp[nmF,inB,h1];done)| (refine⟨by decide+kernel,?_⟩;refine⟨[],?_,?_,?_,?_,?_,?_,?_⟩<;>simp[nmF,inB,h1])
 |true=>
  simp[h1];refine CI.p (zpl (nth M 0).sess M.p n0.so (by have:=S.hl;omega) (by omega)) Tryz.call23 9999 ?_;simp;cases h2:zfl (nth M 0).sess M.p with
  |false=>
   simp[h2];first| (refine⟨[],?_,?_,?_,?_,?_,?_,?_⟩<;>simp[nmF,inB,h1,h2];done)| (refine⟨by decide+kernel,?_⟩;refine⟨[],?_,?_,?_,?_,?_,?_,?_⟩<;>simp[nmF,inB,h1,h2])
  |true=>
   simp[h2];refine⟨by decide+kernel,?_⟩;refine LoopI.unroll mixed (Plain.retC _ _ _ _ _) rfl ?_;refine CI.run 9999 400 rfl ?_;simp;first| (refine⟨[],?_,?_,?_,?_,?_,?_,?_⟩<;>simp[nmF,inB,h1,h2];done)| (refine⟨by decide+kernel,?_⟩;refine⟨[],?_,?_,?_,?_,?_,?_,?_⟩<;>simp[nmF,inB,h1,h2])
end Go.Proofs.YtjoaclgkjhncjaaGreatDoor
namespace Go.Proofs.YtjoaclgkjhncjaaGreatDoor
open Go.AI Go.G
set_option maxRecDepth 20000
set_option maxHeartbeats 4000000
attribute [simp] Tryz.ntmps29 Tryz.results29
theorem qn0 (M:G.Mesh)(r:Nat)(B:Int)(hk:M.ns.length=1)(hM:OkM M B)(hB:B≤230600)(hr:r≤100):CtJ errG Tryz.prog 29 [.ptr 0 0,int r] [] (B1 M) (.tup []) (B1 (zd9 M r)):=by
 refine CtJ.B errK Tryz.func29 mixed 9999 400 ?_;simp;refine LoopI.inv mixed rfl (ι:={k:Nat//k≤r}) (fun k=>[(0,.ptr 0 0),(1,int r),(4,int k.1)]) (fun k=>B1 (zd9 M k.1)) 64 (fun k=>r-k.1) ⟨0,by omega⟩ [] (by constructor<;>simp[zd9]) ?_;rintro⟨kk,hk1⟩ B1_ hB;refine CI.run 9999 400 rfl ?_;simp;refine sBI (fun h1=>?_) (fun h1=>?_)<;>simp only[h1]<;>simp<;>(try simp only[nT,nF,dT,dF]at h1)
 ·obtain⟨q1,q2⟩:=zjo hk hM kk;generalize hN:zd9 M kk=N at q1 q2⊢;refine LoopI.rounds 2 ?_;refine RoundsI.step mixed rfl ?_;refine CI.run 9999 400 rfl ?_;simp;refine CI.cc [0,1,2] (ztd N) Tryz.call16 9999 ?_;simp;refine LoopI.rounds 3 ?_;refine RoundsI.step mixed rfl ?_;refine CI.run 9999 400 rfl ?_;simp;refine CI.cc [0,1,2] (qpk N) Tryz.call65 9999 ?_;simp;refine LoopI.inv mixed rfl (ι:={j:Nat//j≤(nth N 0).up.q.length}) (fun k=>[(0,.ptr 0 0),(1,int r),(4,int kk),(5,int 0),(6,int 0),(7,.ptr 1216 0),(9,int k.1)]) (fun k=>B1 (zdw N 0 k.1)++[(1216,.cells ((flkC (nth N 0).up).map .d) 114)]) 1217 (fun k=>(nth N 0).up.q.length-k.1) ⟨0,by omega⟩ [] (by constructor<;>simp[zdw]) ?_;rintro⟨j,hj⟩ B0 hB0;have hlen:(nth N 0).up.q.length≤32:=zyq q1 q2 0;refine CI.run 9999 400 rfl ?_;simp;refine sBI (fun h2=>?_) (fun h2=>?_)<;>simp only[h2]<;>simp<;>(try simp only[nT,nF,dT,dF]at h2)
  ·have hb:=zmb q1 q2 (w:=0) (by omega) j;have wj:IntKind.wrap .i64 ((j:Int)+1)=j+1:=zab (by omega) (by omega);generalize hbk:zdw N 0 j=K at hb⊢;refine CI.j [0,1,2] (zmm K (zee 0) _ hb.1 hb.2 (by omega) (zp6 0)) Tryz.call12 9999 ?_ (ha:=by simp[zee,zAsk]) (hk:=by simp[zee,zAsk]);simp[zee,zAsk];refine hB0 _ ⟨j+1,by omega⟩ [] ?_ (by simp;omega);constructor<;>simp[zdw,hbk,zee,zAsk,wj]
  ·have e:j=(nth N 0).up.q.length:=by omega
   subst e;have hw0:(zdw N 0 (nth N 0).up.q.length).ns.length=1∧OkM (zdw N 0 (nth N 0).up.q.length) (B+768*kk+384):=zma q1 q2 (w:=0) (.inl rfl);generalize hW:zdw N 0 (nth N 0).up.q.length=W at hw0⊢;obtain⟨p1,p2⟩:=hw0;refine RoundsI.step mixed rfl ?_;refine CI.run 9999 400 rfl ?_;simp;refine CI.cc [0,1,2] (qpj W) Tryz.call65 9999 ?_;simp;refine LoopI.inv mixed rfl (ι:={j:Nat//j≤(nth W 0).dn.q.length}) (fun k=>[(0,.ptr 0 0),(1,int r),(4,int kk),(5,int 0),(6,int 1),(7,.ptr 2305 0),(9,int k.1)]) (fun k=>B1 (zdw W 1 k.1)++[(2305,.cells ((flkC (nth W 0).dn).map .d) 114)]) 2306 (fun k=>(nth W 0).dn.q.length-k.1) ⟨0,by omega⟩ [] (by constructor<;>simp[zdw]) ?_;rintro⟨j,hj⟩ B1 hB1;have hlen:(nth W 0).dn.q.length≤32:=zyq p1 p2 1;refine CI.run 9999 400 rfl ?_;simp;refine sBI (fun h2=>?_) (fun h2=>?_)<;>simp only[h2]<;>simp<;>(try simp only[nT,nF,dT,dF]at h2)
   ·have hb:=zmb p1 p2 (w:=1) (by omega) j;have wj:IntKind.wrap .i64 ((j:Int)+1)=j+1:=zab (by omega) (by omega);generalize hbk:zdw W 1 j=K at hb⊢;refine CI.j [0,1,2] (zmm K (zee 1) _ hb.1 hb.2 (by omega) (zp6 1)) Tryz.call12 9999 ?_ (ha:=by simp[zee,zAsk]) (hk:=by simp[zee,zAsk]);simp[zee,zAsk];refine hB1 _ ⟨j+1,by omega⟩ [] ?_ (by simp;omega);constructor<;>simp[zdw,hbk,zee,zAsk,wj]
   ·have e:j=(nth W 0).dn.q.length:=by omega
    subst e;have hw1:(zdw W 1 (nth W 0).dn.q.length).ns.length=1∧OkM (zdw W 1 (nth W 0).dn.q.length) (B+768*kk+384+384):=zma p1 p2 (w:=1) (.inr rfl);have hR:zd9 M (kk+1)=zdw W 1 (nth W 0).dn.q.length:=by
     have e1:zd9 M (kk+1)=zqt (zqt (zd9 M kk) 0) 1:=rfl;have e2:zqt (zd9 M kk) 0=W:=by rw[hN,←hW];rfl
     rw[e1,e2];rfl
    rw[←hR]at hw1⊢;generalize hV:zd9 M (kk+1)=V at hw1⊢;have wk:IntKind.wrap .i64 ((kk:Int)+1)=kk+1:=zab (by omega) (by omega);refine RoundsI.step mixed rfl ?_;refine CI.run 9999 400 rfl ?_;simp;refine RoundsI.step mixed rfl ?_;refine CI.run 9999 400 rfl ?_;simp;refine CI.cc [0,1,2] (ztd V) Tryz.call16 9999 ?_;simp;refine hB _ ⟨kk+1,by omega⟩ [] ?_ (by simp;omega);constructor<;>simp[wk,hV]
 ·have e:kk=r:=by omega
  subst e;first| (refine⟨[],?_,?_,?_,?_,?_,?_,?_⟩<;>simp[nmF,inB];done)| (refine⟨by decide+kernel,?_⟩;refine⟨[],?_,?_,?_,?_,?_,?_,?_⟩<;>simp[nmF,inB])
end Go.Proofs.YtjoaclgkjhncjaaGreatDoor
namespace Go.Proofs.YtjoaclgkjhncjaaGreatDoor
open Go.AI Go.G
set_option maxRecDepth 20000
attribute [simp] Tryz.ntmps16 Tryz.results16
attribute [simp] Tryz.ntmps37 Tryz.results37
attribute [simp] Tryz.ntmps12 Tryz.results12
attribute [simp] Tryz.ntmps13 Tryz.results13
attribute [simp] Tryz.ntmps20 Tryz.results20
attribute [simp] Tryz.ntmps65 Tryz.results65
attribute [simp] Tryz.ntmps435 Tryz.results435
attribute [simp] Tryz.ntmps30 Tryz.results30
attribute [simp] Tryz.ntmps18 Tryz.results18
attribute [simp] Tryz.ntmps28 Tryz.results28
theorem qqn :Ct Tryz.prog 28 [] [] [] (lst (smallL.map resC)) []:=by
 refine Ct.B Tryz.func28 mixed 9999 400 ?_;simp;refine CI.opG [256] 9999 400 rfl rfl (by first|exact .inl rfl|exact .inr ⟨_,_,rfl,by simp⟩|exact .inr ⟨_,_,rfl,by simp[*]⟩) (by simp) ?_;simp[zui,gvB];refine CI.opG [384,576] 9999 400 rfl rfl (by first|exact .inl rfl|exact .inr ⟨_,_,rfl,by simp⟩|exact .inr ⟨_,_,rfl,by simp[*]⟩) (by simp) ?_;simp[zui,gvB];first|exact fin0 (by simp[smallL]) rfl|exact zaa (by simp[smallL])
attribute [simp] Tryz.ntmps31 Tryz.results31
attribute [simp] Tryz.ntmps8 Tryz.results8
attribute [simp] Tryz.ntmps11 Tryz.results11
end Go.Proofs.YtjoaclgkjhncjaaGreatDoor
namespace Go.Proofs.YtjoaclgkjhncjaaGreatDoor
open Go.AI Go.G
set_option maxRecDepth 20000
set_option maxHeartbeats 4000000
abbrev BN (M:G.Mesh):List (Nat×Blk):=[(64,.cells [int M.c.sides,int M.c.cap,int M.c.limit,int M.c.max,int M.p.cap,lst (M.p.hist.map rsC),.own 65,int M.lost] 108),(65,.grp [66] 109),qry 66 (nth M 0)]
theorem qv4 :Ct Tryz.prog 9 [st (cfgC ⟨1,9,9,99⟩)] [] [] (.ptr 64 0) (BN aM0):=qv3
theorem s5a :CtJ errG Tryz.prog 12 [.ptr 0 0,st [iD 5,iD 0,iD 0,iD 0,lD [],lD [],iD 0,sD ⟨#[]⟩,sD ⟨#[]⟩,iD 0,iD 0]] [] (B1 aM0) (st (zb9 (za2 aM0 sRen).2)) (B1 aM1):=zmm aM0 sRen 0 len0 okA0 (by omega) qos
theorem s0a :CtJ errG Tryz.prog 12 [.ptr 0 0,st [iD 0,iD 0,iD 0,iD 0,lD (smallL.map resC),lD [],iD 0,sD ⟨#[]⟩,sD ⟨#[]⟩,iD 0,iD 0]] [] (B1 aM1) (st (zb9 aO2)) (B1 aM2):=zmm aM1 sUpd 12 len1 okA1 (by omega) qor
theorem s7a :CtJ errG Tryz.prog 12 [.ptr 0 0,st [iD 7,iD 0,iD 0,iD 0,lD [],lD [],iD 80,sD ⟨#[104]⟩,sD ⟨#[47]⟩,iD 0,iD 0]] [] (B1 aM3) (st (zb9 aO4)) (B1 aM4):=zmm aM3 sBeg 10000 len3 okA3 (by omega) qou
theorem s8a (k:Nat)(hk:k≤10):CtJ errG Tryz.prog 12 [.ptr 0 0,st [iD 8,iD 0,iD 0,iD 0,lD [],lD [],iD 0,sD ⟨#[]⟩,sD ⟨#[]⟩,iD 0,iD 0]] [] (B1 (aG k)) (st (zb9 (aO (k+1)))) (B1 (aG (k+1))):=zmm (aG k) sGo _ (lenG k) (okG k) (by omega) qvo
theorem b8a :CtJ errG Tryz.prog 29 [.ptr 0 0,int 8] [] (B1 aM2) (.tup []) (B1 aM3):=qn0 aM2 8 24 len2 okA2 (by omega) (by omega)
attribute [simp] Tryz.ntmps7 Tryz.results7
theorem zi8 :CtJ errG Tryz.prog 7 [] [] [] (bool true) []:=by
 refine CtJ.B errK Tryz.func7 mixed 9999 400 ?_;simp;refine CI.cc [] qv4 Tryz.call9 9999 ?_;simp;refine CI.j [192,193,194] s5a Tryz.call12 9999 ?_;simp;refine CI.p qqn Tryz.call28 9999 ?_;simp;refine CI.j [192,193,194] s0a Tryz.call12 9999 ?_;simp;refine CI.j [192,193,194] b8a Tryz.call29 9999 ?_;simp;refine CI.j [192,193,194] s7a Tryz.call12 9999 ?_;simp;rw[show aM4=aG 0 from rfl];refine LoopI.rounds 6 ?_;refine RoundsI.step mixed rfl ?_;refine CI.run 9999 400 rfl ?_;simp;refine CI.j [192,193,194] (s8a 0 (by omega)) Tryz.call12 9999 ?_;simp;refine RoundsI.step mixed rfl ?_;refine CI.run 9999 400 rfl ?_;simp;refine CI.j [192,193,194] (s8a 1 (by omega)) Tryz.call12 9999 ?_;simp;refine RoundsI.step mixed rfl ?_;refine CI.run 9999 400 rfl ?_;simp;refine CI.j [192,193,194] (s8a 2 (by omega)) Tryz.call12 9999 ?_;simp;refine RoundsI.step mixed rfl ?_;refine CI.run 9999 400 rfl ?_;simp;refine CI.j [192,193,194] (s8a 3 (by omega)) Tryz.call12 9999 ?_;simp;refine RoundsI.step mixed rfl ?_;refine CI.run 9999 400 rfl ?_;simp;refine CI.j [192,193,194] (s8a 4 (by omega)) Tryz.call12 9999 ?_;simp;have a1:(aO 5).n=1:=aw5.1;have a2:(aO 5).ans.what=3:=by rw[aw5.2]
 have a3:(aO 5).ans.cluster=⟨#[99]⟩:=by rw[aw5.2]
 have a4:(aO 5).ans.host=7:=by rw[aw5.2]
 refine RoundsI.step mixed rfl ?_;refine CI.run 9999 400 rfl ?_;simp[qys,qyr,a1,a2,a3,a4];refine CI.cc [192,193,194] (qdk (aG 5) _ (lenG 5) (okG 5)) Tryz.call30 9999 ?_;simp;first|exact fin0 (by simp[aw6]) rfl|exact zaa (by simp[aw6])
end Go.Proofs.YtjoaclgkjhncjaaGreatDoor
