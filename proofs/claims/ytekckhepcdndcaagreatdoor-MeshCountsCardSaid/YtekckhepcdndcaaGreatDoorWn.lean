/-
  LAYER 24: the walks of a mesh's steps, of what is not made, of the laws' example.
-/
import Derived.Test.YtekckhepcdndcaaGreatDoorWm
import Derived.Test.YtekckhepcdndcaaGreatDoorWh
import Derived.Test.YtekckhepcdndcaaGreatDoorPq
import Derived.Test.YtekckhepcdndcaaGreatDoorWb
set_option linter.unusedSimpArgs false
set_option linter.unusedVariables false
namespace Go.Proofs.YtekckhepcdndcaaGreatDoor
open Go.AI Go.G
set_option maxRecDepth 20000
set_option maxHeartbeats 8000000
theorem zgj (b:Nat)(c:Cfg)(p:Store)(lost:Int)(n:G.Node)(l:List G.Frame)(hn:OkL n.dn)(hf:∀f∈l,OkFrame f)(hl:l.length≤1000)(h0:0≤lost)(h1:lost≤1000000000000):Ct Tryz.prog 108 [.ptr 0 0,.ptr 1 0,int 1,lst (l.map zai)] [] [zau c p lost b,zcb n] (.tup []) [zau c p (za1 n.dn lost l).2 b,zcb {n with dn:=(za1 n.dn lost l).1}]:=Ct.hide (mr:=[]) (pre:=mPre c p) (pre':=mPre c p) (post:=[int lost]) (post':=[int (za1 n.dn lost l).2]) rfl fun v=>qe9 v c p lost n l hn hf hl h0 h1
theorem zei {n:G.Node}(h:OkN n)(lost:Int):(∀f∈zaf n.sess,OkFrame f)∧(zaf n.sess).length≤1∧lost≤(za1 n.dn lost (zaf n.sess)).2∧(za1 n.dn lost (zaf n.sess)).2≤lost+1∧n.sess.v.have_.length≤1000000:=by
 have f:=zux h;have d:=zfp h.dn lost (zaf n.sess);have S:=saneS_iff.1 h.ss;exact⟨f.1,f.2,d.1,by omega,by have:=S.hl;omega⟩
attribute [simp] Tryz.ntmps70 Tryz.results70
theorem qor (s:MStep)(c:Cfg)(p:Store)(l0:Int)(a1:G.Node)(ha1:OkN a1)(h0:0≤l0)(h1:l0≤100000000):Ct Tryz.prog 70 [.ptr 0 0,st (mstepC s)] [] (BM ⟨c,p,[a1],l0⟩) (st (zam (zfy ⟨c,p,[a1],l0⟩).2)) (BM (zfy ⟨c,p,[a1],l0⟩).1):=by
 refine Ct.B Tryz.func70 mixed 9999 400 ?_;simp;simp only[zfy,zbm,outN,zAns];refine LoopI.rounds 2 ?_;have t1:=zei ha1 l0;obtain⟨f1,n1,u1,v1,w1⟩:=t1;refine RoundsI.step mixed rfl ?_;refine CI.run 9999 400 rfl ?_;simp;refine CI.p (zek a1.sess ha1.so w1) Tryz.call107 9999 ?_;simp;refine CI.cc [0,2,1] (zgj 2 c p l0 a1 (zaf a1.sess) ha1.dn f1 (by omega) (by omega) (by omega)) Tryz.call108 9999 ?_;simp;generalize hl1:(za1 a1.dn l0 (zaf a1.sess)).2=l1 at u1 v1⊢;generalize hm1:(zaf a1.sess).length=m1 at n1⊢;have x1:IntKind.wrap .i64 ((m1:Int))=(m1:Int):=zab (by omega) (by omega);simp[x1];refine RoundsI.step mixed rfl ?_;refine CI.run 9999 400 rfl ?_;simp;first| (refine⟨[],?_,?_,?_,?_,?_,?_,?_⟩<;>simp[nmF,inB];done)| (refine⟨by decide+kernel,?_⟩;refine⟨[],?_,?_,?_,?_,?_,?_,?_⟩<;>simp[nmF,inB])
theorem qoq (s:MStep)(c:Cfg)(p:Store)(l0:Int)(a1 a2:G.Node)(ha1:OkN a1)(ha2:OkN a2)(h0:0≤l0)(h1:l0≤100000000):Ct Tryz.prog 70 [.ptr 0 0,st (mstepC s)] [] (BM ⟨c,p,[a1,a2],l0⟩) (st (zam (zfy ⟨c,p,[a1,a2],l0⟩).2)) (BM (zfy ⟨c,p,[a1,a2],l0⟩).1):=by
 refine Ct.B Tryz.func70 mixed 9999 400 ?_;simp;simp only[zfy,zbm,outN,zAns];refine LoopI.rounds 3 ?_;have t1:=zei ha1 l0;obtain⟨f1,n1,u1,v1,w1⟩:=t1;refine RoundsI.step mixed rfl ?_;refine CI.run 9999 400 rfl ?_;simp;refine CI.p (zek a1.sess ha1.so w1) Tryz.call107 9999 ?_;simp;refine CI.cc [0,2,1] (zgj 2 c p l0 a1 (zaf a1.sess) ha1.dn f1 (by omega) (by omega) (by omega)) Tryz.call108 9999 ?_;simp;generalize hl1:(za1 a1.dn l0 (zaf a1.sess)).2=l1 at u1 v1⊢;generalize hm1:(zaf a1.sess).length=m1 at n1⊢;have x1:IntKind.wrap .i64 ((m1:Int))=(m1:Int):=zab (by omega) (by omega);simp[x1];have t2:=zei ha2 l1;obtain⟨f2,n2,u2,v2,w2⟩:=t2;refine RoundsI.step mixed rfl ?_;refine CI.run 9999 400 rfl ?_;simp;refine CI.p (zek a2.sess ha2.so w2) Tryz.call107 9999 ?_;simp;refine CI.cc [0,3,1] (zgj 2 c p l1 a2 (zaf a2.sess) ha2.dn f2 (by omega) (by omega) (by omega)) Tryz.call108 9999 ?_;simp;generalize hl2:(za1 a2.dn l1 (zaf a2.sess)).2=l2 at u2 v2⊢;generalize hm2:(zaf a2.sess).length=m2 at n2⊢;have x2:IntKind.wrap .i64 ((m1:Int)+(m2:Int))=(m1:Int)+(m2:Int):=zab (by omega) (by omega);simp[x2];refine RoundsI.step mixed rfl ?_;refine CI.run 9999 400 rfl ?_;simp;first| (refine⟨[],?_,?_,?_,?_,?_,?_,?_⟩<;>simp[nmF,inB];done)| (refine⟨by decide+kernel,?_⟩;refine⟨[],?_,?_,?_,?_,?_,?_,?_⟩<;>simp[nmF,inB])
theorem qop (s:MStep)(c:Cfg)(p:Store)(l0:Int)(a1 a2 a3:G.Node)(ha1:OkN a1)(ha2:OkN a2)(ha3:OkN a3)(h0:0≤l0)(h1:l0≤100000000):Ct Tryz.prog 70 [.ptr 0 0,st (mstepC s)] [] (BM ⟨c,p,[a1,a2,a3],l0⟩) (st (zam (zfy ⟨c,p,[a1,a2,a3],l0⟩).2)) (BM (zfy ⟨c,p,[a1,a2,a3],l0⟩).1):=by
 refine Ct.B Tryz.func70 mixed 9999 400 ?_;simp;simp only[zfy,zbm,outN,zAns];refine LoopI.rounds 4 ?_;have t1:=zei ha1 l0;obtain⟨f1,n1,u1,v1,w1⟩:=t1;refine RoundsI.step mixed rfl ?_;refine CI.run 9999 400 rfl ?_;simp;refine CI.p (zek a1.sess ha1.so w1) Tryz.call107 9999 ?_;simp;refine CI.cc [0,2,1] (zgj 2 c p l0 a1 (zaf a1.sess) ha1.dn f1 (by omega) (by omega) (by omega)) Tryz.call108 9999 ?_;simp;generalize hl1:(za1 a1.dn l0 (zaf a1.sess)).2=l1 at u1 v1⊢;generalize hm1:(zaf a1.sess).length=m1 at n1⊢;have x1:IntKind.wrap .i64 ((m1:Int))=(m1:Int):=zab (by omega) (by omega);simp[x1];have t2:=zei ha2 l1;obtain⟨f2,n2,u2,v2,w2⟩:=t2;refine RoundsI.step mixed rfl ?_;refine CI.run 9999 400 rfl ?_;simp;refine CI.p (zek a2.sess ha2.so w2) Tryz.call107 9999 ?_;simp;refine CI.cc [0,3,1] (zgj 2 c p l1 a2 (zaf a2.sess) ha2.dn f2 (by omega) (by omega) (by omega)) Tryz.call108 9999 ?_;simp;generalize hl2:(za1 a2.dn l1 (zaf a2.sess)).2=l2 at u2 v2⊢;generalize hm2:(zaf a2.sess).length=m2 at n2⊢;have x2:IntKind.wrap .i64 ((m1:Int)+(m2:Int))=(m1:Int)+(m2:Int):=zab (by omega) (by omega);simp[x2];have t3:=zei ha3 l2;obtain⟨f3,n3,u3,v3,w3⟩:=t3;refine RoundsI.step mixed rfl ?_;refine CI.run 9999 400 rfl ?_;simp;refine CI.p (zek a3.sess ha3.so w3) Tryz.call107 9999 ?_;simp;refine CI.cc [0,4,1] (zgj 2 c p l2 a3 (zaf a3.sess) ha3.dn f3 (by omega) (by omega) (by omega)) Tryz.call108 9999 ?_;simp;generalize hl3:(za1 a3.dn l2 (zaf a3.sess)).2=l3 at u3 v3⊢;generalize hm3:(zaf a3.sess).length=m3 at n3⊢;have x3:IntKind.wrap .i64 ((m1:Int)+(m2:Int)+(m3:Int))=(m1:Int)+(m2:Int)+(m3:Int):=zab (by omega) (by omega);simp[x3];refine RoundsI.step mixed rfl ?_;refine CI.run 9999 400 rfl ?_;simp;first| (refine⟨[],?_,?_,?_,?_,?_,?_,?_⟩<;>simp[nmF,inB];done)| (refine⟨by decide+kernel,?_⟩;refine⟨[],?_,?_,?_,?_,?_,?_,?_⟩<;>simp[nmF,inB])
theorem qoo (s:MStep)(c:Cfg)(p:Store)(l0:Int)(a1 a2 a3 a4:G.Node)(ha1:OkN a1)(ha2:OkN a2)(ha3:OkN a3)(ha4:OkN a4)(h0:0≤l0)(h1:l0≤100000000):Ct Tryz.prog 70 [.ptr 0 0,st (mstepC s)] [] (BM ⟨c,p,[a1,a2,a3,a4],l0⟩) (st (zam (zfy ⟨c,p,[a1,a2,a3,a4],l0⟩).2)) (BM (zfy ⟨c,p,[a1,a2,a3,a4],l0⟩).1):=by
 refine Ct.B Tryz.func70 mixed 9999 400 ?_;simp;simp only[zfy,zbm,outN,zAns];refine LoopI.rounds 5 ?_;have t1:=zei ha1 l0;obtain⟨f1,n1,u1,v1,w1⟩:=t1;refine RoundsI.step mixed rfl ?_;refine CI.run 9999 400 rfl ?_;simp;refine CI.p (zek a1.sess ha1.so w1) Tryz.call107 9999 ?_;simp;refine CI.cc [0,2,1] (zgj 2 c p l0 a1 (zaf a1.sess) ha1.dn f1 (by omega) (by omega) (by omega)) Tryz.call108 9999 ?_;simp;generalize hl1:(za1 a1.dn l0 (zaf a1.sess)).2=l1 at u1 v1⊢;generalize hm1:(zaf a1.sess).length=m1 at n1⊢;have x1:IntKind.wrap .i64 ((m1:Int))=(m1:Int):=zab (by omega) (by omega);simp[x1];have t2:=zei ha2 l1;obtain⟨f2,n2,u2,v2,w2⟩:=t2;refine RoundsI.step mixed rfl ?_;refine CI.run 9999 400 rfl ?_;simp;refine CI.p (zek a2.sess ha2.so w2) Tryz.call107 9999 ?_;simp;refine CI.cc [0,3,1] (zgj 2 c p l1 a2 (zaf a2.sess) ha2.dn f2 (by omega) (by omega) (by omega)) Tryz.call108 9999 ?_;simp;generalize hl2:(za1 a2.dn l1 (zaf a2.sess)).2=l2 at u2 v2⊢;generalize hm2:(zaf a2.sess).length=m2 at n2⊢;have x2:IntKind.wrap .i64 ((m1:Int)+(m2:Int))=(m1:Int)+(m2:Int):=zab (by omega) (by omega);simp[x2];have t3:=zei ha3 l2;obtain⟨f3,n3,u3,v3,w3⟩:=t3;refine RoundsI.step mixed rfl ?_;refine CI.run 9999 400 rfl ?_;simp;refine CI.p (zek a3.sess ha3.so w3) Tryz.call107 9999 ?_;simp;refine CI.cc [0,4,1] (zgj 2 c p l2 a3 (zaf a3.sess) ha3.dn f3 (by omega) (by omega) (by omega)) Tryz.call108 9999 ?_;simp;generalize hl3:(za1 a3.dn l2 (zaf a3.sess)).2=l3 at u3 v3⊢;generalize hm3:(zaf a3.sess).length=m3 at n3⊢;have x3:IntKind.wrap .i64 ((m1:Int)+(m2:Int)+(m3:Int))=(m1:Int)+(m2:Int)+(m3:Int):=zab (by omega) (by omega);simp[x3];have t4:=zei ha4 l3;obtain⟨f4,n4,u4,v4,w4⟩:=t4;refine RoundsI.step mixed rfl ?_;refine CI.run 9999 400 rfl ?_;simp;refine CI.p (zek a4.sess ha4.so w4) Tryz.call107 9999 ?_;simp;refine CI.cc [0,5,1] (zgj 2 c p l3 a4 (zaf a4.sess) ha4.dn f4 (by omega) (by omega) (by omega)) Tryz.call108 9999 ?_;simp;generalize hl4:(za1 a4.dn l3 (zaf a4.sess)).2=l4 at u4 v4⊢;generalize hm4:(zaf a4.sess).length=m4 at n4⊢;have x4:IntKind.wrap .i64 ((m1:Int)+(m2:Int)+(m3:Int)+(m4:Int))=(m1:Int)+(m2:Int)+(m3:Int)+(m4:Int):=zab (by omega) (by omega);simp[x4];refine RoundsI.step mixed rfl ?_;refine CI.run 9999 400 rfl ?_;simp;first| (refine⟨[],?_,?_,?_,?_,?_,?_,?_⟩<;>simp[nmF,inB];done)| (refine⟨by decide+kernel,?_⟩;refine⟨[],?_,?_,?_,?_,?_,?_,?_⟩<;>simp[nmF,inB])
end Go.Proofs.YtekckhepcdndcaaGreatDoor
namespace Go.Proofs.YtekckhepcdndcaaGreatDoor
open Go.AI Go.G
set_option maxRecDepth 20000
set_option maxHeartbeats 8000000
theorem qs6 (s:MStep)(c:Cfg)(p q:Store)(l0 e:Int)(ks:List (List D))(h1:1≤ks.length)(h4:ks.length≤4)(he:¬e=0)(hP:CtJ errG Tryz.prog 105 [st (zbf p),lst (s.adds.map resC),lst (s.gone.map keyC)] [] [] (.tup [st (zbf q),int e]) []):
  CtJ errG Tryz.prog 69 [.ptr 0 0,st (mstepC s)] [] (BC c p l0 ks) (st (zam (outE e))) (BC c q l0 ks):=by
 rcases four h1 h4 with⟨a,x⟩|⟨a,b,x⟩|⟨a,b,d,x⟩|⟨a,b,d,f,x⟩<;>subst x
 all_goals
  refine CtJ.B errK Tryz.func69 mixed 9999 400 ?_;simp;refine CI.j [] hP Tryz.call105 9999 ?_;simp;refine⟨by decide+kernel,?_⟩;simp[he];first| (refine⟨[],?_,?_,?_,?_,?_,?_,?_⟩<;>simp[nmF,inB,he,outE,zAns];done)| (refine⟨by decide+kernel,?_⟩;refine⟨[],?_,?_,?_,?_,?_,?_,?_⟩<;>simp[nmF,inB,he,outE,zAns])
theorem qjf (M:G.Mesh)(s:MStep)(B:Int)(hM:OkM M B)(hB:B≤100000000)(hs:OkSt s):CtJ errG Tryz.prog 69 [.ptr 0 0,st (mstepC s)] [] (BM M) (st (zam (zcz M s).2)) (BM (zcz M s).1):=by
 have l0:=hM.l0;have l1:=hM.l1;have hm0:=hM.p;have hok:=hM.ok;have hlast:=zzz hm0;have hlt:=tab_len hlast.tab;have hh:=((zcg M.p).1 hm0).2.1;have ha:=hs.adds;have hg:=hs.gone;have n1:=hM.n1;have n4:=hM.n4;have hP:=qi8 M.p s.adds s.gone (by omega) (by rw[zfb hm0];exact qnk hlast.tab) (by rw[zfb hm0];omega) (by omega);rw[zfb hm0]at hP;have hp:=zfk hm0 s.adds s.gone;obtain⟨c,p,ns,lost⟩:=M;unfold zcz;dsimp only at*;generalize zk2 p s.adds s.gone=q at hp hP⊢;generalize zh2 p s.adds s.gone=e at hP⊢;have hq:=((zcg q).1 hp).2.1;by_cases he:e=0
 ·subst he;rw[if_neg (by simp)];rcases four n1 n4 with⟨a,x⟩|⟨a,b,x⟩|⟨a,b,d,x⟩|⟨a,b,d,f,x⟩<;>subst x
  ·have o1:=hok a (by simp);have u1:=o1.pump c.max hp lost;have P1:=zjo 2 c q lost a o1 hp (by omega) (by omega);rcases hA1:zdd c.max q lost a with⟨r1,m1,e1⟩
   rw[hA1]at P1 u1;simp only at P1 u1;rw[show zba c.max q [a] lost 0=([r1],m1,e1)from by simp[zba,hA1]];exact qta s c p q lost m1 _ _ e1 hP (by omega) P1
  ·have o1:=hok a (by simp);have u1:=o1.pump c.max hp lost;have P1:=zjo 2 c q lost a o1 hp (by omega) (by omega);rcases hA1:zdd c.max q lost a with⟨r1,m1,e1⟩
   rw[hA1]at P1 u1;simp only at P1 u1;have o2:=hok b (by simp);have u2:=o2.pump c.max hp m1;have P2:=zjo 2 c q m1 b o2 hp (by omega) (by omega);rcases hA2:zdd c.max q m1 b with⟨r2,m2,e2⟩
   rw[hA2]at P2 u2;simp only at P2 u2;rw[show zba c.max q [a,b] lost 0=([r1,r2],m2,if e1=0 then e2 else e1)from by simp[zba,hA1,hA2]];exact qs9 s c p q lost m1 m2 _ _ _ _ e1 e2 hP (by omega) P1 P2
  ·have o1:=hok a (by simp);have u1:=o1.pump c.max hp lost;have P1:=zjo 2 c q lost a o1 hp (by omega) (by omega);rcases hA1:zdd c.max q lost a with⟨r1,m1,e1⟩
   rw[hA1]at P1 u1;simp only at P1 u1;have o2:=hok b (by simp);have u2:=o2.pump c.max hp m1;have P2:=zjo 2 c q m1 b o2 hp (by omega) (by omega);rcases hA2:zdd c.max q m1 b with⟨r2,m2,e2⟩
   rw[hA2]at P2 u2;simp only at P2 u2;have o3:=hok d (by simp);have u3:=o3.pump c.max hp m2;have P3:=zjo 2 c q m2 d o3 hp (by omega) (by omega);rcases hA3:zdd c.max q m2 d with⟨r3,m3,e3⟩
   rw[hA3]at P3 u3;simp only at P3 u3;rw[show zba c.max q [a,b,d] lost 0=([r1,r2,r3],m3,if(if e1=0 then e2 else e1)=0 then e3 else(if e1=0 then e2 else e1))from by simp[zba,hA1,hA2,hA3]];exact qs8 s c p q lost m1 m2 m3 _ _ _ _ _ _ e1 e2 e3 hP (by omega) P1 P2 P3
  ·have o1:=hok a (by simp);have u1:=o1.pump c.max hp lost;have P1:=zjo 2 c q lost a o1 hp (by omega) (by omega);rcases hA1:zdd c.max q lost a with⟨r1,m1,e1⟩
   rw[hA1]at P1 u1;simp only at P1 u1;have o2:=hok b (by simp);have u2:=o2.pump c.max hp m1;have P2:=zjo 2 c q m1 b o2 hp (by omega) (by omega);rcases hA2:zdd c.max q m1 b with⟨r2,m2,e2⟩
   rw[hA2]at P2 u2;simp only at P2 u2;have o3:=hok d (by simp);have u3:=o3.pump c.max hp m2;have P3:=zjo 2 c q m2 d o3 hp (by omega) (by omega);rcases hA3:zdd c.max q m2 d with⟨r3,m3,e3⟩
   rw[hA3]at P3 u3;simp only at P3 u3;have o4:=hok f (by simp);have u4:=o4.pump c.max hp m3;have P4:=zjo 2 c q m3 f o4 hp (by omega) (by omega);rcases hA4:zdd c.max q m3 f with⟨r4,m4,e4⟩
   rw[hA4]at P4 u4;simp only at P4 u4;rw[show zba c.max q [a,b,d,f] lost 0=([r1,r2,r3,r4],m4,if(if(if e1=0 then e2 else e1)=0 then e3 else(if e1=0 then e2 else e1))=0 then e4 else(if(if e1=0 then e2 else e1)=0 then e3 else(if e1=0 then e2 else e1)))from by simp[zba,hA1,hA2,hA3,hA4]];exact qs7 s c p q lost m1 m2 m3 m4 _ _ _ _ _ _ _ _ e1 e2 e3 e4 hP (by omega) P1 P2 P3 P4
 ·rw[if_pos he];exact qs6 s c p q lost e (ns.map zb5) (by simpa using n1) (by simpa using n4) he hP
theorem qtb (M:G.Mesh)(s:MStep)(B:Int)(hM:OkM M B)(hB:B≤100000000):Ct Tryz.prog 70 [.ptr 0 0,st (mstepC s)] [] (BM M) (st (zam (zfy M).2)) (BM (zfy M).1):=by
 have l0:=hM.l0;have l1:=hM.l1;have hok:=hM.ok;have n1:=hM.n1;have n4:=hM.n4;obtain⟨c,p,ns,lost⟩:=M;dsimp only at*;rcases four n1 n4 with⟨a,x⟩|⟨a,b,x⟩|⟨a,b,d,x⟩|⟨a,b,d,f,x⟩<;>subst x
 ·exact qor s c p lost a (hok a (by simp)) (by omega) (by omega)
 ·exact qoq s c p lost a b (hok a (by simp)) (hok b (by simp)) (by omega) (by omega)
 ·exact qop s c p lost a b d (hok a (by simp)) (hok b (by simp)) (hok d (by simp)) (by omega) (by omega)
 ·exact qoo s c p lost a b d f (hok a (by simp)) (hok b (by simp)) (hok d (by simp)) (hok f (by simp)) (by omega) (by omega)
theorem qee (c:Cfg)(p q:Store)(lost l':Int)(ks ks':List (List D))(s:MStep)(F:Nat)(o:MOut)(h1:1≤ks.length)(h4:ks.length≤4)(hl:ks'.length=ks.length)(k0:0≤s.kind)(k9:s.kind≤9)(hen:zcp Tryz.prog F)
  (hW:Ct Tryz.prog 40 [.ptr 0 0,int s.kind] [] [zau c p lost 1] (.fn (.func F) [.ptr 0 0] []) [zau c p lost 1])
  (hF:CtJ errG Tryz.prog F [.ptr 0 0,st (mstepC s)] [] (BC c p lost ks) (st (zam o)) (BC c q l' ks')):CtJ errG Tryz.prog 16 [.ptr 0 0,st (mstepC s)] [] (BC c p lost ks) (st (zam o)) (BC c q l' ks'):=by
 have hne:=zvl k0 k9;rcases four h1 h4 with⟨a,x⟩|⟨a,b,x⟩|⟨a,b,d,x⟩|⟨a,b,d,f,x⟩<;>subst x<;>rcases four (l:=ks') (by omega) (by omega)with⟨a',x⟩|⟨a',b',x⟩|⟨a',b',d',x⟩|⟨a',b',d',f',x⟩<;>subst x
 all_goals first
  | (exfalso;simp at hl;done)
  |skip
 all_goals
  refine CtJ.B errK Tryz.func16 mixed 9999 400 ?_;simp;refine CI.cc [0,1,2,3,4,5] (zfh c p lost _ h1 h4) Tryz.call11 9999 ?_;simp;refine CI.p (zvp s.kind k0 k9) Tryz.call39 9999 ?_;simp;simp[hne];refine CI.cc [0,1] hW Tryz.call40 9999 ?_;simp;refine CI.j [0,1,2,3,4,5] hF hen 9999 ?_;simp;first| (refine⟨[],?_,?_,?_,?_,?_,?_,?_⟩<;>simp[nmF,inB];done)| (refine⟨by decide+kernel,?_⟩;refine⟨[],?_,?_,?_,?_,?_,?_,?_⟩<;>simp[nmF,inB])
end Go.Proofs.YtekckhepcdndcaaGreatDoor
namespace Go.Proofs.YtekckhepcdndcaaGreatDoor
open Go.AI Go.G
set_option maxRecDepth 20000
set_option maxHeartbeats 4000000
section
variable (b : Nat) (c : Cfg) (p : Store) (lost : Int)
theorem qe0 :Ct Tryz.prog 41 [.ptr 0 0,int 1] [] [zau c p lost b] (.fn (.func 71) [.ptr 0 0] []) [zau c p lost b]:=Ct.hide (mr:=[]) (pre:=mPre c p) (pre':=mPre c p) (post:=[int lost]) (post':=[int lost]) rfl fun v=>qez v c p lost
theorem qey :Ct Tryz.prog 41 [.ptr 0 0,int 2] [] [zau c p lost b] (.d (.fn (.func 113) [] [.pro [fnD 73]])) [zau c p lost b]:=Ct.hide (mr:=[]) (pre:=mPre c p) (pre':=mPre c p) (post:=[int lost]) (post':=[int lost]) rfl fun v=>qex v c p lost
theorem qew :Ct Tryz.prog 41 [.ptr 0 0,int 3] [] [zau c p lost b] (.d (.fn (.func 113) [] [.pro [fnD 74]])) [zau c p lost b]:=Ct.hide (mr:=[]) (pre:=mPre c p) (pre':=mPre c p) (post:=[int lost]) (post':=[int lost]) rfl fun v=>qev v c p lost
theorem qeu :Ct Tryz.prog 41 [.ptr 0 0,int 4] [] [zau c p lost b] (.d (.fn (.func 113) [] [.pro [fnD 75]])) [zau c p lost b]:=Ct.hide (mr:=[]) (pre:=mPre c p) (pre':=mPre c p) (post:=[int lost]) (post':=[int lost]) rfl fun v=>qet v c p lost
theorem qes :Ct Tryz.prog 41 [.ptr 0 0,int 5] [] [zau c p lost b] (.fn (.func 76) [.ptr 0 0] []) [zau c p lost b]:=Ct.hide (mr:=[]) (pre:=mPre c p) (pre':=mPre c p) (post:=[int lost]) (post':=[int lost]) rfl fun v=>qer v c p lost
theorem qeq :Ct Tryz.prog 41 [.ptr 0 0,int 7] [] [zau c p lost b] (.fn (.func 77) [.ptr 0 0] []) [zau c p lost b]:=Ct.hide (mr:=[]) (pre:=mPre c p) (pre':=mPre c p) (post:=[int lost]) (post':=[int lost]) rfl fun v=>qep v c p lost
theorem qeo :Ct Tryz.prog 41 [.ptr 0 0,int 8] [] [zau c p lost b] (.fn (.func 78) [.ptr 0 0] []) [zau c p lost b]:=Ct.hide (mr:=[]) (pre:=mPre c p) (pre':=mPre c p) (post:=[int lost]) (post':=[int lost]) rfl fun v=>qen v c p lost
theorem qem :Ct Tryz.prog 41 [.ptr 0 0,int 9] [] [zau c p lost b] (.fn (.func 79) [.ptr 0 0] []) [zau c p lost b]:=Ct.hide (mr:=[]) (pre:=mPre c p) (pre':=mPre c p) (post:=[int lost]) (post':=[int lost]) rfl fun v=>qel v c p lost
theorem qjd :Ct Tryz.prog 40 [.ptr 0 0,int 0] [] [zau c p lost b] (.fn (.func 69) [.ptr 0 0] []) [zau c p lost b]:=Ct.hide (mr:=[]) (pre:=mPre c p) (pre':=mPre c p) (post:=[int lost]) (post':=[int lost]) rfl fun v=>qjc v c p lost
theorem qjb :Ct Tryz.prog 40 [.ptr 0 0,int 6] [] [zau c p lost b] (.fn (.func 70) [.ptr 0 0] []) [zau c p lost b]:=Ct.hide (mr:=[]) (pre:=mPre c p) (pre':=mPre c p) (post:=[int lost]) (post':=[int lost]) rfl fun v=>qja v c p lost
variable (n : G.Node) (s : MStep)
theorem qsx (hn:OkN n)(h0:0≤lost)(h1:lost≤1000000000):Ct Tryz.prog 76 [.ptr 0 0,.ptr 1 0,st (mstepC s)] [] [zau c p lost b,zcb n] (st (zam (((za7 c.max lost n).1,(za7 c.max lost n).2.1,outE (za7 c.max lost n).2.2)).2.2)) [zau c p (((za7 c.max lost n).1,(za7 c.max lost n).2.1,outE (za7 c.max lost n).2.2)).2.1 b,zcb (((za7 c.max lost n).1,(za7 c.max lost n).2.1,outE (za7 c.max lost n).2.2)).1]:=Ct.hide (mr:=[]) (pre:=mPre c p) (pre':=mPre c p) (post:=[int lost]) (post':=[int (((za7 c.max lost n).1,(za7 c.max lost n).2.1,outE (za7 c.max lost n).2.2)).2.1]) rfl fun v=>qsv v c p lost n s hn h0 (by omega)
theorem qsn (hn:OkN n):Ct Tryz.prog 77 [.ptr 0 0,.ptr 1 0,st (mstepC s)] [] [zau c p lost b,zcb n] (st (zam (ze0 lost n s).2.2)) [zau c p (ze0 lost n s).2.1 b,zcb (ze0 lost n s).1]:=Ct.hide (mr:=[]) (pre:=mPre c p) (pre':=mPre c p) (post:=[int lost]) (post':=[int (ze0 lost n s).2.1]) rfl fun v=>qsm v c p lost n s hn
theorem qvh (hn:OkN n)(h0:0≤lost)(h1:lost≤1000000000):Ct Tryz.prog 78 [.ptr 0 0,.ptr 1 0,st (mstepC s)] [] [zau c p lost b,zcb n] (st (zam (zkd lost n s).2.2)) [zau c p (zkd lost n s).2.1 b,zcb (zkd lost n s).1]:=Ct.hide (mr:=[]) (pre:=mPre c p) (pre':=mPre c p) (post:=[int lost]) (post':=[int (zkd lost n s).2.1]) rfl fun v=>qvg v c p lost n s hn h0 h1
theorem qsc (hn:OkN n)(hp:sanS p=true)(h0:0≤lost)(h1:lost≤1000000000)(hw:s.way=0∨s.way=1):Ct Tryz.prog 71 [.ptr 0 0,.ptr 1 0,st (mstepC s)] [] [zau c p lost b,zcb n] (st (zam (zce c.max p lost n s).2.2)) [zau c p (zce c.max p lost n s).2.1 b,zcb (zce c.max p lost n s).1]:=Ct.hide (mr:=[]) (pre:=mPre c p) (pre':=mPre c p) (post:=[int lost]) (post':=[int (zce c.max p lost n s).2.1]) rfl fun v=>qsb v c p lost n s hn hp hw h0 h1
theorem qte (hn:OkN n)(hp:sanS p=true):Ct Tryz.prog 79 [.ptr 0 0,.ptr 1 0,st (mstepC s)] [] [zau c p lost b,zcb n] (st (zam (zl4 p lost n).2.2)) [zau c p (zl4 p lost n).2.1 b,zcb (zl4 p lost n).1]:=Ct.hide (mr:=[]) (pre:=mPre c p) (pre':=mPre c p) (post:=[int lost]) (post':=[int (zl4 p lost n).2.1]) rfl fun v=>qtd v c p lost n s hn hp
end
theorem zol (c:Cfg)(p:Store)(lost:Int)(ns:List G.Node)(s:MStep)(n:G.Node)(F:Nat)(r:NR)(hn:zk7 ns s.side=some n)(h4:ns.length≤4)(k1:1≤s.kind)(k9:s.kind≤9)(k6:¬s.kind=6)(hw:s.kind≤4→s.way=0∨s.way=1)(hen:zcp Tryz.prog F)
  (hS:Ct Tryz.prog 41 [.ptr 0 0,int s.kind] [] [zau c p lost 1] (.fn (.func F) [.ptr 0 0] []) [zau c p lost 1])
  (hF:Ct Tryz.prog F [.ptr 0 0,.ptr 1 0,st (mstepC s)] [] [zau c p lost 2,zcb n] (st (zam r.2.2)) [zau c p r.2.1 2,zcb r.1]):
  CtJ errG Tryz.prog 16 [.ptr 0 0,st (mstepC s)] [] (BM ⟨c,p,ns,lost⟩) (st (zam r.2.2)) (BM ⟨c,p,ns.set s.side.toNat r.1,r.2.1⟩):=by
 have hi:=zd9 hn;have:=qpa c p lost (ns.map zb5) s s.side.toNat (zb5 n) F (zb5 r.1) r.2.2 r.2.1 k1 k9 k6 hw (by simpa using h4) (by rw[List.getElem?_map,hi.2.2.2];rfl) (by omega) hen hS hF;rw[←List.map_set]at this;exact this.toJ
theorem zxm (c:Cfg)(p:Store)(lost:Int)(ns:List G.Node)(s:MStep)(n:G.Node)(kf:Nat)(f:FLk→Int→FLk×Int)(hf:∀l i,OkL l→Ct Tryz.prog kf [st (flkC l),int i] [] [] (.tup [st (flkC (f l i).1),int (f l i).2]) [])(hE:zcp Tryz.prog kf)(ho:OkN n)(hn:zk7 ns s.side=some n)(h4:ns.length≤4)(k1:1≤s.kind)(k4:s.kind≤4)(hw:s.way=0∨s.way=1)
  (hS:Ct Tryz.prog 41 [.ptr 0 0,int s.kind] [] [zau c p lost 1] (.d (.fn (.func 113) [] [.pro [fnD kf]])) [zau c p lost 1]):
  CtJ errG Tryz.prog 16 [.ptr 0 0,st (mstepC s)] [] (BM ⟨c,p,ns,lost⟩) (st (zam (ze4 f lost n s).2.2)) (BM ⟨c,p,ns.set s.side.toNat (ze4 f lost n s).1,(ze4 f lost n s).2.1⟩):=by
 have hi:=zd9 hn;have:=qo9 c p lost (ns.map zb5) s s.side.toNat (zb5 n) 113 (zb5 (ze4 f lost n s).1) (ze4 f lost n s).2.2 (fnD kf) k1 k4 hw (by simpa using h4) (by rw[List.getElem?_map,hi.2.2.2];rfl) (by omega) Tryz.call113 hS
  (qvd lost n s (fnD kf) f (fun l i hl=>FnOk.of (hf l i hl) hE rfl rfl) ho hw)
 rw[←List.map_set]at this;exact this.toJ
theorem zug (M:G.Mesh)(s:MStep)(B:Int)(hM:OkM M B)(hB:B≤100000000)(hs:OkSt s):CtJ errG Tryz.prog 16 [.ptr 0 0,st (mstepC s)] [] (BM M) (st (zam (zas M s).2)) (BM (zas M s).1):=by
 have l0:=hM.l0;have l1:=hM.l1;have hp:=hM.p;have n1:=hM.n1;have n4:=hM.n4;have hne:M.ns≠[]:=by intro e;rw[e]at n1;simp at n1
 by_cases k0:s.kind=0
 ·rw[qo2 hne k0];have hU:=qjf M s B hM hB hs;have hl:(zcz M s).1.ns.length=M.ns.length:=by
   unfold zcz;dsimp only;split
   ·rfl
   ·exact(zgw M.c.max (zfk hp s.adds s.gone) M.ns M.lost 0 hM.ok).2.1
  have hc:(zcz M s).1.c=M.c:=by unfold zcz;dsimp only;split<;>rfl
  rw[BM,BM,hc]at hU;rw[BM,BM,hc];exact qee _ _ _ _ _ _ _ s _ _ (by simpa using n1) (by simpa using n4) (by simpa using hl) (by omega) (by omega) Tryz.call69 (by rw[k0];exact qjd 1 M.c M.p M.lost) hU
 by_cases k6:s.kind=6
 ·have hU:=(qtb M s B hM hB).toJ (G:=errG);have hl:(zfy M).1.ns.length=M.ns.length:=(zgq M.ns M.lost 0 hM.ok).2.1;have e:zas M s=zfy M:=by
   unfold zas;rw[if_neg hne,if_neg (by omega),if_neg k0,if_pos k6]
  rw[e];exact qee _ _ _ _ _ _ _ s _ _ (by simpa using n1) (by simpa using n4) (by simpa using hl) (by omega) (by omega) Tryz.call70 (by rw[k6];exact qjb 1 M.c M.p M.lost) hU
 have ha:=hs.a;obtain⟨c,p,ns,lost⟩:=M;have hok:=hM.ok;unfold zas;dsimp only at*;rw[if_neg hne];by_cases hk:0≤s.kind∧s.kind≤9
 ·rw[if_neg (by omega),if_neg k0,if_neg k6];cases hn:zk7 ns s.side with
  |none=>
   refine(qjp c p lost (ns.map zb5) s (by simpa using n1) (by simpa using n4) (by omega) hk.2 k6 ?_).toJ;unfold zk7 at hn;split at hn
   ·have:=List.getElem?_eq_none_iff.1 hn;exact .inr (by simp;omega)
   ·exact .inl (by omega)
  |some n=>
   have hi:=zd9 hn;have on:=hok n hi.1;dsimp only;by_cases hw:s.kind≤4∧(s.way<0∨2≤s.way)
   ·rw[if_pos hw];exact(qjo c p lost (ns.map zb5) s s.side.toNat (by simpa using hi.2.2.1) (by simpa using n4) (by omega) (by omega) hw.1 hw.2).toJ
   ·rw[if_neg hw];have hw':s.kind≤4→s.way=0∨s.way=1:=fun g=>by omega
    have e:s.kind=1∨s.kind=2∨s.kind=3∨s.kind=4∨s.kind=5∨s.kind=7∨s.kind=8∨s.kind=9:=by omega
    rcases e with e|e|e|e|e|e|e|e
    ·rw[show zaz c.max p lost n s=zce c.max p lost n s from by simp[zaz,e]];exact zol c p lost ns s n _ (zce c.max p lost n s) hn n4 (by omega) hk.2 k6 hw' Tryz.call71 (by rw[e];exact qe0 1 c p lost) (qsc 2 c p lost n s on hp l0 (by omega) (hw' (by omega)))
    ·rw[show zaz c.max p lost n s=ze4 zns lost n s from by simp[zaz,e]];exact zxm c p lost ns s n _ zns qr0 Tryz.call73 on hn n4 (by omega) (by omega) (hw' (by omega)) (by rw[e];exact qey 1 c p lost)
    ·rw[show zaz c.max p lost n s=ze4 zgg lost n s from by simp[zaz,e]];exact zxm c p lost ns s n _ zgg qm2 Tryz.call74 on hn n4 (by omega) (by omega) (hw' (by omega)) (by rw[e];exact qew 1 c p lost)
    ·rw[show zaz c.max p lost n s=ze4 zlf lost n s from by simp[zaz,e]];exact zxm c p lost ns s n _ zlf qrc Tryz.call75 on hn n4 (by omega) (by omega) (hw' (by omega)) (by rw[e];exact qeu 1 c p lost)
    ·rw[show zaz c.max p lost n s=((za7 c.max lost n).1,(za7 c.max lost n).2.1,outE (za7 c.max lost n).2.2)from by simp[zaz,e]];exact zol c p lost ns s n _ (((za7 c.max lost n).1,(za7 c.max lost n).2.1,outE (za7 c.max lost n).2.2)) hn n4 (by omega) hk.2 k6 hw' Tryz.call76 (by rw[e];exact qes 1 c p lost) (qsx 2 c p lost n s on l0 (by omega))
    ·rw[show zaz c.max p lost n s=ze0 lost n s from by simp[zaz,e]];exact zol c p lost ns s n _ (ze0 lost n s) hn n4 (by omega) hk.2 k6 hw' Tryz.call77 (by rw[e];exact qeq 1 c p lost) (qsn 2 c p lost n s on)
    ·rw[show zaz c.max p lost n s=zkd lost n s from by simp[zaz,e]];exact zol c p lost ns s n _ (zkd lost n s) hn n4 (by omega) hk.2 k6 hw' Tryz.call78 (by rw[e];exact qeo 1 c p lost) (qvh 2 c p lost n s on l0 (by omega))
    ·rw[show zaz c.max p lost n s=zl4 p lost n from by simp[zaz,e]];exact zol c p lost ns s n _ (zl4 p lost n) hn n4 (by omega) hk.2 k6 hw' Tryz.call79 (by rw[e];exact qem 1 c p lost) (qte 2 c p lost n s on hp)
 ·rw[if_pos hk];exact(qo8 c p lost (ns.map zb5) s (by simpa using n1) (by simpa using n4) hk).toJ
end Go.Proofs.YtekckhepcdndcaaGreatDoor
namespace Go.Proofs.YtekckhepcdndcaaGreatDoor
open Go.AI Go.G
set_option maxRecDepth 20000
abbrev B1 (M:G.Mesh):List (Nat×Blk):=[zau M.c M.p M.lost 1,(1,.grp [2] 110),qqr 2 (nth M 0)]
theorem zsd (M:G.Mesh):Ct Tryz.prog 11 [.ptr 0 0] (B1 M) [] (int 1) []:=zfh M.c M.p M.lost [zb5 (nth M 0)] (by simp) (by simp)
theorem qaj (M:G.Mesh):Ct Tryz.prog 31 [.ptr 0 0,int 0] (B1 M) [] (.ptr 2 0) []:=zpe M.c M.p M.lost [zb5 (nth M 0)] 0 0 rfl (by simp) (by simp)
theorem stepM_len {M:G.Mesh}{B:Int}(hM:OkM M B)(s:MStep):(zas M s).1.ns.length=M.ns.length:=by
 unfold zas;split
 ·rfl
 split
 ·rfl
 split
 ·unfold zcz;dsimp only;split
  ·rfl
  ·exact(zgw M.c.max (zfk hM.p s.adds s.gone) M.ns M.lost 0 hM.ok).2.1
 split
 ·exact(zgq M.ns M.lost 0 hM.ok).2.1
 split
 ·rfl
 ·split
  ·rfl
  ·simp
theorem qwl {M:G.Mesh}(hk:M.ns.length=1):BM M=B1 M:=by
 show BC M.c M.p M.lost (M.ns.map zb5)=_;rw[ns1 hk];rfl
theorem zl6 (M:G.Mesh)(s:MStep)(B:Int)(hk:M.ns.length=1)(hM:OkM M B)(hB:B≤100000000)(hs:OkSt s):CtJ errG Tryz.prog 16 [.ptr 0 0,st (mstepC s)] [] (B1 M) (st (zam (zas M s).2)) (B1 (zas M s).1):=by
 have h:=zug M s B hM hB hs
 rwa[qwl hk,qwl (by rw[stepM_len hM];exact hk)]at h
theorem qrp (n:G.Node)(hn:OkN n):Ct Tryz.prog 50 [.ptr 0 0] [(0,.cells ((zb5 n).map .d) 117)] [] (bool (qro n)) []:=qvb n hn
abbrev BNe (c:Cfg)(p:Store)(lost:Int)(n:G.Node):List (Nat×Blk):=[(64,.cells [int c.sides,int c.cap,int c.limit,int c.max,int p.cap,lst (p.hist.map rsC),.own 65,int lost] 109),(65,.grp [66] 110),qqr 66 n]
attribute [simp] Tryz.ntmps26 Tryz.results26
theorem quu :Ct Tryz.prog 26 [st (cfgC ⟨1,9,9,99⟩)] [] [] (.ptr 64 0) (BNe ⟨1,9,9,99⟩ (newS 9) 0 (zag ⟨1,9,9,99⟩)):=by
 refine Ct.B Tryz.func26 mixed 9999 400 ?_;simp;refine CI.p (zrb 9) Tryz.call47 9999 ?_;simp;refine⟨by decide+kernel,?_⟩;refine LoopI.unroll mixed (Plain.retC _ _ _ _ _) rfl ?_;refine CI.run 9999 400 rfl ?_;simp;refine CI.p (zgy 9 99) Tryz.call48 9999 ?_;simp;refine CI.p (zb8 0 99) Tryz.call49 9999 ?_;simp;refine⟨by decide+kernel,?_⟩;refine LoopI.unroll mixed (Plain.retC _ _ _ _ _) rfl ?_;refine CI.run 6 400 rfl ?_;simp;refine CI.s (tm:=[(3,.ptr 512 0)]) (mm:=[(512,.cells [int 1,int 9,int 9,int 99,int (newS 9).cap,lst ((newS 9).hist.map rsC),.own 2048,int 0] 109),(2048,.grp [1920] 110),(1920,.cells ((zb5 (zag ⟨1,9,9,99⟩)).map .d) 117)]) (nx:=2112) [] [] (by constructor<;>simp[zag,zPool]) ?_;refine CI.run 9999 400 rfl ?_;simp;first| (refine⟨[(64,512),(65,2048),(66,1920)],?_,?_,?_,?_,?_,?_,?_⟩<;>simp[nmF,inB];done)| (refine⟨by decide+kernel,?_⟩;refine⟨[(64,512),(65,2048),(66,1920)],?_,?_,?_,?_,?_,?_,?_⟩<;>simp[nmF,inB])
attribute [simp] Tryz.ntmps12 Tryz.results12
theorem qoc (M:G.Mesh):Ct Tryz.prog 12 [.ptr 0 0,int 0,int 0] (B1 M) [] (.tup [st (flkC (nth M 0).up),bool true]) []:=by
 refine Ct.B Tryz.func12 mixed 9999 400 ?_;simp;refine CI.cc [0,1,2] (qaj M) Tryz.call31 9999 ?_;simp;first| (refine⟨[],?_,?_,?_,?_,?_,?_,?_⟩<;>simp[nmF,inB];done)| (refine⟨by decide+kernel,?_⟩;refine⟨[],?_,?_,?_,?_,?_,?_,?_⟩<;>simp[nmF,inB])
theorem qob (M:G.Mesh):Ct Tryz.prog 12 [.ptr 0 0,int 0,int 1] (B1 M) [] (.tup [st (flkC (nth M 0).dn),bool true]) []:=by
 refine Ct.B Tryz.func12 mixed 9999 400 ?_;simp;refine CI.cc [0,1,2] (qaj M) Tryz.call31 9999 ?_;simp;first| (refine⟨[],?_,?_,?_,?_,?_,?_,?_⟩<;>simp[nmF,inB];done)| (refine⟨by decide+kernel,?_⟩;refine⟨[],?_,?_,?_,?_,?_,?_,?_⟩<;>simp[nmF,inB])
attribute [simp] Tryz.ntmps29 Tryz.results29
theorem qb9 (M:G.Mesh)(B:Int)(hk:M.ns.length=1)(hM:OkM M B):Ct Tryz.prog 29 [.ptr 0 0] (B1 M) [] (bool (zsf M)) []:=by
 refine Ct.B Tryz.func29 mixed 9999 400 ?_;simp;have n0:=qno hM (i:=0) (by omega);have S:=saneS_iff.1 n0.ss;have hh:=((zcg M.p).1 hM.p).2.1;unfold zsf;rw[ns1 hk];refine CI.cc [0,1,2] (zsd M) Tryz.call11 9999 ?_;simp;refine LoopI.unroll mixed (Plain.retC _ _ _ _ _) rfl ?_;refine CI.run 9999 400 rfl ?_;simp;refine CI.cc [2] (qrp (nth M 0) n0) Tryz.call50 9999 ?_;simp;cases h1:qro (nth M 0)with
 |false=>
  simp[h1];first| (refine⟨[],?_,?_,?_,?_,?_,?_,?_⟩<;>simp[nmF,inB,h1];done)| (refine⟨by decide+kernel,?_⟩;refine⟨[],?_,?_,?_,?_,?_,?_,?_⟩<;>simp[nmF,inB,h1])
 |true=>
  simp[h1];refine CI.p (zun (nth M 0).sess M.p n0.so (by have:=S.hl;omega) (by omega)) Tryz.call51 9999 ?_;simp;cases h2:ziz (nth M 0).sess M.p with
  |false=>
   simp[h2];first| (refine⟨[],?_,?_,?_,?_,?_,?_,?_⟩<;>simp[nmF,inB,h1,h2];done)| (refine⟨by decide+kernel,?_⟩;refine⟨[],?_,?_,?_,?_,?_,?_,?_⟩<;>simp[nmF,inB,h1,h2])
  |true=>
   simp[h2];refine⟨by decide+kernel,?_⟩;refine LoopI.unroll mixed (Plain.retC _ _ _ _ _) rfl ?_;refine CI.run 9999 400 rfl ?_;simp;first| (refine⟨[],?_,?_,?_,?_,?_,?_,?_⟩<;>simp[nmF,inB,h1,h2];done)| (refine⟨by decide+kernel,?_⟩;refine⟨[],?_,?_,?_,?_,?_,?_,?_⟩<;>simp[nmF,inB,h1,h2])
end Go.Proofs.YtekckhepcdndcaaGreatDoor
namespace Go.Proofs.YtekckhepcdndcaaGreatDoor
open Go.AI Go.G
set_option maxRecDepth 20000
set_option maxHeartbeats 4000000
attribute [simp] Tryz.ntmps28 Tryz.results28
theorem qmq (M:G.Mesh)(r:Nat)(B:Int)(hk:M.ns.length=1)(hM:OkM M B)(hB:B≤230600)(hr:r≤100):CtJ errG Tryz.prog 28 [.ptr 0 0,int r] [] (B1 M) (.tup []) (B1 (zd1 M r)):=by
 refine CtJ.B errK Tryz.func28 mixed 9999 400 ?_;simp;refine LoopI.inv mixed rfl (ι:={k:Nat//k≤r}) (fun k=>[(0,.ptr 0 0),(1,int r),(4,int k.1)]) (fun k=>B1 (zd1 M k.1)) 64 (fun k=>r-k.1) ⟨0,by omega⟩ [] (by constructor<;>simp[zd1]) ?_;rintro⟨kk,hk1⟩ B1_ hB;refine CI.run 9999 400 rfl ?_;simp;refine sBI (fun h1=>?_) (fun h1=>?_)<;>simp only[h1]<;>simp<;>(try simp only[nT,nF,dT,dF]at h1)
 ·obtain⟨q1,q2⟩:=zjc hk hM kk;generalize hN:zd1 M kk=N at q1 q2⊢;refine LoopI.rounds 2 ?_;refine RoundsI.step mixed rfl ?_;refine CI.run 9999 400 rfl ?_;simp;refine CI.cc [0,1,2] (zsd N) Tryz.call11 9999 ?_;simp;refine LoopI.rounds 3 ?_;refine RoundsI.step mixed rfl ?_;refine CI.run 9999 400 rfl ?_;simp;refine CI.cc [0,1,2] (qoc N) Tryz.call12 9999 ?_;simp;refine LoopI.inv mixed rfl (ι:={j:Nat//j≤(nth N 0).up.q.length}) (fun k=>[(0,.ptr 0 0),(1,int r),(4,int kk),(5,int 0),(6,int 0),(7,.ptr 1216 0),(9,int k.1)]) (fun k=>B1 (zdm N 0 k.1)++[(1216,.cells ((flkC (nth N 0).up).map .d) 38)]) 1217 (fun k=>(nth N 0).up.q.length-k.1) ⟨0,by omega⟩ [] (by constructor<;>simp[zdm]) ?_;rintro⟨j,hj⟩ B0 hB0;have hlen:(nth N 0).up.q.length≤32:=zxh q1 q2 0;refine CI.run 9999 400 rfl ?_;simp;refine sBI (fun h2=>?_) (fun h2=>?_)<;>simp only[h2]<;>simp<;>(try simp only[nT,nF,dT,dF]at h2)
  ·have hb:=zly q1 q2 (w:=0) (by omega) j;have wj:IntKind.wrap .i64 ((j:Int)+1)=j+1:=zab (by omega) (by omega);generalize hbk:zdm N 0 j=K at hb⊢;refine CI.j [0,1,2] (zl6 K (zd5 0) _ hb.1 hb.2 (by omega) (zpb 0)) Tryz.call16 9999 ?_ (ha:=by simp[zd5,zAsk]) (hk:=by simp[zd5,zAsk]);simp[zd5,zAsk];refine hB0 _ ⟨j+1,by omega⟩ [] ?_ (by simp;omega);constructor<;>simp[zdm,hbk,zd5,zAsk,wj]
  ·have e:j=(nth N 0).up.q.length:=by omega
   subst e;have hw0:(zdm N 0 (nth N 0).up.q.length).ns.length=1∧OkM (zdm N 0 (nth N 0).up.q.length) (B+768*kk+384):=zlx q1 q2 (w:=0) (.inl rfl);generalize hW:zdm N 0 (nth N 0).up.q.length=W at hw0⊢;obtain⟨p1,p2⟩:=hw0;refine RoundsI.step mixed rfl ?_;refine CI.run 9999 400 rfl ?_;simp;refine CI.cc [0,1,2] (qob W) Tryz.call12 9999 ?_;simp;refine LoopI.inv mixed rfl (ι:={j:Nat//j≤(nth W 0).dn.q.length}) (fun k=>[(0,.ptr 0 0),(1,int r),(4,int kk),(5,int 0),(6,int 1),(7,.ptr 2305 0),(9,int k.1)]) (fun k=>B1 (zdm W 1 k.1)++[(2305,.cells ((flkC (nth W 0).dn).map .d) 38)]) 2306 (fun k=>(nth W 0).dn.q.length-k.1) ⟨0,by omega⟩ [] (by constructor<;>simp[zdm]) ?_;rintro⟨j,hj⟩ B1 hB1;have hlen:(nth W 0).dn.q.length≤32:=zxh p1 p2 1;refine CI.run 9999 400 rfl ?_;simp;refine sBI (fun h2=>?_) (fun h2=>?_)<;>simp only[h2]<;>simp<;>(try simp only[nT,nF,dT,dF]at h2)
   ·have hb:=zly p1 p2 (w:=1) (by omega) j;have wj:IntKind.wrap .i64 ((j:Int)+1)=j+1:=zab (by omega) (by omega);generalize hbk:zdm W 1 j=K at hb⊢;refine CI.j [0,1,2] (zl6 K (zd5 1) _ hb.1 hb.2 (by omega) (zpb 1)) Tryz.call16 9999 ?_ (ha:=by simp[zd5,zAsk]) (hk:=by simp[zd5,zAsk]);simp[zd5,zAsk];refine hB1 _ ⟨j+1,by omega⟩ [] ?_ (by simp;omega);constructor<;>simp[zdm,hbk,zd5,zAsk,wj]
   ·have e:j=(nth W 0).dn.q.length:=by omega
    subst e;have hw1:(zdm W 1 (nth W 0).dn.q.length).ns.length=1∧OkM (zdm W 1 (nth W 0).dn.q.length) (B+768*kk+384+384):=zlx p1 p2 (w:=1) (.inr rfl);have hR:zd1 M (kk+1)=zdm W 1 (nth W 0).dn.q.length:=by
     have e1:zd1 M (kk+1)=zpy (zpy (zd1 M kk) 0) 1:=rfl;have e2:zpy (zd1 M kk) 0=W:=by rw[hN,←hW];rfl
     rw[e1,e2];rfl
    rw[←hR]at hw1⊢;generalize hV:zd1 M (kk+1)=V at hw1⊢;have wk:IntKind.wrap .i64 ((kk:Int)+1)=kk+1:=zab (by omega) (by omega);refine RoundsI.step mixed rfl ?_;refine CI.run 9999 400 rfl ?_;simp;refine RoundsI.step mixed rfl ?_;refine CI.run 9999 400 rfl ?_;simp;refine CI.cc [0,1,2] (zsd V) Tryz.call11 9999 ?_;simp;refine hB _ ⟨kk+1,by omega⟩ [] ?_ (by simp;omega);constructor<;>simp[wk,hV]
 ·have e:kk=r:=by omega
  subst e;first| (refine⟨[],?_,?_,?_,?_,?_,?_,?_⟩<;>simp[nmF,inB];done)| (refine⟨by decide+kernel,?_⟩;refine⟨[],?_,?_,?_,?_,?_,?_,?_⟩<;>simp[nmF,inB])
end Go.Proofs.YtekckhepcdndcaaGreatDoor
namespace Go.Proofs.YtekckhepcdndcaaGreatDoor
open Go.AI Go.G
set_option maxRecDepth 20000
attribute [simp] Tryz.ntmps11 Tryz.results11
attribute [simp] Tryz.ntmps31 Tryz.results31
attribute [simp] Tryz.ntmps16 Tryz.results16
attribute [simp] Tryz.ntmps21 Tryz.results21
attribute [simp] Tryz.ntmps15 Tryz.results15
attribute [simp] Tryz.ntmps12 Tryz.results12
attribute [simp] Tryz.ntmps17 Tryz.results17
attribute [simp] Tryz.ntmps29 Tryz.results29
attribute [simp] Tryz.ntmps18 Tryz.results18
attribute [simp] Tryz.ntmps27 Tryz.results27
theorem qpg :Ct Tryz.prog 27 [] [] [] (lst (smallL.map resC)) []:=by
 refine Ct.B Tryz.func27 mixed 9999 400 ?_;simp;refine CI.opG [256] 9999 400 rfl rfl (by first|exact .inl rfl|exact .inr ⟨_,_,rfl,by simp⟩|exact .inr ⟨_,_,rfl,by simp[*]⟩) (by simp) ?_;simp[ztf,gvB];refine CI.opG [384,576] 9999 400 rfl rfl (by first|exact .inl rfl|exact .inr ⟨_,_,rfl,by simp⟩|exact .inr ⟨_,_,rfl,by simp[*]⟩) (by simp) ?_;simp[ztf,gvB];first|exact fin0 (by simp[smallL]) rfl|exact zaa (by simp[smallL])
attribute [simp] Tryz.ntmps30 Tryz.results30
attribute [simp] Tryz.ntmps7 Tryz.results7
attribute [simp] Tryz.ntmps10 Tryz.results10
end Go.Proofs.YtekckhepcdndcaaGreatDoor
namespace Go.Proofs.YtekckhepcdndcaaGreatDoor
open Go.AI Go.G
set_option maxRecDepth 20000
set_option maxHeartbeats 4000000
abbrev BN (M:G.Mesh):List (Nat×Blk):=[(64,.cells [int M.c.sides,int M.c.cap,int M.c.limit,int M.c.max,int M.p.cap,lst (M.p.hist.map rsC),.own 65,int M.lost] 109),(65,.grp [66] 110),qqr 66 (nth M 0)]
theorem quv :Ct Tryz.prog 26 [st (cfgC ⟨1,9,9,99⟩)] [] [] (.ptr 64 0) (BN aM0):=quu
theorem s5a :CtJ errG Tryz.prog 16 [.ptr 0 0,st [iD 5,iD 0,iD 0,iD 0,lD [],lD [],iD 0,sD ⟨#[]⟩,sD ⟨#[]⟩,iD 0,iD 0]] [] (B1 aM0) (st (zam (zas aM0 sRen).2)) (B1 aM1):=zl6 aM0 sRen 0 len0 okA0 (by omega) qnl
theorem s0a :CtJ errG Tryz.prog 16 [.ptr 0 0,st [iD 0,iD 0,iD 0,iD 0,lD (smallL.map resC),lD [],iD 0,sD ⟨#[]⟩,sD ⟨#[]⟩,iD 0,iD 0]] [] (B1 aM1) (st (zam aO2)) (B1 aM2):=zl6 aM1 sUpd 12 len1 okA1 (by omega) qnj
theorem s7a :CtJ errG Tryz.prog 16 [.ptr 0 0,st [iD 7,iD 0,iD 0,iD 0,lD [],lD [],iD 80,sD ⟨#[104]⟩,sD ⟨#[47]⟩,iD 0,iD 0]] [] (B1 aM3) (st (zam aO4)) (B1 aM4):=zl6 aM3 sBeg 10000 len3 okA3 (by omega) qnn
theorem s8a (k:Nat)(hk:k≤10):CtJ errG Tryz.prog 16 [.ptr 0 0,st [iD 8,iD 0,iD 0,iD 0,lD [],lD [],iD 0,sD ⟨#[]⟩,sD ⟨#[]⟩,iD 0,iD 0]] [] (B1 (aG k)) (st (zam (aO (k+1)))) (B1 (aG (k+1))):=zl6 (aG k) sGo _ (lenG k) (okG k) (by omega) quf
theorem b8a :CtJ errG Tryz.prog 28 [.ptr 0 0,int 8] [] (B1 aM2) (.tup []) (B1 aM3):=qmq aM2 8 24 len2 okA2 (by omega) (by omega)
attribute [simp] Tryz.ntmps6 Tryz.results6
theorem zgp :CtJ errG Tryz.prog 6 [] [] [] (bool true) []:=by
 refine CtJ.B errK Tryz.func6 mixed 9999 400 ?_;simp;refine CI.cc [] quv Tryz.call26 9999 ?_;simp;refine CI.j [192,193,194] s5a Tryz.call16 9999 ?_;simp;refine CI.p qpg Tryz.call27 9999 ?_;simp;refine CI.j [192,193,194] s0a Tryz.call16 9999 ?_;simp;refine CI.j [192,193,194] b8a Tryz.call28 9999 ?_;simp;refine CI.j [192,193,194] s7a Tryz.call16 9999 ?_;simp;rw[show aM4=aG 0 from rfl];refine LoopI.rounds 6 ?_;refine RoundsI.step mixed rfl ?_;refine CI.run 9999 400 rfl ?_;simp;refine CI.j [192,193,194] (s8a 0 (by omega)) Tryz.call16 9999 ?_;simp;refine RoundsI.step mixed rfl ?_;refine CI.run 9999 400 rfl ?_;simp;refine CI.j [192,193,194] (s8a 1 (by omega)) Tryz.call16 9999 ?_;simp;refine RoundsI.step mixed rfl ?_;refine CI.run 9999 400 rfl ?_;simp;refine CI.j [192,193,194] (s8a 2 (by omega)) Tryz.call16 9999 ?_;simp;refine RoundsI.step mixed rfl ?_;refine CI.run 9999 400 rfl ?_;simp;refine CI.j [192,193,194] (s8a 3 (by omega)) Tryz.call16 9999 ?_;simp;refine RoundsI.step mixed rfl ?_;refine CI.run 9999 400 rfl ?_;simp;refine CI.j [192,193,194] (s8a 4 (by omega)) Tryz.call16 9999 ?_;simp;have a1:(aO 5).n=1:=aw5.1;have a2:(aO 5).ans.what=3:=by rw[aw5.2]
 have a3:(aO 5).ans.cluster=⟨#[99]⟩:=by rw[aw5.2]
 have a4:(aO 5).ans.host=7:=by rw[aw5.2]
 refine RoundsI.step mixed rfl ?_;refine CI.run 9999 400 rfl ?_;simp[qxl,qxk,a1,a2,a3,a4];refine CI.cc [192,193,194] (qb9 (aG 5) _ (lenG 5) (okG 5)) Tryz.call29 9999 ?_;simp;first|exact fin0 (by simp[aw6]) rfl|exact zaa (by simp[aw6])
end Go.Proofs.YtekckhepcdndcaaGreatDoor
