/- LAYERS 5 to 17, THE REFERENCE, walked -/
import Derived.Test.YtobcmagefgdgdaaGreatDoorPr
import Derived.Test.YtobcmagefgdgdaaGreatDoorWg
import Derived.Test.YtobcmagefgdgdaaGreatDoorWi
set_option linter.unusedSimpArgs false
set_option linter.unusedVariables false
set_option maxRecDepth 100000
set_option maxHeartbeats 8000000
namespace Go.Proofs.YtobcmagefgdgdaaGreatDoor
open Go.AI Go.G Tryz
attribute [simp] ntmps121 results121 ntmps300 results300 ntmps217 results217 ntmps361 results361 ntmps276 results276 ntmps264 results264 ntmps283 results283 ntmps199 results199
theorem zhi (o:Nonce.Ou):Nonce.kF o=(!(o.o0&&decide (o.l0<1))&& !(o.o1&&decide (o.l1<1))&& !(o.o2&&decide (o.l2<1))&& !(o.o3&&decide (o.l3<1))&&Nonce.kV o.rR):=by
 obtain⟨a,b,c,d,x,y,z,t,m⟩:=o;have key:∀(v:Bool) (n:Int),(0<=n)->(v&&decide (n=0))=(v&&decide (n<1)):=λv n h=>by
  have:decide (n=0)=decide (n<1):=EF.2 (by omega);rw[this]
 by_cases hs:Nonce.kV ⟨a,b,c,d,m⟩=true
 ·rw[Nonce.wE]at hs;simp only[Nonce.kF];rw[key x a (by omega),key y b (by omega),key z c (by omega),key t d (by omega)]
 ·have e:Nonce.kV ⟨a,b,c,d,m⟩=false:=by simpa using hs
  simp[Nonce.kF,Nonce.Ou.rR,e]
theorem N6 (n:Int):C0 121 [int n] (.aU [st (rZ (Nonce.A6 n)),st (wJ (Nonce.uS n))]):=by
 refine Ct.B func121 ?_;simp;have e:=Rm n;exact aA (by simp[e,Nonce.A6,Nonce.uS])
theorem U1 (i:Nonce.Nn):C0 300 [st (wJ i)] (bool (Nonce.kV i)):=by
 refine Ct.B func300 ?_;simp;obtain⟨a,b,c,d,m⟩:=i;refine aH.rounds 5 ?_;refine cC.s ?_;simp;by_cases p0:a<0
 ·have e:¬0<=a:=by omega
  simp[p0];refine dr ?_;exact aA (by simp[Nonce.kV,e])
 by_cases q0:m<a
 ·simp[p0,q0];refine dr ?_;have e:¬a<=m:=by omega
  exact aA (by simp[Nonce.kV,e])
 simp[p0,q0];refine dr ?_;refine cC.s ?_;simp;by_cases p1:b<0
 ·have e:¬0<=b:=by omega
  simp[p1];refine dr ?_;exact aA (by simp[Nonce.kV,e])
 by_cases q1:m<b
 ·simp[p1,q1];refine dr ?_;have e:¬b<=m:=by omega
  exact aA (by simp[Nonce.kV,e])
 simp[p1,q1];refine dr ?_;refine cC.s ?_;simp;by_cases p2:c<0
 ·have e:¬0<=c:=by omega
  simp[p2];refine dr ?_;exact aA (by simp[Nonce.kV,e])
 by_cases q2:m<c
 ·simp[p2,q2];refine dr ?_;have e:¬c<=m:=by omega
  exact aA (by simp[Nonce.kV,e])
 simp[p2,q2];refine dr ?_;refine cC.s ?_;simp;by_cases p3:d<0
 ·have e:¬0<=d:=by omega
  simp[p3];refine dr ?_;exact aA (by simp[Nonce.kV,e])
 by_cases q3:m<d
 ·simp[p3,q3];refine dr ?_;have e:¬d<=m:=by omega
  exact aA (by simp[Nonce.kV,e])
 simp[p3,q3];refine dr ?_;refine cC.s ?_;simp;by_cases r1:1<=m
 ·by_cases r2:m<=2147483647
  ·have e:Nonce.kV ⟨a,b,c,d,m⟩=true:=by rw[Nonce.wE];omega
   simp[r1,r2];exact aA (by simp[e])
  ·simp[r1,r2];exact aA (by simp[Nonce.kV,r2])
 ·simp[r1];exact aA (by simp[Nonce.kV,r1])
theorem Oi (o:Nonce.Ou):C0 217 [st (rZ o)] (bool (Nonce.kF o)):=by
 refine Ct.B func217 ?_;simp;rw[zhi];obtain⟨a,b,c,d,x,y,z,t,m⟩:=o;refine aH.un ?_;simp
 repeat' first
  | (refine bM (λh=>?_) (λh=>?_)<;>simp only[h]<;>simp[h])
  | (refine bQ (λh=>?_) (λh=>?_)<;>simp only[h]<;>simp[h])
  | (refine⟨(show jG _ _ from by decide+kernel),?_⟩)
  |fail
 all_goals(first| (exact aA (by simp[*]))|skip)
 all_goals
  refine aH.un ?_;simp
 repeat' first
  | (refine bM (λh=>?_) (λh=>?_)<;>simp only[h]<;>simp[h])
  | (refine bQ (λh=>?_) (λh=>?_)<;>simp only[h]<;>simp[h])
  | (refine⟨(show jG _ _ from by decide+kernel),?_⟩)
  |fail
 all_goals(first| (exact aA (by simp[*]))|skip)
 all_goals
  refine aH.un ?_;simp
 repeat' first
  | (refine bM (λh=>?_) (λh=>?_)<;>simp only[h]<;>simp[h])
  | (refine bQ (λh=>?_) (λh=>?_)<;>simp only[h]<;>simp[h])
  | (refine⟨(show jG _ _ from by decide+kernel),?_⟩)
  |fail
 all_goals(first| (exact aA (by simp[*]))|skip)
 all_goals
  refine aH.un ?_;simp
 repeat' first
  | (refine bM (λh=>?_) (λh=>?_)<;>simp only[h]<;>simp[h])
  | (refine bQ (λh=>?_) (λh=>?_)<;>simp only[h]<;>simp[h])
  | (refine⟨(show jG _ _ from by decide+kernel),?_⟩)
  |fail
 all_goals(first| (exact aA (by simp[*]))|skip)
 all_goals
  refine aH.un ?_;simp
 all_goals
  refine CI.p (U1 ⟨a,b,c,d,m⟩) ?_;simp
 all_goals(exact aA (by simp[Nonce.Ou.rR, *]))
theorem Ij (o:Nonce.Ou):C0 361 [st (rZ o)] (st (rZ (Nonce.sZ o))):=by
 refine Ct.B func361 ?_;simp;refine CI.p (Oi o) ?_;simp;refine bQ (λh1=>?_) (λh1=>?_)<;>simp only[h1]<;>simp
 ·exact aA (by simp[Nonce.sZ,h1])
 ·refine CI.p (N6 o.m) ?_;simp;exact aA (by simp[Nonce.sZ,h1])
theorem zgC (o:Nonce.Nn):C0 276 [st (wJ o)] (st (wJ (Nonce.xR o))):=by
 refine Ct.B func276 ?_;simp;refine CI.p (U1 o) ?_;simp;refine bQ (λh1=>?_) (λh1=>?_)<;>simp only[h1]<;>simp
 ·exact aA (by simp[Nonce.xR,h1])
 ·refine CI.p (N6 o.m) ?_;simp;exact aA (by simp[Nonce.xR,h1])
theorem Gv (o:Nonce.Ou)(k_:Int):C0 264 [st (rZ o),int k_] (.aU [st (rZ (Nonce.push o k_).1),int (Nonce.push o k_).2.1,int (Nonce.push o k_).2.2]):=by
 refine Ct.B func264 ?_;simp;refine CI.p (Ij o) ?_;simp;simp only[Nonce.push];have hb:=Nonce.Ip o;generalize Nonce.sZ o=q at hb⊢;obtain⟨A,B,C,D,X,Y,Z,T,M⟩:=q;simp only[Nonce.Ou.ok]at hb;have wA:=wz (A+1);have wB:=wz (B+1);have wC:=wz (C+1);have wD:=wz (D+1);by_cases hk:Nonce.iR k_=true
 ·rcases Nonce.IC hk with rfl|rfl|rfl|rfl
  all_goals
   simp
  all_goals
   repeat' first
    | (refine bM (λh=>?_) (λh=>?_)<;>simp only[h]<;>simp[h,wA,wB,wC,wD])
    | (refine bQ (λh=>?_) (λh=>?_)<;>simp only[h]<;>simp[h,wA,wB,wC,wD])
    | (refine⟨(show jG _ _ from by decide+kernel),?_⟩)
    |fail
  all_goals
   clear wA wB wC wD;first
    | (refine aA ?_ rfl;simp_all[Nonce.BB,Nonce.Ou.nS,Nonce.Ou.last,Nonce.Ou.set];done)
    | (refine⟨by decide+kernel,aA ?_ rfl⟩;simp_all[Nonce.BB,Nonce.Ou.nS,Nonce.Ou.last,Nonce.Ou.set];done)
 ·have hk2:k_<0\/3<k_:=by simp[Nonce.iR]at hk;omega
  by_cases h0:k_<0
  ·simp[h0];exact aA (by simp[Nonce.BB,hk])
  ·have h3:3<k_:=by omega
   simp[h0,h3];exact aA (by simp[Nonce.BB,hk])
theorem ziA (o:Nonce.Ou)(k_ n:Int):C0 283 [st (rZ o),int k_,int n] (.aU [st (rZ (Nonce.done o k_ n).1),int (Nonce.done o k_ n).2]):=by
 refine Ct.B func283 ?_;simp;refine CI.p (Ij o) ?_;simp;simp only[Nonce.done];generalize Nonce.sZ o=q;obtain⟨A,B,C,D,X,Y,Z,T,M⟩:=q;by_cases hk:Nonce.iR k_=true
 ·rcases Nonce.IC hk with rfl|rfl|rfl|rfl
  all_goals
   simp
  all_goals
   repeat' first
    | (refine bM (λh=>?_) (λh=>?_)<;>simp only[h]<;>simp[h])
    | (refine bQ (λh=>?_) (λh=>?_)<;>simp only[h]<;>simp[h])
    | (refine⟨(show jG _ _ from by decide+kernel),?_⟩)
    |fail
  all_goals
   first
    | (refine aA ?_ rfl;simp_all[Nonce.CA,Nonce.Ou.nS,Nonce.Ou.last,Nonce.Ou.set];done)
    | (refine⟨by decide+kernel,aA ?_ rfl⟩;simp_all[Nonce.CA,Nonce.Ou.nS,Nonce.Ou.last,Nonce.Ou.set];done)
 ·have hk2:k_<0\/3<k_:=by simp[Nonce.iR]at hk;omega
  by_cases h0:k_<0
  ·simp[h0];exact aA (by simp[Nonce.CA,hk])
  ·have h3:3<k_:=by omega
   simp[h0,h3];exact aA (by simp[Nonce.CA,hk])
theorem Ws (o:Nonce.Nn)(k_ n:Int):C0 199 [st (wJ o),int k_,int n] (.aU [st (wJ (Nonce.take o k_ n).1),int (Nonce.take o k_ n).2]):=by
 refine Ct.B func199 ?_;simp;refine CI.p (zgC o) ?_;simp;simp only[Nonce.take];have hb:=Nonce.Ns o;generalize Nonce.xR o=q at hb⊢;obtain⟨A,B,C,D,M⟩:=q;simp only[Nonce.Nn.ok]at hb;have wA:=wz (A+1);have wB:=wz (B+1);have wC:=wz (C+1);have wD:=wz (D+1);by_cases hk:Nonce.iR k_=true
 ·rcases Nonce.IC hk with rfl|rfl|rfl|rfl
  ·by_cases t0:n=0
   ·have e1:¬(0:Int)=A+1:=by omega
    subst t0;simp[wA,e1];exact aA (by simp[Nonce.lF,Nonce.iR,Nonce.Nn.last,e1])
   by_cases t1:n=A
   ·subst t1;simp[t0];exact aA (by simp[Nonce.lF,Nonce.iR,Nonce.Nn.last,t0])
   by_cases t2:n=A+1
   ·subst t2;by_cases t3:M<A+1
    ·simp[t0,t1,wA,t3];exact aA (by simp[Nonce.lF,Nonce.iR,Nonce.Nn.last,t0,t1,t3])
    ·simp[t0,t1,wA,t3];exact aA (by simp[Nonce.lF,Nonce.iR,Nonce.Nn.last,Nonce.Nn.set,t0,t1,t3])
   ·simp[t0,t1,t2,wA];exact aA (by simp[Nonce.lF,Nonce.iR,Nonce.Nn.last,t0,t1,t2])
  ·by_cases t0:n=0
   ·have e1:¬(0:Int)=B+1:=by omega
    subst t0;simp[wB,e1];exact aA (by simp[Nonce.lF,Nonce.iR,Nonce.Nn.last,e1])
   by_cases t1:n=B
   ·subst t1;simp[t0];exact aA (by simp[Nonce.lF,Nonce.iR,Nonce.Nn.last,t0])
   by_cases t2:n=B+1
   ·subst t2;by_cases t3:M<B+1
    ·simp[t0,t1,wB,t3];exact aA (by simp[Nonce.lF,Nonce.iR,Nonce.Nn.last,t0,t1,t3])
    ·simp[t0,t1,wB,t3];exact aA (by simp[Nonce.lF,Nonce.iR,Nonce.Nn.last,Nonce.Nn.set,t0,t1,t3])
   ·simp[t0,t1,t2,wB];exact aA (by simp[Nonce.lF,Nonce.iR,Nonce.Nn.last,t0,t1,t2])
  ·by_cases t0:n=0
   ·have e1:¬(0:Int)=C+1:=by omega
    subst t0;simp[wC,e1];exact aA (by simp[Nonce.lF,Nonce.iR,Nonce.Nn.last,e1])
   by_cases t1:n=C
   ·subst t1;simp[t0];exact aA (by simp[Nonce.lF,Nonce.iR,Nonce.Nn.last,t0])
   by_cases t2:n=C+1
   ·subst t2;by_cases t3:M<C+1
    ·simp[t0,t1,wC,t3];exact aA (by simp[Nonce.lF,Nonce.iR,Nonce.Nn.last,t0,t1,t3])
    ·simp[t0,t1,wC,t3];exact aA (by simp[Nonce.lF,Nonce.iR,Nonce.Nn.last,Nonce.Nn.set,t0,t1,t3])
   ·simp[t0,t1,t2,wC];exact aA (by simp[Nonce.lF,Nonce.iR,Nonce.Nn.last,t0,t1,t2])
  ·by_cases t0:n=0
   ·have e1:¬(0:Int)=D+1:=by omega
    subst t0;simp[wD,e1];exact aA (by simp[Nonce.lF,Nonce.iR,Nonce.Nn.last,e1])
   by_cases t1:n=D
   ·subst t1;simp[t0];exact aA (by simp[Nonce.lF,Nonce.iR,Nonce.Nn.last,t0])
   by_cases t2:n=D+1
   ·subst t2;by_cases t3:M<D+1
    ·simp[t0,t1,wD,t3];exact aA (by simp[Nonce.lF,Nonce.iR,Nonce.Nn.last,t0,t1,t3])
    ·simp[t0,t1,wD,t3];exact aA (by simp[Nonce.lF,Nonce.iR,Nonce.Nn.last,Nonce.Nn.set,t0,t1,t3])
   ·simp[t0,t1,t2,wD];exact aA (by simp[Nonce.lF,Nonce.iR,Nonce.Nn.last,t0,t1,t2])
 ·have hk2:k_<0\/3<k_:=by simp[Nonce.iR]at hk;omega
  by_cases h0:k_<0
  ·simp[h0];exact aA (by simp[Nonce.lF,hk])
  ·have h3:3<k_:=by omega
   simp[h0,h3];exact aA (by simp[Nonce.lF,hk])
attribute [simp] ntmps271 results271 ntmps272 results272 ntmps273 results273 ntmps274 results274 ntmps197 results197
theorem DQ (n m:Int):C0 271 [int n,int m] (bool (bG n m)):=by
 refine Ct.B func271 ?_;simp
 repeat' first
  | (refine bM (λh=>?_) (λh=>?_)<;>simp only[h]<;>simp[h])
  | (refine bQ (λh=>?_) (λh=>?_)<;>simp only[h]<;>simp[h])
  | (refine⟨(show jG _ _ from by decide+kernel),?_⟩)
  |fail
 all_goals exact aA (by simp[*,bG])
theorem zjR (f:G.Frame)(hf:fJ f):C0 272 [st (cA f)] (bool (!mM f)):=by
 refine Ct.B func272 ?_;simp;have hl:=hf.aP;refine aH.inv mixed rfl (ι:={k:Nat//k<=(f.aP).length/\(f.aP.take k).all (λm=>bG m.bR 2147483647)=true}) (λk=>[(1,.ptr 64 0),(3,int k.1)]) (λk=>[(64,.cells ((cA f).map .d) 134)]) 192 (λk=>(f.aP).length-k.1) ⟨0,by omega,by simp⟩ [] (by constructor<;>simp) ?_;rintro⟨k,hk1,hi⟩ B hB;refine CI.n ?_;simp;rcases bC hk1 with⟨x,hk,hx,hr,hm,ht,hd,hw,h⟩|rfl
 ·simp[h,hr,hw];refine CI.p (DQ x.bR 2147483647) ?_;simp;cases h1:bG x.bR 2147483647 with
  |false=>
   have e:mM f=false:=by
    rw[TX];intro hs;have:=(sV hs).2.2.2.2.1 x hm;rw[this]at h1;cases h1
   simp;exact aA (by simp[e])
  |true=>
   simp;refine hB _ ⟨k+1,by omega,by simp[ht,hi,h1]⟩ [] ?_ (by simp;omega);constructor<;>simp[hw,ht,h1]
 ·simp;rw[bX]at hi;have e0:mM f=(bG f.aM 2147483647&&bG f.cN 2147483647&&bG f.turn 2147483647&&bG f.err 15&&decide (f.aD.length<=64)&&decide (f.gone.length<=64)&&decide (f.aP.length<=64)&&decide (f.held.length<=64)):=by
   unfold mM;rw[hi];cases bG f.aM 2147483647<;>cases bG f.cN 2147483647<;>cases bG f.turn 2147483647<;>cases bG f.err 15<;>simp[Bool.and_assoc]
  rw[e0];clear e0;refine CI.p (DQ f.aM 2147483647) ?_;simp;cases h1:bG f.aM 2147483647 with
  |false=>
   simp;exact aA
  |true=>
   simp;refine CI.p (DQ f.cN 2147483647) ?_;simp;cases h2:bG f.cN 2147483647 with
   |false=>
    simp;exact aA
   |true=>
    simp;refine CI.p (DQ f.turn 2147483647) ?_;simp;cases h3:bG f.turn 2147483647 with
    |false=>
     simp;exact aA
    |true=>
     simp;refine CI.p (DQ f.err 15) ?_;simp;cases h4:bG f.err 15 with
     |false=>
      simp;exact aA
     |true=>
      simp;by_cases l1:f.aD.length<=64
      rotate_left
      ·have m1:(64:Int)<f.aD.length:=by omega
       simp[m1];exact aA (by simp[l1])
      have m1:¬(64:Int)<f.aD.length:=by omega
      simp[m1];by_cases l2:f.gone.length<=64
      rotate_left
      ·have m2:(64:Int)<f.gone.length:=by omega
       simp[m2];exact aA (by simp[l2])
      have m2:¬(64:Int)<f.gone.length:=by omega
      simp[m2];by_cases l3:f.aP.length<=64
      rotate_left
      ·have m3:(64:Int)<f.aP.length:=by omega
       simp[m3];exact aA (by simp[l3])
      have m3:¬(64:Int)<f.aP.length:=by omega
      simp[m3];by_cases l4:f.held.length<=64
      rotate_left
      ·have m4:(64:Int)<f.held.length:=by omega
       simp[m4];exact aA (by simp[l4])
      have m4:¬(64:Int)<f.held.length:=by omega
      exact aA (by simp[l1,l2,l3,l4,m4])
theorem zhB (f:G.Frame)(h:bG f.type 3=true):C0 273 [st (cA f)] (bool (!wF f)):=by
 refine Ct.B func273 ?_;simp;obtain⟨ty,ep,kd,nn,tu,aD,gone,er,hv,hd⟩:=f;have hc:ty=0\/ty=1\/ty=2\/ty=3:=by have:=lI.1 h;simp only at this;omega
 clear h;rcases hc with rfl|rfl|rfl|rfl
 all_goals
  simp
 repeat' first
  | (refine bM (λh=>?_) (λh=>?_)<;>simp only[h]<;>simp[h])
  | (refine bQ (λh=>?_) (λh=>?_)<;>simp only[h]<;>simp[h])
  | (refine⟨(show jG _ _ from by decide+kernel),?_⟩)
  |fail
 all_goals(exact aA (by simp_all[wF,sH,eV,vS,Frame.mk.injEq]) rfl)
theorem XD (l:List Key)(hl:l.length<=9223372036854775807):C0 274 [aB (l.map aQ)] (bool (l.all eN)):=by
 refine Ct.B func274 ?_;simp;refine aH.inv mixed rfl (ι:={k:Nat//k<=(l).length/\(l.take k).all eN=true}) (λk=>[(0,aB (l.map aQ)),(3,int k.1)]) (λk=>[]) 192 (λk=>(l).length-k.1) ⟨0,by omega,by simp⟩ [] (by constructor<;>simp) ?_;rintro⟨k,hk1,hi⟩ B hB;refine CI.n ?_;simp;rcases bC hk1 with⟨x,hk,hx,hr,hm,ht,hd,hw,h⟩|rfl
 ·simp[h,hr,hw];have e1:eN x=false->l.all eN=false:=λe=>by
   rw[oE];exact⟨x,hm,by simp[e]⟩
  refine CI.p (DQ x.kind 3) ?_;simp;cases h1:bG x.kind 3 with
  |false=>
   have e2:=e1 (by simp[eN,h1]);simp;exact aA (by simp[e2])
  |true=>
   simp[hr,hk,hx];refine CI.p (DK x.name) ?_;simp;cases h2:fI x.name with
   |false=>
    have e2:=e1 (by simp[eN,h2]);simp;exact aA (by simp[e2])
   |true=>
    have e3:eN x=true:=by simp[eN,h1,h2]
    simp;refine hB _ ⟨k+1,by omega,by simp[ht,hi,e3]⟩ [] ?_ (by simp;omega);constructor<;>simp[hw,ht,e3]
 ·simp;rw[bX]at hi;exact aA (by simp[hi])
@[simp] def QA (m:G.Mark):Key:=m.k
theorem zN (f:G.Frame)(hf:fJ f):C0 197 [st (cA f)] (int (dD f)):=by
 refine Ct.B func197 ?_;simp;have hl:=hf.aP;have ha:=hf.aD.1;have hg:=hf.gone;have hd_:=hf.held;refine CI.p (DQ f.type 3) ?_;simp;cases h1:bG f.type 3 with
 |false=>
  simp;exact aA (by simp[dD,h1])
 |true=>
  simp;refine CI.p (DQ f.kind 3) ?_;simp;cases h2:bG f.kind 3 with
  |false=>
   simp;exact aA (by simp[dD,h2])
  |true=>
   simp;refine CI.p (zjR f hf) ?_;simp;cases h3:mM f with
   |false=>
    simp;exact aA (by simp[dD,h1,h2,h3])
   |true=>
    simp;refine CI.p (zhB f h1) ?_;simp;cases h4:wF f with
    |false=>
     simp;exact aA (by simp[dD,h1,h2,h3,h4])
    |true=>
     simp;have l3:=(sV h3).2.2.1;refine aH.gH 3 2 184 rfl ?_;refine aH.V (f.aP) (λk=>[(1,.ptr 64 0),(3,.own 1216),(4,int k.1)]) (λk=>[(64,.cells ((cA f).map .d) 134),(1216,.grow 2 ((f.aP.take k.1).map λm=>aQ (QA m)) 184)]) 1217 (λk hk1 B hB=>?_);simp;rcases bC hk1 with⟨x,hk,hx,hr,hm,ht,hd,hw,h⟩|rfl
     ·simp[h,hr,hw];refine⟨⟨λe he=>by obtain⟨x,_,rfl⟩:=fU.1 (pY he);rfl,by omega⟩,?_⟩;exact hB hk (by constructor<;>simp[hw,ht])
     ·simp;clear hB;refine CI.p (XD f.gone hg) ?_;simp;have en:kN f=(f.gone.all eN&&f.held.all eN&&f.aP.all (eN∘QA)):=by simp[kN,Function.comp_def]
      cases g1:f.gone.all eN with
      |false=>
       have e:kN f=false:=by simp[en,g1]
       simp;exact aA (by simp[dD,h1,h2,h3,h4,e])
      |true=>
       simp;refine CI.g [1216] [] (XD (f.aP.map QA) (by simp;omega)) ?_;simp;cases g2:f.aP.all (eN∘QA)with
       |false=>
        have e:kN f=false:=by rw[en,g1,g2];simp
        simp;exact aA (by simp[dD,h1,h2,h3,h4,e])
       |true=>
        simp;refine CI.p (XD f.held hd_) ?_;simp;cases g3:f.held.all eN with
        |false=>
         have e:kN f=false:=by simp[en,g1,g3]
         simp;exact aA (by simp[dD,h1,h2,h3,h4,e])
        |true=>
         have e:kN f=true:=by rw[en,g1,g2,g3];rfl
         have fe:dD f=if¬mV f.aD=0 then mV f.aD else if o9 f=false then 2 else 0:=by simp[dD,h1,h2,h3,h4,e]
         rw[fe];clear fe e en;simp;refine aH.inv mixed rfl (ι:={k:Nat//k<=(f.aD).length/\(f.aD.take k).all (λr=>decide (cQ r=0))=true}) (λk=>[(1,.ptr 64 0),(5,int k.1)]) (λk=>[(64,.cells ((cA f).map .d) 134)]) 2561 (λk=>(f.aD).length-k.1) ⟨0,by omega,by simp⟩ [] (by constructor<;>simp) ?_;rintro⟨k,hk1,hi⟩ B hB;refine CI.n ?_;simp;rcases bC hk1 with⟨x,hk,hx,hr,hm,ht,hd,hw,h⟩|rfl
         ·simp[h,hr,hw];refine CI.p (G0 x) ?_;simp;by_cases h6:cQ x=0
          ·simp[h6];refine hB _ ⟨k+1,by omega,by simp[ht,hi,h6]⟩ [] ?_ (by simp;omega);constructor<;>simp[hw,ht,h6]
          ·have e:=IL hi hr h6;simp[h6];exact aA (by simp[e,h6])
         ·simp;rw[bX]at hi;have e0:=RH hi;rw[e0];clear hB;refine aH.inv mixed rfl (ι:={k:Nat//k<=(f.aD).length/\(f.aD.take k).all (λr=>decide (r.kind=f.kind))=true}) (λk=>[(1,.ptr 64 0),(7,int k.1)]) (λk=>[(64,.cells ((cA f).map .d) 134)]) 2945 (λk=>(f.aD).length-k.1) ⟨0,by omega,by simp⟩ [] (by constructor<;>simp) ?_;rintro⟨k,hk1,hi⟩ B hB;refine CI.n ?_;simp;rcases bC hk1 with⟨x,hk,hx,hr,hm,ht,hd,hw,h⟩|rfl
          ·simp[h,hr,hw];refine dr ?_;by_cases h6:x.kind=f.kind
           ·simp[h6];refine hB _ ⟨k+1,by omega,by simp[ht,hi,h6]⟩ [] ?_ (by simp;omega);constructor<;>simp[hw,ht,h6]
           ·have e:o9 f=false:=by
             unfold o9;have:(f.aD.all λr=>decide (r.kind=f.kind))=false:=by
              rw[oE];exact⟨x,hm,by simp[h6]⟩
             rw[this];rfl
            simp[h6];exact aA (by simp[e])
          ·simp;rw[bX]at hi;have e1:=hi;clear hB;refine aH.inv mixed rfl (ι:={k:Nat//k<=(f.gone).length/\(f.gone.take k).all (λr=>decide (r.kind=f.kind))=true}) (λk=>[(1,.ptr 64 0),(8,int k.1)]) (λk=>[(64,.cells ((cA f).map .d) 134)]) 3329 (λk=>(f.gone).length-k.1) ⟨0,by omega,by simp⟩ [] (by constructor<;>simp) ?_;rintro⟨k,hk1,hi⟩ B hB;refine CI.n ?_;simp;rcases bC hk1 with⟨x,hk,hx,hr,hm,ht,hd,hw,h⟩|rfl
           ·simp[h,hr,hw];refine dr ?_;by_cases h6:x.kind=f.kind
            ·simp[h6];refine hB _ ⟨k+1,by omega,by simp[ht,hi,h6]⟩ [] ?_ (by simp;omega);constructor<;>simp[hw,ht,h6]
            ·have e:o9 f=false:=by
              unfold o9;have:(f.gone.all λr=>decide (r.kind=f.kind))=false:=by
               rw[oE];exact⟨x,hm,by simp[h6]⟩
              rw[this];simp
             simp[h6];exact aA (by simp[e])
           ·simp;rw[bX]at hi;have e:o9 f=true:=by unfold o9;rw[e1,hi];rfl
            exact aA (by simp[e])
attribute [simp] ntmps142 results142 ntmps86 results86 ntmps359 results359 ntmps360 results360
theorem X7 (l:List aC)(hl:l.length<=1000000):C0 142 [aB (l.map aF)] (aB ((l.map aC.key).map aQ)):=by
 refine Ct.B func142 ?_;simp;refine aH.gH 3 2 184 rfl ?_;refine aH.V (l) (λk=>[(0,aB (l.map aF)),(3,.own 64),(4,int k.1)]) (λk=>[(64,.grow 2 (((l.take k.1).map aC.key).map aQ) 184)]) 65 (λk hk1 B hB=>?_);simp;rcases bC hk1 with⟨x,hk,hx,hr,hm,ht,hd,hw,h⟩|rfl
 ·simp[h,hr,hw];refine CI.p (qL x) ?_ (ha:=by simp[hr]);simp[hr];refine⟨by omega,?_⟩;exact hB hk (by constructor<;>simp[hw,ht])
 ·simp;exact aA
theorem KU (s:aW)(hl:s.bA.length<=1000000):C0 86 [st (eW s)] (.aU [int ((fN s).bA.length-1),aB ((dQ (fN s)).map aF)]):=by
 refine Ct.B func86 ?_;simp;refine CI.p (UI s) ?_;simp;have h1:=UK s;have h2:=UL hl;have h0:0<(fN s).bA.length:=vS.2 h1;generalize fN s=q at h0 h1 h2⊢;obtain⟨m,hm⟩:∃m:Nat,q.bA.length=m+1:=⟨q.bA.length-1,by omega⟩;have hx:((q.bA.length:Int)-1)=(m:Int):=by omega
 have hr:q.bA[m]? =some (dQ q):=by
  unfold dQ;rw[Ah,GF,hm];simp[show m<q.bA.length by omega]
 have hm2:m<q.bA.length:=by omega
 have hw:IntKind.wrap .i64 (m:Int)=m:=wz _;have hg:q.bA[m]=dQ q:=(cE.1 hr).2;simp[hx,hw,hr,hm2];refine dr ?_;exact aA (by simp[hg])
theorem F0 (l:List aC)(n:Int)(keys:List Key)(all:Bool)(hl:l.length<=1000000)(hks:keys.length<=9223372036854775807):C0 359 [aB (l.map aF),int n,aB (keys.map aQ),bool all] (aB ((lN l n keys all).map aF)):=by
 refine Ct.B func359 ?_;simp;refine aH.gH 9 7 174 rfl ?_;refine aH.V (l) (λk=>[(0,aB (l.map aF)),(1,int n),(2,aB (keys.map aQ)),(3,bool all),(9,.own 64),(10,int k.1)]) (λk=>[(64,.grow 7 ((lN (l.take k.1) n keys all).map aF) 174)]) 65 (λk hk1 B hB=>?_) (h0:=by constructor<;>simp[Sy]);simp[Sy];rcases bC hk1 with⟨x,hk,hx,hr,hm,ht,hd,hw,h⟩|rfl
 ·simp[h,hr,hw];have hlen:(lN (l.take k) n keys all).length<=1000000:=dH (gJ _ _) (by simp;omega);have ta:=zle (l.take k) x n keys all;by_cases h1:x.kind=n
  ·obtain rfl:=h1;simp[hr,hk,hx,h];cases all with
   |true=>
    simp[hr,hk,hx,h];refine⟨by omega,?_⟩;exact hB hk (by constructor<;>simp[hw,ht,ta])
   |false=>
    simp[hr,hk,hx,h];refine CI.p (qL x) ?_ (ha:=by simp[hr]);simp[hr];refine CI.p (Q5 keys x.key hks) ?_;simp;by_cases h2:x.key∈keys
    ·simp[h2,hr,hk,hx,h];refine⟨by omega,?_⟩;exact hB hk (by constructor<;>simp[hw,ht,ta,h2])
    ·simp[h2];exact hB hk (by constructor<;>simp[hw,ht,ta,h2])
  ·simp[h1];exact hB hk (by constructor<;>simp[hw,ht,ta,h1])
 ·simp;exact aA
theorem Q7 (hv:List aC)(l:List Key)(n:Int)(held:List Key)(hhv:hv.length<=1000000)(hl:l.length<=1000000)(hks:held.length<=9223372036854775807):C0 360 [aB (hv.map aF),aB (l.map aQ),int n,aB (held.map aQ)] (aB ((qN hv l n held).map aQ)):=by
 refine Ct.B func360 ?_;simp;refine aH.gH 9 2 184 rfl ?_;refine aH.V (l) (λk=>[(0,aB (hv.map aF)),(1,aB (l.map aQ)),(2,int n),(3,aB (held.map aQ)),(9,.own 64),(10,int k.1)]) (λk=>[(64,.grow 2 ((qN hv (l.take k.1) n held).map aQ) 184)]) 65 (λk hk1 B hB=>?_) (h0:=by constructor<;>simp[Ol]);simp[Ol];rcases bC hk1 with⟨x,hk,hx,hr,hm,ht,hd,hw,h⟩|rfl
 ·simp[h,hr,hw];have hlen:(qN hv (l.take k) n held).length<=1000000:=dH (gJ _ _) (by simp;omega);have ta:=zhk hv (l.take k) x n held;have key:∀b:Bool,wO hv n held x=b->True:=λ_ _=>trivial;by_cases h0:n=0
  ·obtain rfl:=h0;have e:wO hv 0 held x=true:=by simp[wO]
   simp[hr,hk,hx,h];by_cases h1:x.kind=0
   ·simp[h1,hr,hk,hx,h];refine⟨by omega,?_⟩;exact hB hk (by constructor<;>simp[hw,ht,ta,h1,e])
   ·simp[h1];exact hB hk (by constructor<;>simp[hw,ht,ta,h1])
  ·simp[h0,hr,hk,hx,h];refine CI.p (Q5 held x hks) ?_;simp;by_cases h2:x∈held
   ·have e:wO hv n held x=false:=by simp[wO,h0,h2]
    simp[h2,hr,hk,hx,h];by_cases h1:x.kind=n
    ·simp[h1];exact hB hk (by constructor<;>simp[hw,ht,ta,h1,e])
    ·simp[h1];exact hB hk (by constructor<;>simp[hw,ht,ta,h1])
   ·simp[h2,hr,hk,hx,h];refine CI.p (zcr hv x hhv) ?_;simp;have e3:(yK hv x).length=0↔∀r∈hv,¬x∈cD r:=by simp[yK]
    by_cases h3:∀r∈hv,¬x∈cD r
    ·have e:wO hv n held x=true:=by unfold wO;rw[oC (e3.2 h3)];simp[h2]
     simp[eq_true h3,hr,hk,hx,h];by_cases h1:x.kind=n
     ·obtain rfl:=h1;simp[hr,hk,hx,h];refine⟨by omega,?_⟩;exact hB hk (by constructor<;>simp[hw,ht,ta,e])
     ·simp[h1];exact hB hk (by constructor<;>simp[hw,ht,ta,h1])
    ·have e:wO hv n held x=false:=by unfold wO;rw[TJ (λq=>h3 (e3.1 q))];simp[h0]
     simp[eq_false h3,hr,hk,hx,h];by_cases h1:x.kind=n
     ·simp[h1];exact hB hk (by constructor<;>simp[hw,ht,ta,h1,e])
     ·simp[h1];exact hB hk (by constructor<;>simp[hw,ht,ta,h1])
 ·simp;exact aA
attribute [simp] ntmps263 results263
theorem F2 {A:List aC}(h:A.length<=1000000)(n:Int)(R:List Key)(b:Bool):(lN A n R b).length<=1000000:=dH (gJ _ _) h
theorem Q8 {A:List Key}(hv:List aC)(h:A.length<=1000000)(n:Int)(R:List Key):(qN hv A n R).length<=1000000:=dH (gJ _ _) h
theorem Ko (hv want:List aC)(held:List Key)(hh:cL hv)(hl:hv.length<=1000000)(hw:want.length<=64)(ha:fA want)(hd:held.length<=1000000):C0 263 [aB (hv.map aF),aB (want.map aF),aB (held.map aQ)] (.aU [st (CW ((tB hv want held).getD ⟨0,[],[]⟩)),bool (tB hv want held).isSome]):=by
 refine Ct.B func263 ?_;simp;refine CI.p (ziC hv want hh hl (by omega)) ?_;simp;refine CI.p (O4 want hw) ?_;simp;rw[O5 ha,zeU];have lr:(gW want).length<=64:=dH (gJ _ _) hw;have hk5:=X7 (gW want) (by omega);have lR:((gW want).map aC.key).length<=64:=by simpa using lr
 generalize(gW want).map aC.key=R at hk5 lR⊢;refine CI.p hk5 ?_;simp;have lA:(iN hv want).length<=1000000:=dH (gJ _ _) (by omega);have lG:(kA hv want).length<=1000000:=dH (gJ _ _) (by simp;omega);generalize iN hv want=A at lA⊢;generalize kA hv want=Gn at lG⊢;refine aH.rounds 4 ?_;refine cC.s ?_;simp;refine CI.p (F0 A 3 R false (by omega) (by omega)) ?_;simp;have lz:=F2 lA 3 R false;cases hz:lN A 3 R false with
 |cons z zs=>
  have p:(0:Int)<zs.length+1:=by omega
  rw[zS (by simp)];simp[p];exact aA
 |nil=>
  rw[zT (by simp)];simp;refine cC.s ?_;simp;refine CI.p (F0 A 2 R false (by omega) (by omega)) ?_;simp;have lz:=F2 lA 2 R false;cases hz:lN A 2 R false with
  |cons z zs=>
   have p:(0:Int)<zs.length+1:=by omega
   rw[zS (by simp)];simp[p];exact aA
  |nil=>
   rw[zT (by simp)];simp;refine cC.s ?_;simp;refine CI.p (F0 A 1 R false (by omega) (by omega)) ?_;simp;have lz:=F2 lA 1 R false;cases hz:lN A 1 R false with
   |cons z zs=>
    have p:(0:Int)<zs.length+1:=by omega
    rw[zS (by simp)];simp[p];exact aA
   |nil=>
    rw[zT (by simp)];simp;refine cC.s ?_;simp;refine CI.p (F0 A 0 [] true (by omega) (by simp)) ?_;simp;refine CI.p (Q7 hv Gn 0 held hl lG (by omega)) ?_;simp;have l1:=F2 lA 0 [] true;have l2:=Q8 hv lG 0 held;generalize lN A 0 [] true=Z1 at l1⊢;generalize qN hv Gn 0 held=Z2 at l2⊢;have wz:IntKind.wrap .i64 ((Z1.length:Int)+Z2.length)=Z1.length+Z2.length:=wz _;by_cases hz:Z1.length+Z2.length=0
    rotate_left
    ·have p:(0:Int)<(Z1.length:Int)+Z2.length:=by omega
     rw[zS (by simp;omega)];simp[wz,p];exact aA
    obtain⟨rfl,rfl⟩:Z1=[]/\Z2=[]:=⟨kH (by omega),kH (by omega)⟩;rw[zT (by simp)];simp[wz];refine aH.rounds 4 ?_;refine cC.s ?_;simp;refine CI.p (F0 A 3 [] true (by omega) (by simp)) ?_;simp;have lz:=F2 lA 3 [] true;cases hz:lN A 3 [] true with
    |cons z zs=>
     have p:(0:Int)<zs.length+1:=by omega
     rw[zS (by simp)];simp[p];exact aA
    |nil=>
     rw[zT (by simp)];simp;refine cC.s ?_;simp;refine CI.p (F0 A 2 [] true (by omega) (by simp)) ?_;simp;have lz:=F2 lA 2 [] true;cases hz:lN A 2 [] true with
     |cons z zs=>
      have p:(0:Int)<zs.length+1:=by omega
      rw[zS (by simp)];simp[p];exact aA
     |nil=>
      rw[zT (by simp)];simp;refine cC.s ?_;simp;refine CI.p (F0 A 1 [] true (by omega) (by simp)) ?_;simp;have lz:=F2 lA 1 [] true;cases hz:lN A 1 [] true with
      |cons z zs=>
       have p:(0:Int)<zs.length+1:=by omega
       rw[zS (by simp)];simp[p];exact aA
      |nil=>
       rw[zT (by simp)];simp;refine cC.s ?_;simp;refine aH.rounds 4 ?_;refine cC.s ?_;simp;refine CI.p (Q7 hv Gn 1 held hl lG (by omega)) ?_;simp;have lz:=Q8 hv lG 1 held;cases hz:qN hv Gn 1 held with
       |cons z zs=>
        have p:(0:Int)<zs.length+1:=by omega
        rw[zS (by simp)];simp[p];exact aA
       |nil=>
        rw[zT (by simp)];simp;refine cC.s ?_;simp;refine CI.p (Q7 hv Gn 2 held hl lG (by omega)) ?_;simp;have lz:=Q8 hv lG 2 held;cases hz:qN hv Gn 2 held with
        |cons z zs=>
         have p:(0:Int)<zs.length+1:=by omega
         rw[zS (by simp)];simp[p];exact aA
        |nil=>
         rw[zT (by simp)];simp;refine cC.s ?_;simp;refine CI.p (Q7 hv Gn 3 held hl lG (by omega)) ?_;simp;have lz:=Q8 hv lG 3 held;cases hz:qN hv Gn 3 held with
         |cons z zs=>
          have p:(0:Int)<zs.length+1:=by omega
          rw[zS (by simp)];simp[p];exact aA
         |nil=>
          rw[zT (by simp)];simp;refine cC.s ?_;simp;exact aA
attribute [simp] ntmps73 results73 ntmps218 results218 ntmps148 results148 ntmps85 results85 ntmps205 results205 ntmps131 results131 ntmps190 results190 ntmps125 results125 ntmps40 results40
theorem W9 (e m:Int):C0 73 [int e,int m] (st (iB (o7 e m))):=by
 refine Ct.B func73 ?_;simp;refine CI.p (N6 m) ?_;simp;have h:=Px e;exact aA (by simp[o7,h,vV,eV])
theorem zdU (s:cW)(hs:fJ s.v.push):C0 218 [st (iB s)] (bool (lC s)):=by
 refine Ct.B func218 ?_;simp;cases h1:s.oL with
 |false=>
  simp[h1];exact aA (by simp[lC,h1])
 |true=>
  simp[h1];refine CI.p (zN s.v.push hs) ?_;simp;by_cases h2:dD s.v.push=0
  rotate_left
  ·simp[h2];exact aA (by simp[lC,h2])
  simp[h2];by_cases h3:s.v.push.type=1
  rotate_left
  ·simp[h3];exact aA (by simp[lC,h3])
  simp[h3];by_cases h4:s.v.push.aM=s.aM
  rotate_left
  ·simp[h4];exact aA (by simp[lC,h4])
  simp[h4];rcases O9 h2 with hk|hk|hk|hk
  all_goals
   simp[hk]
  all_goals
   refine bM (λh5=>?_) (λh5=>?_)<;>simp only[h5]<;>simp[hk]
  all_goals
   exact aK (by simp[lC,h1,h2,h3,h4,hk,h5,Nonce.Ou.nS,Nonce.Ou.last])
theorem za7 (s:cW)(hd:s.v.held.length<=9223372036854775807)(hs:fJ s.v.push)(hl:s.v.aP.length<=1000000):C0 148 [st (iB s)] (bool (gE s)):=by
 refine Ct.B func148 ?_;simp;by_cases h1:s.aM<0
 ·have e:¬0<=s.aM:=by omega
  simp[h1];exact aA (by simp[gE,pN,bG,e])
 have e1:0<=s.aM:=by omega
 by_cases h2:2147483647<s.aM
 ·have e:¬s.aM<=2147483647:=by omega
  simp[h1,h2];exact aA (by simp[gE,pN,bG,e])
 have e2:s.aM<=2147483647:=by omega
 by_cases h3:s.at_<0
 ·have e:¬0<=s.at_:=by omega
  simp[h1,h2,h3];exact aA (by simp[gE,pN,bG,e])
 have e3:0<=s.at_:=by omega
 by_cases h4:s.stuck<0
 ·have e:¬0<=s.stuck:=by omega
  simp[h1,h2,h3,h4];exact aA (by simp[gE,pN,bG,e])
 have e4:0<=s.stuck:=by omega
 by_cases h5:15<s.stuck
 ·have e:¬s.stuck<=15:=by omega
  simp[h1,h2,h3,h4,h5];exact aA (by simp[gE,pN,bG,e])
 have e5:s.stuck<=15:=by omega
 simp[h1,h2,h3,h4,h5];refine CI.p (Oi s.out) ?_;simp;cases h6:Nonce.kF s.out with
 |false=>
  simp;exact aA (by simp[gE,h6])
 |true=>
  simp;refine CI.p (Mb s.v.aP hl) ?_;simp;refine CI.p (zN (nV s.v) (Nx s.v (by omega))) ?_ (ha:=by simp[nV]);simp[nV];by_cases h7:dD (nV s.v)=0
  rotate_left
  ·have h7':=h7;unfold nV at h7';simp[h7'];exact aA (by simp[gE,zM,h7])
  have h7':=h7;unfold nV at h7';simp[h7'];refine CI.p (zN (pD s.v) (ZC hd)) ?_ (ha:=by simp[pD]);simp[pD];by_cases h8:dD (pD s.v)=0
  rotate_left
  ·have h8':=h8;unfold pD at h8';simp[h8'];exact aA (by simp[gE,zM,h8])
  have h8':=h8;unfold pD at h8';simp[h8'];cases h9:s.v.open_ with
  |false=>
   simp[h9];exact aA (by simp[gE,pN,bG,zM,e1,e2,e3,e4,e5,h6,h7,h8,h9])
  |true=>
   simp[h9];refine CI.p (zdU s hs) ?_ (ha:=by simp[h9]);simp[h9];exact aA (by simp[gE,pN,bG,zM,e1,e2,e3,e4,e5,h6,h7,h8,h9])
theorem N9 (s:cW)(hd:s.v.held.length<=9223372036854775807)(hs:fJ s.v.push)(hl:s.v.aP.length<=1000000):C0 85 [st (iB s)] (st (iB (hZ s))):=by
 refine Ct.B func85 ?_;simp;refine CI.p (za7 s hd hs hl) ?_;simp;cases h1:gE s with
 |false=>
  simp;refine CI.p (W9 s.aM s.out.m) ?_;simp;exact aA (by simp[hZ,h1])
 |true=>
  simp;exact aA (by simp[hZ,h1])
theorem zlg (s:cW)(p:aW)(f:G.Frame)(hl:s.v.open_=true->s.v.aP.length+s.v.push.aD.length<=1000000/\s.v.push.gone.length<=9223372036854775807/\∀r∈s.v.push.aD,nB r.name)(hp:p.bA.length<=1000000):C0 205 [st (iB s),st (eW p),st (cA f)] (.aU [st (iB (lP s p f).1),int (lP s p f).2]):=by
 refine Ct.B func205 ?_;simp;refine CI.p (ziA s.out f.kind f.cN) ?_;simp;refine aX (λh1 zz=>?_) (λh1 zz=>?_)<;>simp only[zz]<;>simp
 ·exact aA (by simp[lP,h1])
 refine bQ (λh2=>?_) (λh2=>?_)<;>simp only[h2]<;>simp
 ·have h2':s.v.open_=false:=by simpa using h2
  exact aA (by simp[lP,h1,h2'])
 have h2':s.v.open_=true:=by simpa using h2
 refine CI.p (zkU s.v f (hl h2').1 (hl h2').2.1 (hl h2').2.2) ?_;simp;refine bQ (λh3=>?_) (λh3=>?_)<;>simp only[h3]<;>simp
 ·exact aA (by simp[lP,h1,h2',h3])
 refine aX (λh4 zz=>?_) (λh4 zz=>?_)<;>simp only[zz]<;>simp
 ·have h4':64<(gC s.v f).aP.length:=by omega
  exact aA (by simp[lP,h1,h2',h3,h4'])
 have h4':¬64<(gC s.v f).aP.length:=by omega
 refine CI.p (KU p hp) ?_;simp;exact aA (by simp[lP,h1,h2',h3,h4',kM])
theorem Gw {f:G.Frame}(h:dD f=0):∀r∈f.aD,nB r.name:=λr hr=>by
 have F:=j9.1 h;have:=F.aD r hr;have:=DJ (xC this).2.1;unfold G.nB;omega
theorem zdV {s:cW}(S:MK s)(ho:s.v.open_=true):dD s.v.push=0:=by
 have hw:=S.waits ho;simp only[lC,bL,dA]at hw;exact hw.1.1.1.1.2
theorem zg0 {f:G.Frame}(h:dD f=0):∀m∈f.aP,nB m.k.name:=λm hm=>by
 have F:=j9.1 h;have:=F.named;simp only[kN,bL,dP]at this;have:=this.2 m hm;simp only[eN,bL]at this;have:=DJ this.2;unfold G.nB;omega
theorem zg7 (s:cW)(p:aW)(f:G.Frame)(hd:s.v.held.length<=9223372036854775807)(hs:fJ s.v.push)(hl:s.v.aP.length<=1000000)(hf:fJ f)(hp:vR p)(hpl:p.bA.length<=1000000):C0 131 [st (iB s),st (eW p),st (cA f)] (.aU [st (iB (handle s p f).1),int (handle s p f).2]):=by
 refine Ct.B func131 ?_;simp;refine CI.p (N9 s hd hs hl) ?_;simp;have hq0:=OA s;have hh:handle s p f=mT (hZ s) p f:=rfl;rw[hh];clear hh;generalize hZ s=q at hq0⊢;have S:=mQ.1 hq0;refine CI.p (zN f hf) ?_;simp;by_cases h1:dD f=0
 rotate_left
 ·simp[h1];exact aA (by simp[mT,h1])
 simp[h1];by_cases h2:f.aM=q.aM
 rotate_left
 ·simp[h2];exact aA (by simp[mT,h1,h2])
 simp[h2];have F:=j9.1 h1;have L:=sV F.small;have hS:=S.hl;rcases Gu h1 with h3|h3|h3|h3
 ·simp[h3];cases h4:q.oL with
  |true=>
   simp[h4];exact aA (by simp[mT,h1,h2,h3,sF,h4])
  |false=>
   simp[h4];refine CI.p (zgd p f.aP hp (by omega) (zg0 h1)) ?_;simp;have hk:=K9 p f.aP;refine aX (λh5 zz=>?_) (λh5 zz=>?_)<;>simp only[zz]<;>simp
   ·refine CI.p (X7 (pQ p f.aP) (by omega)) ?_;simp;exact aA (by simp[mT,h1,h2,h3,sF,wM,h4,h5])
   ·exact aA (by simp[mT,h1,h2,h3,sF,wM,h4,h5])
 ·simp[h3];exact aA (by simp[mT,h1,h2,h3])
 ·simp[h3];have ob:=Iu S;refine CI.p (zlg q p f (λh=>⟨(ob h).1,(ob h).2,Gw (zdV S h)⟩) hpl) ?_ (ha:=by simp[h3,h2]);simp[h3,h2];exact aA (by simp[mT,h1,h2,h3])
 ·simp[h3];refine CI.p (Qa q.v f.turn f.held) ?_;simp;exact aA (by simp[mT,h1,h2,h3,B6])
theorem zcQ (s:cW)(p:aW)(hs:rP s)(hl:s.v.aP.length<=1000000)(hpl:p.bA.length<=1000000)(hx:idle (hZ s) p=false->fA (fE p)/\(fE p).length<=64):C0 190 [st (iB s),st (eW p)] (.aU [st (iB (iL s p).1),aB ((iL s p).2.1.map cA),int (iL s p).2.2]):=by
 refine Ct.B func190 ?_;simp;refine CI.p (N9 s hs.v.held hs.v.push hl) ?_;simp;have hq0:=OA s;have hqo:=OB hs;have hh:iL s p=kJ (hZ s) p:=rfl;rw[hh];clear hh;generalize hZ s=q at hq0 hqo hx⊢;have S:=mQ.1 hq0;have b1:=S.hl;have b2:=S.dl;refine CI.p (KU p hpl) ?_;simp;cases h1:q.oL with
 |false=>
  have hi:idle q p=true:=by simp[idle,h1]
  simp[h1];exact aA (by simp[kJ,hi,h1])
 |true=>
  simp[h1];cases h2:q.v.open_ with
  |true=>
   have hi:idle q p=true:=by simp[idle,h2]
   simp[h2];exact aA (by simp[kJ,hi,h2,h1])
  |false=>
   simp[h2];by_cases h3:q.stuck=0
   ·have hi:idle q p=false:=by simp[idle,h1,h2,h3]
    obtain⟨ha,hw⟩:=hx hi;simp[h3];refine CI.p (Ko q.v.aP (fE p) q.v.held hqo.v.aP (by omega) hw ha (by omega)) ?_ (ha:=by simp[fE]);simp[fE];rcases hn:tB q.v.aP (dQ (fN p)) q.v.held with _|x
    ·simp;exact aA (by simp[kJ,hi,h2,fE,hn,h1,h3])
    ·simp;refine CI.p (Gv q.out x.kind) ?_;simp;refine aX (λh5 zz=>?_) (λh5 zz=>?_)<;>simp only[zz]<;>simp
     ·exact aA (by simp[kJ,hi,h2,fE,hn,rB,h5,h1,h3])
     ·refine CI.p (Ea q.v (jT q x (Nonce.push q.out x.kind).2.1)) ?_ (ha:=by simp[jT,h2]);simp[jT,h2];exact aK (by simp[kJ,hi,h2,fE,hn,rB,h5,jT,rW,h1,h3])
   ·simp[h3];by_cases h4:q.at_=kM p
    ·have hi:idle q p=true:=by simp[idle,h3,h4]
     have h4':=h4;unfold kM at h4';simp[h4'];exact aA (by simp[kJ,hi,h2,h1,h4'])
    ·have hi:idle q p=false:=by simp[idle,h1,h2,h4]
     have h4':=h4;unfold kM at h4';obtain⟨ha,hw⟩:=hx hi;simp[h4'];refine CI.p (Ko q.v.aP (fE p) q.v.held hqo.v.aP (by omega) hw ha (by omega)) ?_ (ha:=by simp[fE]);simp[fE];rcases hn:tB q.v.aP (dQ (fN p)) q.v.held with _|x
     ·simp;exact aA (by simp[kJ,hi,h2,fE,hn,h1])
     ·simp;refine CI.p (Gv q.out x.kind) ?_;simp;refine aX (λh5 zz=>?_) (λh5 zz=>?_)<;>simp only[zz]<;>simp
      ·exact aA (by simp[kJ,hi,h2,fE,hn,rB,h5,h1])
      ·refine CI.p (Ea q.v (jT q x (Nonce.push q.out x.kind).2.1)) ?_ (ha:=by simp[jT,h2]);simp[jT,h2];exact aK (by simp[kJ,hi,h2,fE,hn,rB,h5,jT,rW,h1])
theorem zcd (s:cW)(hs:rP s)(hl:s.v.aP.length<=1000000):C0 125 [st (iB s)] (aB ((eO s).map cA)):=by
 refine Ct.B func125 ?_;simp;refine CI.p (N9 s hs.v.held hs.v.push hl) ?_;simp;cases h1:(hZ s).v.open_ with
 |false=>
  simp[h1];exact aA (by simp[eO,h1])
 |true=>
  simp[h1];exact aA (by simp[eO,h1])
theorem Dt (s:cW)(p:aW)(hs:rP s)(hl:s.v.aP.length<=1000000)(hpl:p.bA.length<=1000000):C0 40 [st (iB s),st (eW p)] (bool (nC s p)):=by
 refine Ct.B func40 ?_;simp;refine CI.p (N9 s hs.v.held hs.v.push hl) ?_;simp;have hqo:=OB hs;refine CI.p (KU p hpl) ?_;simp;cases h1:(hZ s).oL with
 |false=>
  simp[h1];exact aA (by simp[nC,h1])
 |true=>
  simp[h1];cases h2:(hZ s).v.open_ with
  |true=>
   simp[h2];exact aA (by simp[nC,h2])
  |false=>
   simp[h2];refine CI.p (UC (hZ s).v.aP (fE p) hqo.v.aP) ?_ (ha:=by simp[fE]);simp[fE];exact aA (by simp[nC,h1,h2,fE])
end Go.Proofs.YtobcmagefgdgdaaGreatDoor
namespace Go.G
open Go.AI
def D9 (a b:aC):Prop:=a.kind=0->b.kind=0->¬a.port=b.port
theorem zdb {l:List aC}(h:l.Pairwise D9):(DB l).Nodup:=by
 unfold DB;rw[List.nodup_iff_pairwise_ne,List.pairwise_map,List.pairwise_filter];refine h.imp λ{a b} hab ha hb=>?_
 exact hab (by simpa using ha) (by simpa using hb)
theorem zdC {l:List aC}{x:aC}(h:l.Pairwise D9)(hx:∀y∈l,D9 y x):(l++[x]).Pairwise D9:=by
 rw[MS];exact⟨h,by simp,λa ha b hb=>by rw[yA.1 hb];exact hx a ha⟩
end Go.G
namespace Go.Proofs.YtobcmagefgdgdaaGreatDoor
open Go.AI Go.G Tryz
attribute [simp] ntmps355 results355 ntmps357 results357 ntmps366 results366 ntmps188 results188 ntmps456 results456 ntmps277 results277 ntmps151 results151
theorem Bu (l:List aC):C0 355 [aB (l.map aF)] (int (eB l)):=by
 refine Ct.B func355 ?_;simp;by_cases h0:(64:Int)<l.length
 ·have e:eB l=3:=by simp only[eB];rw[aZ (by omega)]
  simp[h0];exact aA (by simp[e])
 have h64:¬64<l.length:=by omega
 have hl:l.length<=64:=by omega
 simp[h0];refine aH.inv mixed rfl (ι:={k:Nat//k<=(l).length/\(l.take k).all (λr=>decide (cQ r=0))=true}) (λk=>[(0,aB (l.map aF)),(3,int k.1)]) (λk=>[]) 64 (λk=>(l).length-k.1) ⟨0,by omega,by simp⟩ [] (by constructor<;>simp) ?_;rintro⟨k,hk1,hi⟩ B hB;refine CI.n ?_;simp;rcases bC hk1 with⟨x,hk,hx,hr,hm,ht,hd,hw,h⟩|rfl
 ·simp[h,hr,hw];refine CI.p (G0 x) ?_;simp;by_cases h1:cQ x=0
  ·simp[h1];refine hB _ ⟨k+1,by omega,by simp[ht,hi,h1]⟩ [] ?_ (by simp;omega);constructor<;>simp[hw,ht,h1]
  ·have e:eB l=cQ x:=by rw[<-IL hi hr h1];exact Cr h64 (by rw[IL hi hr h1];exact h1)
   simp[h1];exact aA (by simp[e,h1])
 ·simp;rw[bX]at hi;have hf:=RH hi;have nm:∀y∈l,nB y.name:=λy hy=>by
   have:=dP.1 hi y hy;have:=DJ (xC (lS this)).2.1;unfold G.nB;omega
  clear hi hB;refine aH.inv mixed rfl (ι:={n:Nat//1<=n/\n<=max 1 l.length/\fA (l.take n)}) (λk=>[(0,aB (l.map aF)),(5,int k.1)]) (λk=>[]) 64 (λk=>l.length-k.1) ⟨1,by omega,by omega,by cases l<;>simp[fA,i7]⟩ [] (by constructor<;>simp) ?_;rintro⟨n,hn1,hn2,hasc⟩ B2 hB2;refine CI.n ?_;simp;refine aX (λhb zz=>?_) (λhb zz=>?_)<;>simp only[zz]<;>simp
  ·have hlt:n<l.length:=by omega
   have hlt':n-1<l.length:=by omega
   obtain⟨x,hx⟩:∃x,l[n]? =some x:=⟨_,bO hlt⟩;obtain⟨y,hy⟩:∃y,l[n-1]? =some y:=⟨_,bO hlt'⟩;have hxe:l[n]=x:=(cE.1 hx).2;have hye:l[n-1]=y:=(cE.1 hy).2;have hw1:IntKind.wrap .i64 ((n:Int)-1)=((n-1:Nat):Int):=by rw[wz _];omega
   have hw2:IntKind.wrap .i64 ((n:Int)+1)=((n+1:Nat):Int):=by rw[wz _];omega
   simp[hw1,hlt,hlt',hxe,hye];refine CI.p (qL y) ?_;simp;simp[hxe,hlt];refine CI.p (qL x) ?_;simp;refine CI.p (R3 y.key x.key (.inl (nm y (gT hy)))) ?_;simp;refine dr ?_;have cr:=DW y.key x.key;have hx':l[n-1+1]? =some x:=by rw[show n-1+1=n by omega];exact hx
   by_cases h3:0<=cT y.key x.key
   ·have e:eB l=2:=Cs h64 hf (λha=>by have:=Rz ha hy hx';omega);simp[h3];exact aA (by simp[e])
   ·have h4:cT y.key x.key= -1:=by omega
    have tk:l.take (n+1)=l.take n++[x]:=by rw[jH,hx];rfl
    have ly:(l.take n).getLast? =some y:=by
     have:=X1 hy
     rwa[show n-1+1=n by omega]at this
    simp[h3];refine hB2 _ ⟨n+1,by omega,by omega,by rw[tk];exact Rx _ _ hasc (λz hz=>by rw[ly]at hz;cases hz;exact h4)⟩ [] ?_ (by simp;omega);constructor<;>simp[hw2]
  ·have hA:fA l:=by rw[<-JK (l:=l) (i:=n) (by omega)];exact hasc
   have e0:=UQ h64 hf hA;clear hB2;refine aH.inv mixed rfl (ι:={k:Nat//k<=(l).length/\(l.take k).Pairwise D9}) (λk=>[(0,aB (l.map aF)),(6,int k.1)]) (λk=>[]) 64 (λk=>(l).length-k.1) ⟨0,by omega,by simp⟩ [] (by constructor<;>simp) ?_;rintro⟨k,hk1,hi⟩ B hB;refine CI.n ?_;simp;rcases bC hk1 with⟨x,hk,hx,hr,hm,ht,hd,hw,h⟩|rfl
   ·simp[h,hr,hw];refine aH.inv mixed rfl (ι:={n:Nat//n<=k/\∀y∈l.take n,D9 y x}) (λkj=>[(0,aB (l.map aF)),(6,int k),(7,int kj.1)]) (λkj=>[]) 64 (λkj=>k-kj.1) ⟨0,by omega,by simp⟩ [] (by constructor<;>simp) ?_;rintro⟨n,hn,hyx⟩ Bj hBj;refine CI.n ?_;simp;refine aX (λhb2 zz=>?_) (λhb2 zz=>?_)<;>simp only[zz]<;>simp
    ·have hlt:n<l.length:=by omega
     obtain⟨y,hy⟩:∃y,l[n]? =some y:=⟨_,bO hlt⟩;have hye:l[n]=y:=(cE.1 hy).2;have hw2:IntKind.wrap .i64 ((n:Int)+1)=((n+1:Nat):Int):=by rw[wz _];omega
     have tk:l.take (n+1)=l.take n++[y]:=by rw[jH,hy];rfl
     have nx:D9 y x->∀z∈l.take (n+1),D9 z x:=λh z hz=>by
      rw[tk]at hz;rcases gU.1 hz with g|g
      ·exact hyx z g
      ·rw[yA.1 g];exact h
     by_cases c1:x.kind=0
     ·by_cases c2:y.kind=0
      ·by_cases c3:x.port=y.port
       ·have e:eB l=13:=by
         rw[e0];by_cases hn:(DB l).Nodup
         ·rw[aZ hn]at e0;exact absurd c3 (zdc e0 hr hy (by omega) c1 c2)
         ·rw[aT hn]
        simp[hlt,hye,hx,hk,c1,c2,c3];refine dr ?_;exact aA (by simp[e])
       ·simp[hlt,hye,hx,hk,c1,c2,c3];refine dr ?_;refine hBj _ ⟨n+1,by omega,nx λ_ _=>λq=>c3 q.symm⟩ [] ?_ (by simp;omega);constructor<;>simp[hw2]
      ·simp[hlt,hye,hx,hk,c1,c2];refine dr ?_;refine hBj _ ⟨n+1,by omega,nx λq _=>absurd q c2⟩ [] ?_ (by simp;omega);constructor<;>simp[hw2]
     ·simp[hlt,hye,hx,hk,c1];refine dr ?_;refine hBj _ ⟨n+1,by omega,nx λ_ q=>absurd q c1⟩ [] ?_ (by simp;omega);constructor<;>simp[hw2]
    ·have en:n=k:=by omega
     subst en;refine hB _ ⟨n+1,by omega,by rw[ht];exact zdC hi hyx⟩ [] ?_ (by simp;omega);constructor<;>simp[hw]
   ·simp;rw[bX]at hi;have e:eB l=0:=by rw[e0,aZ (zdb hi)]
    exact aA (by simp[e])
theorem Dz (l:List aC)(h64:l.length<=64)(ha:fA l):C0 357 [aB (l.map aF)] (int (mO l)):=by
 refine Ct.B func357 ?_;simp;refine CI.p (O4 l h64) ?_;simp;rw[O5 ha];have hQ:(gW l).length<=64:=dH (gJ _ _) h64;obtain⟨V,hV⟩:∃V,mO l=V:=⟨_,rfl⟩;rw[hV];unfold mO at hV;generalize gW l=Q at hQ hV⊢;refine aH.inv mixed rfl (ι:={k:Nat//k<=(Q).length/\(Q.take k).any (λr=>(cD r).any (iF l))=false}) (λk=>[(0,aB (l.map aF)),(3,aB (Q.map aF)),(4,int k.1)]) (λk=>[]) 64 (λk=>(Q).length-k.1) ⟨0,by omega,by simp⟩ [] (by constructor<;>simp) ?_;rintro⟨k,hk1,hi⟩ B hB;refine CI.n ?_;simp;rcases bC hk1 with⟨x,hk,hx,hr,hm,ht,hd,hw,h⟩|rfl
 ·simp[h,hr,hw];refine CI.p (O1 x) ?_;simp;have hrl:=zP x;refine aH.inv mixed rfl (ι:={kj:Nat//kj<=((cD x)).length/\((cD x).take kj).any (iF l)=false}) (λkj=>[(0,aB (l.map aF)),(3,aB (Q.map aF)),(4,int k),(5,aB ((cD x).map aQ)),(6,int kj.1)]) (λkj=>[]) 64 (λkj=>((cD x)).length-kj.1) ⟨0,by omega,by simp⟩ [] (by constructor<;>simp) ?_;rintro⟨kj,hk1j,hij⟩ Bj hBj;refine CI.n ?_;simp;rcases bC hk1j with⟨q,hkj,hxj,hrj,hmj,htj,hdj,hwj,hj⟩|rfl
  ·simp[hj,hrj,hwj];cases hg:(bI l q).isSome with
   |false=>
    refine CI.p (J4 l q (by omega)) ?_ (ha:=by simp[hg]);simp[hg];have e:(Q.any λr=>(cD r).any (iF l))=true:=CO.2 ⟨x,hm,CO.2 ⟨q,hmj,by simp[iF,hg]⟩⟩;rw[aZ e]at hV;subst hV;exact aA
   |true=>
    refine CI.p (J4 l q (by omega)) ?_ (ha:=by simp[hg]);simp[hg];have e:iF l q=false:=by simp[iF,hg]
    refine hBj _ ⟨kj+1,by omega,by rw[htj,TV,hij];simp[e]⟩ [] ?_ (by simp;omega);constructor<;>simp[hwj]
  ·simp;rw[bX]at hij;refine hB _ ⟨k+1,by omega,by rw[ht,TV,hi];simp only[List.any_cons,List.any_nil,hij];rfl⟩ [] ?_ (by simp;omega);constructor<;>simp[hw]
 ·simp;rw[bX]at hi;rw[aT (by rw[hi];decide)]at hV;clear hB;refine aH.inv mixed rfl (ι:={k:Nat//k<=(Q).length/\(Q.take k).any xZ=false}) (λk=>[(3,aB (Q.map aF)),(7,int k.1)]) (λk=>[]) 64 (λk=>(Q).length-k.1) ⟨0,by omega,by simp⟩ [] (by constructor<;>simp) ?_;rintro⟨k,hk1,hi⟩ B hB;refine CI.n ?_;simp;rcases bC hk1 with⟨x,hk,hx,hr,hm,ht,hd,hw,h⟩|rfl
  ·simp[h,hr,hw];by_cases c1:x.kind=3
   ·by_cases c2:x.bH=[]
    ·have e:Q.any xZ=true:=CO.2 ⟨x,hm,by simp[xZ,c1,c2]⟩;rw[aZ e]at hV;subst hV;simp[c1,c2,hr,hk,hx];exact aA
    ·have e:xZ x=false:=by simp[xZ,c2]
     simp[c1,c2,hr,hk,hx];refine hB _ ⟨k+1,by omega,by rw[ht,TV,hi];simp[e]⟩ [] ?_ (by simp;omega);constructor<;>simp[hw]
   ·have e:xZ x=false:=by simp[xZ,c1]
    simp[c1,hr,hk,hx];refine hB _ ⟨k+1,by omega,by rw[ht,TV,hi];simp[e]⟩ [] ?_ (by simp;omega);constructor<;>simp[hw]
  ·simp;rw[bX]at hi;rw[aT (by rw[hi];decide)]at hV;subst hV;exact aA
theorem Ra (room:Int)(l:List aC):C0 366 [int room,aB (l.map aF)] (int (jU room l)):=by
 refine Ct.B func366 ?_;simp;refine CI.p (Bu l) ?_;simp;by_cases h1:eB l=0
 rotate_left
 ·simp[h1];exact aA (by simp[jU,h1])
 have h64:=NS h1;have ha:=xA h1;simp[h1];by_cases h2:room<l.length
 ·simp[h2];exact aA (by simp[jU,h1,h2])
 ·simp[h2];refine CI.p (Dz l h64 ha) ?_;simp;exact aA (by simp[jU,h1,h2])
theorem zeY (n:Int):C0 188 [int n] (st (l6 (r9 n))):=by
 refine Ct.B func188 ?_;simp;have e:(if 0<if 64<n then 64 else n then if 64<n then 64 else n else 0)=max 0 (min n 64):=by(repeat' split)<;>omega
 exact aA (by simp[r9,n9,e])
theorem za9 (c:Cache):C0 456 [st (l6 c)] (bool (rA c)):=by
 refine Ct.B func456 ?_;simp;have e:rA c=(decide (0<=c.cap)&&decide (c.cap<=64)&&decide (jU c.cap c.l=0)):=by
  unfold rA n9;congr 1
  rw[<-Bool.decide_and];exact EF.2 (by omega)
 rw[e];by_cases h1:0<=c.cap
 ·simp[h1];by_cases h2:c.cap<=64
  ·simp[h2];refine CI.p (Ra c.cap c.l) ?_;simp;exact aA (by simp[h1,h2])
  ·simp[h2];exact aA (by simp[h1,h2])
 ·simp[h1];exact aA (by simp[h1])
theorem Wr (c:Cache)(aD:List aC)(gone:List Key)(hl:c.l.length+aD.length<=1000000)(hg:gone.length<=9223372036854775807)(hn:∀r∈aD,nB r.name):C0 277 [st (l6 c),aB (aD.map aF),aB (gone.map aQ)] (.aU [st (l6 (tI c aD gone).1),int (tI c aD gone).2]):=by
 refine Ct.B func277 ?_;simp;refine CI.p (WD c.l aD gone hl hg hn) ?_;simp;refine CI.p (Ra c.cap (iC c.l aD gone)) ?_;simp;by_cases h1:jU c.cap (iC c.l aD gone)=0
 ·simp[h1];exact aA (by simp[tI,h1])
 ·simp[h1];exact aA (by simp[tI,h1])
theorem zbo (a:Cache)(ha:cL a.l):C0 151 [st (l6 a),st (l6 a)] (bool true):=by
 refine Ct.B func151 ?_;simp;refine CI.p (D3 a.l a.l ha) ?_;simp;exact aA
attribute [simp] ntmps122 results122 ntmps364 results364 ntmps201 results201 ntmps365 results365
theorem zeX (n:Int):C0 122 [int n] (st (sQ (tX n))):=by
 refine Ct.B func122 ?_;simp;refine CI.p (zeY n) ?_;simp;exact aA (by simp[tX])
theorem za8 (w:kS)(hs:cL w.shown):C0 364 [st (sQ w)] (bool (oV w)):=by
 refine Ct.B func364 ?_;simp;refine CI.p (za9 w.c) ?_;simp;cases h1:rA w.c with
 |false=>
  simp;exact aK (by simp[oV,h1])
 |true=>
  have hc:=(C4.1 h1).2.1;have h64:=NS hc;have ha:=xA hc;have e:rU w.c=gW w.c.l:=by unfold rU oU;rw[aZ h1]
  simp;refine CI.p (O4 w.c.l h64) ?_;simp;rw[O5 ha];refine CI.p (D3 w.shown (gW w.c.l) hs) ?_;simp;by_cases h2:w.shown=gW w.c.l
  ·simp[h2];cases h3:w.ready with
   |true=>
    simp[h3];exact aK (by simp[oV,h1,h2,h3,e])
   |false=>
    simp[h3,h2];exact aK (by simp[oV,h1,h2,h3,e])
  ·simp[h2];exact aK (by simp[oV,h1,h2,e])
theorem Wq (w:kS)(aD:List aC)(gone:List Key)(hw:oV w=true)(hl:w.c.l.length+aD.length<=1000000)(hg:gone.length<=9223372036854775807)(hn:∀r∈aD,nB r.name):C0 201 [st (sQ w),aB (aD.map aF),aB (gone.map aQ)] (.aU [st (sQ (sR w aD gone).1),bool (sR w aD gone).2.1,int (sR w aD gone).2.2]):=by
 refine Ct.B func201 ?_;simp;have hc:=(G1.1 hw).1;have es:tJ w.c aD gone=tI w.c aD gone:=by unfold tJ oU;rw[aZ hc]
 refine CI.p (Wr w.c aD gone hl hg hn) ?_;simp;unfold sR;rw[es];by_cases h1:(tI w.c aD gone).2=0
 rotate_left
 ·simp[h1];exact aA (by simp[h1])
 have hcs:=Sc w.c aD gone;rw[es]at hcs;generalize(tI w.c aD gone).1=d at hcs⊢;have hd:=(C4.1 hcs).2.1;have h64:=NS hd;have ha:=xA hd;have e:rU d=gW d.l:=by unfold rU oU;rw[aZ hcs]
 simp[h1];refine CI.p (O4 d.l h64) ?_;simp;rw[O5 ha];have ok:=Ji (WL hd) (λr=>decide (r.key∈sY d.l));refine CI.p (D3 (gW d.l) w.shown ok) ?_;simp;by_cases h2:gW d.l=w.shown
 ·simp[h2];exact aA (by simp[uR,e,h1,h2])
 ·simp[h2];exact aA (by simp[uR,e,h1,h2])
theorem Ei (p:cM)(hl:p.aR.length<=1000000):C0 365 [st (fY p)] (bool (jR p)):=by
 refine Ct.B func365 ?_;simp;by_cases h1:p.next<0
 ·have e:jR p=false:=by unfold jR bG;simp;omega
  simp[h1];exact aA (by simp[e])
 by_cases h2:2147483647<p.next
 ·have e:jR p=false:=by unfold jR bG;simp;omega
  simp[h1,h2];exact aA (by simp[e])
 by_cases h3:(1000:Int)<p.aR.length
 ·have e:jR p=false:=by unfold jR bG;simp;omega
  simp[h1,h2,h3];exact aA (by simp[e])
 have e:jR p=eM p.next 0 p.aR:=by
  unfold jR bG;rw[oC (show 0<=p.next by omega),oC (show p.next<=2147483647 by omega),oC (show p.aR.length<=1000 by omega)];simp
 rw[e];obtain⟨V,hV⟩:∃V,eM p.next 0 p.aR=V:=⟨_,rfl⟩;rw[hV];simp[h1,h2,h3];refine aH.inv mixed rfl (ι:={k:Nat//k<=(p.aR).length/\eM p.next 0 p.aR=eM p.next (yO (p.aR.take k)) (p.aR.drop k)}) (λk=>[(1,.ptr 64 0),(3,int (yO (p.aR.take k.1))),(4,int k.1)]) (λk=>[(64,.cells ((fY p).map .d) 128)]) 1024 (λk=>(p.aR).length-k.1) ⟨0,by omega,by simp⟩ [] (by constructor<;>simp) ?_;rintro⟨k,hk1,hi⟩ B hB;refine CI.n ?_;simp;rcases bC hk1 with⟨x,hk,hx,hr,hm,ht,hd,hw,h⟩|rfl
 ·simp[h,hr,hw];have bad:=Zr hi hd;have wl:=wz ((p.aR.length:Int)-1);by_cases c1:x.id<=yO (p.aR.take k)
  ·rw[bad (.inl c1)]at hV;subst hV;simp[c1];exact aA
  by_cases c2:p.next<x.id
  ·rw[bad (.inr (.inl c2))]at hV;subst hV;simp[c1,c2];exact aA
  by_cases c3:x.pins<0
  ·rw[bad (.inr (.inr (.inl c3)))]at hV;subst hV;simp[c1,c2,c3];exact aA
  by_cases c4:10000<x.pins
  ·rw[bad (.inr (.inr (.inr (.inl c4))))]at hV;subst hV;simp[c1,c2,c3,c4];exact aA
  by_cases c5:x.pins=0
  ·by_cases c6:k+1<p.aR.length
   ·have c7:(k:Int)<(p.aR.length:Int)-1:=by omega
    rw[bad (.inr (.inr (.inr (.inr ⟨c5,c6⟩))))]at hV;subst hV;simp[c1,c2,c3,c4,c5,wl,c7];exact aA
   ·have c7:¬(k:Int)<(p.aR.length:Int)-1:=by omega
    have st:=Dn hi hd ht c1 c2 c3 c4 (λq=>c6 q.2);simp[c1,c2,c3,c4,c5,wl,c7];refine hB _ ⟨k+1,by omega,st⟩ [] ?_ (by simp;omega);constructor<;>simp[hw,ht,X3]
  ·have st:=Dn hi hd ht c1 c2 c3 c4 (λq=>c5 q.1);simp[c1,c2,c3,c4,c5];refine hB _ ⟨k+1,by omega,st⟩ [] ?_ (by simp;omega);constructor<;>simp[hw,ht,X3]
 ·simp;have hV2:V=true:=by rw[<-hV,hi];simp[eM]
  subst hV2;exact aA
attribute [simp] ntmps279 results279 ntmps202 results202 ntmps458 results458
theorem GR (p:cM)(hl:p.aR.length<=1000000):C0 279 [st (fY p)] (st (fY (eY p))):=by
 refine Ct.B func279 ?_;simp;refine CI.p (Ei p hl) ?_;simp;cases h1:jR p with
 |false=>
  simp;exact aA (by simp[eY,h1])
 |true=>
  simp;exact aA (by simp[eY,h1])
theorem zfX (n:Int)(l:List dB)(x:dB)(h:0<=x.pins):uB ⟨n,l++[x]⟩=uB ⟨n,l⟩++if 0<x.pins then [x]else []:=by
 unfold uB;rw[nL];congr 1
 by_cases c:0<x.pins
 ·have:¬x.pins=0:=by omega
  simp[c,this]
 ·have:x.pins=0:=by omega
  simp[this]
theorem My (n:Int):uB ⟨n,[]⟩=[]:=rfl
theorem OG {n:Int}:∀{l:List dB} {a:Int},eM n a l=true->∀x∈l,0<=x.pins
 |[],_,_,x,hx=>by cases hx
 |y::l,a,h,x,hx=>by
  rw[VL]at h;simp only[bL,EK,JH]at h;rcases kD.1 hx with e|e
  ·subst e;omega
  ·exact OG h.2 x e
theorem zcR (p:cM)(l:List aC)(hl:p.aR.length<=1000000):C0 202 [st (fY p),aB (l.map aF)] (.aU [st (fY (nR p l).1),int (nR p l).2.1,int (nR p l).2.2]):=by
 refine Ct.B func202 ?_;simp;refine CI.p (GR p hl) ?_;simp;have hs:=v8 p;have hp:=xB p;have hh:nR p l=uZ (eY p) l:=rfl;rw[hh];clear hh;generalize eY p=q at hs hp⊢;have S:=pJ.1 hp;have pos:=OG S.1;have sl:=S.2.2.2;have nb:=S.2.1;have nb2:=S.2.2.1;unfold uZ;by_cases h1:q.next=2147483647
 ·simp[h1];exact aA (by simp[h1])
 simp[h1];obtain⟨nx,sn⟩:=q;simp only at h1 pos sl nb nb2 hs⊢;refine aH.gH 7 3 276 rfl ?_;refine aH.V (sn) (λk=>[(1,aB (l.map aF)),(2,.ptr 64 0),(4,.ptr 128 0),(7,.own 832),(8,int k.1)]) (λk=>[(64,.cells ((fY ⟨nx,sn⟩).map .d) 128),(128,.cells ((fY ⟨0,[]⟩).map .d) 128),(832,.grow 3 ((uB ⟨nx,sn.take k.1⟩).map iQ) 276)]) 833 (λk hk1 B hB=>?_) (h0:=by constructor<;>simp[My]);simp[My];rcases bC hk1 with⟨x,hk,hx,hr,hm,ht,hd,hw,h⟩|rfl
 ·simp[h,hr,hw];have lf:(uB ⟨nx,sn.take k⟩).length<=1000000:=dH (gJ _ _) (by simp;omega);have ta:=zfX nx (sn.take k) x (pos x hm);by_cases c:0<x.pins
  ·simp[c,hr,hk,hx,h];refine⟨by omega,?_⟩;exact hB hk (by constructor<;>simp[hw,ht,ta,c])
  ·simp[c];exact hB hk (by constructor<;>simp[hw,ht,ta,c])
 ·simp;have lf:(uB ⟨nx,sn⟩).length<=1000000:=dH (gJ _ _) (by omega);have wn:=wz (nx+1);by_cases c:1000<=(uB ⟨nx,sn⟩).length
  ·have c':(1000:Int)<=(uB ⟨nx,sn⟩).length:=by omega
   simp[c'];exact aA (by simp[h1,c])
  ·have c':¬(1000:Int)<=(uB ⟨nx,sn⟩).length:=by omega
   simp[c'];refine⟨by omega,?_⟩;simp[wn];exact aK (by simp[h1,c,wn])
theorem Bb (p:cM)(i:Nat)(x:dB)(hi:i<p.aR.length)(hl:p.aR.length<=1000000):C0 458 [st (fY p),int i,st (iQ x)] (st (fY (vW p i x))):=by
 refine Ct.B func458 ?_;simp;have wl:=wz ((p.aR.length:Int)-1);have wi:IntKind.wrap .i64 ((i:Int)+1)=((i+1:Nat):Int):=by rw[wz _];omega
 have g1:(0:Int)<=i:=by omega
 have g2:(i:Int)<=p.aR.length:=by omega
 have g3:((i+1:Nat):Int)<=p.aR.length:=by omega
 have tk:(p.aR.take i).length<=1000000:=by simp;omega
 have mt:min i p.aR.length=i:=by omega
 have ld:iY (List.drop (i+1) (List.map iQ p.aR)) 3:=λe he=>by
  obtain⟨y,_,rfl⟩:=fU.1 (yB he);rfl
 repeat refine⟨by omega,?_⟩
 by_cases c:0<x.pins
 ·simp[c]
  repeat refine⟨by omega,?_⟩
  simp[wi]
  repeat refine⟨by omega,?_⟩
  refine⟨⟨ld,by omega⟩,?_⟩;exact aA (by simp[vW,c])
 ·by_cases c2:i+1=p.aR.length
  ·have c3:((i:Int)=(p.aR.length:Int)-1)=True:=eq_true (by omega);simp[c,wl,c3,wi]
   repeat refine⟨by omega,?_⟩
   refine⟨⟨ld,by omega⟩,?_⟩;have e:vW p i x=⟨p.next,p.aR.take i++[x]++p.aR.drop (i+1)⟩:=by unfold vW;rw[aZ (.inr c2)]
   rw[e];exact aA
  ·have c3:((i:Int)=(p.aR.length:Int)-1)=False:=eq_false (by omega);simp[c,wl,c3,wi]
   repeat refine⟨by omega,?_⟩
   refine⟨⟨ld,by omega⟩,?_⟩;exact aA (by simp[vW,c,c2])
end Go.Proofs.YtobcmagefgdgdaaGreatDoor
