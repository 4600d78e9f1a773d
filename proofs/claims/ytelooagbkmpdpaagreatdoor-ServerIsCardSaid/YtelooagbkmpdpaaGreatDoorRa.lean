/-
  LAYERS 5 to 20, THE REFERENCE, walked
-/
import Derived.Test.YtelooagbkmpdpaaGreatDoorWg
import Derived.Test.YtelooagbkmpdpaaGreatDoorPt
set_option linter.unusedSimpArgs false
set_option linter.unusedVariables false
set_option maxRecDepth 100000
set_option maxHeartbeats 8000000
namespace Go.Proofs.YtelooagbkmpdpaaGreatDoor
open Go.AI Go.G
theorem ZW (o:Nonce.Ou):Nonce.fX o=(!(o.o0&&decide (o.l0<1))&& !(o.o1&&decide (o.l1<1))&& !(o.o2&&decide (o.l2<1))&& !(o.o3&&decide (o.l3<1))&&Nonce.eX o.kL):=by
 obtain⟨a,b,c,d,x,y,z,t,m⟩:=o;have key:∀(v:Bool) (n:Int),(0<=n)->(v&&decide (n=0))=(v&&decide (n<1)):=λv n h=>by
  have:decide (n=0)=decide (n<1):=CA.2 (by omega);rw[this]
 by_cases hs:Nonce.eX ⟨a,b,c,d,m⟩=true
 ·rw[Nonce.uR]at hs;simp only[Nonce.fX];rw[key x a (by omega),key y b (by omega),key z c (by omega),key t d (by omega)]
 ·have e:Nonce.eX ⟨a,b,c,d,m⟩=false:=by simpa using hs
  simp[Nonce.fX,Nonce.Ou.kL,e]
attribute [simp] Tryz.ntmps61 Tryz.results61
theorem HC (n:Int):Ct Tryz.prog 61 [int n] [] [] (.bC [st (kQ (Nonce.nR n)),st (zR (Nonce.sU n))]) []:=by
 refine Ct.B Tryz.func61 ?_;simp;have e:=OA n;first|exact aA (by simp[e,Nonce.nR,Nonce.sU]) rfl|exact aB (by simp[e,Nonce.nR,Nonce.sU])
attribute [simp] Tryz.ntmps106 Tryz.results106
theorem Q9 (i:Nonce.Nn):Ct Tryz.prog 106 [st (zR i)] [] [] (bool (Nonce.eX i)) []:=by
 refine Ct.B Tryz.func106 ?_;simp;obtain⟨a,b,c,d,m⟩:=i;refine aJ.rounds 5 ?_;refine gU.s ?_;simp;by_cases p0:a<0
 ·have e:¬0<=a:=by omega
  simp[p0];refine⟨by decide+kernel,?_⟩;first|exact aA (by simp[Nonce.eX,e]) rfl|exact aB (by simp[Nonce.eX,e])
 by_cases q0:m<a
 ·simp[p0,q0];refine⟨by decide+kernel,?_⟩;have e:¬a<=m:=by omega
  first|exact aA (by simp[Nonce.eX,e]) rfl|exact aB (by simp[Nonce.eX,e])
 simp[p0,q0];refine⟨by decide+kernel,?_⟩;refine gU.s ?_;simp;by_cases p1:b<0
 ·have e:¬0<=b:=by omega
  simp[p1];refine⟨by decide+kernel,?_⟩;first|exact aA (by simp[Nonce.eX,e]) rfl|exact aB (by simp[Nonce.eX,e])
 by_cases q1:m<b
 ·simp[p1,q1];refine⟨by decide+kernel,?_⟩;have e:¬b<=m:=by omega
  first|exact aA (by simp[Nonce.eX,e]) rfl|exact aB (by simp[Nonce.eX,e])
 simp[p1,q1];refine⟨by decide+kernel,?_⟩;refine gU.s ?_;simp;by_cases p2:c<0
 ·have e:¬0<=c:=by omega
  simp[p2];refine⟨by decide+kernel,?_⟩;first|exact aA (by simp[Nonce.eX,e]) rfl|exact aB (by simp[Nonce.eX,e])
 by_cases q2:m<c
 ·simp[p2,q2];refine⟨by decide+kernel,?_⟩;have e:¬c<=m:=by omega
  first|exact aA (by simp[Nonce.eX,e]) rfl|exact aB (by simp[Nonce.eX,e])
 simp[p2,q2];refine⟨by decide+kernel,?_⟩;refine gU.s ?_;simp;by_cases p3:d<0
 ·have e:¬0<=d:=by omega
  simp[p3];refine⟨by decide+kernel,?_⟩;first|exact aA (by simp[Nonce.eX,e]) rfl|exact aB (by simp[Nonce.eX,e])
 by_cases q3:m<d
 ·simp[p3,q3];refine⟨by decide+kernel,?_⟩;have e:¬d<=m:=by omega
  first|exact aA (by simp[Nonce.eX,e]) rfl|exact aB (by simp[Nonce.eX,e])
 simp[p3,q3];refine⟨by decide+kernel,?_⟩;refine gU.s ?_;simp;by_cases r1:1<=m
 ·by_cases r2:m<=2147483647
  ·have e:Nonce.eX ⟨a,b,c,d,m⟩=true:=by rw[Nonce.uR];omega
   simp[r1,r2];first|exact aA (by simp[e]) rfl|exact aB (by simp[e])
  ·simp[r1,r2];first|exact aA (by simp[Nonce.eX,r2]) rfl|exact aB (by simp[Nonce.eX,r2])
 ·simp[r1];first|exact aA (by simp[Nonce.eX,r1]) rfl|exact aB (by simp[Nonce.eX,r1])
attribute [simp] Tryz.ntmps55 Tryz.results55
theorem MB (o:Nonce.Ou):Ct Tryz.prog 55 [st (kQ o)] [] [] (bool (Nonce.fX o)) []:=by
 refine Ct.B Tryz.func55 ?_;simp;rw[ZW];obtain⟨a,b,c,d,x,y,z,t,m⟩:=o;refine aJ.un ?_;simp
 repeat' first
  | (refine aM (λh=>?_) (λh=>?_)<;>simp only[h]<;>simp[h])
  | (refine aE (λh=>?_) (λh=>?_)<;>simp only[h]<;>simp[h])
  | (refine⟨(show gH _ _ from by decide+kernel),?_⟩)
  |fail
 all_goals(first| (exact aA (by simp[*]) rfl)|skip)
 all_goals
  refine aJ.un ?_;simp
 repeat' first
  | (refine aM (λh=>?_) (λh=>?_)<;>simp only[h]<;>simp[h])
  | (refine aE (λh=>?_) (λh=>?_)<;>simp only[h]<;>simp[h])
  | (refine⟨(show gH _ _ from by decide+kernel),?_⟩)
  |fail
 all_goals(first| (exact aA (by simp[*]) rfl)|skip)
 all_goals
  refine aJ.un ?_;simp
 repeat' first
  | (refine aM (λh=>?_) (λh=>?_)<;>simp only[h]<;>simp[h])
  | (refine aE (λh=>?_) (λh=>?_)<;>simp only[h]<;>simp[h])
  | (refine⟨(show gH _ _ from by decide+kernel),?_⟩)
  |fail
 all_goals(first| (exact aA (by simp[*]) rfl)|skip)
 all_goals
  refine aJ.un ?_;simp
 repeat' first
  | (refine aM (λh=>?_) (λh=>?_)<;>simp only[h]<;>simp[h])
  | (refine aE (λh=>?_) (λh=>?_)<;>simp only[h]<;>simp[h])
  | (refine⟨(show gH _ _ from by decide+kernel),?_⟩)
  |fail
 all_goals(first| (exact aA (by simp[*]) rfl)|skip)
 all_goals
  refine aJ.un ?_;simp
 all_goals
  refine CI.p (Q9 ⟨a,b,c,d,m⟩) ?_;simp
 all_goals(exact aA (by simp[Nonce.Ou.kL, *]) rfl)
attribute [simp] Tryz.ntmps100 Tryz.results100
theorem JO (o:Nonce.Ou):Ct Tryz.prog 100 [st (kQ o)] [] [] (st (kQ (Nonce.jR o))) []:=by
 refine Ct.B Tryz.func100 ?_;simp;refine CI.p (MB o) ?_;simp;refine aE (λh1=>?_) (λh1=>?_)<;>simp only[h1]<;>simp<;>(try simp only[nT,nF,dT,dF]at h1)
 ·first|exact aA (by simp[Nonce.jR,h1]) rfl|exact aB (by simp[Nonce.jR,h1])
 ·refine CI.p (HC o.m) ?_;simp;first|exact aA (by simp[Nonce.jR,h1]) rfl|exact aB (by simp[Nonce.jR,h1])
attribute [simp] Tryz.ntmps46 Tryz.results46
theorem I8 (o:Nonce.Ou)(k_:Int):Ct Tryz.prog 46 [st (kQ o),int k_] [] [] (.bC [st (kQ (Nonce.push o k_).1),int (Nonce.push o k_).2.1,int (Nonce.push o k_).2.2]) []:=by
 refine Ct.B Tryz.func46 ?_;simp;refine CI.p (JO o) ?_;simp;simp only[Nonce.push];have hb:=Nonce.JT o;generalize Nonce.jR o=q at hb⊢;obtain⟨A,B,C,D,X,Y,Z,T,M⟩:=q;simp only[Nonce.Ou.ok]at hb;have wA:IntKind.wrap .i64 (A+1)=A+1:=wrap_i64 (by omega) (by omega);have wB:IntKind.wrap .i64 (B+1)=B+1:=wrap_i64 (by omega) (by omega);have wC:IntKind.wrap .i64 (C+1)=C+1:=wrap_i64 (by omega) (by omega);have wD:IntKind.wrap .i64 (D+1)=D+1:=wrap_i64 (by omega) (by omega);by_cases hk:Nonce.lO k_=true
 ·rcases Nonce.AQ hk with rfl|rfl|rfl|rfl
  all_goals
   simp
  all_goals
   repeat' first
    | (refine aM (λh=>?_) (λh=>?_)<;>simp only[h]<;>simp[h,wA,wB,wC,wD])
    | (refine aE (λh=>?_) (λh=>?_)<;>simp only[h]<;>simp[h,wA,wB,wC,wD])
    | (refine⟨(show gH _ _ from by decide+kernel),?_⟩)
    |fail
  all_goals
   clear wA wB wC wD;first
    | (refine aA ?_ rfl;simp_all[Nonce.oQ,Nonce.Ou.fJ,Nonce.Ou.last,Nonce.Ou.set];done)
    | (refine⟨by decide+kernel,aA ?_ rfl⟩;simp_all[Nonce.oQ,Nonce.Ou.fJ,Nonce.Ou.last,Nonce.Ou.set];done)
 ·have hk2:k_<0\/3<k_:=by simp[Nonce.lO]at hk;omega
  by_cases h0:k_<0
  ·simp[h0];first|exact aA (by simp[Nonce.oQ,hk]) rfl|exact aB (by simp[Nonce.oQ,hk])
  ·have h3:3<k_:=by omega
   simp[h0,h3];first|exact aA (by simp[Nonce.oQ,hk]) rfl|exact aB (by simp[Nonce.oQ,hk])
attribute [simp] Tryz.ntmps87 Tryz.results87
theorem Cc (o:Nonce.Ou)(k_ n:Int):Ct Tryz.prog 87 [st (kQ o),int k_,int n] [] [] (.bC [st (kQ (Nonce.done o k_ n).1),int (Nonce.done o k_ n).2]) []:=by
 refine Ct.B Tryz.func87 ?_;simp;refine CI.p (JO o) ?_;simp;simp only[Nonce.done];generalize Nonce.jR o=q;obtain⟨A,B,C,D,X,Y,Z,T,M⟩:=q;by_cases hk:Nonce.lO k_=true
 ·rcases Nonce.AQ hk with rfl|rfl|rfl|rfl
  all_goals
   simp
  all_goals
   repeat' first
    | (refine aM (λh=>?_) (λh=>?_)<;>simp only[h]<;>simp[h])
    | (refine aE (λh=>?_) (λh=>?_)<;>simp only[h]<;>simp[h])
    | (refine⟨(show gH _ _ from by decide+kernel),?_⟩)
    |fail
  all_goals
   first
    | (refine aA ?_ rfl;simp_all[Nonce.oC,Nonce.Ou.fJ,Nonce.Ou.last,Nonce.Ou.set];done)
    | (refine⟨by decide+kernel,aA ?_ rfl⟩;simp_all[Nonce.oC,Nonce.Ou.fJ,Nonce.Ou.last,Nonce.Ou.set];done)
 ·have hk2:k_<0\/3<k_:=by simp[Nonce.lO]at hk;omega
  by_cases h0:k_<0
  ·simp[h0];first|exact aA (by simp[Nonce.oC,hk]) rfl|exact aB (by simp[Nonce.oC,hk])
  ·have h3:3<k_:=by omega
   simp[h0,h3];first|exact aA (by simp[Nonce.oC,hk]) rfl|exact aB (by simp[Nonce.oC,hk])
attribute [simp] Tryz.ntmps79 Tryz.results79
theorem sA (n m:Int):Ct Tryz.prog 79 [int n,int m] [] [] (bool (aV n m)) []:=by
 refine Ct.B Tryz.func79 ?_;simp
 repeat' first
  | (refine aM (λh=>?_) (λh=>?_)<;>simp only[h]<;>simp[h])
  | (refine aE (λh=>?_) (λh=>?_)<;>simp only[h]<;>simp[h])
  | (refine⟨(show gH _ _ from by decide+kernel),?_⟩)
  |fail
 all_goals exact aA (by simp[*,aV]) rfl
attribute [simp] Tryz.ntmps80 Tryz.results80
theorem Dx (f:G.Frame)(hf:eD f):Ct Tryz.prog 80 [st (bU f)] [] [] (bool (!fH f)) []:=by
 refine Ct.B Tryz.func80 ?_;simp;have hl:=hf.aI;refine aJ.inv mixed rfl (ι:={k:Nat//k<=(f.aI).length/\(f.aI.take k).all (λm=>aV m.bZ 2147483647)=true}) (λk=>[(1,.ptr 64 0),(3,int k.1)]) (λk=>[(64,.cells ((bU f).map .d) 31)]) 192 (λk=>(f.aI).length-k.1) ⟨0,by omega,by simp⟩ [] (by constructor<;>simp) ?_;rintro⟨k,hk1,hi⟩ B hB;refine CI.n ?_;simp;refine aE (λh=>?_) (λh=>?_)
 ·have hk:k<(f.aI).length:=by simpa using h
  obtain⟨x,hx,hr,hm,ht,hd,hw⟩:=bB hk;simp only[h];simp[hr,hw];refine CI.p (sA x.bZ 2147483647) ?_;simp;cases h1:aV x.bZ 2147483647 with
  |false=>
   have e:fH f=false:=by
    rw[Bool.eq_false_iff];intro hs;have:=(qK hs).2.2.2.2.1 x hm;rw[this]at h1;cases h1
   simp;first|exact aA (by simp[e]) rfl|exact aB (by simp[e])
  |true=>
   simp;refine hB _ ⟨k+1,by omega,by simp[ht,hi,h1]⟩ [] ?_ (by simp;omega);constructor<;>simp[hw,ht,h1]
 ·obtain rfl:k=(f.aI).length:=by simp at h;omega
  simp only[h];simp;rw[bK]at hi;have e0:fH f=(aV f.cA 2147483647&&aV f.eY 2147483647&&aV f.cK 2147483647&&aV f.err 15&&decide (f.aL.length<=64)&&decide (f.gone.length<=64)&&decide (f.aI.length<=64)&&decide (f.held.length<=64)):=by
   unfold fH;rw[hi];cases aV f.cA 2147483647<;>cases aV f.eY 2147483647<;>cases aV f.cK 2147483647<;>cases aV f.err 15<;>simp[Bool.and_assoc]
  rw[e0];clear e0;refine CI.p (sA f.cA 2147483647) ?_;simp;cases h1:aV f.cA 2147483647 with
  |false=>
   simp;first|exact aA (by simp) rfl|exact aB (by simp)
  |true=>
   simp;refine CI.p (sA f.eY 2147483647) ?_;simp;cases h2:aV f.eY 2147483647 with
   |false=>
    simp;first|exact aA (by simp) rfl|exact aB (by simp)
   |true=>
    simp;refine CI.p (sA f.cK 2147483647) ?_;simp;cases h3:aV f.cK 2147483647 with
    |false=>
     simp;first|exact aA (by simp) rfl|exact aB (by simp)
    |true=>
     simp;refine CI.p (sA f.err 15) ?_;simp;cases h4:aV f.err 15 with
     |false=>
      simp;first|exact aA (by simp) rfl|exact aB (by simp)
     |true=>
      simp;by_cases l1:f.aL.length<=64
      rotate_left
      ·have m1:(64:Int)<f.aL.length:=by omega
       simp[m1];first|exact aA (by simp[l1]) rfl|exact aB (by simp[l1])
      have m1:¬(64:Int)<f.aL.length:=by omega
      simp[m1];by_cases l2:f.gone.length<=64
      rotate_left
      ·have m2:(64:Int)<f.gone.length:=by omega
       simp[m2];first|exact aA (by simp[l2]) rfl|exact aB (by simp[l2])
      have m2:¬(64:Int)<f.gone.length:=by omega
      simp[m2];by_cases l3:f.aI.length<=64
      rotate_left
      ·have m3:(64:Int)<f.aI.length:=by omega
       simp[m3];first|exact aA (by simp[l3]) rfl|exact aB (by simp[l3])
      have m3:¬(64:Int)<f.aI.length:=by omega
      simp[m3];by_cases l4:f.held.length<=64
      rotate_left
      ·have m4:(64:Int)<f.held.length:=by omega
       simp[m4];first|exact aA (by simp[l4]) rfl|exact aB (by simp[l4])
      have m4:¬(64:Int)<f.held.length:=by omega
      first|exact aA (by simp[l1,l2,l3,l4,m4]) rfl|exact aB (by simp[l1,l2,l3,l4,m4])
attribute [simp] Tryz.ntmps81 Tryz.results81
theorem Ab (f:G.Frame)(h:aV f.type 3=true):Ct Tryz.prog 81 [st (bU f)] [] [] (bool (!mJ f)) []:=by
 refine Ct.B Tryz.func81 ?_;simp;obtain⟨ty,ep,kd,nn,tu,aL,gone,er,hv,hd⟩:=f;have hc:ty=0\/ty=1\/ty=2\/ty=3:=by have:=IE.1 h;simp only at this;omega
 clear h;rcases hc with rfl|rfl|rfl|rfl
 all_goals
  simp
 repeat' first
  | (refine aM (λh=>?_) (λh=>?_)<;>simp only[h]<;>simp[h])
  | (refine aE (λh=>?_) (λh=>?_)<;>simp only[h]<;>simp[h])
  | (refine⟨(show gH _ _ from by decide+kernel),?_⟩)
  |fail
 all_goals(exact aA (by simp_all[mJ,lQ,cV,CD,Frame.mk.injEq]) rfl)
attribute [simp] Tryz.ntmps82 Tryz.results82
theorem D2 (l:List Key)(hl:l.length<=9223372036854775807):Ct Tryz.prog 82 [aD (l.map aK)] [] [] (bool (l.all eA)) []:=by
 refine Ct.B Tryz.func82 ?_;simp;refine aJ.inv mixed rfl (ι:={k:Nat//k<=(l).length/\(l.take k).all eA=true}) (λk=>[(0,aD (l.map aK)),(3,int k.1)]) (λk=>[]) 192 (λk=>(l).length-k.1) ⟨0,by omega,by simp⟩ [] (by constructor<;>simp) ?_;rintro⟨k,hk1,hi⟩ B hB;refine CI.n ?_;simp;refine aE (λh=>?_) (λh=>?_)
 ·have hk:k<(l).length:=by simpa using h
  obtain⟨x,hx,hr,hm,ht,hd,hw⟩:=bB hk;simp only[h];simp[hr,hw];have e1:eA x=false->l.all eA=false:=λe=>by
   rw[gY];exact⟨x,hm,by simp[e]⟩
  refine CI.p (sA x.kind 3) ?_;simp;cases h1:aV x.kind 3 with
  |false=>
   have e2:=e1 (by simp[eA,h1]);simp;first|exact aA (by simp[e2]) rfl|exact aB (by simp[e2])
  |true=>
   simp[hr,hk,hx];refine CI.p (tA x.name) ?_;simp;cases h2:cP x.name with
   |false=>
    have e2:=e1 (by simp[eA,h2]);simp;first|exact aA (by simp[e2]) rfl|exact aB (by simp[e2])
   |true=>
    have e3:eA x=true:=by simp[eA,h1,h2]
    simp;refine hB _ ⟨k+1,by omega,by simp[ht,hi,e3]⟩ [] ?_ (by simp;omega);constructor<;>simp[hw,ht,e3]
 ·obtain rfl:k=(l).length:=by simp at h;omega
  simp only[h];simp;rw[bK]at hi;first|exact aA (by simp[hi]) rfl|exact aB (by simp[hi])
@[simp] def z6 (m:G.Mark):Key:=m.k
attribute [simp] Tryz.ntmps35 Tryz.results35
theorem y7 (f:G.Frame)(hf:eD f):Ct Tryz.prog 35 [st (bU f)] [] [] (int (dE f)) []:=by
 refine Ct.B Tryz.func35 ?_;simp;have hl:=hf.aI;have ha:=hf.aL.1;have hg:=hf.gone;have hd_:=hf.held;refine CI.p (sA f.type 3) ?_;simp;cases h1:aV f.type 3 with
 |false=>
  simp;first|exact aA (by simp[dE,h1]) rfl|exact aB (by simp[dE,h1])
 |true=>
  simp;refine CI.p (sA f.kind 3) ?_;simp;cases h2:aV f.kind 3 with
  |false=>
   simp;first|exact aA (by simp[dE,h2]) rfl|exact aB (by simp[dE,h2])
  |true=>
   simp;refine CI.p (Dx f hf) ?_;simp;cases h3:fH f with
   |false=>
    simp;first|exact aA (by simp[dE,h1,h2,h3]) rfl|exact aB (by simp[dE,h1,h2,h3])
   |true=>
    simp;refine CI.p (Ab f h1) ?_;simp;cases h4:mJ f with
    |false=>
     simp;first|exact aA (by simp[dE,h1,h2,h3,h4]) rfl|exact aB (by simp[dE,h1,h2,h3,h4])
    |true=>
     simp;have l3:=(qK h3).2.2.1;refine aJ.gK 3 2 86 rfl ?_;refine aJ.V (f.aI) (λk=>[(1,.ptr 64 0),(3,.own 1216),(4,int k.1)]) (λk=>[(64,.cells ((bU f).map .d) 31),(1216,.grow 2 ((f.aI.take k.1).map λm=>aK (z6 m)) 86)]) 1217 (λk hk1 B hB=>?_);simp;refine aE (λh=>?_) (λh=>?_)
     ·have hk:k<(f.aI).length:=by simpa using h
      obtain⟨x,hx,hr,hm,ht,hd,hw⟩:=bB hk;simp only[h];simp[hr,hw];refine⟨⟨λe he=>by obtain⟨x,_,rfl⟩:=dV.1 (rL he);rfl,by omega⟩,?_⟩;exact hB hk (by constructor<;>simp[hw,ht])
     ·obtain rfl:k=(f.aI).length:=by simp at h;omega
      simp only[h];simp;clear hB;refine CI.p (D2 f.gone hg) ?_;simp;have en:fD f=(f.gone.all eA&&f.held.all eA&&f.aI.all (eA∘z6)):=by simp[fD,Function.comp_def]
      cases g1:f.gone.all eA with
      |false=>
       have e:fD f=false:=by simp[en,g1]
       simp;first|exact aA (by simp[dE,h1,h2,h3,h4,e]) rfl|exact aB (by simp[dE,h1,h2,h3,h4,e])
      |true=>
       simp;refine CI.g [1216] [] (D2 (f.aI.map z6) (by simp;omega)) ?_;simp;cases g2:f.aI.all (eA∘z6)with
       |false=>
        have e:fD f=false:=by rw[en,g1,g2];simp
        simp;first|exact aA (by simp[dE,h1,h2,h3,h4,e]) rfl|exact aB (by simp[dE,h1,h2,h3,h4,e])
       |true=>
        simp;refine CI.p (D2 f.held hd_) ?_;simp;cases g3:f.held.all eA with
        |false=>
         have e:fD f=false:=by simp[en,g1,g3]
         simp;first|exact aA (by simp[dE,h1,h2,h3,h4,e]) rfl|exact aB (by simp[dE,h1,h2,h3,h4,e])
        |true=>
         have e:fD f=true:=by rw[en,g1,g2,g3];rfl
         have fe:dE f=if¬jD f.aL=0 then jD f.aL else if jV f=false then 2 else 0:=by simp[dE,h1,h2,h3,h4,e]
         rw[fe];clear fe e en;simp;refine aJ.inv mixed rfl (ι:={k:Nat//k<=(f.aL).length/\(f.aL.take k).all (λr=>decide (cU r=0))=true}) (λk=>[(1,.ptr 64 0),(5,int k.1)]) (λk=>[(64,.cells ((bU f).map .d) 31)]) 2561 (λk=>(f.aL).length-k.1) ⟨0,by omega,by simp⟩ [] (by constructor<;>simp) ?_;rintro⟨k,hk1,hi⟩ B hB;refine CI.n ?_;simp;refine aE (λh=>?_) (λh=>?_)
         ·have hk:k<(f.aL).length:=by simpa using h
          obtain⟨x,hx,hr,hm,ht,hd,hw⟩:=bB hk;simp only[h];simp[hr,hw];refine CI.p (HV x) ?_;simp;by_cases h6:cU x=0
          ·simp[h6];refine hB _ ⟨k+1,by omega,by simp[ht,hi,h6]⟩ [] ?_ (by simp;omega);constructor<;>simp[hw,ht,h6]
          ·have e:=A9 hi hr h6;simp[h6];first|exact aA (by simp[e,h6]) rfl|exact aB (by simp[e,h6])
         ·obtain rfl:k=(f.aL).length:=by simp at h;omega
          simp only[h];simp;rw[bK]at hi;have e0:=FH hi;rw[e0];clear hB;refine aJ.inv mixed rfl (ι:={k:Nat//k<=(f.aL).length/\(f.aL.take k).all (λr=>decide (r.kind=f.kind))=true}) (λk=>[(1,.ptr 64 0),(7,int k.1)]) (λk=>[(64,.cells ((bU f).map .d) 31)]) 2945 (λk=>(f.aL).length-k.1) ⟨0,by omega,by simp⟩ [] (by constructor<;>simp) ?_;rintro⟨k,hk1,hi⟩ B hB;refine CI.n ?_;simp;refine aE (λh=>?_) (λh=>?_)
          ·have hk:k<(f.aL).length:=by simpa using h
           obtain⟨x,hx,hr,hm,ht,hd,hw⟩:=bB hk;simp only[h];simp[hr,hw];refine⟨by decide+kernel,?_⟩;by_cases h6:x.kind=f.kind
           ·simp[h6];refine hB _ ⟨k+1,by omega,by simp[ht,hi,h6]⟩ [] ?_ (by simp;omega);constructor<;>simp[hw,ht,h6]
           ·have e:jV f=false:=by
             unfold jV;have:(f.aL.all λr=>decide (r.kind=f.kind))=false:=by
              rw[gY];exact⟨x,hm,by simp[h6]⟩
             rw[this];rfl
            simp[h6];first|exact aA (by simp[e]) rfl|exact aB (by simp[e])
          ·obtain rfl:k=(f.aL).length:=by simp at h;omega
           simp only[h];simp;rw[bK]at hi;have e1:=hi;clear hB;refine aJ.inv mixed rfl (ι:={k:Nat//k<=(f.gone).length/\(f.gone.take k).all (λr=>decide (r.kind=f.kind))=true}) (λk=>[(1,.ptr 64 0),(8,int k.1)]) (λk=>[(64,.cells ((bU f).map .d) 31)]) 3329 (λk=>(f.gone).length-k.1) ⟨0,by omega,by simp⟩ [] (by constructor<;>simp) ?_;rintro⟨k,hk1,hi⟩ B hB;refine CI.n ?_;simp;refine aE (λh=>?_) (λh=>?_)
           ·have hk:k<(f.gone).length:=by simpa using h
            obtain⟨x,hx,hr,hm,ht,hd,hw⟩:=bB hk;simp only[h];simp[hr,hw];refine⟨by decide+kernel,?_⟩;by_cases h6:x.kind=f.kind
            ·simp[h6];refine hB _ ⟨k+1,by omega,by simp[ht,hi,h6]⟩ [] ?_ (by simp;omega);constructor<;>simp[hw,ht,h6]
            ·have e:jV f=false:=by
              unfold jV;have:(f.gone.all λr=>decide (r.kind=f.kind))=false:=by
               rw[gY];exact⟨x,hm,by simp[h6]⟩
              rw[this];simp
             simp[h6];first|exact aA (by simp[e]) rfl|exact aB (by simp[e])
           ·obtain rfl:k=(f.gone).length:=by simp at h;omega
            simp only[h];simp;rw[bK]at hi;have e:jV f=true:=by unfold jV;rw[e1,hi];rfl
            first|exact aA (by simp[e]) rfl|exact aB (by simp[e])
attribute [simp] Tryz.ntmps37 Tryz.results37
theorem LO (l:List aC)(hl:l.length<=1000000):Ct Tryz.prog 37 [aD (l.map aF)] [] [] (aD ((l.map aC.key).map aK)) []:=by
 refine Ct.B Tryz.func37 ?_;simp;refine aJ.gK 3 2 86 rfl ?_;refine aJ.V (l) (λk=>[(0,aD (l.map aF)),(3,.own 64),(4,int k.1)]) (λk=>[(64,.grow 2 (((l.take k.1).map aC.key).map aK) 86)]) 65 (λk hk1 B hB=>?_);simp;refine aE (λh=>?_) (λh=>?_)
 ·have hk:k<(l).length:=by simpa using h
  obtain⟨x,hx,hr,hm,ht,hd,hw⟩:=bB hk;simp only[h];simp[hr,hw];refine CI.p (l5 x) ?_ (ha:=by simp[hr]);simp[hr];refine⟨by omega,?_⟩;exact hB hk (by constructor<;>simp[hw,ht])
 ·obtain rfl:k=(l).length:=by simp at h;omega
  simp only[h];simp;first|exact aA (by simp) rfl|exact aB (by simp)
attribute [simp] Tryz.ntmps44 Tryz.results44
theorem DW (s:aZ)(hl:s.aU.length<=1000000):Ct Tryz.prog 44 [st (dI s)] [] [] (.bC [int ((cO s).aU.length-1),aD ((cM (cO s)).map aF)]) []:=by
 refine Ct.B Tryz.func44 ?_;simp;refine CI.p (G6 s) ?_;simp;have h1:=CY s;have h2:=CZ hl;have h0:0<(cO s).aU.length:=CD.2 h1;generalize cO s=q at h0 h1 h2⊢;obtain⟨m,hm⟩:∃m:Nat,q.aU.length=m+1:=⟨q.aU.length-1,by omega⟩;have hx:((q.aU.length:Int)-1)=(m:Int):=by omega
 have hr:q.aU[m]? =some (cM q):=by
  unfold cM;rw[yH,List.getLast?_eq_getElem?,hm];simp[show m<q.aU.length by omega]
 have hm2:m<q.aU.length:=by omega
 have hw:IntKind.wrap .i64 (m:Int)=m:=wrap_i64 (by omega) (by omega);have hg:q.aU[m]=cM q:=(cJ.1 hr).2;simp[hx,hw,hr,hm2];refine⟨by decide+kernel,?_⟩;first|exact aA (by simp[hg]) rfl|exact aB (by simp[hg])
attribute [simp] Tryz.ntmps98 Tryz.results98
theorem tW (l:List aC)(n:Int)(keys:List Key)(all:Bool)(hl:l.length<=1000000)(hks:keys.length<=9223372036854775807):Ct Tryz.prog 98 [aD (l.map aF),int n,aD (keys.map aK),bool all] [] [] (aD ((fS l n keys all).map aF)) []:=by
 refine Ct.B Tryz.func98 ?_;simp;refine aJ.gK 9 7 82 rfl ?_;refine aJ.V (l) (λk=>[(0,aD (l.map aF)),(1,int n),(2,aD (keys.map aK)),(3,bool all),(9,.own 64),(10,int k.1)]) (λk=>[(64,.grow 7 ((fS (l.take k.1) n keys all).map aF) 82)]) 65 (λk hk1 B hB=>?_) (h0:=by constructor<;>simp[OZ]);simp[OZ];refine aE (λh=>?_) (λh=>?_)
 ·have hk:k<(l).length:=by simpa using h
  obtain⟨x,hx,hr,hm,ht,hd,hw⟩:=bB hk;simp only[h];simp[hr,hw];have hlen:(fS (l.take k) n keys all).length<=1000000:=cD (eE _ _) (by simp;omega);have ta:=Gm (l.take k) x n keys all;by_cases h1:x.kind=n
  ·obtain rfl:=h1;simp[hr,hk,hx,h];cases all with
   |true=>
    simp[hr,hk,hx,h];refine⟨by omega,?_⟩;exact hB hk (by constructor<;>simp[hw,ht,ta])
   |false=>
    simp[hr,hk,hx,h];refine CI.p (l5 x) ?_ (ha:=by simp[hr]);simp[hr];refine CI.p (A0 keys x.key hks) ?_;simp;by_cases h2:x.key∈keys
    ·simp[h2,hr,hk,hx,h];refine⟨by omega,?_⟩;exact hB hk (by constructor<;>simp[hw,ht,ta,h2])
    ·simp[h2];exact hB hk (by constructor<;>simp[hw,ht,ta,h2])
  ·simp[h1];exact hB hk (by constructor<;>simp[hw,ht,ta,h1])
 ·obtain rfl:k=(l).length:=by simp at h;omega
  simp only[h];simp;first|exact aA (by simp) rfl|exact aB (by simp)
attribute [simp] Tryz.ntmps99 Tryz.results99
theorem A1 (hv:List aC)(l:List Key)(n:Int)(held:List Key)(hhv:hv.length<=1000000)(hl:l.length<=1000000)(hks:held.length<=9223372036854775807):Ct Tryz.prog 99 [aD (hv.map aF),aD (l.map aK),int n,aD (held.map aK)] [] [] (aD ((kG hv l n held).map aK)) []:=by
 refine Ct.B Tryz.func99 ?_;simp;refine aJ.gK 9 2 86 rfl ?_;refine aJ.V (l) (λk=>[(0,aD (hv.map aF)),(1,aD (l.map aK)),(2,int n),(3,aD (held.map aK)),(9,.own 64),(10,int k.1)]) (λk=>[(64,.grow 2 ((kG hv (l.take k.1) n held).map aK) 86)]) 65 (λk hk1 B hB=>?_) (h0:=by constructor<;>simp[ME]);simp[ME];refine aE (λh=>?_) (λh=>?_)
 ·have hk:k<(l).length:=by simpa using h
  obtain⟨x,hx,hr,hm,ht,hd,hw⟩:=bB hk;simp only[h];simp[hr,hw];have hlen:(kG hv (l.take k) n held).length<=1000000:=cD (eE _ _) (by simp;omega);have ta:=ZY hv (l.take k) x n held;have key:∀b:Bool,nK hv n held x=b->True:=λ_ _=>trivial;by_cases h0:n=0
  ·obtain rfl:=h0;have e:nK hv 0 held x=true:=by simp[nK]
   simp[hr,hk,hx,h];by_cases h1:x.kind=0
   ·simp[h1,hr,hk,hx,h];refine⟨by omega,?_⟩;exact hB hk (by constructor<;>simp[hw,ht,ta,h1,e])
   ·simp[h1];exact hB hk (by constructor<;>simp[hw,ht,ta,h1])
  ·simp[h0,hr,hk,hx,h];refine CI.p (A0 held x hks) ?_;simp;by_cases h2:x∈held
   ·have e:nK hv n held x=false:=by simp[nK,h0,h2]
    simp[h2,hr,hk,hx,h];by_cases h1:x.kind=n
    ·simp[h1];exact hB hk (by constructor<;>simp[hw,ht,ta,h1,e])
    ·simp[h1];exact hB hk (by constructor<;>simp[hw,ht,ta,h1])
   ·simp[h2,hr,hk,hx,h];refine CI.p (TX hv x hhv) ?_;simp;have e3:(qO hv x).length=0↔∀r∈hv,¬x∈bJ r:=by simp[qO]
    by_cases h3:∀r∈hv,¬x∈bJ r
    ·have e:nK hv n held x=true:=by unfold nK;rw[uD (e3.2 h3)];simp[h2]
     simp[eq_true h3,hr,hk,hx,h];by_cases h1:x.kind=n
     ·obtain rfl:=h1;simp[hr,hk,hx,h];refine⟨by omega,?_⟩;exact hB hk (by constructor<;>simp[hw,ht,ta,e])
     ·simp[h1];exact hB hk (by constructor<;>simp[hw,ht,ta,h1])
    ·have e:nK hv n held x=false:=by unfold nK;rw[decide_eq_false (λq=>h3 (e3.1 q))];simp[h0]
     simp[eq_false h3,hr,hk,hx,h];by_cases h1:x.kind=n
     ·simp[h1];exact hB hk (by constructor<;>simp[hw,ht,ta,h1,e])
     ·simp[h1];exact hB hk (by constructor<;>simp[hw,ht,ta,h1])
 ·obtain rfl:k=(l).length:=by simp at h;omega
  simp only[h];simp;first|exact aA (by simp) rfl|exact aB (by simp)
theorem tX {A:List aC}(h:A.length<=1000000)(n:Int)(R:List Key)(b:Bool):(fS A n R b).length<=1000000:=cD (eE _ _) h
theorem A2 {A:List Key}(hv:List aC)(h:A.length<=1000000)(n:Int)(R:List Key):(kG hv A n R).length<=1000000:=cD (eE _ _) h
attribute [simp] Tryz.ntmps45 Tryz.results45
theorem KF (hv want:List aC)(held:List Key)(hh:gG hv)(hl:hv.length<=1000000)(hw:want.length<=100)(hd:held.length<=1000000):Ct Tryz.prog 45 [aD (hv.map aF),aD (want.map aF),aD (held.map aK)] [] [] (.bC [st (rT ((lZ hv want held).getD ⟨0,[],[]⟩)),bool (lZ hv want held).isSome]) []:=by
 refine Ct.B Tryz.func45 ?_;simp;refine CI.p (Cd hv want hh hl (by omega)) ?_;simp;refine CI.p (T5 want hw) ?_;simp;rw[IY,W8];have lr:(jA want).length<=100:=cD (eE _ _) hw;have hk5:=LO (jA want) (by omega);have lR:((jA want).map aC.key).length<=100:=by simpa using lr
 generalize(jA want).map aC.key=R at hk5 lR⊢;refine CI.p hk5 ?_;simp;have lA:(dR hv want).length<=1000000:=cD (eE _ _) (by omega);have lG:(eQ hv want).length<=1000000:=cD (eE _ _) (by simp;omega);generalize dR hv want=A at lA⊢;generalize eQ hv want=Gn at lG⊢;refine aJ.rounds 4 ?_;refine gU.s ?_;simp;refine CI.p (tW A 3 R false (by omega) (by omega)) ?_;simp;have lz:=tX lA 3 R false;cases hz:fS A 3 R false with
 |cons z zs=>
  have p:(0:Int)<zs.length+1:=by omega
  rw[pN (by simp)];simp[p];first|exact aA (by simp) rfl|exact aB (by simp)
 |nil=>
  rw[pO (by simp)];simp;refine gU.s ?_;simp;refine CI.p (tW A 2 R false (by omega) (by omega)) ?_;simp;have lz:=tX lA 2 R false;cases hz:fS A 2 R false with
  |cons z zs=>
   have p:(0:Int)<zs.length+1:=by omega
   rw[pN (by simp)];simp[p];first|exact aA (by simp) rfl|exact aB (by simp)
  |nil=>
   rw[pO (by simp)];simp;refine gU.s ?_;simp;refine CI.p (tW A 1 R false (by omega) (by omega)) ?_;simp;have lz:=tX lA 1 R false;cases hz:fS A 1 R false with
   |cons z zs=>
    have p:(0:Int)<zs.length+1:=by omega
    rw[pN (by simp)];simp[p];first|exact aA (by simp) rfl|exact aB (by simp)
   |nil=>
    rw[pO (by simp)];simp;refine gU.s ?_;simp;refine CI.p (tW A 0 [] true (by omega) (by simp)) ?_;simp;refine CI.p (A1 hv Gn 0 held hl lG (by omega)) ?_;simp;have l1:=tX lA 0 [] true;have l2:=A2 hv lG 0 held;generalize fS A 0 [] true=Z1 at l1⊢;generalize kG hv Gn 0 held=Z2 at l2⊢;have wz:IntKind.wrap .i64 ((Z1.length:Int)+Z2.length)=Z1.length+Z2.length:=wrap_i64 (by omega) (by omega);by_cases hz:Z1.length+Z2.length=0
    rotate_left
    ·have p:(0:Int)<(Z1.length:Int)+Z2.length:=by omega
     rw[pN (by simp;omega)];simp[wz,p];first|exact aA (by simp) rfl|exact aB (by simp)
    obtain⟨rfl,rfl⟩:Z1=[]/\Z2=[]:=⟨gX (by omega),gX (by omega)⟩;rw[pO (by simp)];simp[wz];refine aJ.rounds 4 ?_;refine gU.s ?_;simp;refine CI.p (tW A 3 [] true (by omega) (by simp)) ?_;simp;have lz:=tX lA 3 [] true;cases hz:fS A 3 [] true with
    |cons z zs=>
     have p:(0:Int)<zs.length+1:=by omega
     rw[pN (by simp)];simp[p];first|exact aA (by simp) rfl|exact aB (by simp)
    |nil=>
     rw[pO (by simp)];simp;refine gU.s ?_;simp;refine CI.p (tW A 2 [] true (by omega) (by simp)) ?_;simp;have lz:=tX lA 2 [] true;cases hz:fS A 2 [] true with
     |cons z zs=>
      have p:(0:Int)<zs.length+1:=by omega
      rw[pN (by simp)];simp[p];first|exact aA (by simp) rfl|exact aB (by simp)
     |nil=>
      rw[pO (by simp)];simp;refine gU.s ?_;simp;refine CI.p (tW A 1 [] true (by omega) (by simp)) ?_;simp;have lz:=tX lA 1 [] true;cases hz:fS A 1 [] true with
      |cons z zs=>
       have p:(0:Int)<zs.length+1:=by omega
       rw[pN (by simp)];simp[p];first|exact aA (by simp) rfl|exact aB (by simp)
      |nil=>
       rw[pO (by simp)];simp;refine gU.s ?_;simp;refine aJ.rounds 4 ?_;refine gU.s ?_;simp;refine CI.p (A1 hv Gn 1 held hl lG (by omega)) ?_;simp;have lz:=A2 hv lG 1 held;cases hz:kG hv Gn 1 held with
       |cons z zs=>
        have p:(0:Int)<zs.length+1:=by omega
        rw[pN (by simp)];simp[p];first|exact aA (by simp) rfl|exact aB (by simp)
       |nil=>
        rw[pO (by simp)];simp;refine gU.s ?_;simp;refine CI.p (A1 hv Gn 2 held hl lG (by omega)) ?_;simp;have lz:=A2 hv lG 2 held;cases hz:kG hv Gn 2 held with
        |cons z zs=>
         have p:(0:Int)<zs.length+1:=by omega
         rw[pN (by simp)];simp[p];first|exact aA (by simp) rfl|exact aB (by simp)
        |nil=>
         rw[pO (by simp)];simp;refine gU.s ?_;simp;refine CI.p (A1 hv Gn 3 held hl lG (by omega)) ?_;simp;have lz:=A2 hv lG 3 held;cases hz:kG hv Gn 3 held with
         |cons z zs=>
          have p:(0:Int)<zs.length+1:=by omega
          rw[pN (by simp)];simp[p];first|exact aA (by simp) rfl|exact aB (by simp)
         |nil=>
          rw[pO (by simp)];simp;refine gU.s ?_;simp;first|exact aA (by simp) rfl|exact aB (by simp)
attribute [simp] Tryz.ntmps25 Tryz.results25
theorem KH (e m:Int):Ct Tryz.prog 25 [int e,int m] [] [] (st (dB (hX e m))) []:=by
 refine Ct.B Tryz.func25 ?_;simp;refine CI.p (HC m) ?_;simp;have h:=NH e;first|exact aA (by simp[hX,h,j7,cV]) rfl|exact aB (by simp[hX,h,j7,cV])
attribute [simp] Tryz.ntmps57 Tryz.results57
theorem VE (s:bM)(hs:eD s.v.push):Ct Tryz.prog 57 [st (dB s)] [] [] (bool (dH s)) []:=by
 refine Ct.B Tryz.func57 ?_;simp;cases h1:s.jX with
 |false=>
  simp[h1];first|exact aA (by simp[dH,h1]) rfl|exact aB (by simp[dH,h1])
 |true=>
  simp[h1];refine CI.p (y7 s.v.push hs) ?_;simp;by_cases h2:dE s.v.push=0
  rotate_left
  ·simp[h2];first|exact aA (by simp[dH,h2]) rfl|exact aB (by simp[dH,h2])
  simp[h2];by_cases h3:s.v.push.type=1
  rotate_left
  ·simp[h3];first|exact aA (by simp[dH,h3]) rfl|exact aB (by simp[dH,h3])
  simp[h3];by_cases h4:s.v.push.cA=s.cA
  rotate_left
  ·simp[h4];first|exact aA (by simp[dH,h4]) rfl|exact aB (by simp[dH,h4])
  simp[h4];rcases I9 h2 with hk|hk|hk|hk
  all_goals
   simp[hk]
  all_goals
   refine aM (λh5=>?_) (λh5=>?_)<;>simp only[h5]<;>simp[hk]
  all_goals
   first|exact aA (by simp[dH,h1,h2,h3,h4,hk,h5,Nonce.Ou.fJ,Nonce.Ou.last]) rfl|exact aB (by simp[dH,h1,h2,h3,h4,hk,h5,Nonce.Ou.fJ,Nonce.Ou.last])
attribute [simp] Tryz.ntmps19 Tryz.results19
theorem HU (s:bM)(hd:s.v.held.length<=9223372036854775807)(hs:eD s.v.push)(hl:s.v.aI.length<=1000000):Ct Tryz.prog 19 [st (dB s)] [] [] (bool (cF s)) []:=by
 refine Ct.B Tryz.func19 ?_;simp;by_cases h1:s.cA<0
 ·have e:¬0<=s.cA:=by omega
  simp[h1];first|exact aA (by simp[cF,eL,aV,e]) rfl|exact aB (by simp[cF,eL,aV,e])
 have e1:0<=s.cA:=by omega
 by_cases h2:2147483647<s.cA
 ·have e:¬s.cA<=2147483647:=by omega
  simp[h1,h2];first|exact aA (by simp[cF,eL,aV,e]) rfl|exact aB (by simp[cF,eL,aV,e])
 have e2:s.cA<=2147483647:=by omega
 by_cases h3:s.at_<0
 ·have e:¬0<=s.at_:=by omega
  simp[h1,h2,h3];first|exact aA (by simp[cF,eL,aV,e]) rfl|exact aB (by simp[cF,eL,aV,e])
 have e3:0<=s.at_:=by omega
 by_cases h4:s.stuck<0
 ·have e:¬0<=s.stuck:=by omega
  simp[h1,h2,h3,h4];first|exact aA (by simp[cF,eL,aV,e]) rfl|exact aB (by simp[cF,eL,aV,e])
 have e4:0<=s.stuck:=by omega
 by_cases h5:15<s.stuck
 ·have e:¬s.stuck<=15:=by omega
  simp[h1,h2,h3,h4,h5];first|exact aA (by simp[cF,eL,aV,e]) rfl|exact aB (by simp[cF,eL,aV,e])
 have e5:s.stuck<=15:=by omega
 simp[h1,h2,h3,h4,h5];refine CI.p (MB s.out) ?_;simp;cases h6:Nonce.fX s.out with
 |false=>
  simp;first|exact aA (by simp[cF,h6]) rfl|exact aB (by simp[cF,h6])
 |true=>
  simp;refine CI.p (XT s.v.aI hl) ?_;simp;refine CI.p (y7 (gM s.v) (L5 s.v (by omega))) ?_ (ha:=by simp[gM]);simp[gM];by_cases h7:dE (gM s.v)=0
  rotate_left
  ·have h7':=h7;unfold gM at h7';simp[h7'];first|exact aA (by simp[cF,lJ,h7]) rfl|exact aB (by simp[cF,lJ,h7])
  have h7':=h7;unfold gM at h7';simp[h7'];refine CI.p (y7 (jE s.v) (NL hd)) ?_ (ha:=by simp[jE]);simp[jE];by_cases h8:dE (jE s.v)=0
  rotate_left
  ·have h8':=h8;unfold jE at h8';simp[h8'];first|exact aA (by simp[cF,lJ,h8]) rfl|exact aB (by simp[cF,lJ,h8])
  have h8':=h8;unfold jE at h8';simp[h8'];cases h9:s.v.open_ with
  |false=>
   simp[h9];first|exact aA (by simp[cF,eL,aV,lJ,e1,e2,e3,e4,e5,h6,h7,h8,h9]) rfl|exact aB (by simp[cF,eL,aV,lJ,e1,e2,e3,e4,e5,h6,h7,h8,h9])
  |true=>
   simp[h9];refine CI.p (VE s hs) ?_ (ha:=by simp[h9]);simp[h9];first|exact aA (by simp[cF,eL,aV,lJ,e1,e2,e3,e4,e5,h6,h7,h8,h9]) rfl|exact aB (by simp[cF,eL,aV,lJ,e1,e2,e3,e4,e5,h6,h7,h8,h9])
attribute [simp] Tryz.ntmps34 Tryz.results34
theorem y5 (s:bM)(hd:s.v.held.length<=9223372036854775807)(hs:eD s.v.push)(hl:s.v.aI.length<=1000000):Ct Tryz.prog 34 [st (dB s)] [] [] (st (dB (cW s))) []:=by
 refine Ct.B Tryz.func34 ?_;simp;refine CI.p (HU s hd hs hl) ?_;simp;cases h1:cF s with
 |false=>
  simp;refine CI.p (KH s.cA s.out.m) ?_;simp;first|exact aA (by simp[cW,h1]) rfl|exact aB (by simp[cW,h1])
 |true=>
  simp;first|exact aA (by simp[cW,h1]) rfl|exact aB (by simp[cW,h1])
attribute [simp] Tryz.ntmps38 Tryz.results38
theorem Gq (s:bM)(p:aZ)(f:G.Frame)(hl:s.v.open_=true->s.v.aI.length+s.v.push.aL.length<=1000000/\s.v.push.gone.length<=9223372036854775807/\∀r∈s.v.push.aL,nB r.name)(hp:p.aU.length<=1000000):Ct Tryz.prog 38 [st (dB s),st (dI p),st (bU f)] [] [] (.bC [st (dB (fT s p f).1),int (fT s p f).2]) []:=by
 refine Ct.B Tryz.func38 ?_;simp;refine CI.p (Cc s.out f.kind f.eY) ?_;simp;refine aE (λh1=>?_) (λh1=>?_)<;>simp only[h1]<;>simp<;>(try simp only[nT,nF,dT,dF]at h1)
 ·first|exact aA (by simp[fT,h1]) rfl|exact aB (by simp[fT,h1])
 refine aE (λh2=>?_) (λh2=>?_)<;>simp only[h2]<;>simp
 ·have h2':s.v.open_=false:=by simpa using h2
  first|exact aA (by simp[fT,h1,h2']) rfl|exact aB (by simp[fT,h1,h2'])
 have h2':s.v.open_=true:=by simpa using h2
 refine CI.p (Fx s.v f (hl h2').1 (hl h2').2.1 (hl h2').2.2) ?_;simp;refine aE (λh3=>?_) (λh3=>?_)<;>simp only[h3]<;>simp
 ·first|exact aA (by simp[fT,h1,h2',h3]) rfl|exact aB (by simp[fT,h1,h2',h3])
 refine aE (λh4=>?_) (λh4=>?_)<;>simp only[h4]<;>simp<;>(try simp only[nT,nF,dT,dF]at h4)
 ·have h4':64<(dG s.v f).aI.length:=by omega
  first|exact aA (by simp[fT,h1,h2',h3,h4']) rfl|exact aB (by simp[fT,h1,h2',h3,h4'])
 have h4':¬64<(dG s.v f).aI.length:=by omega
 refine CI.p (DW p hp) ?_;simp;first|exact aA (by simp[fT,h1,h2',h3,h4',lY]) rfl|exact aB (by simp[fT,h1,h2',h3,h4',lY])
theorem UK {f:G.Frame}(h:dE f=0):∀r∈f.aL,nB r.name:=λr hr=>by
 have F:=n4.1 h;have:=F.aL r hr;have:=zY (sX this).2.1;unfold G.nB;omega
theorem VF {s:bM}(S:GB s)(ho:s.v.open_=true):dE s.v.push=0:=by
 have hw:=S.waits ho;simp only[dH,bN,dO]at hw;exact hw.1.1.1.1.2
theorem ZJ {f:G.Frame}(h:dE f=0):∀m∈f.aI,nB m.k.name:=λm hm=>by
 have F:=n4.1 h;have:=F.named;simp only[fD,bN,cS]at this;have:=this.2 m hm;simp only[eA,bN]at this;have:=zY this.2;unfold G.nB;omega
attribute [simp] Tryz.ntmps11 Tryz.results11
theorem ZO (s:bM)(p:aZ)(f:G.Frame)(hd:s.v.held.length<=9223372036854775807)(hs:eD s.v.push)(hl:s.v.aI.length<=1000000)(hf:eD f)(hp:iS p)(hpl:p.aU.length<=1000000):Ct Tryz.prog 11 [st (dB s),st (dI p),st (bU f)] [] [] (.bC [st (dB (handle s p f).1),int (handle s p f).2]) []:=by
 refine Ct.B Tryz.func11 ?_;simp;refine CI.p (y5 s hd hs hl) ?_;simp;have hq0:=sV s;have hh:handle s p f=eK (cW s) p f:=rfl;rw[hh];clear hh;generalize cW s=q at hq0⊢;have S:=pK.1 hq0;refine CI.p (y7 f hf) ?_;simp;by_cases h1:dE f=0
 rotate_left
 ·simp[h1];first|exact aA (by simp[eK,h1]) rfl|exact aB (by simp[eK,h1])
 simp[h1];by_cases h2:f.cA=q.cA
 rotate_left
 ·simp[h2];first|exact aA (by simp[eK,h1,h2]) rfl|exact aB (by simp[eK,h1,h2])
 simp[h2];have F:=n4.1 h1;have L:=qK F.small;have hS:=S.hl;rcases I7 h1 with h3|h3|h3|h3
 ·simp[h3];cases h4:q.jX with
  |true=>
   simp[h4];first|exact aA (by simp[eK,h1,h2,h3,kS,h4]) rfl|exact aB (by simp[eK,h1,h2,h3,kS,h4])
  |false=>
   simp[h4];refine CI.p (YJ p f.aI hp (by omega) (ZJ h1)) ?_;simp;have hk:=w8 p f.aI;refine aE (λh5=>?_) (λh5=>?_)<;>simp only[h5]<;>simp<;>(try simp only[nT,nF,dT,dF]at h5)
   ·refine CI.p (LO (jU p f.aI) (by omega)) ?_;simp;first|exact aA (by simp[eK,h1,h2,h3,kS,nH,h4,h5]) rfl|exact aB (by simp[eK,h1,h2,h3,kS,nH,h4,h5])
   ·first|exact aA (by simp[eK,h1,h2,h3,kS,nH,h4,h5]) rfl|exact aB (by simp[eK,h1,h2,h3,kS,nH,h4,h5])
 ·simp[h3];first|exact aA (by simp[eK,h1,h2,h3]) rfl|exact aB (by simp[eK,h1,h2,h3])
 ·simp[h3];have ob:=JV S;refine CI.p (Gq q p f (λh=>⟨(ob h).1,(ob h).2,UK (VF S h)⟩) hpl) ?_ (ha:=by simp[h3,h2]);simp[h3,h2];first|exact aA (by simp[eK,h1,h2,h3]) rfl|exact aB (by simp[eK,h1,h2,h3])
 ·simp[h3];refine CI.p (NJ q.v f.cK f.held) ?_;simp;first|exact aA (by simp[eK,h1,h2,h3,pZ]) rfl|exact aB (by simp[eK,h1,h2,h3,pZ])
attribute [simp] Tryz.ntmps13 Tryz.results13
theorem UL (s:bM)(p:aZ)(hs:gO s)(hl:s.v.aI.length<=1000000)(hpl:p.aU.length<=1000000)(hw:(bX p).length<=100):Ct Tryz.prog 13 [st (dB s),st (dI p)] [] [] (.bC [st (dB (nD s p).1),aD ((nD s p).2.1.map bU),int (nD s p).2.2]) []:=by
 refine Ct.B Tryz.func13 ?_;simp;refine CI.p (y5 s hs.v.held hs.v.push hl) ?_;simp;have hq0:=sV s;have hqo:=sW hs;have hh:nD s p=dP (cW s) p:=rfl;rw[hh];clear hh;generalize cW s=q at hq0 hqo⊢;have S:=pK.1 hq0;have b1:=S.hl;have b2:=S.dl;refine CI.p (DW p hpl) ?_;simp;cases h1:q.jX with
 |false=>
  have hi:idle q p=true:=by simp[idle,h1]
  simp[h1];first|exact aA (by simp[dP,hi,h1]) rfl|exact aB (by simp[dP,hi,h1])
 |true=>
  simp[h1];cases h2:q.v.open_ with
  |true=>
   have hi:idle q p=true:=by simp[idle,h2]
   simp[h2];first|exact aA (by simp[dP,hi,h2,h1]) rfl|exact aB (by simp[dP,hi,h2,h1])
  |false=>
   simp[h2];by_cases h3:q.stuck=0
   ·have hi:idle q p=false:=by simp[idle,h1,h2,h3]
    simp[h3];refine CI.p (KF q.v.aI (bX p) q.v.held hqo.v.aI (by omega) hw (by omega)) ?_ (ha:=by simp[bX]);simp[bX];rcases hn:lZ q.v.aI (cM (cO p)) q.v.held with _|x
    ·simp;first|exact aA (by simp[dP,hi,h2,bX,hn,h1,h3]) rfl|exact aB (by simp[dP,hi,h2,bX,hn,h1,h3])
    ·simp;refine CI.p (I8 q.out x.kind) ?_;simp;refine aE (λh5=>?_) (λh5=>?_)<;>simp only[h5]<;>simp<;>(try simp only[nT,nF,dT,dF]at h5)
     ·first|exact aA (by simp[dP,hi,h2,bX,hn,kB,h5,h1,h3]) rfl|exact aB (by simp[dP,hi,h2,bX,hn,kB,h5,h1,h3])
     ·refine CI.p (HO q.v (gJ q x (Nonce.push q.out x.kind).2.1)) ?_ (ha:=by simp[gJ,h2]);simp[gJ,h2];first|exact aA (by simp[dP,hi,h2,bX,hn,kB,h5,gJ,lU,h1,h3]) rfl|exact aB (by simp[dP,hi,h2,bX,hn,kB,h5,gJ,lU,h1,h3])
   ·simp[h3];by_cases h4:q.at_=lY p
    ·have hi:idle q p=true:=by simp[idle,h3,h4]
     have h4':=h4;unfold lY at h4';simp[h4'];first|exact aA (by simp[dP,hi,h2,h1,h4']) rfl|exact aB (by simp[dP,hi,h2,h1,h4'])
    ·have hi:idle q p=false:=by simp[idle,h1,h2,h4]
     have h4':=h4;unfold lY at h4';simp[h4'];refine CI.p (KF q.v.aI (bX p) q.v.held hqo.v.aI (by omega) hw (by omega)) ?_ (ha:=by simp[bX]);simp[bX];rcases hn:lZ q.v.aI (cM (cO p)) q.v.held with _|x
     ·simp;first|exact aA (by simp[dP,hi,h2,bX,hn,h1]) rfl|exact aB (by simp[dP,hi,h2,bX,hn,h1])
     ·simp;refine CI.p (I8 q.out x.kind) ?_;simp;refine aE (λh5=>?_) (λh5=>?_)<;>simp only[h5]<;>simp<;>(try simp only[nT,nF,dT,dF]at h5)
      ·first|exact aA (by simp[dP,hi,h2,bX,hn,kB,h5,h1]) rfl|exact aB (by simp[dP,hi,h2,bX,hn,kB,h5,h1])
      ·refine CI.p (HO q.v (gJ q x (Nonce.push q.out x.kind).2.1)) ?_ (ha:=by simp[gJ,h2]);simp[gJ,h2];first|exact aA (by simp[dP,hi,h2,bX,hn,kB,h5,gJ,lU,h1]) rfl|exact aB (by simp[dP,hi,h2,bX,hn,kB,h5,gJ,lU,h1])
attribute [simp] Tryz.ntmps21 Tryz.results21
theorem TN (s:bM)(hs:gO s)(hl:s.v.aI.length<=1000000):Ct Tryz.prog 21 [st (dB s)] [] [] (aD ((kZ s).map bU)) []:=by
 refine Ct.B Tryz.func21 ?_;simp;refine CI.p (y5 s hs.v.held hs.v.push hl) ?_;simp;cases h1:(cW s).v.open_ with
 |false=>
  simp[h1];first|exact aA (by simp[kZ,h1]) rfl|exact aB (by simp[kZ,h1])
 |true=>
  simp[h1];first|exact aA (by simp[kZ,h1]) rfl|exact aB (by simp[kZ,h1])
attribute [simp] Tryz.ntmps23 Tryz.results23
theorem R9 (s:bM)(p:aZ)(hs:gO s)(hl:s.v.aI.length<=1000000)(hpl:p.aU.length<=1000000):Ct Tryz.prog 23 [st (dB s),st (dI p)] [] [] (bool (qM s p)) []:=by
 refine Ct.B Tryz.func23 ?_;simp;refine CI.p (y5 s hs.v.held hs.v.push hl) ?_;simp;have hqo:=sW hs;refine CI.p (DW p hpl) ?_;simp;cases h1:(cW s).jX with
 |false=>
  simp[h1];first|exact aA (by simp[qM,h1]) rfl|exact aB (by simp[qM,h1])
 |true=>
  simp[h1];cases h2:(cW s).v.open_ with
  |true=>
   simp[h2];first|exact aA (by simp[qM,h2]) rfl|exact aB (by simp[qM,h2])
  |false=>
   simp[h2];refine CI.p (P5 (cW s).v.aI (bX p) hqo.v.aI) ?_ (ha:=by simp[bX]);simp[bX];first|exact aA (by simp[qM,h1,h2,bX]) rfl|exact aB (by simp[qM,h1,h2,bX])
end Go.Proofs.YtelooagbkmpdpaaGreatDoor
