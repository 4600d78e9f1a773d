/-
  THROUGH THE LAYERS: the mesh comes to what is wanted.
-/
import Derived.Test.YtegplpagkajolaaGreatDoorWr
import Derived.Test.YtegplpagkajolaaGreatDoorPu
import Derived.Test.YtegplpagkajolaaGreatDoorWo
import Derived.Test.YtegplpagkajolaaGreatDoorPt
import Derived.Test.YtegplpagkajolaaGreatDoorWe
import Derived.Test.YtegplpagkajolaaGreatDoorWc
import Derived.Test.YtegplpagkajolaaGreatDoorWu
set_option linter.unusedSimpArgs false
set_option linter.unusedVariables false
set_option maxRecDepth 100000
set_option maxHeartbeats 8000000
namespace Go.G
open Go.AI
theorem Y1 {W:List aA}(ha:cW W){k:Key}(h:jS W k):aS (dO W) k=aS W k:=by
 obtain⟨r,hr⟩:=pA.1 h.some;have rm:r∈dO W:=uC.2 ⟨gV hr,by rw[kK hr];exact h⟩;rw[hr,<-kK hr];exact jJ (NG ha) rm
theorem zkh {cap:Int}{W:List aA}(h:Acc cap W)(a:Ask):iZ (dO W) true a=iZ W true a:=by
 have ha:cW W:=iC h.rX;have lis:wP (dO W) a.port=wP W a.port:=by
  unfold wP dO;rw[List.find?_filter,show(fun r:aA=>decide (decide (r.key∈wK W)=true/\(decide (r.kind=0)&&decide (r.port=a.port))=true))=fun r=>decide (r.key∈wK W)&&(decide (r.kind=0)&&decide (r.port=a.port))from by funext r;simp[Bool.decide_and]];have:∀l:List aA,(∀r∈l,r∈W)->l.find? (fun r=>decide (r.key∈wK W)&&(decide (r.kind=0)&&decide (r.port=a.port)))=l.find? (fun r=>decide (r.kind=0)&&decide (r.port=a.port)):=by
   intro l;induction l with
   |nil=>intro _;rfl
   |cons x l ih=>
    intro hl;have ih:=ih (fun r hr=>hl r (xG _ hr));rw[oL,oL,ih];by_cases hk:x.kind=0
    ·have:x.key∈wK W:=Gz.2 (.root (hl x xF) hk);simp[this]
    ·simp[hk]
  exact this W (fun r hr=>hr)
 unfold iZ;rw[aH (by decide),aH (by decide),lis];cases hl:wP W a.port with
 |none=>rfl
 |some x=>
  have hx:=KR hl;have hm:=N6 hl;simp only[bN,cP]at hx;have xs:=pD h.rX hm;have rx:jS W x.key:=.root hm hx.1;have refs:∀{r:aA},r∈W->jS W r.key->∀{q:Key},q∈eT r->jS W q:=fun hr hR q hq=>.step hR (jJ ha hr) hq (XM h.IX hr hq);have to:∀{r:aA},r∈W->(r.kind=0\/r.kind=2)->(⟨r.kind+1,r.to⟩:Key)∈eT r:=fun{r} hr hk=>by
   have hs:=pD h.rX hr;have nm:=(zA hs).2.2.2.2.1;have mt:tH r.kind=true:=by unfold tH;rcases hk with e|e<;>simp[e]
   unfold wN at nm;simp only[mt,DO,HM,bN]at nm;have ne:bs r.to≠[]:=fun e=>by
    have:=nm.1;simp[kH,r8,e]at this
   rw[QW hs];unfold pT;rw[aH ne];exact uU _ (fI.2 rfl)
  have ry:=refs hm rx (to hm (.inl hx.1));rw[hx.1]at ry;have ry:jS W ⟨1,x.to⟩:=ry;show tQ (dO W) a x.to=tQ W a x.to;obtain⟨y,hy⟩:=pA.1 ry.some;have ym:=gV hy;have e1:∀L,aS L ⟨1,x.to⟩=some y->tQ L a x.to=if(nQ y.rules a.host a.path).2=false then⟨2,⟨#[]⟩,0⟩else if(tN (nQ y.rules a.host a.path).1.split a.first).2=false then⟨0,⟨#[]⟩,0⟩else wZ L a (tN (nQ y.rules a.host a.path).1.split a.first).1:=fun L hL=>by
   unfold tQ;simp[hL]
  rw[e1 W hy,e1 (dO W) ((Y1 ha ry).trans hy)];by_cases hu:(nQ y.rules a.host a.path).2=false
  ·rw[aU hu,aU hu]
  rw[aH hu,aH hu];by_cases hc:(tN (nQ y.rules a.host a.path).1.split a.first).2=false
  ·rw[aU hc,aU hc]
  rw[aH hc,aH hc];have ui:=Gg (by simpa using hu);have ys:=pD h.rX ym;have sg:=(zA ys).2.2.2.2.2;simp only[CA,bN,eF]at sg;have we:=sg.1.1 _ ui;simp only[FJ,xK,cP]at we;obtain⟨w,wm,we,w0⟩:=Rq we a.first;have kq:(⟨2,w.gI⟩:Key)∈eT y:=by
   rw[QW ys];unfold pT;refine List.mem_append_right _ (eR.2 ⟨w,jD.2 ⟨KJ.2 ⟨_,?_,wm⟩,by simpa using w0⟩,rfl⟩);rw[fA];exact ui
  have rc:=refs ym (by rw[kK hy];exact ry) kq;obtain⟨cl,hcl⟩:=pA.1 rc.some;have ck:cl.kind=2:=dH Key.kind (kK hcl);have re:=refs (gV hcl) (by rw[kK hcl];exact rc) (to (gV hcl) (.inr ck));rw[ck]at re;have re:jS W ⟨3,cl.to⟩:=re;rw[we];unfold wZ;simp only[Y1 ha rc,hcl,sS,Y1 ha re]
structure Still (x:bB):Prop where
 xs:dI x=true
 one:x.p.aX=[]\/∃q,x.p.aX=[q]/\q.pins=0
theorem Xz {x:bB}(hx:dI x=true)(h1:x.p.aX.length<=1)(hz:∀s∈x.p.aX,s.pins=0):Still x:=by
 refine⟨hx,?_⟩
 match e:x.p.aX with
 |[]=>exact .inl rfl
 |[q]=>exact .inr ⟨q,rfl,hz q (by rw[e];simp)⟩
 |_::_::_=>rw[e]at h1;simp at h1
theorem Dg {x:bB}(h:Still x):(x.p.aX=[]/\hC x=none)\/∃q,x.p.aX=[q]/\q.pins=0/\hC x=some q:=by
 have S:=iP.1 h.xs;unfold hC rL;rw[j9 h.xs,mC S.p];rcases h.one with e|⟨q,e,z⟩
 ·exact .inl ⟨e,by rw[e];rfl⟩
 ·exact .inr ⟨q,e,z,by rw[e];rfl⟩
inductive N1 (x:bB)(n:Int)(a:Ask):bB->jO->Prop
 |new (P:jO) (t:Task) (ht:P.tasks=[t]) (hn:t.n=n) (ha:t.r.a=a) (h0:t.r.cV=0):N1 x n a x P
 |on (P:jO) (q:eG) (hq:x.p.aX=[q]) (hz:q.pins=0) (t:Task) (ht:P.tasks=[t]) (hn:t.n=n) (ha:t.r.a=a) (hs:1<=t.r.cV/\t.r.cV<=4) (hi:t.r.id=q.id) (hR:HA q.l t.r):N1 x n a {x with p:=⟨x.p.next,[{q with pins:=1}]⟩} P
structure zkZ (x:bB)(n:Int)(a:Ask)(y:bB)(P:jO):Prop where
 side:y=x
 none:P.tasks=[]
 last:∃t,P.done.getLast? =some t/\t.n=n/\t.r.out=iZ (lJ x) (hC x).isSome a
theorem zhD {x:bB}(hx:dI x=true){q:eG}(hq:x.p.aX=[q])(hz:q.pins=0)(hy:dI {x with p:=⟨x.p.next,[{q with pins:=1}]⟩}=true){id:Int}(hid:id=q.id):(kC {x with p:=⟨x.p.next,[{q with pins:=1}]⟩} id).1=x/\(kC {x with p:=⟨x.p.next,[{q with pins:=1}]⟩} id).2.1=[]:=by
 subst hid;have Sx:=(iP.1 hx).p;have Sy:jU ⟨x.p.next,[{q with pins:=1}]⟩=true:=(iP.1 hy).p;have pl:lM ⟨x.p.next,[{q with pins:=1}]⟩ q.id=0:=WL Sy (q:={q with pins:=1}) (j:=0) rfl;have rel:oR ⟨x.p.next,[{q with pins:=1}]⟩ q.id=(x.p,0):=by
  unfold oR;rw[mC Sy];unfold s9;rw[pl];have e:x.p=⟨x.p.next,[q]⟩:=by rw[<-hq]
  have e2:({q with pins:=0}:eG)=q:=by rw[<-hz]
  rw[aH (by omega)];simp only[Int.toNat_zero,BX,List.length_singleton];rw[aH (by decide),aH (by simp)];simp only[T8];rw[show(1:Int)-1=0 by decide,e2,<-e]
 have held:fH x.p=fH ⟨x.p.next,[{q with pins:=1}]⟩:=by
  unfold fH;rw[mC Sx,mC Sy];unfold GS;rw[hq];simp
 unfold kC;rw[j9 hy];unfold yK;simp only[rel];rw[aU (by simp[held])];exact⟨rfl,rfl⟩
theorem Iv (l:List Task)(t:Task):(x5 l t).getLast? =some t:=by
 unfold x5;simp
theorem Fz {r:kD}(h:1<=r.cV/\r.cV<=4):kU r=true:=by
 unfold kU mS;split
 ·simp;omega
 ·simp[oU]
theorem Ga {r:kD}(h:lL r=true)(o:nC):kU {r with cV:=5,out:=o}=false:=by
 have t0:¬r.id<0:=by
  simp only[lL,bN,pN,AH,uT]at h;exact h.1.2
 unfold kU mS lL;simp[t0]
theorem zjX {x:bB}{n:Int}{a:Ask}{y:bB}{P:jO}(hx:Still x)(hP:zY P)(hy:dI y=true)(h:N1 x n a y P):
  (eI P y 0).2.2.1=[]/\(eI P y 0).2.2.2=0/\dI (eI P y 0).2.1=true/\
  ((N1 x n a (eI P y 0).2.1 (eI P y 0).1/\(eI P y 0).1.tasks.length=P.tasks.length/\nE (eI P y 0).1.tasks+1<=nE P.tasks)\/(zkZ x n a (eI P y 0).2.1 (eI P y 0).1/\P.tasks.length=1)):=by
 have sy:=(Ik P hy 0).1;have at0:∀t,P.tasks=[t]->P.tasks[oC P 0]? =some t:=fun t e=>by
  have:=(WO P 0 (by rw[e];simp)).2;rw[e]at this;have:oC P 0=0:=by simp at this;omega
  rw[this,e];rfl
 cases h with
 |new _ t ht hn ha h0=>
  have e:=at0 t ht;have e0:oC P 0=0:=by
   have:=(cC.1 e).1;rw[ht]at this;simp at this;omega
  have run:=hP.run t (by rw[ht];simp);have o:=OU run.1 run.2 hy;revert sy;unfold eI;rw[e];dsimp only;generalize mQ t.r x=w at o;cases o with
  |none _ hc=>
   rw[aH (by rw[Ga run.1];decide)];refine fun sy=>⟨rfl,rfl,hy,.inr ⟨⟨rfl,by simp[ht,e0],⟨_,Iv _ _,hn,?_⟩⟩,by rw[ht];rfl⟩⟩
   rcases Dg hx with⟨_,q⟩|⟨q,hq,_⟩
   ·rw[q];simp[iZ]
   ·rw[hc]at hq;cases hq
  |full _ q hq hp=>
   rcases hx.one with g|⟨q',g,z⟩
   ·rw[g]at hq;cases hq
   ·rw[g,fI]at hq;rw[hq,z]at hp;cases hp
  |xX _ i q hq=>
   rcases hx.one with g|⟨q',g,z⟩
   ·rw[g]at hq;simp at hq
   ·rw[g]at hq;have hi:i=[]:=by
     have:=dH List.length hq;simp at this;exact this
    subst hi;simp only[DK,List.cons.injEq,and_true]at hq;subst hq;rw[aU (Fz (by simp))];refine fun sy=>⟨rfl,rfl,sy,.inl ⟨?_,by simp,?_⟩⟩
    ·rw[z];exact .on _ q' g z ⟨t.n,{t.r with id:=q'.id,cV:=1}⟩ (by simp[ht,e0]) hn ha (by simp) rfl ⟨fun q=>absurd q (by simp),fun q=>absurd q (by simp),fun q=>absurd q (by simp)⟩
    ·simp[ht,e0,nE,h0]
  |go h1=>omega
  |fin h1=>omega
 |on _ q hq hz t ht hn ha hs hi hR=>
  have e:=at0 t ht;have e0:oC P 0=0:=by
   have:=(cC.1 e).1;rw[ht]at this;simp at this;omega
  have run:=hP.run t (by rw[ht];simp);have o:=OU run.1 run.2 hy;have gp:sI (⟨x.p.next,[{q with pins:=1}]⟩:dJ) t.r.id=some q.l:=by
   rw[hi];exact Y4 (iP.1 hy).p (q:={q with pins:=1}) (by simp)
  revert sy;unfold eI;rw[e];dsimp only;generalize mQ t.r _=w at o;cases o with
  |none h0=>omega
  |full h0=>omega
  |xX h0=>omega
  |go h1 r h2 hi' ha' hL=>
   have r1:=hL q.l gp hR;rw[aU (Fz ⟨by omega,h2.2⟩)];refine fun sy=>⟨rfl,rfl,hy,.inl ⟨.on _ q hq hz ⟨t.n,r⟩ (by simp[ht,e0]) hn (ha'.trans ha) ⟨by show 1<=r.cV;omega,h2.2⟩ (hi'.trans hi) r1,by simp,?_⟩⟩
   simp[ht,e0,nE];omega
  |fin h1 o hL=>
   have r1:=hL q.l gp hR;rw[aH (by rw[Ga run.1];decide)];obtain⟨e1,e2⟩:=zhD hx.xs hq hz hy hi;dsimp only;intro sy;refine⟨e2,rfl,sy,.inr ⟨⟨e1,?_,⟨⟨t.n,{t.r with cV:=5,out:=o}⟩,Iv _ _,hn,?_⟩⟩,?_⟩⟩
   ·simp[ht,e0]
   rotate_left
   ·simp[ht]
   show o=_;rw[r1,ha];rcases Dg hx with⟨g,_⟩|⟨q',g,_,sh⟩
   ·rw[g]at hq;cases hq
   ·rw[hq]at g;cases g;simp[lJ,sh]
def nJ (i:Nat)(a:Ask):bJ:=⟨7,i,0,0,[],[],a⟩
def goN (M:bL)(i:Nat):Nat->bL×sQ
 |0=>(M,fP 0)
 |j+1=>if(goN M i j).2.n=0 then bH (goN M i j).1 (cU i)else goN M i j
theorem Pc {M:bL}{i j:Nat}(h:(goN M i j).2.n≠0):∀d,goN M i (j+d)=goN M i j
 |0=>rfl
 |d+1=>by
  have:=Pc h d;rw[<-KF,goN,this,aH h]
theorem Js (i:Nat):eK (cU i):=⟨⟨by simp[cU,cQ,bs],by simp[cU,cQ,bs]⟩,by simp[cU],by simp[cU]⟩
theorem YY {M:bL}{B:Int}(h:cN M B)(i:Nat):∀j:Nat,cN (goN M i j).1 (B+12*j)/\(goN M i j).1.ns.length=M.ns.length
 |0=>⟨by simpa[goN]using h,rfl⟩
 |j+1=>by
  obtain⟨a,b⟩:=YY h i j;unfold goN;split
  ·refine⟨?_,(uW a _).trans b⟩;have e:B+12*((j+1:Nat):Int)=B+12*(j:Int)+12:=by omega
   rw[e];exact a.step (Js i)
  ·exact⟨a.up (by omega),b⟩
structure C8 (M N:bL):Prop where
 set:J5 M N
 zero:∀(i:Nat) (n:Node),N.ns[i]? =some n->∀s∈n.side.p.aX,s.pins=0
theorem C8.still {M N:bL}(h:C8 M N){i:Nat}{n:Node}(hn:N.ns[i]? =some n):Still n.side:=by
 obtain⟨q1,q2,q3,q4,q5,q6,q7,q8⟩:=h.set.node i n hn;exact Xz q6 q7 (h.zero i n hn)
theorem C8.bR {M N:bL}(h:C8 M N){i:Nat}{n:Node}(hn:N.ns[i]? =some n){P:jO}(hP:P.tasks=[]):C8 M (mP N i {n with bR:=P}):=by
 have hi:=(cC.1 hn).1;have key:∀(j:Nat) (m:Node),(mP N i {n with bR:=P}).ns[j]? =some m->∃o,N.ns[j]? =some o/\m.up=o.up/\m.dn=o.dn/\m.side=o.side/\m.bA=o.bA/\(m.bR.tasks=o.bR.tasks\/m.bR.tasks=[]):=fun j m hm=>by
  by_cases e:i=j
  ·subst e;simp only[mP]at hm;rw[FI hi]at hm;cases hm;exact⟨n,hn,rfl,rfl,rfl,rfl,.inr hP⟩
  ·simp only[mP]at hm;rw[N7 e]at hm;exact⟨m,hm,rfl,rfl,rfl,rfl,.inl rfl⟩
 refine⟨⟨h.set.GI.trans (xC.gP N i _),fun j m hm=>?_⟩,fun j m hm=>?_⟩
 ·obtain⟨o,ho,e1,e2,e3,e4,e5⟩:=key j m hm;obtain⟨q1,q2,q3,q4,q5,q6,q7,q8⟩:=h.set.node j o ho;rw[e1,e2,e3,e4];exact⟨q1,q2,q3,q4,q5,q6,q7,e5.elim (fun e=>e.trans q8) id⟩
 ·obtain⟨o,ho,e1,e2,e3,e4,e5⟩:=key j m hm;rw[e3];exact h.zero j o ho
theorem Pa {N:bL}{i:Nat}{n:Node}(hn:N.ns[i]? =some n)(h:(eI n.bR n.side 0).2.2.1=[]):
  bH N (cU i)=(mP N i {n with bR:=(eI n.bR n.side 0).1,side:=(eI n.bR n.side 0).2.1},(oE N.lost n (cU i)).2.2):=by
 rw[DX hn rfl (by simp[cU])];have e:fC N.c.max N.p N.lost n (cU i)=oE N.lost n (cU i):=by
  unfold fC;simp[cU]
 rw[e];unfold oE;simp only[cU,h,dP,List.foldl_nil];rfl
theorem za9 {M N:bL}{B:Int}(h:C8 M N)(hN:cN N B){i:Nat}{n:Node}(hn:N.ns[i]? =some n){a:Ask}(ha:eK (nJ i a)):
  C8 M (goN (bH N (nJ i a)).1 i 6).1/\((bH N (nJ i a)).2.e=0->(goN (bH N (nJ i a)).1 i 6).2.n=(bH N (nJ i a)).2.n/\(goN (bH N (nJ i a)).1 i 6).2.iT=iZ (lJ n.side) (hC n.side).isSome a):=by
 have st:=h.still hn;obtain⟨q1,q2,q3,q4,q5,q6,q7,q8⟩:=h.set.node i n hn;have okn:=hN.ok n (eH hn);have eb:bH N (nJ i a)=(mP N i {n with bR:=(mR n.bR a).1},⟨(mR n.bR a).2.2,(mR n.bR a).2.1,iB,[],[]⟩):=by
  rw[DX hn rfl (by simp[nJ])];have e:fC N.c.max N.p N.lost n (nJ i a)=rM N.lost n (nJ i a):=by
   unfold fC;simp[nJ]
  rw[e];rfl
 have okb:=hN.step ha;rw[eb]at okb⊢;simp only at okb⊢;by_cases hc:64<=n.bR.tasks.length\/n.bR.next=100000
 ·have e:mR n.bR a=(n.bR,0,8):=by unfold mR;rw[aU hc]
  rw[e];simp only;rw[show({n with bR:=n.bR}:Node)=n from rfl,OH hn];have e0:eI n.bR n.side 0=(n.bR,n.side,[],10):=by
   unfold eI;rw[q8];simp
  have s1:bH N (cU i)=(N,fP 10):=by
   rw[Pa hn (by rw[e0]),e0];simp only;rw[show({n with bR:=n.bR,side:=n.side}:Node)=n from rfl,OH hn];unfold oE;simp[cU,e0]
  have all:∀j,(goN N i j).1=N/\(goN N i j).2.n=0:=by
   intro j;induction j with
   |zero=>exact⟨rfl,rfl⟩
   |succ j ih=>
    unfold goN;rw[aU ih.2,ih.1,s1];exact⟨rfl,rfl⟩
  refine⟨by rw[(all 6).1];exact h,fun q=>absurd q (by decide)⟩
 ·have e:mR n.bR a=(⟨n.bR.next+1,n.bR.tasks++[⟨n.bR.next+1,oU a⟩],n.bR.done⟩,n.bR.next+1,0):=by unfold mR;rw[aH hc]
  rw[e,q8]at okb⊢;simp only[DK]at okb⊢;have n0:=okn.pl.p.n0;generalize hK:mP N i {n with bR:=⟨n.bR.next+1,[⟨n.bR.next+1,oU a⟩],n.bR.done⟩}=K at okb⊢;have key:∀j:Nat,j<=6->(∃P y,(goN K i j).1=mP N i {n with bR:=P,side:=y}/\dI y=true/\N1 n.side (n.bR.next+1) a y P/\(goN K i j).2.n=0/\nE P.tasks+j<=5)\/(∃P,(goN K i j).1=mP N i {n with bR:=P}/\P.tasks=[]/\(goN K i j).2.n=n.bR.next+1/\(goN K i j).2.iT=iZ (lJ n.side) (hC n.side).isSome a):=by
   intro j;induction j with
   |zero=>exact fun _=>.inl ⟨_,n.side,hK.symm,q6,.new _ ⟨n.bR.next+1,oU a⟩ rfl rfl rfl rfl,rfl,by simp[nE,oU]⟩
   |succ j ih=>
    intro hj;rcases ih (by omega)with⟨P,y,g1,g2,g3,g4,g5⟩|⟨P,g1,g2,g3,g4⟩
    ·have ok:=(YY okb i j).1;have hat:(goN K i j).1.ns[i]? =some {n with bR:=P,side:=y}:=by rw[g1];exact OI hn
     have okP:zY P:=(ok.ok _ (eH hat)).pl.p;obtain⟨p1,p2,p3,p4⟩:=zjX st okP g2 g3;have s1:=Pa hat p1;simp only at s1;have un:goN K i (j+1)=bH (goN K i j).1 (cU i):=by rw[goN,aU g4]
     rw[un,s1,g1,US];rcases p4 with⟨p5,p6,p7⟩|⟨p5,p6⟩
     ·refine .inl ⟨_,_,rfl,p3,p5,?_,by have:=p7;show nE (eI P y 0).1.tasks+(j+1)<=5;omega⟩;have q:(oE (goN K i j).1.lost {n with bR:=P,side:=y} (cU i)).2.2=fP (eI P y 0).2.2.2:=aU (Or.inr p6);rw[g1]at q;simp only[q,p2];rfl
     ·obtain⟨t,t1,t2,t3⟩:=p5.last;refine .inr ⟨(eI P y 0).1,by simp only[p5.side],p5.none,?_⟩;have ne:¬(¬(eI P y 0).2.2.2=0\/(eI P y 0).1.tasks.length=P.tasks.length):=by
       rw[p5.none,p6];simp[p2]
      have q:(oE (goN K i j).1.lost {n with bR:=P,side:=y} (cU i)).2.2=match(eI P y 0).1.done.getLast? with
       |some x=>⟨0,x.n,x.r.out,[],[]⟩
       |none=>fP 0:=aH ne
      rw[g1,t1]at q;simp only[q];exact⟨t2,t3⟩
    ·have un:goN K i (j+1)=goN K i j:=by rw[goN,aH (by omega)]
     rw[un];exact .inr ⟨P,g1,g2,g3,g4⟩
  rcases key 6 (by omega)with⟨P,y,g1,g2,g3,g4,g5⟩|⟨P,g1,g2,g3,g4⟩
  ·omega
  ·rw[g1,g3,g4];exact⟨h.bR hn g2,fun _=>⟨rfl,rfl⟩⟩
theorem zb2 {M:bL}(hp:fN M.p=true){K:Nat}(hK:K<=1000000)(h:∀(i:Nat) (n:Node),M.ns[i]? =some n->vT M.p K 0 n/\n.bR.tasks=[]){r:Nat}(hr:11<=r):C8 M (l5 M M.ns.length r):=by
 refine⟨Gj hp hK h hr,fun i n hn=>?_⟩;obtain⟨_,a⟩:=V6 hp hK h r;obtain⟨⟨U,_,_,b⟩,_⟩:=a i n hn;cases b with
 |first s a b H ep hr'=>omega
 |answer u a H ep hu hd h1 Mg hq hr'=>omega
 |done H ep m hu hd Mg hx=>exact Mg.xz
theorem zba {M N:bL}(h:J5 M N)(hp:fN M.p=true){i:Nat}{n:Node}(hn:N.ns[i]? =some n)(a:Ask):iZ (lJ n.side) (hC n.side).isSome a=iZ (dR M.p) (hC n.side).isSome a:=by
 rw[VO h hn];cases(hC n.side).isSome with
 |false=>rfl
 |true=>
  have e:gZ M.p=M.p:=y9 hp;have:dR M.p=fW M.p:=by unfold dR;rw[e]
  rw[this];exact zkh (IA hp) a
end Go.G
namespace Go.Proofs.YtegplpagkajolaaGreatDoor
open Go.AI Go.G Tryz
theorem ziY (M:G.bL)(r:Nat)(B:Int){c:Nat}(h0:M.ns.length=c)(hM:cN M B)(hB:B<=1000000)(hr:r<=100):cO eY prog 23 [.ptr 0 0,int r] [] (BC M.c M.p M.lost (aI M 0 c)) (.bI []) (BC (l5 M c r).c (l5 M c r).p (l5 M c r).lost (aI (l5 M c r) 0 c)):=by
 have hc:c=1\/c=2\/c=3\/c=4:=by have:=hM.n1;have:=hM.n4;omega
 have f1:=fun n=>NA hM n;rw[h0]at f1;have f2:∀n,l5 M c (n+1)=iS (l5 M c n) c:=fun n=>rfl;have f0:l5 M c 0=M:=rfl;generalize l5 M c=F at f0 f1 f2⊢;rcases hc with hk|hk|hk|hk
 all_goals
  refine cO.B lZ func23 ?_;simp;refine aQ.inv mixed rfl (ι:={k:Nat//k<=r}) (fun k=>[(0,.ptr 0 0),(1,int r),(4,int k.1)]) (fun k=>BC (F k.1).c (F k.1).p (F k.1).lost (aI (F k.1) 0 c)) 64 (fun k=>r-k.1) ⟨0,by omega⟩ [] (by constructor<;>simp[hk,aI,f0]) ?_;rintro⟨n,hn⟩ BA hBA;refine CI.n ?_;simp[hk,aI];refine aJ (fun h1=>?_) (fun h1=>?_)<;>simp only[h1]<;>simp<;>(try simp only[nT,nF,dT,dF]at h1)
  ·have b1:=f1 n;have s1:=f2 n;have wn:IntKind.wrap .i64 ((n:Int)+1)=n+1:=wrap_i64 (by omega) (by omega);generalize F n=N at b1 s1⊢;obtain⟨n1,n2⟩:=b1;refine aQ.inv mixed rfl (ι:={k:Nat//k<=c}) (fun k=>[(0,.ptr 0 0),(1,int r),(4,int n),(5,int k.1)]) (fun k=>BC (iS N k.1).c (iS N k.1).p (iS N k.1).lost (aI (iS N k.1) 0 c)) 320 (fun k=>c-k.1) ⟨0,by omega⟩ [] (by constructor<;>simp[hk,aI,iS]) ?_;rintro⟨i,hi⟩ BB hBB;have b2:=S6 n1 i (by omega);have s2:iS N (i+1)=C3 (iS N i) i:=rfl;have wi:IntKind.wrap .i64 ((i:Int)+1)=i+1:=wrap_i64 (by omega) (by omega);refine CI.n ?_;simp[hk,aI];refine CI.cc [0,1,2,3,4,5] (qG (iS N i).c (iS N i).p (iS N i).lost (aI (iS N i) 0 c) (by rw[kW];omega) (by rw[kW];omega)) ?_ (ha:=by simp[hk,aI]) (hn:=by constructor<;>simp[fD,hk,aI]) (hk:=by simp[hk,aI]);simp[hk,aI];refine aJ (fun h2=>?_) (fun h2=>?_)<;>simp only[h2]<;>simp<;>(try simp only[nT,nF,dT,dF]at h2)
   ·generalize iS N i=V at b2 s2⊢;obtain⟨v1,v2⟩:=b2;refine aQ.inv mixed rfl (ι:={k:Nat//k<=2}) (fun k=>[(0,.ptr 0 0),(1,int r),(4,int n),(5,int i),(6,int k.1)]) (fun k=>BC (o5 V i k.1).c (o5 V i k.1).p (o5 V i k.1).lost (aI (o5 V i k.1) 0 c)) 640 (fun k=>2-k.1) ⟨0,by omega⟩ [] (by constructor<;>simp[hk,aI,o5]) ?_;rintro⟨w,hw⟩ BC_ hBC;have b3:=Z4 v1 (i:=i) (by omega) w;have s3:o5 V i (w+1)=vQ (o5 V i w) i w:=rfl;have ww:IntKind.wrap .i64 ((w:Int)+1)=w+1:=wrap_i64 (by omega) (by omega);refine CI.n ?_;simp[hk,aI];refine aJ (fun h3=>?_) (fun h3=>?_)<;>simp only[h3]<;>simp<;>(try simp only[nT,nF,dT,dF]at h3)
    ·generalize o5 V i w=W at b3 s3⊢;obtain⟨w1,w2⟩:=b3;have sl:W.ns.length=c:=w2.trans (v2.trans n2);obtain⟨x,hx⟩:∃x,W.ns[i]? =some x:=⟨_,cI (by omega)⟩;have hl:=XW w1 hx w;rw[vQ,L4 hx]at s3;refine CI.cc [0,1,2,3,4,5] (Bt W.c W.p W.lost (aI W 0 c) i w i x (by rw[kW];omega) (GC sl hx) rfl (by omega)) ?_ (ha:=by simp[hk,aI]) (hn:=by constructor<;>simp[fD,hk,aI]) (hk:=by simp[hk,aI]);simp[hk,aI];generalize dA x (w:Int)=L at hl s3⊢;refine aQ.inv mixed rfl (ι:={k:Nat//k<=L.q.length}) (fun k=>[(0,.ptr 0 0),(1,int r),(4,int n),(5,int i),(6,int w),(7,.ptr 1216 0),(9,int k.1)]) (fun k=>BC (pL W i w k.1).c (pL W i w k.1).p (pL W i w k.1).lost (aI (pL W i w k.1) 0 c)++[(1216,.cells ((kR L).map .d) 108)]) 1472 (fun k=>L.q.length-k.1) ⟨0,by omega⟩ [] (by constructor<;>simp[hk,aI,pL]) ?_;rintro⟨j,hj⟩ BD_ hBD;have b4:=S7 w1 i (w:=(w:Int)) j;have s4:pL W i w (j+1)=(bH (pL W i w j) (iQ i w)).1:=rfl;have wj:IntKind.wrap .i64 ((j:Int)+1)=j+1:=wrap_i64 (by omega) (by omega);refine CI.n ?_;simp[hk,aI];refine aJ (fun h4=>?_) (fun h4=>?_)<;>simp only[h4]<;>simp<;>(try simp only[nT,nF,dT,dF]at h4)
     ·generalize pL W i w j=K at b4 s4⊢;refine CI.j [0,1,2,3,4,5] (wH K (iQ i w) _ (b4.2.trans sl) b4.1 (by omega) (Jt i w)) ?_ (ha:=by simp[hk,aI,iQ,cQ]) (hn:=by constructor<;>simp[fD,hk,aI,iQ,cQ]) (hk:=by simp[hk,aI,iQ,cQ]);simp[hk,aI,iQ,cQ];rw[show(⟨1,(i:Int),(w:Int),0,[],[],⟨0,⟨#[]⟩,⟨#[]⟩,0,0⟩⟩:bJ)=iQ i w from rfl,<-s4];refine hBD _ ⟨j+1,by omega⟩ [] ?_ (by simp;omega);constructor<;>simp[wj,hk,aI]
     ·have ej:j=L.q.length:=by omega
      subst ej;rw[<-s3];refine hBC _ ⟨w+1,by omega⟩ [] ?_ (by simp;omega);constructor<;>simp[ww,hk,aI]
    ·have ew:w=2:=by omega
     subst ew;have e2:o5 V i 2=iS N (i+1):=s2.symm;rw[e2];refine hBB _ ⟨i+1,by omega⟩ [] ?_ (by simp;omega);constructor<;>simp[wi,hk,aI]
   ·have ei:i=c:=by omega
    rw[ei,<-s1];refine hBA _ ⟨n+1,by omega⟩ [] ?_ (by simp;omega);constructor<;>simp[wn,hk,aI]
  ·have en:n=r:=by omega
   subst en;exact⟨[],by constructor<;>simp[aV,aW,hk,aI]⟩
attribute [simp] ntmps4 results4
def tX (aD:List aA):bJ:=⟨0,0,0,0,aD,[],cQ⟩
theorem zaY (c:bS)(l:List bJ)(aD:List aA)(a:G.Ask)(ha:∀s∈l,dK s.aD)(hl:l.length<=9223372036854775807)(hr:dK aD)(hf:mJ l=true)(hl6:¬c.iG<64)(hm1:¬c.max<1000)(hfa:yI aD=true)(ha1:¬(100:Int)<a.host.size)(ha2:¬(100:Int)<a.path.size):
  cO eY prog 4 [st (jR c),aC (l.map cZ),aC (aD.map aK),st (sM a)] [] [] (bool true) []:=by
 obtain⟨h60,hs0⟩:=QD hf;have al:=Qi hfa;have z1:=mD a.host;have z2:=mD a.path;have okU:eK (tX aD):=⟨⟨by simp[tX,cQ,bs],by simp[tX,cQ,bs]⟩,by simp[tX];omega,by simp[tX]⟩;have okA:∀i:Nat,eK (nJ i a):=fun i=>⟨⟨by simp[nJ];omega,by simp[nJ];omega⟩,by simp[nJ],by simp[nJ]⟩
 rcases HZ c with hk|hk|hk|hk
 all_goals
  refine cO.B lZ func4 ?_;simp;refine CI.j [] ND ?_;simp;refine CI.p (MX l ha hl) ?_ (ha:=by simp[hf]);simp[hf];simp[hl6,hm1];refine CI.p (MY aD hr) ?_ (ha:=by simp[hfa]);simp[hfa];simp[ha1,ha2];refine CI.p (Rh c) ?_;simp;refine CI.p (Dh l (by omega)) ?_;simp;refine CI.j [] (Hy c l (by omega) hs0) ?_ (ha:=by simp[hk,aI]) (hn:=by constructor<;>simp[fD,hk,aI]) (hk:=by simp[hk,aI]);simp[hk,aI];have okm0:=mG l (cN.new c) hs0;have q0:(aY (aR c) l).1.ns.length=cR c:=okm0.2.trans (by simp[aR]);have pu:=dH Prod.fst (rG (tX aD) l (aR c));simp only at pu;refine CI.j [2560,2561,2562,2563,2564,2565] (wH (aY (aR c) l).1 (tX aD) _ q0 okm0.1 (by omega) okU) ?_ (ha:=by simp[hk,aI,tX,cQ]) (hn:=by constructor<;>simp[fD,hk,aI,tX,cQ]) (hk:=by simp[hk,aI,tX,cQ]);simp[hk,aI,tX,cQ];rw[show(⟨0,0,0,0,aD,[],⟨0,⟨#[]⟩,⟨#[]⟩,0,0⟩⟩:bJ)=tX aD from rfl,<-pu];have hs:∀s∈l++[tX aD],eK s:=fun s h=>(dN.1 h).elim (hs0 s) fun g=>by rw[fI.1 g];exact okU
  have h61:(l++[tX aD]).length<=61:=by simp;omega
  generalize l++[tX aD]=L at hs h61 pu⊢;have q:(aY (aR c) L).1.ns.length=cR c:=(mG L (cN.new c) hs).2.trans (by simp[aR]);have okm:=(mG L (cN.new c) hs).1;have np:=(rB _).1 okm.p;refine CI.cc [2560,2561,2562,2563,2564,2565] (Df (aY (aR c) L).1.c (aY (aR c) L).1.p (aY (aR c) L).1.lost (aI (aY (aR c) L).1 0 (cR c)) (by rw[kW];omega) (by rw[kW];omega)) ?_ (ha:=by simp[hk,aI]) (hn:=by constructor<;>simp[fD,hk,aI]) (hk:=by simp[hk,aI]);simp[hk,aI];obtain⟨W,hW⟩:∃W,dR (aY (aR c) L).1.p=W:=⟨_,rfl⟩;have hW':fW (gZ (aY (aR c) L).1.p)=W:=hW;refine CI.p (AX (aY (aR c) L).1.p (by omega)) ?_ (ha:=by simp[hW']);simp[hW'];have hl4:cR c<=4:=by omega
  have okp:∀k,∀s∈L++cA k,eK s:=fun k s h=>(dN.1 h).elim (hs s) fun g=>(EG k s g).1;have fo:=fun k=>mG (M:=aR c) (L++cA k) (cN.new c) (okp k);have f0:(aY (aR c) (L++cA 0)).1=(aY (aR c) L).1:=by simp[cA]
  have tw:=CO okm.p;rw[hW]at tw;have wl:=rW tw;refine aQ.inv mixed rfl (ι:={k:Nat//k<=cR c/\∀(i:Nat) (n:G.Node),i<k->(aY (aR c) (L++cA i)).1.ns[i]? =some n->n.side.w.c.l.length+W.length<=60}) (fun k=>[(9,bool true),(7,.ptr 128 0),(10,.ptr 2560 0),(13,aC (W.map aK)),(14,int k.1)]) (fun k=>BD 2560 (aY (aR c) (L++cA k.1)).1 (aI (aY (aR c) (L++cA k.1)).1 0 (cR c))++[(128,.cells ((sM a).map .d) 46)]) 3776 (fun k=>cR c-k.1) ⟨0,by omega,fun i n h=>absurd h (by omega)⟩ [] (by constructor<;>simp[hk,aI,f0]) ?_;rintro⟨i,hi,hroom⟩ B hB;refine CI.n ?_;simp[hk,aI];obtain⟨fo1,fo2⟩:=fo i;have fl:(aY (aR c) (L++cA i)).1.ns.length=cR c:=fo2.trans (by simp[aR]);refine CI.cc [2560,2561,2562,2563,2564,2565] (qG (aY (aR c) (L++cA i)).1.c (aY (aR c) (L++cA i)).1.p (aY (aR c) (L++cA i)).1.lost (aI (aY (aR c) (L++cA i)).1 0 (cR c)) (by rw[kW];omega) (by rw[kW];omega)) ?_ (ha:=by simp[hk,aI]) (hn:=by constructor<;>simp[fD,hk,aI]) (hk:=by simp[hk,aI]);simp[hk,aI];refine aJ (fun h1=>?_) (fun h1=>?_)<;>simp only[h1]<;>simp<;>(try simp only[nT,nF,dT,dF]at h1)
  ·have hi':i<cR c:=by omega
   have ok:=fo1.ok;obtain⟨n,hn⟩:∃n,(aY (aR c) (L++cA i)).1.ns[i]? =some n:=⟨_,cI (by omega)⟩;have on:=fo1.ok n (eH hn);have lw:n.side.w.c.l.length<=1000:=on.d.x.cl;have lh:=MQ on.d.x.pins;refine CI.cc [2560,2561,2562,2563,2564,2565] (LK (aY (aR c) (L++cA i)).1.c (aY (aR c) (L++cA i)).1.p (aY (aR c) (L++cA i)).1.lost (aI (aY (aR c) (L++cA i)).1 0 (cR c)) i i n (by rw[kW];omega) (GC fl hn) rfl) ?_ (ha:=by simp[hk,aI]) (hn:=by constructor<;>simp[fD,hk,aI]) (hk:=by simp[hk,aI]);simp[hk,aI];have wz:IntKind.wrap .i64 ((n.side.w.c.l.length:Int)+W.length)=n.side.w.c.l.length+W.length:=wrap_i64 (by omega) (by omega);have wy:IntKind.wrap .i64 (((fH n.side.p).length:Int)+W.length)=(fH n.side.p).length+W.length:=wrap_i64 (by omega) (by omega);by_cases hr1:(60:Int)<(n.side.w.c.l.length:Int)+W.length
   ·simp[wz,hr1];exact⟨[],by constructor<;>simp[aV,aW,hk,aI]⟩
   ·simp[wz,hr1];refine CI.p (JF n.side.p on.d.x.pins) ?_ (ha:=by simp[wy]);simp[wy];refine aJ (fun hr2=>?_) (fun hr2=>?_)<;>simp only[hr2]<;>simp<;>(try simp only[nT,nF,dT,dF]at hr2)
    ·exact⟨[],by constructor<;>simp[aV,aW,hk,aI]⟩
    ·have okg:∀j,∀s∈(L++cA i)++fE i j,eK s:=fun j s h=>by
      rcases dN.1 h with g|g
      ·exact okp i s g
      ·rw[GU g];exact⟨⟨by simp[cU,cQ,bs],by simp[cU,cQ,bs]⟩,by simp[cU],by simp[cU]⟩
     have gl:∀j,((L++cA i)++fE i j).length<=2000+j:=fun j=>by rw[dQ,dQ,IK];simp only[fE,KK];omega
     have gO:=fun j=>mG (M:=aR c) ((L++cA i)++fE i j) (cN.new c) (okg j);have gS:∀j,(aY (aR c) ((L++cA i)++fE i (j+1))).1=(bH (aY (aR c) ((L++cA i)++fE i j)).1 (cU i)).1:=fun j=>by
      have e:(L++cA i)++fE i (j+1)=((L++cA i)++fE i j)++[cU i]:=by
       show(L++cA i)++List.replicate (j+1) (cU i)=_;rw[List.replicate_succ',<-AE];rfl
      rw[e];exact dH Prod.fst (rG (cU i) ((L++cA i)++fE i j) (aR c))
     have gR:(aY (aR c) (L++cA (i+1))).1=(bH (aY (aR c) ((L++cA i)++fE i 400)).1 (iE i)).1:=by
      have e:L++cA (i+1)=((L++cA i)++fE i 400)++[iE i]:=by simp[cA]
      rw[e];exact dH Prod.fst (rG (iE i) ((L++cA i)++fE i 400) (aR c))
     have g0:(aY (aR c) ((L++cA i)++fE i 0)).1=(aY (aR c) (L++cA i)).1:=by simp[fE]
     have hroom2:∀(i':Nat) (n:G.Node),i'<i+1->(aY (aR c) (L++cA i')).1.ns[i']? =some n->n.side.w.c.l.length+W.length<=60:=fun i' n' h h'=>by
      by_cases e:i'=i
      ·subst e;rw[hn]at h';cases h';omega
      ·exact hroom i' n' (by omega) h'
     have wi:IntKind.wrap .i64 ((i:Int)+1)=i+1:=wrap_i64 (by omega) (by omega);obtain⟨F,hF⟩:∃F:Nat->G.bL,F=fun j=>(aY (aR c) ((L++cA i)++fE i j)).1:=⟨_,rfl⟩;have F0:F 0=(aY (aR c) (L++cA i)).1:=by rw[hF];exact g0
     have FS:∀j,F (j+1)=(bH (F j) (cU i)).1:=fun j=>by rw[hF];exact gS j
     have FO:∀j,j<=400->cN (F j) 100000/\(F j).ns.length=cR c:=fun j hj=>by
      rw[hF];have:=gO j;have:=gl j;exact⟨(gO j).1.up (by omega),(gO j).2.trans (by simp[aR])⟩
     have FR:(aY (aR c) (L++cA (i+1))).1=(bH (F 400) (iE i)).1:=by rw[hF];exact gR
     clear hF gS gR g0 gO okg gl;refine aQ.inv mixed rfl (ι:={k:Nat//k<=400}) (fun k=>[(9,bool true),(7,.ptr 128 0),(10,.ptr 2560 0),(13,aC (W.map aK)),(14,int i),(17,int k.1)]) (fun k=>BD 2560 (F k.1) (aI (F k.1) 0 (cR c))++[(128,.cells ((sM a).map .d) 46)]) 5888 (fun k=>400-k.1) ⟨0,by omega⟩ [] (by constructor<;>simp[hk,aI,F0]) ?_;rintro⟨j,hj⟩ BG hBG;refine CI.n ?_;simp[hk,aI];refine aJ (fun h4=>?_) (fun h4=>?_)<;>simp only[h4]<;>simp<;>(try simp only[nT,nF,dT,dF]at h4)
     ·obtain⟨o1,o2⟩:=FO j (by omega);have wj:IntKind.wrap .i64 ((j:Int)+1)=j+1:=wrap_i64 (by omega) (by omega);have s4:=FS j;generalize F j=K at o1 o2 s4⊢;refine CI.j [2560,2561,2562,2563,2564,2565] (wH K (cU i) _ o2 o1 (by omega) ⟨⟨by simp[cU,cQ,bs],by simp[cU,cQ,bs]⟩,by simp[cU],by simp[cU]⟩) ?_ (ha:=by simp[hk,aI,cU,cQ]) (hn:=by constructor<;>simp[fD,hk,aI,cU,cQ]) (hk:=by simp[hk,aI,cU,cQ]);simp[hk,aI,cU,cQ];rw[show(⟨8,(i:Int),0,0,[],[],⟨0,⟨#[]⟩,⟨#[]⟩,0,0⟩⟩:bJ)=cU i from rfl,<-s4];refine hBG _ ⟨j+1,by omega⟩ [] ?_ (by simp;omega);constructor<;>simp[wj,hk,aI]
     ·have ej:j=400:=by omega
      subst ej;obtain⟨o1,o2⟩:=FO 400 (by omega);refine CI.j [2560,2561,2562,2563,2564,2565] (wH (F 400) (iE i) _ o2 o1 (by omega) ⟨⟨by simp[iE,cQ,bs],by simp[iE,cQ,bs]⟩,by simp[iE],by simp[iE]⟩) ?_ (ha:=by simp[hk,aI,iE,cQ]) (hn:=by constructor<;>simp[fD,hk,aI,iE,cQ]) (hk:=by simp[hk,aI,iE,cQ]);simp[hk,aI,iE,cQ];rw[show(⟨5,(i:Int),0,0,[],[],⟨0,⟨#[]⟩,⟨#[]⟩,0,0⟩⟩:bJ)=iE i from rfl,<-FR];refine hB _ ⟨i+1,by omega,hroom2⟩ [] ?_ (by simp;omega);constructor<;>simp[wi,hk,aI]
  ·have ei:i=cR c:=by omega
   subst ei;have rm:=Hq c (by omega) (by omega) (l:=L) (by omega) hs (fun i n hn hi=>by rw[hW];exact hroom i n hi hn);have sp:(aY (aR c) (L++cA (cR c))).1.p=(aY (aR c) L).1.p:=by
    rw[dH Prod.fst (EJ (cA (cR c)) L (aR c))];exact(PT (cA (cR c)) (aY (aR c) L).1 (fun s h=>(EG _ s h).2.1)).1
   have hW2:dR (aY (aR c) (L++cA (cR c))).1.p=W:=by rw[sp];exact hW
   have fl':((L++cA (cR c)).length:Int)<=2000:=by rw[dQ,IK];omega
   generalize(aY (aR c) (L++cA (cR c))).1=N at rm fo1 fl hW2⊢;have sZ:=zb2 fo1.p (K:=3000) (by omega) rm (r:=20) (by omega);have bO:=NA fo1 20;rw[fl]at sZ bO;have hb:=ziY N 20 _ fl fo1 (by omega) (by omega);obtain⟨Z,hZ⟩:∃Z,l5 N (cR c) 20=Z:=⟨_,rfl⟩;rw[hZ]at hb sZ bO;refine CI.j [2560,2561,2562,2563,2564,2565] hb ?_ (ha:=by simp[hk,aI]) (hn:=by constructor<;>simp[fD,hk,aI]) (hk:=by simp[hk,aI]);simp[hk,aI];have ns:∀Y:G.bL,Y.ns.length=cR c->Y.ns≠[]:=fun Y h e=>by rw[e]at h;simp at h;omega
   refine CI.cc [2560,2561,2562,2563,2564,2565] (VN Z bO.2 bO.1 (VP sZ.set (ns Z bO.2))) ?_ (ha:=by simp[hk,aI]) (hn:=by constructor<;>simp[fD,hk,aI]) (hk:=by simp[hk,aI]);simp[hk,aI];have bZ:cN Z 200000:=bO.1.up (by omega);have zl:=bO.2;clear hB hroom rm hb B bO;have psan:=fo1.p;have okw:dK W:=QA tw;have p8:=iC tw;have wfit:∀r∈W,eL r=0:=fun r h=>pD tw h;refine aQ.inv mixed rfl (ι:={k:Nat×G.bL//k.1<=cR c/\C8 N k.2/\cN k.2 (200000+100*k.1)/\k.2.ns.length=cR c}) (fun k=>[(9,bool true),(7,.ptr 128 0),(10,.ptr 2560 0),(13,aC (W.map aK)),(18,int k.1.1)]) (fun k=>BD 2560 k.1.2 (aI k.1.2 0 (cR c))++[(128,.cells ((sM a).map .d) 46)]) 4416 (fun k=>cR c-k.1.1) ⟨(0,Z),by omega,sZ,bZ.up (by omega),zl⟩ [] (by constructor<;>simp[hk,aI]) ?_;rintro⟨⟨i,Y⟩,hi,sY,bY,yl⟩ B hB;simp only at hi sY bY yl;refine CI.n ?_;simp[hk,aI];refine CI.cc [2560,2561,2562,2563,2564,2565] (qG Y.c Y.p Y.lost (aI Y 0 (cR c)) (by rw[kW];omega) (by rw[kW];omega)) ?_ (ha:=by simp[hk,aI]) (hn:=by constructor<;>simp[fD,hk,aI]) (hk:=by simp[hk,aI]);simp[hk,aI];refine aJ (fun h2=>?_) (fun h2=>?_)<;>simp only[h2]<;>simp<;>(try simp only[nT,nF,dT,dF]at h2)
   ·obtain⟨n,hn⟩:∃n,Y.ns[i]? =some n:=⟨_,cI (by omega)⟩;have on:=bY.ok n (eH hn);obtain⟨q1,q2,q3,q4,q5,q6,q7,q8⟩:=sY.set.node i n hn;have q9:=VO sY.set hn;have sa:=za9 sY bY hn (okA i);have an:=zba sY.set psan hn a;rw[hW2]at q3 q9 an;rw[an]at sa;unfold lJ at q9;have wi:IntKind.wrap .i64 ((i:Int)+1)=i+1:=wrap_i64 (by omega) (by omega);refine CI.cc [2560,2561,2562,2563,2564,2565] (LK Y.c Y.p Y.lost (aI Y 0 (cR c)) i i n (by rw[kW];omega) (GC yl hn) rfl) ?_ (ha:=by simp[hk,aI]) (hn:=by constructor<;>simp[fD,hk,aI]) (hk:=by simp[hk,aI]);simp[hk,aI];refine CI.p (LL n.side on.d.x) ?_ (ha:=by simp[q9]);simp[q9];generalize(hC n.side).isSome=rd at sa⊢;have bK:=bY.step (okA i);have kl:=(uW bY (nJ i a)).trans yl;refine CI.j [2560,2561,2562,2563,2564,2565] (wH Y (nJ i a) _ yl bY (by omega) (okA i)) ?_ (ha:=by simp[hk,aI,nJ]) (hn:=by constructor<;>simp[fD,hk,aI,nJ]) (hk:=by simp[hk,aI,nJ]);simp[hk,aI,nJ];rw[show(⟨7,(i:Int),0,0,[],[],a⟩:bJ)=nJ i a from rfl];generalize(bH Y (nJ i a)).1=K at sa bK kl⊢;generalize(bH Y (nJ i a)).2=O at sa⊢;have gO:=fun j=>YY bK i j;have gSt:=fun j=>Pc (M:=K) (i:=i) (j:=j);have gSu:∀j,(goN K i j).2.n=0->goN K i (j+1)=bH (goN K i j).1 (cU i):=fun j h=>by rw[goN,aU h]
    have g0:goN K i 0=(K,fP 0):=rfl;generalize goN K i=G at sa gO gSt gSu g0⊢;refine aQ.inv mixed rfl (ι:={k:Nat//k<=6}) (fun k=>[(9,bool true),(7,.ptr 128 0),(10,.ptr 2560 0),(13,aC (W.map aK)),(18,int i),(19,.ptr 5056 0),(21,aC ((dO W).map aK)),(22,bool rd),(23,.ptr 6016 0),(24,.ptr 6144 0),(25,int k.1)]) (fun k=>BD 2560 (G k.1).1 (aI (G k.1).1 0 (cR c))++[(128,.cells ((sM a).map .d) 46),(5056,.cells ((jQ n.side).map .d) 61),(6016,.cells ((eV O).map .d) 42),(6144,.cells ((eV (G k.1).2).map .d) 42)]) 6272 (fun k=>6-k.1) ⟨0,by omega⟩ [] (by constructor<;>simp[hk,aI,g0,fP,iB]) ?_;rintro⟨j,hj⟩ BG hBG;obtain⟨o1,o2⟩:=gO j;have o2:=o2.trans kl;have wj:IntKind.wrap .i64 ((j:Int)+1)=j+1:=wrap_i64 (by omega) (by omega);refine CI.n ?_;simp[hk,aI];by_cases hgo:(j:Int)<6/\(G j).2.n=0
    ·obtain⟨h6,hz⟩:=hgo;have s4:=gSu j hz;generalize G j=X at o1 o2 s4 hz⊢;simp[h6,hz];refine CI.j [2560,2561,2562,2563,2564,2565] (wH X.1 (cU i) _ o2 o1 (by omega) (Js i)) ?_ (ha:=by simp[hk,aI,cU,cQ]) (hn:=by constructor<;>simp[fD,hk,aI,cU,cQ]) (hk:=by simp[hk,aI,cU,cQ]);simp[hk,aI,cU,cQ];rw[show(⟨8,(i:Int),0,0,[],[],⟨0,⟨#[]⟩,⟨#[]⟩,0,0⟩⟩:bJ)=cU i from rfl,<-s4];refine hBG _ ⟨j+1,by omega⟩ [] ?_ (by simp;omega);constructor<;>simp[wj,hk,aI]
    ·have e6:G 6=G j:=by
      by_cases hz:(G j).2.n=0
      ·have:j=6:=by omega
       rw[this]
      ·have:=gSt j hz (6-j)
       rwa[show j+(6-j)=6 by omega]at this
     rw[e6]at sa;obtain⟨sa1,sa2⟩:=sa;generalize G j=X at o1 o2 sa1 sa2 hgo⊢;obtain⟨X1,X2⟩:=X;simp only at o1 o2 sa1 sa2 hgo;have fin:cN X1 (200000+100*((i+1:Nat):Int)):=o1.up (by omega);by_cases h6:(j:Int)<6
     ·have hz:¬X2.n=0:=fun e=>hgo ⟨h6,e⟩;simp[h6,hz];simp[q3];refine CI.p (B7 W W okw) ?_;simp;refine CI.p (II W p8 (by omega)) ?_;simp;refine CI.p (B7 (dO W) (dO W) (QC okw _)) ?_;simp;by_cases he:O.e=0
      ·obtain⟨t1,t2⟩:=sa2 he;simp[he,t1];refine CI.p (TJ W rd a (by omega) wfit (by omega) (by omega)) ?_ (ha:=by simp[t2]);simp[t2];refine⟨by decide+kernel,?_⟩;refine hB _ ⟨(i+1,X1),by simp;omega,sa1,fin,o2⟩ [] ?_ (by simp;omega);constructor<;>simp[wi,hk,aI]
      ·simp[he];refine⟨by decide+kernel,?_⟩;refine hB _ ⟨(i+1,X1),by simp;omega,sa1,fin,o2⟩ [] ?_ (by simp;omega);constructor<;>simp[wi,hk,aI]
     ·simp[h6];simp[q3];refine CI.p (B7 W W okw) ?_;simp;refine CI.p (II W p8 (by omega)) ?_;simp;refine CI.p (B7 (dO W) (dO W) (QC okw _)) ?_;simp;by_cases he:O.e=0
      ·obtain⟨t1,t2⟩:=sa2 he;simp[he,t1];refine CI.p (TJ W rd a (by omega) wfit (by omega) (by omega)) ?_ (ha:=by simp[t2]);simp[t2];refine⟨by decide+kernel,?_⟩;refine hB _ ⟨(i+1,X1),by simp;omega,sa1,fin,o2⟩ [] ?_ (by simp;omega);constructor<;>simp[wi,hk,aI]
      ·simp[he];refine⟨by decide+kernel,?_⟩;refine hB _ ⟨(i+1,X1),by simp;omega,sa1,fin,o2⟩ [] ?_ (by simp;omega);constructor<;>simp[wi,hk,aI]
   ·refine CI.cc [2560,2561,2562,2563,2564,2565] (VN Y yl bY (VP sY.set (ns Y yl))) ?_ (ha:=by simp[hk,aI]) (hn:=by constructor<;>simp[fD,hk,aI]) (hk:=by simp[hk,aI]);simp[hk,aI];have zt:=wH Y pP _ yl bY (by omega) ⟨⟨by simp[pP,cQ,bs],by simp[pP,cQ,bs]⟩,by simp[pP],by simp[pP]⟩;rw[Ek sY.set (ns Y yl)]at zt;refine CI.j [2560,2561,2562,2563,2564,2565] zt ?_ (ha:=by simp[hk,aI,pP,cQ]) (hn:=by constructor<;>simp[fD,hk,aI,pP,cQ]) (hk:=by simp[hk,aI,pP,cQ]);simp[hk,aI,EM,iB];exact⟨[],by constructor<;>simp[aV,aW,hk,aI]⟩
theorem zaZ (c:bS)(l:List bJ)(aD:List aA)(a:G.Ask)(ha:∀s∈l,dK s.aD)(hl:l.length<=9223372036854775807)(hr:dK aD)(hf:mJ l=false):cO eY prog 4 [st (jR c),aC (l.map cZ),aC (aD.map aK),st (sM a)] [] [] (bool true) []:=by
 refine cO.B lZ func4 ?_;simp;refine CI.j [] ND ?_;simp;refine CI.p (MX l ha hl) ?_ (ha:=by simp[hf]);simp[hf];exact aB (by simp[hf]) rfl
theorem LN (c:bS)(l:List bJ)(aD:List aA)(a:G.Ask)(ha:∀s∈l,dK s.aD)(hl:l.length<=9223372036854775807)(hr:dK aD)(hf:mJ l=true)(hx:c.iG<64\/(¬c.iG<64/\c.max<1000)\/(¬c.iG<64/\¬c.max<1000/\yI aD=false)\/(¬c.iG<64/\¬c.max<1000/\yI aD=true/\(100:Int)<a.host.size)\/(¬c.iG<64/\¬c.max<1000/\yI aD=true/\¬(100:Int)<a.host.size/\(100:Int)<a.path.size)):cO eY prog 4 [st (jR c),aC (l.map cZ),aC (aD.map aK),st (sM a)] [] [] (bool true) []:=by
 refine cO.B lZ func4 ?_;simp;refine CI.j [] ND ?_;simp;refine CI.p (MX l ha hl) ?_ (ha:=by simp[hf]);simp[hf];rcases hx with h1|⟨h1,h2⟩|⟨h1,h2,h3⟩|⟨h1,h2,h3,h4⟩|⟨h1,h2,h3,h4,h5⟩
 ·simp[h1];exact aB (by simp[hf]) rfl
 ·simp[h1,h2];exact aB (by simp[hf]) rfl
 ·simp[h1,h2];refine CI.p (MY aD hr) ?_ (ha:=by simp[h3]);simp[h3];exact aB (by simp[hf]) rfl
 ·simp[h1,h2];refine CI.p (MY aD hr) ?_ (ha:=by simp[h3]);simp[h3];simp[h4];exact aB (by simp[hf]) rfl
 ·simp[h1,h2];refine CI.p (MY aD hr) ?_ (ha:=by simp[h3]);simp[h3];simp[h4,h5];exact aB (by simp[hf]) rfl
theorem Vy (c:bS)(l:List bJ)(aD:List aA)(a:G.Ask)(h:l.length<=9223372036854775807/\∀s∈l,J9 s)(hr:dK aD):cO eY prog 4 [st (jR c),aC (l.map cZ),aC (aD.map aK),st (sM a)] [] [] (bool true) []:=by
 have hl:=h.1;have ha:∀s∈l,dK s.aD:=fun s hs=>(h.2 s hs).aD;by_cases hf:mJ l=true
 ·by_cases h1:c.iG<64
  ·exact LN c l aD a ha hl hr hf (.inl h1)
  by_cases h2:c.max<1000
  ·exact LN c l aD a ha hl hr hf (.inr (.inl ⟨h1,h2⟩))
  by_cases h3:yI aD=true
  ·by_cases h4:(100:Int)<a.host.size
   ·exact LN c l aD a ha hl hr hf (.inr (.inr (.inr (.inl ⟨h1,h2,h3,h4⟩))))
   by_cases h5:(100:Int)<a.path.size
   ·exact LN c l aD a ha hl hr hf (.inr (.inr (.inr (.inr ⟨h1,h2,h3,h4,h5⟩))))
   ·exact zaY c l aD a ha hl hr hf h1 h2 h3 h4 h5
  ·exact LN c l aD a ha hl hr hf (.inr (.inr (.inl ⟨h1,h2,by simpa using h3⟩)))
 ·exact zaZ c l aD a ha hl hr (by simpa using hf)
end Go.Proofs.YtegplpagkajolaaGreatDoor
