/-
  LAYER 24: the mesh settles.
-/
import Derived.Test.YtegplpagkajolaaGreatDoorWo
import Derived.Test.YtegplpagkajolaaGreatDoorPu
import Derived.Test.YtegplpagkajolaaGreatDoorPt
import Derived.Test.YtegplpagkajolaaGreatDoorWe
import Derived.Test.YtegplpagkajolaaGreatDoorWc
import Derived.Test.YtegplpagkajolaaGreatDoorWu
set_option linter.unusedSimpArgs false
set_option linter.unusedVariables false
set_option maxRecDepth 100000
set_option maxHeartbeats 8000000
namespace Go.Proofs.YtegplpagkajolaaGreatDoor
open Go.AI Go.G Tryz
theorem zi0 (M:G.bL)(r:Nat)(B:Int){c:Nat}(h0:M.ns.length=c)(hM:cN M B)(hB:B<=1000000)(hr:r<=100):cO eY prog 32 [.ptr 0 0,int r] [] (BC M.c M.p M.lost (aI M 0 c)) (.bI []) (BC (l5 M c r).c (l5 M c r).p (l5 M c r).lost (aI (l5 M c r) 0 c)):=by
 have hc:c=1\/c=2\/c=3\/c=4:=by have:=hM.n1;have:=hM.n4;omega
 have f1:=fun n=>NA hM n;rw[h0]at f1;have f2:∀n,l5 M c (n+1)=iS (l5 M c n) c:=fun n=>rfl;have f0:l5 M c 0=M:=rfl;generalize l5 M c=F at f0 f1 f2⊢;rcases hc with hk|hk|hk|hk
 all_goals
  refine cO.B lZ func32 ?_;simp;refine aQ.inv mixed rfl (ι:={k:Nat//k<=r}) (fun k=>[(0,.ptr 0 0),(1,int r),(4,int k.1)]) (fun k=>BC (F k.1).c (F k.1).p (F k.1).lost (aI (F k.1) 0 c)) 64 (fun k=>r-k.1) ⟨0,by omega⟩ [] (by constructor<;>simp[hk,aI,f0]) ?_;rintro⟨n,hn⟩ BA hBA;refine CI.n ?_;simp[hk,aI];refine aJ (fun h1=>?_) (fun h1=>?_)<;>simp only[h1]<;>simp<;>(try simp only[nT,nF,dT,dF]at h1)
  ·have b1:=f1 n;have s1:=f2 n;have wn:IntKind.wrap .i64 ((n:Int)+1)=n+1:=wrap_i64 (by omega) (by omega);generalize F n=N at b1 s1⊢;obtain⟨n1,n2⟩:=b1;refine aQ.inv mixed rfl (ι:={k:Nat//k<=c}) (fun k=>[(0,.ptr 0 0),(1,int r),(4,int n),(5,int k.1)]) (fun k=>BC (iS N k.1).c (iS N k.1).p (iS N k.1).lost (aI (iS N k.1) 0 c)) 320 (fun k=>c-k.1) ⟨0,by omega⟩ [] (by constructor<;>simp[hk,aI,iS]) ?_;rintro⟨i,hi⟩ BB hBB;have b2:=S6 n1 i (by omega);have s2:iS N (i+1)=C3 (iS N i) i:=rfl;have wi:IntKind.wrap .i64 ((i:Int)+1)=i+1:=wrap_i64 (by omega) (by omega);refine CI.n ?_;simp[hk,aI];refine CI.cc [0,1,2,3,4,5] (qG (iS N i).c (iS N i).p (iS N i).lost (aI (iS N i) 0 c) (by rw[kW];omega) (by rw[kW];omega)) ?_ (ha:=by simp[hk,aI]) (hn:=by constructor<;>simp[fD,hk,aI]) (hk:=by simp[hk,aI]);simp[hk,aI];refine aJ (fun h2=>?_) (fun h2=>?_)<;>simp only[h2]<;>simp<;>(try simp only[nT,nF,dT,dF]at h2)
   ·generalize iS N i=V at b2 s2⊢;obtain⟨v1,v2⟩:=b2;refine aQ.inv mixed rfl (ι:={k:Nat//k<=2}) (fun k=>[(0,.ptr 0 0),(1,int r),(4,int n),(5,int i),(6,int k.1)]) (fun k=>BC (o5 V i k.1).c (o5 V i k.1).p (o5 V i k.1).lost (aI (o5 V i k.1) 0 c)) 640 (fun k=>2-k.1) ⟨0,by omega⟩ [] (by constructor<;>simp[hk,aI,o5]) ?_;rintro⟨w,hw⟩ BC_ hBC;have b3:=Z4 v1 (i:=i) (by omega) w;have s3:o5 V i (w+1)=vQ (o5 V i w) i w:=rfl;have ww:IntKind.wrap .i64 ((w:Int)+1)=w+1:=wrap_i64 (by omega) (by omega);refine CI.n ?_;simp[hk,aI];refine aJ (fun h3=>?_) (fun h3=>?_)<;>simp only[h3]<;>simp<;>(try simp only[nT,nF,dT,dF]at h3)
    ·generalize o5 V i w=W at b3 s3⊢;obtain⟨w1,w2⟩:=b3;have sl:W.ns.length=c:=w2.trans (v2.trans n2);obtain⟨x,hx⟩:∃x,W.ns[i]? =some x:=⟨_,cI (by omega)⟩;have hl:=XW w1 hx w;rw[vQ,L4 hx]at s3;refine CI.cc [0,1,2,3,4,5] (Bt W.c W.p W.lost (aI W 0 c) i w i x (by rw[kW];omega) (GC sl hx) rfl (by omega)) ?_ (ha:=by simp[hk,aI]) (hn:=by constructor<;>simp[fD,hk,aI]) (hk:=by simp[hk,aI]);simp[hk,aI];generalize dA x (w:Int)=L at hl s3⊢;refine aQ.inv mixed rfl (ι:={k:Nat//k<=L.q.length}) (fun k=>[(0,.ptr 0 0),(1,int r),(4,int n),(5,int i),(6,int w),(7,.ptr 1216 0),(9,int k.1)]) (fun k=>BC (pL W i w k.1).c (pL W i w k.1).p (pL W i w k.1).lost (aI (pL W i w k.1) 0 c)++[(1216,.cells ((kR L).map .d) 108)]) 1472 (fun k=>L.q.length-k.1) ⟨0,by omega⟩ [] (by constructor<;>simp[hk,aI,pL]) ?_;rintro⟨j,hj⟩ BD_ hBD;have b4:=S7 w1 i (w:=(w:Int)) j;have s4:pL W i w (j+1)=(bH (pL W i w j) (iQ i w)).1:=rfl;have wj:IntKind.wrap .i64 ((j:Int)+1)=j+1:=wrap_i64 (by omega) (by omega);refine CI.n ?_;simp[hk,aI];refine aJ (fun h4=>?_) (fun h4=>?_)<;>simp only[h4]<;>simp<;>(try simp only[nT,nF,dT,dF]at h4)
     ·generalize pL W i w j=K at b4 s4⊢;refine CI.j [0,1,2,3,4,5] (wH K (iQ i w) _ (b4.2.trans sl) b4.1 (by omega) (Jt i w)) ?_ (ha:=by simp[hk,aI,iQ,cQ]) (hn:=by constructor<;>simp[fD,hk,aI,iQ,cQ]) (hk:=by simp[hk,aI,iQ,cQ]);simp[hk,aI,iQ,cQ];rw[show(⟨1,(i:Int),(w:Int),0,[],[],⟨0,⟨#[]⟩,⟨#[]⟩,0,0⟩⟩:bJ)=iQ i w from rfl,<-s4];refine hBD _ ⟨j+1,by omega⟩ [] ?_ (by simp;omega);constructor<;>simp[wj,hk,aI]
     ·have ej:j=L.q.length:=by omega
      subst ej;rw[<-s3];refine hBC _ ⟨w+1,by omega⟩ [] ?_ (by simp;omega);constructor<;>simp[ww,hk,aI]
    ·have ew:w=2:=by omega
     subst ew;have e2:o5 V i 2=iS N (i+1):=s2.symm;rw[e2];refine hBB _ ⟨i+1,by omega⟩ [] ?_ (by simp;omega);constructor<;>simp[wi,hk,aI]
   ·have ei:i=c:=by omega
    rw[ei,<-s1];refine hBA _ ⟨n+1,by omega⟩ [] ?_ (by simp;omega);constructor<;>simp[wn,hk,aI]
  ·have en:n=r:=by omega
   subst en;exact⟨[],by constructor<;>simp[aV,aW,hk,aI]⟩
attribute [simp] ntmps5 results5
theorem zaX (c:bS)(l:List bJ)(ha:∀s∈l,dK s.aD)(hl:l.length<=9223372036854775807)(hf:mJ l=true)(hl6:¬c.iG<64)(hm1:¬c.max<1000):cO eY prog 5 [st (jR c),aC (l.map cZ)] [] [] (bool true) []:=by
 obtain⟨h60,hs⟩:=QD hf;rcases HZ c with hk|hk|hk|hk
 all_goals
  refine cO.B lZ func5 ?_;simp;refine CI.j [] JW ?_;simp;refine CI.p (JN l ha hl) ?_ (ha:=by simp[hf]);simp[hf];simp[hl6,hm1];refine CI.p (Ri c) ?_;simp;refine CI.p (Di l (by omega)) ?_;simp;refine CI.j [] (Hy c l (by omega) hs) ?_ (ha:=by simp[hk,aI]) (hn:=by constructor<;>simp[fD,hk,aI]) (hk:=by simp[hk,aI]);simp[hk,aI];have q:(aY (aR c) l).1.ns.length=cR c:=(mG l (cN.new c) hs).2.trans (by simp[aR]);have okm:=(mG l (cN.new c) hs).1;have np:=(rB _).1 okm.p;refine CI.cc [1408,1409,1410,1411,1412,1413] (Df (aY (aR c) l).1.c (aY (aR c) l).1.p (aY (aR c) l).1.lost (aI (aY (aR c) l).1 0 (cR c)) (by rw[kW];omega) (by rw[kW];omega)) ?_ (ha:=by simp[hk,aI]) (hn:=by constructor<;>simp[fD,hk,aI]) (hk:=by simp[hk,aI]);simp[hk,aI];obtain⟨W,hW⟩:∃W,dR (aY (aR c) l).1.p=W:=⟨_,rfl⟩;have hW':fW (gZ (aY (aR c) l).1.p)=W:=hW;refine CI.p (AX (aY (aR c) l).1.p (by omega)) ?_ (ha:=by simp[hW']);simp[hW'];have hl4:cR c<=4:=by omega
  have okp:∀k,∀s∈l++cA k,eK s:=fun k s h=>(dN.1 h).elim (hs s) fun g=>(EG k s g).1;have fo:=fun k=>mG (M:=aR c) (l++cA k) (cN.new c) (okp k);have f0:(aY (aR c) (l++cA 0)).1=(aY (aR c) l).1:=by simp[cA]
  have wl:(dR (aY (aR c) l).1.p).length<=1000:=by have:=CO okm.p;unfold fF at this;split at this<;>omega
  rw[hW]at wl;refine aQ.inv mixed rfl (ι:={k:Nat//k<=cR c/\∀(i:Nat) (n:G.Node),i<k->(aY (aR c) (l++cA i)).1.ns[i]? =some n->n.side.w.c.l.length+W.length<=60}) (fun k=>[(5,bool true),(6,.ptr 1408 0),(9,aC (W.map aK)),(10,int k.1)]) (fun k=>BD 1408 (aY (aR c) (l++cA k.1)).1 (aI (aY (aR c) (l++cA k.1)).1 0 (cR c))) 2368 (fun k=>cR c-k.1) ⟨0,by omega,fun i n h=>absurd h (by omega)⟩ [] (by constructor<;>simp[hk,aI,f0]) ?_;rintro⟨i,hi,hroom⟩ B hB;refine CI.n ?_;simp[hk,aI];obtain⟨fo1,fo2⟩:=fo i;have fl:(aY (aR c) (l++cA i)).1.ns.length=cR c:=fo2.trans (by simp[aR]);refine CI.cc [1408,1409,1410,1411,1412,1413] (qG (aY (aR c) (l++cA i)).1.c (aY (aR c) (l++cA i)).1.p (aY (aR c) (l++cA i)).1.lost (aI (aY (aR c) (l++cA i)).1 0 (cR c)) (by rw[kW];omega) (by rw[kW];omega)) ?_ (ha:=by simp[hk,aI]) (hn:=by constructor<;>simp[fD,hk,aI]) (hk:=by simp[hk,aI]);simp[hk,aI];refine aJ (fun h1=>?_) (fun h1=>?_)<;>simp only[h1]<;>simp<;>(try simp only[nT,nF,dT,dF]at h1)
  ·have hi':i<cR c:=by omega
   have ok:=fo1.ok;obtain⟨n,hn⟩:∃n,(aY (aR c) (l++cA i)).1.ns[i]? =some n:=⟨_,cI (by omega)⟩;have on:=fo1.ok n (eH hn);have lw:n.side.w.c.l.length<=1000:=on.d.x.cl;have lh:=MQ on.d.x.pins;refine CI.cc [1408,1409,1410,1411,1412,1413] (LK (aY (aR c) (l++cA i)).1.c (aY (aR c) (l++cA i)).1.p (aY (aR c) (l++cA i)).1.lost (aI (aY (aR c) (l++cA i)).1 0 (cR c)) i i n (by rw[kW];omega) (GC fl hn) rfl) ?_ (ha:=by simp[hk,aI]) (hn:=by constructor<;>simp[fD,hk,aI]) (hk:=by simp[hk,aI]);simp[hk,aI];have wz:IntKind.wrap .i64 ((n.side.w.c.l.length:Int)+W.length)=n.side.w.c.l.length+W.length:=wrap_i64 (by omega) (by omega);have wy:IntKind.wrap .i64 (((fH n.side.p).length:Int)+W.length)=(fH n.side.p).length+W.length:=wrap_i64 (by omega) (by omega);by_cases hr1:(60:Int)<(n.side.w.c.l.length:Int)+W.length
   ·simp[wz,hr1];exact⟨[],by constructor<;>simp[aV,aW,hk,aI]⟩
   ·simp[wz,hr1];refine CI.p (JF n.side.p on.d.x.pins) ?_ (ha:=by simp[wy]);simp[wy];refine aJ (fun hr2=>?_) (fun hr2=>?_)<;>simp only[hr2]<;>simp<;>(try simp only[nT,nF,dT,dF]at hr2)
    ·exact⟨[],by constructor<;>simp[aV,aW,hk,aI]⟩
    ·have okg:∀j,∀s∈(l++cA i)++fE i j,eK s:=fun j s h=>by
      rcases dN.1 h with g|g
      ·exact okp i s g
      ·rw[GU g];exact⟨⟨by simp[cU,cQ,bs],by simp[cU,cQ,bs]⟩,by simp[cU],by simp[cU]⟩
     have gl:∀j,((l++cA i)++fE i j).length<=2000+j:=fun j=>by rw[dQ,dQ,IK];simp only[fE,KK];omega
     have gO:=fun j=>mG (M:=aR c) ((l++cA i)++fE i j) (cN.new c) (okg j);have gS:∀j,(aY (aR c) ((l++cA i)++fE i (j+1))).1=(bH (aY (aR c) ((l++cA i)++fE i j)).1 (cU i)).1:=fun j=>by
      have e:(l++cA i)++fE i (j+1)=((l++cA i)++fE i j)++[cU i]:=by
       show(l++cA i)++List.replicate (j+1) (cU i)=_;rw[List.replicate_succ',<-AE];rfl
      rw[e];exact dH Prod.fst (rG (cU i) ((l++cA i)++fE i j) (aR c))
     have gR:(aY (aR c) (l++cA (i+1))).1=(bH (aY (aR c) ((l++cA i)++fE i 400)).1 (iE i)).1:=by
      have e:l++cA (i+1)=((l++cA i)++fE i 400)++[iE i]:=by simp[cA]
      rw[e];exact dH Prod.fst (rG (iE i) ((l++cA i)++fE i 400) (aR c))
     have g0:(aY (aR c) ((l++cA i)++fE i 0)).1=(aY (aR c) (l++cA i)).1:=by simp[fE]
     have hroom2:∀(i':Nat) (n:G.Node),i'<i+1->(aY (aR c) (l++cA i')).1.ns[i']? =some n->n.side.w.c.l.length+W.length<=60:=fun i' n' h h'=>by
      by_cases e:i'=i
      ·subst e;rw[hn]at h';cases h';omega
      ·exact hroom i' n' (by omega) h'
     have wi:IntKind.wrap .i64 ((i:Int)+1)=i+1:=wrap_i64 (by omega) (by omega);obtain⟨F,hF⟩:∃F:Nat->G.bL,F=fun j=>(aY (aR c) ((l++cA i)++fE i j)).1:=⟨_,rfl⟩;have F0:F 0=(aY (aR c) (l++cA i)).1:=by rw[hF];exact g0
     have FS:∀j,F (j+1)=(bH (F j) (cU i)).1:=fun j=>by rw[hF];exact gS j
     have FO:∀j,j<=400->cN (F j) 100000/\(F j).ns.length=cR c:=fun j hj=>by
      rw[hF];have:=gO j;have:=gl j;exact⟨(gO j).1.up (by omega),(gO j).2.trans (by simp[aR])⟩
     have FR:(aY (aR c) (l++cA (i+1))).1=(bH (F 400) (iE i)).1:=by rw[hF];exact gR
     clear hF gS gR g0 gO okg gl;refine aQ.inv mixed rfl (ι:={k:Nat//k<=400}) (fun k=>[(5,bool true),(6,.ptr 1408 0),(9,aC (W.map aK)),(10,int i),(13,int k.1)]) (fun k=>BD 1408 (F k.1) (aI (F k.1) 0 (cR c))) 4480 (fun k=>400-k.1) ⟨0,by omega⟩ [] (by constructor<;>simp[hk,aI,F0]) ?_;rintro⟨j,hj⟩ BG hBG;refine CI.n ?_;simp[hk,aI];refine aJ (fun h4=>?_) (fun h4=>?_)<;>simp only[h4]<;>simp<;>(try simp only[nT,nF,dT,dF]at h4)
     ·obtain⟨o1,o2⟩:=FO j (by omega);have wj:IntKind.wrap .i64 ((j:Int)+1)=j+1:=wrap_i64 (by omega) (by omega);have s4:=FS j;generalize F j=K at o1 o2 s4⊢;refine CI.j [1408,1409,1410,1411,1412,1413] (wH K (cU i) _ o2 o1 (by omega) ⟨⟨by simp[cU,cQ,bs],by simp[cU,cQ,bs]⟩,by simp[cU],by simp[cU]⟩) ?_ (ha:=by simp[hk,aI,cU,cQ]) (hn:=by constructor<;>simp[fD,hk,aI,cU,cQ]) (hk:=by simp[hk,aI,cU,cQ]);simp[hk,aI,cU,cQ];rw[show(⟨8,(i:Int),0,0,[],[],⟨0,⟨#[]⟩,⟨#[]⟩,0,0⟩⟩:bJ)=cU i from rfl,<-s4];refine hBG _ ⟨j+1,by omega⟩ [] ?_ (by simp;omega);constructor<;>simp[wj,hk,aI]
     ·have ej:j=400:=by omega
      subst ej;obtain⟨o1,o2⟩:=FO 400 (by omega);refine CI.j [1408,1409,1410,1411,1412,1413] (wH (F 400) (iE i) _ o2 o1 (by omega) ⟨⟨by simp[iE,cQ,bs],by simp[iE,cQ,bs]⟩,by simp[iE],by simp[iE]⟩) ?_ (ha:=by simp[hk,aI,iE,cQ]) (hn:=by constructor<;>simp[fD,hk,aI,iE,cQ]) (hk:=by simp[hk,aI,iE,cQ]);simp[hk,aI,iE,cQ];rw[show(⟨5,(i:Int),0,0,[],[],⟨0,⟨#[]⟩,⟨#[]⟩,0,0⟩⟩:bJ)=iE i from rfl,<-FR];refine hB _ ⟨i+1,by omega,hroom2⟩ [] ?_ (by simp;omega);constructor<;>simp[wi,hk,aI]
  ·have ei:i=cR c:=by omega
   subst ei;have rm:=Hq c (by omega) (by omega) (l:=l) (by omega) hs (fun i n hn hi=>by rw[hW];exact hroom i n hi hn);have sp:(aY (aR c) (l++cA (cR c))).1.p=(aY (aR c) l).1.p:=by
    rw[dH Prod.fst (EJ (cA (cR c)) l (aR c))];exact(PT (cA (cR c)) (aY (aR c) l).1 (fun s h=>(EG _ s h).2.1)).1
   have hW2:dR (aY (aR c) (l++cA (cR c))).1.p=W:=by rw[sp];exact hW
   have fl':((l++cA (cR c)).length:Int)<=2000:=by rw[dQ,IK];omega
   have tw:=CO okm.p;rw[hW]at tw;generalize(aY (aR c) (l++cA (cR c))).1=N at rm fo1 fl hW2⊢;have sN:=Gj fo1.p (K:=3000) (by omega) rm (r:=20) (by omega);have bO:=NA fo1 20;rw[fl]at sN bO;refine CI.cc [1408,1409,1410,1411,1412,1413] (Mn N.c N.p N.lost (aI N 0 (cR c)) (by rw[kW];omega) (by rw[kW];omega)) ?_ (ha:=by simp[hk,aI]) (hn:=by constructor<;>simp[fD,hk,aI]) (hk:=by simp[hk,aI]);simp[hk,aI];have hb:=zi0 N 20 _ fl fo1 (by omega) (by omega);obtain⟨Z,hZ⟩:∃Z,l5 N (cR c) 20=Z:=⟨_,rfl⟩;rw[hZ]at hb sN bO;refine CI.j [1408,1409,1410,1411,1412,1413] hb ?_ (ha:=by simp[hk,aI]) (hn:=by constructor<;>simp[fD,hk,aI]) (hk:=by simp[hk,aI]);simp[hk,aI];have zn:Z.ns≠[]:=fun e=>by have:=bO.2;rw[e]at this;simp at this;omega
   have zt:=wH Z pP _ bO.2 bO.1 (by omega) ⟨⟨by simp[pP,cQ,bs],by simp[pP,cQ,bs]⟩,by simp[pP],by simp[pP]⟩;rw[Ek sN zn]at zt;refine CI.j [1408,1409,1410,1411,1412,1413] zt ?_ (ha:=by simp[hk,aI,pP,cQ]) (hn:=by constructor<;>simp[fD,hk,aI,pP,cQ]) (hk:=by simp[hk,aI,pP,cQ]);simp[hk,aI,EM,iB];refine CI.cc [1408,1409,1410,1411,1412,1413] (VN Z bO.2 bO.1 (VP sN zn)) ?_ (ha:=by simp[hk,aI]) (hn:=by constructor<;>simp[fD,hk,aI]) (hk:=by simp[hk,aI]);simp[hk,aI];refine CI.cc [1408,1409,1410,1411,1412,1413] (Mn Z.c Z.p Z.lost (aI Z 0 (cR c)) (by rw[kW];omega) (by rw[kW];omega)) ?_ (ha:=by simp[hk,aI,sN.GI.lost]) (hn:=by constructor<;>simp[fD,hk,aI,sN.GI.lost]) (hk:=by simp[hk,aI,sN.GI.lost]);simp[hk,aI,sN.GI.lost];clear hB hroom rm hb zt B;refine aQ.inv mixed rfl (ι:={k:Nat//k<=cR c}) (fun k=>[(5,bool true),(6,.ptr 1408 0),(9,aC (W.map aK)),(16,int k.1)]) (fun k=>BD 1408 Z (aI Z 0 (cR c))) 4224 (fun k=>cR c-k.1) ⟨0,by omega⟩ [] (by constructor<;>simp[hk,aI,sN.GI.lost]) ?_;rintro⟨i,hi⟩ B hB;refine CI.n ?_;simp[hk,aI];refine CI.cc [1408,1409,1410,1411,1412,1413] (qG Z.c Z.p Z.lost (aI Z 0 (cR c)) (by rw[kW];omega) (by rw[kW];omega)) ?_ (ha:=by simp[hk,aI]) (hn:=by constructor<;>simp[fD,hk,aI]) (hk:=by simp[hk,aI]);simp[hk,aI];refine aJ (fun h2=>?_) (fun h2=>?_)<;>simp only[h2]<;>simp<;>(try simp only[nT,nF,dT,dF]at h2)
   ·obtain⟨n,hn⟩:∃n,Z.ns[i]? =some n:=⟨_,cI (by omega)⟩;have on:=bO.1.ok n (eH hn);obtain⟨q1,q2,q3,q4,q5,q6,q7,q8⟩:=sN.node i n hn;have q9:=VO sN hn;rw[hW2]at q3 q9;unfold lJ at q9;have wi:IntKind.wrap .i64 ((i:Int)+1)=i+1:=wrap_i64 (by omega) (by omega);have okw:dK W:=QA tw;have p8:=iC tw;have q7':¬(1:Int)<n.side.p.aX.length:=by omega
    refine CI.cc [1408,1409,1410,1411,1412,1413] (LK Z.c Z.p Z.lost (aI Z 0 (cR c)) i i n (by rw[kW];omega) (GC bO.2 hn) rfl) ?_ (ha:=by simp[hk,aI]) (hn:=by constructor<;>simp[fD,hk,aI]) (hk:=by simp[hk,aI]);simp[hk,aI];refine CI.p (LL n.side on.d.x) ?_ (ha:=by simp[q9]);simp[q9];simp[q3];refine CI.p (Td W W okw) ?_;simp;refine CI.p (II W p8 (by omega)) ?_;simp;refine CI.p (Td (dO W) (dO W) (QC okw _)) ?_;simp;simp[q7'];refine hB _ ⟨i+1,by omega⟩ [] ?_ (by simp;omega);constructor<;>simp[wi,hk,aI]
   ·exact⟨[],by constructor<;>simp[aV,aW,hk,aI]⟩
theorem za0 (c:bS)(l:List bJ)(ha:∀s∈l,dK s.aD)(hl:l.length<=9223372036854775807)(hf:mJ l=false):cO eY prog 5 [st (jR c),aC (l.map cZ)] [] [] (bool true) []:=by
 refine cO.B lZ func5 ?_;simp;refine CI.j [] JW ?_;simp;refine CI.p (JN l ha hl) ?_ (ha:=by simp[hf]);simp[hf];exact aB (by simp[hf]) rfl
theorem za2 (c:bS)(l:List bJ)(ha:∀s∈l,dK s.aD)(hl:l.length<=9223372036854775807)(hf:mJ l=true)(h1:c.iG<64):cO eY prog 5 [st (jR c),aC (l.map cZ)] [] [] (bool true) []:=by
 refine cO.B lZ func5 ?_;simp;refine CI.j [] JW ?_;simp;refine CI.p (JN l ha hl) ?_ (ha:=by simp[hf]);simp[hf];simp[h1];exact aB (by simp[hf,h1]) rfl
theorem za1 (c:bS)(l:List bJ)(ha:∀s∈l,dK s.aD)(hl:l.length<=9223372036854775807)(hf:mJ l=true)(h1:¬c.iG<64)(h2:c.max<1000):cO eY prog 5 [st (jR c),aC (l.map cZ)] [] [] (bool true) []:=by
 refine cO.B lZ func5 ?_;simp;refine CI.j [] JW ?_;simp;refine CI.p (JN l ha hl) ?_ (ha:=by simp[hf]);simp[hf];simp[h1,h2];exact aB (by simp[hf,h1,h2]) rfl
theorem ze7 (c:bS)(l:List bJ)(h:l.length<=9223372036854775807/\∀s∈l,J9 s):cO eY prog 5 [st (jR c),aC (l.map cZ)] [] [] (bool true) []:=by
 have hl:=h.1;have ha:∀s∈l,dK s.aD:=fun s hs=>(h.2 s hs).aD;by_cases hf:mJ l=true
 ·by_cases h1:c.iG<64
  ·exact za2 c l ha hl hf h1
  ·by_cases h2:c.max<1000
   ·exact za1 c l ha hl hf h1 h2
   ·exact zaX c l ha hl hf h1 h2
 ·exact za0 c l ha hl (by simpa using hf)
end Go.Proofs.YtegplpagkajolaaGreatDoor
