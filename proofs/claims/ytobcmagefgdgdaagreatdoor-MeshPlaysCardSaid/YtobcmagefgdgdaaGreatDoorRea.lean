/- LAYER 24, THE REFERENCE, walked -/
import Derived.Test.YtobcmagefgdgdaaGreatDoorRda
import Derived.Test.YtobcmagefgdgdaaGreatDoorWna
set_option linter.unusedSimpArgs false
set_option linter.unusedVariables false
set_option maxRecDepth 100000
set_option maxHeartbeats 8000000
namespace Go.Proofs.YtobcmagefgdgdaaGreatDoor
open Go.AI Go.G Tryz
attribute [simp] ntmps126 results126 ntmps78 results78 ntmps124 results124
theorem Ee (l:dM)(f:G.Frame)(h:eA l)(he:dD f=0):C0 193 [st (gP l),aB ((kU f).map aV)] (.aU [st (gP (kW l f).1),int (kW l f).2]):=by
 have hl:=UG he;have:=OJ (dY l) (kU f) h.lk.len (by omega);rw[qC]at this;have hs:qB (dY l) (kU f)=(dY (kW l f).1,(kW l f).2):=by
  unfold qB kW;rw[h.sound,aT (by simp[he])];by_cases hq:32<=l.q.length
  ·rw[aZ hq,KK (by simpa[dY]using hq)]
  ·rw[aT hq,GX (by simpa[dY]using hq)];simp[dY]
 rw[hs,qC]at this;exact this
theorem Ed (l:dM)(b:List UInt8)(h:eA l)(hb:b.length<=200000):C0 193 [st (gP l),aB (b.map aV)] (.aU [st (iJ (qB (dY l) b).1),int (qB (dY l) b).2]):=by
 have:=OJ (dY l) b h.lk.len hb;rw[qC]at this;exact this
theorem Cn (l:dM)(i:Int)(h:eA l):C0 127 [st (gP l),int i] (.aU [st (gP (takeN l i).1),aB ((if l.q=[]then []else kU (takeN l i).2.1).map aV),int (takeN l i).2.2]):=by
 have:=NN (dY l) i h.lk.len;rw[NM h]at this;simpa only[qC]using this
theorem Pz (l:dM)(i:Int)(h:eA l):C0 132 [st (gP l),int i] (.aU [st (gP (vM l i).1),int (vM l i).2]):=by
 have:=ziq (dY l) i h.lk.len;rw[Py h]at this;simpa only[qC]using this
theorem Ss (l:dM)(i:Int)(h:eA l):C0 133 [st (gP l),int i] (.aU [st (gP (uL l i).1),int (uL l i).2]):=by
 have:=zk4 (dY l) i h.lk;rw[Sr h]at this;simpa only[qC]using this
theorem Nc (l:dM)(i:Int)(h:eA l):C0 134 [st (gP l),int i] (.aU [st (gP (uC l i).1),int (uC l i).2]):=by
 have:=zf2 (dY l) i h.lk;rw[Nb h]at this;simpa only[qC]using this
theorem G6 (l:dM)(h:eA l):C0 135 [st (gP l)] (.aU [st (gP (if l.aM=2147483647 then l else⟨l.aM+1,[]⟩)),int (if l.aM=2147483647 then 14 else 0)]):=by
 have:=zcb (dY l) h.lk.len;unfold C8 at this;rw[h.sound]at this;simp only[qC]at this;by_cases he:l.aM=2147483647
 ·rw[aZ (show(dY l).aM=2147483647 from he),qC]at this;simpa only[aZ he]using this
 ·rw[aT (show¬(dY l).aM=2147483647 from he)]at this;simp only[aT he];have e:iJ ⟨(dY l).aM+1,[]⟩=gP ⟨l.aM+1,[]⟩:=rfl;rw[e]at this;exact this
abbrev jK (c:bT)(p:aW)(lost:Int)(ns:List G.Node):List (Nat×aY):=[(0,.cells [int c.sides,int c.cap,int c.limit,int c.max,int p.cap,aB (p.bA.map oX),.own 1,int lost] 48),(1,.grow 52 (ns.map dZ) 145)]
theorem OI {ns:List G.Node}{i:Nat}{n:G.Node}(hi:ns[i]? =some n):ns.set i n=ns:=by
 obtain⟨h,rfl⟩:=cE.1 hi;simp
theorem GW {ns:List G.Node}{i:Nat}{n:G.Node}(hi:ns[i]? =some n)(m:G.Node):(ns.set i m)[i]? =some m:=by
 obtain⟨h,rfl⟩:=cE.1 hi;simp[h]
theorem xN {ns:List G.Node}{i:Nat}{n:G.Node}(hi:ns[i]? =some n):i<ns.length:=(cE.1 hi).1
theorem tH {ns:List G.Node}{i:Nat}{n:G.Node}(hi:ns[i]? =some n):ns[i]'(xN hi)=n:=(cE.1 hi).2
theorem VE (c:bT)(p:aW)(lost:Int)(ns:List G.Node)(i:Nat)(l:List G.Frame)(n:G.Node)(hi:ns[i]? =some n)(hln:ns.length<=1000)(hn:eA n.up)(hf:∀f∈l,fJ f)(hl:l.length<=1000)(h0:0<=lost)(h1:lost<=1000000000000):C1 126 [.ptr 0 0,int i,int 0,aB (l.map cA)] [] (jK c p lost ns) (.aU []) (jK c p (fM n.up lost l).2 (ns.set i {n with up:=(fM n.up lost l).1})):=by
 refine Ct.B func126 ?_;simp;have hid:=OI hi;have hlt:=xN hi;have hg:=tH hi;refine aH.V (l) (λk=>[(0,.ptr 0 0),(1,int i),(2,int 0),(3,aB (l.map cA)),(8,int k.1)]) (λk=>jK c p ((l.take k.1).foldl gM (n.up,lost)).2 (ns.set i {n with up:=((l.take k.1).foldl gM (n.up,lost)).1})) 64 (λk hk1 B hB=>?_) (h0:=by constructor<;>simp[hid]);simp[hid];rcases bC hk1 with⟨f,hk,hx,hr,hm,ht,hd,hw,h⟩|rfl
 ·simp[h,hr,hw];have hz:=ES (l.take k) (z:=(n.up,lost)) hn;have hlen:(l.take k).length<=1000:=by simp;omega
  have ht2:(l.take (k+1)).foldl gM (n.up,lost)=gM ((l.take k).foldl gM (n.up,lost)) f:=by rw[ht,qY];rfl
  generalize(l.take k).foldl gM (n.up,lost)=z at hz ht2⊢;have w1:=wrap_i64 (n:=z.2+1) (by simp only at hz;omega) (by simp only at hz;omega);by_cases he:dD f=0
  ·have hb:=BA (j9.1 he);refine CI.p (Gp f he) ?_ (ha:=by simp[hr]);simp[hr];refine CI.p (NA (j3 f) (by omega)) ?_ (ha:=by simp[hlt]);simp[hlt];refine CI.p (Ee z.1 f hz.1 he) ?_ (ha:=by simp[kU,hlt]);simp[kU,hlt];by_cases h2:(kW z.1 f).2=0
   ·have e:gM z f=((kW z.1 f).1,z.2):=aZ h2;rw[e]at ht2;simp[h2,hlt]
    repeat refine⟨by decide+kernel,?_⟩
    exact hB hk (by constructor<;>simp[hw,ht2])
   ·have e:gM z f=(z.1,z.2+1):=aT h2;rw[e]at ht2;simp[h2,w1];exact hB hk (by constructor<;>simp[hw,ht2])
  ·have e2:(kW z.1 f).2=dD f:=by simp[kW,he]
   have e:gM z f=(z.1,z.2+1):=aT (by rw[e2];exact he);rw[e]at ht2;refine CI.p (Gt f (hf f hm) he) ?_ (ha:=by simp[hr]);simp[hr];refine CI.p (NA [] (by simp)) ?_ (ha:=by simp[hlt]);simp[hlt];refine CI.p (Ed z.1 (oF []) hz.1 (by have:=cO 0;simp[oF];omega)) ?_ (ha:=by simp[hlt]);simp[hlt];simp[he,w1];exact hB hk (by constructor<;>simp[hw,ht2])
 ·simp;exact⟨[],by constructor<;>simp[aI,aJ,fM]⟩
theorem Eg (c:bT)(p:aW)(lost:Int)(ns:List G.Node)(i:Nat)(l:List G.Frame)(n:G.Node)(hi:ns[i]? =some n)(hln:ns.length<=1000)(hn:eA n.dn)(hf:∀f∈l,fJ f)(hl:l.length<=1000)(h0:0<=lost)(h1:lost<=1000000000000):C1 126 [.ptr 0 0,int i,int 1,aB (l.map cA)] [] (jK c p lost ns) (.aU []) (jK c p (fM n.dn lost l).2 (ns.set i {n with dn:=(fM n.dn lost l).1})):=by
 refine Ct.B func126 ?_;simp;have hid:=OI hi;have hlt:=xN hi;have hg:=tH hi;refine aH.V (l) (λk=>[(0,.ptr 0 0),(1,int i),(2,int 1),(3,aB (l.map cA)),(8,int k.1)]) (λk=>jK c p ((l.take k.1).foldl gM (n.dn,lost)).2 (ns.set i {n with dn:=((l.take k.1).foldl gM (n.dn,lost)).1})) 64 (λk hk1 B hB=>?_) (h0:=by constructor<;>simp[hid]);simp[hid];rcases bC hk1 with⟨f,hk,hx,hr,hm,ht,hd,hw,h⟩|rfl
 ·simp[h,hr,hw];have hz:=ES (l.take k) (z:=(n.dn,lost)) hn;have hlen:(l.take k).length<=1000:=by simp;omega
  have ht2:(l.take (k+1)).foldl gM (n.dn,lost)=gM ((l.take k).foldl gM (n.dn,lost)) f:=by rw[ht,qY];rfl
  generalize(l.take k).foldl gM (n.dn,lost)=z at hz ht2⊢;have w1:=wrap_i64 (n:=z.2+1) (by simp only at hz;omega) (by simp only at hz;omega);by_cases he:dD f=0
  ·have hb:=BA (j9.1 he);refine CI.p (Gp f he) ?_ (ha:=by simp[hr]);simp[hr];refine CI.p (NA (j3 f) (by omega)) ?_ (ha:=by simp[hlt]);simp[hlt];refine CI.p (Ee z.1 f hz.1 he) ?_ (ha:=by simp[kU,hlt]);simp[kU,hlt];by_cases h2:(kW z.1 f).2=0
   ·have e:gM z f=((kW z.1 f).1,z.2):=aZ h2;rw[e]at ht2;simp[h2,hlt]
    repeat refine⟨by decide+kernel,?_⟩
    exact hB hk (by constructor<;>simp[hw,ht2])
   ·have e:gM z f=(z.1,z.2+1):=aT h2;rw[e]at ht2;simp[h2,w1];exact hB hk (by constructor<;>simp[hw,ht2])
  ·have e2:(kW z.1 f).2=dD f:=by simp[kW,he]
   have e:gM z f=(z.1,z.2+1):=aT (by rw[e2];exact he);rw[e]at ht2;refine CI.p (Gt f (hf f hm) he) ?_ (ha:=by simp[hr]);simp[hr];refine CI.p (NA [] (by simp)) ?_ (ha:=by simp[hlt]);simp[hlt];refine CI.p (Ed z.1 (oF []) hz.1 (by have:=cO 0;simp[oF];omega)) ?_ (ha:=by simp[hlt]);simp[hlt];simp[he,w1];exact hB hk (by constructor<;>simp[hw,ht2])
 ·simp;exact⟨[],by constructor<;>simp[aI,aJ,fM]⟩
theorem Ga (c:bT)(p:aW)(lost:Int)(ns:List G.Node)(i:Nat)(n:G.Node)(hi:ns[i]? =some n)(hln:ns.length<=1000)(hn:cF n)(hx:dI n.side=true)(h0:0<=lost)(h1:lost<=100000000000):C1 78 [.ptr 0 0,int i] [] (jK c p lost ns) (int (fP c.max lost n).2.2) (jK c p (fP c.max lost n).2.1 (ns.set i (fP c.max lost n).1)):=by
 refine Ct.B func78 ?_;simp;have hid:=OI hi;have hlt:=xN hi;have hg:=tH hi;by_cases h2:n.up.aM=2147483647
 ·have e:fP c.max lost n=(n,lost,14):=aZ (.inl h2);rw[e];simp[hg,hlt];refine CI.p (G6 n.up hn.up) ?_ (ha:=by simp[hg,hlt]);simp[hg,hlt];refine CI.p (G6 n.dn hn.dn) ?_ (ha:=by simp[hg,hlt]);simp[hg,hlt];simp[h2];exact⟨[],by constructor<;>simp[aI,aJ,h2,hid]⟩
 by_cases h3:n.dn.aM=2147483647
 ·have e:fP c.max lost n=(n,lost,14):=aZ (.inr h3);rw[e];simp[hg,hlt];refine CI.p (G6 n.up hn.up) ?_ (ha:=by simp[hg,hlt]);simp[hg,hlt];refine CI.p (G6 n.dn hn.dn) ?_ (ha:=by simp[hg,hlt]);simp[hg,hlt];simp[h2,h3];exact⟨[],by constructor<;>simp[aI,aJ,h3,hid]⟩
 have cc:=hn.d.connect (n.up.aM+1);have e:fP c.max lost n=(⟨(l5 n.side (n.up.aM+1)).1,o7 (n.up.aM+1) c.max,(fM ⟨n.up.aM+1,[]⟩ lost (l5 n.side (n.up.aM+1)).2.1).1,⟨n.dn.aM+1,[]⟩,n.gF⟩,(fM ⟨n.up.aM+1,[]⟩ lost (l5 n.side (n.up.aM+1)).2.1).2,(l5 n.side (n.up.aM+1)).2.2):=aT (by omega);rw[e];have up:=hn.up.fresh h2;simp[hg,hlt];refine CI.p (G6 n.up hn.up) ?_ (ha:=by simp[hg,hlt]);simp[hg,hlt];refine CI.p (G6 n.dn hn.dn) ?_ (ha:=by simp[hg,hlt]);simp[hg,hlt];simp[h2,h3,hg,hlt]
 repeat refine⟨by decide+kernel,?_⟩
 refine CI.p (W9 (n.up.aM+1) c.max) ?_ (ha:=by simp[hg,hlt]);simp[hg,hlt]
 repeat refine⟨by decide+kernel,?_⟩
 refine CI.p (ziU n.side (n.up.aM+1) hn.d.x hx) ?_ (ha:=by simp[hg,hlt]);simp[hg,hlt]
 repeat refine⟨by decide+kernel,?_⟩
 generalize l5 n.side (n.up.aM+1)=X at cc⊢;refine CI.cc [0,1] (VE c p lost (ns.set i ⟨X.1,o7 (n.up.aM+1) c.max,⟨n.up.aM+1,[]⟩,⟨n.dn.aM+1,[]⟩,n.gF⟩) i X.2.1 ⟨X.1,o7 (n.up.aM+1) c.max,⟨n.up.aM+1,[]⟩,⟨n.dn.aM+1,[]⟩,n.gF⟩ (GW hi _) (by simpa using hln) up cc.2.1 (by omega) h0 (by omega)) ?_ (ha:=by simp[hg,hlt]) (hk:=by simp[hg,hlt]);simp[hg,hlt];exact⟨[],by constructor<;>simp[aI,aJ]⟩
theorem Ha (c:bT)(p:aW)(lost:Int)(ns:List G.Node)(i:Nat)(n:G.Node)(hi:ns[i]? =some n)(hln:ns.length<=1000)(hn:cF n)(hx:dI n.side=true)(hp:gN p=true)(h0:0<=lost)(h1:lost<=10000000000):C1 124 [.ptr 0 0,int i] [] (jK c p lost ns) (int (iK c.max p lost n).2.2) (jK c p (iK c.max p lost n).2.1 (ns.set i (iK c.max p lost n).1)):=by
 refine Ct.B func124 ?_;simp;have hlt:=xN hi;have hg:=tH hi;have S:=mQ.1 hn.ss;have hpl:p.bA.length<=100000:=((oW p).1 hp).2.1;simp[hg,hlt];refine CI.p (zcQ n.bF p hn.so (by have:=S.hl;omega) (by omega) (λ_=>⟨xA (KT hp),by have:=vZ (KT hp);omega⟩)) ?_ (ha:=by simp[hg,hlt]);simp[hg,hlt]
 repeat refine⟨by decide+kernel,?_⟩
 obtain⟨p1,p2,p3,p4,p5⟩:=PA hn.ss hn.so hp;unfold iK;dsimp only;generalize iL n.bF p=R at p1 p2 p3 p4⊢;have l:=DL hn.dn lost R.2.1;refine CI.cc [0,1] (Eg c p lost (ns.set i {n with bF:=R.1}) i R.2.1 {n with bF:=R.1} (GW hi _) (by simpa using hln) hn.dn (λf hf=>xJ (p3 f hf).1) (by omega) h0 (by omega)) ?_ (ha:=by simp[hg,hlt]) (hk:=by simp[hg,hlt]);simp[hg,hlt];have hm:cF {n with bF:=R.1,dn:=(fM n.dn lost R.2.1).1}:=⟨hn.d,p1,p2,hn.up,hn.dn.send _ _,hn.pl⟩;generalize fM n.dn lost R.2.1=z at l hm⊢;by_cases h2:R.2.2=0
 ·simp[h2];exact⟨[],by constructor<;>simp[aI,aJ,h2]⟩
 ·simp[h2];refine CI.cc [0,1] (Ga c p z.2 (ns.set i {n with bF:=R.1,dn:=z.1}) i {n with bF:=R.1,dn:=z.1} (GW hi _) (by simpa using hln) hm hx (by omega) (by omega)) ?_;simp;exact⟨[],by constructor<;>simp[aI,aJ,h2]⟩
attribute [simp] ntmps76 results76 ntmps77 results77 ntmps80 results80 ntmps141 results141 ntmps81 results81
theorem zjO (c:bT)(p:aW)(lost:Int)(ns:List G.Node)(i:Nat)(n:G.Node)(s:cB)(hw:s.way=0)(hi:ns[i]? =some n)(hln:ns.length<=1000)(hn:cF n)(hx:dI n.side=true)(hp:gN p=true)(h0:0<=lost)(h1:lost<=1000000000):C1 76 [.ptr 0 0,int i,int 0,int s.n] [] (jK c p lost ns) (int (gY c.max p lost n s).2.2.e) (jK c p (gY c.max p lost n s).2.1 (ns.set i (gY c.max p lost n s).1)):=by
 refine Ct.B func76 ?_;simp;have hlt:=xN hi;have hg:=tH hi;have ht:=hn.up.take s.n;have e0:iP n s.way=n.up:=aZ hw;have e1:∀l,nP n s.way l={n with up:=l}:=λl=>aZ hw;have hne:(takeN n.up s.n).2.2=0->n.up.q≠[]:=NP;unfold gY;rw[e0];dsimp only;rw[e1];simp[hg,hlt];refine CI.p (Cn n.up s.n hn.up) ?_ (ha:=by simp[hg,hlt]);simp[hg,hlt]
 repeat refine⟨by decide+kernel,?_⟩
 generalize takeN n.up s.n=t at ht hne⊢;by_cases h2:t.2.2=0
 ·have hq:=hne h2;have hl:=BA (j9.1 (ht.2 h2));simp[h2,hq,hw];refine CI.p (Kp (j3 t.2.1) (by omega)) ?_ (ha:=by simp[kU]);simp[kU];refine CI.p (On t.2.1 (ht.2 h2)) ?_ (ha:=by simp[hg,hlt,hw]);simp[hg,hlt,hw];have S:=mQ.1 hn.ss;have hpl:p.bA.length<=100000:=((oW p).1 hp).2.1;refine CI.p (zg7 n.bF p t.2.1 (by have:=S.dl;omega) hn.so.v.push (by have:=S.hl;omega) (xJ (ht.2 h2)) (HV hp) (by omega)) ?_ (ha:=by simp[hg,hlt]);simp[hg,hlt]
  repeat refine⟨by decide+kernel,?_⟩
  have k1:=LD p t.2.1 hn.ss;have k2:=Q6 t.2.1 hn.ss hn.so hp;generalize handle n.bF p t.2.1=r at k1 k2⊢;by_cases h3:r.2=0
  ·simp[h3];refine CI.cc [0,1] (Ha c p lost (ns.set i {n with up:=t.1,bF:=r.1}) i {n with up:=t.1,bF:=r.1} (GW hi _) (by simpa using hln) ⟨hn.d,k1,k2,ht.1,hn.dn,hn.pl⟩ hx hp h0 (by omega)) ?_;simp;exact⟨[],by constructor<;>simp[aI,aJ,h3,cG]⟩
  ·simp[h3];exact⟨[],by constructor<;>simp[aI,aJ,h3,cG]⟩
 ·simp[h2];exact⟨[],by constructor<;>simp[aI,aJ,h2,cG]⟩
theorem zjM (c:bT)(p:aW)(lost:Int)(ns:List G.Node)(i:Nat)(n:G.Node)(s:cB)(hw:s.way=1)(hi:ns[i]? =some n)(hln:ns.length<=1000)(hn:cF n)(hx:dI n.side=true)(hp:gN p=true)(h0:0<=lost)(h1:lost<=1000000000):C1 76 [.ptr 0 0,int i,int 1,int s.n] [] (jK c p lost ns) (int (gY c.max p lost n s).2.2.e) (jK c p (gY c.max p lost n s).2.1 (ns.set i (gY c.max p lost n s).1)):=by
 refine Ct.B func76 ?_;simp;have hlt:=xN hi;have hg:=tH hi;have ht:=hn.dn.take s.n;have e0:iP n s.way=n.dn:=aT (by omega);have e1:∀l,nP n s.way l={n with dn:=l}:=λl=>aT (by omega);have hne:(takeN n.dn s.n).2.2=0->n.dn.q≠[]:=NP;unfold gY;rw[e0];dsimp only;rw[e1];simp[hg,hlt];refine CI.p (Cn n.dn s.n hn.dn) ?_ (ha:=by simp[hg,hlt]);simp[hg,hlt]
 repeat refine⟨by decide+kernel,?_⟩
 generalize takeN n.dn s.n=t at ht hne⊢;by_cases h2:t.2.2=0
 ·have hq:=hne h2;have hl:=BA (j9.1 (ht.2 h2));simp[h2,hq,hw];refine CI.p (Kp (j3 t.2.1) (by omega)) ?_ (ha:=by simp[kU]);simp[kU];refine CI.p (On t.2.1 (ht.2 h2)) ?_ (ha:=by simp[hg,hlt,hw]);simp[hg,hlt,hw];refine CI.p (zg8 n.side t.2.1 hn.d hx (xJ (ht.2 h2))) ?_ (ha:=by simp[hg,hlt]);simp[hg,hlt]
  repeat refine⟨by decide+kernel,?_⟩
  have hs:=hn.d.side t.2.1;generalize qA n.side t.2.1=r at hs⊢;refine CI.cc [0,1] (VE c p lost (ns.set i {n with dn:=t.1,side:=r.1}) i r.2.1 {n with dn:=t.1,side:=r.1} (GW hi _) (by simpa using hln) hn.up hs.2.1 (by omega) h0 (by omega)) ?_;simp;exact⟨[],by constructor<;>simp[aI,aJ,cG,hw]⟩
 ·simp[h2];exact⟨[],by constructor<;>simp[aI,aJ,h2,cG]⟩
theorem zg6 (c:bT)(p:aW)(lost:Int)(ns:List G.Node)(i:Nat)(n:G.Node)(s:cB)(hk:s.kind=2)(hw:s.way=0\/s.way=1)(hi:ns[i]? =some n)(hln:ns.length<=1000)(hn:cF n):C1 77 [.ptr 0 0,int 2,int i,int s.way,int s.n] [] (jK c p lost ns) (int (iM vM lost n s).2.2.e) (jK c p lost (ns.set i (iM vM lost n s).1)):=by
 refine Ct.B func77 ?_;simp;have hlt:=xN hi;have hg:=tH hi;rcases hw with hw|hw
 ·simp[hw,hg,hlt];refine CI.p (Pz n.up s.n hn.up) ?_ (ha:=by simp[hg,hlt]);simp[hg,hlt]
  repeat refine⟨by decide+kernel,?_⟩
  exact⟨[],by constructor<;>simp[aI,aJ,iM,iP,nP,cG,hw]⟩
 ·simp[hw,hg,hlt];refine CI.p (Pz n.dn s.n hn.dn) ?_ (ha:=by simp[hg,hlt]);simp[hg,hlt]
  repeat refine⟨by decide+kernel,?_⟩
  exact⟨[],by constructor<;>simp[aI,aJ,iM,iP,nP,cG,hw]⟩
theorem zg5 (c:bT)(p:aW)(lost:Int)(ns:List G.Node)(i:Nat)(n:G.Node)(s:cB)(hk:s.kind=3)(hw:s.way=0\/s.way=1)(hi:ns[i]? =some n)(hln:ns.length<=1000)(hn:cF n):C1 77 [.ptr 0 0,int 3,int i,int s.way,int s.n] [] (jK c p lost ns) (int (iM uL lost n s).2.2.e) (jK c p lost (ns.set i (iM uL lost n s).1)):=by
 refine Ct.B func77 ?_;simp;have hlt:=xN hi;have hg:=tH hi;rcases hw with hw|hw
 ·simp[hw,hg,hlt];refine CI.p (Ss n.up s.n hn.up) ?_ (ha:=by simp[hg,hlt]);simp[hg,hlt]
  repeat refine⟨by decide+kernel,?_⟩
  exact⟨[],by constructor<;>simp[aI,aJ,iM,iP,nP,cG,hw]⟩
 ·simp[hw,hg,hlt];refine CI.p (Ss n.dn s.n hn.dn) ?_ (ha:=by simp[hg,hlt]);simp[hg,hlt]
  repeat refine⟨by decide+kernel,?_⟩
  exact⟨[],by constructor<;>simp[aI,aJ,iM,iP,nP,cG,hw]⟩
theorem zg4 (c:bT)(p:aW)(lost:Int)(ns:List G.Node)(i:Nat)(n:G.Node)(s:cB)(hk:s.kind=4)(hw:s.way=0\/s.way=1)(hi:ns[i]? =some n)(hln:ns.length<=1000)(hn:cF n):C1 77 [.ptr 0 0,int 4,int i,int s.way,int s.n] [] (jK c p lost ns) (int (iM uC lost n s).2.2.e) (jK c p lost (ns.set i (iM uC lost n s).1)):=by
 refine Ct.B func77 ?_;simp;have hlt:=xN hi;have hg:=tH hi;rcases hw with hw|hw
 ·simp[hw,hg,hlt];refine CI.p (Nc n.up s.n hn.up) ?_ (ha:=by simp[hg,hlt]);simp[hg,hlt]
  repeat refine⟨by decide+kernel,?_⟩
  exact⟨[],by constructor<;>simp[aI,aJ,iM,iP,nP,cG,hw]⟩
 ·simp[hw,hg,hlt];refine CI.p (Nc n.dn s.n hn.dn) ?_ (ha:=by simp[hg,hlt]);simp[hg,hlt]
  repeat refine⟨by decide+kernel,?_⟩
  exact⟨[],by constructor<;>simp[aI,aJ,iM,iP,nP,cG,hw]⟩
theorem zhl (c:bT)(p:aW)(lost:Int)(ns:List G.Node)(i:Nat)(n:G.Node)(s:cB)(hi:ns[i]? =some n)(hln:ns.length<=1000)(hn:cF n)(hx:dI n.side=true)(h0:0<=lost)(h1:lost<=1000000000):C1 80 [.ptr 0 0,int i,int s.n] [] (jK c p lost ns) (st (dV (rJ lost n s).2.2)) (jK c p (rJ lost n s).2.1 (ns.set i (rJ lost n s).1)):=by
 refine Ct.B func80 ?_;simp;have hlt:=xN hi;have hg:=tH hi;simp[hg,hlt];refine CI.p (zdv n.gF n.side s.n hn.pl.p hn.d.x hx hn.d.n hn.pl.a) ?_ (ha:=by simp[hg,hlt]);simp[hg,hlt]
 repeat refine⟨by decide+kernel,?_⟩
 have hk:=hn.pl.pick hn.d s.n;have hlast:=Hy (p:=n.gF) (s:=n.side) (draw:=s.n);unfold rJ;dsimp only;generalize kK n.gF n.side s.n=r at hk hlast⊢;refine CI.cc [0,1] (VE c p lost (ns.set i {n with gF:=r.1,side:=r.2.1}) i r.2.2.1 {n with gF:=r.1,side:=r.2.1} (GW hi _) (by simpa using hln) hn.up hk.2.2.1 (by omega) h0 (by omega)) ?_;simp;by_cases h2:r.2.2.2=0
 ·by_cases h3:r.1.tasks.length=n.gF.tasks.length
  ·have h3':(r.1.tasks.length:Int)=n.gF.tasks.length:=by omega
   simp[h2,h3'];exact⟨[],by constructor<;>simp[aI,aJ,h2,h3,cG,cU]⟩
  ·have h3':¬(r.1.tasks.length:Int)=n.gF.tasks.length:=by omega
   obtain⟨j,x,e⟩:=hlast h3;have hd:=hk.1.p.ld;rw[e]at hd⊢;have w1:IntKind.wrap .i64 (j.length:Int)=j.length:=wrap_i64 (by omega) (by simp at hd;omega);have e9:(j.length:Int)<j.length+1:=by omega
   simp[h2,h3',e,w1,e9,YT];exact⟨[],by constructor<;>simp[aI,aJ,h2,h3,cU,e]⟩
 ·simp[h2];exact⟨[],by constructor<;>simp[aI,aJ,h2,cG,cU]⟩
theorem Ao (b:Bool):C0 141 [bool b] (int (CQ b)):=by
 refine Ct.B func141 ?_;simp;cases b with
 |true=>
  simp;exact aA (by simp[CQ])
 |false=>
  simp;exact aA (by simp[CQ])
theorem Wk (c:bT)(p:aW)(lost:Int)(ns:List G.Node)(i:Nat)(n:G.Node)(hi:ns[i]? =some n)(hln:ns.length<=1000)(hn:cF n)(hx:dI n.side=true)(hp:gN p=true):C1 81 [.ptr 0 0,int i] [] (jK c p lost ns) (st (dV (rS p lost n).2.2)) (jK c p lost ns):=by
 refine Ct.B func81 ?_;simp;have hlt:=xN hi;have hg:=tH hi;have hpl:p.bA.length<=100000:=((oW p).1 hp).2.1;have S:=mQ.1 hn.ss;have hl:=VA hn.d.x;simp[hg,hlt];refine CI.p (KU p (by omega)) ?_ (ha:=by simp[hg,hlt]);simp[hg,hlt];refine CI.p (zau n.side hn.d.x hx) ?_ (ha:=by simp[hg,hlt]);simp[hg,hlt];refine CI.p (Ao (uW n.side).isSome) ?_;simp;refine CI.p (Dt n.bF p hn.so (by have:=S.hl;omega) (by omega)) ?_;simp;refine CI.p (Ao (nC n.bF p)) ?_;simp;refine CI.p (X7 (((uW n.side).map (·.l)).getD []) (by omega)) ?_;simp;refine dr ?_;refine⟨[],?_,?_,?_,?_,?_,?_,?_⟩<;>simp[aI,aJ,rS,kM,cU]
attribute [simp] ntmps75 results75 ntmps74 results74
theorem Vz (c:bT)(p:aW)(lost:Int)(ns:List G.Node)(hln:ns.length<=4)(hok:∀n∈ns,cF n)(h0:0<=lost)(h1:lost<=100000000):C1 75 [.ptr 0 0] [] (jK c p lost ns) (st (dV (lE ⟨c,p,ns,lost⟩).2)) (jK c p (lE ⟨c,p,ns,lost⟩).1.lost (lE ⟨c,p,ns,lost⟩).1.ns):=by
 refine Ct.B func75 ?_;simp;refine aH.inv mixed rfl (ι:={z:Nat//z<=ns.length}) (λk=>[(0,.ptr 0 0),(2,.ptr 64 0),(3,int (gQ (ns.take k.1) lost 0).2.2),(4,int k.1)]) (λk=>jK c p (gQ (ns.take k.1) lost 0).2.1 ((gQ (ns.take k.1) lost 0).1++ns.drop k.1)++[(64,.cells ((dV (cG 0)).map .d) 57)]) 65 (λk=>ns.length-k.1) ⟨0,by omega⟩ [] (by constructor<;>simp[gQ,cG,cU]) ?_;rintro⟨k,hk1⟩ B hB;have A:=GM (ns.take k) lost 0 (λn hn=>hok n (pY hn));have hS:=λx=>Cg x (ns.take k) lost 0;have hT:gQ ns lost 0=gQ (ns.take ns.length) lost 0:=by rw[bX]
 have h2:=Cf (ns.take k) lost 0 (λn hn=>hok n (pY hn));by_cases h:k<ns.length
 ·obtain⟨x,hx,hr,hm,ht',hd⟩:=iU h;generalize gQ (ns.take k) lost 0=q at A hS h2⊢;have hlt4:(ns.take k).length<=4:=by simp;omega
  have hl:q.1.length=k:=by rw[A.2.1];simp;omega
  have hat:=Lj hl hr;have hset:=Li hl h;have hlen:(q.1++ns.drop k).length=ns.length:=by simp;omega
  generalize q.1++ns.drop k=E at hat hset hlen⊢;have hg:=tH hat;have hw:=wr (k:=k) (by omega);have R:=OX (hok x hm);have S:=mQ.1 (hok x hm).ss;have w1:=wz (q.2.2+(eO x.bF).length);refine CI.n ?_;simp[hlen,h];refine CI.p (zcd x.bF (hok x hm).so (by have:=S.hl;omega)) ?_ (ha:=by simp[hg,h,hlen]);simp[hg,h,hlen];refine CI.cc [0,1] (Eg c p q.2.1 E k (eO x.bF) x hat (by omega) (hok x hm).dn R.1 (by have:=R.2;omega) (by omega) (by omega)) ?_;simp;simp[w1];have hs2:=jW (List.map dZ) (hset {x with dn:=(fM x.dn q.2.1 (eO x.bF)).1});simp at hs2;refine hB _ ⟨k+1,h⟩ [] ?_ (by simp;omega);constructor<;>simp[hw,ht',hS,hs2,cG,cU]
 ·have e:k=ns.length:=by omega
  subst e;rw[<-hT]at A h2⊢;have hl2:=A.2.1;refine CI.n ?_;simp[hl2];exact⟨[],by constructor<;>simp[aI,aJ,lE,E7,cU]⟩
theorem Us (c:bT)(p:aW)(lost:Int)(ns:List G.Node)(s:cB)(hln:ns.length<=4)(hok:∀n∈ns,cF n)(hxs:∀n∈ns,dI n.side=true)(hp:gN p=true)(hs:rO s)(hr:cL s.aD)(h0:0<=lost)(h1:lost<=100000000):C1 74 [.ptr 0 0,st (eD s)] [] (jK c p lost ns) (st (dV (mZ ⟨c,p,ns,lost⟩ s).2)) (jK c (mZ ⟨c,p,ns,lost⟩ s).1.p (mZ ⟨c,p,ns,lost⟩ s).1.lost (mZ ⟨c,p,ns,lost⟩ s).1.ns):=by
 refine Ct.B func74 ?_;simp;have hpl:p.bA.length<=100000:=((oW p).1 hp).2.1;have ht:=vZ (VI hp).GN;have hP:=EU hp s.aD s.gone;refine CI.p (zlv p s.aD s.gone hp (by omega) ((HV hp).all _ (gT (QP (OM hp)))) (by have:=hs.aD;omega) hr (by have:=hs.gone;omega)) ?_;simp
 repeat refine⟨by decide+kernel,?_⟩
 by_cases he:oZ p s.aD s.gone=0
 rotate_left
 ·simp[he];exact⟨[],by constructor<;>simp[aI,aJ,mZ,he,cG,cU]⟩
 have hPl:(oY p s.aD s.gone).bA.length<=100000:=((oW _).1 hP).2.1;simp[he];refine CI.p (KU (oY p s.aD s.gone) (by omega)) ?_;simp;have hU:mZ ⟨c,p,ns,lost⟩ s=(⟨c,oY p s.aD s.gone,(fX c.max (oY p s.aD s.gone) ns lost 0).1,(fX c.max (oY p s.aD s.gone) ns lost 0).2.1⟩,⟨(fX c.max (oY p s.aD s.gone) ns lost 0).2.2,kM (oY p s.aD s.gone),cU,[],[]⟩):=by unfold mZ;dsimp only;rw[if_neg (by rw[he];decide)]
 rw[hU];have hni:((fN (oY p s.aD s.gone)).bA.length:Int)-1=kM (oY p s.aD s.gone):=rfl;simp only[hni];generalize oY p s.aD s.gone=P at hP hPl⊢;refine aH.inv mixed rfl (ι:={z:Nat//z<=ns.length}) (λk=>[(0,.ptr 0 0),(4,.ptr 65 0),(9,.ptr 64 0),(10,int k.1)]) (λk=>jK c P (fX c.max P (ns.take k.1) lost 0).2.1 ((fX c.max P (ns.take k.1) lost 0).1++ns.drop k.1)++[(64,.cells ((dV ⟨(fX c.max P (ns.take k.1) lost 0).2.2,kM P,cU,[],[]⟩).map .d) 57),(65,.cells ((dV (cG 0)).map .d) 57)]) 66 (λk=>ns.length-k.1) ⟨0,by omega⟩ [] (by constructor<;>simp[fX,cU,cG]) ?_;rintro⟨k,hk1⟩ B hB;have A:=HB c.max hP (ns.take k) lost 0 (λn hn=>hok n (pY hn));have hS:=λx=>He c.max P x (ns.take k) lost 0;have hT:fX c.max P ns lost 0=fX c.max P (ns.take ns.length) lost 0:=by rw[bX]
 by_cases h:k<ns.length
 ·obtain⟨x,hx,hr,hm,ht',hd⟩:=iU h;generalize fX c.max P (ns.take k) lost 0=q at A hS⊢;have hlt4:(ns.take k).length<=4:=by simp;omega
  have hl:q.1.length=k:=by rw[A.2.1];simp;omega
  have hat:=Lj hl hr;have hset:=Li hl h;have hlen:(q.1++ns.drop k).length=ns.length:=by simp;omega
  generalize q.1++ns.drop k=E at hat hset hlen⊢;have hg:=tH hat;have hw:=wr (k:=k) (by omega);refine CI.n ?_;simp[hlen,h];refine CI.cc [0,1] (Ha c P q.2.1 E k x hat (by omega) (hok x hm) (hxs x hm) hP (by omega) (by omega)) ?_;simp;have hs2:=jW (List.map dZ) (hset (iK c.max P q.2.1 x).1);simp at hs2;by_cases hz:q.2.2=0
  ·simp[hz];refine hB _ ⟨k+1,h⟩ [] ?_ (by simp;omega);constructor<;>simp[hw,ht',hS,hs2,hz,cU,cG]
  ·simp[hz];refine hB _ ⟨k+1,h⟩ [] ?_ (by simp;omega);constructor<;>simp[hw,ht',hS,hs2,hz,cU,cG]
 ·have e:k=ns.length:=by omega
  subst e;rw[<-hT]at A⊢;have hl2:=A.2.1;refine CI.n ?_;simp[hl2];exact⟨[],by constructor<;>simp[aI,aJ,cU]⟩
attribute [simp] ntmps36 results36 ntmps35 results35 ntmps15 results15
theorem Xp (c:bT)(p:aW)(lost:Int)(ns:List G.Node)(s:cB)(hn1:1<=ns.length)(hln:ns.length<=4)(hok:∀n∈ns,cF n)(hxs:∀n∈ns,dI n.side=true)(hp:gN p=true)(hs:rO s)(hr:cL s.aD)(h0:0<=lost)(h1:lost<=100000000):C1 36 [.ptr 0 0,st (eD s)] [] (jK c p lost ns) (st (dV (eX ⟨c,p,ns,lost⟩ s).2)) (jK c (eX ⟨c,p,ns,lost⟩ s).1.p (eX ⟨c,p,ns,lost⟩ s).1.lost (eX ⟨c,p,ns,lost⟩ s).1.ns):=by
 refine Ct.B func36 ?_;simp;have hne:ns≠[]:=by intro e;rw[e]at hn1;simp at hn1
 unfold eX;dsimp only;rw[aT hne];by_cases k1:s.kind<0
 ·rw[aZ (by omega)];simp[k1];exact⟨[],by constructor<;>simp[aI,aJ,cG,cU]⟩
 by_cases k2:9<s.kind
 ·rw[aZ (by omega)];simp[k1,k2];exact⟨[],by constructor<;>simp[aI,aJ,cG,cU]⟩
 rw[aT (by omega)];by_cases k0:s.kind=0
 ·rw[aZ k0];simp[k0];refine CI.cc [0,1] (Us c p lost ns s hln hok hxs hp hs hr h0 h1) ?_ (ha:=by simp[k0]) (hk:=by simp[k0]);simp[k0];exact⟨[],by constructor<;>simp[aI,aJ]⟩
 rw[aT k0];by_cases k6:s.kind=6
 ·rw[aZ k6];simp[k6];refine CI.cc [0,1] (Vz c p lost ns hln hok h0 (by omega)) ?_;simp;exact⟨[],by constructor<;>simp[aI,aJ,lE]⟩
 rw[aT k6];by_cases s1:s.side<0
 ·have e:nodeAt ns s.side=none:=aT (by omega);rw[e];simp[k1,k2,k0,k6,s1];first| (refine⟨[],?_,?_,?_,?_,?_,?_,?_⟩<;>simp[aI,aJ,cG,cU];done)| (refine dr ?_;refine⟨[],?_,?_,?_,?_,?_,?_,?_⟩<;>simp[aI,aJ,cG,cU])
 by_cases s2:(ns.length:Int)<=s.side
 ·have e:nodeAt ns s.side=none:=by unfold nodeAt;rw[aZ (by omega)];exact JP (by omega)
  rw[e];simp[k1,k2,k0,k6,s1,s2];first| (refine⟨[],?_,?_,?_,?_,?_,?_,?_⟩<;>simp[aI,aJ,cG,cU];done)| (refine dr ?_;refine⟨[],?_,?_,?_,?_,?_,?_,?_⟩<;>simp[aI,aJ,cG,cU])
 obtain⟨i,hi⟩:∃i:Nat,s.side=i:=⟨s.side.toNat,by omega⟩;have hlt:i<ns.length:=by omega
 obtain⟨n,hn⟩:∃n,ns[i]? =some n:=⟨ns[i],bO hlt⟩;have hm:n∈ns:=gT hn;have e:nodeAt ns s.side=some n:=by unfold nodeAt;rw[aZ (by omega),hi];exact hn
 have e2:s.side.toNat=i:=by omega
 have e3:((i:Int)<0)=False:=eq_false (by omega);have e4:((ns.length:Int)<=i)=False:=eq_false (by omega);rw[e];dsimp only;rw[e2];have on:=hok n hm;have ox:=hxs n hm;have hid:=OI hn;have hg:=tH hn;by_cases k4:s.kind<=4
 ·by_cases w1:s.way<0
  ·rw[aZ ⟨k4,.inl w1⟩];simp[k1,k2,k0,k6,hi,e3,e4,k4,w1];first| (refine⟨[],?_,?_,?_,?_,?_,?_,?_⟩<;>simp[aI,aJ,cG,cU];done)| (refine dr ?_;refine⟨[],?_,?_,?_,?_,?_,?_,?_⟩<;>simp[aI,aJ,cG,cU])
  by_cases w2:1<s.way
  ·rw[aZ ⟨k4,.inr (by omega)⟩];simp[k1,k2,k0,k6,hi,e3,e4,k4,w1,w2];first| (refine⟨[],?_,?_,?_,?_,?_,?_,?_⟩<;>simp[aI,aJ,cG,cU];done)| (refine dr ?_;refine⟨[],?_,?_,?_,?_,?_,?_,?_⟩<;>simp[aI,aJ,cG,cU])
  rw[aT (by omega)];have hw:s.way=0\/s.way=1:=by omega
  by_cases k10:s.kind=1
  ·have es:fW c.max p lost n s=gY c.max p lost n s:=by simp[fW,k10]
   have eo:(gY c.max p lost n s).2.2=cG (gY c.max p lost n s).2.2.e:=zjI ..;rw[es];rw[eo];rcases hw with hw|hw
   ·simp[k10,hi,e3,e4,hw]
    repeat refine⟨by decide+kernel,?_⟩
    refine CI.cc [0,1] (zjO c p lost ns i n s hw hn (by omega) on ox hp h0 (by omega)) ?_ (ha:=by simp[hw]) (hk:=by simp[hw]);simp[hw];exact⟨[],by constructor<;>simp[aI,aJ,cG,cU]⟩
   ·simp[k10,hi,e3,e4,hw]
    repeat refine⟨by decide+kernel,?_⟩
    refine CI.cc [0,1] (zjM c p lost ns i n s hw hn (by omega) on ox hp h0 (by omega)) ?_ (ha:=by simp[hw]) (hk:=by simp[hw]);simp[hw];exact⟨[],by constructor<;>simp[aI,aJ,cG,cU]⟩
  by_cases k20:s.kind=2
  ·have es:fW c.max p lost n s=iM vM lost n s:=by simp[fW,k20]
   rw[es];simp[k20,hi,e3,e4,w1,w2]
   repeat refine⟨by decide+kernel,?_⟩
   refine CI.cc [0,1] (zg6 c p lost ns i n s k20 hw hn (by omega) on) ?_;simp;exact⟨[],by constructor<;>simp[aI,aJ,iM,cG,cU]⟩
  by_cases k30:s.kind=3
  ·have es:fW c.max p lost n s=iM uL lost n s:=by simp[fW,k30]
   rw[es];simp[k30,hi,e3,e4,w1,w2]
   repeat refine⟨by decide+kernel,?_⟩
   refine CI.cc [0,1] (zg5 c p lost ns i n s k30 hw hn (by omega) on) ?_;simp;exact⟨[],by constructor<;>simp[aI,aJ,iM,cG,cU]⟩
  have k40:s.kind=4:=by omega
  have es:fW c.max p lost n s=iM uC lost n s:=by simp[fW,k40]
  rw[es];simp[k40,hi,e3,e4,w1,w2]
  repeat refine⟨by decide+kernel,?_⟩
  refine CI.cc [0,1] (zg4 c p lost ns i n s k40 hw hn (by omega) on) ?_;simp;exact⟨[],by constructor<;>simp[aI,aJ,iM,cG,cU]⟩
 rw[aT (λh=>k4 h.1)];by_cases k5:s.kind=5
 ·have es:fW c.max p lost n s=((fP c.max lost n).1,(fP c.max lost n).2.1,cG (fP c.max lost n).2.2):=by simp[fW,k5]
  rw[es];simp[k5,hi,e3,e4]
  repeat refine⟨by decide+kernel,?_⟩
  refine CI.cc [0,1] (Ga c p lost ns i n hn (by omega) on ox h0 (by omega)) ?_;simp;exact⟨[],by constructor<;>simp[aI,aJ,cG,cU]⟩
 by_cases k7:s.kind=7
 ·have es:fW c.max p lost n s=tG lost n s:=by simp[fW,k7]
  rw[es];simp[k7,hi,e3,e4,hg,hlt]
  repeat refine⟨by decide+kernel,?_⟩
  refine CI.p (Yk n.gF s.a on.pl.p) ?_ (ha:=by simp[hg,hlt]);simp[hg,hlt]
  repeat refine⟨by decide+kernel,?_⟩
  exact⟨[],by constructor<;>simp[aI,aJ,tG,cU]⟩
 by_cases k8:s.kind=8
 ·have es:fW c.max p lost n s=rJ lost n s:=by simp[fW,k8]
  rw[es];simp[k8,hi,e3,e4]
  repeat refine⟨by decide+kernel,?_⟩
  refine CI.cc [0,1] (zhl c p lost ns i n s hn (by omega) on ox h0 (by omega)) ?_;simp;exact⟨[],by constructor<;>simp[aI,aJ]⟩
 have k9:s.kind=9:=by omega
 have es:fW c.max p lost n s=rS p lost n:=by simp[fW,k9]
 rw[es];simp[k9,hi,e3,e4]
 repeat refine⟨by decide+kernel,?_⟩
 refine CI.cc [0,1] (Wk c p lost ns i n hn (by omega) on ox hp) ?_;simp;exact⟨[],by constructor<;>simp[aI,aJ,hid,rS]⟩
@[simp] theorem lenAll_node (l:List G.Node):iY (l.map dZ) 52=True:=tZ (f:=dZ) (n:=52) (λ_=>rfl) l
theorem Na (n:Nat):∀l,FC (vG n) l l
 |[]=>trivial
 |x::l=>⟨by simp,Na n l⟩
@[simp] theorem zf0 (n:Nat)(x y:List (List D)):∀a,zW (vG n) (a++x) (a++y)=zW (vG n) x y
  |[]=>rfl
  |e::a=>by
   rw[yD,yD,zW,zf0 n x y a];exact propext ⟨λh=>h.2,λh=>⟨Na n e,h⟩⟩
theorem zeV (c:bT):C1 35 [st (tF c)] [] [] (.ptr 64 0) [(64,.cells [int c.sides,int c.cap,int c.limit,int c.max,int (fZ c.cap).cap,aB ((fZ c.cap).bA.map oX),.own 65,int 0] 48),(65,.grow 52 ((gA c).ns.map dZ) 145)]:=by
 refine Ct.B func35 ?_;simp;have h1:=KI (c:=c) rfl;have h2:gV c<=4:=by unfold gV;omega
 obtain⟨ns,hns⟩:∃ns,(gA c).ns=ns:=⟨_,rfl⟩;have h3:ns.length=gV c:=by rw[<-hns];simp[gA]
 have h4:∀n∈ns,n=gX c:=λn hn=>by rw[<-hns]at hn;exact(List.mem_replicate.1 hn).2
 rw[hns];have hs:U9 c=(ns.length:Int):=by rw[h1,h3]
 clear h1 hns;refine CI.p (Kt c.cap) ?_;simp
 repeat refine⟨by decide+kernel,?_⟩
 refine aH.BJ 512 6 52 145 48 _ rfl rfl ?_;refine aH.V (ns) (λk=>[(1,.ptr 128 0),(3,.ptr 64 0),(4,int k.1)]) (λk=>[(64,.cells [int c.sides,int c.cap,int c.limit,int c.max,int (fZ c.cap).cap,aB ((fZ c.cap).bA.map oX),.own 65,int 0] 48),(65,.grow 52 ((ns.take k.1).map dZ) 145),(128,.cells [int c.sides,int c.cap,int c.limit,int c.max] 23)]) 192 (λk hk1 B hB=>?_) (h0:=by constructor<;>simp[hs]);simp[hs];rcases bC hk1 with⟨n,hk,hx,hr,hm,ht,hd,hw,h⟩|rfl
 ·simp[h,hr,hw];obtain rfl:=h4 n hm;refine CI.p (zeW c.limit c.max) ?_;simp;refine CI.p (W9 0 c.max) ?_;simp;refine⟨by omega,?_⟩
  repeat refine⟨by decide+kernel,?_⟩
  exact hB hk (by constructor<;>simp[hw,ht,gX,pI,zW,FC,vG])
 ·simp;exact⟨[(64,64),(65,65)],by constructor<;>simp[aI,aJ]⟩
theorem zaL (c:bT)(p:aW)(lost:Int)(ns:List G.Node)(hn1:1<=ns.length)(hln:ns.length<=4)(hok:∀n∈ns,cF n)(hp:gN p=true):C1 15 [.ptr 0 0] (jK c p lost ns) [] (bool (fL ⟨c,p,ns,lost⟩)) []:=by
 refine Ct.B func15 ?_;simp;have hpl:p.bA.length<=100000:=((oW p).1 hp).2.1;have hne:ns≠[]:=by intro e;rw[e]at hn1;simp at hn1
 refine aH.inv mixed rfl (ι:={k:Nat//k<=(ns).length/\(ns.take k).all (λn=>sE n&&nC n.bF p)=true}) (λk=>[(0,.ptr 0 0),(3,int k.1)]) (λk=>jK c p lost ns) 64 (λk=>(ns).length-k.1) ⟨0,by omega,by simp⟩ [] (by constructor<;>simp) ?_;rintro⟨k,hk1,hi⟩ B hB;refine CI.n ?_;simp;rcases bC hk1 with⟨x,hk,hx,hr,hm,ht,hd,hw,h⟩|rfl
 ·simp[h,hr,hw];have S:=mQ.1 (hok x hm).ss;have l1:=(hok x hm).up.len;have l2:=(hok x hm).dn.len;have l3:=(hok x hm).pl.p.lt;have w1:=wz ((x.up.q.length:Int)+x.dn.q.length);have w2:=wz ((x.up.q.length:Int)+x.dn.q.length+x.gF.tasks.length);have hg:=tH hr;simp[hk,hg];refine CI.p (Dt x.bF p (hok x hm).so (by have:=S.hl;omega) (by omega)) ?_;simp;by_cases g1:nC x.bF p=true
  ·by_cases g2:x.up.q.length+x.dn.q.length+x.gF.tasks.length=0
   ·have g3:¬(0:Int)<(x.up.q.length:Int)+x.dn.q.length+x.gF.tasks.length:=by omega
    have gi:sE x=true:=oC g2;simp[g1,w1,w2,g3]
    repeat refine⟨by decide+kernel,?_⟩
    refine hB _ ⟨k+1,by omega,by simp[ht,hi,g1,gi]⟩ [] ?_ (by simp;omega);constructor<;>simp[hw,ht,g1,gi]
   ·have g3:(0:Int)<(x.up.q.length:Int)+x.dn.q.length+x.gF.tasks.length:=by omega
    have e:fL ⟨c,p,ns,lost⟩=false:=Du hm (by rw[show sE x=false from TJ g2];rfl);simp[g1,w1,w2,g3]
    repeat refine⟨by decide+kernel,?_⟩
    exact⟨[],by constructor<;>simp[aI,aJ,e]⟩
  ·have e:fL ⟨c,p,ns,lost⟩=false:=Du hm (by simp[g1]);simp[g1];first| (refine⟨[],?_,?_,?_,?_,?_,?_,?_⟩<;>simp[aI,aJ,e];done)| (refine dr ?_;refine⟨[],?_,?_,?_,?_,?_,?_,?_⟩<;>simp[aI,aJ,e])
 ·simp;rw[bX]at hi;have e:fL ⟨c,p,ns,lost⟩=true:=by unfold fL;simp only[hne,hi,F8,Bool.not_false,uP]
  exact⟨[],by constructor<;>simp[aI,aJ,e]⟩
attribute [simp] ntmps90 results90 ntmps91 results91 ntmps51 results51 ntmps93 results93 ntmps53 results53 ntmps49 results49 ntmps14 results14
theorem zi1 (w:kS):C0 90 [st (sQ w)] (st (sQ w)):=by
 refine Ct.B func90 ?_;simp;exact aA
theorem zgn (p:cM)(hl:p.aR.length<=1000000):C0 91 [st (fY p)] (st (fY p)):=by
 refine Ct.B func91 ?_;simp;refine aH.BJ 384 1 3 276 128 _ rfl rfl ?_;refine aH.V (p.aR) (λk=>[(1,.ptr 64 0),(2,.ptr 67 0),(3,.ptr 65 0),(4,int k.1)]) (λk=>[(64,.cells ((fY p).map .d) 100),(65,.cells [int p.next,.own 66] 128),(66,.grow 3 ((p.aR.take k.1).map iQ) 276),(67,.cells ((fY ⟨0,[]⟩).map .d) 128)]) 68 (λk hk1 B hB=>?_);simp;rcases bC hk1 with⟨x,hk,hx,hr,hm,ht,hd,hw,h⟩|rfl
 ·simp[h,hr,hw];refine⟨by omega,?_⟩
  repeat refine⟨by decide+kernel,?_⟩
  exact hB hk (by constructor<;>simp[hw,ht])
 ·simp;exact aA
theorem zgS (s:bS)(hl:s.p.aR.length<=1000000):C0 51 [st (dU s)] (st (dU s)):=by
 refine Ct.B func51 ?_;simp;refine CI.p (zi1 s.w) ?_;simp;refine CI.p (zgn s.p hl) ?_;simp;exact aK
theorem za5 (v:G.View)(hl:v.push.aP.length<=1000000):C0 93 [st (q7 v)] (st (q7 v)):=by
 refine Ct.B func93 ?_;simp;refine CI.p (zdm v.push hl) ?_;simp;exact aK
theorem zgZ (s:cW)(hl:s.v.push.aP.length<=1000000):C0 53 [st (iB s)] (st (iB s)):=by
 refine Ct.B func53 ?_;simp;refine CI.p (za5 s.v hl) ?_;simp;exact aK
theorem zdf (c:bT)(p:aW)(lost:Int)(ks:List (List D))(k_:Int)(i:Nat)(n:G.Node)(h4:ks.length<=4)(hi:ks[i]? =some (dZ n))(hk:k_=i):C1 49 [.ptr 0 0,int k_] (BC c p lost ks) [] (.aU [st (rC n.gF),bool true]) []:=by
 have hl:i<ks.length:=(cE.1 hi).1;have h1:1<=ks.length:=by omega
 have e:i=0\/i=1\/i=2\/i=3:=by omega
 rcases four h1 h4 with⟨a,x⟩|⟨a,b,x⟩|⟨a,b,d,x⟩|⟨a,b,d,f,x⟩<;>subst x<;>rcases e with x|x|x|x<;>subst x
 all_goals first
  | (exfalso;simp at hl;done)
  |skip
 all_goals
  simp only[GG,JQ,pX]at hi;subst hi;refine Ct.B func49 ?_;simp;refine CI.cc [0,1,2,3,4,5] (DH c p lost _ k_ _ hk hl h4) ?_;simp;exact⟨[],by constructor<;>simp[aI,aJ]⟩
theorem zaQ (c:bT)(p:aW)(l0:Int)(a1:G.Node)(hp:p.bA.length<=1000000)(ha1:cF a1):C1 14 [.ptr 0 0] (BM ⟨c,p,[a1],l0⟩) [] (bool (fL ⟨c,p,[a1],l0⟩)) []:=by
 refine Ct.B func14 ?_;simp;refine CI.cc [0,1,2] (uV c p l0 [dZ a1] (by simp) (by simp)) ?_;simp;refine aH.rounds 2 ?_;refine cC.s ?_;simp;cases ia1:sE a1 with
 |false=>
  refine CI.cc [2] (pA a1 ha1) ?_ (ha:=by simp[ia1]) (hk:=by simp[ia1]);simp[ia1];refine dr ?_;refine⟨[],?_,?_,?_,?_,?_,?_,?_⟩<;>simp[aI,aJ,fL,ia1]
 |true=>
  refine CI.cc [2] (pA a1 ha1) ?_ (ha:=by simp[ia1]) (hk:=by simp[ia1]);simp[ia1];cases sa1:nC a1.bF p with
  |false=>
   refine CI.p (oG a1.bF p ha1.so (pP ha1) (by omega)) ?_ (ha:=by simp[sa1]);simp[sa1];refine dr ?_;exact⟨[],by constructor<;>simp[aI,aJ,fL,ia1,sa1]⟩
  |true=>
   refine CI.p (oG a1.bF p ha1.so (pP ha1) (by omega)) ?_ (ha:=by simp[sa1]);simp[sa1];refine dr ?_;refine cC.s ?_;simp;exact⟨[],by constructor<;>simp[aI,aJ,fL,ia1,sa1]⟩
theorem zaP (c:bT)(p:aW)(l0:Int)(a1 a2:G.Node)(hp:p.bA.length<=1000000)(ha1:cF a1)(ha2:cF a2):C1 14 [.ptr 0 0] (BM ⟨c,p,[a1,a2],l0⟩) [] (bool (fL ⟨c,p,[a1,a2],l0⟩)) []:=by
 refine Ct.B func14 ?_;simp;refine CI.cc [0,1,2,3] (uV c p l0 [dZ a1,dZ a2] (by simp) (by simp)) ?_;simp;refine aH.rounds 3 ?_;refine cC.s ?_;simp;cases ia1:sE a1 with
 |false=>
  refine CI.cc [2] (pA a1 ha1) ?_ (ha:=by simp[ia1]) (hk:=by simp[ia1]);simp[ia1];refine dr ?_;refine⟨[],?_,?_,?_,?_,?_,?_,?_⟩<;>simp[aI,aJ,fL,ia1]
 |true=>
  refine CI.cc [2] (pA a1 ha1) ?_ (ha:=by simp[ia1]) (hk:=by simp[ia1]);simp[ia1];cases sa1:nC a1.bF p with
  |false=>
   refine CI.p (oG a1.bF p ha1.so (pP ha1) (by omega)) ?_ (ha:=by simp[sa1]);simp[sa1];refine dr ?_;exact⟨[],by constructor<;>simp[aI,aJ,fL,ia1,sa1]⟩
  |true=>
   refine CI.p (oG a1.bF p ha1.so (pP ha1) (by omega)) ?_ (ha:=by simp[sa1]);simp[sa1];refine dr ?_;refine cC.s ?_;simp;cases ia2:sE a2 with
   |false=>
    refine CI.cc [3] (pA a2 ha2) ?_ (ha:=by simp[ia2]) (hk:=by simp[ia2]);simp[ia2];refine dr ?_;refine⟨[],?_,?_,?_,?_,?_,?_,?_⟩<;>simp[aI,aJ,fL,ia1,sa1,ia2]
   |true=>
    refine CI.cc [3] (pA a2 ha2) ?_ (ha:=by simp[ia2]) (hk:=by simp[ia2]);simp[ia2];cases sa2:nC a2.bF p with
    |false=>
     refine CI.p (oG a2.bF p ha2.so (pP ha2) (by omega)) ?_ (ha:=by simp[sa2]);simp[sa2];refine dr ?_;exact⟨[],by constructor<;>simp[aI,aJ,fL,ia1,sa1,ia2,sa2]⟩
    |true=>
     refine CI.p (oG a2.bF p ha2.so (pP ha2) (by omega)) ?_ (ha:=by simp[sa2]);simp[sa2];refine dr ?_;refine cC.s ?_;simp;exact⟨[],by constructor<;>simp[aI,aJ,fL,ia1,sa1,ia2,sa2]⟩
theorem zaO (c:bT)(p:aW)(l0:Int)(a1 a2 a3:G.Node)(hp:p.bA.length<=1000000)(ha1:cF a1)(ha2:cF a2)(ha3:cF a3):C1 14 [.ptr 0 0] (BM ⟨c,p,[a1,a2,a3],l0⟩) [] (bool (fL ⟨c,p,[a1,a2,a3],l0⟩)) []:=by
 refine Ct.B func14 ?_;simp;refine CI.cc [0,1,2,3,4] (uV c p l0 [dZ a1,dZ a2,dZ a3] (by simp) (by simp)) ?_;simp;refine aH.rounds 4 ?_;refine cC.s ?_;simp;cases ia1:sE a1 with
 |false=>
  refine CI.cc [2] (pA a1 ha1) ?_ (ha:=by simp[ia1]) (hk:=by simp[ia1]);simp[ia1];refine dr ?_;refine⟨[],?_,?_,?_,?_,?_,?_,?_⟩<;>simp[aI,aJ,fL,ia1]
 |true=>
  refine CI.cc [2] (pA a1 ha1) ?_ (ha:=by simp[ia1]) (hk:=by simp[ia1]);simp[ia1];cases sa1:nC a1.bF p with
  |false=>
   refine CI.p (oG a1.bF p ha1.so (pP ha1) (by omega)) ?_ (ha:=by simp[sa1]);simp[sa1];refine dr ?_;exact⟨[],by constructor<;>simp[aI,aJ,fL,ia1,sa1]⟩
  |true=>
   refine CI.p (oG a1.bF p ha1.so (pP ha1) (by omega)) ?_ (ha:=by simp[sa1]);simp[sa1];refine dr ?_;refine cC.s ?_;simp;cases ia2:sE a2 with
   |false=>
    refine CI.cc [3] (pA a2 ha2) ?_ (ha:=by simp[ia2]) (hk:=by simp[ia2]);simp[ia2];refine dr ?_;refine⟨[],?_,?_,?_,?_,?_,?_,?_⟩<;>simp[aI,aJ,fL,ia1,sa1,ia2]
   |true=>
    refine CI.cc [3] (pA a2 ha2) ?_ (ha:=by simp[ia2]) (hk:=by simp[ia2]);simp[ia2];cases sa2:nC a2.bF p with
    |false=>
     refine CI.p (oG a2.bF p ha2.so (pP ha2) (by omega)) ?_ (ha:=by simp[sa2]);simp[sa2];refine dr ?_;exact⟨[],by constructor<;>simp[aI,aJ,fL,ia1,sa1,ia2,sa2]⟩
    |true=>
     refine CI.p (oG a2.bF p ha2.so (pP ha2) (by omega)) ?_ (ha:=by simp[sa2]);simp[sa2];refine dr ?_;refine cC.s ?_;simp;cases ia3:sE a3 with
     |false=>
      refine CI.cc [4] (pA a3 ha3) ?_ (ha:=by simp[ia3]) (hk:=by simp[ia3]);simp[ia3];refine dr ?_;refine⟨[],?_,?_,?_,?_,?_,?_,?_⟩<;>simp[aI,aJ,fL,ia1,sa1,ia2,sa2,ia3]
     |true=>
      refine CI.cc [4] (pA a3 ha3) ?_ (ha:=by simp[ia3]) (hk:=by simp[ia3]);simp[ia3];cases sa3:nC a3.bF p with
      |false=>
       refine CI.p (oG a3.bF p ha3.so (pP ha3) (by omega)) ?_ (ha:=by simp[sa3]);simp[sa3];refine dr ?_;exact⟨[],by constructor<;>simp[aI,aJ,fL,ia1,sa1,ia2,sa2,ia3,sa3]⟩
      |true=>
       refine CI.p (oG a3.bF p ha3.so (pP ha3) (by omega)) ?_ (ha:=by simp[sa3]);simp[sa3];refine dr ?_;refine cC.s ?_;simp;exact⟨[],by constructor<;>simp[aI,aJ,fL,ia1,sa1,ia2,sa2,ia3,sa3]⟩
theorem zaN (c:bT)(p:aW)(l0:Int)(a1 a2 a3 a4:G.Node)(hp:p.bA.length<=1000000)(ha1:cF a1)(ha2:cF a2)(ha3:cF a3)(ha4:cF a4):C1 14 [.ptr 0 0] (BM ⟨c,p,[a1,a2,a3,a4],l0⟩) [] (bool (fL ⟨c,p,[a1,a2,a3,a4],l0⟩)) []:=by
 refine Ct.B func14 ?_;simp;refine CI.cc [0,1,2,3,4,5] (uV c p l0 [dZ a1,dZ a2,dZ a3,dZ a4] (by simp) (by simp)) ?_;simp;refine aH.rounds 5 ?_;refine cC.s ?_;simp;cases ia1:sE a1 with
 |false=>
  refine CI.cc [2] (pA a1 ha1) ?_ (ha:=by simp[ia1]) (hk:=by simp[ia1]);simp[ia1];refine dr ?_;refine⟨[],?_,?_,?_,?_,?_,?_,?_⟩<;>simp[aI,aJ,fL,ia1]
 |true=>
  refine CI.cc [2] (pA a1 ha1) ?_ (ha:=by simp[ia1]) (hk:=by simp[ia1]);simp[ia1];cases sa1:nC a1.bF p with
  |false=>
   refine CI.p (oG a1.bF p ha1.so (pP ha1) (by omega)) ?_ (ha:=by simp[sa1]);simp[sa1];refine dr ?_;exact⟨[],by constructor<;>simp[aI,aJ,fL,ia1,sa1]⟩
  |true=>
   refine CI.p (oG a1.bF p ha1.so (pP ha1) (by omega)) ?_ (ha:=by simp[sa1]);simp[sa1];refine dr ?_;refine cC.s ?_;simp;cases ia2:sE a2 with
   |false=>
    refine CI.cc [3] (pA a2 ha2) ?_ (ha:=by simp[ia2]) (hk:=by simp[ia2]);simp[ia2];refine dr ?_;refine⟨[],?_,?_,?_,?_,?_,?_,?_⟩<;>simp[aI,aJ,fL,ia1,sa1,ia2]
   |true=>
    refine CI.cc [3] (pA a2 ha2) ?_ (ha:=by simp[ia2]) (hk:=by simp[ia2]);simp[ia2];cases sa2:nC a2.bF p with
    |false=>
     refine CI.p (oG a2.bF p ha2.so (pP ha2) (by omega)) ?_ (ha:=by simp[sa2]);simp[sa2];refine dr ?_;exact⟨[],by constructor<;>simp[aI,aJ,fL,ia1,sa1,ia2,sa2]⟩
    |true=>
     refine CI.p (oG a2.bF p ha2.so (pP ha2) (by omega)) ?_ (ha:=by simp[sa2]);simp[sa2];refine dr ?_;refine cC.s ?_;simp;cases ia3:sE a3 with
     |false=>
      refine CI.cc [4] (pA a3 ha3) ?_ (ha:=by simp[ia3]) (hk:=by simp[ia3]);simp[ia3];refine dr ?_;refine⟨[],?_,?_,?_,?_,?_,?_,?_⟩<;>simp[aI,aJ,fL,ia1,sa1,ia2,sa2,ia3]
     |true=>
      refine CI.cc [4] (pA a3 ha3) ?_ (ha:=by simp[ia3]) (hk:=by simp[ia3]);simp[ia3];cases sa3:nC a3.bF p with
      |false=>
       refine CI.p (oG a3.bF p ha3.so (pP ha3) (by omega)) ?_ (ha:=by simp[sa3]);simp[sa3];refine dr ?_;exact⟨[],by constructor<;>simp[aI,aJ,fL,ia1,sa1,ia2,sa2,ia3,sa3]⟩
      |true=>
       refine CI.p (oG a3.bF p ha3.so (pP ha3) (by omega)) ?_ (ha:=by simp[sa3]);simp[sa3];refine dr ?_;refine cC.s ?_;simp;cases ia4:sE a4 with
       |false=>
        refine CI.cc [5] (pA a4 ha4) ?_ (ha:=by simp[ia4]) (hk:=by simp[ia4]);simp[ia4];refine dr ?_;refine⟨[],?_,?_,?_,?_,?_,?_,?_⟩<;>simp[aI,aJ,fL,ia1,sa1,ia2,sa2,ia3,sa3,ia4]
       |true=>
        refine CI.cc [5] (pA a4 ha4) ?_ (ha:=by simp[ia4]) (hk:=by simp[ia4]);simp[ia4];cases sa4:nC a4.bF p with
        |false=>
         refine CI.p (oG a4.bF p ha4.so (pP ha4) (by omega)) ?_ (ha:=by simp[sa4]);simp[sa4];refine dr ?_;exact⟨[],by constructor<;>simp[aI,aJ,fL,ia1,sa1,ia2,sa2,ia3,sa3,ia4,sa4]⟩
        |true=>
         refine CI.p (oG a4.bF p ha4.so (pP ha4) (by omega)) ?_ (ha:=by simp[sa4]);simp[sa4];refine dr ?_;refine cC.s ?_;simp;exact⟨[],by constructor<;>simp[aI,aJ,fL,ia1,sa1,ia2,sa2,ia3,sa3,ia4,sa4]⟩
theorem zaM (M:G.cX){B:Int}{k:Nat}(hk:M.ns.length=k)(hM:fQ M B):C1 14 [.ptr 0 0] (BC M.c M.p M.lost (bW M 0 k)) [] (bool (fL M)) []:=by
 have hh:=((oW M.p).1 hM.p).2.1;have ok:=hM.ok;have key:C1 14 [.ptr 0 0] (BM M) [] (bool (fL M)) []:=by
  clear hk;have n1:=hM.n1;have n4:=hM.n4;clear hM;obtain⟨c,p,ns,l0⟩:=M;simp only at n1 n4 hh ok;rcases four n1 n4 with⟨a1,x⟩|⟨a1,a2,x⟩|⟨a1,a2,a3,x⟩|⟨a1,a2,a3,a4,x⟩<;>subst x
  ·exact zaQ c p l0 a1 (by omega) (ok a1 (by simp))
  ·exact zaP c p l0 a1 a2 (by omega) (ok a1 (by simp)) (ok a2 (by simp))
  ·exact zaO c p l0 a1 a2 a3 (by omega) (ok a1 (by simp)) (ok a2 (by simp)) (ok a3 (by simp))
  ·exact zaN c p l0 a1 a2 a3 a4 (by omega) (ok a1 (by simp)) (ok a2 (by simp)) (ok a3 (by simp)) (ok a4 (by simp))
 rw[BM,P0 hk]at key;exact key
end Go.Proofs.YtobcmagefgdgdaaGreatDoor
namespace Go.G
open Go.AI
theorem Xs (M:cX)(s:cB):(eX M s).1.c=M.c:=by
 unfold eX mZ lE
 repeat' (first|rfl|split|dsimp only)
theorem V6 :∀(l:List cB) (M:cX),(gO M l).1.c=M.c
 |[],_=>rfl
 |s::l,M=>by
  show(gO (eX M s).1 l).1.c=M.c;rw[V6 l,Xs]
end Go.G
namespace Go.Proofs.YtobcmagefgdgdaaGreatDoor
open Go.AI Go.G Tryz
attribute [simp] ntmps10 results10
abbrev G9 (b:Nat)(c:bT)(p:aW)(lost:Int)(ns:List G.Node):List (Nat×aY):=[(b,.cells [int c.sides,int c.cap,int c.limit,int c.max,int p.cap,aB (p.bA.map oX),.own (b+1),int lost] 48),(b+1,.grow 52 (ns.map dZ) 145)]
theorem zdj (c:bT)(l:List cB)(hl:l.length<=1000)(hs:∀s∈l,rO s)(ha:∀s∈l,cL s.aD):C1 10 [st (tF c),aB (l.map eD)] [] [] (.aU [.ptr 64 0,.own 66]) (G9 64 c (gO (gA c) l).1.p (gO (gA c) l).1.lost (gO (gA c) l).1.ns++[(66,.grow 7 ((gO (gA c) l).2.map dV) 57)]):=by
 refine Ct.B func10 ?_;simp;have np:(gA c).p=fZ c.cap:=rfl;have nl:(gA c).lost=0:=rfl;refine CI.cc [] (zeV c) ?_;simp;refine aH.gH 7 7 57 rfl ?_;refine aH.V (l) (λk=>[(1,aB (l.map eD)),(6,.ptr 320 0),(7,.own 704),(8,int k.1)]) (λk=>G9 320 c (gO (gA c) (l.take k.1)).1.p (gO (gA c) (l.take k.1)).1.lost (gO (gA c) (l.take k.1)).1.ns++[(704,.grow 7 ((gO (gA c) (l.take k.1)).2.map dV) 57)]) 705 (λk hk1 B hB=>?_) (h0:=by constructor<;>simp[gO,np,nl]);simp[gO,np,nl];rcases bC hk1 with⟨x,hk,hx,hr,hm,ht,hd,hw,h⟩|rfl
 ·simp[h,hr,hw];have q:=V8 (M:=gA c) (l.take k) (fQ.new c) (λs hm=>hs s (pY hm));have hq:=PE (l.take k) (gA c);have hq':(l.take k).length<=1000:=by simp;omega
  have xs:=Av (l.take k) (Ts c);have hc:=V6 (l.take k) (gA c);have sn:=V7 x (l.take k) (gA c);generalize gO (gA c) (l.take k)=Q at q hq xs hc sn⊢;obtain⟨⟨c',p,ns,lost⟩,os⟩:=Q;simp only at q hq xs hc sn⊢;have hc':c'=c:=hc;subst hc';have b0:=q.1.l0;have b1:=q.1.l1;simp only at b0 b1;refine CI.cc [320,321] (Xp c' p lost ns x q.1.n1 q.1.n4 q.1.ok xs q.1.p (hs x hm) (ha x hm) b0 (by omega)) ?_;simp;refine⟨by omega,?_⟩;exact hB hk (by constructor<;>simp[hw,ht,sn])
 ·simp;exact⟨[(64,320),(65,321),(66,704)],by constructor<;>simp[aI,aJ]⟩
attribute [simp] ntmps23 results23 ntmps4 results4
theorem Ff (l:dM)(h:eA l):C0 55 [st (gP l),st (gP l)] (bool true):=by
 have:=zbs (dY l) h.lk.len (λb hb=>(h.lk.q b hb).2)
 rwa[qC]at this
theorem zbp (M:G.cX){B:Int}(c:bT)(hk:M.ns.length=gV c)(hM:fQ M B)(hpu:∀n∈M.ns,oO n):C1 23 [.ptr 0 0,.ptr 6 0] (BC M.c M.p M.lost (bW M 0 (gV c))++G9 6 M.c M.p M.lost M.ns) [] (bool true) []:=by
 have n1:=hM.n1;have n4:=hM.n4;have hp:=hM.p;have okP:=HV hp;have dk:decide (M.p=M.p)=true:=by simp
 rcases OH c with hc|hc|hc|hc
 all_goals
  refine Ct.B func23 ?_;simp[hc,bW];refine CI.cc [0,1,2,3,4,5] (Xj M.c M.p M.lost (bW M 0 (gV c)) (by simp[hc,bW]) (by simp[hc,bW])) ?_ (ha:=by simp[hc,bW]) (hn:=by constructor<;>simp[jB,hc,bW]) (hk:=by simp[hc,bW]);simp[hc,bW];refine CI.cc [0,1,2,3,4,5] (uV M.c M.p M.lost (bW M 0 (gV c)) (by simp[hc,bW]) (by simp[hc,bW])) ?_ (ha:=by simp[hc,bW,hk]) (hn:=by constructor<;>simp[jB,hc,bW,hk]) (hk:=by simp[hc,bW,hk]);simp[hc,bW,hk];refine CI.cc [0,1,2,3,4,5] (zfK M.c M.p M.lost (bW M 0 (gV c)) (by simp[hc,bW]) (by simp[hc,bW])) ?_ (ha:=by simp[hc,bW,hk]) (hn:=by constructor<;>simp[jB,hc,bW,hk]) (hk:=by simp[hc,bW,hk]);simp[hc,bW,hk];refine CI.cc [0,1,2,3,4,5] (zaM M hk hM) ?_ (ha:=by simp[hc,bW,hk]) (hn:=by constructor<;>simp[jB,hc,bW,hk]) (hk:=by simp[hc,bW,hk]);simp[hc,bW,hk];refine CI.cc [6,7] (zaL M.c M.p M.lost M.ns n1 n4 hM.ok hp) ?_ (ha:=by simp[hc,bW,hk]) (hn:=by constructor<;>simp[jB,hc,bW,hk]) (hk:=by simp[hc,bW,hk]);simp[hc,bW,hk];refine CI.p (Yz M.p M.p okP) ?_ (ha:=by simp[dk]);simp[dk]
  repeat refine⟨by decide+kernel,?_⟩
  refine aH.inv mixed rfl (ι:={k:Nat//k<=gV c}) (λk=>[(0,.ptr 0 0),(1,.ptr 6 0),(6,int k.1)]) (λk=>BC M.c M.p M.lost (bW M 0 (gV c))++G9 6 M.c M.p M.lost M.ns) 1600 (λk=>gV c-k.1) ⟨0,by omega⟩ [] (by constructor<;>simp[hc,bW]) ?_;rintro⟨i,hi⟩ B hB;refine CI.n ?_;simp[hc,bW,hk];by_cases h1:i<gV c
  ·have h1':(i:Int)<((gV c:Nat):Int):=by omega
   rw[hc]at h1';simp at h1';obtain⟨n,hn1⟩:∃n,M.ns[i]? =some n:=⟨_,bO (by omega)⟩;have hd:=ze8 hk hn1;have hlt:i<M.ns.length:=by omega
   have hg:=tH hn1;have on:=hM.ok n (gT hn1);have wi:IntKind.wrap .i64 ((i:Int)+1)=i+1:=wz _;have d1:decide (n.bF=n.bF)=true:=by simp
   have S:=mQ.1 on.ss;simp[h1'];refine CI.cc [0,1,2,3,4,5] (zar M.c M.p M.lost (bW M 0 (gV c)) i i n (by simp[hc,bW]) hd rfl) ?_ (ha:=by simp[hc,bW]) (hn:=by constructor<;>simp[jB,hc,bW]) (hk:=by simp[hc,bW]);simp[hc,bW];refine CI.cc [0,1,2,3,4,5] (zaU M.c M.p M.lost (bW M 0 (gV c)) i i n (by simp[hc,bW]) hd rfl) ?_ (ha:=by simp[hc,bW]) (hn:=by constructor<;>simp[jB,hc,bW]) (hk:=by simp[hc,bW]);simp[hc,bW];refine CI.cc [0,1,2,3,4,5] (zdf M.c M.p M.lost (bW M 0 (gV c)) i i n (by simp[hc,bW]) hd rfl) ?_ (ha:=by simp[hc,bW]) (hn:=by constructor<;>simp[jB,hc,bW]) (hk:=by simp[hc,bW]);simp[hc,bW];simp[hg,hlt];refine CI.p (zgS n.side on.d.x.sl) ?_;simp;refine CI.p (zbl n.side on.d.x) ?_;simp;refine CI.p (zgZ n.bF (hpu n (gT hn1)).len) ?_;simp;refine CI.p (zbr n.bF n.bF on.so) ?_ (ha:=by simp[d1]);simp[d1]
   repeat refine⟨by decide+kernel,?_⟩
   refine aH.inv mixed rfl (ι:={k:Nat//k<=2}) (λk=>[(0,.ptr 0 0),(1,.ptr 6 0),(6,int i),(13,.ptr 1600 0),(14,int k.1)]) (λk=>BC M.c M.p M.lost (bW M 0 (gV c))++G9 6 M.c M.p M.lost M.ns++[(1600,.cells ((dZ n).map .d) 145)]) 1700 (λk=>2-k.1) ⟨0,by omega⟩ [] (by constructor<;>simp[hc,bW]) ?_;rintro⟨w,hw⟩ Bw hBw;refine CI.n ?_;simp[hc,bW];by_cases h2:w<2
   ·have ww:IntKind.wrap .i64 ((w:Int)+1)=w+1:=wz _;have hw':w=0\/w=1:=by omega
    rcases hw' with rfl|rfl
    ·simp;refine CI.cc [0,1,2,3,4,5] (Bh M.c M.p M.lost (bW M 0 (gV c)) i 0 i n (by simp[hc,bW]) hd rfl (.inl rfl)) ?_ (ha:=by simp[hc,bW,iP]) (hn:=by constructor<;>simp[jB,hc,bW,iP]) (hk:=by simp[hc,bW,iP]);simp[hc,bW,iP];refine CI.p (Ff n.up on.up) ?_;simp
     repeat refine⟨by decide+kernel,?_⟩
     refine hBw _ ⟨1,by omega⟩ [] ?_ (by simp);constructor<;>simp[hc,bW]
    ·simp;refine CI.cc [0,1,2,3,4,5] (Bh M.c M.p M.lost (bW M 0 (gV c)) i 1 i n (by simp[hc,bW]) hd rfl (.inr rfl)) ?_ (ha:=by simp[hc,bW,iP]) (hn:=by constructor<;>simp[jB,hc,bW,iP]) (hk:=by simp[hc,bW,iP]);simp[hc,bW,iP];refine CI.p (Ff n.dn on.dn) ?_;simp
     repeat refine⟨by decide+kernel,?_⟩
     refine hBw _ ⟨2,by omega⟩ [] ?_ (by simp);constructor<;>simp[hc,bW]
   ·have h2':¬(w:Int)<2:=by omega
    simp[h2'];refine hB _ ⟨i+1,by omega⟩ [] ?_ (by simp;omega);constructor<;>simp[wi,hc,bW]
  ·have h1':¬(i:Int)<((gV c:Nat):Int):=by omega
   rw[hc]at h1';simp at h1';have h2':=vT.2 h1';simp[h2'];exact⟨[],by constructor<;>simp[aI,aJ]⟩
theorem zdh (c:bT)(l:List cB)(ha:∀s∈l,cL s.aD)(hl:l.length<=9223372036854775807)(hf:xW l=true):eL i6 prog 4 [st (tF c),aB (l.map eD)] [] [] (bool true) []:=by
 obtain⟨h60,hs⟩:=zez hf;rcases OH c with hk|hk|hk|hk
 all_goals
  refine eL.B xY func4 ?_;simp;refine CI.j [] Rq ?_;simp;refine CI.p (Pq l ha hl) ?_ (ha:=by simp[hf]);simp[hf];refine CI.p (ziV c) ?_;simp;refine CI.p (Xl l (by omega)) ?_;simp;refine CI.j [] (zdk c l (by omega) hs) ?_ (ha:=by simp[hk,bW]) (hn:=by constructor<;>simp[jB,hk,bW]) (hk:=by simp[hk,bW]);simp[hk,bW];refine CI.cc [] (zdj c l (by omega) hs ha) ?_;simp
  repeat refine⟨by decide+kernel,?_⟩
  have qM:=V8 l (fQ.new c) hs;have ql:(gO (gA c) l).1.ns.length=gV c:=qM.2.trans (by simp[gA]);have qo:=zdJ l (fQ.new c) hs;have qp:=Hm l (fQ.new c) hs (zcX c);have qc:(gO (gA c) l).1.c=c:=V6 l (gA c);have qn:=PE l (gA c);generalize(gO (gA c) l).2=os at qo qn⊢;generalize(gO (gA c) l).1=M at qM ql qp qc⊢;subst qc;refine aH.V (os) (λkm=>[(5,bool true),(6,.ptr 768 0),(7,.own 831),(8,.ptr 1280 0),(9,.own 1282),(10,int km.1)]) (λkm=>BD 768 M (bW M 0 (gV M.c))++G9 1280 M.c M.p M.lost M.ns++[(831,.grow 7 (os.map dV) 59),(1282,.grow 7 (os.map dV) 57)]) 2048 (λkm hk1m Bm hBm=>?_) (h0:=by constructor<;>simp[hk,bW]);simp[hk,bW];rcases bC hk1m with⟨o,hkm,hxm,hrm,hmm,htm,hdm,hwm,hm⟩|rfl
  ·simp[hm,hrm,hwm];have lo:=qo o hmm;simp[hxm,hkm];refine CI.p (zdM o) ?_ (ha:=by simp[hxm,hkm]);simp[hxm,hkm];refine CI.p (zbk o (by omega) (by omega)) ?_;simp
   repeat refine⟨by decide+kernel,?_⟩
   exact hBm hkm (by constructor<;>simp[hwm,htm,hk,bW])
  ·simp;refine CI.cc [768,769,770,771,772,773,1280,1281] (zbp M M.c ql qM.1 qp) ?_ (ha:=by simp[hk,bW]) (hn:=by constructor<;>simp[jB,hk,bW]) (hk:=by simp[hk,bW]);simp[hk,bW]
   repeat refine⟨by decide+kernel,?_⟩
   exact⟨[],by constructor<;>simp[aI,aJ]⟩
theorem zdi (c:bT)(l:List cB)(ha:∀s∈l,cL s.aD)(hl:l.length<=9223372036854775807)(hf:xW l=false):eL i6 prog 4 [st (tF c),aB (l.map eD)] [] [] (bool true) []:=by
 refine eL.B xY func4 ?_;simp;refine CI.j [] Rq ?_;simp;refine CI.p (Pq l ha hl) ?_ (ha:=by simp[hf]);simp[hf];exact aA (by simp[hf])
theorem zfu (c:bT)(l:List cB)(h:l.length<=9223372036854775807/\∀s∈l,Ab s):eL i6 prog 4 [st (tF c),aB (l.map eD)] [] [] (bool true) []:=by
 have hl:=h.1;have ha:∀s∈l,cL s.aD:=λs hs=>(h.2 s hs).aD;by_cases hf:xW l=true
 ·exact zdh c l ha hl hf
 ·exact zdi c l ha hl (by simpa using hf)
end Go.Proofs.YtobcmagefgdgdaaGreatDoor
