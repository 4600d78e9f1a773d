/- LAYER 24, walked -/
import Derived.Test.YtobcmagefgdgdaaGreatDoorWla
set_option linter.unusedSimpArgs false
set_option linter.unusedVariables false
set_option maxRecDepth 100000
set_option maxHeartbeats 8000000
namespace Go.Proofs.YtobcmagefgdgdaaGreatDoor
open Go.AI Go.G Tryz
attribute [simp] ntmps224 results224 ntmps160 results160 ntmps169 results169 ntmps158 results158 ntmps162 results162 ntmps38 results38 ntmps108 results108 ntmps107 results107
theorem za3 (l:dM)(f:G.Frame)(h:eA l)(he:dD f=0):C0 168 [st (gP l),aB ((kU f).map aV)] (.aU [st (gP (kW l f).1),int (kW l f).2]):=by
 obtain⟨x,b,e⟩:=List.exists_cons_of_ne_nil (Ck f);have hl:=UG he;have:=VC (dY l) x b h.lk (by rw[<-e];omega);rw[<-e,qC]at this;rw[<-qC,<-qC]at*;have hs:qB (dY l) (kU f)=(dY (kW l f).1,(kW l f).2):=by
  unfold qB kW;rw[h.sound,aT (by simp[he])];by_cases hq:32<=l.q.length
  ·rw[aZ hq,KK (by simpa[dY]using hq)]
  ·rw[aT hq,GX (by simpa[dY]using hq)];simp[dY]
 rw[hs]at this;exact this
theorem Co (l:dM)(i:Int)(h:eA l):C0 161 [st (gP l),int i] (.aU [st (gP (takeN l i).1),aB ((if l.q=[]then []else kU (takeN l i).2.1).map aV),int (takeN l i).2.2]):=by
 have:=UM (dY l) i h.lk;rw[NM h]at this;simpa only[qC]using this
theorem zis (l:dM)(i:Int)(h:eA l):C0 104 [st (gP l),int i] (.aU [st (gP (vM l i).1),int (vM l i).2]):=by
 have:=zir (dY l) i h.lk;rw[Py h]at this;simpa only[qC]using this
theorem zk8 (l:dM)(i:Int)(h:eA l):C0 105 [st (gP l),int i] (.aU [st (gP (uL l i).1),int (uL l i).2]):=by
 have:=zk6 (dY l) i h.lk;rw[Sr h]at this;simpa only[qC]using this
theorem zf5 (l:dM)(i:Int)(h:eA l):C0 106 [st (gP l),int i] (.aU [st (gP (uC l i).1),int (uC l i).2]):=by
 have:=zf3 (dY l) i h.lk;rw[Nb h]at this;simpa only[qC]using this
theorem KO (l:dM)(h:eA l):C0 238 [st (gP l)] (.aU [st (gP (if l.aM=2147483647 then l else⟨l.aM+1,[]⟩)),int (if l.aM=2147483647 then 14 else 0)]):=by
 have:=zcc (dY l) h.lk.len;unfold C8 at this;rw[h.sound]at this;simp only[qC]at this;by_cases he:l.aM=2147483647
 ·rw[aZ (show(dY l).aM=2147483647 from he),qC]at this;simpa only[aZ he]using this
 ·rw[aT (show¬(dY l).aM=2147483647 from he)]at this;simp only[aT he];have e:iJ ⟨(dY l).aM+1,[]⟩=gP ⟨l.aM+1,[]⟩:=rfl;rw[e]at this;exact this
theorem Ec (l:dM)(f:G.Frame)(h:eA l)(hf:fJ f):C0 224 [st (gP l),st (cA f)] (.aU [st (gP (kW l f).1),int (kW l f).2]):=by
 refine Ct.B func224 ?_;simp;by_cases he:dD f=0
 ·have hl:=BA (j9.1 he);refine CI.p (zcD f he) ?_;simp;refine CI.p (Tw (j3 f) (by omega)) ?_;simp;refine CI.p (za3 l f h he) ?_ (ha:=by simp[kU]);simp[kU];exact aA
 ·refine CI.p (zcJ f hf he) ?_;simp;simp[he];exact aA (by simp[kW,he])
abbrev gG (c:bT)(p:aW)(lost:Int)(v:Value):Nat×aY:=(0,.cells [int c.sides,int c.cap,int c.limit,int c.max,int p.cap,aB (p.bA.map oX),.d (.v v),int lost] 87)
abbrev dC (c:bT)(p:aW)(lost:Int)(b:Nat):Nat×aY:=(0,.cells [int c.sides,int c.cap,int c.limit,int c.max,int p.cap,aB (p.bA.map oX),.own b,int lost] 87)
abbrev iE (n:G.Node):Nat×aY:=(1,.cells ((dZ n).map .d) 121)
theorem VD (v:Value)(c:bT)(p:aW)(lost:Int)(n:G.Node)(l:List G.Frame)(hn:eA n.up)(hf:∀f∈l,fJ f)(hl:l.length<=1000)(h0:0<=lost)(h1:lost<=1000000000000):C1 160 [.ptr 0 0,.ptr 1 0,int 0,aB (l.map cA)] [] [gG c p lost v,iE n] (.aU []) [gG c p (fM n.up lost l).2 v,iE {n with up:=(fM n.up lost l).1}]:=by
 refine Ct.B func160 ?_;simp;refine aH.V (l) (λk=>[(0,.ptr 0 0),(1,.ptr 1 0),(2,int 0),(12,aB (l.map cA)),(13,int l.length),(14,int k.1)]) (λk=>[gG c p ((l.take k.1).foldl gM (n.up,lost)).2 v,iE {n with up:=((l.take k.1).foldl gM (n.up,lost)).1}]) 64 (λk hk1 B hB=>?_);simp;rcases bC hk1 with⟨f,hk,hx,hr,hm,ht,hd,hw,h⟩|rfl
 ·simp[h,hr,hw];have hz:=ES (l.take k) (z:=(n.up,lost)) hn;have hlen:(l.take k).length<=1000:=by simp;omega
  have ht2:(l.take (k+1)).foldl gM (n.up,lost)=gM ((l.take k).foldl gM (n.up,lost)) f:=by rw[ht,qY];rfl
  generalize(l.take k).foldl gM (n.up,lost)=z at hz ht2⊢;refine CI.p (Ec z.1 f hz.1 (hf f hm)) ?_;simp;refine dr ?_;have w1:=wrap_i64 (n:=z.2+1) (by simp only at hz;omega) (by simp only at hz;omega);by_cases h2:(kW z.1 f).2=0
  ·have e:gM z f=((kW z.1 f).1,z.2):=aZ h2;rw[e]at ht2;simp[h2];refine dr ?_;exact hB hk (by constructor<;>simp[hw,ht2])
  ·have e:gM z f=(z.1,z.2+1):=aT h2;rw[e]at ht2;simp[h2,w1];exact hB hk (by constructor<;>simp[hw,ht2])
 ·simp;exact⟨[],by constructor<;>simp[aI,aJ,fM]⟩
theorem Ef (v:Value)(c:bT)(p:aW)(lost:Int)(n:G.Node)(l:List G.Frame)(hn:eA n.dn)(hf:∀f∈l,fJ f)(hl:l.length<=1000)(h0:0<=lost)(h1:lost<=1000000000000):C1 160 [.ptr 0 0,.ptr 1 0,int 1,aB (l.map cA)] [] [gG c p lost v,iE n] (.aU []) [gG c p (fM n.dn lost l).2 v,iE {n with dn:=(fM n.dn lost l).1}]:=by
 refine Ct.B func160 ?_;simp;refine aH.V (l) (λk=>[(0,.ptr 0 0),(1,.ptr 1 0),(2,int 1),(12,aB (l.map cA)),(13,int l.length),(14,int k.1)]) (λk=>[gG c p ((l.take k.1).foldl gM (n.dn,lost)).2 v,iE {n with dn:=((l.take k.1).foldl gM (n.dn,lost)).1}]) 64 (λk hk1 B hB=>?_);simp;rcases bC hk1 with⟨f,hk,hx,hr,hm,ht,hd,hw,h⟩|rfl
 ·simp[h,hr,hw];have hz:=ES (l.take k) (z:=(n.dn,lost)) hn;have hlen:(l.take k).length<=1000:=by simp;omega
  have ht2:(l.take (k+1)).foldl gM (n.dn,lost)=gM ((l.take k).foldl gM (n.dn,lost)) f:=by rw[ht,qY];rfl
  generalize(l.take k).foldl gM (n.dn,lost)=z at hz ht2⊢;refine CI.p (Ec z.1 f hz.1 (hf f hm)) ?_;simp;refine dr ?_;have w1:=wrap_i64 (n:=z.2+1) (by simp only at hz;omega) (by simp only at hz;omega);by_cases h2:(kW z.1 f).2=0
  ·have e:gM z f=((kW z.1 f).1,z.2):=aZ h2;rw[e]at ht2;simp[h2];refine dr ?_;exact hB hk (by constructor<;>simp[hw,ht2])
  ·have e:gM z f=(z.1,z.2+1):=aT h2;rw[e]at ht2;simp[h2,w1];exact hB hk (by constructor<;>simp[hw,ht2])
 ·simp;exact⟨[],by constructor<;>simp[aI,aJ,fM]⟩
theorem Gb (v:Value)(c:bT)(p:aW)(lost:Int)(n:G.Node)(hn:cF n)(h0:0<=lost)(h1:lost<=100000000000):C1 169 [.ptr 0 0,.ptr 1 0] [] [gG c p lost v,iE n] (int (fP c.max lost n).2.2) [gG c p (fP c.max lost n).2.1 v,iE (fP c.max lost n).1]:=by
 refine Ct.B func169 ?_;simp;by_cases h2:n.up.aM=2147483647
 ·have e:fP c.max lost n=(n,lost,14):=aZ (.inl h2);rw[e];refine aH.un ?_;simp;refine CI.p (KO n.up hn.up) ?_;simp;simp[h2];exact⟨[],by constructor<;>simp[aI,aJ,h2]⟩
 by_cases h3:n.dn.aM=2147483647
 ·have e:fP c.max lost n=(n,lost,14):=aZ (.inr h3);rw[e];refine aH.un ?_;simp;refine CI.p (KO n.up hn.up) ?_;simp;simp[h2];refine aH.un ?_;simp;refine CI.p (KO n.dn hn.dn) ?_;simp;simp[h3];exact⟨[],by constructor<;>simp[aI,aJ,h3]⟩
 have cc:=hn.d.connect (n.up.aM+1);have e:fP c.max lost n=(⟨(l5 n.side (n.up.aM+1)).1,o7 (n.up.aM+1) c.max,(fM ⟨n.up.aM+1,[]⟩ lost (l5 n.side (n.up.aM+1)).2.1).1,⟨n.dn.aM+1,[]⟩,n.gF⟩,(fM ⟨n.up.aM+1,[]⟩ lost (l5 n.side (n.up.aM+1)).2.1).2,(l5 n.side (n.up.aM+1)).2.2):=aT (by omega);rw[e];have up:=hn.up.fresh h2;refine aH.un ?_;simp;refine CI.p (KO n.up hn.up) ?_;simp;simp[h2];refine aH.un ?_;simp;refine CI.p (KO n.dn hn.dn) ?_;simp;simp[h3];refine aH.un ?_;simp;refine CI.p (wL (n.up.aM+1) c.max) ?_;simp;refine CI.p (ziS n.side (n.up.aM+1) hn.d.x) ?_;simp;generalize l5 n.side (n.up.aM+1)=X at cc⊢;refine CI.cc [0,1] (VD v c p lost ⟨X.1,o7 (n.up.aM+1) c.max,⟨n.up.aM+1,[]⟩,⟨n.dn.aM+1,[]⟩,n.gF⟩ X.2.1 up cc.2.1 (by omega) h0 (by omega)) ?_;simp;exact⟨[],by constructor<;>simp[aI,aJ]⟩
theorem Hb (v:Value)(c:bT)(p:aW)(lost:Int)(n:G.Node)(hn:cF n)(hp:gN p=true)(h0:0<=lost)(h1:lost<=10000000000):C1 158 [.ptr 0 0,.ptr 1 0] [] [gG c p lost v,iE n] (int (iK c.max p lost n).2.2) [gG c p (iK c.max p lost n).2.1 v,iE (iK c.max p lost n).1]:=by
 refine Ct.B func158 ?_;simp;have S:=mQ.1 hn.ss;have hpl:p.bA.length<=100000:=((oW p).1 hp).2.1;refine CI.p (zcP n.bF p hn.so (by have:=S.hl;omega) (by omega) (λ_=>⟨xA (KT hp),by have:=vZ (KT hp);omega⟩)) ?_;simp;refine dr ?_;obtain⟨p1,p2,p3,p4,p5⟩:=PA hn.ss hn.so hp;unfold iK;dsimp only;generalize iL n.bF p=R at p1 p2 p3 p4⊢;have l:=DL hn.dn lost R.2.1;refine CI.cc [0,1] (Ef v c p lost {n with bF:=R.1} R.2.1 hn.dn (λf hf=>xJ (p3 f hf).1) (by omega) h0 (by omega)) ?_;simp;have hm:cF {n with bF:=R.1,dn:=(fM n.dn lost R.2.1).1}:=⟨hn.d,p1,p2,hn.up,hn.dn.send _ _,hn.pl⟩;generalize fM n.dn lost R.2.1=z at l hm⊢;refine aX (λh2 zz=>?_) (λh2 zz=>?_)<;>simp only[zz]<;>simp
 ·refine CI.cc [0,1] (Gb v c p z.2 {n with bF:=R.1,dn:=z.1} hm (by omega) (by omega)) ?_;simp;refine⟨[],?_,?_,?_,?_,?_,?_,?_⟩<;>simp[aI,aJ,h2]
 ·refine⟨[],?_,?_,?_,?_,?_,?_,?_⟩<;>simp[aI,aJ,h2]
theorem zR (b:Nat)(c:bT)(p:aW)(lost:Int)(n:G.Node)(hn:cF n)(hp:gN p=true)(h0:0<=lost)(h1:lost<=10000000000):C1 158 [.ptr 0 0,.ptr 1 0] [] [dC c p lost b,iE n] (int (iK c.max p lost n).2.2) [dC c p (iK c.max p lost n).2.1 b,iE (iK c.max p lost n).1]:=
 Ct.rH (mr:=[]) (pre:=[int c.sides,int c.cap,int c.limit,int c.max,int p.cap,aB (p.bA.map oX)]) (pre':=[int c.sides,int c.cap,int c.limit,int c.max,int p.cap,aB (p.bA.map oX)]) rfl λv=>Hb v c p lost n hn hp h0 h1
theorem Oh (f:G.Frame)(he:dD f=0):C0 162 [aB ((kU f).map aV)] (.aU [st (cA f),int 0]):=by
 refine Ct.B func162 ?_;simp;have hl:=BA (j9.1 he);obtain⟨x,b,e⟩:=List.exists_cons_of_ne_nil (zcK f);have et:kU f=oF (x::b):=by rw[<-e];rfl
 rw[et];refine CI.p (zeT x b (by rw[<-e];omega)) ?_;simp;have eb:(x::b).map aV=(j3 f).map aV:=by rw[e]
 refine CI.p (zhq f he) ?_ (ha:=by simp[<-eb]);simp[<-eb];exact aA
theorem zgR (n:G.Node)(hn:cF n):C1 38 [.ptr 0 0] [(0,.cells ((dZ n).map .d) 121)] [] (bool (decide (n.up.q.length+n.dn.q.length+n.gF.tasks.length=0))) []:=by
 refine Ct.B func38 ?_;simp;have l1:=hn.up.len;have l2:=hn.dn.len;have l3:=hn.pl.p.lt;have w1:=wz ((n.up.q.length:Int)+n.dn.q.length);have w2:=wz ((n.up.q.length:Int)+n.dn.q.length+n.gF.tasks.length);have e:(decide ((n.up.q.length:Int)+n.dn.q.length+n.gF.tasks.length=0))=decide (n.up.q.length+n.dn.q.length+n.gF.tasks.length=0):=EF.2 (by omega);simp[w1,w2,e];refine dr ?_;exact⟨[],by constructor<;>simp[aI,aJ]⟩
theorem zj3 (v:Value)(c:bT)(p:aW)(lost:Int)(n:G.Node)(s:cB)(hn:cF n):C1 108 [.ptr 0 0,.ptr 1 0,st (eD s)] [] [gG c p lost v,iE n] (st (dV (tG lost n s).2.2)) [gG c p (tG lost n s).2.1 v,iE (tG lost n s).1]:=by
 refine Ct.B func108 ?_;simp;refine CI.p (Yj n.gF s.a hn.pl.p) ?_;simp;refine dr ?_;exact⟨[],by constructor<;>simp[aI,aJ,tG,cU]⟩
theorem zk5 (v:Value)(c:bT)(p:aW)(lost:Int)(n:G.Node)(s:cB)(hn:cF n)(h0:0<=lost)(h1:lost<=10000000000):C1 107 [.ptr 0 0,.ptr 1 0,st (eD s)] [] [gG c p lost v,iE n] (st (dV (cG (fP c.max lost n).2.2))) [gG c p (fP c.max lost n).2.1 v,iE (fP c.max lost n).1]:=by
 refine Ct.B func107 ?_;simp;refine CI.cc [0,1] (Gb v c p lost n hn h0 (by omega)) ?_;simp;exact⟨[],by constructor<;>simp[aI,aJ,cG,cU]⟩
attribute [simp] ntmps102 results102 ntmps109 results109 ntmps174 results174 ntmps110 results110 ntmps165 results165
theorem zjP (v:Value)(c:bT)(p:aW)(lost:Int)(n:G.Node)(s:cB)(hn:cF n)(hp:gN p=true)(hw:s.way=0)(h0:0<=lost)(h1:lost<=1000000000):C1 102 [.ptr 0 0,.ptr 1 0,st (eD s)] [] [gG c p lost v,iE n] (st (dV (gY c.max p lost n s).2.2)) [gG c p (gY c.max p lost n s).2.1 v,iE (gY c.max p lost n s).1]:=by
 refine Ct.B func102 ?_;simp;have ht:=hn.up.take s.n;have e0:iP n s.way=n.up:=aZ hw;have e1:∀l,nP n s.way l={n with up:=l}:=λl=>aZ hw;have hne:(takeN n.up s.n).2.2=0->n.up.q≠[]:=NP;unfold gY;rw[e0];dsimp only;rw[e1];simp[hw];refine CI.p (Co n.up s.n hn.up) ?_;simp;refine dr ?_;refine dr ?_;generalize takeN n.up s.n=t at ht hne⊢;by_cases h2:t.2.2=0
 ·have hq:=hne h2;simp[h2,hw];refine CI.p (Oh t.2.1 (ht.2 h2)) ?_ (ha:=by simp[hq]);simp[hq];have S:=mQ.1 hn.ss;have hpl:p.bA.length<=100000:=((oW p).1 hp).2.1;refine CI.p (zhb n.bF p t.2.1 (by have:=S.dl;omega) hn.so.v.push (by have:=S.hl;omega) (xJ (ht.2 h2)) (HV hp) (by omega)) ?_;simp;refine dr ?_;have k1:=LD p t.2.1 hn.ss;have k2:=Q6 t.2.1 hn.ss hn.so hp;generalize handle n.bF p t.2.1=r at k1 k2⊢;by_cases h3:r.2=0
  ·simp[h3];refine CI.cc [0,1] (Hb v c p lost {n with up:=t.1,bF:=r.1} ⟨hn.d,k1,k2,ht.1,hn.dn,hn.pl⟩ hp h0 (by omega)) ?_;simp;exact⟨[],by constructor<;>simp[aI,aJ,h3,cG,cU]⟩
  ·simp[h3];exact⟨[],by constructor<;>simp[aI,aJ,h3,cG,cU]⟩
 ·simp[h2];exact⟨[],by constructor<;>simp[aI,aJ,h2,cG,cU]⟩
theorem zjN (v:Value)(c:bT)(p:aW)(lost:Int)(n:G.Node)(s:cB)(hn:cF n)(hp:gN p=true)(hw:s.way=1)(h0:0<=lost)(h1:lost<=1000000000):C1 102 [.ptr 0 0,.ptr 1 0,st (eD s)] [] [gG c p lost v,iE n] (st (dV (gY c.max p lost n s).2.2)) [gG c p (gY c.max p lost n s).2.1 v,iE (gY c.max p lost n s).1]:=by
 refine Ct.B func102 ?_;simp;have ht:=hn.dn.take s.n;have e0:iP n s.way=n.dn:=aT (by omega);have e1:∀l,nP n s.way l={n with dn:=l}:=λl=>aT (by omega);have hne:(takeN n.dn s.n).2.2=0->n.dn.q≠[]:=NP;unfold gY;rw[e0];dsimp only;rw[e1];simp[hw];refine CI.p (Co n.dn s.n hn.dn) ?_;simp;refine dr ?_;refine dr ?_;generalize takeN n.dn s.n=t at ht hne⊢;by_cases h2:t.2.2=0
 ·have hq:=hne h2;simp[h2,hw];refine CI.p (Oh t.2.1 (ht.2 h2)) ?_ (ha:=by simp[hq]);simp[hq];refine CI.p (zas n.side t.2.1 hn.d.x (xJ (ht.2 h2))) ?_;simp;refine dr ?_;have hs:=hn.d.side t.2.1;generalize qA n.side t.2.1=r at hs⊢;refine CI.cc [0,1] (VD v c p lost {n with dn:=t.1,side:=r.1} r.2.1 hn.up hs.2.1 (by omega) h0 (by omega)) ?_;simp;exact⟨[],by constructor<;>simp[aI,aJ,cG,cU]⟩
 ·simp[h2];exact⟨[],by constructor<;>simp[aI,aJ,h2,cG,cU]⟩
theorem zjJ (v:Value)(c:bT)(p:aW)(lost:Int)(n:G.Node)(s:cB)(hn:cF n)(hp:gN p=true)(hw:s.way=0\/s.way=1)(h0:0<=lost)(h1:lost<=1000000000):C1 102 [.ptr 0 0,.ptr 1 0,st (eD s)] [] [gG c p lost v,iE n] (st (dV (gY c.max p lost n s).2.2)) [gG c p (gY c.max p lost n s).2.1 v,iE (gY c.max p lost n s).1]:=by
 rcases hw with hw|hw
 ·exact zjP v c p lost n s hn hp hw h0 h1
 ·exact zjN v c p lost n s hn hp hw h0 h1
theorem zhn (v:Value)(c:bT)(p:aW)(lost:Int)(n:G.Node)(s:cB)(hn:cF n)(h0:0<=lost)(h1:lost<=1000000000):C1 109 [.ptr 0 0,.ptr 1 0,st (eD s)] [] [gG c p lost v,iE n] (st (dV (rJ lost n s).2.2)) [gG c p (rJ lost n s).2.1 v,iE (rJ lost n s).1]:=by
 refine Ct.B func109 ?_;simp;refine CI.p (zdu n.gF n.side s.n hn.pl.p hn.d.x hn.d.n hn.pl.a) ?_;simp;refine dr ?_;refine dr ?_;have hk:=hn.pl.pick hn.d s.n;have hlast:=Hy (p:=n.gF) (s:=n.side) (draw:=s.n);unfold rJ;dsimp only;generalize kK n.gF n.side s.n=r at hk hlast⊢;refine CI.cc [0,1] (VD v c p lost {n with gF:=r.1,side:=r.2.1} r.2.2.1 hn.up hk.2.2.1 (by omega) h0 (by omega)) ?_;simp;by_cases h2:r.2.2.2=0
 ·by_cases h3:r.1.tasks.length=n.gF.tasks.length
  ·have h3':(r.1.tasks.length:Int)=n.gF.tasks.length:=by omega
   simp[h2,h3'];exact⟨[],by constructor<;>simp[aI,aJ,h2,h3,cG,cU]⟩
  ·have h3':¬(r.1.tasks.length:Int)=n.gF.tasks.length:=by omega
   obtain⟨i,x,e⟩:=hlast h3;have hd:=hk.1.p.ld;rw[e]at hd⊢;have w1:IntKind.wrap .i64 (i.length:Int)=i.length:=wrap_i64 (by omega) (by simp at hd;omega);have e9:(i.length:Int)<i.length+1:=by omega
   simp[h2,h3',e,w1,e9,YT];exact⟨[],by constructor<;>simp[aI,aJ,h2,h3,cU,e]⟩
 ·simp[h2];exact⟨[],by constructor<;>simp[aI,aJ,h2,cG,cU]⟩
theorem Ap (b:Bool):C0 174 [bool b] (int (CQ b)):=by
 refine Ct.B func174 ?_;simp;refine bQ (λh1=>?_) (λh1=>?_)<;>simp only[h1]<;>simp
 ·exact aA (by simp[CQ,h1])
 ·exact aA (by simp[CQ,h1])
theorem Wl (v:Value)(c:bT)(p:aW)(lost:Int)(n:G.Node)(s:cB)(hn:cF n)(hp:gN p=true):C1 110 [.ptr 0 0,.ptr 1 0,st (eD s)] [] [gG c p lost v,iE n] (st (dV (rS p lost n).2.2)) [gG c p lost v,iE n]:=by
 refine Ct.B func110 ?_;simp;have hpl:p.bA.length<=100000:=((oW p).1 hp).2.1;refine CI.p (DG p (by omega)) ?_;simp;refine CI.p (zat n.side hn.d.x) ?_;simp;have hl:=VA hn.d.x;refine CI.cc [] (QU (((uW n.side).map (·.l)).getD []) (by omega)) ?_;simp;refine CI.p (Ap (uW n.side).isSome) ?_;simp;have S:=mQ.1 hn.ss;refine CI.p (oG n.bF p hn.so (by have:=S.hl;omega) (by omega)) ?_;simp;refine CI.p (Ap (nC n.bF p)) ?_;simp;refine dr ?_;exact⟨[],by constructor<;>simp[aI,aJ,rS,cU,kM]⟩
abbrev Kl (n:G.Node):Nat×aY:=(0,.cells ((dZ n).map .d) 121)
theorem zg3 (lost:Int)(n:G.Node)(s:cB)(kf:D)(f:dM->Int->dM×Int)(hf:∀l i,eA l->bN prog (.d kf) [st (gP l),int i] (.aU [st (gP (f l i).1),int (f l i).2]))(hn:cF n)(hw:s.way=0\/s.way=1):C1 165 [.ptr 0 0,st (eD s),.d (.bE [kf])] [] [Kl n] (st (dV (iM f lost n s).2.2)) [Kl (iM f lost n s).1]:=by
 refine Ct.B func165 ?_;simp;rcases hw with hw|hw
 ·simp[hw];refine CI.ff (hf n.up s.n hn.up) rfl rfl rfl ?_;simp;refine dr ?_;refine dr ?_;exact⟨[],by constructor<;>simp[aI,aJ,iM,cG,cU,nP,iP,hw]⟩
 ·simp[hw];refine CI.ff (hf n.dn s.n hn.dn) rfl rfl rfl ?_;simp;refine dr ?_;refine dr ?_;exact⟨[],by constructor<;>simp[aI,aJ,iM,cG,cU,nP,iP,hw]⟩
attribute [simp] ntmps37 results37 ntmps61 results61 ntmps60 results60 ntmps62 results62 ntmps103 results103 ntmps98 results98 ntmps99 results99 ntmps59 results59
abbrev W6 (i:Nat)(n:G.Node):Nat×aY:=(i,.cells ((dZ n).map .d) 121)
@[simp] theorem zgE (p:Nat->Bool):∀l:List D,fH.iU p (l.map .d)=true
  |[]=>rfl
  |_::l=>by simp only[kE,fH.iU,fH,uP];exact zgE p l
@[simp] theorem ren_mapd (g:Nat->Nat):AV.bU g∘AV.d=AV.d:=by funext x;simp[AV.bU]
@[simp] def ZM :Nat->List (List D)->List (Nat×aY)
  |_,[]=>[]
  |j,n::l=>(j,.cells (n.map .d) 121)::ZM (j+1) l
@[simp] def P6 :Nat->List (List D)->List Nat
  |_,[]=>[]
  |j,_::l=>j::P6 (j+1) l
abbrev BC (c:bT)(p:aW)(lost:Int)(ks:List (List D)):List (Nat×aY):=dC c p lost 1::(1,.dR (P6 2 ks) 88)::ZM 2 ks
abbrev BM (M:G.cX):List (Nat×aY):=BC M.c M.p M.lost (M.ns.map dZ)
abbrev jL (c:bT)(p:aW):List AV:=[int c.sides,int c.cap,int c.limit,int c.max,int p.cap,aB (p.bA.map oX)]
theorem four {α:Type}:∀{l:List α},1<=l.length->l.length<=4->(∃a,l=[a])\/(∃a b,l=[a,b])\/(∃a b c,l=[a,b,c])\/∃a b c d,l=[a,b,c,d]
 |[],h,_=>absurd h (by simp)
 |[a],_,_=>.inl ⟨a,rfl⟩
 |[a,b],_,_=>.inr (.inl ⟨a,b,rfl⟩)
 |[a,b,c],_,_=>.inr (.inr (.inl ⟨a,b,c,rfl⟩))
 |[a,b,c,d],_,_=>.inr (.inr (.inr ⟨a,b,c,d,rfl⟩))
 |_::_::_::_::_::_,_,h=>absurd h (by simp)
theorem uV (c:bT)(p:aW)(lost:Int)(ks:List (List D))(h1:1<=ks.length)(h4:ks.length<=4):C1 37 [.ptr 0 0] (BC c p lost ks) [] (int ks.length) []:=by
 rcases four h1 h4 with⟨a,e⟩|⟨a,b,e⟩|⟨a,b,d,e⟩|⟨a,b,d,f,e⟩
 all_goals
  subst e;refine Ct.B func37 ?_;simp;exact⟨[],by constructor<;>simp[aI,aJ]⟩
theorem DH (c:bT)(p:aW)(lost:Int)(ks:List (List D))(k_:Int)(i:Nat)(hk:k_=i)(hi:i<ks.length)(h4:ks.length<=4):C1 61 [.ptr 0 0,int k_] (BC c p lost ks) [] (.ptr (2+i) 0) []:=by
 have h1:1<=ks.length:=by omega
 have e:k_=0/\i=0\/k_=1/\i=1\/k_=2/\i=2\/k_=3/\i=3:=by omega
 rcases four h1 h4 with⟨a,x⟩|⟨a,b,x⟩|⟨a,b,d,x⟩|⟨a,b,d,f,x⟩<;>subst x<;>rcases e with⟨x,y⟩|⟨x,y⟩|⟨x,y⟩|⟨x,y⟩<;>subst x<;>subst y
 all_goals first
  | (exfalso;simp at hi;done)
  |skip
 all_goals
  refine Ct.B func61 ?_;simp;refine CI.cc [0,1,2,3,4,5] (uV c p lost _ h1 h4) ?_;simp;exact⟨[],by constructor<;>simp[aI,aJ]⟩
theorem zeO (c:bT)(p:aW)(lost:Int)(ks:List (List D))(k_:Int)(hk:k_<0\/ks.length<=k_)(h1:1<=ks.length)(h4:ks.length<=4):C1 61 [.ptr 0 0,int k_] (BC c p lost ks) [] (.d (.v (.pointer none))) []:=by
 rcases four h1 h4 with⟨a,x⟩|⟨a,b,x⟩|⟨a,b,d,x⟩|⟨a,b,d,f,x⟩<;>subst x<;>by_cases hz:k_<0
 all_goals
  simp[hz]at hk;refine Ct.B func61 ?_;simp[hz]
  try
   refine CI.cc [0,1,2,3,4,5] (uV c p lost _ h1 h4) ?_;simp;simp[hk]
  exact⟨[],by constructor<;>simp[aI,aJ]⟩
theorem Ug (v:Value)(c:bT)(p:aW)(lost:Int):C1 60 [.ptr 0 0,int 0] [] [gG c p lost v] (.fn (.func 100) [.ptr 0 0] []) [gG c p lost v]:=by
 refine Ct.B func60 ?_;simp;exact⟨[],by constructor<;>simp[aI,aJ]⟩
theorem Ud (v:Value)(c:bT)(p:aW)(lost:Int)(k_:Int)(h0:¬k_=0)(h6:¬k_=6):C1 60 [.ptr 0 0,int k_] [] [gG c p lost v] (.d (.v .nilFunc)) [gG c p lost v]:=by
 refine Ct.B func60 ?_;simp;simp[h0,h6];exact⟨[],by constructor<;>simp[aI,aJ]⟩
theorem zam (v:Value)(c:bT)(p:aW)(lost:Int):C1 62 [.ptr 0 0,int 1] [] [gG c p lost v] (.fn (.func 102) [.ptr 0 0] []) [gG c p lost v]:=by
 refine Ct.B func62 ?_;simp;exact⟨[],by constructor<;>simp[aI,aJ]⟩
theorem zae (v:Value)(c:bT)(p:aW)(lost:Int):C1 62 [.ptr 0 0,int 5] [] [gG c p lost v] (.fn (.func 107) [.ptr 0 0] []) [gG c p lost v]:=by
 refine Ct.B func62 ?_;simp;exact⟨[],by constructor<;>simp[aI,aJ]⟩
theorem zac (v:Value)(c:bT)(p:aW)(lost:Int):C1 62 [.ptr 0 0,int 7] [] [gG c p lost v] (.fn (.func 108) [.ptr 0 0] []) [gG c p lost v]:=by
 refine Ct.B func62 ?_;simp;exact⟨[],by constructor<;>simp[aI,aJ]⟩
theorem zaa (v:Value)(c:bT)(p:aW)(lost:Int):C1 62 [.ptr 0 0,int 8] [] [gG c p lost v] (.fn (.func 109) [.ptr 0 0] []) [gG c p lost v]:=by
 refine Ct.B func62 ?_;simp;exact⟨[],by constructor<;>simp[aI,aJ]⟩
theorem Zy (v:Value)(c:bT)(p:aW)(lost:Int):C1 62 [.ptr 0 0,int 9] [] [gG c p lost v] (.fn (.func 110) [.ptr 0 0] []) [gG c p lost v]:=by
 refine Ct.B func62 ?_;simp;exact⟨[],by constructor<;>simp[aI,aJ]⟩
theorem Ue (v:Value)(c:bT)(p:aW)(lost:Int):C1 60 [.ptr 0 0,int 6] [] [gG c p lost v] (.fn (.func 101) [.ptr 0 0] []) [gG c p lost v]:=by
 refine Ct.B func60 ?_;simp;exact⟨[],by constructor<;>simp[aI,aJ]⟩
theorem YM (f:Nat):C0 103 [.d (dE f)] (.d (.fn (.func 165) [] [.bE [dE f]])):=by
 refine Ct.BS func103 mixed 1 400 ?_;simp;refine CI.s (tm:=[(1,.d (.bE [dE f]))]) (mm:=[]) (nx:=65) [] [64] (by constructor<;>simp) ?_;refine CI.n ?_;simp;exact aA
theorem zak (v:Value)(c:bT)(p:aW)(lost:Int):C1 62 [.ptr 0 0,int 2] [] [gG c p lost v] (.d (.fn (.func 165) [] [.bE [dE 104]])) [gG c p lost v]:=by
 refine Ct.B func62 ?_;simp;refine CI.p (YM 104) ?_;simp;exact⟨[],by constructor<;>simp[aI,aJ]⟩
theorem zai (v:Value)(c:bT)(p:aW)(lost:Int):C1 62 [.ptr 0 0,int 3] [] [gG c p lost v] (.d (.fn (.func 165) [] [.bE [dE 105]])) [gG c p lost v]:=by
 refine Ct.B func62 ?_;simp;refine CI.p (YM 105) ?_;simp;exact⟨[],by constructor<;>simp[aI,aJ]⟩
theorem zag (v:Value)(c:bT)(p:aW)(lost:Int):C1 62 [.ptr 0 0,int 4] [] [gG c p lost v] (.d (.fn (.func 165) [] [.bE [dE 106]])) [gG c p lost v]:=by
 refine Ct.B func62 ?_;simp;refine CI.p (YM 106) ?_;simp;exact⟨[],by constructor<;>simp[aI,aJ]⟩
theorem Ba (a b:Int):C0 98 [int a,int b] (bool (decide (0<=a)&&decide (a<=b))):=by
 refine Ct.B func98 ?_;simp
 repeat' first
  | (refine bM (λh=>?_) (λh=>?_)<;>simp only[h]<;>simp[h])
  | (refine bQ (λh=>?_) (λh=>?_)<;>simp only[h]<;>simp[h])
  | (refine⟨(show jG _ _ from by decide+kernel),?_⟩)
  |fail
 all_goals exact aA (by simp[*])
theorem zff :C0 99 [] (.agg [str ⟨#[117,112,100,97,116,101]⟩,str ⟨#[98,114,105,110,103]⟩,str ⟨#[108,111,115,101]⟩,str ⟨#[97,103,97,105,110]⟩,str ⟨#[108,97,116,101]⟩,str ⟨#[114,101,110,101,119]⟩,str ⟨#[116,105,99,107]⟩,str ⟨#[98,101,103,105,110]⟩,str ⟨#[103,111]⟩,str ⟨#[116,101,108,108]⟩]):=by
 refine Ct.B func99 ?_;simp;exact aA
def PV (k_:Int):Str:=([⟨#[117,112,100,97,116,101]⟩,⟨#[98,114,105,110,103]⟩,⟨#[108,111,115,101]⟩,⟨#[97,103,97,105,110]⟩,⟨#[108,97,116,101]⟩,⟨#[114,101,110,101,119]⟩,⟨#[116,105,99,107]⟩,⟨#[98,101,103,105,110]⟩,⟨#[103,111]⟩,⟨#[116,101,108,108]⟩]:List Str).getD k_.toNat ⟨#[]⟩
theorem KV {k_:Int}(h0:0<=k_)(h9:k_<=9):¬PV k_=⟨#[]⟩:=by
 have e:k_=0\/k_=1\/k_=2\/k_=3\/k_=4\/k_=5\/k_=6\/k_=7\/k_=8\/k_=9:=by omega
 rcases e with e|e|e|e|e|e|e|e|e|e<;>subst e<;>simp[PV]
theorem KX (k_:Int)(h0:0<=k_)(h9:k_<=9):C0 59 [int k_] (str (PV k_)):=by
 refine Ct.B func59 ?_;simp;refine CI.p (Ba k_ 9) ?_;simp;have e:k_=0\/k_=1\/k_=2\/k_=3\/k_=4\/k_=5\/k_=6\/k_=7\/k_=8\/k_=9:=by omega
 rcases e with e|e|e|e|e|e|e|e|e|e
 all_goals
  subst e
 all_goals
  simp;refine CI.p zff ?_;simp;exact aA (by simp[PV])
theorem zfj (k_:Int)(h:¬(0<=k_/\k_<=9)):C0 59 [int k_] (str ⟨#[]⟩):=by
 refine Ct.B func59 ?_;simp;refine CI.p (Ba k_ 9) ?_;simp;have e:(!decide (0<=k_)|| !decide (k_<=9))=true:=by simp;omega
 simp[e];exact aA
attribute [simp] ntmps25 results25
theorem NB (b:Nat)(c:bT)(p:aW)(lost k_:Int)(h0:¬k_=0)(h6:¬k_=6):C1 60 [.ptr 0 0,int k_] [] [dC c p lost b] (.d (.v .nilFunc)) [dC c p lost b]:=Ct.rH (mr:=[]) (pre:=jL c p) (pre':=jL c p) (post:=[int lost]) (post':=[int lost]) rfl λv=>Ud v c p lost k_ h0 h6
abbrev nI (j:Nat)(cs:List D):Nat×aY:=(j,.cells (cs.map .d) 121)
theorem Yi (c:bT)(p:aW)(lost:Int)(ks:List (List D))(s:cB)(i:Nat)(cs:List D)(F:Nat)(cs':List D)(o:sJ)(l':Int)(k1:1<=s.kind)(k9:s.kind<=9)(k6:¬s.kind=6)(hw:s.kind<=4->s.way=0\/s.way=1)(h4:ks.length<=4)(hi:ks[i]? =some cs)(hs:s.side=i)(hen:Enters prog F)
  (hS:C1 62 [.ptr 0 0,int s.kind] [] [dC c p lost 1] (.fn (.func F) [.ptr 0 0] []) [dC c p lost 1])
  (hF:C1 F [.ptr 0 0,.ptr 1 0,st (eD s)] [] [dC c p lost 2,nI 1 cs] (st (dV o)) [dC c p l' 2,nI 1 cs']):C1 25 [.ptr 0 0,st (eD s)] [] (BC c p lost ks) (st (dV o)) (BC c p l' (ks.set i cs')):=by
 have hl:i<ks.length:=(cE.1 hi).1;have h1:1<=ks.length:=by omega
 have hne:=KV (k_:=s.kind) (by omega) k9;have k0:¬s.kind=0:=by omega
 have e:s.side=0/\i=0\/s.side=1/\i=1\/s.side=2/\i=2\/s.side=3/\i=3:=by omega
 have q:(s.kind<=4/\¬s.way<0/\¬2<=s.way)\/(¬s.kind<=4/\True/\True):=by
  by_cases g:s.kind<=4
  ·exact .inl ⟨g,by have:=hw g;omega⟩
  ·exact .inr ⟨g,trivial,trivial⟩
 rcases four h1 h4 with⟨a,x⟩|⟨a,b,x⟩|⟨a,b,d,x⟩|⟨a,b,d,f,x⟩<;>subst x<;>rcases e with⟨e,x⟩|⟨e,x⟩|⟨e,x⟩|⟨e,x⟩<;>subst x
 all_goals first
  | (exfalso;simp at hl;done)
  |skip
 all_goals
  simp at hi;subst hi;rcases q with⟨g1,g2,g3⟩|⟨g1,g2,g3⟩
 all_goals
  refine Ct.B func25 ?_;simp;refine CI.cc [0,1,2,3,4,5] (uV c p lost _ h1 h4) ?_;simp;refine CI.p (KX s.kind (by omega) k9) ?_;simp;simp[hne];refine CI.cc [0,1] (NB 1 c p lost s.kind k0 k6) ?_;simp;refine CI.cc [0,1,2,3,4,5] (DH c p lost _ s.side _ hs hl h4) ?_;simp;simp[g1,g2,g3];refine CI.cc [0,1] hS ?_;simp;refine CI.cc [0,2+s.side.toNat,1] hF ?_ (hen:=hen) (ha:=by simp[e]) (hn:=by constructor<;>simp[jB,e]) (hk:=by simp[e]);simp[e];refine dr ?_;refine⟨[],?_,?_,?_,?_,?_,?_,?_⟩<;>simp[aI,aJ]
theorem Yg (c:bT)(p:aW)(lost:Int)(ks:List (List D))(s:cB)(i:Nat)(cs:List D)(F:Nat)(cs':List D)(o:sJ)(kf:D)(k1:1<=s.kind)(g1:s.kind<=4)(hw:s.way=0\/s.way=1)(h4:ks.length<=4)(hi:ks[i]? =some cs)(hs:s.side=i)(hen:Enters prog F)
  (hS:C1 62 [.ptr 0 0,int s.kind] [] [dC c p lost 1] (.d (.fn (.func F) [] [.bE [kf]])) [dC c p lost 1])
  (hF:C1 F [.ptr 0 0,st (eD s),.d (.bE [kf])] [] [nI 0 cs] (st (dV o)) [nI 0 cs']):C1 25 [.ptr 0 0,st (eD s)] [] (BC c p lost ks) (st (dV o)) (BC c p lost (ks.set i cs')):=by
 have hl:i<ks.length:=(cE.1 hi).1;have h1:1<=ks.length:=by omega
 have k9:s.kind<=9:=by omega
 have k6:¬s.kind=6:=by omega
 have g2:¬s.way<0:=by omega
 have g3:¬2<=s.way:=by omega
 have hne:=KV (k_:=s.kind) (by omega) k9;have k0:¬s.kind=0:=by omega
 have e:s.side=0/\i=0\/s.side=1/\i=1\/s.side=2/\i=2\/s.side=3/\i=3:=by omega
 rcases four h1 h4 with⟨a,x⟩|⟨a,b,x⟩|⟨a,b,d,x⟩|⟨a,b,d,f,x⟩<;>subst x<;>rcases e with⟨e,x⟩|⟨e,x⟩|⟨e,x⟩|⟨e,x⟩<;>subst x
 all_goals first
  | (exfalso;simp at hl;done)
  |skip
 all_goals
  simp at hi;subst hi
 all_goals
  refine Ct.B func25 ?_;simp;refine CI.cc [0,1,2,3,4,5] (uV c p lost _ h1 h4) ?_;simp;refine CI.p (KX s.kind (by omega) k9) ?_;simp;simp[hne];refine CI.cc [0,1] (NB 1 c p lost s.kind k0 k6) ?_;simp;refine CI.cc [0,1,2,3,4,5] (DH c p lost _ s.side _ hs hl h4) ?_;simp;simp[g1,g2,g3];refine CI.cc [0,1] hS ?_;simp;refine CI.cc [2+s.side.toNat] hF ?_ (hen:=hen) (ha:=by simp[e]) (hn:=by constructor<;>simp[jB,e]) (hk:=by simp[e]);simp[e];refine dr ?_;refine⟨[],?_,?_,?_,?_,?_,?_,?_⟩<;>simp[aI,aJ]
attribute [simp] ntmps100 results100
theorem Yf (c:bT)(p:aW)(lost:Int)(ks:List (List D))(s:cB)(h1:1<=ks.length)(h4:ks.length<=4)(hk:¬(0<=s.kind/\s.kind<=9)):C1 25 [.ptr 0 0,st (eD s)] [] (BC c p lost ks) (st (dV (cG 4))) (BC c p lost ks):=by
 rcases four h1 h4 with⟨a,x⟩|⟨a,b,x⟩|⟨a,b,d,x⟩|⟨a,b,d,f,x⟩<;>subst x
 all_goals
  refine Ct.B func25 ?_;simp;refine CI.cc [0,1,2,3,4,5] (uV c p lost _ h1 h4) ?_;simp;refine CI.p (zfj s.kind hk) ?_;simp;exact⟨[],by constructor<;>simp[aI,aJ,cG,cU]⟩
theorem Ye (c:bT)(p:aW)(lost:Int)(ks:List (List D))(s:cB)(h1:1<=ks.length)(h4:ks.length<=4)(k1:1<=s.kind)(k9:s.kind<=9)(k6:¬s.kind=6)(hs:s.side<0\/ks.length<=s.side):C1 25 [.ptr 0 0,st (eD s)] [] (BC c p lost ks) (st (dV (cG 10))) (BC c p lost ks):=by
 have q:(s.kind<=4/\s.way<0/\True)\/(s.kind<=4/\¬s.way<0/\2<=s.way)\/(s.kind<=4/\¬s.way<0/\¬2<=s.way)\/(¬s.kind<=4/\True/\True):=by
  by_cases g:s.kind<=4<;>by_cases g':s.way<0<;>by_cases g'':2<=s.way<;>simp[g,g',g'']
 have hne:=KV (k_:=s.kind) (by omega) k9;have k0:¬s.kind=0:=by omega
 rcases four h1 h4 with⟨a,x⟩|⟨a,b,x⟩|⟨a,b,d,x⟩|⟨a,b,d,f,x⟩<;>subst x<;>rcases q with⟨g1,g2,g3⟩|⟨g1,g2,g3⟩|⟨g1,g2,g3⟩|⟨g1,g2,g3⟩
 all_goals
  refine Ct.B func25 ?_;simp;refine CI.cc [0,1,2,3,4,5] (uV c p lost _ h1 h4) ?_;simp;refine CI.p (KX s.kind (by omega) k9) ?_;simp;simp[hne];refine CI.cc [0,1] (NB 1 c p lost s.kind k0 k6) ?_;simp;refine CI.cc [0,1,2,3,4,5] (zeO c p lost _ s.side hs h1 h4) ?_;simp;simp[g1,g2,g3];exact⟨[],by constructor<;>simp[aI,aJ,cG,cU]⟩
theorem Yd (c:bT)(p:aW)(lost:Int)(ks:List (List D))(s:cB)(i:Nat)(hi:i<ks.length)(h4:ks.length<=4)(hs:s.side=i)(k1:1<=s.kind)(g1:s.kind<=4)(hw:s.way<0\/2<=s.way):C1 25 [.ptr 0 0,st (eD s)] [] (BC c p lost ks) (st (dV (cG 10))) (BC c p lost ks):=by
 have h1:1<=ks.length:=by omega
 have k9:s.kind<=9:=by omega
 have k6:¬s.kind=6:=by omega
 have q:(s.way<0/\True)\/(¬s.way<0/\2<=s.way):=by
  by_cases g:s.way<0
  ·exact .inl ⟨g,trivial⟩
  ·exact .inr ⟨g,by omega⟩
 have hne:=KV (k_:=s.kind) (by omega) k9;have k0:¬s.kind=0:=by omega
 have e:i=0\/i=1\/i=2\/i=3:=by omega
 rcases four h1 h4 with⟨a,x⟩|⟨a,b,x⟩|⟨a,b,d,x⟩|⟨a,b,d,f,x⟩<;>subst x<;>rcases e with x|x|x|x<;>subst x
 all_goals first
  | (exfalso;simp at hi;done)
  |skip
 all_goals
  rcases q with⟨g2,g3⟩|⟨g2,g3⟩
 all_goals
  refine Ct.B func25 ?_;simp;refine CI.cc [0,1,2,3,4,5] (uV c p lost _ h1 h4) ?_;simp;refine CI.p (KX s.kind (by omega) k9) ?_;simp;simp[hne];refine CI.cc [0,1] (NB 1 c p lost s.kind k0 k6) ?_;simp;refine CI.cc [0,1,2,3,4,5] (DH c p lost _ s.side _ hs hi h4) ?_;simp;simp[g1,g2,g3];exact⟨[],by constructor<;>simp[aI,aJ,cG,cU]⟩
theorem Vb (s:cB)(c:bT)(p q:aW)(l0 l1:Int)(a1 b1:List D)(e1:Int)(hP:eL i6 prog 157 [st (eW p),aB (s.aD.map aF),aB (s.gone.map aQ)] [] [] (.aU [st (eW q),int 0]) [])(hq:q.bA.length<=1000000)(P1:C1 158 [.ptr 0 0,.ptr 1 0] [] [dC c q l0 2,nI 1 a1] (int e1) [dC c q l1 2,nI 1 b1]):eL i6 prog 100 [.ptr 0 0,st (eD s)] [] (BC c p l0 [a1]) (st (dV ⟨e1,kM q,cU,[],[]⟩)) (BC c q l1 [b1]):=by
 refine eL.B xY func100 ?_;simp;refine CI.j [] hP ?_;simp;refine dr ?_;refine CI.p (DG q hq) ?_;simp;refine aH.rounds 2 ?_;refine cC.s ?_;simp;refine CI.cc [0,2,1] P1 ?_;simp;all_goals
  refine cC.s ?_;simp;exact⟨[],by constructor<;>simp[aI,aJ,kM,cU]⟩
theorem Va (s:cB)(c:bT)(p q:aW)(l0 l1 l2:Int)(a1 b1 a2 b2:List D)(e1 e2:Int)(hP:eL i6 prog 157 [st (eW p),aB (s.aD.map aF),aB (s.gone.map aQ)] [] [] (.aU [st (eW q),int 0]) [])(hq:q.bA.length<=1000000)(P1:C1 158 [.ptr 0 0,.ptr 1 0] [] [dC c q l0 2,nI 1 a1] (int e1) [dC c q l1 2,nI 1 b1])(P2:C1 158 [.ptr 0 0,.ptr 1 0] [] [dC c q l1 2,nI 1 a2] (int e2) [dC c q l2 2,nI 1 b2]):eL i6 prog 100 [.ptr 0 0,st (eD s)] [] (BC c p l0 [a1,a2]) (st (dV ⟨if e1=0 then e2 else e1,kM q,cU,[],[]⟩)) (BC c q l2 [b1,b2]):=by
 refine eL.B xY func100 ?_;simp;refine CI.j [] hP ?_;simp;refine dr ?_;refine CI.p (DG q hq) ?_;simp;refine aH.rounds 3 ?_;refine cC.s ?_;simp;refine CI.cc [0,2,1] P1 ?_;simp;all_goals
  refine cC.s ?_;simp;refine CI.cc [0,3,1] P2 ?_;simp
 all_goals
  by_cases g2:e1=0
 all_goals
  simp[g2]
 all_goals
  refine cC.s ?_;simp;exact⟨[],by constructor<;>simp[aI,aJ,kM,cU,g2]⟩
theorem Uz (s:cB)(c:bT)(p q:aW)(l0 l1 l2 l3:Int)(a1 b1 a2 b2 a3 b3:List D)(e1 e2 e3:Int)(hP:eL i6 prog 157 [st (eW p),aB (s.aD.map aF),aB (s.gone.map aQ)] [] [] (.aU [st (eW q),int 0]) [])(hq:q.bA.length<=1000000)(P1:C1 158 [.ptr 0 0,.ptr 1 0] [] [dC c q l0 2,nI 1 a1] (int e1) [dC c q l1 2,nI 1 b1])(P2:C1 158 [.ptr 0 0,.ptr 1 0] [] [dC c q l1 2,nI 1 a2] (int e2) [dC c q l2 2,nI 1 b2])(P3:C1 158 [.ptr 0 0,.ptr 1 0] [] [dC c q l2 2,nI 1 a3] (int e3) [dC c q l3 2,nI 1 b3]):eL i6 prog 100 [.ptr 0 0,st (eD s)] [] (BC c p l0 [a1,a2,a3]) (st (dV ⟨if(if e1=0 then e2 else e1)=0 then e3 else(if e1=0 then e2 else e1),kM q,cU,[],[]⟩)) (BC c q l3 [b1,b2,b3]):=by
 refine eL.B xY func100 ?_;simp;refine CI.j [] hP ?_;simp;refine dr ?_;refine CI.p (DG q hq) ?_;simp;refine aH.rounds 4 ?_;refine cC.s ?_;simp;refine CI.cc [0,2,1] P1 ?_;simp;all_goals
  refine cC.s ?_;simp;refine CI.cc [0,3,1] P2 ?_;simp
 all_goals
  by_cases g2:e1=0
 all_goals
  simp[g2]
 all_goals
  refine cC.s ?_;simp;refine CI.cc [0,4,1] P3 ?_;simp
 all_goals
  by_cases g3:e2=0
 all_goals
  simp[g2,g3]
 all_goals
  refine cC.s ?_;simp;exact⟨[],by constructor<;>simp[aI,aJ,kM,cU,g2,g3]⟩
theorem Uy (s:cB)(c:bT)(p q:aW)(l0 l1 l2 l3 l4:Int)(a1 b1 a2 b2 a3 b3 a4 b4:List D)(e1 e2 e3 e4:Int)(hP:eL i6 prog 157 [st (eW p),aB (s.aD.map aF),aB (s.gone.map aQ)] [] [] (.aU [st (eW q),int 0]) [])(hq:q.bA.length<=1000000)(P1:C1 158 [.ptr 0 0,.ptr 1 0] [] [dC c q l0 2,nI 1 a1] (int e1) [dC c q l1 2,nI 1 b1])(P2:C1 158 [.ptr 0 0,.ptr 1 0] [] [dC c q l1 2,nI 1 a2] (int e2) [dC c q l2 2,nI 1 b2])(P3:C1 158 [.ptr 0 0,.ptr 1 0] [] [dC c q l2 2,nI 1 a3] (int e3) [dC c q l3 2,nI 1 b3])(P4:C1 158 [.ptr 0 0,.ptr 1 0] [] [dC c q l3 2,nI 1 a4] (int e4) [dC c q l4 2,nI 1 b4]):eL i6 prog 100 [.ptr 0 0,st (eD s)] [] (BC c p l0 [a1,a2,a3,a4]) (st (dV ⟨if(if(if e1=0 then e2 else e1)=0 then e3 else(if e1=0 then e2 else e1))=0 then e4 else(if(if e1=0 then e2 else e1)=0 then e3 else(if e1=0 then e2 else e1)),kM q,cU,[],[]⟩)) (BC c q l4 [b1,b2,b3,b4]):=by
 refine eL.B xY func100 ?_;simp;refine CI.j [] hP ?_;simp;refine dr ?_;refine CI.p (DG q hq) ?_;simp;refine aH.rounds 5 ?_;refine cC.s ?_;simp;refine CI.cc [0,2,1] P1 ?_;simp;all_goals
  refine cC.s ?_;simp;refine CI.cc [0,3,1] P2 ?_;simp
 all_goals
  by_cases g2:e1=0
 all_goals
  simp[g2]
 all_goals
  refine cC.s ?_;simp;refine CI.cc [0,4,1] P3 ?_;simp
 all_goals
  by_cases g3:e2=0
 all_goals
  simp[g2,g3]
 all_goals
  refine cC.s ?_;simp;refine CI.cc [0,5,1] P4 ?_;simp
 all_goals
  by_cases g4:e3=0
 all_goals
  simp[g2,g3,g4]
 all_goals
  refine cC.s ?_;simp;exact⟨[],by constructor<;>simp[aI,aJ,kM,cU,g2,g3,g4]⟩
end Go.Proofs.YtobcmagefgdgdaaGreatDoor
