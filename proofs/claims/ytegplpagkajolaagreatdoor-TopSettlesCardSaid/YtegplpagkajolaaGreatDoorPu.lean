/-
  LAYER 24: how a mesh settles, plainly.
-/
import Derived.Test.YtegplpagkajolaaGreatDoorPt
import Derived.Test.YtegplpagkajolaaGreatDoorPs
set_option linter.unusedSimpArgs false
set_option linter.unusedVariables false
set_option maxRecDepth 100000
set_option maxHeartbeats 8000000
namespace Go.G
open Go.AI
structure Mg (x:bB)(s:cL)(H:List aA)(ep:Int)(K n:Nat):Prop where
 xs:dI x=true
 up:x.up=true
 xe:x.aF=ep
 xc:x.w.c=⟨64,H⟩
 xz:∀s∈x.p.aX,s.pins=0
 xn:x.p.next<=K+n
 xt:x.aL<=K+n
 ss:gC s=true
 gr:s.lB=true
 op:s.v.open_=false
 se:s.aF=ep
 sh:s.v.bF=H
 sd:s.v.held=fH x.p
 st:s.v.aL=x.aL
 sk:s.stuck=0
 cE:x.cE=s.out.qC
 om:1000<=s.out.m
 oo:∀k,aE.gH k=true->s.out.kV k=false
 ol:∀k,aE.gH k=true->s.out.last k<=n
theorem Mg.rX {x:bB}{s:cL}{H:List aA}{ep:Int}{K n:Nat}(M:Mg x s H ep K n):fF H=0/\iX H=0/\x.w.shown=dO H:=by
 have h:=uZ.1 (iP.1 M.xs).w;rw[M.xc]at h;have h1:=u0.1 h.1;exact⟨h1.2.1,h1.2.2.2,h.2.1⟩
theorem Mg.held {x:bB}{s:cL}{H:List aA}{ep:Int}{K n:Nat}(M:Mg x s H ep K n):fH x.p=(dO H).map aA.key:=by
 obtain⟨h1,h2,h3⟩:=M.rX;rw[<-h3];exact Oj (iP.1 M.xs) M.xz (by rw[h3];exact NG (iC h1))
theorem Mg.pl {x:bB}{s:cL}{H:List aA}{ep:Int}{K n:Nat}(M:Mg x s H ep K n){W:List aA}{cap:Int}(hw:Acc cap W):Pl H W s.v.held:=
 ⟨M.rX.1,hw.rX,M.rX.2.1,hw.served,by simpa using hw.IX,fun k hk=>by
   rw[M.sd,M.held]at hk;obtain⟨r,hr,rfl⟩:=eR.1 hk;exact(uC.1 hr).2⟩
theorem zgM {o:aE.Ou}(h:aE.kQ o=true):0<=o.m/\o.m<=2147483647/\∀k,aE.gH k=true->0<=o.last k/\o.last k<=o.m:=by
 have ok:=aE.WV o;rw[CM h]at ok;obtain⟨a0,a1,b0,b1,c0,c1,d0,d1,m0,m1⟩:=ok;refine⟨by omega,m1,fun k hk=>?_⟩;rcases aE.uF hk with rfl|rfl|rfl|rfl
 ·exact⟨a0,a1⟩
 ·exact⟨b0,b1⟩
 ·exact⟨c0,c1⟩
 ·exact⟨d0,d1⟩
theorem Lx {o:aE.Ou}{n:Nat}(hg:aE.kQ o=true)(hm:n<o.m)(ho:∀k,aE.gH k=true->o.kV k=false)(hl:∀k,aE.gH k=true->o.last k<=n){k:Int}(hk:aE.gH k=true):aE.push o k=(o.set k (o.last k+1) true,o.last k+1,0):=by
 refine(LW hg (k:=k) ?_).2.2.2;unfold aE.push;rw[CM hg];unfold aE.EF;have:=hl k hk;rw[aH (by simp[hk]),aH (by simp[ho k hk]),aH (by omega)]
theorem El (o:aE.Ou){k:Int}(hk:aE.gH k=true)(ho:o.kV k=false)(l:Int):(o.set k l true).set k l false=o.set k l false/\(o.set k l false).qC=o.qC.set k l:=by
 rcases aE.uF hk with rfl|rfl|rfl|rfl<;>exact⟨rfl,rfl⟩
theorem ze6 {o:aE.Ou}{k:Int}(hk:aE.gH k=true)(ho:o.kV k=false)(l:Int)(hg:aE.kQ (o.set k l true)=true):aE.done (o.set k l true) k l=(o.set k l false,0):=by
 unfold aE.done;rw[CM hg];unfold aE.G1;have a:=aE.xT o l true hk hk;rw[aH (by simp[hk]),aH (by rw[a.1,a.2.1];simp)];rw[a.2.1,aU rfl,(El o hk ho l).1]
theorem ze5 {i:aE.Nn}(hs:aE.tZ i=true){k:Int}(hk:aE.gH k=true)(h0:0<=i.last k)(hm:i.last k+1<=i.m):aE.take i k (i.last k+1)=(i.set k (i.last k+1),0):=by
 unfold aE.take aE.A1;rw[aU hs];unfold aE.DV;rw[aH (by simp[hk]),aH (by omega),aH (by omega)]
theorem Lw {x:bB}{s:cL}{q:aT}{H:List aA}{ep:Int}{K n:Nat}(M:Mg x s H ep K n)(hq:fN q=true)(hn:n<900)(hK:K<=1000000){st:Step}(hx:mU H (dR q) s.v.held=some st)
  (ht:fF (cD H st.aD st.gone)=0) (hv:iX (cD H st.aD st.gone)=0):
  ∃f y a u,dD s q=({s with v:=lK s.v f,out:=s.out.set st.kind (s.out.last st.kind+1) true},[f],0)/\f=gE s st (s.out.last st.kind+1)/\gC {s with v:=lK s.v f,out:=s.out.set st.kind (s.out.last st.kind+1) true}=true/\eX f=0/\
   jM x f=(y,[a],0)/\eX a=0/\handle {s with v:=lK s.v f,out:=s.out.set st.kind (s.out.last st.kind+1) true} q a=(u,0)/\Mg y u (cD H st.aD st.gone) ep K (n+1):=by
 have S:=lV.1 M.ss;have X:=iP.1 M.xs;have hx':mU s.v.bF (dR q) s.v.held=some st:=by rw[M.sh];exact hx
 have hst:=IP hx';have hkb:=I9 hst.kind;obtain⟨m0,m1,ml⟩:=zgM S.out;have om:=M.om;have hl:=M.ol st.kind hkb;have hl0:=(ml st.kind hkb).1;have p1:=Lx S.out (n:=n) (by omega) M.oo M.ol hkb;generalize hN:s.out.last st.kind+1=N at p1⊢;have hNr:cG N 2147483647=true:=mF.2 ⟨by omega,by omega⟩;have hk3:=Nq hst.kind;have hf0:eX (gE s st N)=0:=WE hst S rfl (CO hq) hNr;have hep:cG s.aF 2147483647=true:=by have:=S.plain;simp only[u9,bN]at this;exact this.1.1
 have hpu:dD s q=({s with v:=lK s.v (gE s st N),out:=s.out.set st.kind N true},[gE s st N],0):=by
  unfold Go.G.dD;rw[nP M.ss];simp[oB,R0 M.gr M.op M.sk,hx',tA,p1]
 have hts:gC {s with v:=lK s.v (gE s st N),out:=s.out.set st.kind N true}=true:=by
  have:=VR S hst (CO hq) M.gr (by rw[p1])
  rwa[p1]at this
 have hg1:=(lV.1 hts).out;have hz0:=X.aL;rw[mF]at hz0;have ht0:=M.xt;have hP:cD H (gE s st N).aD (gE s st N).gone=cD H st.aD st.gone:=rfl;obtain⟨p',w',e1,e2,e3,e4,e5⟩:=Yk (x:=x) (f:=gE s st N) X M.xc M.xz (by have:=M.xn;omega) hP ht hv;have hfu:qO x=false:=by simp only[qO,uT];omega
 have htk:aE.take x.cE (gE s st N).kind (gE s st N).cY=(x.cE.set st.kind N,0):=by
  have a:=ze5 X.cE hkb (by rw[M.cE];exact hl0) (by rw[M.cE];show s.out.last st.kind+1<=s.out.m;omega);have e:x.cE.last st.kind+1=N:=by rw[M.cE];exact hN
  rw[e]at a;exact a
 have hfe:(gE s st N).aF=x.aF:=by rw[M.xe];exact M.se
 have h1:=zaD M.xs M.up hf0 hfe rfl (by rw[htk]) hfu (by rw[e1]);rw[e1,htk]at h1;simp only[lC,SG]at h1;have hys:=VK x (gE s st N);rw[h1]at hys;simp only at hys;have R:=IE.1 (iP.1 hys).room;simp only[n9]at R;have hl64:=rW ht;have fa:=zkF (ep:=(gE s st N).aF) (k:=(gE s st N).kind) (N:=(gE s st N).cY) (T:=x.aL+1) hep hk3 hNr (mF.2 ⟨by omega,by omega⟩) R.1 R.2;have hsl:(cD s.v.bF (gE s st N).aD (gE s st N).gone).length<=64:=by rw[M.sh];exact hl64
 have p6:aE.done (s.out.set st.kind N true) (gE s st N).kind (gE s st N).cY=(s.out.set st.kind N false,0):=ze6 hkb (M.oo _ hkb) N hg1;have k1:=zkE (q:=q) rfl hts rfl p6 (by have:=M.st;omega) hsl fa;have us:=E0 q ⟨2,(gE s st N).aF,(gE s st N).kind,(gE s st N).cY,x.aL+1,[],[],0,[],fH p'⟩ hts;rw[k1]at us;refine⟨gE s st N,_,_,_,hpu,rfl,hts,hf0,h1,fa,k1,hys,M.up,M.xe,e2,e3,by have:=M.xn;simp only[n9];omega,by simp only[n9];omega,us,M.gr,rfl,M.se,by simp only[M.sh];rfl,rfl,rfl,rfl,?_,?_,fun k hk=>?_,fun k hk=>?_⟩
 ·show x.cE.set st.kind N=(s.out.set st.kind N false).qC;rw[M.cE,(El s.out hkb (M.oo _ hkb) N).2]
 ·show 1000<=(s.out.set st.kind N false).m;rw[(aE.xT s.out N false hkb hkb).2.2];exact om
 ·show(s.out.set st.kind N false).kV k=false;rw[(aE.xT s.out N false hkb hk).1];split
  ·rfl
  ·exact M.oo k hk
 ·show(s.out.set st.kind N false).last k<=((n+1:Nat):Int);rw[(aE.xT s.out N false hkb hk).2.1];have:=M.ol k hk;split<;>omega
theorem Ly {x:bB}{s:cL}{q:aT}{H:List aA}{ep:Int}{K n:Nat}(M:Mg x s H ep K n)(hq:fN q=true)(hx:mU H (dR q) s.v.held=none):dD s q=(s,[],0)/\H=dR q/\pF s q=true/\fJ s=[]:=by
 have hx':mU s.v.bF (dR q) s.v.held=none:=by rw[M.sh];exact hx
 have hA:Acc q.cap (dR q):=by unfold dR;rw[y9 hq];exact IA hq
 have hH:=zex (M.pl hA) hx;refine⟨by unfold dD;rw[nP M.ss];simp[oB,R0 M.gr M.op M.sk,hx'],hH,?_,by simp[fJ,nP M.ss,M.op]⟩;simp[pF,nP M.ss,M.gr,M.op,M.sh,hH]
theorem zeF {H W:List aA}{h:List Key}{x:Step}(hx:mU H W (H.map aA.key)=some x):mU H W h=some x:=by
 have e:∀h,(cX H W h).steps=[(cX H W h).early 3,(cX H W h).early 2,(cX H W h).early 1,(cX H W h).doors 0,(cX H W h).late 3,(cX H W h).late 2,(cX H W h).late 1]++[(cX H W h).free 1,(cX H W h).free 2,(cX H W h).free 3]:=fun _=>rfl;have hf:∀n,((cX H W (H.map aA.key)).free n).none=true:=fun n=>by
  refine EP.2 ⟨rfl,?_⟩;show((qM (oG H W) n).filter _)=[];rw[KS];intro k hk;have:=(jD.1 (QZ.1 hk).1).1;simp only[eZ.zP,cX,pN,Bool.not_eq_false,rT,cP];exact .inl (tS this)
 unfold mU at hx⊢;rw[e,List.find?_append]at hx⊢;have z:[(cX H W (H.map aA.key)).free 1,(cX H W (H.map aA.key)).free 2,(cX H W (H.map aA.key)).free 3].find? (fun s=>!s.none)=none:=by
  simp[oL,hf]
 rw[z,Option.or_none]at hx;rw[show [(cX H W h).early 3,(cX H W h).early 2,(cX H W h).early 1,(cX H W h).doors 0,(cX H W h).late 3,(cX H W h).late 2,(cX H W h).late 1].find? (fun s=>!s.none)=some x from hx];rfl
theorem O4 {l:dS}{f:Frame}(lost:Int)(hf:eX f=0)(hl:l.q.length<32):dP l lost [f]=(⟨l.aF,l.q++[f]⟩,lost):=by
 have e:qI l f=(⟨l.aF,l.q++[f]⟩,0):=by unfold qI;rw[aH (by simp[hf]),aH (by omega)]
 simp[dP,kG,e]
theorem Ev (l:dS)(lost:Int):dP l lost []=(l,lost):=rfl
theorem Cx (f:Frame)(l:List Frame)(e:Int):takeN ⟨e,f::l⟩ 0=(⟨e,l⟩,f,0):=by
 simp[takeN,vB]
def iQ (i:Nat)(w:Int):bJ:=⟨1,i,w,0,[],[],cQ⟩
theorem Z6 {mx:Int}{p:aT}{lost:Int}{n:Node}{f:Frame}{l:List Frame}(h:n.up.q=f::l)(i:Nat)(he:(handle n.bA p f).2=0):
  jI mx p lost n (iQ i 0)=((gM mx p lost {n with up:=⟨n.up.aF,l⟩,bA:=(handle n.bA p f).1}).1,(gM mx p lost {n with up:=⟨n.up.aF,l⟩,bA:=(handle n.bA p f).1}).2.1,fP (gM mx p lost {n with up:=⟨n.up.aF,l⟩,bA:=(handle n.bA p f).1}).2.2):=by
 have t:takeN (dA n 0) 0=(⟨n.up.aF,l⟩,f,0):=by
  show takeN n.up 0=_;have:n.up=⟨n.up.aF,f::l⟩:=by rw[<-h]
  rw[this];exact Cx f l _
 unfold jI;simp only[iQ,t,ne_eq,T5,gY];rw[aH (by decide)];show(if¬(handle n.bA p f).2=0 then _ else _)=_;rw[aH (by simp[he])];rfl
theorem zi3 {mx:Int}{p:aT}{lost:Int}{n:Node}{f:Frame}(h:n.dn.q=[f])(i:Nat){y:bB}{a:Frame}{e:Int}(hs:jM n.side f=(y,[a],e))(ha:eX a=0)(hu:n.up.q.length<32):
  jI mx p lost n (iQ i 1)=({n with side:=y,up:=⟨n.up.aF,n.up.q++[a]⟩,dn:=⟨n.dn.aF,[]⟩},lost,fP e):=by
 have t:takeN (dA n 1) 0=(⟨n.dn.aF,[]⟩,f,0):=by
  show takeN n.dn 0=_;have:n.dn=⟨n.dn.aF,[f]⟩:=by rw[<-h]
  rw[this];exact Cx f [] _
 unfold jI;simp only[iQ,t,ne_eq,T5,gY];rw[aU trivial];show(_,_,_)=_;have e1:(fB n 1 ⟨n.dn.aF,[]⟩).side=n.side:=rfl;have e2:(fB n 1 ⟨n.dn.aF,[]⟩).up=n.up:=rfl;simp only[e1,e2,hs,O4 lost ha hu];rfl
theorem WG {mx:Int}{p:aT}{lost:Int}{n:Node}{s:cL}(h:Go.G.dD n.bA p=(s,[],0)):gM mx p lost n=({n with bA:=s},lost,0):=by
 unfold gM;simp only[h,Ev,eA]
theorem Hj {mx:Int}{p:aT}{lost:Int}{n:Node}{s:cL}{f:Frame}(h:Go.G.dD n.bA p=(s,[f],0))(hf:eX f=0)(hd:n.dn.q.length<32):gM mx p lost n=({n with bA:=s,dn:=⟨n.dn.aF,n.dn.q++[f]⟩},lost,0):=by
 unfold gM;simp only[h,O4 lost hf hd,eA]
inductive Ra (p:aT)(U:List Key)(K:Nat)(r:Nat)(n:Node):Prop
 |first (s:cL) (a b:Frame) (H:List aA) (ep:Int) (hr:r=0) (hu:n.up.q=[a,b]) (hd:n.dn.q=[]) (h1:handle n.bA p a=({s with v:=⟨H,H.map aA.key,0,fQ,false⟩},0)) (h2:b.type=3/\b.held=s.v.held/\b.aL=s.v.aL/\0<b.aL/\b.aF=s.aF/\eX b=0)
   (hs:gC {s with v:=⟨H,H.map aA.key,0,fQ,false⟩}=true) (hv:s.v=⟨H,s.v.held,s.v.aL,fQ,false⟩) (M:Mg n.side s H ep K 0) (hH:∀x∈H,x.key∈U):Ra p U K r n
 |answer (u:cL) (a:Frame) (H:List aA) (ep:Int) (hu:n.up.q=[a]) (hd:n.dn.q=[]) (h1:handle n.bA p a=(u,0)) (M:Mg n.side u H ep K r) (hq:∀j,j<r->Qp H (dR p) j) (hr:r<=10) (hH:∀x∈H,x.key∈U):Ra p U K r n
 |done (H:List aA) (ep:Int) (m:Nat) (hu:n.up.q=[]) (hd:n.dn.q=[]) (M:Mg n.side n.bA H ep K m) (hx:mU H (dR p) n.bA.v.held=none):Ra p U K r n
inductive Rb (p:aT)(U:List Key)(K:Nat)(r:Nat)(n:Node):Prop
 |push (f a:Frame) (y:bB) (u:cL) (H:List aA) (ep:Int) (hu:n.up.q=[]) (hd:n.dn.q=[f]) (h1:jM n.side f=(y,[a],0)) (ha:eX a=0) (h2:handle n.bA p a=(u,0)) (M:Mg y u H ep K (r+1)) (hq:∀j,j<r+1->Qp H (dR p) j) (hr:r<10) (hH:∀x∈H,x.key∈U):Rb p U K r n
 |done (H:List aA) (ep:Int) (m:Nat) (hu:n.up.q=[]) (hd:n.dn.q=[]) (M:Mg n.side n.bA H ep K m) (hx:mU H (dR p) n.bA.v.held=none):Rb p U K r n
theorem ZN {t:cL}{p:aT}{b:Frame}(ht:gC t=true)(h:b.type=3)(he:b.aF=t.aF)(hf:eX b=0):handle t p b=({t with v:=eE t.v b.aL b.held},0):=by
 unfold handle;rw[nP ht];unfold qN;rw[aH (by simp[hf]),aH (by simp[he]),aH (by omega),aH (by omega),aH (by omega)];rfl
theorem zcB {p:aT}{U:List Key}{K r:Nat}{mx lost:Int}{n:Node}(hp:fN p=true)(hU:U.length<=64)(hW:∀x∈dR p,x.key∈U)(hK:K<=1000000)(hr:r<=10){H:List aA}{ep:Int}(M:Mg n.side n.bA H ep K r)(hq:∀j,j<r->Qp H (dR p) j)(hH:∀x∈H,x.key∈U)(hu:n.up.q=[])(hd:n.dn.q=[]):
  ∃m,gM mx p lost n=(m,lost,0)/\Rb p U K r m/\m.bR=n.bR:=by
 have hA:Acc p.cap (dR p):=by unfold dR;rw[y9 hp];exact IA hp
 cases hx:mU H (dR p) n.bA.v.held with
 |none=>
  obtain⟨h1,h2,h3,_⟩:=Ly M hp hx;exact⟨_,WG h1,.done H ep r hu hd M hx,rfl⟩
 |some st=>
  obtain⟨g1,g2,g3,g4⟩:=Ib (M.pl hA) hU hH hW hx;obtain⟨f,y,a,u,k1,k2,k3,k4,k5,k6,k7,k8⟩:=Lw M hp (by omega) hK hx g1 g2;obtain⟨h5,h6⟩:=g4 r hq;refine⟨_,Hj k1 k4 (by rw[hd];simp),?_,rfl⟩;exact .push f a y u _ ep hu (by show n.dn.q++[f]=[f];rw[hd];rfl) k5 k6 k7 k8 h6 h5 g3
theorem Ca {p:aT}{U:List Key}{K r:Nat}{mx lost:Int}{n:Node}(hp:fN p=true)(hU:U.length<=64)(hW:∀x∈dR p,x.key∈U)(hK:K<=1000000)(hr:r<=10){u:cL}{a:Frame}{H:List aA}{ep:Int}(hu:n.up.q=[a])(hd:n.dn.q=[])(h1:handle n.bA p a=(u,0))(M:Mg n.side u H ep K r)(hq:∀j,j<r->Qp H (dR p) j)(hH:∀x∈H,x.key∈U)(i:Nat):
  ∃m,jI mx p lost n (iQ i 0)=(m,lost,fP 0)/\Rb p U K r m/\m.bR=n.bR:=by
 obtain⟨m,e,b,c⟩:=zcB (mx:=mx) (lost:=lost) (n:={n with up:=⟨n.up.aF,[]⟩,bA:=u}) hp hU hW hK hr M hq hH rfl hd;refine⟨m,?_,b,c⟩;rw[Z6 hu i (by rw[h1]),h1,e]
theorem Vk {p:aT}{U:List Key}{K:Nat}{mx:Int}{n:Node}(hp:fN p=true)(hU:U.length<=64)(hW:∀x∈dR p,x.key∈U)(hK:K<=1000000){s:cL}{a b:Frame}{H:List aA}{ep:Int}(hu:n.up.q=[a,b])(hd:n.dn.q=[])(h1:handle n.bA p a=({s with v:=⟨H,H.map aA.key,0,fQ,false⟩},0))(h2:b.type=3/\b.held=s.v.held/\b.aL=s.v.aL/\0<b.aL/\b.aF=s.aF/\eX b=0)
  (hs:gC {s with v:=⟨H,H.map aA.key,0,fQ,false⟩}=true) (hv:s.v=⟨H,s.v.held,s.v.aL,fQ,false⟩) (M:Mg n.side s H ep K 0) (hH:∀x∈H,x.key∈U) (i:Nat) (lost:Int):
  ∃k,jI mx p lost n (iQ i 0)=(k,lost,fP 0)/\∃m,jI mx p lost k (iQ i 0)=(m,lost,fP 0)/\Rb p U K 0 m/\m.bR=n.bR:=by
 obtain⟨b1,b2,b3,b4,b5,b6⟩:=h2;generalize hs1:({s with v:=⟨H,H.map aA.key,0,fQ,false⟩}:cL)=s1 at h1 hs;have e1:s1.aF=s.aF:=by rw[<-hs1]
 have e2:s1.v=⟨H,H.map aA.key,0,fQ,false⟩:=by rw[<-hs1]
 have dr:{s1 with v:=eE s1.v b.aL b.held}=s:=by
  have:eE s1.v b.aL b.held=s.v:=by
   rw[e2,hv];unfold eE;rw[aU b4];simp only[b2,b3]
  rw[this,<-hs1]
 have br:=Z6 (mx:=mx) (p:=p) (lost:=lost) hu i (by rw[h1]);rw[h1]at br;simp only at br;cases hx:mU H (dR p) (H.map aA.key)with
 |none=>
  have pn:Go.G.dD s1 p=(s1,[],0):=by
   unfold Go.G.dD;rw[nP hs];have:idle s1 p=false:=R0 (by rw[<-hs1];exact M.gr) (by rw[e2]) (by rw[<-hs1];exact M.sk);simp only[oB,this,oM,gY,e2,hx]
  refine⟨{n with up:=⟨n.up.aF,[b]⟩,bA:=s1},by rw[br,WG (n:={n with up:=⟨n.up.aF,[b]⟩,bA:=s1}) pn],?_⟩;have hh:handle s1 p b=(s,0):=by rw[ZN hs b1 (b5.trans e1.symm) b6,dr]
  obtain⟨m,e,x,y⟩:=Ca (mx:=mx) (lost:=lost) (n:={n with up:=⟨n.up.aF,[b]⟩,bA:=s1}) hp hU hW hK (by omega) (r:=0) rfl hd hh M (fun j hj=>by omega) hH i;exact⟨m,e,x,y⟩
 |some st=>
  have hx':=zeF (h:=s.v.held) hx;have hA:Acc p.cap (dR p):=by unfold dR;rw[y9 hp];exact IA hp
  obtain⟨g1,g2,g3,g4⟩:=Ib (M.pl hA) hU hH hW hx';obtain⟨f,y,c,u,k1,k2,k3,k4,k5,k6,k7,k8⟩:=Lw M hp (by omega) hK hx' g1 g2;obtain⟨h5,h6⟩:=g4 0 (fun j hj=>by omega);have hst:=IP hx;have hkb:=I9 hst.kind;have p1:=Lx (lV.1 M.ss).out (n:=0) (by have:=M.om;omega) M.oo M.ol hkb;have pn:Go.G.dD s1 p=({s1 with v:=lK s1.v f,out:=s.out.set st.kind (s.out.last st.kind+1) true},[f],0):=by
   unfold Go.G.dD;rw[nP hs];have:idle s1 p=false:=R0 (by rw[<-hs1];exact M.gr) (by rw[e2]) (by rw[<-hs1];exact M.sk);have eo:s1.out=s.out:=by rw[<-hs1]
   have ef:gE s1 st (s.out.last st.kind+1)=f:=by rw[k2];simp[gE,e1]
   simp only[oB,this,oM,gY,e2,hx,tA,eo,p1,eA,ef]
  refine⟨{n with up:=⟨n.up.aF,[b]⟩,bA:={s1 with v:=lK s1.v f,out:=s.out.set st.kind (s.out.last st.kind+1) true},dn:=⟨n.dn.aF,n.dn.q++[f]⟩},by rw[br,Hj (n:={n with up:=⟨n.up.aF,[b]⟩,bA:=s1}) pn k4 (by rw[hd];simp)],?_⟩;have ts:gC {s1 with v:=lK s1.v f,out:=s.out.set st.kind (s.out.last st.kind+1) true}=true:=by
   have eo:s1.out=s.out:=by rw[<-hs1]
   have ef:gE s1 st (s.out.last st.kind+1)=f:=by rw[k2];simp[gE,e1]
   have hx1:mU s1.v.bF (dR p) s1.v.held=some st:=by rw[e2];exact hx
   have:=VR (lV.1 hs) (IP hx1) (CO hp) (by rw[<-hs1];exact M.gr) (by rw[eo,p1]);rw[eo,p1,ef]at this;exact this
  have hh:handle {s1 with v:=lK s1.v f,out:=s.out.set st.kind (s.out.last st.kind+1) true} p b=({s with v:=lK s.v f,out:=s.out.set st.kind (s.out.last st.kind+1) true},0):=by
   rw[ZN ts b1 (b5.trans e1.symm) b6];have:eE (lK s1.v f) b.aL b.held=lK s.v f:=by
    rw[e2,hv];unfold eE lK;rw[aU b4];simp only[b2,b3]
   simp only[this];rw[<-hs1]
  have po:=zcN k3 p rfl;have bu:=Z6 (mx:=mx) (p:=p) (lost:=lost) (n:={n with up:=⟨n.up.aF,[b]⟩,bA:={s1 with v:=lK s1.v f,out:=s.out.set st.kind (s.out.last st.kind+1) true},dn:=⟨n.dn.aF,n.dn.q++[f]⟩}) (f:=b) (l:=[]) rfl i (by rw[hh]);simp only[hh]at bu;refine⟨{n with up:=⟨n.up.aF,[]⟩,bA:={s with v:=lK s.v f,out:=s.out.set st.kind (s.out.last st.kind+1) true},dn:=⟨n.dn.aF,n.dn.q++[f]⟩},by rw[bu,WG (n:={n with up:=⟨n.up.aF,[]⟩,bA:={s with v:=lK s.v f,out:=s.out.set st.kind (s.out.last st.kind+1) true},dn:=⟨n.dn.aF,n.dn.q++[f]⟩}) po],?_,rfl⟩;exact .push f c y u _ ep rfl (by show n.dn.q++[f]=[f];rw[hd];rfl) k5 k6 k7 k8 h6 h5 g3
theorem zhY {p:aT}{U:List Key}{K r:Nat}{mx lost:Int}{n:Node}{f a:Frame}{y:bB}{u:cL}{H:List aA}{ep:Int}(hu:n.up.q=[])(hd:n.dn.q=[f])(h1:jM n.side f=(y,[a],0))(ha:eX a=0)(h2:handle n.bA p a=(u,0))(M:Mg y u H ep K (r+1))(hq:∀j,j<r+1->Qp H (dR p) j)(hr:r<10)(hH:∀x∈H,x.key∈U)(i:Nat):
  ∃m,jI mx p lost n (iQ i 1)=(m,lost,fP 0)/\Ra p U K (r+1) m/\m.bR=n.bR:=by
 refine⟨_,zi3 hd i h1 ha (by rw[hu];simp),?_,rfl⟩;exact .answer u a H ep (by show n.up.q++[a]=[a];rw[hu];rfl) rfl h2 M hq hr hH
def pL (M:bL)(i:Nat)(w:Int):Nat->bL
 |0=>M
 |k+1=>(bH (pL M i w k) (iQ i w)).1
def vQ (M:bL)(i:Nat)(w:Int):bL:=pL M i w (dA (nth M i) w).q.length
def C3 (M:bL)(i:Nat):bL:=vQ (vQ M i 0) i 1
def iS (M:bL):Nat->bL
 |0=>M
 |i+1=>C3 (iS M i) i
def l5 (M:bL)(k:Nat):Nat->bL
 |0=>M
 |r+1=>iS (l5 M k r) k
def mP (M:bL)(i:Nat)(n:Node):bL:=⟨M.c,M.p,M.ns.set i n,M.lost⟩
theorem L4 {M:bL}{i:Nat}{n:Node}(h:M.ns[i]? =some n):nth M i=n:=by simp[nth,List.getD,h]
theorem OI {M:bL}{i:Nat}{n m:Node}(h:M.ns[i]? =some n):(mP M i m).ns[i]? =some m:=FI (cC.1 h).1
theorem US (M:bL)(i:Nat)(n m:Node):mP (mP M i n) i m=mP M i m:=by simp[mP,List.set_set]
theorem OH {M:bL}{i:Nat}{n:Node}(h:M.ns[i]? =some n):mP M i n=M:=by
 obtain⟨h1,h2⟩:=cC.1 h;simp only[mP];rw[<-h2,List.set_getElem_self]
theorem OX {M:bL}{i:Nat}{n m:Node}{o:sQ}(hn:M.ns[i]? =some n){w:Int}(hw:w=0\/w=1)(h:jI M.c.max M.p M.lost n (iQ i w)=(m,M.lost,o)):(bH M (iQ i w)).1=mP M i m:=by
 have h0:¬M.ns=[]:=fun e=>by rw[e]at hn;simp at hn
 have ha:nodeAt M.ns (iQ i w).side=some n:=by
  show nodeAt M.ns (i:Int)=_;unfold nodeAt;rw[aU (by omega),AG];exact hn
 have k1:(iQ i w).kind=1:=rfl;have k2:(iQ i w).bG=w:=rfl;have k3:(iQ i w).side.toNat=i:=AG i;unfold bH;rw[aH h0,aH (by omega),aH (by omega),aH (by omega),ha];simp only;rw[aH (by omega)];unfold fC;rw[aU k1,h,k3];rfl
def vT (p:aT)(K r:Nat)(n:Node):Prop:=∃U:List Key,U.length<=64/\(∀x∈dR p,x.key∈U)/\Ra p U K r n
theorem zaC {M:bL}(hp:fN M.p=true){K r:Nat}(hK:K<=1000000){i:Nat}{n:Node}(hn:M.ns[i]? =some n)(h:vT M.p K r n):∃m,C3 M i=mP M i m/\vT M.p K (r+1) m/\m.bR=n.bR:=by
 obtain⟨U,hU,hW,h⟩:=h;have up:∃m,vQ M i 0=mP M i m/\Rb M.p U K r m/\m.bR=n.bR:=by
  unfold vQ;rw[L4 hn,show dA n 0=n.up from rfl];cases h with
  |first s a b H ep hr hu hd h1 h2 hs hv Mg hH=>
   subst hr;obtain⟨k,e1,m,e2,q1,q2⟩:=Vk (mx:=M.c.max) hp hU hW hK hu hd h1 h2 hs hv Mg hH i M.lost;refine⟨m,?_,q1,q2⟩;rw[hu];show(bH (bH M (iQ i 0)).1 (iQ i 0)).1=_;rw[OX hn (.inl rfl) e1,OX (M:=mP M i k) (OI hn) (.inl rfl) e2,US]
  |answer u a H ep hu hd h1 Mg hq hr hH=>
   obtain⟨m,e,q1,q2⟩:=Ca (mx:=M.c.max) (lost:=M.lost) hp hU hW hK hr hu hd h1 Mg hq hH i;refine⟨m,?_,q1,q2⟩;rw[hu];exact OX hn (.inl rfl) e
  |done H ep m hu hd Mg hx=>
   refine⟨n,?_,.done H ep m hu hd Mg hx,rfl⟩;rw[hu,OH hn];rfl
 obtain⟨m,e,hb,hpl⟩:=up;unfold C3;rw[e];have hm:=OI (m:=m) hn;have:∃k,vQ (mP M i m) i 1=mP (mP M i m) i k/\vT M.p K (r+1) k/\k.bR=m.bR:=by
  unfold vQ;rw[L4 hm,show dA m 1=m.dn from rfl];cases hb with
  |push f a y u H ep hu hd h1 ha h2 Mg hq hr hH=>
   obtain⟨k,e,q1,q2⟩:=zhY (mx:=M.c.max) (lost:=M.lost) hu hd h1 ha h2 Mg hq hr hH i;refine⟨k,?_,⟨U,hU,hW,q1⟩,q2⟩;rw[hd];exact OX (M:=mP M i m) hm (.inr rfl) e
  |done H ep j hu hd Mg hx=>
   refine⟨m,?_,⟨U,hU,hW,.done H ep j hu hd Mg hx⟩,rfl⟩;rw[hd,OH hm];rfl
 obtain⟨k,e,q1,q2⟩:=this;exact⟨k,by rw[e,US],q1,q2.trans hpl⟩
structure xC (M N:bL):Prop where
 c:N.c=M.c
 p:N.p=M.p
 lost:N.lost=M.lost
 len:N.ns.length=M.ns.length
theorem xC.refl (M:bL):xC M M:=⟨rfl,rfl,rfl,rfl⟩
theorem xC.trans {A B C:bL}(h:xC A B)(g:xC B C):xC A C:=⟨g.c.trans h.c,g.p.trans h.p,g.lost.trans h.lost,g.len.trans h.len⟩
theorem xC.gP (M:bL)(i:Nat)(m:Node):xC M (mP M i m):=⟨rfl,rfl,rfl,by simp[mP]⟩
theorem Gk {M:bL}(hp:fN M.p=true){K r:Nat}(hK:K<=1000000)(h:∀(i:Nat) (n:Node),M.ns[i]? =some n->vT M.p K r n/\n.bR.tasks=[]):∀k,k<=M.ns.length->
  xC M (iS M k)/\(∀(i:Nat) (n:Node),(iS M k).ns[i]? =some n->vT M.p K (if i<k then r+1 else r) n/\n.bR.tasks=[])
 |0,_=>⟨.refl M,fun i n hn=>by simpa using h i n hn⟩
 |k+1,hk=>by
  obtain⟨lk,ih⟩:=Gk hp hK h k (by omega);obtain⟨n,hn⟩:∃n,(iS M k).ns[k]? =some n:=⟨_,cI (by rw[lk.len];omega)⟩;have hk1:=ih k n hn;rw[aH (by omega)]at hk1;obtain⟨m,e,q1,q2⟩:=zaC (M:=iS M k) (by rw[lk.p];exact hp) hK hn (by rw[lk.p];exact hk1.1);rw[lk.p]at q1;refine⟨?_,fun i x hx=>?_⟩
  ·show xC M (C3 (iS M k) k);rw[e];exact lk.trans (.gP _ _ _)
  ·have hx:(C3 (iS M k) k).ns[i]? =some x:=hx;rw[e]at hx;by_cases hi:k=i
   ·subst hi;rw[OI hn]at hx;cases hx;rw[aU (by omega)];exact⟨q1,by rw[q2];exact hk1.2⟩
   ·have hx:((iS M k).ns.set k m)[i]? =some x:=hx;rw[N7 hi]at hx;have:=ih i x hx;by_cases h1:i<k
    ·rw[aU h1]at this;rw[aU (by omega)];exact this
    ·rw[aH h1]at this;rw[aH (by omega)];exact this
theorem V6 {M:bL}(hp:fN M.p=true){K:Nat}(hK:K<=1000000)(h:∀(i:Nat) (n:Node),M.ns[i]? =some n->vT M.p K 0 n/\n.bR.tasks=[]):∀r,
  xC M (l5 M M.ns.length r)/\∀(i:Nat) (n:Node),(l5 M M.ns.length r).ns[i]? =some n->vT M.p K r n/\n.bR.tasks=[]
 |0=>⟨.refl M,h⟩
 |r+1=>by
  obtain⟨lk,ih⟩:=V6 hp hK h r;have q:=Gk (M:=l5 M M.ns.length r) (by rw[lk.p];exact hp) (r:=r) hK (fun i n hn=>by rw[lk.p];exact ih i n hn) M.ns.length (by rw[lk.len];exact cM _);refine⟨lk.trans q.1,fun i n hn=>?_⟩;have hi:i<M.ns.length:=by
   have h1:=(cC.1 hn).1;have h2:=(lk.trans q.1).len;have:(l5 M M.ns.length (r+1)).ns.length=M.ns.length:=h2;omega
  have:=q.2 i n hn;rw[aU hi,lk.p]at this;exact this
theorem zcA {p:aT}{K r:Nat}{n:Node}(hr:11<=r)(h:vT p K r n)(hp:fN p=true):n.up.q=[]/\n.dn.q=[]/\n.side.w.c.l=dR p/\pF n.bA p=true/\fJ n.bA=[]/\dI n.side=true/\n.side.p.aX.length<=1:=by
 obtain⟨U,hU,hW,h⟩:=h;cases h with
 |first s a b H ep hr'=>omega
 |answer u a H ep hu hd h1 Mg hq hr'=>omega
 |done H ep m hu hd Mg hx=>
  obtain⟨_,h2,h3,h4⟩:=Ly Mg hp hx;refine⟨hu,hd,by rw[Mg.xc];exact h2,h3,h4,Mg.xs,?_⟩;rcases Ax (oQ.1 (iP.1 Mg.xs).p).1 Mg.xz with e|⟨c,e⟩<;>rw[e]<;>simp
theorem Cm :∀(l:List Node) (lost k:Int),(∀n∈l,fJ n.bA=[])->nG l lost k=(l,lost,k)
 |[],_,_,_=>rfl
 |n::l,lost,k,h=>by
  have e:=h n xF;simp only[nG,e,Ev,l7,Int.natCast_zero,Int.add_zero];rw[Cm l lost k (fun x hx=>h x (xG _ hx))]
structure o9 (c:bS)(k:Nat)(s:bB):Prop where
 cap:s.w.c.cap=nX c.iG
 m:s.cE.m=aE.j3 c.max
 next:s.p.next<=k
theorem o9.goes {c:bS}{k:Nat}{s t:bB}{told:List Frame}(h:o9 c k s)(g:uS s t told)(hn:t.p.next=s.p.next):o9 c (k+1) t:=⟨by rw[g.w];exact h.cap,by rw[g.i];exact h.m,by have:=h.next;omega⟩
theorem zdg {p:dJ}(h:jU p=true):(qJ p).1.next=p.next:=by
 unfold qJ;rw[mC h];unfold zF;split
 ·rfl
 ·split<;>rfl
theorem zch {p:dJ}(h:jU p=true)(id:Int):(oR p id).1.next=p.next:=by
 unfold oR;rw[mC h];unfold s9;split
 ·rfl
 split
 ·rfl
 split
 ·rfl
 split<;>rfl
theorem zhE {s:bB}(hs:dI s=true)(id:Int):(kC s id).1.p.next=s.p.next:=by
 have e:(kC s id).1.p=(oR s.p id).1:=by
  unfold kC;rw[j9 hs];unfold yK;dsimp only;split<;>rfl
 rw[e];exact zch (iP.1 hs).p id
theorem zdk {s:bB}(hs:dI s=true)(p:jO)(d:Int):(eI p s d).2.1.p.next=s.p.next:=by
 have done:∀(r:kD) (a:nC),(lR ⟨r,s,[]⟩ a).s.p.next=s.p.next:=fun r a=>by
  unfold lR;split
  ·rfl
  ·exact zhE hs _
 have key:∀r,(mQ r s).s.p.next=s.p.next:=fun r=>by
  unfold mQ;rw[j9 hs];generalize mS r=r;unfold qE vR x9 zC zT;dsimp only
  repeat' split
  all_goals first
   |exact done _ _
   |rfl
   | (unfold qR;rw[j9 hs];exact zdg (iP.1 hs).p)
 unfold eI;split
 ·rfl
 ·dsimp only;split<;>exact key _
theorem zez (i:aE.Nn)(k n:Int):(i.set k n).m=i.m:=by
 unfold aE.Nn.set;split
 ·rfl
 split
 ·rfl
 split<;>rfl
theorem zih {c:bS}{k:Nat}{s:bB}(h:o9 c k s)(hs:dI s=true)(e:Int):o9 c k (jW s e).1:=by
 have hb:aE.j3 (aE.j3 c.max)=aE.j3 c.max:=by simp only[aE.j3];omega
 unfold jW;rw[j9 hs];unfold vP;split
 ·exact h
 split
 ·exact h
 ·exact⟨h.cap,by show aE.j3 s.cE.m=_;rw[h.m,hb],h.next⟩
theorem zaE {c:bS}{k:Nat}{s:bB}(h:o9 c k s)(hs:dI s=true)(f:Frame):o9 c (k+1) (jM s f).1:=by
 have hn:=h.next;have o:=VL hs f;generalize jM s f=R at o;cases o with
 |none e h0=>exact⟨h.cap,h.m,by simp only;omega⟩
 |again=>exact⟨h.cap,h.m,by show s.p.next<=_;omega⟩
 |take t hr hk hn' ha hi h1 h2 h3=>
  refine⟨?_,?_,?_⟩
  ·show t.w.c.cap=_;rcases ha with⟨_,_,_,hw,_⟩|⟨_,_,hc,_,_⟩
   ·rw[hw];exact h.cap
   ·rw[hc];exact h.cap
  ·show t.cE.m=_;rw[hi,zez];exact h.m
  ·show t.p.next<=_;rcases ha with⟨_,_,_,_,hp⟩|⟨_,_,_,_,hp|hp⟩
   ·rw[hp];omega
   ·rw[hp];omega
   ·rw[hp];simp only;omega
theorem o9.mono {c:bS}{k l:Nat}{s:bB}(h:o9 c k s)(hl:k<=l):o9 c l s:=⟨h.cap,h.m,by have:=h.next;omega⟩
theorem Sd {c:bS}{k:Nat}{n:Node}(h:o9 c k n.side)(hs:dI n.side=true)(mx lost:Int):o9 c k (gD mx lost n).1.side:=by
 unfold gD;split
 ·exact h
 ·exact zih h hs _
theorem Se {c:bS}{k:Nat}{n:Node}(h:o9 c k n.side)(hs:dI n.side=true)(mx:Int)(p:aT)(lost:Int):o9 c k (gM mx p lost n).1.side:=by
 unfold gM;dsimp only;split
 ·exact h
 ·exact Sd (n:={n with bA:=(Go.G.dD n.bA p).1,dn:=(dP n.dn lost (Go.G.dD n.bA p).2.1).1}) h hs mx _
theorem ziO (c:bS){l:List bJ}(hl:l.length<=100000)(hs:∀s∈l,eK s){i:Nat}{n:Node}(hn:(aY (aR c) l).1.ns[i]? =some n):o9 c l.length n.side:=by
 refine(Hz (c:=c) (fun k _ p _ n=>iI n (k:Int)/\lE p n/\o9 c k n.side) (fun _=>⟨iI.new c,lE.new c _,rfl,rfl,xL 0⟩) (fun M l s C i n m hM _ _ hl ho ih st=>?_) l hl hs i n hn).2.2;obtain⟨sd,ni,ca⟩:=ih;have q:=lE.step (B:=(l.length:Int)) hM ho sd (by omega) ni st;refine⟨q.1.mono (by omega),q.2,?_⟩;cases st with
 |same h=>exact ca.mono (by omega)
 |dD h0 he lost=>exact(Se ca sd.xs _ _ _).mono (Nat.le_succ _)
 |tick h0 lost=>exact ca.mono (by omega)
 |one h1 h0 hw lost=>
  have hx:∀f:dS->Int->dS×Int,o9 c (l.length+1) (mW f lost n s).1.side:=fun f=>by
   show o9 c _ (fB _ _ _).side;rw[(LO n s.bG (f (dA n s.bG) s.n).1).1];exact ca.mono (by omega)
  unfold fC;split
  ·have so:=LO n s.bG (takeN (dA n s.bG) s.n).1;unfold jI;dsimp only;split
   ·rw[so.1];exact ca.mono (by omega)
   split
   ·show o9 c _ (jM (fB n s.bG _).side _).1;rw[so.1];exact zaE ca sd.xs _
   ·split
    ·show o9 c _ (fB n s.bG _).side;rw[so.1];exact ca.mono (by omega)
    ·refine(Se (n:={(fB n s.bG (takeN (dA n s.bG) s.n).1)with bA:=(handle (fB n s.bG (takeN (dA n s.bG) s.n).1).bA M.p (takeN (dA n s.bG) s.n).2.1).1}) ?_ ?_ _ _ _).mono (Nat.le_succ l.length)
     ·show o9 c _ (fB n s.bG _).side;rw[so.1];exact ca
     ·show dI (fB n s.bG _).side=true;rw[so.1];exact sd.xs
  split
  ·exact hx _
  split
  ·exact hx _
  split
  ·exact hx _
  split
  ·exact(Sd ca sd.xs _ _).mono (Nat.le_succ _)
  split
  ·exact ca.mono (by omega)
  split
  ·exact ca.goes (.pick sd.xs n.bR s.n) (zdk sd.xs _ _)
  ·exact ca.mono (by omega)
def nE (l:List Task):Nat:=(l.map fun t=>(5-t.r.cV).toNat).sum
theorem Ck :∀(l:List Task) (k:Nat) (t t':Task),l[k]? =some t->nE (l.set k t')+(5-t.r.cV).toNat=nE l+(5-t'.r.cV).toNat
 |[],k,t,t',h=>by simp at h
 |x::l,0,t,t',h=>by
  simp only[BX,lS]at h;subst h;simp only[nE,T8,iU,List.sum_cons];omega
 |x::l,k+1,t,t',h=>by
  have:=Ck l k t t' (by simpa using h);simp only[nE,List.set_cons_succ,iU,List.sum_cons]at this⊢;omega
theorem Cl :∀(l:List Task) (k:Nat) (t:Task),l[k]? =some t->nE (l.eraseIdx k)+(5-t.r.cV).toNat=nE l
 |[],k,t,h=>by simp at h
 |x::l,0,t,h=>by
  simp only[BX,lS]at h;subst h;simp only[nE,List.eraseIdx_cons_zero,iU,List.sum_cons];omega
 |x::l,k+1,t,h=>by
  have:=Cl l k t (by simpa using h);simp only[nE,List.eraseIdx_cons_succ,iU,List.sum_cons]at this⊢;omega
theorem Wr {l:List Task}(h:∀t∈l,0<=t.r.cV):nE l<=5*l.length:=by
 induction l with
 |nil=>simp[nE]
 |cons x l ih=>
  have:=ih (fun t ht=>h t (xG _ ht));have:=h x xF;simp only[nE,iU,List.sum_cons,kE]at*;omega
theorem zdi {s:bB}{P:jO}(h:rN s.p P.tasks)(hs:dI s=true)(hP:zY P)(d:Int):(P.tasks=[]->(eI P s d).1.tasks=[])/\(P.tasks≠[]->nE (eI P s d).1.tasks+1<=nE P.tasks):=by
 unfold eI;cases ht:P.tasks[oC P d]? with
 |none=>
  refine⟨id,fun hne=>?_⟩;have:=(WO P d (xI.2 hne)).2;rw[cI this]at ht;cases ht
 |some t=>
  refine⟨fun e=>by rw[e]at ht;simp at ht,fun _=>?_⟩;have tm:=eH ht;have run:=hP.run t tm;have hb:0<=t.r.cV/\t.r.cV<=4:=by
   have h1:=run.1;have h2:=run.2;unfold kU at h2;rw[VF h1]at h2;simp only[lL,bN,pN,AH,uT]at h1 h2;omega
  have o:=OU run.1 run.2 hs;dsimp only;have er:=Cl P.tasks _ t ht;have st:=fun t'=>Ck P.tasks _ t t' ht;generalize mQ t.r s=w at o;have key:(kU w.r=true->t.r.cV+1<=w.r.cV)->nE (if kU w.r=true then((⟨P.next,P.tasks.set (oC P d) ⟨t.n,w.r⟩,P.done⟩:jO),w.s,w.told,(0:Int))else(⟨P.next,P.tasks.eraseIdx (oC P d),x5 P.done ⟨t.n,w.r⟩⟩,w.s,w.told,(0:Int))).1.tasks+1<=nE P.tasks:=fun hw=>by
   split
   ·rename_i hr;have:=hw hr;have:=st ⟨t.n,w.r⟩;simp only at this⊢;omega
   ·show nE (P.tasks.eraseIdx _)+1<=_;omega
  refine key ?_;cases o with
  |full h0 q hq hp=>
   have b:=h.yP q hq;have c:oY P.tasks q.id<=P.tasks.length:=kS _ _;have:=hP.lt;omega
  |none h0 hc=>intro _;show t.r.cV+1<=5;omega
  |xX h0 i q hq=>intro _;show t.r.cV+1<=1;omega
  |go h1 r h2 hi ha hR=>intro _;show t.r.cV+1<=r.cV;omega
  |fin h1 o hR=>intro _;show t.r.cV+1<=5;omega
def cU (i:Nat):bJ:=⟨8,i,0,0,[],[],cQ⟩
def iE (i:Nat):bJ:=⟨5,i,0,0,[],[],cQ⟩
def fE (i j:Nat):List bJ:=List.replicate j (cU i)
theorem GU {i j:Nat}{s:bJ}(h:s∈fE i j):s=cU i:=(List.mem_replicate.1 h).2
def cA :Nat->List bJ
 |0=>[]
 |k+1=>cA k++(fE k 400++[iE k])
theorem EG :∀k,∀s∈cA k,eK s/\(s.kind=8\/s.kind=5)/\∃j:Nat,j<k/\s.side=j
 |0,s,hs=>by cases hs
 |k+1,s,hs=>by
  rcases dN.1 hs with g|g
  ·obtain⟨a,b,j,h1,h2⟩:=EG k s g;exact⟨a,b,j,by omega,h2⟩
  ·rcases dN.1 g with g|g
   ·rw[GU g];exact⟨⟨⟨by simp[cU,cQ,bs],by simp[cU,cQ,bs]⟩,by simp[cU],by simp[cU]⟩,.inl rfl,k,by omega,rfl⟩
   ·rw[fI.1 g];exact⟨⟨⟨by simp[iE,cQ,bs],by simp[iE,cQ,bs]⟩,by simp[iE],by simp[iE]⟩,.inr rfl,k,by omega,rfl⟩
theorem IK :∀k,(cA k).length=401*k
 |0=>rfl
 |k+1=>by simp only[cA,dQ,IK k,fE,KK,List.length_singleton];omega
theorem Ia :∀(l:List bJ) (M:bL),(aY M l).1.c=M.c
 |[],_=>rfl
 |s::l,M=>(Ia l (bH M s).1).trans (LC M s).1
theorem PT (t:List bJ):∀M:bL,(∀s∈t,s.kind=8\/s.kind=5)->(aY M t).1.p=M.p/\(aY M t).1.c=M.c:=by
 induction t with
 |nil=>intro M _;exact⟨rfl,rfl⟩
 |cons s t ih=>
  intro M h;have st:=LC M s;have:=ih (bH M s).1 (fun x hx=>h x (xG _ hx));have hk:=h s xF;refine⟨this.1.trans (st.2.resolve_right fun q=>by omega),this.2.trans st.1⟩
theorem Hx {i:Nat}:∀(t:List bJ) (M:bL) (m:Node),(∀s∈t,(s.kind=8\/s.kind=5)/\s.side≠(i:Int))->(aY M t).1.ns[i]? =some m->M.ns[i]? =some m
 |[],M,m,_,h=>h
 |s::t,M,m,hs,h=>by
  have h1:=Hx t (bH M s).1 m (fun x hx=>hs x (xG _ hx)) h;obtain⟨n,hn,st⟩:=HU M s h1;have hk:=hs s xF;cases st with
  |same _=>exact hn
  |dD h0=>omega
  |tick h0=>omega
  |one g1=>exact absurd g1 hk.2
theorem zgK (c:bS)(i:Nat){l:List bJ}(hl:l.length<=9000)(hs:∀s∈l,eK s):∀j,j<=400->∀n,(aY (aR c) (l++fE i j)).1.ns[i]? =some n->n.bR.tasks=[]\/nE n.bR.tasks+j<=320:=by
 have okg:∀j,∀s∈l++fE i j,eK s:=fun j s h=>by
  rcases dN.1 h with g|g
  ·exact hs s g
  ·rw[GU g];exact⟨⟨by simp[cU,cQ,bs],by simp[cU,cQ,bs]⟩,by simp[cU],by simp[cU]⟩
 intro j;induction j with
 |zero=>
  intro _ n hn;have ok:=(mG _ (cN.new c) (okg 0)).1.ok n (eH hn);have:=Wr (l:=n.bR.tasks) (fun t ht=>by
   have:=(ok.pl.p.run t ht).1;simp only[lL,bN,pN,AH,uT]at this;omega)
  have:=ok.pl.p.lt;right;omega
 |succ j ih=>
  intro hj n hn;have e:l++fE i (j+1)=(l++fE i j)++[cU i]:=by
   unfold fE;rw[List.replicate_succ',AE]
  have q:=dH Prod.fst (rG (cU i) (l++fE i j) (aR c));simp only at q;rw[e,q]at hn;have hlen:(l++fE i j).length<=10000:=by simp[fE];omega
  have ok:=(mG _ (cN.new c) (okg j)).1;have an:=BH c i _ (l++fE i j) rfl (by omega) (okg j);have pi:∀x,(aY (aR c) (l++fE i j)).1.ns[i]? =some x->_:=fun x hx=>EI c (by omega) (okg j) hx
  have ih:=ih (by omega);generalize(aY (aR c) (l++fE i j)).1=M at hn ok an pi ih;obtain⟨x,hx,_⟩:=HU M _ hn;have st:=DX (s:=cU i) hx rfl (by simp[cU]);have hn':(bH M (cU i)).1.ns[i]? =some (fC M.c.max M.p M.lost x (cU i)).1:=by
   rw[st];exact FI (cC.1 hx).1
  rw[hn']at hn;cases hn;show(eI x.bR x.side 0).1.tasks=[]\/nE (eI x.bR x.side 0).1.tasks+(j+1)<=320;have pt:=zdi (an.2.2.2 x hx).pi (pi x hx).1.xs (ok.ok x (eH hx)).pl.p 0;by_cases h0:x.bR.tasks=[]
  ·exact .inl (pt.1 h0)
  ·right;have:=pt.2 h0;have:=(ih x hx).resolve_left h0;omega
theorem zbg {l:dS}{a b:Frame}(lost:Int)(ha:eX a=0)(hb:eX b=0)(hl:l.q=[]):dP l lost [a,b]=(⟨l.aF,[a,b]⟩,lost):=by
 have e:=O4 (l:=l) lost ha (by rw[hl];simp);have e2:=O4 (l:=⟨l.aF,l.q++[a]⟩) lost hb (by rw[hl];simp);have:dP l lost [a,b]=dP (dP l lost [a]).1 (dP l lost [a]).2 [b]:=rfl;rw[this,e,e2,hl];rfl
theorem zcd {c:bS}{p:aT}{n:Node}{K:Nat}(hp:fN p=true)(ca:o9 c K n.side)(hl:64<=c.iG)(hm:1000<=c.max){B:Int}(sd:iI n B)(hB:B+1<=K)(hK:K<=1000000)(ho:dG n)(hi:lE p n)(ht:n.bR.tasks=[])(pi:rN n.side.p n.bR.tasks)
  (room:n.side.w.c.l.length+(dR p).length<=60) (lost:Int):vT p K 0 (gD c.max lost n).1/\(gD c.max lost n).1.bR=n.bR:=by
 have e0:=ho.up.e0;have eB:=sd.eB;have tB:=sd.tB;have ud:=sd.ud;have xe:=sd.xe;have hs:=sd.xs;have X:=iP.1 hs;have t0:=mF.1 X.aL;have cap64:nX c.iG=64:=by simp only[nX];omega
 have xc:n.side.w.c=⟨64,n.side.w.c.l⟩:=by
  have:=ca.cap;rw[cap64]at this;rw[<-this]
 have hz:∀s∈n.side.p.aX,s.pins=0:=fun s hs=>by
  have:=pi.yP s hs;rw[ht]at this;simpa[oY]using this
 have cE:=hi.M7.si.cE;generalize hH:n.side.w.c.l=H at xc room cE;have hW:=uZ.1 X.w;rw[xc]at hW;have hT:=(u0.1 hW.1).2.1;have hk:=No hp (iC hT) cE;generalize hep:n.up.aF+1=ep;have hepr:cG ep 2147483647=true:=mF.2 ⟨by omega,by omega⟩;generalize hx:n.side=x at*;have h1:jW x ep=(n9 {x with aF:=ep,up:=true,cE:=aE.qF x.cE.m,fS:=⟨0,0,0,0⟩},[sG (n9 {x with aF:=ep,up:=true,cE:=aE.qF x.cE.m,fS:=⟨0,0,0,0⟩}),wV (n9 {x with aF:=ep,up:=true,cE:=aE.qF x.cE.m,fS:=⟨0,0,0,0⟩})],0):=by
  have e1:¬(ep<=x.aF\/2147483647<ep):=by omega
  have e2:¬qO x=true:=by simp only[qO,cP];omega
  simp only[jW,j9 hs,vP,aH e1,aH e2]
 have hys:=ZT x ep;rw[h1]at hys;simp only at hys;have R:=IE.1 X.room;have eN:(kP ep c.max).aF=ep:=by simp only[kP];omega
 generalize hy:n9 {x with aF:=ep,up:=true,cE:=aE.qF x.cE.m,fS:=⟨0,0,0,0⟩}=y at h1 hys;have yw:y.w=x.w:=by rw[<-hy];rfl
 have yp:y.p=x.p:=by rw[<-hy];rfl
 have yt:y.aL=x.aL+1:=by rw[<-hy];rfl
 have ye:y.aF=ep:=by rw[<-hy];rfl
 have yu:y.up=true:=by rw[<-hy];rfl
 have yi:y.cE=aE.qF x.cE.m:=by rw[<-hy];rfl
 have fa:eX (sG y)=0:=by simp only[sG,ye,yw,xc];exact zgw hepr hT
 have fb:eX (wV y)=0:=by simp only[wV,ye,yt,yp];exact zhT hepr (mF.2 ⟨by omega,by omega⟩) R.1 R.2
 have k1:=zgv ep c.max p (sG y) fa (by rw[eN];exact ye) rfl;have s1:=E0 p (sG y) (LS ep c.max);rw[k1]at s1;have hv:wS p (kP ep c.max).v (sG y).bF=⟨H,H.map aA.key,0,fQ,false⟩:=by
  simp only[sG,wS,yw,xc,hk];rfl
 rw[hv]at k1 s1;generalize hS:({kP ep c.max with lB:=true,v:=⟨H,fH x.p,x.aL+1,fQ,false⟩}:cL)=S;have eS:({kP ep c.max with lB:=true,v:=⟨H,H.map aA.key,0,fQ,false⟩}:cL)={S with v:=⟨H,H.map aA.key,0,fQ,false⟩}:=by rw[<-hS]
 have s2:=E0 p (wV y) s1;rw[ZN s1 rfl (by show y.aF=(kP ep c.max).aF;rw[eN];exact ye) fb]at s2;have eD:eE ⟨H,H.map aA.key,0,fQ,false⟩ (wV y).aL (wV y).held=⟨H,fH x.p,x.aL+1,fQ,false⟩:=by
  have q:(wV y).aL=x.aL+1:=yt;have q2:(wV y).held=fH x.p:=by show fH y.p=_;rw[yp]
  unfold eE;rw[q,q2,aU (by show(0:Int)<x.aL+1;omega)]
 simp only[eD]at s2;have s2:gC S=true:=by rw[<-hS];exact s2
 have rn:(gD c.max lost n).1=⟨y,kP ep c.max,⟨ep,[sG y,wV y]⟩,⟨n.dn.aF+1,[]⟩,n.bR⟩:=by
  unfold gD;rw[aH (by omega),hep,hx,h1];simp only;rw[zbg lost fa fb rfl]
 have bm:1000<=aE.j3 c.max:=by simp only[aE.j3];omega
 have bb:aE.j3 (aE.j3 c.max)=aE.j3 c.max:=by simp only[aE.j3];omega
 refine⟨?_,by rw[rn]⟩;rw[rn];refine⟨H.map aA.key++(dR p).map aA.key,by simp;omega,fun r hr=>List.mem_append_right _ (eR.2 ⟨r,hr,rfl⟩),?_⟩;have can:=ca.next;have cam:=ca.m;refine .first S (sG y) (wV y) H ep rfl rfl rfl (by rw[<-eS];exact k1) ⟨rfl,?_,?_,?_,?_,fb⟩ (by rw[<-eS];exact s1) (by rw[<-hS]) ⟨hys,yu,ye,by rw[yw];exact xc,by rw[yp];exact hz,by show y.p.next<=_;rw[yp];omega,by show y.aL<=_;omega,s2,?_,?_,?_,?_,?_,?_,?_,?_,?_,fun k hk=>?_,fun k hk=>?_⟩ (fun r hr=>uU _ (eR.2 ⟨r,hr,rfl⟩))
 ·rw[<-hS];show fH y.p=fH x.p;rw[yp]
 ·rw[<-hS];exact yt
 ·show 0<y.aL;omega
 ·rw[<-hS];show y.aF=(kP ep c.max).aF;rw[eN];exact ye
 ·rw[<-hS]
 ·rw[<-hS]
 ·rw[<-hS];exact eN
 ·rw[<-hS]
 ·rw[<-hS,yp]
 ·rw[<-hS];exact yt.symm
 ·rw[<-hS];rfl
 ·rw[<-hS,yi,cam];show aE.qF (aE.j3 c.max)=(aE.DZ c.max).qC;simp only[aE.qF,bb];rfl
 ·rw[<-hS];exact bm
 ·rw[<-hS];rcases aE.uF hk with rfl|rfl|rfl|rfl<;>rfl
 ·rw[<-hS];rcases aE.uF hk with rfl|rfl|rfl|rfl<;>exact xL 0
theorem Hq (c:bS)(hl:64<=c.iG)(hm:1000<=c.max){l:List bJ}(h60:l.length<=100)(hs:∀s∈l,eK s)
  (room:∀(i:Nat) (n:Node),(aY (aR c) (l++cA i)).1.ns[i]? =some n->i<cR c->n.side.w.c.l.length+(dR (aY (aR c) l).1.p).length<=60):
  ∀(i:Nat) (n:Node),(aY (aR c) (l++cA (cR c))).1.ns[i]? =some n->vT (aY (aR c) (l++cA (cR c))).1.p 3000 0 n/\n.bR.tasks=[]:=by
 have s4:cR c<=4:=by unfold cR;omega
 have okp:∀k,∀s∈l++cA k,eK s:=fun k s h=>(dN.1 h).elim (hs s) fun g=>(EG k s g).1;have okg:∀k j,∀s∈(l++cA k)++fE k j,eK s:=fun k j s h=>by
  rcases dN.1 h with g|g
  ·exact okp k s g
  ·rw[GU g];exact⟨⟨by simp[cU,cQ,bs],by simp[cU,cQ,bs]⟩,by simp[cU],by simp[cU]⟩
 have key:∀k,k<=cR c->∀(i:Nat) (n:Node),i<k->(aY (aR c) (l++cA k)).1.ns[i]? =some n->vT (aY (aR c) l).1.p 3000 0 n/\n.bR.tasks=[]:=by
  intro k;induction k with
  |zero=>intro _ i n hi;omega
  |succ k ih=>
   intro hk i n hi hn;have lk:(l++cA k).length<=2000:=by rw[dQ,IK];omega
   have e:l++cA (k+1)=((l++cA k)++fE k 400)++[iE k]:=by simp[cA]
   have pa:=EJ (fE k 400++[iE k]) (l++cA k) (aR c);rw[AE]at e;rw[e,pa]at hn;simp only at hn;by_cases hik:i=k
   ·subst hik;have lg:((l++cA i)++fE i 400).length<=2500:=by rw[dQ];simp only[fE,KK];omega
    have gd:=zgK c i (l:=l++cA i) (by omega) (okp i) 400 (cM _);have ok:=(mG _ (cN.new c) (okg i 400)).1;have an:=BH c i _ _ rfl (by omega) (okg i 400);have pi:=fun x hx=>EI c (i:=i) (n:=x) (l:=(l++cA i)++fE i 400) (by omega) (okg i 400) hx
    have ca:=fun x hx=>ziO c (i:=i) (n:=x) (l:=(l++cA i)++fE i 400) (by omega) (okg i 400) hx
    have ps:=(PT (cA i++fE i 400) (aY (aR c) l).1 (fun s h=>by
     rcases dN.1 h with g|g
     ·exact(EG i s g).2.1
     ·rw[GU g];exact .inl rfl))
    have pa2:=EJ (cA i++fE i 400) l (aR c);rw[<-AE]at pa2;have pa3:=EJ (fE i 400) (l++cA i) (aR c);have pa4:=EJ [iE i] (fE i 400) (aY (aR c) (l++cA i)).1;rw[pa4]at hn;have q3:=dH Prod.fst pa3;have q2:=dH Prod.fst pa2;simp only at q2 q3 hn;rw[<-q3]at hn;rw[<-q2]at ps;have hcl:∀x,(aY (aR c) (l++cA i++fE i 400)).1.ns[i]? =some x->∃y,(aY (aR c) (l++cA i)).1.ns[i]? =some y/\x.side.w=y.side.w:=by
     rw[q3];have:∀j (M:bL) (C:Int),cN M C->(∀n,M.ns[i]? =some n->dI n.side=true)->∀x,(aY M (fE i j)).1.ns[i]? =some x->∃y,M.ns[i]? =some y/\x.side.w=y.side.w:=by
      intro j;induction j with
      |zero=>intro M C _ _ x hx;exact⟨x,hx,rfl⟩
      |succ j ih=>
       intro M C hM hsx x hx;have hx:(aY (bH M (cU i)).1 (fE i j)).1.ns[i]? =some x:=hx;have okS:eK (cU i):=⟨⟨by simp[cU,cQ,bs],by simp[cU,cQ,bs]⟩,by simp[cU],by simp[cU]⟩;have step:∀n,(bH M (cU i)).1.ns[i]? =some n->∃y,M.ns[i]? =some y/\n.side.w=y.side.w/\dI n.side=true:=fun n hn=>by
        obtain⟨y,hy,_⟩:=HU M _ hn;have st:=DX (s:=cU i) hy rfl (by simp[cU]);have hn':(bH M (cU i)).1.ns[i]? =some (fC M.c.max M.p M.lost y (cU i)).1:=by
         rw[st];exact FI (cC.1 hy).1
        rw[hn']at hn;cases hn;have g:=uS.pick (hsx y hy) y.bR 0;exact⟨y,hy,g.w,g.IC⟩
       obtain⟨z,hz,ez⟩:=ih _ _ (hM.step okS) (fun n hn=>(step n hn).choose_spec.2.2) x hx;obtain⟨y,hy,ey,_⟩:=step z hz;exact⟨y,hy,ez.trans ey⟩
     exact this 400 _ _ (mG _ (cN.new c) (okp i)).1 (fun n hn=>(EI c (by omega) (okp i) hn).1.xs)
    generalize(aY (aR c) (l++cA i++fE i 400)).1=M at hn gd ok an pi ca ps hcl;have hn:(bH M (iE i)).1.ns[i]? =some n:=hn;obtain⟨x,hx,_⟩:=HU M _ hn;have st:=DX (s:=iE i) hx rfl (by simp[iE]);have hn':(bH M (iE i)).1.ns[i]? =some (fC M.c.max M.p M.lost x (iE i)).1:=by
     rw[st];exact FI (cC.1 hx).1
    rw[hn']at hn;cases hn;obtain⟨y,hy,ey⟩:=hcl x hx;have rm:=room i y hy (by omega);rw[<-ey]at rm;have t0:=(gd x hx).resolve_right (by omega);have p1:=pi x hx;have cx:=(ca x hx).mono (l:=3000) (by omega);have mc:M.c=c:=by rw[ps.2];exact(Ia l (aR c)).trans rfl
    have b25:(((l++cA i)++fE i 400).length:Int)+1<=(3000:Nat):=by omega
    have r:=zcd (c:=c) (p:=M.p) (K:=3000) ok.p cx hl hm p1.1 b25 (by omega) (ok.ok x (eH hx)) p1.2 t0 (an.2.2.2 x hx).pi (by rw[ps.1];exact rm) M.lost;rw[mc];show vT _ 3000 0 (gD c.max M.lost x).1/\(gD c.max M.lost x).1.bR.tasks=[];rw[r.2,<-ps.1];exact⟨r.1,t0⟩
   ·have po:=Hx (fE k 400++[iE k]) (aY (aR c) (l++cA k)).1 n (i:=i) (fun s h=>by
     rcases dN.1 h with g|g
     ·rw[GU g];exact⟨.inl rfl,fun e=>hik (by have:(k:Int)=i:=e;omega)⟩
     ·rw[fI.1 g];exact⟨.inr rfl,fun e=>hik (by have:(k:Int)=i:=e;omega)⟩) hn
    exact ih (by omega) i n (by omega) po
 intro i n hn;have ok:=mG _ (cN.new c) (okp (cR c));have hi:i<cR c:=by
  have h1:=(cC.1 hn).1;have h2:=ok.2;simp only[aR,KK]at h1 h2;omega
 have pe:(aY (aR c) (l++cA (cR c))).1.p=(aY (aR c) l).1.p:=by
  have q:=dH Prod.fst (EJ (cA (cR c)) l (aR c));simp only at q;rw[q];exact(PT _ _ (fun s h=>(EG _ s h).2.1)).1
 rw[pe];exact key _ (cM _) i n hi hn
def pP :bJ:=⟨6,0,0,0,[],[],cQ⟩
structure J5 (M N:bL):Prop where
 GI:xC M N
 node:∀(i:Nat) (n:Node),N.ns[i]? =some n->n.up.q=[]/\n.dn.q=[]/\n.side.w.c.l=dR M.p/\pF n.bA M.p=true/\fJ n.bA=[]/\dI n.side=true/\n.side.p.aX.length<=1/\n.bR.tasks=[]
theorem Gj {M:bL}(hp:fN M.p=true){K:Nat}(hK:K<=1000000)(h:∀(i:Nat) (n:Node),M.ns[i]? =some n->vT M.p K 0 n/\n.bR.tasks=[]){r:Nat}(hr:11<=r):J5 M (l5 M M.ns.length r):=by
 obtain⟨lk,a⟩:=V6 hp hK h r;refine⟨lk,fun i n hn=>?_⟩;obtain⟨b,c⟩:=a i n hn;obtain⟨q1,q2,q3,q4,q5,q6,q7⟩:=zcA hr b hp;exact⟨q1,q2,q3,q4,q5,q6,q7,c⟩
theorem Ek {M N:bL}(h:J5 M N)(hn:N.ns≠[]):bH N pP=(N,EM 0):=by
 have e:nG N.ns N.lost 0=(N.ns,N.lost,0):=Cm _ _ _ fun n hm=>by
  obtain⟨i,hi⟩:=vY.1 hm;exact(h.node i n hi).2.2.2.2.1
 unfold bH;rw[aH hn,aH (by simp[pP]),aH (by simp[pP]),aU (by simp[pP])];unfold oO;simp only[e]
theorem VP {M N:bL}(h:J5 M N)(hn:N.ns≠[]):FU N=true:=by
 unfold FU;simp only[bN,pN,uT,eF];refine⟨hn,fun n hm=>?_⟩;obtain⟨i,hi⟩:=vY.1 hm;obtain⟨q1,q2,q3,q4,q5,q6,q7,q8⟩:=h.node i n hi;rw[h.GI.p];exact⟨by simp[uH,q1,q2,q8],q4⟩
theorem VO {M N:bL}(h:J5 M N){i:Nat}{n:Node}(hn:N.ns[i]? =some n):lJ n.side=dO (dR M.p):=by
 obtain⟨q1,q2,q3,q4,q5,q6,q7,q8⟩:=h.node i n hn;have s:=VM q6;rw[s.1,s.2,q3]
theorem S7 {M:bL}{B:Int}(hM:cN M B)(i:Nat){w:Int}:∀k,cN (pL M i w k) (B+12*k)/\(pL M i w k).ns.length=M.ns.length
 |0=>⟨by simpa[pL]using hM,rfl⟩
 |k+1=>by
  obtain⟨a,b⟩:=S7 hM i k (w:=w);have okS:eK (iQ i w):=⟨⟨by simp[iQ,cQ,bs],by simp[iQ,cQ,bs]⟩,by simp[iQ],by simp[iQ]⟩;have st:=a.step okS;refine⟨?_,(uW a _).trans b⟩;have e:B+12*((k+1:Nat):Int)=B+12*(k:Int)+12:=by omega
  rw[e];exact st
theorem XW {M:bL}{B:Int}(h:cN M B){i:Nat}{n:Node}(hn:M.ns[i]? =some n)(w:Int):(dA n w).q.length<=32:=by
 have o:=h.ok n (eH hn);unfold dA;split
 ·exact o.up.len
 ·exact o.dn.len
theorem Z5 {M:bL}{B:Int}(h:cN M B){i:Nat}(hi:i<M.ns.length)(w:Int):cN (vQ M i w) (B+384)/\(vQ M i w).ns.length=M.ns.length:=by
 obtain⟨n,hn⟩:∃n,M.ns[i]? =some n:=⟨_,cI hi⟩;have hl:=XW h hn w;unfold vQ;rw[L4 hn];obtain⟨a,b⟩:=S7 h i (w:=w) (dA n w).q.length;exact⟨a.up (by omega),b⟩
theorem ziZ {M:bL}{B:Int}(h:cN M B){i:Nat}(hi:i<M.ns.length):cN (C3 M i) (B+768)/\(C3 M i).ns.length=M.ns.length:=by
 obtain⟨a,b⟩:=Z5 h hi 0;obtain⟨c,d⟩:=Z5 a (i:=i) (by rw[b];exact hi) 1;exact⟨c.up (by omega),d.trans b⟩
theorem S6 {M:bL}{B:Int}(h:cN M B):∀i,i<=M.ns.length->cN (iS M i) (B+768*i)/\(iS M i).ns.length=M.ns.length
 |0,_=>⟨by simpa[iS]using h,rfl⟩
 |i+1,hi=>by
  obtain⟨a,b⟩:=S6 h i (by omega);obtain⟨c,d⟩:=ziZ a (i:=i) (by rw[b];omega);exact⟨c.up (by omega),d.trans b⟩
theorem NA {M:bL}{B:Int}(h:cN M B):∀r:Nat,cN (l5 M M.ns.length r) (B+3072*r)/\(l5 M M.ns.length r).ns.length=M.ns.length
 |0=>⟨by simpa[l5]using h,rfl⟩
 |r+1=>by
  obtain⟨a,b⟩:=NA h r;obtain⟨c,d⟩:=S6 a M.ns.length (by rw[b];exact cM _);have n4:=h.n4;exact⟨c.up (by omega),d.trans b⟩
def o5 (M:bL)(i:Nat):Nat->bL
 |0=>M
 |w+1=>vQ (o5 M i w) i w
theorem Z4 {M:bL}{B:Int}(h:cN M B){i:Nat}(hi:i<M.ns.length):∀w:Nat,cN (o5 M i w) (B+384*w)/\(o5 M i w).ns.length=M.ns.length
 |0=>⟨by simpa[o5]using h,rfl⟩
 |w+1=>by
  obtain⟨a,b⟩:=Z4 h hi w;obtain⟨c,d⟩:=Z5 a (i:=i) (by rw[b];exact hi) w;exact⟨c.up (by omega),d.trans b⟩
theorem Jt (i:Nat)(w:Int):eK (iQ i w):=⟨⟨by simp[iQ,cQ,bs],by simp[iQ,cQ,bs]⟩,by simp[iQ],by simp[iQ]⟩
end Go.G
