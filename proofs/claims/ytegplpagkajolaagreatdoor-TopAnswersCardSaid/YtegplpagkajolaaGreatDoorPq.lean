/-
  LAYERS 10 to 12, 18 to 24: records, links, snapshots, requests, and a mesh, plainly.
-/
import Derived.Test.YtegplpagkajolaaGreatDoorPs
set_option linter.unusedSimpArgs false
set_option linter.unusedVariables false
set_option maxRecDepth 100000
set_option maxHeartbeats 8000000
namespace Go.G
open Go.AI
def pU :Nat->Nat->List UInt8
 |0,_=>[]
 |f+1,n=>if n<128 then [UInt8.ofNat n]else UInt8.ofNat (n%128+128)::pU f (n/128)
def sL (n:Int):Int:=max 0 (min n 2147483647)
def bW (n:Int):List UInt8:=pU 5 (sL n).toNat
def j8 (s:cH):List UInt8:=bW (bs s).length++bs s
def dU {α:Type}(l:List α)(lay:α->List UInt8):List UInt8:=bW l.length++l.flatMap lay
def pO (w:Weight):List UInt8:=j8 w.gI++bW w.w
def rC (r:gB):List UInt8:=j8 r.host++j8 r.pre++dU r.split pO
def qZ (r:aA):List UInt8:=
 if r.kind=0 then bW r.port++j8 r.to else if r.kind=1 then dU r.rules rC else if r.kind=2 then j8 r.to else dU r.cT bW
def lW (r:aA):List UInt8:=bW r.kind++j8 r.name++bW r.cS++qZ r
def jF (k:Key):List UInt8:=bW k.kind++j8 k.name
def pV (m:Mark):List UInt8:=jF m.k++bW m.cS
def sK (f:Frame):List UInt8:=
 if f.type=0 then dU f.bF pV
 else if f.type=1 then bW f.kind++bW f.cY++dU f.aD lW++dU f.gone jF
 else if f.type=2 then bW f.kind++bW f.cY++bW f.err++bW f.aL++dU f.held jF
 else bW f.aL++dU f.held jF
def rE (f:Frame):List UInt8:=bW f.type++bW f.aF++sK f
def yY (l:List UInt8):List UInt8:=bW l.length++l
def rV (f:Frame):List UInt8:=yY (rE f)
theorem Kk :∀(f n:Nat),(pU f n).length<=f
 |0,_=>cM _
 |f+1,n=>by
  unfold pU;split
  ·simp
  ·have:=Kk f (n/128);simp;omega
theorem gU (n:Int):(bW n).length<=5:=Kk _ _
theorem W8 (f n:Nat)(h:n<128):pU (f+1) n=[UInt8.ofNat n]:=by simp[pU,h]
theorem Kj (f n:Nat)(h:¬n<128):pU (f+1) n=UInt8.ofNat (n%128+128)::pU f (n/128):=by simp[pU,h]
theorem OL (n:Nat)(h:n<256):((UInt8.ofNat n).toNat:Int)=n:=by
 simp[UInt8.toNat_ofNat];omega
theorem wrap_u8 (n:Int):IntKind.wrap .u8 n=n%256:=rfl
theorem Lh (n:Nat)(h:n<2^64):(BitVec.ofInt 64 (n:Int)).toNat=n:=by
 rw[BitVec.ofInt_natCast,BitVec.toNat_ofNat,N4 h]
theorem Iz (a b:Nat)(ha:a<2^62)(hb:b<2^62):F7 .i64 (a:Int) (b:Int)=((a|||b:Nat):Int):=by
 have h1:a|||b<2^62:=Nat.or_lt_two_pow ha hb
 unfold F7;show IntKind.wrap .i64 ((BitVec.ofInt 64 (a:Int)|||BitVec.ofInt 64 (b:Int)).toNat:Int)=_;rw[BitVec.toNat_or,Lh _ (by omega),Lh _ (by omega)];exact wrap_i64 (by omega) (by omega)
theorem zdw (m:Nat)(h:m<256):m|||128=m%128+128:=by
 have:∀m:Fin 256,m.val|||128=m.val%128+128:=by decide+kernel
 exact this ⟨m,h⟩
theorem Kh (n:Nat)(h:n<=34359738368):IntKind.wrap .u8 (F7 .i64 (n:Int) 128)=((UInt8.ofNat (n%128+128)).toNat:Int):=by
 have e:=Iz n 128 (by omega) (by omega);rw[show((128:Nat):Int)=128 from rfl]at e;rw[e,OL _ (by omega),wrap_u8];have:(n|||128)%256=n%128+128:=by
  have h2:=Nat.or_mod_two_pow (a:=n) (b:=128) (n:=8);rw[show(2:Nat)^8=256 from rfl]at h2;rw[h2,show 128%256=128 from rfl,zdw _ (FH _ (by omega))];omega
 omega
theorem Ki (n:Nat)(h:n<128):IntKind.wrap .u8 (n:Int)=((UInt8.ofNat n).toNat:Int):=by
 rw[OL _ (by omega),wrap_u8];omega
theorem Kg (n:Nat):(n:Int).fdiv (2^7)=((n/128:Nat):Int):=by
 rw[show(2:Int)^7=128 from rfl,Int.fdiv_eq_ediv_of_nonneg _ (by omega)];omega
theorem Ml (n:Nat)(h:n<256):JZ .u8 (n:Int) 128=((n%128:Nat):Int):=by
 have:∀m:Fin 256,JZ .u8 (m.val:Int) 128=((m.val%128:Nat):Int):=by decide+kernel
 exact this ⟨n,h⟩
theorem zdy (i x y:Nat)(hx:x<2^i)(hs:x+2^i*y<2^62):F7 .i64 (x:Int) ((y:Int)*2^i)=((x+2^i*y:Nat):Int):=by
 have e:(y:Int)*2^i=((2^i*y:Nat):Int):=by push_cast;exact Int.mul_comm _ _
 rw[e,Iz _ _ (by omega) (by omega)];congr 1
 rw[Nat.or_comm,<-Nat.two_pow_add_eq_or_of_lt hx];omega
theorem zi9 (n:Int):(if 0<(if 2147483647<n then 2147483647 else n)then(if 2147483647<n then(2147483647:Int)else n)else 0)=sL n:=by
 unfold sL;omega
theorem S9 (n:Int):∃m:Nat,sL n=m/\m<=2147483647/\bW n=pU 5 m:=⟨(sL n).toNat,by unfold sL;omega,by unfold sL;omega,rfl⟩
theorem Ab {n:Int}(h0:0<=n)(h:n<=2147483647):sL n=n:=by unfold sL;omega
theorem Xx (s:cH):strCells s=(bs s).map bU:=by simp[strCells,S4,bs,bU]
structure zZ (m:Nat)(q:List UInt8)(n f:Nat):Prop where
 e:q++pU f n=pU 5 m
 f1:1<=f
 n1:n<128^f
 l:q.length+f=5
theorem zZ.start {m:Nat}(h:m<=2147483647):zZ m [] m 5:=⟨rfl,by omega,by omega,rfl⟩
theorem zZ.step {m n f:Nat}{q:List UInt8}(h:zZ m q n f)(h1:¬n<128):zZ m (q++[UInt8.ofNat (n%128+128)]) (n/128) (f-1):=by
 obtain⟨f,rfl⟩:∃g,f=g+1:=⟨f-1,by have:=h.f1;omega⟩;have e:=h.e;have l:=h.l;have n1:=h.n1;have f2:1<=f:=by
  rcases rO f with e|e
  ·subst e;omega
  ·exact e
 rw[Kj _ _ h1]at e;refine⟨by simpa using e,by simpa using f2,?_,by simp;omega⟩;simp only[Nat.add_sub_cancel];rw[Nat.pow_succ]at n1;exact N5 (by rw[vW];exact n1)
theorem zZ.last {m n f:Nat}{q:List UInt8}(h:zZ m q n f)(h1:n<128):q++[UInt8.ofNat n]=pU 5 m:=by
 obtain⟨f,rfl⟩:∃g,f=g+1:=⟨f-1,by have:=h.f1;omega⟩;have e:=h.e
 rwa[W8 _ _ h1]at e
theorem zZ.small {m n f:Nat}{q:List UInt8}(h:zZ m q n f):n<=34359738368:=by
 have h1:=h.n1;have h2:=h.l;have:128^f<=128^5:=Nat.pow_le_pow_right (by omega) (by omega);omega
theorem zhc (a b:Nat)(h:a<=5):∃M:Nat,(if 5<(a:Int)+b then(5:Int)else a+b)=M/\a<=M/\M<=5/\min M (a+b)=M:=by
 refine⟨min 5 (a+b),?_,?_,?_,?_⟩
 ·split<;>omega
 all_goals omega
structure zW (m:Nat)(q:List UInt8)(k n0 r:Nat):Prop where
 e:q.drop k=pU (5-k) r
 k4:k<=4
 m:m=n0+2^(7*k)*r
 n0:n0<2^(7*k)
 pos:0<k->0<r
 r:r<128^(5-k)
theorem zW.start {m:Nat}(h:m<=2147483647):zW m (pU 5 m) 0 0 m:=⟨rfl,by omega,by simp,by simp,by omega,by show m<128^5;omega⟩
theorem zW.small {m k n0 r:Nat}{q:List UInt8}(h:zW m q k n0 r)(hm:m<=2147483647):n0<=2147483647:=by have:=h.m;omega
theorem zW.last {m k n0 r:Nat}{q:List UInt8}(h:zW m q k n0 r)(hr:r<128):q[k]? =some (UInt8.ofNat r)/\q.length=k+1:=by
 have e:=h.e;have hk:=h.k4;obtain⟨f,hf⟩:∃f,5-k=f+1:=⟨4-k,by omega⟩;rw[hf,W8 _ _ hr]at e;have e1:(q.drop k)[0]? =q[k]? :=by simp
 have e2:=dH List.length e;simp at e2;rw[e]at e1;exact⟨by simpa using e1.symm,by omega⟩
theorem zW.more {m k n0 r:Nat}{q:List UInt8}(h:zW m q k n0 r)(hr:¬r<128):
  q[k]? =some (UInt8.ofNat (r%128+128))/\k+1<q.length/\zW m q (k+1) (n0+2^(7*k)*(r%128)) (r/128):=by
 have e:=h.e;have hk:=h.k4;obtain⟨f,hf⟩:∃f,5-k=f+1:=⟨4-k,by omega⟩;have hr2:=h.r;rw[hf]at hr2;have f0:1<=f:=by
  rcases rO f with e|e
  ·subst e;omega
  ·exact e
 have e1:(q.drop k)[0]? =q[k]? :=by simp
 rw[hf,Kj _ _ hr]at e;have e3:q.drop (k+1)=pU f (r/128):=by
  have:=dH (List.drop 1) e;rw[AD]at this;simpa using this
 have hl:0<(pU f (r/128)).length:=by
  obtain⟨g,rfl⟩:∃g,f=g+1:=⟨f-1,by omega⟩;unfold pU;split<;>simp
 have e2:=dH List.length e3;simp at e2;rw[e]at e1;have p:2^(7*(k+1))=2^(7*k)*128:=by rw[show 7*(k+1)=7*k+7 by omega,Nat.pow_add]
 refine⟨by simpa using e1.symm,by omega,⟨by rw[e3,show 5-(k+1)=f by omega],by omega,?_,?_,fun _=>by omega,?_⟩⟩
 ·rw[h.m,p,Nat.mul_assoc,KF,<-Nat.mul_add];congr 2;omega
 ·rw[p];have:=h.n0;have h2:r%128<128:=FH _ (by omega);have h3:2^(7*k)*(r%128)<=2^(7*k)*127:=Nat.mul_le_mul_left _ (by omega);omega
 ·rw[show 5-(k+1)=f by omega];rw[Nat.pow_succ]at hr2;exact N5 (by rw[vW];exact hr2)
theorem Iq {k n0 c:Nat}(hk:k<=4)(h0:n0<2^(7*k))(hc:c<128):
  IntKind.wrap .i64 ((c:Int)*2^(7*k))=(c:Int)*2^(7*k)/\F7 .i64 (n0:Int) ((c:Int)*2^(7*k))=((n0+2^(7*k)*c:Nat):Int):=by
 have h1:2^(7*k)<=2^28:=Nat.pow_le_pow_right (by omega) (by omega);have h2:2^(7*k)*c<=2^28*127:=Nat.mul_le_mul h1 (by omega);refine⟨?_,zdy _ _ _ h0 (by omega)⟩;have e:(c:Int)*2^(7*k)=((2^(7*k)*c:Nat):Int):=by push_cast;exact Int.mul_comm _ _
 rw[e];exact wrap_i64 (by omega) (by omega)
theorem Qt (x t:List UInt8):List.drop x.length (List.take ((x.length:Int)+t.length).toNat (List.map bU x++List.map bU t))=List.map bU t:=by
 rw[show((x.length:Int)+t.length).toNat=x.length+t.length by omega,T7 (by simp),List.drop_append_of_le_length (by simp)];simp
theorem Vo (s:cH):(⟨(B6 ((bs s).map bU)).toArray⟩:cH)=s:=by
 have e:B6 ((bs s).map bU)=bs s:=by simp[B6,Function.comp_def]
 rw[e];exact JR rfl
theorem A2 {α:Type}{lay:α->List UInt8}{m:Nat}:∀(l:List α),(∀y∈l,(lay y).length<=m)->(l.flatMap lay).length<=l.length*m
 |[],_=>by simp
 |x::l,h=>by
  have h1:=h x (by simp);have h2:=A2 l fun y hy=>h y (by simp[hy])
  simp only[UD,dQ,kE,kM];omega
theorem JL {α:Type}{lay:α->List UInt8}{m:Nat}(l:List α)(k:Nat)(h:∀y∈l,(lay y).length<=m):((l.take k).flatMap lay).length<=l.length*m:=
 fV (A2 _ fun y hy=>h y (rP hy)) (pB _ (by simp;omega))
theorem vO {α:Type}{lay:α->List UInt8}{m:Nat}{l:List α}(h:∀y∈l,(lay y).length<=m):(dU l lay).length<=5+l.length*m:=by
 have h1:=gU l.length;have h2:=A2 l h;simp only[dU,dQ];omega
theorem Xg {α:Type}(l:List α):l.take (if 64<(l.length:Int)then(64:Int)else l.length).toNat=l.take 64:=by
 split
 ·rfl
 ·rw[T7 (by omega),T7 (by omega)]
theorem Cw {α β:Type}(f:α->β)(l:List α):(l.map f).take (if 64<(l.length:Int)then(64:Int)else l.length).toNat=(l.map f).take 64:=by
 have:=Xg (l.map f)
 rwa[vZ]at this
theorem zeg (k:Key):iY k=(decide (0<=k.kind)&&decide (k.kind<4)&&kH k.name):=by
 simp only[iY,cG];congr 2
 exact N3.2 (by omega)
theorem kY {n m:Int}(h:n<=m)(h0:0<=m)(hm:m<=2147483647):n<=sL m:=by rw[Ab h0 hm];exact h
theorem JK {α:Type}{lay:α->List UInt8}{m:Nat}(l:List α)(k:Nat)(h:∀y∈l,(lay y).length<=m):((l.drop k).flatMap lay).length<=l.length*m:=
 fV (A2 _ fun y hy=>h y (BT hy)) (pB _ (by simp))
theorem QQ {s:cH}(h:kH s=true):(bs s).length<=12:=by
 simp only[kH,r8,bN,cP]at h;exact h.1.1.2
theorem Xv {s:cH}(h:bs s=[]):s=⟨#[]⟩:=JR h
structure TP (w:Weight):Prop where
 c:(bs w.gI).length<=12
 w0:0<=w.w
 w1:w.w<=100
structure TW (r:gB):Prop where
 host:(bs r.host).length<=40
 pre:(bs r.pre).length<=40
 split:r.split.length<=4
 each:∀w∈r.split,TP w
structure Am (r:aA):Prop where
 k0:0<=r.kind
 k3:r.kind<=3
 name:(bs r.name).length<=12
 v0:0<=r.cS
 v1:r.cS<=2147483647
 p0:0<=r.port
 p1:r.port<=65535
 to:(bs r.to).length<=12
 rules:r.rules.length<=8
 D8:∀x∈r.rules,TW x
 cT:r.cT.length<=8
 host:∀h∈r.cT,0<=h/\h<=2147483647
 XD:r.kind≠0->r.port=0
 Kt:r.kind≠0->r.kind≠2->r.to=⟨#[]⟩
 lY:r.kind≠1->r.rules=[]
 XE:r.kind≠3->r.cT=[]
theorem EB {r:aA}(h:eL r=0):Am r:=by
 obtain⟨h1,h2,h3,h4,h5,-⟩:=zA h;obtain⟨k0,k3⟩:=mF.1 h1;simp only[pE,bN,cP,eF,xQ]at h3;obtain⟨⟨⟨⟨⟨s1,s2⟩,s3⟩,s4⟩,s5⟩,s6⟩:=h3;simp only[y8,bN,rT,cP,IZ,tH,ET,I1]at h4;obtain⟨⟨⟨p1,p2⟩,p3⟩,p4⟩:=h4;simp only[wN,bN,rT,pN,tH,eF,CE]at h5;obtain⟨n1,n2⟩:=h5;have v:=mF.1 s1;have p:=mF.1 s2;refine⟨k0,k3,QQ h2,v.1,v.2,p.1,p.2,?_,s3,fun x hx=>?_,s4,fun y hy=>mF.1 (s5 y hy),fun hk=>?_,fun ha hb=>?_,fun hk=>?_,fun hk=>?_⟩
 ·rcases p2 with q|q
  ·rw[q];simp
  ·rcases n1 with g|g
   ·simp at g;omega
   ·exact QQ g
 ·obtain⟨⟨a1,a2⟩,a3⟩:=n2 x hx;obtain⟨b1,b2⟩:=s6 x hx;simp only[zM,bN,cP]at a1;simp only[xY,bN,cP]at a2;refine⟨a1.1,a2.1.1.2,b1,fun w hw=>?_⟩;have:=mF.1 (b2 w hw);exact⟨QQ (a3 w hw),this.1,this.2⟩
 ·rcases p1 with q|q<;>omega
 ·rcases p2 with q|q
  ·exact Xv q
  ·rcases q with q|q<;>omega
 ·rcases p3 with q|q
  ·exact jL q
  ·omega
 ·rcases p4 with q|q
  ·exact jL q
  ·omega
theorem tY {s:cH}{n:Nat}(h:(bs s).length<=n):(j8 s).length<=5+n:=by
 have:=gU (bs s).length;simp only[j8,dQ];omega
theorem OG {w:Weight}(h:TP w):(pO w).length<=22:=by
 have h1:=tY h.c;have h2:=gU w.w;simp only[pO,dQ];omega
theorem V5 {r:gB}(h:TW r):(rC r).length<=183:=by
 have h1:=tY h.host;have h2:=tY h.pre;have h3:=vO (l:=r.split) (lay:=pO) (m:=22) fun w hw=>OG (h.each w hw);have h4:=h.split;simp only[rC,dQ];omega
theorem Dc {r:aA}(h:Am r):(qZ r).length<=1469:=by
 have h1:=tY h.to;have h2:=gU r.port;have h3:=vO (l:=r.rules) (lay:=rC) (m:=183) fun w hw=>V5 (h.D8 w hw);have h4:=h.rules;have h5:=vO (l:=r.cT) (lay:=bW) (m:=5) fun w _=>gU w;have h6:=h.cT;unfold qZ
 repeat' split
 all_goals(try simp only[dQ]);omega
theorem LV {r:aA}(h:Am r):(lW r).length<=1496:=by
 have h1:=Dc h;have h2:=gU r.kind;have h3:=tY h.name;have h4:=gU r.cS;simp only[lW,dQ];omega
theorem RP {k:Key}(h:iY k=true):0<=k.kind/\k.kind<=3/\(bs k.name).length<=12:=by
 simp only[iY,bN]at h;have:=mF.1 h.1;exact⟨this.1,this.2,QQ h.2⟩
theorem CT {k:Key}(h:iY k=true):(jF k).length<=22:=by
 have h1:=gU k.kind;have h2:=tY (RP h).2.2;simp only[jF,dQ];omega
theorem Q1 {m:Mark}(h:iY m.k=true):(pV m).length<=27:=by
 have h1:=CT h;have h2:=gU m.cS;simp only[pV,dQ];omega
theorem PN {f:Frame}(h:Ao f):(rE f).length<=99000:=by
 obtain⟨a1,a2,a3,a4,-⟩:=xR h.small;have hn:=h.named;simp only[mV,bN,eF]at hn;have b1:=vO (l:=f.aD) (lay:=lW) (m:=1496) fun r hr=>LV (EB (h.aD r hr));have b2:=vO (l:=f.gone) (lay:=jF) (m:=22) fun r hr=>CT (hn.1.1 r hr);have b3:=vO (l:=f.held) (lay:=jF) (m:=22) fun r hr=>CT (hn.1.2 r hr);have b4:=vO (l:=f.bF) (lay:=pV) (m:=27) fun r hr=>Q1 (hn.2 r hr);have c1:=gU f.type;have c2:=gU f.aF;have c3:=gU f.kind;have c4:=gU f.cY;have c5:=gU f.err;have c6:=gU f.aL;unfold rE sK;simp only[dQ]
 repeat' split
 all_goals(try simp only[dQ]);omega
theorem zer {n:Int}(h0:0<=n)(h:n<128):bW n=[UInt8.ofNat n.toNat]:=by
 obtain⟨m,e0,e1,e2⟩:=S9 n;rw[Ab h0 (by omega)]at e0;subst e0;rw[e2,W8 _ _ (by omega)];rfl
structure zkX (f:Frame):Prop where
 ty:f.type=0\/f.type=1\/f.type=2\/f.type=3
 k0:0<=f.kind
 k3:f.kind<=3
 e0:0<=f.aF
 e1:f.aF<=2147483647
 n0:0<=f.cY
 n1:f.cY<=2147483647
 t0:0<=f.aL
 t1:f.aL<=2147483647
 r0:0<=f.err
 r1:f.err<=15
 la:f.aD.length<=64
 lg:f.gone.length<=64
 lh:f.bF.length<=64
 ld:f.held.length<=64
 gone:∀k∈f.gone,iY k=true
 held:∀k∈f.held,iY k=true
 bF:∀m∈f.bF,iY m.k=true/\0<=m.cS/\m.cS<=2147483647
 aD:∀r∈f.aD,eL r=0
 s0:f.type=0->f.kind=0/\f.cY=0/\f.aL=0/\f.aD=[]/\f.gone=[]/\f.err=0/\f.held=[]
 s1:f.type=1->f.aL=0/\f.err=0/\f.bF=[]/\f.held=[]
 s2:f.type=2->f.aD=[]/\f.gone=[]/\f.bF=[]
 s3:f.type=3->f.kind=0/\f.cY=0/\f.aD=[]/\f.gone=[]/\f.err=0/\f.bF=[]
theorem Ps {f:Frame}(h:Ao f):zkX f:=by
 obtain⟨a1,a2,a3,a4,a5,a6,a7,a8,a9⟩:=xR h.small;have hn:=h.named;simp only[mV,bN,eF]at hn;have hk:=mF.1 h.kind;have b6:=mF.1 a6;have b7:=mF.1 a7;have b8:=mF.1 a8;have b9:=mF.1 a9;have hs:=xD h.shaped;obtain⟨ty,ep,k,n,t,ad,go,er,hv,hd⟩:=f;refine⟨PB h.type,hk.1,hk.2,b6.1,b6.2,b7.1,b7.2,b8.1,b8.2,b9.1,b9.2,a1,a2,a3,a4,hn.1.1,hn.1.2,fun m hm=>⟨hn.2 m hm,mF.1 (a5 m hm)⟩,h.aD,?_,?_,?_,?_⟩;all_goals
  intro h0;simp only at h0;subst h0;simp[tP,fQ]at hs;simp[hs]
structure gL where
 aF:Int
 q:List (List UInt8)
@[simp] def FL (b:List UInt8):List D:=[lD (b.map bU)]
@[simp] theorem lenAll_tx (l:List (List UInt8)):jV (l.map FL) 1=True:=vG (f:=FL) (n:=1) (fun _=>rfl) l
@[simp] def rD (l:gL):List D:=[iD l.aF,lD (l.q.map FL)]
def zB (l:gL):Bool:=cG l.aF 2147483647&&decide (l.q.length<=32)
def kT (l:gL):gL:=if zB l then l else⟨0,[]⟩
def LQ (l:gL)(b:List UInt8):gL×Int:=if 32<=l.q.length then(l,8)else(⟨l.aF,l.q++[b]⟩,0)
def CB (l:gL)(b:List UInt8):gL×Int:=LQ (kT l) b
def pR (l:gL)(i:Int):Nat:=((max 0 i).tmod l.q.length).toNat
def HS (l:gL)(i:Int):gL×List UInt8×Int:=if l.q=[]then(l,[],10)else(⟨l.aF,l.q.take (pR l i)++l.q.drop (pR l i+1)⟩,l.q.getD (pR l i) [],0)
def y4 (l:gL)(i:Int):gL×List UInt8×Int:=HS (kT l) i
def M1 (l:gL)(i:Int):gL×Int:=((y4 l i).1,(y4 l i).2.2)
def NL (l:gL)(i:Int):gL×Int:=if(kT l).q=[]then(kT l,10)else CB (kT l) ((kT l).q.getD (pR (kT l) i) [])
def MN (l:gL)(i:Int):gL×Int:=if(kT l).q=[]then(kT l,10)else CB (y4 l i).1 (y4 l i).2.1
def PD (l:gL):gL×Int:=if(kT l).aF=2147483647 then(kT l,14)else(⟨(kT l).aF+1,[]⟩,0)
structure vU (l:gL):Prop where
 len:l.q.length<=1000000
 q:∀b∈l.q,b≠[]/\b.length<=200000
theorem vU.sound {l:gL}(h:vU l):vU (kT l):=by
 unfold kT;split
 ·exact h
 ·exact⟨by simp,by simp⟩
theorem VH (l:gL):(kT l).q.length<=32:=by
 unfold kT;split
 ·rename_i h;simp only[zB,bN,cP]at h;exact h.2
 ·simp
theorem Zv (l:gL):0<=(kT l).aF/\(kT l).aF<=2147483647:=by
 unfold kT;split
 ·rename_i h;simp only[zB,bN]at h;exact mF.1 h.1
 ·simp
theorem zbu {l:gL}:zB l=true↔(0<=l.aF/\l.aF<=2147483647)/\l.q.length<=32:=by simp[zB,mF]
theorem PW {l:gL}(i:Int)(h:l.q≠[]):pR l i<l.q.length:=by
 have h1:0<l.q.length:=xI.2 h;unfold pR;have:=N9 (max 0 i) (b:=(l.q.length:Int)) (by omega);have h3:=KX (a:=max 0 i) (l.q.length:Int) (by omega);omega
theorem zdd {l:gL}(i:Int)(h:l.q≠[]):(max 0 i).tmod (l.q.length:Int)=(pR l i:Int):=by
 have h1:0<l.q.length:=xI.2 h;unfold pR;have h3:=KX (a:=max 0 i) (l.q.length:Int) (by omega);omega
theorem zbv (l:gL):zB l=(decide (0<=l.aF)&&decide (l.aF<=2147483647)&&decide ((l.q.length:Int)<=32)):=by
 simp only[zB,cG];congr 1
 exact N3.2 (by omega)
theorem zbt {l:gL}(h:zB l=false):kT l=⟨0,[]⟩:=by simp[kT,h]
theorem Fs {l:gL}(h:zB l=true):kT l=l:=by simp[kT,h]
theorem VV {l:gL}{b:List UInt8}(h:32<=l.q.length):LQ l b=(l,8):=aU h
theorem O5 {l:gL}{b:List UInt8}(h:¬32<=l.q.length):LQ l b=(⟨l.aF,l.q++[b]⟩,0):=aH h
theorem zdc {l:gL}(i:Int)(h:l.q≠[]):(if 0<i then i else 0).tmod (l.q.length:Int)=(pR l i:Int):=by
 rw[show(if 0<i then i else 0)=max 0 i by omega];exact zdd i h
theorem Cz {e i:Int}:HS ⟨e,[]⟩ i=(⟨e,[]⟩,[],10):=aU rfl
theorem Cy {l:gL}{i:Int}(h:l.q≠[]):HS l i=(⟨l.aF,l.q.take (pR l i)++l.q.drop (pR l i+1)⟩,l.q.getD (pR l i) [],0):=aH h
theorem vU.getD {l:gL}(h:vU l){k:Nat}(hk:k<l.q.length):l.q.getD k []≠[]/\(l.q.getD k []).length<=200000:=by
 have:l.q.getD k []=l.q[k]:=by simp[hk]
 rw[this];exact h.q _ (lU hk)
theorem vU.take {l:gL}(h:vU l)(i:Int):vU (HS l i).1:=by
 unfold HS;split
 ·exact h
 ·refine⟨?_,fun b hb=>?_⟩
  ·have:=h.len;simp;omega
  ·rcases dN.1 hb with g|g
   ·exact h.q b (rP g)
   ·exact h.q b (BT g)
def tD (s p:cH):Bool:=decide ((bs p).length<=(bs s).length)&&decide ((bs s).take (bs p).length=bs p)
def H0 (s p:cH):Bool:=decide ((bs p).length<=(bs s).length)&&decide ((bs s).drop ((bs s).length-(bs p).length)=bs p)
def yO (s p:cH):cH:=if tD s p then s.extract (bs p).length (bs s).length else s
def AY (p h:cH):Bool:=
 if(!zM p|| !zM h||tD h ⟨#[42]⟩)=true then false else if(decide (p=⟨#[42]⟩)||decide (p=h))=true then true
 else tD p ⟨#[42]⟩&&decide ((bs (yO p ⟨#[42]⟩)).length<(bs h).length)&&H0 h (yO p ⟨#[42]⟩)
def B5 (p s:cH):Bool:=
 if(!tD s p|| !xY p|| !xY s)=true then false else decide (yO s p=⟨#[]⟩)||H0 p ⟨#[47]⟩||tD (yO s p) ⟨#[47]⟩
def HO (s:cH):Int:=if s=⟨#[42]⟩then 0 else if tD s ⟨#[42,46]⟩=true then(bs s).length else 9223372036854775807
def Rp (a b:Int):Int:=if a<b then-1 else if b<a then 1 else 0
def IT (a b:cH):Int:=Rp (HO a) (HO b)
def TC (a b:gB):Bool:=if 0<IT a.host b.host then true else if IT a.host b.host<0 then false else decide ((bs b.pre).length<(bs a.pre).length)
def rU :gB:=⟨⟨#[]⟩,⟨#[]⟩,[]⟩
def o6 (may:gB->Bool)(z:gB×Bool)(x:gB):gB×Bool:=if may x&&(!z.2||TC x z.1)then(x,true)else z
def nQ (l:List gB)(host path:cH):gB×Bool:=l.foldl (o6 fun r=>AY r.host host&&B5 r.pre path) (rU,false)
def kO (w:Weight):Int:=max 0 (min w.w 100)
def oN (l:List Weight):Int:=l.foldl (fun n w=>n+kO w) 0
def A8 :List Weight->Int->cH×Bool
 |[],_=>(⟨#[]⟩,false)
 |w::l,left=>if left-kO w<0 then(w.gI,true)else A8 l (left-kO w)
def tN (l:List Weight)(draw:Int):cH×Bool:=if oN l=0 then(⟨#[]⟩,false)else A8 l ((max 0 draw).tmod (oN l))
def tK (l:List Int)(draw:Int):Int×Bool:=if l=[]then(0,false)else(l.getD ((max 0 draw).tmod l.length).toNat 0,true)
def wP (l:List aA)(port:Int):Option aA:=l.find? fun r=>decide (r.kind=0)&&decide (r.port=port)
theorem zho (s:cH)(n:Nat):bs (s.extract n (bs s).length)=(bs s).drop n:=by rw[JS,fA]
theorem zi8 (n:Int):(if 0<(if 100<n then 100 else n)then(if 100<n then(100:Int)else n)else 0)=max 0 (min n 100):=by omega
theorem UU (l:List Weight):0<=oN l/\oN l<=100*l.length:=by
 have:∀(l:List Weight) (n:Int),0<=n->n<=l.foldl (fun n w=>n+kO w) n/\l.foldl (fun n w=>n+kO w) n<=n+100*l.length:=by
  intro l;induction l with
  |nil=>intro n h;simp
  |cons w l ih=>
   intro n h;have hw:0<=kO w/\kO w<=100:=by unfold kO;omega
   have:=ih (n+kO w) (by omega);simp only[rR,kE];omega
 have:=this l 0 (by omega);unfold oN;omega
@[simp] theorem zRule_h :rU.host=⟨#[]⟩:=rfl
@[simp] theorem zRule_p :rU.pre=⟨#[]⟩:=rfl
@[simp] theorem zRule_s :rU.split=[]:=rfl
theorem UQ (w:Weight):0<=kO w/\kO w<=100:=by unfold kO;omega
structure KC (l:List Weight)(n0:Int)(k:Nat)(left:Int):Prop where
 e:A8 l n0=A8 (l.drop k) left
 l0:0<=left
 l1:left<=n0
theorem zgp {l:List Int}(i:Int)(h:l≠[]):∃k:Nat,(if 0<i then i else 0).tmod (l.length:Int)=(k:Int)/\k<l.length/\tK l i=(l.getD k 0,true):=by
 have h1:0<l.length:=xI.2 h;rw[show(if 0<i then i else 0)=max 0 i by omega];have h2:=N9 (max 0 i) (b:=(l.length:Int)) (by omega);have h3:=KX (a:=max 0 i) (l.length:Int) (by omega);refine⟨((max 0 i).tmod l.length).toNat,by omega,by omega,?_⟩;unfold tK;rw[aH h]
theorem Ch :oN []=0:=rfl
theorem Vw (l:List Weight)(w:Weight):oN (l++[w])=oN l+kO w:=by simp[oN]
theorem KC.step {l:List Weight}{n0 left:Int}{k:Nat}{w:Weight}(h:KC l n0 k left)(hd:l.drop k=w::l.drop (k+1)):
  (left-kO w<0->A8 l n0=(w.gI,true))/\(¬left-kO w<0->KC l n0 (k+1) (left-kO w)):=by
 have e:=h.e;have hb:=UQ w;have l1:=h.l1;rw[hd]at e;refine⟨fun h1=>?_,fun h1=>⟨?_,by omega,by omega⟩⟩
 ·rw[e];simp[A8,h1]
 ·rw[e];simp[A8,h1]
theorem KC.last {l:List Weight}{n0 left:Int}(h:KC l n0 l.length left):A8 l n0=(⟨#[]⟩,false):=by
 have:=h.e;rw[List.drop_length]at this;exact this
def sC (l:List eG)(id:Int):Nat->Int
 |0=> -1
 |k+1=>match l[k]? with
  |some s=>if s.id=id then k else sC l id k
  |none=>sC l id k
def lM (p:dJ)(id:Int):Int:=sC p.aX id p.aX.length
def zF (p:dJ):dJ×Int×Int:=match p.aX.getLast? with
 |none=>(p,0,10)
 |some s=>if s.pins=10000 then(p,0,14)else(⟨p.next,p.aX.dropLast++[{s with pins:=s.pins+1}]⟩,s.id,0)
def qJ (p:dJ):dJ×Int×Int:=zF (gQ p)
def s9 (p:dJ)(id:Int):dJ×Int:=
 if lM p id<0 then(p,10)else
  match p.aX[(lM p id).toNat]? with
  |none=>(p,10)
  |some s=>if s.pins=0 then(p,15)else
   if¬lM p id=(p.aX.length:Int)-1/\s.pins-1=0 then(⟨p.next,p.aX.eraseIdx (lM p id).toNat⟩,0)
   else(⟨p.next,p.aX.set (lM p id).toNat {s with pins:=s.pins-1}⟩,0)
def oR (p:dJ)(id:Int):dJ×Int:=s9 (gQ p) id
def MU (p:dJ)(id:Int):Option (List aA):=if lM p id<0 then none else(p.aX[(lM p id).toNat]?).map eG.l
def sI (p:dJ)(id:Int):Option (List aA):=MU (gQ p) id
theorem WN (l:List eG)(id:Int):∀k,-1<=sC l id k/\sC l id k<k
 |0=>by simp[sC]
 |k+1=>by
  have:=WN l id k;unfold sC;cases l[k]? with
  |none=>simp only;omega
  |some s=>simp only;split<;>omega
theorem zdH {p:dJ}(h:oI p):oI (qJ p).1:=by
 unfold qJ;have h':=h.sound;generalize gQ p=q at*;unfold zF;split
 ·exact h'
 ·rename_i s hs;split
  ·exact h'
  ·have hl:q.aX≠[]:=by intro e;rw[e]at hs;simp at hs
   have hmem:s∈q.aX:=BU hs;refine⟨fun x hx=>?_,h'.next,?_⟩
   ·rcases dN.1 hx with g|g
    ·exact h'.aX x (List.dropLast_subset _ g)
    ·simp at g;subst g;exact h'.aX s hmem
   ·have:=h'.sl;have:=xI.2 hl;simp;omega
theorem W4 {p:dJ}(id:Int)(h:oI p):oI (oR p id).1:=by
 unfold oR;have h':=h.sound;generalize gQ p=q at*;unfold s9;split
 ·exact h'
 ·split
  ·exact h'
  ·rename_i s hs;have hmem:s∈q.aX:=eH hs;split
   ·exact h'
   ·split
    ·refine⟨fun x hx=>h'.aX x (DL hx),h'.next,?_⟩;have:=h'.sl;have:=List.length_eraseIdx_le q.aX (lM q id).toNat;simp only at*;omega
    ·refine⟨fun x hx=>?_,h'.next,by simpa using h'.sl⟩;rcases BR hx with g|g
     ·exact h'.aX x g
     ·subst g;exact h'.aX s hmem
theorem O6 {n:Int}:∀{l:List eG} {a:Int},gX n a l=true->∀s∈l,0<=s.pins
 |[],_,_,s,hs=>by cases hs
 |x::l,a,h,s,hs=>by
  simp only[gX,bN,cP]at h;rcases kN.1 hs with e|e
  ·subst e;have:=h.1.1.2;split at this<;>omega
  ·exact O6 h.2 s e
theorem Pd {α β:Type}(l:List α)(f:α->β)(c:β):(l.map f++[c])[l.length]? =some c:=by simp
theorem za8 {α β:Type}(l:List α)(f:α->β)(c d:β):(l.map f++[c]).set l.length d=l.map f++[d]:=by
 rw[List.set_append_right _ _ (by simp)];simp
theorem ZF {α β:Type}(f:α->β):∀(l:List α) (k:Nat),(l.map f).eraseIdx k=(l.eraseIdx k).map f
 |[],_=>by simp
 |_::_,0=>by simp
 |_::l,k+1=>by simp[ZF f l k]
def qR (s:bB):bB×Int×Int:=({fG s with p:=(qJ (fG s).p).1},(qJ (fG s).p).2.1,(qJ (fG s).p).2.2)
def yK (x:bB)(id:Int):bB×List Frame×Int:=
 let q:=oR x.p id
 let y:bB:={x with p:=q.1}
 if(decide (fH q.1=fH x.p)|| !y.up||qO y)=true then(y,[],q.2)else(n9 y,[⟨3,y.aF,0,0,y.aL+1,[],[],0,[],fH y.p⟩],q.2)
def kC (s:bB)(id:Int):bB×List Frame×Int:=yK (fG s) id
structure Ask where
 port:Int
 host:cH
 path:cH
 first:Int
 other:Int
 deriving DecidableEq
structure nC where
 nD:Int
 gI:cH
 host:Int
 deriving DecidableEq
structure kD where
 a:Ask
 cV:Int
 id:Int
 CF:cH
 gI:cH
 out:nC
 deriving DecidableEq
def iB :nC:=⟨0,⟨#[]⟩,0⟩
def cQ :Ask:=⟨0,⟨#[]⟩,⟨#[]⟩,0,0⟩
@[simp] def sM (a:Ask):List D:=[iD a.port,sD a.host,sD a.path,iD a.first,iD a.other]
@[simp] def TK (a:nC):List D:=[iD a.nD,sD a.gI,iD a.host]
@[simp] def AR (r:kD):List D:=[iD r.a.port,sD r.a.host,sD r.a.path,iD r.a.first,iD r.a.other,iD r.cV,iD r.id,sD r.CF,sD r.gI,iD r.out.nD,sD r.out.gI,iD r.out.host]
def oU (a:Ask):kD:=⟨a,0,0,⟨#[]⟩,⟨#[]⟩,iB⟩
def lL (r:kD):Bool:=!(decide (r.cV<0)||decide (5<r.cV)||decide (r.id<0))&&(decide (0<r.id)||decide (r.cV=0)||decide (r.cV=5))
def mS (r:kD):kD:=if lL r then r else oU r.a
def kU (r:kD):Bool:=!decide ((mS r).cV=5)
structure jK where
 r:kD
 s:bB
 told:List Frame
def lR (w:jK)(a:nC):jK:=
 if w.r.cV=0 then{w with r:={w.r with cV:=5,out:=a}}else⟨{w.r with cV:=5,out:=a},(kC w.s w.r.id).1,(kC w.s w.r.id).2.1⟩
def y6 (w:jK):List aA:=(sI w.s.p w.r.id).getD []
def wT (w:jK)(k:Int)(n:cH):Option aA:=aS (y6 w) ⟨k,n⟩
def vR (w:jK):jK:=
 if¬(qR w.s).2.2=0 then lR w ⟨0,⟨#[]⟩,0⟩else{w with s:=(qR w.s).1,r:={w.r with id:=(qR w.s).2.1,cV:=1}}
def x9 (w:jK):jK:=match wP (y6 w) w.r.a.port with
 |none=>lR w ⟨1,⟨#[]⟩,0⟩
 |some x=>{w with r:={w.r with CF:=x.to,cV:=2}}
def zC (w:jK):jK:=
 let x:=wT w 1 w.r.CF
 let u:=nQ (x.getD jE).rules w.r.a.host w.r.a.path
 if(!x.isSome|| !u.2)=true then lR w ⟨2,⟨#[]⟩,0⟩else
 let c:=tN u.1.split w.r.a.first
 if c.2=false then lR w ⟨0,⟨#[]⟩,0⟩else{w with r:={w.r with gI:=c.1,cV:=3}}
def zT (w:jK):jK:=
 let c:=wT w 2 w.r.gI
 let e:=wT w 3 (c.getD jE).to
 let h:=tK (e.getD jE).cT w.r.a.other
 if(!c.isSome|| !e.isSome|| !h.2)=true then lR w ⟨0,⟨#[]⟩,0⟩else{w with r:={w.r with out:=⟨3,w.r.gI,h.1⟩,cV:=4}}
def qE (w:jK):jK:=
 if w.r.cV=0 then vR w else if w.r.cV=1 then x9 w else if w.r.cV=2 then zC w else if w.r.cV=3 then zT w else if w.r.cV=4 then lR w w.r.out else w
def mQ (r:kD)(s:bB):jK:=qE ⟨mS r,fG s,[]⟩
structure Task where
 n:Int
 r:kD
 deriving DecidableEq
@[simp] def l8 (t:Task):List D:=iD t.n::AR t.r
structure jO where
 next:Int
 tasks:List Task
 done:List Task
@[simp] def EH (p:jO):List D:=[iD p.next,lD (p.tasks.map l8),lD (p.done.map l8)]
structure zY (p:jO):Prop where
 n0:0<=p.next
 n1:p.next<=100000
 lt:p.tasks.length<=64
 ld:p.done.length<=1000
 up:p.tasks.Pairwise (fun a b=>a.n<b.n)
 nd:(p.done.map Task.n).Nodup
 ap:∀t∈p.tasks,∀d∈p.done,t.n≠d.n
 rt:∀t∈p.tasks,1<=t.n/\t.n<=p.next
 rd:∀t∈p.done,1<=t.n/\t.n<=p.next
 run:∀t∈p.tasks,lL t.r=true/\kU t.r=true
 over:∀t∈p.done,kU t.r=false
def mR (p:jO)(a:Ask):jO×Int×Int:=
 if 64<=p.tasks.length\/p.next=100000 then(p,0,8)else(⟨p.next+1,p.tasks++[⟨p.next+1,oU a⟩],p.done⟩,p.next+1,0)
def x5 (l:List Task)(t:Task):List Task:=l.drop (l.length-999)++[t]
def oC (p:jO)(draw:Int):Nat:=((max 0 draw).tmod p.tasks.length).toNat
def eI (p:jO)(s:bB)(draw:Int):jO×bB×List Frame×Int:=
 match p.tasks[oC p draw]? with
 |none=>(p,s,[],10)
 |some t=>
  let w:=mQ t.r s
  if kU w.r then(⟨p.next,p.tasks.set (oC p draw) ⟨t.n,w.r⟩,p.done⟩,w.s,w.told,0)
  else(⟨p.next,p.tasks.eraseIdx (oC p draw),x5 p.done ⟨t.n,w.r⟩⟩,w.s,w.told,0)
theorem fT.UP {s:bB}(h:fT s){p:dJ}(hp:oI p):fT {s with p:=p}:=⟨h.c,h.cl,h.shown,hp.aX,hp.next,hp.sl⟩
theorem fT.begin {s:bB}(h:fT s):fT (qR s).1:=h.sound.UP (zdH h.sound.pins)
theorem fT.end {s:bB}(id:Int)(h:fT s):fT (kC s id).1:=by
 unfold kC;have h':=h.sound;generalize fG s=x at*;have h2:=h'.UP (W4 id h'.pins);unfold yK;dsimp only;split
 ·exact h2
 ·exact⟨h2.c,h2.cl,h2.shown,h2.aX,h2.next,h2.sl⟩
theorem fT.done {w:jK}(a:nC)(h:fT w.s):fT (lR w a).s:=by
 unfold lR;split
 ·exact h
 ·exact h.end _
theorem fT.qE {w:jK}(h:fT w.s):fT (qE w).s:=by
 unfold Go.G.qE vR x9 zC zT;dsimp only
 repeat' split
 all_goals first
  |exact h
  |exact h.done _
  |exact h.begin
theorem fT.HV {s:bB}(r:kD)(h:fT s):fT (mQ r s).s:=fT.qE (w:=⟨mS r,fG s,[]⟩) h.sound
def nK (p:dJ):Prop:=∀q∈p.aX,∀r∈q.l,eL r=0
structure DD (r:aA):Prop where
 rules:r.rules.length<=1000000
 each:∀x∈r.rules,(bs x.host).length<=1000000/\(bs x.pre).length<=1000000
 split:∀x∈r.rules,x.split.length<=1000000
 cT:r.cT.length<=1000000
theorem DD.zero :DD jE:=⟨by simp[jE],by simp[jE],by simp[jE],by simp[jE]⟩
theorem DD.of {r:aA}(h:eL r=0):DD r:=by
 have h:=EB h;exact⟨by have:=h.rules;omega,fun x hx=>by have:=h.D8 x hx;have:=this.host;have:=(h.D8 x hx).pre;omega,fun x hx=>by have:=(h.D8 x hx).split;omega,by have:=h.cT;omega⟩
theorem nK.sound {p:dJ}(h:nK p):nK (gQ p):=by
 unfold gQ;split
 ·exact h
 ·intro q hq;cases hq
theorem nK.get {p:dJ}(h:nK p)(id:Int):∀r∈(sI p id).getD [],eL r=0:=by
 have h':=h.sound;unfold sI MU;generalize gQ p=q at h'⊢;split
 ·intro r hr;cases hr
 ·cases e:q.aX[(lM q id).toNat]? with
  |none=>intro r hr;cases hr
  |some s=>exact h' s (eH e)
theorem Pn {p:dJ}(h:oI p)(id:Int):((sI p id).getD []).length<=64:=by
 have h':=h.sound.aX;unfold sI MU;generalize gQ p=q at h'⊢;split
 ·simp
 ·cases e:q.aX[(lM q id).toNat]? with
  |none=>simp
  |some s=>exact(h' s (eH e)).2
theorem MT {l:List aA}(h:∀r∈l,eL r=0)(k:Key):DD ((aS l k).getD jE):=by
 cases e:aS l k with
 |none=>exact .zero
 |some x=>exact .of (h x (gV e))
theorem zbX (l:List gB)(h s:cH):(nQ l h s).1=rU\/(nQ l h s).1∈l:=by
 unfold nQ;have:∀(m:List gB) (z:gB×Bool),(z.1=rU\/z.1∈l)->(∀x∈m,x∈l)->((m.foldl (o6 fun r=>AY r.host h&&B5 r.pre s) z).1=rU\/(m.foldl (o6 fun r=>AY r.host h&&B5 r.pre s) z).1∈l):=by
  intro m;induction m with
  |nil=>intro z hz _;exact hz
  |cons x m ih=>
   intro z hz hm;rw[rR];refine ih _ ?_ (fun y hy=>hm y (xG _ hy));unfold o6;split
   ·exact .inr (hm x xF)
   ·exact hz
 exact this l _ (.inl rfl) fun _ h=>h
theorem Gh {r:aA}(hr:DD r)(h s:cH):(nQ r.rules h s).1.split.length<=1000000:=by
 rcases zbX r.rules h s with e|e
 ·rw[e];simp
 ·exact hr.split _ e
@[simp] def Bg (w:jK):List D:=AR w.r++jQ w.s++[lD (w.told.map fY)]
theorem nK.fG {s:bB}(h:nK s.p):nK (Go.G.fG s).p:=by
 unfold Go.G.fG;split
 ·exact h
 ·intro q hq;simp[tG]at hq
theorem Dt (r:kD):(mS r).a=r.a:=by unfold mS oU;split<;>rfl
theorem zgY {S:List Int}{l:List Task}{k:Nat}{x:Task}(h:(S++l.map Task.n).Nodup)(hr:l[k]? =some x):x.n∉S++(l.take k).map Task.n:=by
 intro hm;obtain⟨hS,hl,hd⟩:=UB.1 h;have hxm:x.n∈l.map Task.n:=eR.2 ⟨x,eH hr,rfl⟩;rcases dN.1 hm with g|g
 ·exact hd _ g _ hxm rfl
 ·have hk:=(cC.1 hr).1;have e:l.map Task.n=(l.take k).map Task.n++x.n::(l.drop (k+1)).map Task.n:=by
   conv=>lhs;rw[<-List.take_append_drop k l,BV]
   rw[KV hk];have:l[k]=x:=by rw[cI hk]at hr;exact lT hr
   rw[this];rfl
  rw[e]at hl;exact(UB.1 hl).2.2 _ g _ xF rfl
theorem XA {l:List Task}(h:l.Pairwise fun a b=>a.n<b.n):(l.map Task.n).Nodup:=by
 rw[List.nodup_iff_pairwise_ne,List.pairwise_map];exact h.imp fun h=>by omega
theorem zey {p:jO}(h:zY p):(p.tasks.map Task.n++p.done.map Task.n).Nodup:=by
 rw[UB];refine⟨XA h.up,h.nd,?_⟩;intro a ha b hb e;obtain⟨t,ht,rfl⟩:=eR.1 ha;obtain⟨d,hd,rfl⟩:=eR.1 hb;exact h.ap t ht d hd e
@[simp] theorem lenAll_task (l:List Task):jV (l.map l8) 13=True:=vG (f:=l8) (n:=13) (fun _=>rfl) l
theorem WO (p:jO)(draw:Int)(h:0<p.tasks.length):(if 0<draw then draw else 0).tmod (p.tasks.length:Int)=(oC p draw:Nat)/\oC p draw<p.tasks.length:=by
 rw[show(if 0<draw then draw else 0)=max 0 draw by omega];have h2:=N9 (max 0 draw) (b:=(p.tasks.length:Int)) (by omega);have h3:=KX (a:=max 0 draw) (p.tasks.length:Int) (by omega);unfold oC;omega
theorem Mc :∀(L:List aA) (l:List aA) {r:aA},r∈L.foldl nN l->r∈L\/r∈l
 |[],l,r,h=>.inr h
 |x::L,l,r,h=>by
  rcases Mc L _ h with g|g
  ·exact .inl (xG _ g)
  ·rcases Lz g with g|g
   ·exact .inl (g▸xF)
   ·exact .inr g
theorem zgr {p:aT}(hp:fN p=true){l:List aA}(hl:l∈p.bV){r:aA}(hr:r∈l):eL r=0:=by
 obtain⟨i,hi⟩:=vY.1 hl;have hh:=((rB p).1 hp);have hc:0<=p.cap:=by rw[hh.1];exact(S0 _).1
 exact pD (hh.2.2.acc hc hi).rX hr
theorem zem {p:aT}(hp:fN p=true){m:Mark}(hm:iY m.k=true):zX (ofM p m):=by
 have hb:zX (C4 m):=by
  have h:=(RP hm).2.2;exact⟨by simp only[C4];omega,by simp[C4],by simp[C4],by simp[C4],by simp[C4]⟩
 unfold ofM wU;cases e:aS ((qS p m.cS).getD []) m.k with
 |none=>exact hb
 |some r=>
  simp only;split
  ·refine WZ ?_;have hr:=gV e;unfold qS at hr;rw[y9 hp]at hr;split at hr
   ·cases e2:p.bV[m.cS.toNat]? with
    |none=>rw[e2]at hr;cases hr
    |some l=>rw[e2]at hr;exact zgr hp (eH e2) hr
   ·cases hr
  ·exact hb
theorem R2 {s:cL}{p:aT}(f:Frame)(hs:gC s=true)(ho:xB s)(hp:fN p=true):xB (handle s p f).1:=by
 have S:=lV.1 (E0 p f hs);refine⟨⟨⟨by have:=S.hl;omega,?_⟩,by have:=S.dl;omega,zcL p f hs ho.v.push⟩⟩;clear S;unfold handle;rw[nP hs];unfold qN;split
 ·exact ho.v.bF.all
 rename_i he;have F:=nW.1 (rS.1 he);split
 ·exact ho.v.bF.all
 split
 ·unfold uI;split
  ·exact ho.v.bF.all
  ·intro r hr;rcases Mc _ _ hr with g|g
   ·obtain⟨m,hm,rfl⟩:=eR.1 g;refine zem hp ?_;have:=F.named;simp only[mV,bN,eF]at this;exact this.2 m hm
   ·cases g
 split
 ·exact ho.v.bF.all
 split
 ·unfold qU
  repeat' split
  all_goals first
   |exact ho.v.bF.all
   | (intro r hr
      rcases Ta hr with g|g
      ·exact ho.v.bF.all r g
      ·exact ho.v.push.aD.all r g.2)
 ·intro r hr;refine ho.v.bF.all r ?_;simp only[CY,eE]at hr;split at hr<;>exact hr
theorem PQ {s:cL}{p:aT}(hs:gC s=true)(ho:xB s)(hp:fN p=true):gC (dD s p).1=true/\xB (dD s p).1/\(∀f∈(dD s p).2.1,eX f=0/\f.type=1/\f.aF=s.aF)/\(dD s p).2.1.length<=1/\(dD s p).1.aF=s.aF:=by
 rcases WH hs p with⟨h1,h2⟩|⟨x,h1,h2,h3,h4,h5⟩
 ·rw[h1,h2];exact⟨hs,ho,by simp,by simp,rfl⟩
 ·have:=VS hs hp h1 h3 h4;rw[h5];have S:=lV.1 this.Ce;have l1:=S.hl;have l2:=S.dl;refine⟨this.Ce,⟨⟨⟨fV l1 (by omega),fun r hr=>ho.v.bF.all r (this.Vq.1▸hr)⟩,fV l2 (by omega),?_⟩⟩,?_,by simp,rfl⟩
  ·rw[this.Vt];exact F9 this.IC
  ·intro f hf;simp only[fI]at hf;subst hf;exact⟨this.IC,this.type,this.aF⟩
theorem nK.pub {p:dJ}(h:nK p){l:List aA}(hl:∀r∈l,eL r=0):nK (oS p l).1:=by
 have h':=h.sound;unfold oS;generalize gQ p=q at h'⊢;unfold u5;split
 ·exact h'
 split
 ·exact h'
 ·intro x hx;rcases dN.1 hx with g|g
  ·exact h' x (jD.1 g).1
  ·simp only[fI]at g;subst g;exact hl
theorem nK.xX {p:dJ}(h:nK p):nK (qJ p).1:=by
 have h':=h.sound;unfold qJ;generalize gQ p=q at h'⊢;unfold zF;split
 ·exact h'
 ·rename_i s hs;split
  ·exact h'
  ·intro x hx;rcases dN.1 hx with g|g
   ·exact h' x (List.dropLast_subset _ g)
   ·simp only[fI]at g;subst g;exact h' s (BU hs)
theorem nK.rel {p:dJ}(id:Int)(h:nK p):nK (oR p id).1:=by
 have h':=h.sound;unfold oR;generalize gQ p=q at h'⊢;unfold s9;split
 ·exact h'
 split
 ·exact h'
 rename_i s hs;have hmem:s∈q.aX:=eH hs;split
 ·exact h'
 split
 ·intro x hx;exact h' x (DL hx)
 ·intro x hx;rcases BR hx with g|g
  ·exact h' x g
  ·subst g;exact h' s hmem
theorem Yd (w:mO)(a:List aA)(g:List Key):∀r∈(iO w a g).1.shown,eL r=0:=by
 obtain⟨h1,h2,_⟩:=uZ.1 (U8 w a g);rw[h2];intro r hr;exact pD (u0.1 h1).2.1 (jD.1 hr).1
theorem Yc {s:bB}(h:nK s.p)(f:Frame):nK (jP s f).1.p:=by
 unfold jP;dsimp only
 repeat' split
 all_goals first
  |exact h
  |exact h.pub (Yd _ _ _)
structure oJ (s:bB):Prop where
 x:fT s
 n:nK s.p
theorem oJ.new (l m:Int):oJ (tG l m):=⟨.new l m,by intro q hq;simp[tG]at hq⟩
theorem oJ.sound {s:bB}(h:oJ s):oJ (fG s):=⟨h.x.sound,h.n.fG⟩
theorem R6 {p:dJ}(h:oI p)(a b c d t e:Int):jB ⟨a,b,c,d,t,[],[],e,[],fH p⟩:=⟨⟨by simp,by simp⟩,by simp,by simp,by have:=MQ h;simp only;omega⟩
theorem oJ.side {s:bB}(h:oJ s)(f:Frame):oJ (jM s f).1/\(∀g∈(jM s f).2.1,jB g)/\(jM s f).2.1.length<=1:=by
 unfold jM;have h':=h.sound;generalize fG s=x at h'⊢;unfold sW;by_cases h0:pG x f=0
 ·have F:=nW.1 (PH h0);have ha:=F9 (PH h0);have hst:=h'.x.step ha.aD (show f.aD.length<=1000 by have:=(xR F.small).1;omega);have hsn:=Yc h'.n f;dsimp only
  repeat' split
  all_goals first
   |exact⟨h',by simp,by simp⟩
   | (refine⟨⟨⟨hst.c,hst.cl,hst.shown,hst.aX,hst.next,hst.sl⟩,hsn⟩,?_,by simp[lC]⟩
      intro g hg;simp only[lC,fI]at hg;subst hg;exact R6 hst.pins ..)
   | (refine⟨⟨⟨h'.x.c,h'.x.cl,h'.x.shown,h'.x.aX,h'.x.next,h'.x.sl⟩,h'.n⟩,?_,by simp[lC]⟩
      intro g hg;simp only[lC,fI]at hg;subst hg;exact R6 h'.x.pins ..)
 ·rw[aU h0];exact⟨h',by simp,by simp⟩
theorem oJ.connect {s:bB}(h:oJ s)(ep:Int):oJ (jW s ep).1/\(∀g∈(jW s ep).2.1,jB g)/\(jW s ep).2.1.length<=2:=by
 unfold jW;have h':=h.sound;generalize fG s=x at h'⊢;unfold vP;split
 ·exact⟨h',by simp,by simp⟩
 split
 ·exact⟨h',by simp,by simp⟩
 ·refine⟨⟨⟨h'.x.c,h'.x.cl,h'.x.shown,h'.x.aX,h'.x.next,h'.x.sl⟩,h'.n⟩,?_,by simp⟩;intro g hg;simp only[kN,DJ,or_false]at hg;rcases hg with rfl|rfl
  ·exact⟨⟨by simp[sG],by simp[sG]⟩,by simp[sG],by have:=h'.x.cl;simp[sG,n9];omega,by simp[sG]⟩
  ·exact R6 (p:=x.p) h'.x.pins ..
theorem oJ.begin {s:bB}(h:oJ s):oJ (qR s).1:=⟨h.x.begin,h.sound.n.xX⟩
theorem oJ.end {s:bB}(h:oJ s)(id:Int):oJ (kC s id).1/\(∀g∈(kC s id).2.1,jB g)/\(kC s id).2.1.length<=1:=by
 refine⟨⟨h.x.end id,?_⟩,?_⟩
 ·unfold kC;have h':=h.sound.n.rel id;generalize fG s=x at h'⊢;unfold yK;dsimp only;split<;>exact h'
 ·unfold kC;have h':=W4 id h.sound.x.pins;generalize fG s=x at h'⊢;unfold yK;dsimp only;split
  ·exact⟨by simp,by simp⟩
  ·refine⟨?_,by simp⟩;intro g hg;simp only[fI]at hg;subst hg;exact R6 h' ..
structure BI (w:jK):Prop where
 s:oJ w.s
 t:∀g∈w.told,jB g
 l:w.told.length<=1
theorem BI.done {w:jK}(a:nC)(h:BI w):BI (lR w a):=by
 unfold lR;split
 ·exact⟨h.s,h.t,h.l⟩
 ·have:=h.s.end w.r.id;exact⟨this.1,this.2.1,this.2.2⟩
theorem BI.qE {w:jK}(h:BI w):BI (qE w):=by
 unfold Go.G.qE vR x9 zC zT;dsimp only
 repeat' split
 all_goals first
  |exact h
  |exact h.done _
  |exact⟨h.s,h.t,h.l⟩
  |exact⟨h.s.begin,h.t,h.l⟩
theorem BI.HV {s:bB}(r:kD)(h:oJ s):BI (mQ r s):=BI.qE (w:=⟨mS r,fG s,[]⟩) ⟨h.sound,by simp,by simp⟩
structure DB (q:jO):Prop where
 p:zY q
 a:∀t∈q.tasks,(bs t.r.a.host).length<=1000000/\(bs t.r.a.path).length<=1000000
def qB :jO:=⟨0,[],[]⟩
theorem DB.zero :DB qB:=⟨⟨by simp[qB],by simp[qB],by simp[qB],by simp[qB],by simp[qB],by simp[qB],by simp[qB],by simp[qB],by simp[qB],by simp[qB],by simp[qB]⟩,by simp[qB]⟩
theorem Fp (a:Ask):lL (oU a)=true/\kU (oU a)=true:=by
 have:lL (oU a)=true:=by simp[lL,oU]
 refine⟨this,?_⟩;unfold kU mS;rw[aU this];simp[oU]
theorem DB.start {p:jO}(h:DB p){a:Ask}(ha:(bs a.host).length<=1000000/\(bs a.path).length<=1000000):DB (mR p a).1:=by
 unfold mR;split
 ·exact h
 ·rename_i hn;have hp:=h.p;have n0:=hp.n0;have n1:=hp.n1;refine⟨⟨by simp only;omega,by simp only;omega,by simp;omega,hp.ld,?_,hp.nd,?_,?_,?_,?_,hp.over⟩,?_⟩
  ·refine KH.2 ⟨hp.up,by simp,?_⟩;intro x hx y hy;simp only[fI]at hy;subst hy;have:=hp.rt x hx;simp only;omega
  ·intro t ht d hd;rcases dN.1 ht with g|g
   ·exact hp.ap t g d hd
   ·simp only[fI]at g;subst g;have:=hp.rd d hd;simp only;omega
  ·intro t ht;rcases dN.1 ht with g|g
   ·have:=hp.rt t g;simp only;omega
   ·simp only[fI]at g;subst g;simp only;omega
  ·intro t ht;have:=hp.rd t ht;simp only;omega
  ·intro t ht;rcases dN.1 ht with g|g
   ·exact hp.run t g
   ·simp only[fI]at g;subst g;exact Fp a
  ·intro t ht;rcases dN.1 ht with g|g
   ·exact h.a t g
   ·simp only[fI]at g;subst g;exact ha
theorem zjk {s:bB}(h:(qR s).2.2=0):1<=(qR s).2.1:=by
 unfold qR at h⊢;simp only at h⊢;unfold qJ at h⊢;have hs:=(oQ.1 (D0 (fG s).p)).1;generalize gQ (fG s).p=q at h hs⊢;unfold zF at h⊢;split at h
 ·simp at h
 ·rename_i x hx;split at h
  ·simp at h
  ·rename_i hn;simp only[aH hn];have:=(D4 hs x (BU hx)).2.2;omega
theorem IB {r:kD}:lL r=true↔(0<=r.cV/\r.cV<=5/\0<=r.id)/\(0<r.id\/r.cV=0\/r.cV=5):=by
 simp[lL];omega
theorem M3 {w:jK}(a:nC)(h:0<=w.r.id):lL (lR w a).r=true/\(lR w a).r.a=w.r.a:=by
 unfold lR;split<;>exact⟨IB.2 ⟨⟨by simp,by simp,h⟩,.inr (.inr rfl)⟩,rfl⟩
theorem Ys {w:jK}(h:lL w.r=true):lL (qE w).r=true/\(qE w).r.a=w.r.a:=by
 have hq:=IB.1 h;unfold qE;by_cases h0:w.r.cV=0
 ·rw[aU h0];unfold vR;split
  ·exact M3 _ hq.1.2.2
  ·rename_i he;have:=zjk (rS.1 he);exact⟨IB.2 ⟨⟨by simp,by simp,by simp only;omega⟩,.inl (by simp only;omega)⟩,rfl⟩
 rw[aH h0];by_cases h1:w.r.cV=1
 ·rw[aU h1];unfold x9;split
  ·exact M3 _ hq.1.2.2
  ·exact⟨IB.2 ⟨⟨by simp,by simp,hq.1.2.2⟩,.inl (by simp only;omega)⟩,rfl⟩
 rw[aH h1];by_cases h2:w.r.cV=2
 ·rw[aU h2];unfold zC;dsimp only
  repeat' split
  all_goals first
   |exact M3 _ hq.1.2.2
   |exact⟨IB.2 ⟨⟨by simp,by simp,hq.1.2.2⟩,.inl (by simp only;omega)⟩,rfl⟩
 rw[aH h2];by_cases h3:w.r.cV=3
 ·rw[aU h3];unfold zT;dsimp only
  repeat' split
  all_goals first
   |exact M3 _ hq.1.2.2
   |exact⟨IB.2 ⟨⟨by simp,by simp,hq.1.2.2⟩,.inl (by simp only;omega)⟩,rfl⟩
 rw[aH h3];split
 ·exact M3 _ hq.1.2.2
 ·exact⟨h,rfl⟩
theorem Yq (r:kD)(s:bB):lL (mQ r s).r=true/\(mQ r s).r.a=r.a:=by
 have:=Ys (w:=⟨mS r,fG s,[]⟩) (by
  unfold mS;split
  ·assumption
  ·exact(Fp r.a).1)
 exact⟨this.1,this.2.trans (Dt r)⟩
theorem za7 {l:List Task}{k:Nat}{t:Task}(hk:l[k]? =some t)(r:kD):(l.set k ⟨t.n,r⟩).map Task.n=l.map Task.n:=by
 apply KT;intro j;rw[iJ,iJ,List.getElem?_set];split
 ·rename_i e;subst e;have hl:=(cC.1 hk).1;rw[aU hl,hk];rfl
 ·rfl
theorem Bz {l:List Task}:(l.Pairwise fun a b=>a.n<b.n)↔(l.map Task.n).Pairwise (· <·):=List.pairwise_map.symm
theorem DB.pick {p:jO}(h:DB p){s:bB}(hs:oJ s)(draw:Int):DB (eI p s draw).1/\oJ (eI p s draw).2.1/\(∀g∈(eI p s draw).2.2.1,jB g)/\(eI p s draw).2.2.1.length<=1:=by
 unfold eI;split
 ·exact⟨h,hs,by simp,by simp⟩
 rename_i t ht;have hm:t∈p.tasks:=eH ht;have hp:=h.p;obtain⟨r1,r2⟩:=Yq t.r s;have hw:=BI.HV t.r hs;have hn:=hp.rt t hm;have hat:=h.a t hm;dsimp only;generalize mQ t.r s=w at*;split
 ·rename_i hr;have e:=za7 ht w.r;have hmem:∀x∈p.tasks.set (oC p draw) ⟨t.n,w.r⟩,x∈p.tasks\/x=⟨t.n,w.r⟩:=fun x hx=>BR hx;refine⟨⟨⟨hp.n0,hp.n1,by simpa using hp.lt,hp.ld,?_,hp.nd,?_,?_,hp.rd,?_,hp.over⟩,?_⟩,hw.s,hw.t,hw.l⟩
  ·rw[Bz];simp only;rw[e];exact Bz.1 hp.up
  ·intro x hx d hd;rcases hmem x hx with g|g
   ·exact hp.ap x g d hd
   ·subst g;exact hp.ap t hm d hd
  ·intro x hx;rcases hmem x hx with g|g
   ·exact hp.rt x g
   ·subst g;exact hn
  ·intro x hx;rcases hmem x hx with g|g
   ·exact hp.run x g
   ·subst g;exact⟨r1,hr⟩
  ·intro x hx;rcases hmem x hx with g|g
   ·exact h.a x g
   ·subst g;simp only[r2];exact hat
 ·rename_i hr;have hsub:(p.tasks.eraseIdx (oC p draw)).Sublist p.tasks:=List.eraseIdx_sublist ..;have hin:∀x∈p.tasks.eraseIdx (oC p draw),x∈p.tasks:=fun x hx=>hsub.subset hx;have hne:∀x∈p.tasks.eraseIdx (oC p draw),x.n≠t.n:=by
   intro x hx e;obtain⟨j,hj,hj2⟩:=List.mem_eraseIdx_iff_getElem?.1 hx;have hnd:=XA hp.up;have a1:(p.tasks.map Task.n)[j]? =some t.n:=by rw[iJ,hj2];simp[e]
   have a2:(p.tasks.map Task.n)[oC p draw]? =some t.n:=by rw[iJ,ht];rfl
   have hj3:=(cC.1 a1).1;exact hj ((List.getElem?_inj hj3 hnd).1 (a1.trans a2.symm))
  have hdm:∀x∈x5 p.done ⟨t.n,w.r⟩,x∈p.done\/x=⟨t.n,w.r⟩:=by
   intro x hx;rcases dN.1 hx with g|g
   ·exact .inl (BT g)
   ·exact .inr (by simpa using g)
  refine⟨⟨⟨hp.n0,hp.n1,fV hsub.length_le hp.lt,?_,hp.up.sublist hsub,?_,?_,fun x hx=>hp.rt x (hin x hx),?_,fun x hx=>hp.run x (hin x hx),?_⟩,fun x hx=>h.a x (hin x hx)⟩,hw.s,hw.t,hw.l⟩
  ·simp only[x5,dQ,KM,List.length_singleton];omega
  ·simp only[x5,BV,iU,AB,List.map_drop];rw[UB];refine⟨hp.nd.sublist (List.drop_sublist _ _),by simp,?_⟩;intro a ha b hb e;simp only[fI]at hb;subst hb;subst e;obtain⟨d,hd,hd2⟩:=eR.1 (BT ha);exact hp.ap t hm d hd hd2.symm
  ·intro x hx d hd;rcases hdm d hd with g|g
   ·exact hp.ap x (hin x hx) d g
   ·subst g;exact hne x hx
  ·intro x hx;rcases hdm x hx with g|g
   ·exact hp.rd x g
   ·subst g;exact hn
  ·intro x hx;rcases hdm x hx with g|g
   ·exact hp.over x g
   ·subst g;simpa using hr
structure dS where
 aF:Int
 q:List Frame
def hX (l:dS):gL:=⟨l.aF,l.q.map rV⟩
structure gF (l:dS):Prop where
 e0:0<=l.aF
 e1:l.aF<=2147483647
 len:l.q.length<=32
 q:∀f∈l.q,eX f=0
theorem Kl (n:Int):bW n≠[]:=by
 unfold bW pU;split<;>simp
theorem Cs {f:Frame}(h:eX f=0):(rV f).length<=99100:=by
 have h1:=PN (nW.1 h);have h2:=gU (rE f).length;unfold rV yY;simp only[dQ];omega
theorem zcI (f:Frame):rE f≠[]:=by
 unfold rE;intro e;simp only[List.append_eq_nil_iff]at e;exact Kl _ e.1.1
theorem Cr (f:Frame):rV f≠[]:=by
 unfold rV yY;intro e;simp only[List.append_eq_nil_iff]at e;exact Kl _ e.1
theorem gF.lk {l:dS}(h:gF l):vU (hX l):=⟨by have:=h.len;simp[hX];omega,by
 intro b hb;obtain⟨f,hf,rfl⟩:=eR.1 hb;exact⟨Cr f,by have:=Cs (h.q f hf);omega⟩⟩
theorem gF.sound {l:dS}(h:gF l):kT (hX l)=hX l:=Fs (zbu.2 ⟨⟨h.e0,h.e1⟩,by simpa[hX]using h.len⟩)
def qI (l:dS)(f:Frame):dS×Int:=if¬eX f=0 then(l,eX f)else if 32<=l.q.length then(l,8)else(⟨l.aF,l.q++[f]⟩,0)
def kG (z:dS×Int)(f:Frame):dS×Int:=if(qI z.1 f).2=0 then((qI z.1 f).1,z.2)else(z.1,z.2+1)
def dP (l:dS)(lost:Int)(fs:List Frame):dS×Int:=fs.foldl kG (l,lost)
theorem gF.r7 {l:dS}(h:gF l)(f:Frame):gF (qI l f).1:=by
 unfold qI;split
 ·exact h
 rename_i he;split
 ·exact h
 ·rename_i hl;refine⟨h.e0,h.e1,by simp;omega,?_⟩;intro g hg;rcases dN.1 hg with g'|g'
  ·exact h.q g g'
  ·simp only[fI]at g';subst g';exact rS.1 he
theorem gF.step {z:dS×Int}(h:gF z.1)(f:Frame):gF (kG z f).1:=by
 unfold kG;split
 ·exact h.r7 f
 ·exact h
theorem LP :∀(fs:List Frame) {z:dS×Int},gF z.1->gF (fs.foldl kG z).1/\z.2<=(fs.foldl kG z).2/\(fs.foldl kG z).2<=z.2+fs.length
 |[],z,h=>⟨h,xL _,by simp⟩
 |f::fs,z,h=>by
  have:=LP fs (h.step f);have h2:z.2<=(kG z f).2/\(kG z f).2<=z.2+1:=by unfold kG;split<;>simp<;>omega
  refine⟨this.1,?_,?_⟩
  ·exact Int.le_trans h2.1 this.2.1
  ·have:=this.2.2;simp only[rR,kE];omega
theorem gF.send {l:dS}(h:gF l)(lost:Int)(fs:List Frame):gF (dP l lost fs).1:=(LP fs (z:=(l,lost)) h).1
theorem GF {l:dS}(h:gF l)(lost:Int)(fs:List Frame):lost<=(dP l lost fs).2/\(dP l lost fs).2<=lost+fs.length:=(LP fs (z:=(l,lost)) h).2
def vB (l:dS)(i:Int):Nat:=((max 0 i).tmod l.q.length).toNat
def takeN (l:dS)(i:Int):dS×Frame×Int:=if l.q=[]then(l,fQ,10)else(⟨l.aF,l.q.take (vB l i)++l.q.drop (vB l i+1)⟩,l.q.getD (vB l i) fQ,0)
def yM (l:dS)(i:Int):dS×Int:=((takeN l i).1,(takeN l i).2.2)
def vS (l:dS)(i:Int):dS×Int:=if l.q=[]then(l,10)else if 32<=l.q.length then(l,8)else(⟨l.aF,l.q++[l.q.getD (vB l i) fQ]⟩,0)
def vH (l:dS)(i:Int):dS×Int:=if l.q=[]then(l,10)else(⟨l.aF,(takeN l i).1.q++[(takeN l i).2.1]⟩,0)
theorem WM (l:dS)(i:Int):pR (hX l) i=vB l i:=by simp[pR,vB,hX]
theorem F5 {l:dS}(i:Int)(h:l.q≠[]):vB l i<l.q.length:=by
 rw[<-WM];have:=PW (l:=hX l) i (by simpa[hX]using h);simpa[hX]using this
theorem IF {l:dS}:(hX l).q=[]↔l.q=[]:=by simp[hX]
theorem Po (l:List Frame)(k:Nat)(h:k<l.length):(l.map rV).getD k []=rV (l.getD k fQ):=by
 simp[List.getD,h]
theorem U1 {l:dS}(h:gF l)(i:Int):y4 (hX l) i=(hX (takeN l i).1,if l.q=[]then []else rV (takeN l i).2.1,(takeN l i).2.2):=by
 unfold y4;rw[h.sound];unfold HS takeN;by_cases hq:l.q=[]
 ·rw[aU (IF.2 hq),aU hq,aU hq]
 ·rw[aH (fun e=>hq (IF.1 e)),aH hq,aH hq,WM];simp only[hX];rw[Po _ _ (F5 i hq)];simp
theorem zhM {l:dS}(h:gF l)(i:Int):M1 (hX l) i=(hX (yM l i).1,(yM l i).2):=by
 unfold M1 yM;rw[U1 h]
theorem zks {l:dS}(h:gF l)(i:Int):NL (hX l) i=(hX (vS l i).1,(vS l i).2):=by
 unfold NL vS;rw[h.sound];by_cases hq:l.q=[]
 ·rw[aU (IF.2 hq),aU hq]
 ·rw[aH (fun e=>hq (IF.1 e)),aH hq];unfold CB;rw[h.sound,WM];have e:(hX l).q.getD (vB l i) []=rV (l.q.getD (vB l i) fQ):=Po _ _ (F5 i hq);rw[e];by_cases hl:32<=l.q.length
  ·rw[aU hl,VV (by simpa[hX]using hl)]
  ·rw[aH hl,O5 (by simpa[hX]using hl)];simp[hX]
theorem gF.take {l:dS}(h:gF l)(i:Int):gF (takeN l i).1/\((takeN l i).2.2=0->eX (takeN l i).2.1=0):=by
 unfold takeN;by_cases hq:l.q=[]
 ·rw[aU hq];exact⟨h,by simp⟩
 ·rw[aH hq];have hk:=F5 i hq;refine⟨⟨h.e0,h.e1,by have:=h.len;simp;omega,?_⟩,fun _=>?_⟩
  ·intro f hf;rcases dN.1 hf with g|g
   ·exact h.q f (rP g)
   ·exact h.q f (BT g)
  ·have:l.q.getD (vB l i) fQ=l.q[vB l i]:=by simp[hk]
   simp only;rw[this];exact h.q _ (lU hk)
theorem take_len {l:dS}(i:Int)(hq:l.q≠[]):(takeN l i).1.q.length+1=l.q.length:=by
 have hk:=F5 i hq;unfold takeN;rw[aH hq];simp;omega
theorem zfH {l:dS}(h:gF l)(i:Int):MN (hX l) i=(hX (vH l i).1,(vH l i).2):=by
 unfold MN vH;rw[h.sound];by_cases hq:l.q=[]
 ·rw[aU (IF.2 hq),aU hq]
 ·rw[aH (fun e=>hq (IF.1 e)),aH hq,U1 h,aH hq];unfold CB;rw[(h.take i).1.sound];have:=take_len i hq;have hl:=h.len;rw[O5 (by simp[hX];omega)];have e:(takeN l i).1.aF=l.aF:=by unfold takeN;split<;>rfl
  simp[hX,e]
theorem gF.drop {l:dS}(h:gF l)(i:Int):gF (yM l i).1:=(h.take i).1
theorem gF.again {l:dS}(h:gF l)(i:Int):gF (vS l i).1:=by
 unfold vS;split
 ·exact h
 rename_i hq;split
 ·exact h
 ·have hk:=F5 i hq;refine⟨h.e0,h.e1,by simp;omega,?_⟩;intro f hf;rcases dN.1 hf with g|g
  ·exact h.q f g
  ·simp only[fI]at g;subst g;have:l.q.getD (vB l i) fQ=l.q[vB l i]:=by simp[hk]
   rw[this];exact h.q _ (lU hk)
theorem gF.late {l:dS}(h:gF l)(i:Int):gF (vH l i).1:=by
 unfold vH;split
 ·exact h
 rename_i hq;have ht:=h.take i;have hl:=take_len i hq;have hh:=h.len;refine⟨h.e0,h.e1,by simp;omega,?_⟩;intro f hf;rcases dN.1 hf with g|g
 ·exact ht.1.q f g
 ·simp only[fI]at g;subst g;exact ht.2 (by unfold takeN;rw[aH hq])
theorem gF.fresh {l:dS}(h:gF l)(hm:¬l.aF=2147483647):gF ⟨l.aF+1,[]⟩:=⟨by have:=h.e0;simp only;omega,by have:=h.e1;simp only;omega,by simp,by simp⟩
def Cd (f:Frame):List D:=FL (rV f)
@[simp] def kR (l:dS):List D:=[iD l.aF,lD (l.q.map Cd)]
theorem CH (l:dS):rD (hX l)=kR l:=by simp[hX,Cd,Function.comp_def]
structure Node where
 side:bB
 bA:cL
 up:dS
 dn:dS
 bR:jO
@[simp] def gG (n:Node):List D:=jQ n.side++oP n.bA++kR n.up++kR n.dn++EH n.bR
structure bS where
 qH:Int
 cap:Int
 iG:Int
 max:Int
@[simp] def jR (c:bS):List D:=[iD c.qH,iD c.cap,iD c.iG,iD c.max]
structure bJ where
 kind:Int
 side:Int
 bG:Int
 n:Int
 aD:List aA
 gone:List Key
 a:Ask
@[simp] def cZ (s:bJ):List D:=[iD s.kind,iD s.side,iD s.bG,iD s.n,lD (s.aD.map aK),lD (s.gone.map bP)]++sM s.a
structure sQ where
 e:Int
 n:Int
 iT:nC
 l:List Int
 keys:List Key
@[simp] def eV (o:sQ):List D:=[iD o.e,iD o.n]++TK o.iT++[lD (o.l.map lP),lD (o.keys.map bP)]
def fP (e:Int):sQ:=⟨e,0,iB,[],[]⟩
def EM (n:Int):sQ:=⟨0,n,iB,[],[]⟩
structure dG (n:Node):Prop where
 d:oJ n.side
 ss:gC n.bA=true
 so:xB n.bA
 up:gF n.up
 dn:gF n.dn
 pl:DB n.bR
def gD (mx lost:Int)(n:Node):Node×Int×Int:=
 if n.up.aF=2147483647\/n.dn.aF=2147483647 then(n,lost,14)else
 let c:=jW n.side (n.up.aF+1)
 let u:=dP ⟨n.up.aF+1,[]⟩ lost c.2.1
 (⟨c.1,kP (n.up.aF+1) mx,u.1,⟨n.dn.aF+1,[]⟩,n.bR⟩,u.2,c.2.2)
def gM (mx:Int)(p:aT)(lost:Int)(n:Node):Node×Int×Int:=
 let s:=dD n.bA p
 let d:=dP n.dn lost s.2.1
 let m:Node:={n with bA:=s.1,dn:=d.1}
 if s.2.2=0 then(m,d.2,0)else((gD mx d.2 m).1,(gD mx d.2 m).2.1,s.2.2)
theorem xB.new (e m:Int):xB (kP e m):=⟨Ay⟩
theorem dG.renew {n:Node}(h:dG n)(mx lost:Int):dG (gD mx lost n).1/\lost<=(gD mx lost n).2.1/\(gD mx lost n).2.1<=lost+2:=by
 unfold gD;split
 ·exact⟨h,by simp,by simp only;omega⟩
 ·rename_i he;have c:=h.d.connect (n.up.aF+1);have u:=h.up.fresh (by omega);dsimp only;have l:=GF u lost (jW n.side (n.up.aF+1)).2.1;exact⟨⟨c.1,LS _ _,.new _ _,u.send _ _,h.dn.fresh (by omega),h.pl⟩,l.1,by have:=c.2.2;omega⟩
theorem dG.dD {n:Node}(h:dG n)(mx:Int){p:aT}(hp:fN p=true)(lost:Int):dG (gM mx p lost n).1/\lost<=(gM mx p lost n).2.1/\(gM mx p lost n).2.1<=lost+3:=by
 obtain⟨p1,p2,p3,p4,_⟩:=PQ h.ss h.so hp;have l:=GF h.dn lost (Go.G.dD n.bA p).2.1;have hm:dG {n with bA:=(Go.G.dD n.bA p).1,dn:=(dP n.dn lost (Go.G.dD n.bA p).2.1).1}:=⟨h.d,p1,p2,h.up,h.dn.send _ _,h.pl⟩;unfold gM;dsimp only;split
 ·exact⟨hm,l.1,by simp only;omega⟩
 ·have r:=hm.renew mx (dP n.dn lost (Go.G.dD n.bA p).2.1).2;exact⟨r.1,by simp only;omega,by simp only;omega⟩
def dA (n:Node)(w:Int):dS:=if w=0 then n.up else n.dn
def fB (n:Node)(w:Int)(l:dS):Node:=if w=0 then{n with up:=l}else{n with dn:=l}
theorem dG.bG {n:Node}(h:dG n)(w:Int):gF (dA n w):=by unfold dA;split;exact h.up;exact h.dn
theorem dG.set {n:Node}(h:dG n)(w:Int){l:dS}(hl:gF l):dG (fB n w l):=by
 unfold fB;split
 ·exact⟨h.d,h.ss,h.so,hl,h.dn,h.pl⟩
 ·exact⟨h.d,h.ss,h.so,h.up,hl,h.pl⟩
abbrev NR :=Node×Int×sQ
def jI (mx:Int)(p:aT)(lost:Int)(n:Node)(s:bJ):NR:=
 let t:=takeN (dA n s.bG) s.n
 let m:=fB n s.bG t.1
 if¬t.2.2=0 then(m,lost,fP t.2.2)else
 if s.bG=1 then
  let r:=jM m.side t.2.1
  let u:=dP m.up lost r.2.1
  ({m with side:=r.1,up:=u.1},u.2,fP r.2.2)
 else
  let r:=handle m.bA p t.2.1
  let k:Node:={m with bA:=r.1}
  if¬r.2=0 then(k,lost,fP r.2)else((gM mx p lost k).1,(gM mx p lost k).2.1,fP (gM mx p lost k).2.2)
def mW (f:dS->Int->dS×Int)(lost:Int)(n:Node)(s:bJ):NR:=(fB n s.bG (f (dA n s.bG) s.n).1,lost,fP (f (dA n s.bG) s.n).2)
def rM (lost:Int)(n:Node)(s:bJ):NR:=({n with bR:=(mR n.bR s.a).1},lost,⟨(mR n.bR s.a).2.2,(mR n.bR s.a).2.1,iB,[],[]⟩)
def oE (lost:Int)(n:Node)(s:bJ):NR:=
 let r:=eI n.bR n.side s.n
 let u:=dP n.up lost r.2.2.1
 ({n with bR:=r.1,side:=r.2.1,up:=u.1},u.2,
   if¬r.2.2.2=0\/r.1.tasks.length=n.bR.tasks.length then fP r.2.2.2 else match r.1.done.getLast? with
    |some x=>⟨0,x.n,x.r.out,[],[]⟩
    |none=>fP 0)
def KZ (b:Bool):Int:=if b then 1 else 0
def yZ (p:aT)(lost:Int)(n:Node):NR:=
 (n,lost,⟨0,0,iB,[oT p,n.side.aF,KZ (hC n.side).isSome,n.bR.tasks.length,n.bR.done.length,KZ (pF n.bA p),n.up.q.length,n.dn.q.length,lost],(((hC n.side).map (·.l)).getD []).map aA.key⟩)
def fC (mx:Int)(p:aT)(lost:Int)(n:Node)(s:bJ):NR:=
 if s.kind=1 then jI mx p lost n s else if s.kind=2 then mW yM lost n s else if s.kind=3 then mW vS lost n s else if s.kind=4 then mW vH lost n s
 else if s.kind=5 then((gD mx lost n).1,(gD mx lost n).2.1,fP (gD mx lost n).2.2)else if s.kind=7 then rM lost n s else if s.kind=8 then oE lost n s else yZ p lost n
theorem dG.Z8 {n:Node}(h:dG n)(mx:Int){p:aT}(hp:fN p=true)(lost:Int)(s:bJ):dG (jI mx p lost n s).1/\lost<=(jI mx p lost n s).2.1/\(jI mx p lost n s).2.1<=lost+3:=by
 have t:=(h.bG s.bG).take s.n;have m:=h.set s.bG t.1;unfold jI;dsimp only;split
 ·exact⟨m,by simp,by simp only;omega⟩
 split
 ·have r:=m.d.side (takeN (dA n s.bG) s.n).2.1;have l:=GF m.up lost (jM (fB n s.bG (takeN (dA n s.bG) s.n).1).side (takeN (dA n s.bG) s.n).2.1).2.1;exact⟨⟨r.1,m.ss,m.so,m.up.send _ _,m.dn,m.pl⟩,l.1,by have:=r.2.2;simp only;omega⟩
 ·have k:dG {(fB n s.bG (takeN (dA n s.bG) s.n).1)with bA:=(handle (fB n s.bG (takeN (dA n s.bG) s.n).1).bA p (takeN (dA n s.bG) s.n).2.1).1}:=⟨m.d,E0 p _ m.ss,R2 _ m.ss m.so hp,m.up,m.dn,m.pl⟩;split
  ·exact⟨k,by simp,by simp only;omega⟩
  ·exact k.dD mx hp lost
theorem dG.single {n:Node}(h:dG n)(mx:Int){p:aT}(hp:fN p=true)(lost:Int){s:bJ}(ha:(bs s.a.host).length<=1000000/\(bs s.a.path).length<=1000000):dG (fC mx p lost n s).1/\lost<=(fC mx p lost n s).2.1/\(fC mx p lost n s).2.1<=lost+3:=by
 unfold fC;split
 ·exact h.Z8 mx hp lost s
 split
 ·exact⟨h.set _ ((h.bG _).drop _),by simp[mW],by simp only[mW];omega⟩
 split
 ·exact⟨h.set _ ((h.bG _).again _),by simp[mW],by simp only[mW];omega⟩
 split
 ·exact⟨h.set _ ((h.bG _).late _),by simp[mW],by simp only[mW];omega⟩
 split
 ·have r:=h.renew mx lost;exact⟨r.1,by simp only;omega,by simp only;omega⟩
 split
 ·exact⟨⟨h.d,h.ss,h.so,h.up,h.dn,h.pl.start ha⟩,by simp[rM],by simp only[rM];omega⟩
 split
 ·obtain⟨k1,k2,k3,k4⟩:=h.pl.pick h.d s.n;have l:=GF h.up lost (eI n.bR n.side s.n).2.2.1;exact⟨⟨k2,h.ss,h.so,h.up.send _ _,h.dn,k1⟩,l.1,by simp only[oE];omega⟩
 ·exact⟨h,by simp[yZ],by simp only[yZ];omega⟩
theorem WY {p:aT}(hp:fN p=true):DA p:=by
 have hh:=(rB p).1 hp;refine⟨by have:=hh.2.1;omega,fun l hl=>?_⟩;obtain⟨i,hi⟩:=vY.1 hl;have hc:0<=p.cap:=by rw[hh.1];exact(S0 _).1
 exact QA (hh.2.2.acc hc hi).rX
theorem U3 {l:dS}{i:Int}(h:(takeN l i).2.2=0):l.q≠[]:=by
 intro e;unfold takeN at h;rw[aU e]at h;exact absurd h (by simp)
theorem zdl {p:jO}{s:bB}{draw:Int}(h:¬(eI p s draw).1.tasks.length=p.tasks.length):∃i x,(eI p s draw).1.done=i++[x]:=by
 unfold eI at h⊢;split at h
 ·exact absurd rfl h
 ·rename_i t ht;dsimp only at h⊢;split at h
  ·exact absurd (by simp) h
  ·rename_i hr;rw[aH hr];exact⟨_,_,rfl⟩
theorem Ef {s:bB}(h:fT s):(((hC s).map (·.l)).getD []).length<=64:=by
 unfold hC rL;have hs:=h.sound.pins.sound.aX;generalize gQ (fG s).p=q at hs⊢;cases e:q.aX.getLast? with
 |none=>simp
 |some x=>simpa using(hs x (BU e)).2
structure bL where
 c:bS
 p:aT
 ns:List Node
 lost:Int
def fZ (c:bS):Node:=⟨tG c.iG c.max,kP 0 c.max,⟨0,[]⟩,⟨0,[]⟩,qB⟩
def cR (c:bS):Nat:=(max 1 (min c.qH 4)).toNat
def aR (c:bS):bL:=⟨c,iA c.cap,List.replicate (cR c) (fZ c),0⟩
def mT (mx:Int)(p:aT):List Node->Int->Int->List Node×Int×Int
 |[],lost,e=>([],lost,e)
 |n::l,lost,e=>
  let r:=gM mx p lost n
  let q:=mT mx p l r.2.1 (if e=0 then r.2.2 else e)
  (r.1::q.1,q.2)
def sU (M:bL)(s:bJ):bL×sQ:=
 let p:=tC M.p s.aD s.gone
 let e:=rF M.p s.aD s.gone
 if¬e=0 then(⟨M.c,p,M.ns,M.lost⟩,fP e)else
 let q:=mT M.c.max p M.ns M.lost 0
 (⟨M.c,p,q.1,q.2.1⟩,⟨q.2.2,oT p,iB,[],[]⟩)
def nG :List Node->Int->Int->List Node×Int×Int
 |[],lost,k=>([],lost,k)
 |n::l,lost,k=>
  let d:=dP n.dn lost (fJ n.bA)
  let q:=nG l d.2 (k+(fJ n.bA).length)
  ({n with dn:=d.1}::q.1,q.2)
def oO (M:bL):bL×sQ:=
 let q:=nG M.ns M.lost 0
 (⟨M.c,M.p,q.1,q.2.1⟩,EM q.2.2)
def nodeAt (l:List Node)(i:Int):Option Node:=if 0<=i then l[i.toNat]? else none
def bH (M:bL)(s:bJ):bL×sQ:=
 if M.ns=[]then(M,fP 15)else if¬(0<=s.kind/\s.kind<=9)then(M,fP 4)else
 if s.kind=0 then sU M s else if s.kind=6 then oO M else
 match nodeAt M.ns s.side with
 |none=>(M,fP 10)
 |some n=>
  if s.kind<=4/\(s.bG<0\/2<=s.bG)then(M,fP 10)else
  let r:=fC M.c.max M.p M.lost n s
  (⟨M.c,M.p,M.ns.set s.side.toNat r.1,r.2.1⟩,r.2.2)
def aY :bL->List bJ->bL×List sQ
 |M,[]=>(M,[])
 |M,s::l=>let r:=bH M s;let q:=aY r.1 l;(q.1,r.2::q.2)
def uH (n:Node):Bool:=decide (n.up.q.length+n.dn.q.length+n.bR.tasks.length=0)
def FU (M:bL):Bool:=!decide (M.ns=[])&&M.ns.all fun n=>uH n&&pF n.bA M.p
structure eK (s:bJ):Prop where
 a:(bs s.a.host).length<=1000000/\(bs s.a.path).length<=1000000
 aD:s.aD.length<=1000
 gone:s.gone.length<=1000
structure cN (M:bL)(B:Int):Prop where
 n1:1<=M.ns.length
 n4:M.ns.length<=4
 ok:∀n∈M.ns,dG n
 p:fN M.p=true
 l0:0<=M.lost
 l1:M.lost<=B
theorem dG.new (c:bS):dG (fZ c):=⟨.new _ _,LS _ _,.new _ _,⟨by simp[fZ],by simp[fZ],by simp[fZ],by simp[fZ]⟩,⟨by simp[fZ],by simp[fZ],by simp[fZ],by simp[fZ]⟩,.zero⟩
theorem cN.new (c:bS):cN (aR c) 0:=by
 refine⟨by simp[aR,cR];omega,by simp[aR,cR];omega,?_,zbn _,by simp[aR],by simp[aR]⟩;intro n hn;have:=KU hn;subst this;exact .new c
theorem LX (mx:Int){p:aT}(hp:fN p=true):∀(l:List Node) (lost e:Int),(∀n∈l,dG n)->(∀n∈(mT mx p l lost e).1,dG n)/\(mT mx p l lost e).1.length=l.length/\lost<=(mT mx p l lost e).2.1/\(mT mx p l lost e).2.1<=lost+3*l.length
 |[],lost,e,_=>⟨by simp[mT],rfl,by simp[mT],by simp[mT]⟩
 |n::l,lost,e,h=>by
  have r:=(h n xF).dD mx hp lost;have q:=LX mx hp l (gM mx p lost n).2.1 (if e=0 then(gM mx p lost n).2.2 else e) (fun x hx=>h x (xG _ hx));refine⟨?_,?_,?_,?_⟩
  ·intro x hx;rcases kN.1 hx with g|g
   ·subst g;exact r.1
   ·exact q.1 x g
  ·simp only[mT,kE];rw[q.2.1]
  ·simp only[mT];omega
  ·simp only[mT,kE];omega
theorem Gs {n:Node}(h:dG n):(∀f∈fJ n.bA,jB f)/\(fJ n.bA).length<=1:=by
 unfold fJ;rw[nP h.ss];split
 ·exact⟨fun f hf=>by simp only[fI]at hf;subst hf;exact h.so.v.push,by simp⟩
 ·exact⟨by simp,by simp⟩
theorem LA :∀(l:List Node) (lost k:Int),(∀n∈l,dG n)->(∀n∈(nG l lost k).1,dG n)/\(nG l lost k).1.length=l.length/\lost<=(nG l lost k).2.1/\(nG l lost k).2.1<=lost+l.length
 |[],lost,k,_=>⟨by simp[nG],rfl,by simp[nG],by simp[nG]⟩
 |n::l,lost,k,h=>by
  have hn:=h n xF;have f:=Gs hn;have d:=GF hn.dn lost (fJ n.bA);have q:=LA l (dP n.dn lost (fJ n.bA)).2 (k+(fJ n.bA).length) (fun x hx=>h x (xG _ hx));refine⟨?_,?_,?_,?_⟩
  ·intro x hx;rcases kN.1 hx with g|g
   ·subst g;exact⟨hn.d,hn.ss,hn.so,hn.up,hn.dn.send _ _,hn.pl⟩
   ·exact q.1 x g
  ·simp only[nG,kE];rw[q.2.1]
  ·simp only[nG];omega
  ·simp only[nG,kE];omega
theorem L5 {l:List Node}{i:Int}{n:Node}(h:nodeAt l i=some n):n∈l/\0<=i/\i.toNat<l.length/\l[i.toNat]? =some n:=by
 unfold nodeAt at h;split at h
 ·exact⟨eH h,‹_›,(cC.1 h).1,h⟩
 ·cases h
theorem cN.step {M:bL}{B:Int}(h:cN M B){s:bJ}(hs:eK s):cN (bH M s).1 (B+12):=by
 have h4:=h.n4;have l0:=h.l0;have l1:=h.l1;have same:cN M (B+12):=⟨h.n1,h.n4,h.ok,h.p,h.l0,by omega⟩;unfold bH;split
 ·exact same
 split
 ·exact same
 split
 ·have hp:=H9 h.p s.aD s.gone;unfold sU;dsimp only;split
  ·exact⟨h.n1,h.n4,h.ok,hp,h.l0,by simp only;omega⟩
  ·have q:=LX M.c.max hp M.ns M.lost 0 h.ok;exact⟨by simp only;rw[q.2.1];exact h.n1,by simp only;rw[q.2.1];exact h.n4,q.1,hp,by simp only;omega,by simp only;omega⟩
 split
 ·have q:=LA M.ns M.lost 0 h.ok;exact⟨by simp only[oO];rw[q.2.1];exact h.n1,by simp only[oO];rw[q.2.1];exact h.n4,q.1,h.p,by simp only[oO];omega,by simp only[oO];omega⟩
 split
 ·exact same
 ·rename_i n hn;have hm:=L5 hn;split
  ·exact same
  ·have r:=(h.ok n hm.1).single M.c.max h.p M.lost hs.a;dsimp only;refine⟨by simpa using h.n1,by simpa using h.n4,?_,h.p,by simp only;omega,by simp only;omega⟩;intro x hx;rcases BR hx with g|g
   ·exact h.ok x g
   ·subst g;exact r.1
def Ba :Node:=fZ ⟨0,0,0,0⟩
def nth (M:bL)(i:Nat):Node:=M.ns.getD i Ba
theorem Km {M:bL}{B:Int}(h:cN M B){i:Nat}(hi:i<M.ns.length):dG (nth M i):=by
 have:nth M i=M.ns[i]:=by simp[nth,hi]
 rw[this];exact h.ok _ (lU hi)
theorem zfw {α:Type}{l:List α}(z:α)(h:l.length=1):l=[l.getD 0 z]:=by
 match l,h with
 |[a],_=>rfl
theorem W9 {M:bL}(h:M.ns.length=1):M.ns=[nth M 0]:=zfw Ba h
@[simp] theorem nth0 (c:bS)(p:aT)(a:Node)(l:List Node)(n:Int):nth ⟨c,p,a::l,n⟩ 0=a:=rfl
@[simp] theorem nth1 (c:bS)(p:aT)(a b:Node)(l:List Node)(n:Int):nth ⟨c,p,a::b::l,n⟩ 1=b:=rfl
@[simp] theorem nth2 (c:bS)(p:aT)(a b d:Node)(l:List Node)(n:Int):nth ⟨c,p,a::b::d::l,n⟩ 2=d:=rfl
@[simp] theorem nth3 (c:bS)(p:aT)(a b d e:Node)(l:List Node)(n:Int):nth ⟨c,p,a::b::d::e::l,n⟩ 3=e:=rfl
theorem Yb {M:bL}{s:bJ}(hn:M.ns≠[])(hk:s.kind=0):bH M s=sU M s:=by
 unfold bH;rw[aH hn,aH (by omega),aU hk]
theorem Yf {M:bL}{s:bJ}(hk:M.ns.length=1)(h1:1<=s.kind)(h9:s.kind<=9)(h6:s.kind≠6)(hs:s.side=0)(hw:s.kind<=4->s.bG=0\/s.bG=1):
  bH M s=(⟨M.c,M.p,[(fC M.c.max M.p M.lost (nth M 0) s).1],(fC M.c.max M.p M.lost (nth M 0) s).2.1⟩,(fC M.c.max M.p M.lost (nth M 0) s).2.2):=by
 unfold bH;rw[W9 hk,aH (by simp),aH (by omega),aH (by omega),aH h6];have e:nodeAt [nth M 0] s.side=some (nth M 0):=by rw[hs];rfl
 rw[e];simp only;rw[aH (by omega),hs];rfl
def l6 (w:Int):bJ:=⟨1,0,w,0,[],[],cQ⟩
def jX (M:bL)(w:Int):Nat->bL
 |0=>M
 |k+1=>(bH (jX M w k) (l6 w)).1
def BE (M:bL)(w:Int):bL:=jX M w (dA (nth M 0) w).q.length
def Z7 (M:bL):bL:=BE (BE M 0) 1
def oH (M:bL):Nat->bL
 |0=>M
 |n+1=>Z7 (oH M n)
theorem L2 (w:Int):eK (l6 w):=⟨by simp[l6,cQ],by simp[l6],by simp[l6]⟩
theorem JU {M:bL}{B:Int}(hk:M.ns.length=1)(hM:cN M B){w:Int}(hw:w=0\/w=1):∀k:Nat,(jX M w k).ns.length=1/\cN (jX M w k) (B+12*k)
 |0=>⟨hk,by simpa[jX]using hM⟩
 |k+1=>by
  have:=JU hk hM hw k;refine⟨?_,?_⟩
  ·simp only[jX];rw[Yf this.1 (by simp[l6]) (by simp[l6]) (by simp[l6]) rfl (fun _=>hw)];rfl
  ·have h2:=this.2.step (L2 w);simp only[jX];have e:B+12*((k+1:Nat):Int)=B+12*(k:Int)+12:=by omega
   rw[e];exact h2
theorem K2 {M:bL}{B:Int}(hk:M.ns.length=1)(hM:cN M B)(w:Int):(dA (nth M 0) w).q.length<=32:=((Km hM (i:=0) (by omega)).bG w).len
theorem cN.up {M:bL}{B C:Int}(h:cN M B)(hBC:B<=C):cN M C:=⟨h.n1,h.n4,h.ok,h.p,h.l0,by have:=h.l1;omega⟩
theorem JT {M:bL}{B:Int}(hk:M.ns.length=1)(hM:cN M B){w:Int}(hw:w=0\/w=1):(BE M w).ns.length=1/\cN (BE M w) (B+384):=by
 have h:=JU hk hM hw (dA (nth M 0) w).q.length;have hl:=K2 hk hM w;exact⟨h.1,h.2.up (by omega)⟩
theorem zi4 {M:bL}{B:Int}(hk:M.ns.length=1)(hM:cN M B):(Z7 M).ns.length=1/\cN (Z7 M) (B+768):=by
 have h:=JT hk hM (.inl rfl);have h2:=JT h.1 h.2 (.inr rfl);exact⟨h2.1,h2.2.up (by omega)⟩
theorem NB {M:bL}{B:Int}(hk:M.ns.length=1)(hM:cN M B):∀n:Nat,(oH M n).ns.length=1/\cN (oH M n) (B+768*n)
 |0=>⟨hk,by simpa[oH]using hM⟩
 |n+1=>by
  have h:=NB hk hM n;have h2:=zi4 h.1 h.2;exact⟨h2.1,h2.2.up (by omega)⟩
theorem Hn (mx:Int)(p:aT):∀(l:List Node) (lost e:Int),(mT mx p l lost e).1.length=l.length
 |[],_,_=>rfl
 |_::l,_,_=>by simp only[mT,kE];rw[Hn]
theorem Cn :∀(l:List Node) (lost k:Int),(nG l lost k).1.length=l.length
 |[],_,_=>rfl
 |_::l,_,_=>by simp only[nG,kE];rw[Cn]
theorem OW (M:bL)(s:bJ):(bH M s).1.ns.length=M.ns.length:=by
 unfold bH;split
 ·rfl
 split
 ·rfl
 split
 ·unfold sU;dsimp only;split
  ·rfl
  ·exact Hn _ _ _ _ _
 split
 ·exact Cn _ _ _
 split
 ·rfl
 split
 ·rfl
 ·simp
def FT :List aA:=
 [⟨0,⟨#[108]⟩,0,80,⟨#[114]⟩,[],[]⟩,⟨1,⟨#[114]⟩,0,0,⟨#[]⟩,[⟨⟨#[42]⟩,⟨#[47]⟩,[⟨⟨#[99]⟩,1⟩]⟩],[]⟩,⟨2,⟨#[99]⟩,0,0,⟨#[101]⟩,[],[]⟩,⟨3,⟨#[101]⟩,0,0,⟨#[]⟩,[],[7]⟩]
def FX :bJ:=⟨5,0,0,0,[],[],cQ⟩
def D7 :bJ:=⟨0,0,0,0,FT,[],cQ⟩
def FZ :bJ:=⟨7,0,0,0,[],[],⟨80,⟨#[104]⟩,⟨#[47]⟩,0,0⟩⟩
def FY :bJ:=⟨8,0,0,0,[],[],cQ⟩
def G7 :bL:=aR ⟨1,9,9,99⟩
def E9 :bL:=(bH G7 FX).1
def E8 :bL:=(bH E9 D7).1
def C6 :bL:=oH E8 8
def J3 :bL:=(bH C6 FZ).1
def aG :Nat->bL
 |0=>J3
 |k+1=>(bH (aG k) FY).1
def aO :Nat->sQ
 |0=>fP 0
 |k+1=>(bH (aG k) FY).2
theorem Jh :eK FX:=⟨by simp[FX,cQ],by simp[FX],by simp[FX]⟩
theorem Jc :eK D7:=⟨by simp[D7,cQ],by simp[D7,FT],by simp[D7]⟩
theorem Jp :eK FZ:=⟨by decide+kernel,by simp[FZ],by simp[FZ]⟩
theorem Jm :eK FY:=⟨by simp[FY,cQ],by simp[FY],by simp[FY]⟩
theorem I7 :G7.ns.length=1:=rfl
theorem Jw :cN G7 0:=.new _
theorem Nb :E9.ns.length=1:=(OW _ _).trans I7
theorem Jv :cN E9 12:=(Jw.step Jh).up (by omega)
theorem RC :E8.ns.length=1:=(OW _ _).trans Nb
theorem QG :cN E8 24:=(Jv.step Jc).up (by omega)
theorem Na :C6.ns.length=1:=(NB RC QG 8).1
theorem Ju :cN C6 10000:=(NB RC QG 8).2.up (by omega)
theorem zfz :J3.ns.length=1:=(OW _ _).trans Na
theorem zeh :cN J3 10012:=(Ju.step Jp).up (by omega)
theorem RA :∀k,(aG k).ns.length=1
 |0=>zfz
 |k+1=>(OW _ _).trans (RA k)
theorem QF :∀k:Nat,cN (aG k) (10012+12*k)
 |0=>zeh.up (by omega)
 |k+1=>((QF k).step Jm).up (by omega)
theorem aw2 :(bH E9 D7).2.n=1:=by decide+kernel
theorem aw4 :(bH C6 FZ).2.n=1:=by decide+kernel
theorem E4 :(aO 5).n=1/\(aO 5).iT=⟨3,⟨#[99]⟩,7⟩:=by decide+kernel
theorem Sm :FU (aG 5)=true:=by decide+kernel
def v8 :bB:=⟨0,0,false,⟨0,0,0,0,0⟩,⟨0,0,0,0⟩,⟨⟨0,[]⟩,false,[]⟩,⟨0,[]⟩⟩
def uK (s:bJ):Bool:=yI s.aD&&decide (s.gone.length<=80)&&decide ((bs s.a.host).length<=100)&&decide ((bs s.a.path).length<=100)
def Tu :sQ:=(bH E9 D7).2
def Ts :sQ:=(bH C6 FZ).2
theorem Tt :Tu.n=1:=aw2
theorem Tr :Ts.n=1:=aw4
structure J9 (s:bJ):Prop where
 aD:dK s.aD
 gone:s.gone.length<=9223372036854775807
 host:nB s.a.host
 path:nB s.a.path
theorem rG (s:bJ):∀(l:List bJ) (M:bL),aY M (l++[s])=((bH (aY M l).1 s).1,(aY M l).2++[(bH (aY M l).1 s).2])
 |[],M=>rfl
 |x::l,M=>by
  have h:=rG s l (bH M x).1;simp only[BY,aY,h]
theorem EJ (l':List bJ):∀(l:List bJ) (M:bL),aY M (l++l')=((aY (aY M l).1 l').1,(aY M l).2++(aY (aY M l).1 l').2)
 |[],M=>rfl
 |x::l,M=>by
  have h:=EJ l' l (bH M x).1;simp only[BY,aY,h]
theorem LZ :∀(l:List bJ) (M:bL),(aY M l).2.length=l.length
 |[],_=>rfl
 |x::l,M=>by simp only[aY,kE,LZ l]
theorem uW {M:bL}{B:Int}(hM:cN M B)(s:bJ):(bH M s).1.ns.length=M.ns.length:=by
 unfold bH;split
 ·rfl
 split
 ·rfl
 split
 ·unfold sU;dsimp only;split
  ·rfl
  ·exact(LX M.c.max (H9 hM.p s.aD s.gone) M.ns M.lost 0 hM.ok).2.1
 split
 ·exact(LA M.ns M.lost 0 hM.ok).2.1
 split
 ·rfl
 ·split
  ·rfl
  ·simp
theorem mG {M:bL}{B:Int}:∀(l:List bJ),cN M B->(∀s∈l,eK s)->cN (aY M l).1 (B+12*l.length)/\(aY M l).1.ns.length=M.ns.length:=by
 intro l;induction l generalizing M B with
 |nil=>intro h _;exact⟨by simpa[aY]using h,rfl⟩
 |cons x l ih=>
  intro h hs;have h1:=h.step (hs x xF);have h2:=ih h1 (fun s hm=>hs s (xG _ hm));refine⟨?_,?_⟩
  ·have e:B+12*((x::l).length:Int)=B+12+12*(l.length:Int):=by simp;omega
   rw[e];exact h2.1
  ·show(aY (bH M x).1 l).1.ns.length=_;rw[h2.2,uW h]
def gA (M:bL)(i:Nat):List D:=gG (nth M i)
def aI (M:bL):Nat->Nat->List (List D)
 |_,0=>[]
 |i,k+1=>gA M i::aI M (i+1) k
theorem Lg {M:bL}:∀(k i:Nat) (l:List Node),M.ns.drop i=l->l.length=k->l.map gG=aI M i k
 |0,i,l,_,h=>by rw[jL h];rfl
 |k+1,i,[],_,h=>by simp at h
 |k+1,i,x::l,hd,h=>by
  have e1:M.ns[i]? =some x:=by
   have:(M.ns.drop i)[0]? =some x:=by rw[hd];rfl
   simpa using this
  have e2:M.ns.drop (i+1)=l:=by
   have:=dH List.tail hd;simpa[List.tail_drop]using this
  show gG x::l.map gG=gA M i::aI M (i+1) k;rw[Lg k (i+1) l e2 (by simpa using h)];have:nth M i=x:=by simp[nth,List.getD,e1]
  rw[gA,this]
theorem x7 {M:bL}{k:Nat}(h:M.ns.length=k):M.ns.map gG=aI M 0 k:=Lg k 0 M.ns (by simp) h

end Go.G
