/- LAYERS 10 to 24, plainly -/
import Derived.Test.YtobcmagefgdgdaaGreatDoorPs
set_option linter.unusedSimpArgs false
set_option linter.unusedVariables false
set_option maxRecDepth 100000
set_option maxHeartbeats 8000000
namespace Go.G
open Go.AI
def o5 :Nat->Nat->List UInt8
 |0,_=>[]
 |f+1,n=>if n<128 then [UInt8.ofNat n]else UInt8.ofNat (n%128+128)::o5 f (n/128)
def kZ (n:Int):Int:=max 0 (min n 2147483647)
def aL (n:Int):List UInt8:=o5 5 (kZ n).toNat
def cY (s:Str):List UInt8:=aL (bs s).length++bs s
def bK {α:Type}(l:List α)(lay:α->List UInt8):List UInt8:=aL l.length++l.flatMap lay
def jA (w:Weight):List UInt8:=cY w.fT++aL w.w
def jJ (r:cH):List UInt8:=cY r.host++cY r.pre++bK r.split jA
def jQ (r:aC):List UInt8:=
 if r.kind=0 then aL r.port++cY r.to else if r.kind=1 then bK r.rules jJ else if r.kind=2 then cY r.to else bK r.bH aL
def fD (r:aC):List UInt8:=aL r.kind++cY r.name++aL r.bR++jQ r
def dK (k:Key):List UInt8:=aL k.kind++cY k.name
def jE (m:Mark):List UInt8:=dK m.k++aL m.bR
def kB (f:Frame):List UInt8:=
 if f.type=0 then bK f.aP jE
 else if f.type=1 then aL f.kind++aL f.cN++bK f.aD fD++bK f.gone dK
 else if f.type=2 then aL f.kind++aL f.cN++aL f.err++aL f.turn++bK f.held dK
 else aL f.turn++bK f.held dK
def j3 (f:Frame):List UInt8:=aL f.type++aL f.aM++kB f
def oF (l:List UInt8):List UInt8:=aL l.length++l
def kU (f:Frame):List UInt8:=oF (j3 f)
theorem Kg :∀(f n:Nat),(o5 f n).length<=f
 |0,_=>bY _
 |f+1,n=>by
  unfold o5;split
  ·simp
  ·have:=Kg f (n/128);simp;omega
theorem cO (n:Int):(aL n).length<=5:=Kg _ _
theorem WY (f n:Nat)(h:n<128):o5 (f+1) n=[UInt8.ofNat n]:=by simp[o5,h]
theorem Kf (f n:Nat)(h:¬n<128):o5 (f+1) n=UInt8.ofNat (n%128+128)::o5 f (n/128):=by simp[o5,h]
theorem J2 (n:Nat)(h:n<256):((UInt8.ofNat n).toNat:Int)=n:=by
 simp[UInt8.toNat_ofNat];omega
theorem wrap_u8 (n:Int):IntKind.wrap .u8 n=n%256:=rfl
theorem Kx (n:Nat)(h:n<2^64):(BitVec.ofInt 64 (n:Int)).toNat=n:=by simp_all
theorem Ir (a b:Nat)(ha:a<2^62)(hb:b<2^62):HM .i64 (a:Int) (b:Int)=((a|||b:Nat):Int):=by
 have h1:a|||b<2^62:=Nat.or_lt_two_pow ha hb
 show IntKind.wrap .i64 ((BitVec.ofInt 64 (a:Int)|||BitVec.ofInt 64 (b:Int)).toNat:Int)=_;rw[BitVec.toNat_or,Kx _ (by omega),Kx _ (by omega)];exact wz _
theorem zdP (m:Nat)(h:m<256):m|||128=m%128+128:=by
 have:∀m:Fin 256,m.val|||128=m.val%128+128:=by decide+kernel
 exact this ⟨m,h⟩
theorem Ke (n:Nat)(h:n<=34359738368):IntKind.wrap .u8 (HM .i64 (n:Int) 128)=((UInt8.ofNat (n%128+128)).toNat:Int):=by
 have e:=Ir n 128 (by omega) (by omega);rw[show((128:Nat):Int)=128 from rfl]at e;rw[e,J2 _ (by omega),wrap_u8];have:(n|||128)%256=n%128+128:=by
  have h2:=Nat.or_mod_two_pow (a:=n) (b:=128) (n:=8);rw[h2,show 128%256=128 from rfl,zdP _ (EH _ (by omega))];omega
 omega
theorem WX (n:Nat)(h:n<128):IntKind.wrap .u8 (n:Int)=((UInt8.ofNat n).toNat:Int):=by rfl
theorem Kd (n:Nat):(n:Int).fdiv (2^7)=((n/128:Nat):Int):=by grind
theorem Mh (n:Nat)(h:n<256):I4 .u8 (n:Int) 128=((n%128:Nat):Int):=by
 have:∀m:Fin 256,I4 .u8 (m.val:Int) 128=((m.val%128:Nat):Int):=by decide+kernel
 exact this ⟨n,h⟩
theorem zdR (i x y:Nat)(hx:x<2^i)(hs:x+2^i*y<2^62):HM .i64 (x:Int) ((y:Int)*2^i)=((x+2^i*y:Nat):Int):=by
 have e:(y:Int)*2^i=((2^i*y:Nat):Int):=by grind
 rw[e,Ir _ _ (by omega) (by omega)];rw[Nat.or_comm,<-Nat.two_pow_add_eq_or_of_lt hx];omega
theorem Ro (n:Int):(if 0<(if 2147483647<n then 2147483647 else n)then(if 2147483647<n then(2147483647:Int)else n)else 0)=kZ n:=by
 unfold kZ;omega
theorem IX (n:Int):∃m:Nat,kZ n=m/\m<=2147483647/\aL n=o5 5 m:=⟨(kZ n).toNat,by unfold kZ;omega,by unfold kZ;omega,rfl⟩
theorem SK {n:Int}(h0:0<=n)(h:n<=2147483647):kZ n=n:=by unfold kZ;omega
theorem Cw (s:Str):strCells s=(bs s).map aV:=by simp[SC,bs,aV]
structure x8 (m:Nat)(q:List UInt8)(n f:Nat):Prop where
 e:q++o5 f n=o5 5 m
 f1:1<=f
 n1:n<128^f
 l:q.length+f=5
theorem x8.start {m:Nat}(h:m<=2147483647):x8 m [] m 5:=⟨rfl,by omega,by omega,rfl⟩
theorem x8.step {m n f:Nat}{q:List UInt8}(h:x8 m q n f)(h1:¬n<128):x8 m (q++[UInt8.ofNat (n%128+128)]) (n/128) (f-1):=by
 obtain⟨f,rfl⟩:∃g,f=g+1:=⟨f-1,by have:=h.f1;omega⟩;have e:=h.e;have l:=h.l;have n1:=h.n1;have f2:1<=f:=by
  grind
 rw[Kf _ _ h1]at e;refine⟨by simpa using e,by simpa using f2,?_,by simp;omega⟩
 grind
theorem x8.last {m n f:Nat}{q:List UInt8}(h:x8 m q n f)(h1:n<128):q++[UInt8.ofNat n]=o5 5 m:=by
 obtain⟨f,rfl⟩:∃g,f=g+1:=⟨f-1,by have:=h.f1;omega⟩;have e:=h.e
 rwa[WY _ _ h1]at e
theorem x8.small {m n f:Nat}{q:List UInt8}(h:x8 m q n f):n<=34359738368:=by
 have h1:=h.n1;have h2:=h.l;have:128^f<=128^5:=Nat.pow_le_pow_right (by omega) (by omega);omega
theorem zhL (a b:Nat)(h:a<=5):∃M:Nat,(if 5<(a:Int)+b then(5:Int)else a+b)=M/\a<=M/\M<=5/\min M (a+b)=M:=by grind
structure wW (m:Nat)(q:List UInt8)(k n0 r:Nat):Prop where
 e:q.drop k=o5 (5-k) r
 k4:k<=4
 m:m=n0+2^(7*k)*r
 n0:n0<2^(7*k)
 pos:0<k->0<r
 r:r<128^(5-k)
theorem wW.start {m:Nat}(h:m<=2147483647):wW m (o5 5 m) 0 0 m:=⟨rfl,by omega,by simp,by simp,by omega,by show m<128^5;omega⟩
theorem wW.small {m k n0 r:Nat}{q:List UInt8}(h:wW m q k n0 r)(hm:m<=2147483647):n0<=2147483647:=by have:=h.m;omega
theorem wW.last {m k n0 r:Nat}{q:List UInt8}(h:wW m q k n0 r)(hr:r<128):q[k]? =some (UInt8.ofNat r)/\q.length=k+1:=by
 have e:=h.e;have hk:=h.k4;obtain⟨f,hf⟩:∃f,5-k=f+1:=⟨4-k,by omega⟩;rw[hf,WY _ _ hr]at e;have e1:(q.drop k)[0]? =q[k]? :=by simp
 grind
theorem wW.more {m k n0 r:Nat}{q:List UInt8}(h:wW m q k n0 r)(hr:¬r<128):
  q[k]? =some (UInt8.ofNat (r%128+128))/\k+1<q.length/\wW m q (k+1) (n0+2^(7*k)*(r%128)) (r/128):=by
 have e:=h.e;have hk:=h.k4;obtain⟨f,hf⟩:∃f,5-k=f+1:=⟨4-k,by omega⟩;have hr2:=h.r;rw[hf]at hr2;have f0:1<=f:=by
  grind
 have e1:(q.drop k)[0]? =q[k]? :=by simp
 rw[hf,Kf _ _ hr]at e;have e3:q.drop (k+1)=o5 f (r/128):=by
  have:=jW (List.drop 1) e;simpa using this
 have hl:0<(o5 f (r/128)).length:=by
  obtain⟨g,rfl⟩:∃g,f=g+1:=⟨f-1,by omega⟩;unfold o5;split<;>simp
 have e2:=jW List.length e3;simp at e2;rw[e]at e1;have p:2^(7*(k+1))=2^(7*k)*128:=by rw[show 7*(k+1)=7*k+7 by omega,Nat.pow_add]
 refine⟨by simpa using e1.symm,by omega,⟨by rw[e3,show 5-(k+1)=f by omega],by omega,?_,?_,λ_=>by omega,?_⟩⟩
 ·rw[h.m,p,Nat.mul_assoc,Nat.add_assoc,<-Nat.mul_add];congr 2;omega
 ·rw[p];have:=h.n0;have h2:r%128<128:=EH _ (by omega);have h3:2^(7*k)*(r%128)<=2^(7*k)*127:=Nat.mul_le_mul_left _ (by omega);omega
 ·rw[show 5-(k+1)=f by omega];rw[Nat.pow_succ]at hr2;exact TL (by rw[uO];exact hr2)
theorem Ig {k n0 c:Nat}(hk:k<=4)(h0:n0<2^(7*k))(hc:c<128):
  IntKind.wrap .i64 ((c:Int)*2^(7*k))=(c:Int)*2^(7*k)/\HM .i64 (n0:Int) ((c:Int)*2^(7*k))=((n0+2^(7*k)*c:Nat):Int):=by
 have h1:2^(7*k)<=2^28:=Nat.pow_le_pow_right (by omega) (by omega);have h2:2^(7*k)*c<=2^28*127:=Nat.mul_le_mul h1 (by omega);refine⟨?_,zdR _ _ _ h0 (by omega)⟩;have e:(c:Int)*2^(7*k)=((2^(7*k)*c:Nat):Int):=by grind
 exact wz _
theorem RP (x t:List UInt8):List.drop x.length (List.take ((x.length:Int)+t.length).toNat (List.map aV x++List.map aV t))=List.map aV t:=by
 rw[show((x.length:Int)+t.length).toNat=x.length+t.length by omega,JK (by simp),List.drop_append_of_le_length (by simp)];simp
theorem Bs (s:Str):(⟨(CS ((bs s).map aV)).toArray⟩:Str)=s:=by
 have e:CS ((bs s).map aV)=bs s:=by simp[CS,Function.comp_def]
 rw[e];exact DY rfl
theorem uG {α:Type}{lay:α->List UInt8}{m:Nat}:∀(l:List α),(∀y∈l,(lay y).length<=m)->(l.flatMap lay).length<=l.length*m
 |[],_=>by simp
 |x::l,h=>by
  have h1:=h x (by simp);have h2:=uG l λy hy=>h y (by simp[hy]);simp only[TP,bZ,jI,kC];omega
theorem FN {α:Type}{lay:α->List UInt8}{m:Nat}(l:List α)(k:Nat)(h:∀y∈l,(lay y).length<=m):((l.take k).flatMap lay).length<=l.length*m:=
 dH (uG _ λy hy=>h y (pY hy)) (oQ _ (by simp;omega))
theorem pC {α:Type}{lay:α->List UInt8}{m:Nat}{l:List α}(h:∀y∈l,(lay y).length<=m):(bK l lay).length<=5+l.length*m:=by
 have h1:=cO l.length;have h2:=uG l h;simp only[bK,bZ];omega
theorem Wt {α:Type}(l:List α):l.take (if 64<(l.length:Int)then(64:Int)else l.length).toNat=l.take 64:=by
 split
 ·rfl
 ·rw[JK (by omega),JK (by omega)]
theorem Cm {α β:Type}(f:α->β)(l:List α):(l.map f).take (if 64<(l.length:Int)then(64:Int)else l.length).toNat=(l.map f).take 64:=by
 have:=Wt (l.map f)
 rwa[zD]at this
theorem Jp (k:Key):eN k=(decide (0<=k.kind)&&decide (k.kind<4)&&fI k.name):=by
 simp only[eN,bG]
 grind
theorem eC {n m:Int}(h:n<=m)(h0:0<=m)(hm:m<=2147483647):n<=kZ m:=by rw[SK h0 hm];exact h
theorem xV {α:Type}{lay:α->List UInt8}{m:Nat}(l:List α)(k:Nat)(h:∀y∈l,(lay y).length<=m):((l.drop k).flatMap lay).length<=l.length*m:=
 dH (uG _ λy hy=>h y (yB hy)) (oQ _ (by simp))
theorem P7 {s:Str}(h:fI s=true):(bs s).length<=12:=by
 simp only[fI,lW,bL,dA]at h;exact h.1.1.2
theorem Xh {s:Str}(h:bs s=[]):s=⟨#[]⟩:=DY h
structure TA (w:Weight):Prop where
 c:(bs w.fT).length<=12
 w0:0<=w.w
 w1:w.w<=100
structure I9 (r:cH):Prop where
 host:(bs r.host).length<=40
 pre:(bs r.pre).length<=40
 split:r.split.length<=4
 each:∀w∈r.split,TA w
structure Z8 (r:aC):Prop where
 k0:0<=r.kind
 k3:r.kind<=3
 name:(bs r.name).length<=12
 v0:0<=r.bR
 v1:r.bR<=2147483647
 p0:0<=r.port
 p1:r.port<=65535
 to:(bs r.to).length<=12
 rules:r.rules.length<=8
 rule:∀x∈r.rules,I9 x
 bH:r.bH.length<=8
 host:∀h∈r.bH,0<=h/\h<=2147483647
 HX:r.kind≠0->r.port=0
 PU:r.kind≠0->r.kind≠2->r.to=⟨#[]⟩
 iF:r.kind≠1->r.rules=[]
 HY:r.kind≠3->r.bH=[]
theorem uY {r:aC}(h:cQ r=0):Z8 r:=by
 obtain⟨h1,h2,h3,h4,h5,-⟩:=xC h;obtain⟨k0,k3⟩:=lI.1 h1;simp only[fO,bL,dA,dP,nA]at h3;obtain⟨⟨⟨⟨⟨s1,s2⟩,s3⟩,s4⟩,s5⟩,s6⟩:=h3;simp only[gK,bL,sO,dA,j4,iH,jC,j5]at h4;obtain⟨⟨⟨p1,p2⟩,p3⟩,p4⟩:=h4;simp only[mS,bL,sO,iH,dP,jS]at h5;obtain⟨n1,n2⟩:=h5;have v:=lI.1 s1;have p:=lI.1 s2;refine⟨k0,k3,P7 h2,v.1,v.2,p.1,p.2,?_,s3,λx hx=>?_,s4,λy hy=>lI.1 (s5 y hy),λhk=>?_,λha hb=>?_,λhk=>?_,λhk=>?_⟩
 ·rcases p2 with q|q
  ·rw[q];simp
  ·rcases n1 with g|g
   ·simp_all
   ·exact P7 g
 ·obtain⟨⟨a1,a2⟩,a3⟩:=n2 x hx;obtain⟨b1,b2⟩:=s6 x hx;simp only[j8,bL,dA]at a1;simp only[kL,bL,dA]at a2;refine⟨a1.1,a2.1.1.2,b1,λw hw=>?_⟩;have:=lI.1 (b2 w hw);exact⟨P7 (a3 w hw),this.1,this.2⟩
 ·rcases p1 with q|q<;>omega
 ·rcases p2 with q|q
  ·exact Xh q
  ·rcases q with q|q<;>omega
 ·rcases p3 with q|q
  ·exact kH q
  ·omega
 ·rcases p4 with q|q
  ·exact kH q
  ·omega
theorem mG {s:Str}{n:Nat}(h:(bs s).length<=n):(cY s).length<=5+n:=by
 have:=cO (bs s).length;simp only[cY,bZ];omega
theorem GI {w:Weight}(h:TA w):(jA w).length<=22:=by
 have h1:=mG h.c;have h2:=cO w.w;simp only[jA,bZ];omega
theorem KM {r:cH}(h:I9 r):(jJ r).length<=183:=by
 have h1:=mG h.host;have h2:=mG h.pre;have h3:=pC (l:=r.split) (lay:=jA) (m:=22) λw hw=>GI (h.each w hw);have h4:=h.split;simp only[jJ,bZ];omega
theorem UP {r:aC}(h:Z8 r):(jQ r).length<=1469:=by
 have h1:=mG h.to;have h2:=cO r.port;have h3:=pC (l:=r.rules) (lay:=jJ) (m:=183) λw hw=>KM (h.rule w hw);have h4:=h.rules;have h5:=pC (l:=r.bH) (lay:=aL) (m:=5) λw _=>cO w;have h6:=h.bH;unfold jQ
 grind
theorem A9 {r:aC}(h:Z8 r):(fD r).length<=1496:=by
 have h1:=UP h;have h2:=cO r.kind;have h3:=mG h.name;have h4:=cO r.bR;simp only[fD,bZ];omega
theorem ID {k:Key}(h:eN k=true):0<=k.kind/\k.kind<=3/\(bs k.name).length<=12:=by
 simp only[eN,bL]at h;have:=lI.1 h.1;exact⟨this.1,this.2,P7 h.2⟩
theorem uE {k:Key}(h:eN k=true):(dK k).length<=22:=by
 have h1:=cO k.kind;have h2:=mG (ID h).2.2;simp only[dK,bZ];omega
theorem E9 {m:Mark}(h:eN m.k=true):(jE m).length<=27:=by
 have h1:=uE h;have h2:=cO m.bR;simp only[jE,bZ];omega
theorem BA {f:Frame}(h:Ac f):(j3 f).length<=99000:=by
 obtain⟨a1,a2,a3,a4,-⟩:=sV h.small;have hn:=h.named;simp only[kN,bL,dP]at hn;have b1:=pC (l:=f.aD) (lay:=fD) (m:=1496) λr hr=>A9 (uY (h.aD r hr));have b2:=pC (l:=f.gone) (lay:=dK) (m:=22) λr hr=>uE (hn.1.1 r hr);have b3:=pC (l:=f.held) (lay:=dK) (m:=22) λr hr=>uE (hn.1.2 r hr);have b4:=pC (l:=f.aP) (lay:=jE) (m:=27) λr hr=>E9 (hn.2 r hr);have c1:=cO f.type;have c2:=cO f.aM;have c3:=cO f.kind;have c4:=cO f.cN;have c5:=cO f.err;have c6:=cO f.turn;unfold j3 kB
 grind
theorem zeH {n:Int}(h0:0<=n)(h:n<128):aL n=[UInt8.ofNat n.toNat]:=by
 obtain⟨m,e0,e1,e2⟩:=IX n;rw[SK h0 (by omega)]at e0;subst e0;rw[e2,WY _ _ (by omega)];rfl
structure zlB (f:Frame):Prop where
 ty:f.type=0\/f.type=1\/f.type=2\/f.type=3
 k0:0<=f.kind
 k3:f.kind<=3
 e0:0<=f.aM
 e1:f.aM<=2147483647
 n0:0<=f.cN
 n1:f.cN<=2147483647
 t0:0<=f.turn
 t1:f.turn<=2147483647
 r0:0<=f.err
 r1:f.err<=15
 la:f.aD.length<=64
 lg:f.gone.length<=64
 lh:f.aP.length<=64
 ld:f.held.length<=64
 gone:∀k∈f.gone,eN k=true
 held:∀k∈f.held,eN k=true
 aP:∀m∈f.aP,eN m.k=true/\0<=m.bR/\m.bR<=2147483647
 aD:∀r∈f.aD,cQ r=0
 s0:f.type=0->f.kind=0/\f.cN=0/\f.turn=0/\f.aD=[]/\f.gone=[]/\f.err=0/\f.held=[]
 s1:f.type=1->f.turn=0/\f.err=0/\f.aP=[]/\f.held=[]
 s2:f.type=2->f.aD=[]/\f.gone=[]/\f.aP=[]
 s3:f.type=3->f.kind=0/\f.cN=0/\f.aD=[]/\f.gone=[]/\f.err=0/\f.aP=[]
theorem LJ {f:Frame}(h:Ac f):zlB f:=by
 obtain⟨a1,a2,a3,a4,a5,a6,a7,a8,a9⟩:=sV h.small;have hn:=h.named;simp only[kN,bL,dP]at hn;have hk:=lI.1 h.kind;have b6:=lI.1 a6;have b7:=lI.1 a7;have b8:=lI.1 a8;have b9:=lI.1 a9;have hs:=lS h.shaped;obtain⟨ty,ep,k,n,t,ad,go,er,hv,hd⟩:=f;refine⟨VU h.type,hk.1,hk.2,b6.1,b6.2,b7.1,b7.2,b8.1,b8.2,b9.1,b9.2,a1,a2,a3,a4,hn.1.1,hn.1.2,λm hm=>⟨hn.2 m hm,lI.1 (a5 m hm)⟩,h.aD,?_,?_,?_,?_⟩;all_goals
  intro h0;subst h0;simp[sH,eV]at hs;simp[hs]
structure eS where
 aM:Int
 q:List (List UInt8)
@[simp] def CT (b:List UInt8):List D:=[lD (b.map aV)]
@[simp] theorem lenAll_tx (l:List (List UInt8)):iY (l.map CT) 1=True:=tZ (f:=CT) (n:=1) (λ_=>rfl) l
@[simp] def iJ (l:eS):List D:=[iD l.aM,lD (l.q.map CT)]
def uX (l:eS):Bool:=bG l.aM 2147483647&&decide (l.q.length<=32)
def gD (l:eS):eS:=if uX l then l else⟨0,[]⟩
def ET (l:eS)(b:List UInt8):eS×Int:=if 32<=l.q.length then(l,8)else(⟨l.aM,l.q++[b]⟩,0)
def qB (l:eS)(b:List UInt8):eS×Int:=ET (gD l) b
def mR (l:eS)(i:Int):Nat:=((max 0 i).tmod l.q.length).toNat
def EP (l:eS)(i:Int):eS×List UInt8×Int:=if l.q=[]then(l,[],10)else(⟨l.aM,l.q.take (mR l i)++l.q.drop (mR l i+1)⟩,l.q.getD (mR l i) [],0)
def rT (l:eS)(i:Int):eS×List UInt8×Int:=EP (gD l) i
def DV (l:eS)(i:Int):eS×Int:=((rT l i).1,(rT l i).2.2)
def D5 (l:eS)(i:Int):eS×Int:=if(gD l).q=[]then(gD l,10)else qB (gD l) ((gD l).q.getD (mR (gD l) i) [])
def DM (l:eS)(i:Int):eS×Int:=if(gD l).q=[]then(gD l,10)else qB (rT l i).1 (rT l i).2.1
def C8 (l:eS):eS×Int:=if(gD l).aM=2147483647 then(gD l,14)else(⟨(gD l).aM+1,[]⟩,0)
structure tK (l:eS):Prop where
 len:l.q.length<=1000000
 q:∀b∈l.q,b≠[]/\b.length<=200000
theorem tK.sound {l:eS}(h:tK l):tK (gD l):=by
 unfold gD;split
 ·exact h
 ·exact⟨by simp,by simp⟩
theorem ER (l:eS):(gD l).q.length<=32:=by
 unfold gD;split
 ·rename_i h;simp only[uX,bL,dA]at h;exact h.2
 ·simp
theorem U4 (l:eS):0<=(gD l).aM/\(gD l).aM<=2147483647:=by
 unfold gD;split
 ·rename_i h;simp only[uX,bL]at h;exact lI.1 h.1
 ·simp
theorem Fa {l:eS}:uX l=true↔(0<=l.aM/\l.aM<=2147483647)/\l.q.length<=32:=by simp[uX,lI]
theorem Zj (l:eS):gD (gD l)=gD l:=by
 have h:uX (gD l)=true:=Fa.2 ⟨U4 l,ER l⟩;rw[gD,aZ h]
theorem E6 {l:eS}(i:Int)(h:l.q≠[]):mR l i<l.q.length:=by
 have h1:0<l.q.length:=vS.2 h;unfold mR;have:=Int.tmod_lt_of_pos (max 0 i) (b:=(l.q.length:Int)) (by omega);omega
theorem zdn {l:eS}(i:Int)(h:l.q≠[]):(max 0 i).tmod (l.q.length:Int)=(mR l i:Int):=by
 unfold mR;have h3:=Int.tmod_nonneg (a:=max 0 i) (l.q.length:Int) (by omega);omega
theorem Fb (l:eS):uX l=(decide (0<=l.aM)&&decide (l.aM<=2147483647)&&decide ((l.q.length:Int)<=32)):=by
 simp only[uX,bG]
 grind
theorem Ez {l:eS}(h:uX l=false):gD l=⟨0,[]⟩:=by simp[gD,h]
theorem VM {l:eS}(h:uX l=true):gD l=l:=by simp[gD,h]
theorem KK {l:eS}{b:List UInt8}(h:32<=l.q.length):ET l b=(l,8):=aZ h
theorem GX {l:eS}{b:List UInt8}(h:¬32<=l.q.length):ET l b=(⟨l.aM,l.q++[b]⟩,0):=aT h
theorem Hx {l:eS}(i:Int)(h:l.q≠[]):(if 0<i then i else 0).tmod (l.q.length:Int)=(mR l i:Int):=by
 rw[show(if 0<i then i else 0)=max 0 i by omega];exact zdn i h
theorem NQ {e i:Int}:EP ⟨e,[]⟩ i=(⟨e,[]⟩,[],10):=aZ rfl
theorem J5 {l:eS}{i:Int}(h:l.q≠[]):EP l i=(⟨l.aM,l.q.take (mR l i)++l.q.drop (mR l i+1)⟩,l.q.getD (mR l i) [],0):=aT h
theorem tK.getD {l:eS}(h:tK l){k:Nat}(hk:k<l.q.length):l.q.getD k []≠[]/\(l.q.getD k []).length<=200000:=by
 have:l.q.getD k []=l.q[k]:=by simp[hk]
 rw[this];exact h.q _ (mF hk)
theorem tK.take {l:eS}(h:tK l)(i:Int):tK (EP l i).1:=by
 unfold EP;split
 ·exact h
 ·refine⟨?_,λb hb=>?_⟩
  ·have:=h.len;simp;omega
  ·rcases gU.1 hb with g|g
   ·exact h.q b (pY g)
   ·exact h.q b (yB g)
def lJ (s p:Str):Bool:=decide ((bs p).length<=(bs s).length)&&decide ((bs s).take (bs p).length=bs p)
def zK (s p:Str):Bool:=decide ((bs p).length<=(bs s).length)&&decide ((bs s).drop ((bs s).length-(bs p).length)=bs p)
def rL (s p:Str):Str:=if lJ s p then s.extract (bs p).length (bs s).length else s
def rF (p h:Str):Bool:=
 if(!j8 p|| !j8 h||lJ h ⟨#[42]⟩)=true then false else if(decide (p=⟨#[42]⟩)||decide (p=h))=true then true
 else lJ p ⟨#[42]⟩&&decide ((bs (rL p ⟨#[42]⟩)).length<(bs h).length)&&zK h (rL p ⟨#[42]⟩)
def rQ (p s:Str):Bool:=
 if(!lJ s p|| !kL p|| !kL s)=true then false else decide (rL s p=⟨#[]⟩)||zK p ⟨#[47]⟩||lJ (rL s p) ⟨#[47]⟩
def pZ (s:Str):Int:=if s=⟨#[42]⟩then 0 else if lJ s ⟨#[42,46]⟩=true then(bs s).length else 9223372036854775807
def FX (a b:Int):Int:=if a<b then-1 else if b<a then 1 else 0
def tY (a b:Str):Int:=FX (pZ a) (pZ b)
def pU (a b:cH):Bool:=if 0<tY a.host b.host then true else if tY a.host b.host<0 then false else decide ((bs b.pre).length<(bs a.pre).length)
def oR :cH:=⟨⟨#[]⟩,⟨#[]⟩,[]⟩
def lM (may:cH->Bool)(z:cH×Bool)(x:cH):cH×Bool:=if may x&&(!z.2||pU x z.1)then(x,true)else z
def tT (l:List cH)(host path:Str):cH×Bool:=l.foldl (lM λr=>rF r.host host&&rQ r.pre path) (oR,false)
def lT (w:Weight):Int:=max 0 (min w.w 100)
def l7 (l:List Weight):Int:=l.foldl (λn w=>n+lT w) 0
def vN :List Weight->Int->Str×Bool
 |[],_=>(⟨#[]⟩,false)
 |w::l,left=>if left-lT w<0 then(w.fT,true)else vN l (left-lT w)
def DX (l:List Weight)(draw:Int):Str×Bool:=if l7 l=0 then(⟨#[]⟩,false)else vN l ((max 0 draw).tmod (l7 l))
def yS (l:List Int)(draw:Int):Int×Bool:=if l=[]then(0,false)else(l.getD ((max 0 draw).tmod l.length).toNat 0,true)
def yN (l:List aC)(port:Int):Option aC:=l.find? λr=>decide (r.kind=0)&&decide (r.port=port)
theorem LP (s:Str)(n:Nat):bs (s.extract n (bs s).length)=(bs s).drop n:=by rw[AD,bX]
theorem Rn (n:Int):(if 0<(if 100<n then 100 else n)then(if 100<n then(100:Int)else n)else 0)=max 0 (min n 100):=by omega
theorem NJ (l:List Weight):0<=l7 l/\l7 l<=100*l.length:=by
 have:∀(l:List Weight) (n:Int),0<=n->n<=l.foldl (λn w=>n+lT w) n/\l.foldl (λn w=>n+lT w) n<=n+100*l.length:=by
  intro l;induction l with
  |nil=>intro n h;simp
  |cons w l ih=>
   intro n h;have hw:0<=lT w/\lT w<=100:=by unfold lT;omega
   grind
 have:=this l 0 (by omega);unfold l7;omega
@[simp] theorem zRule_h :oR.host=⟨#[]⟩:=rfl
@[simp] theorem zRule_p :oR.pre=⟨#[]⟩:=rfl
@[simp] theorem zRule_s :oR.split=[]:=rfl
theorem Vq {l:List Weight}{k:Nat}{w:Weight}(h:l.take (k+1)=l.take k++[w]):l7 (l.take (k+1))=l7 (l.take k)+lT w:=by rw[h];simp[l7]
theorem NC (w:Weight):0<=lT w/\lT w<=100:=by unfold lT;omega
structure JD (l:List Weight)(n0:Int)(k:Nat)(left:Int):Prop where
 e:vN l n0=vN (l.drop k) left
 l0:0<=left
 l1:left<=n0
theorem Nv {l:List Int}(i:Int)(h:l≠[]):∃k:Nat,(if 0<i then i else 0).tmod (l.length:Int)=(k:Int)/\k<l.length/\yS l i=(l.getD k 0,true):=by
 have h1:0<l.length:=vS.2 h;rw[show(if 0<i then i else 0)=max 0 i by omega];have h2:=Int.tmod_lt_of_pos (max 0 i) (b:=(l.length:Int)) (by omega);have h3:=Int.tmod_nonneg (a:=max 0 i) (l.length:Int) (by omega);refine⟨((max 0 i).tmod l.length).toNat,by omega,by omega,?_⟩;unfold yS;rw[aT h]
theorem NI :l7 []=0:=rfl
theorem Cc (l:List Weight)(w:Weight):l7 (l++[w])=l7 l+lT w:=by simp[l7]
theorem JD.step {l:List Weight}{n0 left:Int}{k:Nat}{w:Weight}(h:JD l n0 k left)(hd:l.drop k=w::l.drop (k+1)):
  (left-lT w<0->vN l n0=(w.fT,true))/\(¬left-lT w<0->JD l n0 (k+1) (left-lT w)):=by
 have e:=h.e;have hb:=NC w;have l1:=h.l1;rw[hd]at e;refine⟨λh1=>?_,λh1=>⟨?_,by omega,by omega⟩⟩
 ·rw[e];simp[vN,h1]
 ·rw[e];simp[vN,h1]
theorem JD.last {l:List Weight}{n0 left:Int}(h:JD l n0 l.length left):vN l n0=(⟨#[]⟩,false):=by
 have:=h.e;rw[yC]at this;exact this
def qG (l:List dB)(id:Int):Nat->Int
 |0=> -1
 |k+1=>match l[k]? with
  |some s=>if s.id=id then k else qG l id k
  |none=>qG l id k
def kX (p:cM)(id:Int):Int:=qG p.aR id p.aR.length
def u6 (p:cM):cM×Int×Int:=match p.aR.getLast? with
 |none=>(p,0,10)
 |some s=>if s.pins=10000 then(p,0,14)else(⟨p.next,p.aR.dropLast++[{s with pins:=s.pins+1}]⟩,s.id,0)
def rD (p:cM):cM×Int×Int:=u6 (eY p)
def qD (p:cM)(id:Int):cM×Int:=
 if kX p id<0 then(p,10)else
  match p.aR[(kX p id).toNat]? with
  |none=>(p,10)
  |some s=>if s.pins=0 then(p,15)else
   if¬kX p id=(p.aR.length:Int)-1/\s.pins-1=0 then(⟨p.next,p.aR.eraseIdx (kX p id).toNat⟩,0)
   else(⟨p.next,p.aR.set (kX p id).toNat {s with pins:=s.pins-1}⟩,0)
def tV (p:cM)(id:Int):cM×Int:=qD (eY p) id
def BV (p:cM)(id:Int):Option (List aC):=if kX p id<0 then none else(p.aR[(kX p id).toNat]?).map dB.l
def yV (p:cM)(id:Int):Option (List aC):=BV (eY p) id
theorem WA (l:List dB)(id:Int):∀k,-1<=qG l id k/\qG l id k<k
 |0=>by simp[qG]
 |k+1=>by
  have:=WA l id k;unfold qG;cases l[k]? with
  |none=>simp only;omega
  |some s=>simp only;split<;>omega
theorem zd1 {p:cM}(h:mD p):mD (rD p).1:=by
 unfold rD;have h':=h.sound;generalize eY p=q at*;unfold u6;split
 ·exact h'
 ·rename_i s hs;split
  ·exact h'
  ·have hl:q.aR≠[]:=by intro e;rw[e]at hs;simp at hs
   have hmem:s∈q.aR:=MT hs;refine⟨λx hx=>?_,h'.next,?_⟩
   ·rcases gU.1 hx with g|g
    ·exact h'.aR x (List.dropLast_subset _ g)
    ·simp at g;subst g;exact h'.aR s hmem
   ·have:=h'.sl;simp_all
theorem PS {p:cM}(id:Int)(h:mD p):mD (tV p id).1:=by
 unfold tV;have h':=h.sound;generalize eY p=q at*;unfold qD;split
 ·exact h'
 ·split
  ·exact h'
  ·rename_i s hs;have hmem:s∈q.aR:=gT hs;split
   ·exact h'
   ·split
    ·refine⟨λx hx=>h'.aR x (Ag hx),h'.next,?_⟩;have:=h'.sl
     grind
    ·refine⟨λx hx=>?_,h'.next,by simpa using h'.sl⟩;rcases GC hx with g|g
     ·exact h'.aR x g
     ·subst g;exact h'.aR s hmem
theorem OO {n:Int}:∀{l:List dB} {a:Int},eM n a l=true->∀s∈l,0<=s.pins
 |[],_,_,s,hs=>by cases hs
 |x::l,a,h,s,hs=>by
  simp only[eM,bL,dA]at h;rcases kD.1 hs with e|e
  ·subst e;have:=h.1.1.2;split at this<;>omega
  ·exact OO h.2 s e
theorem YT {α β:Type}(l:List α)(f:α->β)(c:β):(l.map f++[c])[l.length]? =some c:=by simp
theorem zaT {α β:Type}(l:List α)(f:α->β)(c d:β):(l.map f++[c]).set l.length d=l.map f++[d]:=by simp_all
theorem Y6 {α β:Type}(f:α->β):∀(l:List α) (k:Nat),(l.map f).eraseIdx k=(l.eraseIdx k).map f
 |[],_=>by simp
 |_::_,0=>by simp
 |_::l,k+1=>by simp[Y6 f l k]
def pT (s:bS):bS×Int×Int:=({fF s with p:=(rD (fF s).p).1},(rD (fF s).p).2.1,(rD (fF s).p).2.2)
def zZ (x:bS)(id:Int):bS×List Frame×Int:=
 let q:=tV x.p id
 let y:bS:={x with p:=q.1}
 if(decide (gI q.1=gI x.p)|| !y.up||nW y)=true then(y,[],q.2)else(oT y,[⟨3,y.aM,0,0,y.turn+1,[],[],0,[],gI y.p⟩],q.2)
def nX (s:bS)(id:Int):bS×List Frame×Int:=zZ (fF s) id
structure Ask where
 port:Int
 host:Str
 path:Str
 first:Int
 other:Int
 deriving DecidableEq
structure y6 where
 what:Int
 fT:Str
 host:Int
 deriving DecidableEq
structure lQ where
 a:Ask
 stage:Int
 id:Int
 yH:Str
 fT:Str
 out:y6
 deriving DecidableEq
def cU :y6:=⟨0,⟨#[]⟩,0⟩
def sP :Ask:=⟨0,⟨#[]⟩,⟨#[]⟩,0,0⟩
@[simp] def IY (a:Ask):List D:=[iD a.port,sD a.host,sD a.path,iD a.first,iD a.other]
@[simp] def Z4 (a:y6):List D:=[iD a.what,sD a.fT,iD a.host]
@[simp] def oH (r:lQ):List D:=[iD r.a.port,sD r.a.host,sD r.a.path,iD r.a.first,iD r.a.other,iD r.stage,iD r.id,sD r.yH,sD r.fT,iD r.out.what,sD r.out.fT,iD r.out.host]
def nH (a:Ask):lQ:=⟨a,0,0,⟨#[]⟩,⟨#[]⟩,cU⟩
def lV (r:lQ):Bool:=!(decide (r.stage<0)||decide (5<r.stage)||decide (r.id<0))&&(decide (0<r.id)||decide (r.stage=0)||decide (r.stage=5))
def mL (r:lQ):lQ:=if lV r then r else nH r.a
def pK (r:lQ):Bool:=!decide ((mL r).stage=5)
structure jN where
 r:lQ
 s:bS
 told:List Frame
def nY (w:jN)(a:y6):jN:=
 if w.r.stage=0 then{w with r:={w.r with stage:=5,out:=a}}else⟨{w.r with stage:=5,out:=a},(nX w.s w.r.id).1,(nX w.s w.r.id).2.1⟩
def nO (w:jN):List aC:=(yV w.s.p w.r.id).getD []
def qO (w:jN)(k:Int)(n:Str):Option aC:=bI (nO w) ⟨k,n⟩
def vP (w:jN):jN:=
 if¬(pT w.s).2.2=0 then nY w ⟨0,⟨#[]⟩,0⟩else{w with s:=(pT w.s).1,r:={w.r with id:=(pT w.s).2.1,stage:=1}}
def zV (w:jN):jN:=match yN (nO w) w.r.a.port with
 |none=>nY w ⟨1,⟨#[]⟩,0⟩
 |some x=>{w with r:={w.r with yH:=x.to,stage:=2}}
def yG (w:jN):jN:=
 let x:=qO w 1 w.r.yH
 let u:=tT (x.getD fV).rules w.r.a.host w.r.a.path
 if(!x.isSome|| !u.2)=true then nY w ⟨2,⟨#[]⟩,0⟩else
 let c:=DX u.1.split w.r.a.first
 if c.2=false then nY w ⟨0,⟨#[]⟩,0⟩else{w with r:={w.r with fT:=c.1,stage:=3}}
def yY (w:jN):jN:=
 let c:=qO w 2 w.r.fT
 let e:=qO w 3 (c.getD fV).to
 let h:=yS (e.getD fV).bH w.r.a.other
 if(!c.isSome|| !e.isSome|| !h.2)=true then nY w ⟨0,⟨#[]⟩,0⟩else{w with r:={w.r with out:=⟨3,w.r.fT,h.1⟩,stage:=4}}
def sS (w:jN):jN:=
 if w.r.stage=0 then vP w else if w.r.stage=1 then zV w else if w.r.stage=2 then yG w else if w.r.stage=3 then yY w else if w.r.stage=4 then nY w w.r.out else w
def mH (r:lQ)(s:bS):jN:=sS ⟨mL r,fF s,[]⟩
structure Task where
 n:Int
 r:lQ
 deriving DecidableEq
@[simp] def jP (t:Task):List D:=iD t.n::oH t.r
structure nK where
 next:Int
 tasks:List Task
 done:List Task
@[simp] def rC (p:nK):List D:=[iD p.next,lD (p.tasks.map jP),lD (p.done.map jP)]
structure AL (p:nK):Prop where
 n0:0<=p.next
 n1:p.next<=100000
 lt:p.tasks.length<=64
 ld:p.done.length<=1000
 up:p.tasks.Pairwise (λa b=>a.n<b.n)
 nd:(p.done.map Task.n).Nodup
 ap:∀t∈p.tasks,∀d∈p.done,t.n≠d.n
 rt:∀t∈p.tasks,1<=t.n/\t.n<=p.next
 rd:∀t∈p.done,1<=t.n/\t.n<=p.next
 run:∀t∈p.tasks,lV t.r=true/\pK t.r=true
 over:∀t∈p.done,pK t.r=false
def tR (p:nK)(a:Ask):nK×Int×Int:=
 if 64<=p.tasks.length\/p.next=100000 then(p,0,8)else(⟨p.next+1,p.tasks++[⟨p.next+1,nH a⟩],p.done⟩,p.next+1,0)
def xG (l:List Task)(t:Task):List Task:=l.drop (l.length-999)++[t]
def qI (p:nK)(draw:Int):Nat:=((max 0 draw).tmod p.tasks.length).toNat
def kK (p:nK)(s:bS)(draw:Int):nK×bS×List Frame×Int:=
 match p.tasks[qI p draw]? with
 |none=>(p,s,[],10)
 |some t=>
  let w:=mH t.r s
  if pK w.r then(⟨p.next,p.tasks.set (qI p draw) ⟨t.n,w.r⟩,p.done⟩,w.s,w.told,0)
  else(⟨p.next,p.tasks.eraseIdx (qI p draw),xG p.done ⟨t.n,w.r⟩⟩,w.s,w.told,0)
theorem dL.vW {s:bS}(h:dL s){p:cM}(hp:mD p):dL {s with p:=p}:=⟨h.c,h.cl,h.shown,hp.aR,hp.next,hp.sl⟩
theorem dL.begin {s:bS}(h:dL s):dL (pT s).1:=h.sound.vW (zd1 h.sound.pins)
theorem dL.end {s:bS}(id:Int)(h:dL s):dL (nX s id).1:=by
 unfold nX;have h':=h.sound;have h2:=h'.vW (PS id h'.pins);unfold zZ;dsimp only;split
 ·exact h2
 ·exact⟨h2.c,h2.cl,h2.shown,h2.aR,h2.next,h2.sl⟩
def kG (p:cM):Prop:=∀q∈p.aR,∀r∈q.l,cQ r=0
structure AM (r:aC):Prop where
 rules:r.rules.length<=1000000
 each:∀x∈r.rules,(bs x.host).length<=1000000/\(bs x.pre).length<=1000000
 split:∀x∈r.rules,x.split.length<=1000000
 bH:r.bH.length<=1000000
theorem AM.zero :AM fV:=⟨by simp[fV],by simp[fV],by simp[fV],by simp[fV]⟩
theorem AM.of {r:aC}(h:cQ r=0):AM r:=by
 have h:=uY h;exact⟨by have:=h.rules;omega,λx hx=>by have:=h.rule x hx;have:=this.host;have:=(h.rule x hx).pre;omega,λx hx=>by have:=(h.rule x hx).split;omega,by have:=h.bH;omega⟩
theorem kG.sound {p:cM}(h:kG p):kG (eY p):=by
 unfold eY;split
 ·exact h
 ·intro q hq;cases hq
theorem kG.get {p:cM}(h:kG p)(id:Int):∀r∈(yV p id).getD [],cQ r=0:=by
 have h':=h.sound;unfold yV BV;generalize eY p=q at h'⊢;split
 ·simp_all
 ·cases e:q.aR[(kX q id).toNat]? with
  |none=>intro r hr;cases hr
  |some s=>exact h' s (gT e)
theorem LH {p:cM}(h:mD p)(id:Int):((yV p id).getD []).length<=64:=by
 have h':=h.sound.aR;unfold yV BV
 grind
theorem RA {l:List aC}(h:∀r∈l,cQ r=0)(k:Key):AM ((bI l k).getD fV):=by
 cases e:bI l k with
 |none=>exact .zero
 |some x=>exact .of (h x (BU e))
theorem zbX (l:List cH)(h s:Str):(tT l h s).1=oR\/(tT l h s).1∈l:=by
 have:∀(m:List cH) (z:cH×Bool),(z.1=oR\/z.1∈l)->(∀x∈m,x∈l)->((m.foldl (lM λr=>rF r.host h&&rQ r.pre s) z).1=oR\/(m.foldl (lM λr=>rF r.host h&&rQ r.pre s) z).1∈l):=by
  intro m;induction m with
  |nil=>intro z hz _;exact hz
  |cons x m ih=>
   intro z hz hm;refine ih _ ?_ (λy hy=>hm y (JO _ hy));unfold lM
   grind
 exact this l _ (.inl rfl) λ_ h=>h
theorem Fq {r:aC}(hr:AM r)(h s:Str):(tT r.rules h s).1.split.length<=1000000:=by
 rcases zbX r.rules h s with e|e
 ·rw[e];simp
 ·exact hr.split _ e
@[simp] def Az (w:jN):List D:=oH w.r++dU w.s++[lD (w.told.map cA)]
theorem kG.fF {s:bS}(h:kG s.p):kG (Go.G.fF s).p:=by
 unfold Go.G.fF;split
 ·exact h
 ·intro q hq;simp[r8]at hq
theorem Dh (r:lQ):(mL r).a=r.a:=by unfold mL nH;split<;>rfl
theorem Pb {S:List Int}{l:List Task}{k:Nat}{x:Task}(h:(S++l.map Task.n).Nodup)(hr:l[k]? =some x):x.n∉S++(l.take k).map Task.n:=by
 intro hm;obtain⟨hS,hl,hd⟩:=List.nodup_append.1 h;have hxm:x.n∈l.map Task.n:=fU.2 ⟨x,gT hr,rfl⟩;rcases gU.1 hm with g|g
 ·exact hd _ g _ hxm rfl
 ·have hk:=(cE.1 hr).1;have e:l.map Task.n=(l.take k).map Task.n++x.n::(l.drop (k+1)).map Task.n:=by
   conv=>lhs;rw[<-List.take_append_drop k l,CJ]
   rw[tP hk];have:l[k]=x:=by rw[bO hk]at hr;exact mW hr
   rw[this];rfl
  rw[e]at hl;exact(List.nodup_append.1 hl).2.2 _ g _ JN rfl
theorem W4 {l:List Task}(h:l.Pairwise λa b=>a.n<b.n):(l.map Task.n).Nodup:=by
 rw[List.nodup_iff_pairwise_ne,List.pairwise_map];exact h.imp λh=>by omega
theorem zeN {p:nK}(h:AL p):(p.tasks.map Task.n++p.done.map Task.n).Nodup:=by
 rw[List.nodup_append];refine⟨W4 h.up,h.nd,?_⟩;intro a ha b hb e;obtain⟨t,ht,rfl⟩:=fU.1 ha;obtain⟨d,hd,rfl⟩:=fU.1 hb;exact h.ap t ht d hd e
@[simp] theorem lenAll_task (l:List Task):iY (l.map jP) 13=True:=tZ (f:=jP) (n:=13) (λ_=>rfl) l
theorem Hz (p:nK)(draw:Int)(h:0<p.tasks.length):(if 0<draw then draw else 0).tmod (p.tasks.length:Int)=(qI p draw:Nat)/\qI p draw<p.tasks.length:=by
 rw[show(if 0<draw then draw else 0)=max 0 draw by omega];have h2:=Int.tmod_lt_of_pos (max 0 draw) (b:=(p.tasks.length:Int)) (by omega);have h3:=Int.tmod_nonneg (a:=max 0 draw) (p.tasks.length:Int) (by omega);unfold qI;omega
theorem Lt :∀(L:List aC) (l:List aC) {r:aC},r∈L.foldl nN l->r∈L\/r∈l
 |[],l,r,h=>.inr h
 |x::L,l,r,h=>by
  rcases Lt L _ h with g|g
  ·exact .inl (JO _ g)
  ·rcases Lm g with g|g
   ·exact .inl (g▸JN)
   ·exact .inr g
theorem zgW {p:aW}(hp:gN p=true){l:List aC}(hl:l∈p.bA){r:aC}(hr:r∈l):cQ r=0:=by
 obtain⟨i,hi⟩:=MU.1 hl;have hh:=((oW p).1 hp);have hc:0<=p.cap:=by rw[hh.1];exact(R9 _).1
 exact NT (hh.2.2.acc hc hi).GN hr
theorem zeF {p:aW}(hp:gN p=true){m:Mark}(hm:eN m.k=true):y2 (ofM p m):=by
 have hb:y2 (vQ m):=by
  have h:=(ID hm).2.2;exact⟨by simp only[vQ];omega,by simp[vQ],by simp[vQ],by simp[vQ],by simp[vQ]⟩
 unfold ofM rK;cases e:bI ((qW p m.bR).getD []) m.k with
 |none=>exact hb
 |some r=>
  simp only;split
  ·refine WN ?_;have hr:=BU e;unfold qW at hr;rw[GZ hp]at hr;split at hr
   ·cases e2:p.bA[m.bR.toNat]? with
    |none=>rw[e2]at hr;cases hr
    |some l=>rw[e2]at hr;exact zgW hp (gT e2) hr
   ·cases hr
  ·exact hb
theorem Q6 {s:cW}{p:aW}(f:Frame)(hs:gE s=true)(ho:rP s)(hp:gN p=true):rP (handle s p f).1:=by
 have S:=mQ.1 (LD p f hs);refine⟨⟨⟨by have:=S.hl;omega,?_⟩,by have:=S.dl;omega,zcO p f hs ho.v.push⟩⟩;unfold handle;rw[GS hs];unfold mT;split
 ·exact ho.v.aP.all
 rename_i he;have F:=j9.1 (M3.1 he);split
 ·exact ho.v.aP.all
 split
 ·unfold sF;split
  ·exact ho.v.aP.all
  ·intro r hr;rcases Lt _ _ hr with g|g
   ·obtain⟨m,hm,rfl⟩:=fU.1 g;refine zeF hp ?_;have:=F.named;simp only[kN,bL,dP]at this;exact this.2 m hm
   ·cases g
 split
 ·exact ho.v.aP.all
 split
 ·unfold lP
  repeat' split
  all_goals first
   |exact ho.v.aP.all
   | (intro r hr
      rcases Si hr with g|g
      ·exact ho.v.aP.all r g
      ·exact ho.v.push.aD.all r g.2)
 ·intro r hr;refine ho.v.aP.all r ?_;simp only[B6,lZ]at hr;split at hr<;>exact hr
theorem PA {s:cW}{p:aW}(hs:gE s=true)(ho:rP s)(hp:gN p=true):gE (iL s p).1=true/\rP (iL s p).1/\(∀f∈(iL s p).2.1,dD f=0/\f.type=1/\f.aM=s.aM)/\(iL s p).2.1.length<=1/\(iL s p).1.aM=s.aM:=by
 rcases Hd hs p with⟨h1,h2⟩|⟨x,h1,h2,h3,h4,h5⟩
 ·simp_all
 ·have:=za1 hs hp h1 h3 h4;rw[h5];have S:=mQ.1 this.Bv;have l1:=S.hl;have l2:=S.dl;refine⟨this.Bv,⟨⟨⟨dH l1 (by omega),λr hr=>ho.v.aP.all r (this.Vk.1▸hr)⟩,dH l2 (by omega),?_⟩⟩,?_,by simp,rfl⟩
  ·rw[this.Vo];exact xJ this.Fe
  ·intro f hf;simp at hf;subst hf;exact⟨this.Fe,this.type,this.aM⟩
theorem kG.PC {p:cM}(h:kG p){l:List aC}(hl:∀r∈l,cQ r=0):kG (nR p l).1:=by
 have h':=h.sound;unfold nR;unfold uZ;split
 ·exact h'
 split
 ·exact h'
 ·intro x hx;rcases gU.1 hx with g|g
  ·exact h' x (mX.1 g).1
  ·simp_all
theorem kG.pin {p:cM}(h:kG p):kG (rD p).1:=by
 have h':=h.sound;unfold rD;unfold u6;split
 ·exact h'
 ·rename_i s hs;split
  ·exact h'
  ·intro x hx;rcases gU.1 hx with g|g
   ·exact h' x (List.dropLast_subset _ g)
   ·simp at g;subst g;exact h' s (MT hs)
theorem kG.rel {p:cM}(id:Int)(h:kG p):kG (tV p id).1:=by
 have h':=h.sound;unfold tV;generalize eY p=q at h'⊢;unfold qD;split
 ·exact h'
 split
 ·exact h'
 rename_i s hs;have hmem:s∈q.aR:=gT hs;split
 ·exact h'
 split
 ·intro x hx;exact h' x (Ag hx)
 ·intro x hx;rcases GC hx with g|g
  ·exact h' x g
  ·subst g;exact h' s hmem
theorem Cx (w:kS)(a:List aC)(g:List Key):∀r∈(lU w a g).1.shown,cQ r=0:=by
 obtain⟨h1,h2,_⟩:=G1.1 (UT w a g);rw[h2];intro r hr;exact NT (C4.1 h1).2.1 (mX.1 hr).1
theorem Xo {s:bS}(h:kG s.p)(f:Frame):kG (q9 s f).1.p:=by
 unfold q9;dsimp only
 repeat' split
 all_goals first
  |exact h
  |exact h.PC (Cx _ _ _)
structure oB (s:bS):Prop where
 x:dL s
 n:kG s.p
theorem oB.new (l m:Int):oB (r8 l m):=⟨.new l m,by intro q hq;simp[r8]at hq⟩
theorem oB.sound {s:bS}(h:oB s):oB (fF s):=⟨h.x.sound,h.n.fF⟩
theorem LK {p:cM}(h:mD p)(a b c d t e:Int):fJ ⟨a,b,c,d,t,[],[],e,[],gI p⟩:=⟨⟨by simp,by simp⟩,by simp,by simp,by have:=Q4 h;simp only;omega⟩
theorem oB.side {s:bS}(h:oB s)(f:Frame):oB (qA s f).1/\(∀g∈(qA s f).2.1,fJ g)/\(qA s f).2.1.length<=1:=by
 unfold qA;have h':=h.sound;generalize fF s=x at h'⊢;unfold tS;by_cases h0:rY x f=0
 ·have F:=j9.1 (VV h0);have ha:=xJ (VV h0);have hst:=h'.x.step ha.aD (show f.aD.length<=1000 by have:=(sV F.small).1;omega);have hsn:=Xo h'.n f;dsimp only
  repeat' split
  all_goals first
   |exact⟨h',by simp,by simp⟩
   | (refine⟨⟨⟨hst.c,hst.cl,hst.shown,hst.aR,hst.next,hst.sl⟩,hsn⟩,?_,by simp[rN]⟩
      intro g hg;simp only[rN,yA]at hg;subst hg;exact LK hst.pins ..)
   | (refine⟨⟨⟨h'.x.c,h'.x.cl,h'.x.shown,h'.x.aR,h'.x.next,h'.x.sl⟩,h'.n⟩,?_,by simp[rN]⟩
      intro g hg;simp only[rN,yA]at hg;subst hg;exact LK h'.x.pins ..)
 ·rw[aZ h0];exact⟨h',by simp,by simp⟩
theorem oB.connect {s:bS}(h:oB s)(ep:Int):oB (l5 s ep).1/\(∀g∈(l5 s ep).2.1,fJ g)/\(l5 s ep).2.1.length<=2:=by
 unfold l5;have h':=h.sound;generalize fF s=x at h'⊢;unfold z8;split
 ·simp_all
 split
 ·simp_all
 ·refine⟨⟨⟨h'.x.c,h'.x.cl,h'.x.shown,h'.x.aR,h'.x.next,h'.x.sl⟩,h'.n⟩,?_,by simp⟩;intro g hg;simp at hg;rcases hg with rfl|rfl
  ·exact⟨⟨by simp[DT],by simp[DT]⟩,by simp[DT],by have:=h'.x.cl;simp[DT,oT];omega,by simp[DT]⟩
  ·exact LK (p:=x.p) h'.x.pins ..
theorem oB.begin {s:bS}(h:oB s):oB (pT s).1:=⟨h.x.begin,h.sound.n.pin⟩
theorem oB.end {s:bS}(h:oB s)(id:Int):oB (nX s id).1/\(∀g∈(nX s id).2.1,fJ g)/\(nX s id).2.1.length<=1:=by
 refine⟨⟨h.x.end id,?_⟩,?_⟩
 ·unfold nX;have h':=h.sound.n.rel id;unfold zZ;dsimp only;split<;>exact h'
 ·unfold nX;have h':=PS id h.sound.x.pins;unfold zZ;dsimp only;split
  ·simp_all
  ·refine⟨?_,by simp⟩;intro g hg;simp at hg;subst hg;exact LK h' ..
structure AJ (w:jN):Prop where
 s:oB w.s
 t:∀g∈w.told,fJ g
 l:w.told.length<=1
theorem AJ.done {w:jN}(a:y6)(h:AJ w):AJ (nY w a):=by
 unfold nY;split
 ·exact⟨h.s,h.t,h.l⟩
 ·have:=h.s.end w.r.id;exact⟨this.1,this.2.1,this.2.2⟩
theorem AJ.sS {w:jN}(h:AJ w):AJ (sS w):=by
 unfold Go.G.sS vP zV yG yY;dsimp only
 repeat' split
 all_goals first
  |exact h
  |exact h.done _
  |exact⟨h.s,h.t,h.l⟩
  |exact⟨h.s.begin,h.t,h.l⟩
theorem AJ.lH {s:bS}(r:lQ)(h:oB s):AJ (mH r s):=AJ.sS (w:=⟨mL r,fF s,[]⟩) ⟨h.sound,by simp,by simp⟩
structure CE (q:nK):Prop where
 p:AL q
 a:∀t∈q.tasks,(bs t.r.a.host).length<=1000000/\(bs t.r.a.path).length<=1000000
def pI :nK:=⟨0,[],[]⟩
theorem CE.zero :CE pI:=⟨⟨by simp[pI],by simp[pI],by simp[pI],by simp[pI],by simp[pI],by simp[pI],by simp[pI],by simp[pI],by simp[pI],by simp[pI],by simp[pI]⟩,by simp[pI]⟩
theorem Ex (a:Ask):lV (nH a)=true/\pK (nH a)=true:=by
 have:lV (nH a)=true:=by simp[lV,nH]
 refine⟨this,?_⟩;unfold pK mL;rw[aZ this];simp[nH]
theorem CE.start {p:nK}(h:CE p){a:Ask}(ha:(bs a.host).length<=1000000/\(bs a.path).length<=1000000):CE (tR p a).1:=by
 unfold tR;split
 ·exact h
 ·rename_i hn;have hp:=h.p;have n0:=hp.n0;have n1:=hp.n1;refine⟨⟨by simp only;omega,by simp only;omega,by simp;omega,hp.ld,?_,hp.nd,?_,?_,?_,?_,hp.over⟩,?_⟩
  ·refine MS.2 ⟨hp.up,by simp,?_⟩;intro x hx y hy;simp at hy;subst hy;have:=hp.rt x hx;simp only;omega
  ·intro t ht d hd;rcases gU.1 ht with g|g
   ·exact hp.ap t g d hd
   ·simp at g;subst g;have:=hp.rd d hd;simp only;omega
  ·intro t ht;rcases gU.1 ht with g|g
   ·have:=hp.rt t g;simp only;omega
   ·grind
  ·intro t ht;have:=hp.rd t ht;simp only;omega
  ·intro t ht;rcases gU.1 ht with g|g
   ·exact hp.run t g
   ·simp at g;subst g;exact Ex a
  ·intro t ht;rcases gU.1 ht with g|g
   ·exact h.a t g
   ·simp at g;subst g;exact ha
theorem zj4 {s:bS}(h:(pT s).2.2=0):1<=(pT s).2.1:=by
 unfold pT at h⊢;unfold rD at h⊢;have hs:=(pJ.1 (xB (fF s).p)).1;unfold u6 at h⊢;split at h
 ·simp at h
 ·rename_i x hx;split at h
  ·simp at h
  ·rename_i hn;simp only[aT hn];have:=(EV hs x (MT hx)).2.2;omega
theorem G2 {r:lQ}:lV r=true↔(0<=r.stage/\r.stage<=5/\0<=r.id)/\(0<r.id\/r.stage=0\/r.stage=5):=by
 simp[lV];omega
theorem LS {w:jN}(a:y6)(h:0<=w.r.id):lV (nY w a).r=true/\(nY w a).r.a=w.r.a:=by
 unfold nY;split<;>exact⟨G2.2 ⟨⟨by simp,by simp,h⟩,.inr (.inr rfl)⟩,rfl⟩
theorem Yc {w:jN}(h:lV w.r=true):lV (sS w).r=true/\(sS w).r.a=w.r.a:=by
 have hq:=G2.1 h;unfold sS;by_cases h0:w.r.stage=0
 ·rw[aZ h0];unfold vP;split
  ·exact LS _ hq.1.2.2
  ·rename_i he;have:=zj4 (M3.1 he);exact⟨G2.2 ⟨⟨by simp,by simp,by simp only;omega⟩,.inl (by simp only;omega)⟩,rfl⟩
 rw[aT h0];by_cases h1:w.r.stage=1
 ·rw[aZ h1];unfold zV;split
  ·exact LS _ hq.1.2.2
  ·exact⟨G2.2 ⟨⟨by simp,by simp,hq.1.2.2⟩,.inl (by simp only;omega)⟩,rfl⟩
 rw[aT h1];by_cases h2:w.r.stage=2
 ·rw[aZ h2];unfold yG;dsimp only
  repeat' split
  all_goals first
   |exact LS _ hq.1.2.2
   |exact⟨G2.2 ⟨⟨by simp,by simp,hq.1.2.2⟩,.inl (by simp only;omega)⟩,rfl⟩
 rw[aT h2];by_cases h3:w.r.stage=3
 ·rw[aZ h3];unfold yY;dsimp only
  repeat' split
  all_goals first
   |exact LS _ hq.1.2.2
   |exact⟨G2.2 ⟨⟨by simp,by simp,hq.1.2.2⟩,.inl (by simp only;omega)⟩,rfl⟩
 rw[aT h3];split
 ·exact LS _ hq.1.2.2
 ·exact⟨h,rfl⟩
theorem Xz (r:lQ)(s:bS):lV (mH r s).r=true/\(mH r s).r.a=r.a:=by
 have:=Yc (w:=⟨mL r,fF s,[]⟩) (by
  unfold mL;split
  ·assumption
  ·exact(Ex r.a).1)
 exact⟨this.1,this.2.trans (Dh r)⟩
theorem zaS {l:List Task}{k:Nat}{t:Task}(hk:l[k]? =some t)(r:lQ):(l.set k ⟨t.n,r⟩).map Task.n=l.map Task.n:=by
 apply JT
 grind
theorem Bo {l:List Task}:(l.Pairwise λa b=>a.n<b.n)↔(l.map Task.n).Pairwise (· <·):=List.pairwise_map.symm
theorem CE.pick {p:nK}(h:CE p){s:bS}(hs:oB s)(draw:Int):CE (kK p s draw).1/\oB (kK p s draw).2.1/\(∀g∈(kK p s draw).2.2.1,fJ g)/\(kK p s draw).2.2.1.length<=1:=by
 unfold kK;split
 ·simp_all
 rename_i t ht;have hm:t∈p.tasks:=gT ht;have hp:=h.p;obtain⟨r1,r2⟩:=Xz t.r s;have hw:=AJ.lH t.r hs;have hn:=hp.rt t hm;have hat:=h.a t hm;dsimp only;generalize mH t.r s=w at*;split
 ·rename_i hr;have e:=zaS ht w.r;have hmem:∀x∈p.tasks.set (qI p draw) ⟨t.n,w.r⟩,x∈p.tasks\/x=⟨t.n,w.r⟩:=λx hx=>GC hx;refine⟨⟨⟨hp.n0,hp.n1,by simpa using hp.lt,hp.ld,?_,hp.nd,?_,?_,hp.rd,?_,hp.over⟩,?_⟩,hw.s,hw.t,hw.l⟩
  ·rw[Bo];simp only;rw[e];exact Bo.1 hp.up
  ·intro x hx d hd;rcases hmem x hx with g|g
   ·exact hp.ap x g d hd
   ·subst g;exact hp.ap t hm d hd
  ·intro x hx;rcases hmem x hx with g|g
   ·exact hp.rt x g
   ·subst g;exact hn
  ·intro x hx;rcases hmem x hx with g|g
   ·exact hp.run x g
   ·subst g;exact⟨r1,hr⟩
  ·intro x hx;rcases hmem x hx with g|g
   ·exact h.a x g
   ·subst g;simp only[r2];exact hat
 ·rename_i hr;have hsub:(p.tasks.eraseIdx (qI p draw)).Sublist p.tasks:=List.eraseIdx_sublist ..;have hin:∀x∈p.tasks.eraseIdx (qI p draw),x∈p.tasks:=λx hx=>hsub.subset hx;have hne:∀x∈p.tasks.eraseIdx (qI p draw),x.n≠t.n:=by
   intro x hx e;obtain⟨j,hj,hj2⟩:=List.mem_eraseIdx_iff_getElem?.1 hx;have hnd:=W4 hp.up;have a1:(p.tasks.map Task.n)[j]? =some t.n:=by rw[jX,hj2];simp[e]
   have a2:(p.tasks.map Task.n)[qI p draw]? =some t.n:=by rw[jX,ht];rfl
   have hj3:=(cE.1 a1).1;exact hj ((List.getElem?_inj hj3 hnd).1 (a1.trans a2.symm))
  have hdm:∀x∈xG p.done ⟨t.n,w.r⟩,x∈p.done\/x=⟨t.n,w.r⟩:=by
   intro x hx;rcases gU.1 hx with g|g
   ·exact .inl (yB g)
   ·exact .inr (by simpa using g)
  refine⟨⟨⟨hp.n0,hp.n1,dH hsub.length_le hp.lt,?_,hp.up.sublist hsub,?_,?_,λx hx=>hp.rt x (hin x hx),?_,λx hx=>hp.run x (hin x hx),?_⟩,λx hx=>h.a x (hin x hx)⟩,hw.s,hw.t,hw.l⟩
  ·simp only[xG,bZ,AY,List.length_singleton];omega
  ·simp only[xG,CJ,kE,zC,List.map_drop];rw[List.nodup_append];refine⟨hp.nd.sublist (List.drop_sublist _ _),by simp,?_⟩;intro a ha b hb e;simp at hb;subst hb;subst e;obtain⟨d,hd,hd2⟩:=fU.1 (yB ha);exact hp.ap t hm d hd hd2.symm
  ·intro x hx d hd;rcases hdm d hd with g|g
   ·exact hp.ap x (hin x hx) d g
   ·subst g;exact hne x hx
  ·intro x hx;rcases hdm x hx with g|g
   ·exact hp.rd x g
   ·subst g;exact hn
  ·intro x hx;rcases hdm x hx with g|g
   ·exact hp.over x g
   ·subst g;simpa using hr
structure dM where
 aM:Int
 q:List Frame
def dY (l:dM):eS:=⟨l.aM,l.q.map kU⟩
structure eA (l:dM):Prop where
 e0:0<=l.aM
 e1:l.aM<=2147483647
 len:l.q.length<=32
 q:∀f∈l.q,dD f=0
theorem Kh (n:Int):aL n≠[]:=by
 unfold aL o5;split<;>simp
theorem UG {f:Frame}(h:dD f=0):(kU f).length<=99100:=by
 have h1:=BA (j9.1 h);have h2:=cO (j3 f).length;unfold kU oF;simp;omega
theorem zcK (f:Frame):j3 f≠[]:=by
 unfold j3;intro e;simp only[List.append_eq_nil_iff]at e;exact Kh _ e.1.1
theorem Ck (f:Frame):kU f≠[]:=by
 unfold kU oF;intro e;simp at e;exact Kh _ e.1
theorem eA.lk {l:dM}(h:eA l):tK (dY l):=⟨by have:=h.len;simp[dY];omega,by
 intro b hb;obtain⟨f,hf,rfl⟩:=fU.1 hb;exact⟨Ck f,by have:=UG (h.q f hf);omega⟩⟩
theorem eA.sound {l:dM}(h:eA l):gD (dY l)=dY l:=VM (Fa.2 ⟨⟨h.e0,h.e1⟩,by simpa[dY]using h.len⟩)
def kW (l:dM)(f:Frame):dM×Int:=if¬dD f=0 then(l,dD f)else if 32<=l.q.length then(l,8)else(⟨l.aM,l.q++[f]⟩,0)
def gM (z:dM×Int)(f:Frame):dM×Int:=if(kW z.1 f).2=0 then((kW z.1 f).1,z.2)else(z.1,z.2+1)
def fM (l:dM)(lost:Int)(fs:List Frame):dM×Int:=fs.foldl gM (l,lost)
theorem eA.za2 {l:dM}(h:eA l)(f:Frame):eA (kW l f).1:=by
 unfold kW;split
 ·exact h
 rename_i he;split
 ·exact h
 ·rename_i hl;refine⟨h.e0,h.e1,by simp;omega,?_⟩;intro g hg;rcases gU.1 hg with g'|g'
  ·exact h.q g g'
  ·simp_all
theorem eA.step {z:dM×Int}(h:eA z.1)(f:Frame):eA (gM z f).1:=by
 unfold gM;split
 ·exact h.za2 f
 ·exact h
theorem ES :∀(fs:List Frame) {z:dM×Int},eA z.1->eA (fs.foldl gM z).1/\z.2<=(fs.foldl gM z).2/\(fs.foldl gM z).2<=z.2+fs.length
 |[],z,h=>⟨h,Int.le_refl _,by simp⟩
 |f::fs,z,h=>by
  have:=ES fs (h.step f);have h2:z.2<=(gM z f).2/\(gM z f).2<=z.2+1:=by unfold gM;split<;>simp<;>omega
  refine⟨this.1,?_,?_⟩
  ·exact Int.le_trans h2.1 this.2.1
  ·have:=this.2.2;simp only[pH,jI];omega
theorem eA.send {l:dM}(h:eA l)(lost:Int)(fs:List Frame):eA (fM l lost fs).1:=(ES fs (z:=(l,lost)) h).1
theorem DL {l:dM}(h:eA l)(lost:Int)(fs:List Frame):lost<=(fM l lost fs).2/\(fM l lost fs).2<=lost+fs.length:=(ES fs (z:=(l,lost)) h).2
def wI (l:dM)(i:Int):Nat:=((max 0 i).tmod l.q.length).toNat
def takeN (l:dM)(i:Int):dM×Frame×Int:=if l.q=[]then(l,eV,10)else(⟨l.aM,l.q.take (wI l i)++l.q.drop (wI l i+1)⟩,l.q.getD (wI l i) eV,0)
def vM (l:dM)(i:Int):dM×Int:=((takeN l i).1,(takeN l i).2.2)
def uL (l:dM)(i:Int):dM×Int:=if l.q=[]then(l,10)else if 32<=l.q.length then(l,8)else(⟨l.aM,l.q++[l.q.getD (wI l i) eV]⟩,0)
def uC (l:dM)(i:Int):dM×Int:=if l.q=[]then(l,10)else(⟨l.aM,(takeN l i).1.q++[(takeN l i).2.1]⟩,0)
theorem V9 (l:dM)(i:Int):mR (dY l) i=wI l i:=by simp[mR,wI,dY]
theorem KS {l:dM}(i:Int)(h:l.q≠[]):wI l i<l.q.length:=by
 rw[<-V9];have:=E6 (l:=dY l) i (by simpa[dY]using h);simpa[dY]using this
theorem G5 {l:dM}:(dY l).q=[]↔l.q=[]:=by simp[dY]
theorem Ox (l:List Frame)(k:Nat)(h:k<l.length):(l.map kU).getD k []=kU (l.getD k eV):=by
 simp[List.getD,h]
theorem NM {l:dM}(h:eA l)(i:Int):rT (dY l) i=(dY (takeN l i).1,if l.q=[]then []else kU (takeN l i).2.1,(takeN l i).2.2):=by
 unfold rT;rw[h.sound];unfold EP takeN;by_cases hq:l.q=[]
 ·rw[aZ (G5.2 hq),aZ hq,aZ hq]
 ·rw[aT (λe=>hq (G5.1 e)),aT hq,aT hq,V9];simp only[dY];rw[Ox _ _ (KS i hq)];simp
theorem Py {l:dM}(h:eA l)(i:Int):DV (dY l) i=(dY (vM l i).1,(vM l i).2):=by
 unfold DV vM;rw[NM h]
theorem Sr {l:dM}(h:eA l)(i:Int):D5 (dY l) i=(dY (uL l i).1,(uL l i).2):=by
 unfold D5 uL;rw[h.sound];by_cases hq:l.q=[]
 ·rw[aZ (G5.2 hq),aZ hq]
 ·rw[aT (λe=>hq (G5.1 e)),aT hq];unfold qB;rw[h.sound,V9];have e:(dY l).q.getD (wI l i) []=kU (l.q.getD (wI l i) eV):=Ox _ _ (KS i hq);rw[e];by_cases hl:32<=l.q.length
  ·rw[aZ hl,KK (by simpa[dY]using hl)]
  ·rw[aT hl,GX (by simpa[dY]using hl)];simp[dY]
theorem eA.take {l:dM}(h:eA l)(i:Int):eA (takeN l i).1/\((takeN l i).2.2=0->dD (takeN l i).2.1=0):=by
 unfold takeN;by_cases hq:l.q=[]
 ·simp_all
 ·rw[aT hq];have hk:=KS i hq;refine⟨⟨h.e0,h.e1,by have:=h.len;simp;omega,?_⟩,λ_=>?_⟩
  ·intro f hf;rcases gU.1 hf with g|g
   ·exact h.q f (pY g)
   ·exact h.q f (yB g)
  ·have:l.q.getD (wI l i) eV=l.q[wI l i]:=by simp[hk]
   rw[this];exact h.q _ (mF hk)
theorem take_len {l:dM}(i:Int)(hq:l.q≠[]):(takeN l i).1.q.length+1=l.q.length:=by
 have hk:=KS i hq;unfold takeN;rw[aT hq];simp;omega
theorem Nb {l:dM}(h:eA l)(i:Int):DM (dY l) i=(dY (uC l i).1,(uC l i).2):=by
 unfold DM uC;rw[h.sound];by_cases hq:l.q=[]
 ·rw[aZ (G5.2 hq),aZ hq]
 ·rw[aT (λe=>hq (G5.1 e)),aT hq,NM h,aT hq];unfold qB;rw[(h.take i).1.sound];have:=take_len i hq;have hl:=h.len;rw[GX (by simp[dY];omega)];have e:(takeN l i).1.aM=l.aM:=by unfold takeN;split<;>rfl
  simp[dY,e]
theorem eA.drop {l:dM}(h:eA l)(i:Int):eA (vM l i).1:=(h.take i).1
theorem eA.again {l:dM}(h:eA l)(i:Int):eA (uL l i).1:=by
 unfold uL;split
 ·exact h
 rename_i hq;split
 ·exact h
 ·have hk:=KS i hq;refine⟨h.e0,h.e1,by simp;omega,?_⟩;intro f hf;rcases gU.1 hf with g|g
  ·exact h.q f g
  ·simp only[yA]at g;subst g;have:l.q.getD (wI l i) eV=l.q[wI l i]:=by simp[hk]
   rw[this];exact h.q _ (mF hk)
theorem eA.late {l:dM}(h:eA l)(i:Int):eA (uC l i).1:=by
 unfold uC;split
 ·exact h
 rename_i hq;have ht:=h.take i;have hl:=take_len i hq;have hh:=h.len;refine⟨h.e0,h.e1,by simp;omega,?_⟩;intro f hf;rcases gU.1 hf with g|g
 ·exact ht.1.q f g
 ·simp at g;subst g;exact ht.2 (by unfold takeN;rw[aT hq])
theorem eA.fresh {l:dM}(h:eA l)(hm:¬l.aM=2147483647):eA ⟨l.aM+1,[]⟩:=⟨by have:=h.e0;simp only;omega,by have:=h.e1;simp only;omega,by simp,by simp⟩
def Bt (f:Frame):List D:=CT (kU f)
@[simp] def gP (l:dM):List D:=[iD l.aM,lD (l.q.map Bt)]
theorem qC (l:dM):iJ (dY l)=gP l:=by simp[dY,Bt,Function.comp_def]
structure Node where
 side:bS
 bF:cW
 up:dM
 dn:dM
 gF:nK
@[simp] def dZ (n:Node):List D:=dU n.side++iB n.bF++gP n.up++gP n.dn++rC n.gF
structure bT where
 sides:Int
 cap:Int
 limit:Int
 max:Int
@[simp] def tF (c:bT):List D:=[iD c.sides,iD c.cap,iD c.limit,iD c.max]
structure cB where
 kind:Int
 side:Int
 way:Int
 n:Int
 aD:List aC
 gone:List Key
 a:Ask
@[simp] def eD (s:cB):List D:=[iD s.kind,iD s.side,iD s.way,iD s.n,lD (s.aD.map aF),lD (s.gone.map aQ)]++IY s.a
structure sJ where
 e:Int
 n:Int
 L5:y6
 l:List Int
 keys:List Key
@[simp] def dV (o:sJ):List D:=[iD o.e,iD o.n]++Z4 o.L5++[lD (o.l.map kP),lD (o.keys.map aQ)]
def cG (e:Int):sJ:=⟨e,0,cU,[],[]⟩
def E7 (n:Int):sJ:=⟨0,n,cU,[],[]⟩
structure cF (n:Node):Prop where
 d:oB n.side
 ss:gE n.bF=true
 so:rP n.bF
 up:eA n.up
 dn:eA n.dn
 pl:CE n.gF
def fP (mx lost:Int)(n:Node):Node×Int×Int:=
 if n.up.aM=2147483647\/n.dn.aM=2147483647 then(n,lost,14)else
 let c:=l5 n.side (n.up.aM+1)
 let u:=fM ⟨n.up.aM+1,[]⟩ lost c.2.1
 (⟨c.1,o7 (n.up.aM+1) mx,u.1,⟨n.dn.aM+1,[]⟩,n.gF⟩,u.2,c.2.2)
def iK (mx:Int)(p:aW)(lost:Int)(n:Node):Node×Int×Int:=
 let s:=iL n.bF p
 let d:=fM n.dn lost s.2.1
 let m:Node:={n with bF:=s.1,dn:=d.1}
 if s.2.2=0 then(m,d.2,0)else((fP mx d.2 m).1,(fP mx d.2 m).2.1,s.2.2)
theorem rP.new (e m:Int):rP (o7 e m):=⟨Aj⟩
theorem cF.renew {n:Node}(h:cF n)(mx lost:Int):cF (fP mx lost n).1/\lost<=(fP mx lost n).2.1/\(fP mx lost n).2.1<=lost+2:=by
 unfold fP;split
 ·grind
 ·rename_i he;have c:=h.d.connect (n.up.aM+1);have u:=h.up.fresh (by omega);dsimp only;have l:=DL u lost (l5 n.side (n.up.aM+1)).2.1;exact⟨⟨c.1,VH _ _,.new _ _,u.send _ _,h.dn.fresh (by omega),h.pl⟩,l.1,by have:=c.2.2;omega⟩
theorem cF.iL {n:Node}(h:cF n)(mx:Int){p:aW}(hp:gN p=true)(lost:Int):cF (iK mx p lost n).1/\lost<=(iK mx p lost n).2.1/\(iK mx p lost n).2.1<=lost+3:=by
 obtain⟨p1,p2,p3,p4,_⟩:=PA h.ss h.so hp;have l:=DL h.dn lost (Go.G.iL n.bF p).2.1;have hm:cF {n with bF:=(Go.G.iL n.bF p).1,dn:=(fM n.dn lost (Go.G.iL n.bF p).2.1).1}:=⟨h.d,p1,p2,h.up,h.dn.send _ _,h.pl⟩;unfold iK;dsimp only;split
 ·grind
 ·have r:=hm.renew mx (fM n.dn lost (Go.G.iL n.bF p).2.1).2;exact⟨r.1,by simp only;omega,by simp only;omega⟩
def iP (n:Node)(w:Int):dM:=if w=0 then n.up else n.dn
def nP (n:Node)(w:Int)(l:dM):Node:=if w=0 then{n with up:=l}else{n with dn:=l}
theorem cF.way {n:Node}(h:cF n)(w:Int):eA (iP n w):=by unfold iP;split;exact h.up;exact h.dn
theorem cF.set {n:Node}(h:cF n)(w:Int){l:dM}(hl:eA l):cF (nP n w l):=by
 unfold nP;split
 ·exact⟨h.d,h.ss,h.so,hl,h.dn,h.pl⟩
 ·exact⟨h.d,h.ss,h.so,h.up,hl,h.pl⟩
abbrev NR :=Node×Int×sJ
def gY (mx:Int)(p:aW)(lost:Int)(n:Node)(s:cB):NR:=
 let t:=takeN (iP n s.way) s.n
 let m:=nP n s.way t.1
 if¬t.2.2=0 then(m,lost,cG t.2.2)else
 if s.way=1 then
  let r:=qA m.side t.2.1
  let u:=fM m.up lost r.2.1
  ({m with side:=r.1,up:=u.1},u.2,cG r.2.2)
 else
  let r:=handle m.bF p t.2.1
  let k:Node:={m with bF:=r.1}
  if¬r.2=0 then(k,lost,cG r.2)else((iK mx p lost k).1,(iK mx p lost k).2.1,cG (iK mx p lost k).2.2)
def iM (f:dM->Int->dM×Int)(lost:Int)(n:Node)(s:cB):NR:=(nP n s.way (f (iP n s.way) s.n).1,lost,cG (f (iP n s.way) s.n).2)
def tG (lost:Int)(n:Node)(s:cB):NR:=({n with gF:=(tR n.gF s.a).1},lost,⟨(tR n.gF s.a).2.2,(tR n.gF s.a).2.1,cU,[],[]⟩)
def rJ (lost:Int)(n:Node)(s:cB):NR:=
 let r:=kK n.gF n.side s.n
 let u:=fM n.up lost r.2.2.1
 ({n with gF:=r.1,side:=r.2.1,up:=u.1},u.2,
   if¬r.2.2.2=0\/r.1.tasks.length=n.gF.tasks.length then cG r.2.2.2 else match r.1.done.getLast? with
    |some x=>⟨0,x.n,x.r.out,[],[]⟩
    |none=>cG 0)
def CQ (b:Bool):Int:=if b then 1 else 0
def rS (p:aW)(lost:Int)(n:Node):NR:=
 (n,lost,⟨0,0,cU,[kM p,n.side.aM,CQ (uW n.side).isSome,n.gF.tasks.length,n.gF.done.length,CQ (nC n.bF p),n.up.q.length,n.dn.q.length,lost],(((uW n.side).map (·.l)).getD []).map aC.key⟩)
def fW (mx:Int)(p:aW)(lost:Int)(n:Node)(s:cB):NR:=
 if s.kind=1 then gY mx p lost n s else if s.kind=2 then iM vM lost n s else if s.kind=3 then iM uL lost n s else if s.kind=4 then iM uC lost n s
 else if s.kind=5 then((fP mx lost n).1,(fP mx lost n).2.1,cG (fP mx lost n).2.2)else if s.kind=7 then tG lost n s else if s.kind=8 then rJ lost n s else rS p lost n
theorem cF.bring {n:Node}(h:cF n)(mx:Int){p:aW}(hp:gN p=true)(lost:Int)(s:cB):cF (gY mx p lost n s).1/\lost<=(gY mx p lost n s).2.1/\(gY mx p lost n s).2.1<=lost+3:=by
 have t:=(h.way s.way).take s.n;have m:=h.set s.way t.1;unfold gY;dsimp only;split
 ·grind
 split
 ·have r:=m.d.side (takeN (iP n s.way) s.n).2.1;have l:=DL m.up lost (qA (nP n s.way (takeN (iP n s.way) s.n).1).side (takeN (iP n s.way) s.n).2.1).2.1;exact⟨⟨r.1,m.ss,m.so,m.up.send _ _,m.dn,m.pl⟩,l.1,by have:=r.2.2;simp only;omega⟩
 ·have k:cF {(nP n s.way (takeN (iP n s.way) s.n).1)with bF:=(handle (nP n s.way (takeN (iP n s.way) s.n).1).bF p (takeN (iP n s.way) s.n).2.1).1}:=⟨m.d,LD p _ m.ss,Q6 _ m.ss m.so hp,m.up,m.dn,m.pl⟩;split
  ·grind
  ·exact k.iL mx hp lost
theorem cF.single {n:Node}(h:cF n)(mx:Int){p:aW}(hp:gN p=true)(lost:Int){s:cB}(ha:(bs s.a.host).length<=1000000/\(bs s.a.path).length<=1000000):cF (fW mx p lost n s).1/\lost<=(fW mx p lost n s).2.1/\(fW mx p lost n s).2.1<=lost+3:=by
 unfold fW;split
 ·exact h.bring mx hp lost s
 split
 ·exact⟨h.set _ ((h.way _).drop _),by simp[iM],by simp only[iM];omega⟩
 split
 ·exact⟨h.set _ ((h.way _).again _),by simp[iM],by simp only[iM];omega⟩
 split
 ·exact⟨h.set _ ((h.way _).late _),by simp[iM],by simp only[iM];omega⟩
 split
 ·have r:=h.renew mx lost;exact⟨r.1,by simp only;omega,by simp only;omega⟩
 split
 ·exact⟨⟨h.d,h.ss,h.so,h.up,h.dn,h.pl.start ha⟩,by simp[tG],by simp only[tG];omega⟩
 split
 ·obtain⟨k1,k2,k3,k4⟩:=h.pl.pick h.d s.n;have l:=DL h.up lost (kK n.gF n.side s.n).2.2.1;exact⟨⟨k2,h.ss,h.so,h.up.send _ _,h.dn,k1⟩,l.1,by simp only[rJ];omega⟩
 ·exact⟨h,by simp[rS],by simp only[rS];omega⟩
theorem HV {p:aW}(hp:gN p=true):vR p:=by
 have hh:=(oW p).1 hp;refine⟨by have:=hh.2.1;omega,λl hl=>?_⟩;obtain⟨i,hi⟩:=MU.1 hl;have hc:0<=p.cap:=by rw[hh.1];exact(R9 _).1
 exact WL (hh.2.2.acc hc hi).GN
theorem NP {l:dM}{i:Int}(h:(takeN l i).2.2=0):l.q≠[]:=by
 intro e;unfold takeN at h;rw[aZ e]at h;exact absurd h (by simp)
theorem Hy {p:nK}{s:bS}{draw:Int}(h:¬(kK p s draw).1.tasks.length=p.tasks.length):∃i x,(kK p s draw).1.done=i++[x]:=by
 unfold kK at h⊢;split at h
 ·exact absurd rfl h
 ·rename_i t ht;dsimp only at h⊢;split at h
  ·exact absurd (by simp) h
  ·rename_i hr;rw[aT hr];exact⟨_,_,rfl⟩
theorem VA {s:bS}(h:dL s):(((uW s).map (·.l)).getD []).length<=64:=by
 unfold uW wR;have hs:=h.sound.pins.sound.aR;generalize eY (fF s).p=q at hs⊢;cases e:q.aR.getLast? with
 |none=>simp
 |some x=>simpa using(hs x (MT e)).2
structure cX where
 c:bT
 p:aW
 ns:List Node
 lost:Int
def gX (c:bT):Node:=⟨r8 c.limit c.max,o7 0 c.max,⟨0,[]⟩,⟨0,[]⟩,pI⟩
def gV (c:bT):Nat:=(max 1 (min c.sides 4)).toNat
def gA (c:bT):cX:=⟨c,fZ c.cap,List.replicate (gV c) (gX c),0⟩
def fX (mx:Int)(p:aW):List Node->Int->Int->List Node×Int×Int
 |[],lost,e=>([],lost,e)
 |n::l,lost,e=>
  let r:=iK mx p lost n
  let q:=fX mx p l r.2.1 (if e=0 then r.2.2 else e)
  (r.1::q.1,q.2)
def mZ (M:cX)(s:cB):cX×sJ:=
 let p:=oY M.p s.aD s.gone
 let e:=oZ M.p s.aD s.gone
 if¬e=0 then(⟨M.c,p,M.ns,M.lost⟩,cG e)else
 let q:=fX M.c.max p M.ns M.lost 0
 (⟨M.c,p,q.1,q.2.1⟩,⟨q.2.2,kM p,cU,[],[]⟩)
def gQ :List Node->Int->Int->List Node×Int×Int
 |[],lost,k=>([],lost,k)
 |n::l,lost,k=>
  let d:=fM n.dn lost (eO n.bF)
  let q:=gQ l d.2 (k+(eO n.bF).length)
  ({n with dn:=d.1}::q.1,q.2)
def lE (M:cX):cX×sJ:=
 let q:=gQ M.ns M.lost 0
 (⟨M.c,M.p,q.1,q.2.1⟩,E7 q.2.2)
def nodeAt (l:List Node)(i:Int):Option Node:=if 0<=i then l[i.toNat]? else none
def eX (M:cX)(s:cB):cX×sJ:=
 if M.ns=[]then(M,cG 15)else if¬(0<=s.kind/\s.kind<=9)then(M,cG 4)else
 if s.kind=0 then mZ M s else if s.kind=6 then lE M else
 match nodeAt M.ns s.side with
 |none=>(M,cG 10)
 |some n=>
  if s.kind<=4/\(s.way<0\/2<=s.way)then(M,cG 10)else
  let r:=fW M.c.max M.p M.lost n s
  (⟨M.c,M.p,M.ns.set s.side.toNat r.1,r.2.1⟩,r.2.2)
def gO :cX->List cB->cX×List sJ
 |M,[]=>(M,[])
 |M,s::l=>let r:=eX M s;let q:=gO r.1 l;(q.1,r.2::q.2)
def sE (n:Node):Bool:=decide (n.up.q.length+n.dn.q.length+n.gF.tasks.length=0)
def fL (M:cX):Bool:=!decide (M.ns=[])&&M.ns.all λn=>sE n&&nC n.bF M.p
structure rO (s:cB):Prop where
 a:(bs s.a.host).length<=1000000/\(bs s.a.path).length<=1000000
 aD:s.aD.length<=1000
 gone:s.gone.length<=1000
structure fQ (M:cX)(B:Int):Prop where
 n1:1<=M.ns.length
 n4:M.ns.length<=4
 ok:∀n∈M.ns,cF n
 p:gN M.p=true
 l0:0<=M.lost
 l1:M.lost<=B
theorem cF.new (c:bT):cF (gX c):=⟨.new _ _,VH _ _,.new _ _,⟨by simp[gX],by simp[gX],by simp[gX],by simp[gX]⟩,⟨by simp[gX],by simp[gX],by simp[gX],by simp[gX]⟩,.zero⟩
theorem fQ.new (c:bT):fQ (gA c) 0:=by
 refine⟨by simp[gA,gV];omega,by simp[gA,gV];omega,?_,zba _,by simp[gA],by simp[gA]⟩;intro n hn;have:=TQ hn;subst this;exact .new c
theorem HB (mx:Int){p:aW}(hp:gN p=true):∀(l:List Node) (lost e:Int),(∀n∈l,cF n)->(∀n∈(fX mx p l lost e).1,cF n)/\(fX mx p l lost e).1.length=l.length/\lost<=(fX mx p l lost e).2.1/\(fX mx p l lost e).2.1<=lost+3*l.length
 |[],lost,e,_=>⟨by simp[fX],rfl,by simp[fX],by simp[fX]⟩
 |n::l,lost,e,h=>by
  have r:=(h n JN).iL mx hp lost;have q:=HB mx hp l (iK mx p lost n).2.1 (if e=0 then(iK mx p lost n).2.2 else e) (λx hx=>h x (JO _ hx));refine⟨?_,?_,?_,?_⟩
  ·intro x hx;rcases kD.1 hx with g|g
   ·subst g;exact r.1
   ·exact q.1 x g
  ·simp only[fX,jI];rw[q.2.1]
  ·simp only[fX];omega
  ·simp only[fX,jI];omega
theorem OX {n:Node}(h:cF n):(∀f∈eO n.bF,fJ f)/\(eO n.bF).length<=1:=by
 unfold eO;rw[GS h.ss];split
 ·exact⟨λf hf=>by simp at hf;subst hf;exact h.so.v.push,by simp⟩
 ·simp_all
theorem GM :∀(l:List Node) (lost k:Int),(∀n∈l,cF n)->(∀n∈(gQ l lost k).1,cF n)/\(gQ l lost k).1.length=l.length/\lost<=(gQ l lost k).2.1/\(gQ l lost k).2.1<=lost+l.length
 |[],lost,k,_=>⟨by simp[gQ],rfl,by simp[gQ],by simp[gQ]⟩
 |n::l,lost,k,h=>by
  have hn:=h n JN;have f:=OX hn;have d:=DL hn.dn lost (eO n.bF);have q:=GM l (fM n.dn lost (eO n.bF)).2 (k+(eO n.bF).length) (λx hx=>h x (JO _ hx));refine⟨?_,?_,?_,?_⟩
  ·intro x hx;rcases kD.1 hx with g|g
   ·subst g;exact⟨hn.d,hn.ss,hn.so,hn.up,hn.dn.send _ _,hn.pl⟩
   ·exact q.1 x g
  ·simp only[gQ,jI];rw[q.2.1]
  ·simp only[gQ];omega
  ·simp only[gQ,jI];omega
theorem DI {l:List Node}{i:Int}{n:Node}(h:nodeAt l i=some n):n∈l/\0<=i/\i.toNat<l.length/\l[i.toNat]? =some n:=by
 unfold nodeAt at h
 grind
theorem fQ.step {M:cX}{B:Int}(h:fQ M B){s:cB}(hs:rO s):fQ (eX M s).1 (B+12):=by
 have h4:=h.n4;have l0:=h.l0;have l1:=h.l1;have same:fQ M (B+12):=⟨h.n1,h.n4,h.ok,h.p,h.l0,by omega⟩;unfold eX;split
 ·exact same
 split
 ·exact same
 split
 ·have hp:=EU h.p s.aD s.gone;unfold mZ;dsimp only;split
  ·exact⟨h.n1,h.n4,h.ok,hp,h.l0,by simp only;omega⟩
  ·have q:=HB M.c.max hp M.ns M.lost 0 h.ok;exact⟨by simp only;rw[q.2.1];exact h.n1,by simp only;rw[q.2.1];exact h.n4,q.1,hp,by simp only;omega,by simp only;omega⟩
 split
 ·have q:=GM M.ns M.lost 0 h.ok;exact⟨by simp only[lE];rw[q.2.1];exact h.n1,by simp only[lE];rw[q.2.1];exact h.n4,q.1,h.p,by simp only[lE];omega,by simp only[lE];omega⟩
 split
 ·exact same
 ·rename_i n hn;have hm:=DI hn;split
  ·exact same
  ·have r:=(h.ok n hm.1).single M.c.max h.p M.lost hs.a;dsimp only;refine⟨by simpa using h.n1,by simpa using h.n4,?_,h.p,by simp only;omega,by simp only;omega⟩;intro x hx;rcases GC hx with g|g
   ·exact h.ok x g
   ·subst g;exact r.1
def Al :Node:=gX ⟨0,0,0,0⟩
def nth (M:cX)(i:Nat):Node:=M.ns.getD i Al
theorem Ki {M:cX}{B:Int}(h:fQ M B){i:Nat}(hi:i<M.ns.length):cF (nth M i):=by
 have:nth M i=M.ns[i]:=by simp[nth,hi]
 rw[this];exact h.ok _ (mF hi)
theorem zfS {α:Type}{l:List α}(z:α)(h:l.length=1):l=[l.getD 0 z]:=by
 match l,h with
 |[a],_=>rfl
theorem WZ {M:cX}(h:M.ns.length=1):M.ns=[nth M 0]:=zfS Al h
@[simp] theorem nth0 (c:bT)(p:aW)(a:Node)(l:List Node)(n:Int):nth ⟨c,p,a::l,n⟩ 0=a:=rfl
@[simp] theorem nth1 (c:bT)(p:aW)(a b:Node)(l:List Node)(n:Int):nth ⟨c,p,a::b::l,n⟩ 1=b:=rfl
@[simp] theorem nth2 (c:bT)(p:aW)(a b d:Node)(l:List Node)(n:Int):nth ⟨c,p,a::b::d::l,n⟩ 2=d:=rfl
@[simp] theorem nth3 (c:bT)(p:aW)(a b d e:Node)(l:List Node)(n:Int):nth ⟨c,p,a::b::d::e::l,n⟩ 3=e:=rfl
theorem Xn {M:cX}{s:cB}(hn:M.ns≠[])(hk:s.kind=0):eX M s=mZ M s:=by
 unfold eX;rw[aT hn,aT (by omega),aZ hk]
theorem Xr {M:cX}{s:cB}(hk:M.ns.length=1)(h1:1<=s.kind)(h9:s.kind<=9)(h6:s.kind≠6)(hs:s.side=0)(hw:s.kind<=4->s.way=0\/s.way=1):
  eX M s=(⟨M.c,M.p,[(fW M.c.max M.p M.lost (nth M 0) s).1],(fW M.c.max M.p M.lost (nth M 0) s).2.1⟩,(fW M.c.max M.p M.lost (nth M 0) s).2.2):=by
 unfold eX;rw[WZ hk,aT (by simp),aT (by omega),aT (by omega),aT h6];have e:nodeAt [nth M 0] s.side=some (nth M 0):=by rw[hs];rfl
 rw[e];simp only;rw[aT (by omega),hs];rfl
def rM (w:Int):cB:=⟨1,0,w,0,[],[],sP⟩
def pE (M:cX)(w:Int):Nat->cX
 |0=>M
 |k+1=>(eX (pE M w k) (rM w)).1
def FY (M:cX)(w:Int):cX:=pE M w (iP (nth M 0) w).q.length
def ZR (M:cX):cX:=FY (FY M 0) 1
def vO (M:cX):Nat->cX
 |0=>M
 |n+1=>ZR (vO M n)
theorem WS (w:Int):rO (rM w):=⟨by simp[rM,sP],by simp[rM],by simp[rM]⟩
theorem SH {M:cX}{B:Int}(hk:M.ns.length=1)(hM:fQ M B){w:Int}(hw:w=0\/w=1):∀k:Nat,(pE M w k).ns.length=1/\fQ (pE M w k) (B+12*k)
 |0=>⟨hk,by simpa[pE]using hM⟩
 |k+1=>by
  have:=SH hk hM hw k;refine⟨?_,?_⟩
  ·simp only[pE];rw[Xr this.1 (by simp[rM]) (by simp[rM]) (by simp[rM]) rfl (λ_=>hw)];rfl
  ·have h2:=this.2.step (WS w);simp only[pE];have e:B+12*((k+1:Nat):Int)=B+12*(k:Int)+12:=by omega
   rw[e];exact h2
theorem T9 {M:cX}{B:Int}(hk:M.ns.length=1)(hM:fQ M B)(w:Int):(iP (nth M 0) w).q.length<=32:=((Ki hM (i:=0) (by omega)).way w).len
theorem fQ.up {M:cX}{B C:Int}(h:fQ M B)(hBC:B<=C):fQ M C:=⟨h.n1,h.n4,h.ok,h.p,h.l0,by have:=h.l1;omega⟩
theorem SG {M:cX}{B:Int}(hk:M.ns.length=1)(hM:fQ M B){w:Int}(hw:w=0\/w=1):(FY M w).ns.length=1/\fQ (FY M w) (B+384):=by
 have h:=SH hk hM hw (iP (nth M 0) w).q.length;have hl:=T9 hk hM w;exact⟨h.1,h.2.up (by omega)⟩
theorem zjL {M:cX}{B:Int}(hk:M.ns.length=1)(hM:fQ M B):(ZR M).ns.length=1/\fQ (ZR M) (B+768):=by
 have h:=SG hk hM (.inl rfl);have h2:=SG h.1 h.2 (.inr rfl);exact⟨h2.1,h2.2.up (by omega)⟩
theorem SF {M:cX}{B:Int}(hk:M.ns.length=1)(hM:fQ M B):∀n:Nat,(vO M n).ns.length=1/\fQ (vO M n) (B+768*n)
 |0=>⟨hk,by simpa[vO]using hM⟩
 |n+1=>by
  have h:=SF hk hM n;have h2:=zjL h.1 h.2;exact⟨h2.1,h2.2.up (by omega)⟩
theorem Hf (mx:Int)(p:aW):∀(l:List Node) (lost e:Int),(fX mx p l lost e).1.length=l.length
 |[],_,_=>rfl
 |_::l,_,_=>by simp only[fX,jI];rw[Hf]
theorem Ch :∀(l:List Node) (lost k:Int),(gQ l lost k).1.length=l.length
 |[],_,_=>rfl
 |_::l,_,_=>by simp only[gQ,jI];rw[Ch]
theorem N0 (M:cX)(s:cB):(eX M s).1.ns.length=M.ns.length:=by
 unfold eX;split
 ·rfl
 split
 ·rfl
 split
 ·unfold mZ;dsimp only;split
  ·rfl
  ·exact Hf _ _ _ _ _
 split
 ·exact Ch _ _ _
 split
 ·rfl
 split
 ·rfl
 ·simp
def KF :List aC:=
 [⟨0,⟨#[108]⟩,0,80,⟨#[114]⟩,[],[]⟩,⟨1,⟨#[114]⟩,0,0,⟨#[]⟩,[⟨⟨#[42]⟩,⟨#[47]⟩,[⟨⟨#[99]⟩,1⟩]⟩],[]⟩,⟨2,⟨#[99]⟩,0,0,⟨#[101]⟩,[],[]⟩,⟨3,⟨#[101]⟩,0,0,⟨#[]⟩,[],[7]⟩]
def EW :cB:=⟨5,0,0,0,[],[],sP⟩
def C5 :cB:=⟨0,0,0,0,KF,[],sP⟩
def EY :cB:=⟨7,0,0,0,[],[],⟨80,⟨#[104]⟩,⟨#[47]⟩,0,0⟩⟩
def EX :cB:=⟨8,0,0,0,[],[],sP⟩
def F3 :cX:=gA ⟨1,9,9,99⟩
def D7 :cX:=(eX F3 EW).1
def I7 :cX:=(eX D7 C5).1
def D6 :cX:=vO I7 8
def MG :cX:=(eX D6 EY).1
def aG :Nat->cX
 |0=>MG
 |k+1=>(eX (aG k) EX).1
def aO :Nat->sJ
 |0=>cG 0
 |k+1=>(eX (aG k) EX).2
theorem Jd :rO EW:=⟨by simp[EW,sP],by simp[EW],by simp[EW]⟩
theorem Iz :rO C5:=⟨by simp[C5,sP],by simp[C5,KF],by simp[C5]⟩
theorem Jl :rO EY:=⟨by decide+kernel,by simp[EY],by simp[EY]⟩
theorem Jh :rO EX:=⟨by simp[EX,sP],by simp[EX],by simp[EX]⟩
theorem IB :F3.ns.length=1:=rfl
theorem Js :fQ F3 0:=.new _
theorem Mv :D7.ns.length=1:=(N0 _ _).trans IB
theorem Jr :fQ D7 12:=(Js.step Jd).up (by omega)
theorem XV :I7.ns.length=1:=(N0 _ _).trans Mv
theorem WU :fQ I7 24:=(Jr.step Iz).up (by omega)
theorem Mu :D6.ns.length=1:=(SF XV WU 8).1
theorem Jq :fQ D6 10000:=(SF XV WU 8).2.up (by omega)
theorem zfW :MG.ns.length=1:=(N0 _ _).trans Mu
theorem zeA :fQ MG 10012:=(Jq.step Jl).up (by omega)
theorem XU :∀k,(aG k).ns.length=1
 |0=>zfW
 |k+1=>(N0 _ _).trans (XU k)
theorem WT :∀k:Nat,fQ (aG k) (10012+12*k)
 |0=>zeA.up (by omega)
 |k+1=>((WT k).step Jh).up (by omega)
theorem aw2 :(eX D7 C5).2.n=1:=by decide+kernel
theorem aw4 :(eX D6 EY).2.n=1:=by decide+kernel
theorem SQ :(aO 5).n=1/\(aO 5).L5=⟨3,⟨#[99]⟩,7⟩:=by decide+kernel
theorem aw6 :fL (aG 5)=true:=by decide+kernel
def uH (s:cB):Bool:=FP s.aD&&decide (s.gone.length<=80)&&decide ((bs s.a.host).length<=100)&&decide ((bs s.a.path).length<=100)
def Te :sJ:=(eX D7 C5).2
def Td :sJ:=(eX D6 EY).2
theorem zlo :Te.n=1:=aw2
theorem zln :Td.n=1:=aw4
structure Ab (s:cB):Prop where
 aD:cL s.aD
 gone:s.gone.length<=9223372036854775807
 host:nB s.a.host
 path:nB s.a.path
theorem V7 (s:cB):∀(l:List cB) (M:cX),gO M (l++[s])=((eX (gO M l).1 s).1,(gO M l).2++[(eX (gO M l).1 s).2])
 |[],M=>rfl
 |x::l,M=>by
  have h:=V7 s l (eX M x).1;simp only[yD,gO,h]
theorem PE :∀(l:List cB) (M:cX),(gO M l).2.length=l.length
 |[],_=>rfl
 |x::l,M=>by simp only[gO,jI,PE l]
theorem N5 {M:cX}{B:Int}(hM:fQ M B)(s:cB):(eX M s).1.ns.length=M.ns.length:=by
 unfold eX;split
 ·rfl
 split
 ·rfl
 split
 ·unfold mZ;dsimp only;split
  ·rfl
  ·exact(HB M.c.max (EU hM.p s.aD s.gone) M.ns M.lost 0 hM.ok).2.1
 split
 ·exact(GM M.ns M.lost 0 hM.ok).2.1
 split
 ·rfl
 ·split
  ·rfl
  ·simp
theorem V8 {M:cX}{B:Int}:∀(l:List cB),fQ M B->(∀s∈l,rO s)->fQ (gO M l).1 (B+12*l.length)/\(gO M l).1.ns.length=M.ns.length:=by
 intro l;induction l generalizing M B with
 |nil=>intro h _;exact⟨by simpa[gO]using h,rfl⟩
 |cons x l ih=>
  intro h hs;have h1:=h.step (hs x JN);have h2:=ih h1 (λs hm=>hs s (JO _ hm));refine⟨?_,?_⟩
  ·have e:B+12*((x::l).length:Int)=B+12+12*(l.length:Int):=by simp;omega
   rw[e];exact h2.1
  ·show(gO (eX M x).1 l).1.ns.length=_;rw[h2.2,N5 h]
def XB (M:cX)(i:Nat):List D:=dZ (nth M i)
def bW (M:cX):Nat->Nat->List (List D)
 |_,0=>[]
 |i,k+1=>XB M i::bW M (i+1) k
theorem Kw {M:cX}:∀(k i:Nat) (l:List Node),M.ns.drop i=l->l.length=k->l.map dZ=bW M i k
 |0,i,l,_,h=>by rw[kH h];rfl
 |k+1,i,[],_,h=>by simp at h
 |k+1,i,x::l,hd,h=>by
  have e1:M.ns[i]? =some x:=by
   have:(M.ns.drop i)[0]? =some x:=by rw[hd];rfl
   simpa using this
  have e2:M.ns.drop (i+1)=l:=by
   have:=jW List.tail hd;simpa[List.tail_drop]using this
  show dZ x::l.map dZ=XB M i::bW M (i+1) k;rw[Kw k (i+1) l e2 (by simpa using h)];have:nth M i=x:=by simp[nth,List.getD,e1]
  rw[XB,this]
theorem P0 {M:cX}{k:Nat}(h:M.ns.length=k):M.ns.map dZ=bW M 0 k:=Kw k 0 M.ns (by simp) h
theorem zdL {n:Node}(h:cF n)(mx:Int)(p:aW)(lost:Int)(s:cB):(fW mx p lost n s).2.2.l.length<=9/\(fW mx p lost n s).2.2.keys.length<=64:=by
 have t:=VA h.d.x;have e:∀e:Int,(cG e).l.length<=9/\(cG e).keys.length<=64:=λe=>by simp[cG]
 unfold fW;split
 ·unfold gY;dsimp only
  repeat' split
  all_goals simp[cG]
 split
 ·exact e _
 split
 ·exact e _
 split
 ·exact e _
 split
 ·exact e _
 split
 ·simp[tG]
 split
 ·unfold rJ;dsimp only
  repeat' split
  all_goals simp[cG]
 ·simpa[rS]using t
theorem zdK {M:cX}{B:Int}(h:fQ M B)(s:cB):(eX M s).2.l.length<=9/\(eX M s).2.keys.length<=64:=by
 unfold eX;split
 ·simp[cG]
 split
 ·simp[cG]
 split
 ·unfold mZ;dsimp only;split<;>simp[cG]
 split
 ·simp[lE,E7]
 split
 ·simp[cG]
 ·rename_i n hn;split
  ·simp[cG]
  ·exact zdL (h.ok n (DI hn).1) _ _ _ _
theorem zdJ {M:cX}{B:Int}:∀(l:List cB),fQ M B->(∀s∈l,rO s)->∀o∈(gO M l).2,o.l.length<=9/\o.keys.length<=64:=by
 intro l;induction l generalizing M B with
 |nil=>intro _ _ o ho;simp[gO]at ho
 |cons x l ih=>
  intro h hs o ho;simp only[gO,kD]at ho;rcases ho with rfl|ho
  ·exact zdK h x
  ·exact ih (h.step (hs x JN)) (λs hm=>hs s (JO _ hm)) o ho
end Go.G
