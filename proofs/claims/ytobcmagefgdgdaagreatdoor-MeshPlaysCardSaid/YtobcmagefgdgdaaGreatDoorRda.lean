/- LAYERS 7 to 12, THE REFERENCE, walked -/
import Derived.Test.YtobcmagefgdgdaaGreatDoorRba
set_option linter.unusedSimpArgs false
set_option linter.unusedVariables false
set_option maxRecDepth 100000
set_option maxHeartbeats 8000000
namespace Go.G
open Go.AI
theorem Cd (n:Nat):(n:Int).tmod 128=((n%128:Nat):Int):=by rw[Int.tmod_eq_emod_of_nonneg (by omega)];omega
theorem Wn (n:Nat):(n:Int).tdiv 128=((n/128:Nat):Int):=by rw[Int.tdiv_eq_ediv_of_nonneg (by omega)];omega
def p7 (k:Nat):Nat:=2^(7*k)
theorem zdG :p7 0=1:=rfl
theorem zdE (k:Nat):p7 (k+1)=p7 k*128:=by unfold p7;rw[Nat.mul_add,Nat.pow_add]
theorem zdF {k:Nat}(h:k<=4):1<=p7 k/\p7 k<=268435456:=by
 have:k=0\/k=1\/k=2\/k=3\/k=4:=by omega
 rcases this with rfl|rfl|rfl|rfl|rfl<;>decide
end Go.G
namespace Go.Proofs.YtobcmagefgdgdaaGreatDoor
open Go.AI Go.G Tryz
attribute [simp] ntmps175 results175 ntmps266 results266 ntmps362 results362 ntmps111 results111
attribute [simp] aV
theorem ZS (n:Int):C0 175 [int n] (int (kZ n)):=by
 refine Ct.B func175 ?_;simp;have e:=Ro n;exact aA (by simp[e])
theorem WW (l:List UInt8)(n:Int)(hl:l.length<=1000000):C1 266 [aB (l.map aV),int n] [] [] (.own 64) [(64,.grow 1 ((l++aL n).map aV) 5)]:=by
 refine Ct.B func266 ?_;simp;refine⟨by omega,?_⟩;refine CI.p (ZS n) ?_;simp;obtain⟨m,e0,e1,e2⟩:=IX n;simp[e0];refine aH.inv mixed rfl (ι:={z:List UInt8×Nat×Nat//x8 m z.1 z.2.1 z.2.2}) (λk=>[(1,int k.1.2.1),(5,.own 256)]) (λk=>[(256,.grow 1 ((l++k.1.1).map aV) 5)]) 257 (λk=>k.1.2.2) ⟨([],m,5),.start e1⟩ [] (by constructor<;>simp) ?_;rintro⟨⟨q,n,f⟩,hI⟩ B hB;simp only at hI;refine CI.n ?_;simp;have hs:=hI.small;have hql:q.length<=5:=by have:=hI.l;omega
 have hf:=hI.f1;have w0:=Cd n;have w1:IntKind.wrap .u8 ((n:Int)%128+128)=((n:Int)%128+128)%256:=wrap_u8 _;have w2:=Wn n;have w4:=wz ((n:Int)%128+128);have w5:=wz ((n:Int)/128);refine aX (λh1 zz=>?_) (λh1 zz=>?_)<;>simp only[zz]<;>simp[w0,w1,w2,w4,w5]
 ·refine⟨by omega,?_⟩;refine hB _ ⟨(q++[UInt8.ofNat (n%128+128)],n/128,f-1),hI.step (by omega)⟩ [] ?_ (by simp;omega);constructor<;>simp[w1,w2,w4,w5]
 ·have h1':n<128:=by omega
  have w3:=WX n h1';have e3:=hI.last h1';simp[w3];refine⟨by omega,?_⟩;exact⟨[(64,641)],by constructor<;>simp[aI,aJ,e2,<-e3]⟩
theorem Wj (l:List UInt8)(s:Str)(hl:l.length<=900000)(hs:(bs s).length<=1000000):C1 362 [aB (l.map aV),str s] [] [] (.own 64) [(64,.grow 1 ((l++cY s).map aV) 5)]:=by
 refine Ct.B func362 ?_;simp;have h5:=cO ((bs s).length:Int);have e:List.map (λc:UInt8=>[D.v (.int .u8 c.toNat)]) (ByteArray.toList s)=(bs s).map aV:=Cw s;have e1:ByteArray.size s=(bs s).length:=iA s;refine CI.cc [] (WW l (bs s).length (by omega)) ?_ (ha:=by simp[e,e1]) (hk:=by simp[e,e1]);simp[e,e1];refine⟨by omega,?_⟩;exact⟨[(64,576)],by constructor<;>simp[aI,aJ,cY]⟩
theorem oI (l:List UInt8)(n:Int)(hl:l.length<=1000000):C0 266 [aB (l.map aV),int n] (aB ((l++aL n).map aV)):=(WW l n hl).data
theorem EO (l:List UInt8)(s:Str)(hl:l.length<=900000)(hs:(bs s).length<=1000000):C0 362 [aB (l.map aV),str s] (aB ((l++cY s).map aV)):=(Wj l s hl hs).data
theorem zdg (n lim:Int)(t:List UInt8)(h0:0<=n)(h1:n<=kZ lim)(ht:t.length<=1000000):C0 111 [aB ((aL n++t).map aV),int lim] (.aU [int n,int (aL n).length,int 0]):=by
 refine Ct.B func111 ?_;simp;have hb:kZ lim<=2147483647:=by unfold kZ;omega
 have h:n<=2147483647:=by omega
 have hq5:=cO n;obtain⟨m,rfl⟩:∃m:Nat,n=m:=⟨n.toNat,by omega⟩;have hq:aL (m:Int)=o5 5 m:=by obtain⟨x,e0,e1,e2⟩:=IX (m:Int);rw[SK h0 h]at e0;rw[e2];congr 1;omega
 have hs:=wW.start (m:=m) (by omega);rw[<-hq]at hs;generalize aL (m:Int)=q at*;refine aH.inv mixed rfl (ι:={z:Nat×Nat×Nat//wW m q z.1 z.2.1 z.2.2}) (λk=>[(0,aB ((q++t).map aV)),(1,int lim),(7,int k.1.2.1),(8,int (p7 k.1.1:Nat)),(9,int k.1.1)]) (λk=>[]) 64 (λk=>5-k.1.1) ⟨(0,0,m),hs⟩ [] (by constructor<;>simp[zdG]) ?_;rintro⟨⟨k,n0,r⟩,hI⟩ B hB;simp only at hI;have hk4:=hI.k4;have wk:IntKind.wrap .i64 ((k:Int)+1)=k+1:=wz _;have k5:(k:Int)<5:=by omega
 obtain⟨p1,p2⟩:=zdF hk4;have pn:=hI.n0;have pm:m=n0+p7 k*r:=hI.m;change n0<p7 k at pn;have wp:=wz ((p7 k:Int)*128);have ps:=zdE k;by_cases hr:r<128
 ·obtain⟨a1,a2⟩:=hI.last hr;have hkq:k<q.length:=by omega
  have g1:¬(q.length:Int)+t.length<=k:=by omega
  have b0:((q[k]).toNat:Int)=r:=by rw[bO hkq]at a1;rw[mW a1,J2 _ (by omega)]
  have t0:(r:Int).tmod 128=r:=by rw[Cd];omega
  have t1:IntKind.wrap .u8 (r:Int)=r:=by rw[wrap_u8];omega
  have t2:IntKind.wrap .i64 (r:Int)=r:=wz _;have bd:r*p7 k<=128*268435456:=Nat.mul_le_mul (by omega) p2;have b2:((r*p7 k:Nat):Int)=(r:Int)*p7 k:=Int.natCast_mul _ _;have hr':(r:Int)<128:=by omega
  have t3:=wz ((r:Int)*p7 k);have t4:=wz ((n0:Int)+(r:Int)*p7 k);have e5:(n0:Int)+(r:Int)*p7 k=m:=by rw[<-b2,pm,uO];omega
  have e6:(k:Int)+1=q.length:=by omega
  have c2:¬kZ lim<m:=by omega
  have t5:IntKind.wrap .i64 (m:Int)=m:=wz _;refine CI.n ?_;simp[k5,g1,hkq,b0,TN,t0,t1,t2,t3,t4,wp,wk,hr',e5,t5];by_cases k0:k=0
  ·have c1:¬0<k:=by omega
   simp[c1];refine CI.p (ZS lim) ?_;simp;simp[c2,wk];exact aA (by simp[e6])
  ·have c1:0<k:=by omega
   have c3:¬r=0:=by have:=hI.pos c1;omega
   simp[c1,hkq,b0,TN,c3];refine CI.p (ZS lim) ?_;simp;simp[c2,wk];exact aA (by simp[e6])
 ·obtain⟨a1,a2,a3⟩:=hI.more hr;have hkq:k<q.length:=by omega
  have g1:¬(q.length:Int)+t.length<=k:=by omega
  have b0:((q[k]).toNat:Int)=(r:Int)%128+128:=by rw[bO hkq]at a1;rw[mW a1,J2 _ (by omega)];omega
  have t0:((r:Int)%128+128).tmod 128=(r:Int)%128:=by rw[Int.tmod_eq_emod_of_nonneg (by omega)];omega
  have t1:IntKind.wrap .u8 ((r:Int)%128)=(r:Int)%128:=by rw[wrap_u8];omega
  have t2:=wz ((r:Int)%128);have bd:r%128*p7 k<=128*268435456:=Nat.mul_le_mul (by omega) p2;have b2:((r%128*p7 k:Nat):Int)=(r:Int)%128*p7 k:=by rw[Int.natCast_mul];rfl
  have hr':¬(r:Int)%128+128<128:=by omega
  have t3:=wz ((r:Int)%128*p7 k);have t4:=wz ((n0:Int)+(r:Int)%128*p7 k);have e5:(n0:Int)+(r:Int)%128*p7 k=((n0+2^(7*k)*(r%128):Nat):Int):=by rw[<-b2,uO];show _=((n0+p7 k*(r%128):Nat):Int);omega
  have e7:(p7 k:Int)*128=((p7 (k+1):Nat):Int):=by rw[ps];omega
  refine CI.n ?_;simp[k5,g1,hkq,b0,TN,t0,t1,t2,t3,t4,wp,wk,hr'];generalize hN:n0+2^(7*k)*(r%128)=N at a3 e5;refine hB _ ⟨(k+1,N,r/128),a3⟩ [] ?_ (by simp;omega);constructor<;>simp[wk,e5,e7]
end Go.Proofs.YtobcmagefgdgdaaGreatDoor
namespace Go.G
open Go.AI
def l8 {α:Type}(lay:α->List UInt8)(b:List UInt8)(l:List α):List UInt8:=b++l.flatMap lay
theorem xI {α:Type}(lay:α->List UInt8)(b:List UInt8):l8 lay b []=b:=by simp[l8]
theorem HQ {α:Type}(lay:α->List UInt8)(b:List UInt8)(l:List α)(x:α):l8 lay b (l++[x])=l8 lay b l++lay x:=by simp[l8]
theorem HT {α:Type}{lay:α->List UInt8}{m:Nat}(b:List UInt8){l:List α}(k:Nat)(h:∀y∈l,(lay y).length<=m):(l8 lay b (l.take k)).length<=b.length+l.length*m:=by
 have:=FN l k h;simp only[l8,bZ];omega
theorem WK {α:Type}(lay:α->List UInt8)(b:List UInt8)(l:List α):l8 lay (b++aL l.length) l=b++bK l lay:=by simp[l8,bK]
theorem zbU (b:List UInt8)(r:cH):l8 jA (b++(cY r.host++(cY r.pre++aL r.split.length))) r.split=b++jJ r:=by simp[l8,bK,jJ]
end Go.G
namespace Go.Proofs.YtobcmagefgdgdaaGreatDoor
open Go.AI Go.G Tryz
attribute [simp] ntmps115 results115 ntmps267 results267 ntmps455 results455
attribute [simp] aV
theorem YP (k_:Key):C0 115 [st (aQ k_)] (bool (eN k_)):=by
 refine Ct.B func115 ?_;simp;rw[Jp];by_cases h1:0<=k_.kind
 ·by_cases h2:k_.kind<=3
  ·simp[h1,h2];refine CI.p (DK k_.name) ?_;simp;have e2:k_.kind<4:=by omega
   exact aA (by simp[h1,e2])
  ·have e2:¬k_.kind<4:=by omega
   simp[h1,h2];exact aA (by simp[h1,e2])
 ·simp[h1];exact aA (by simp[h1])
theorem Gq (b:List UInt8)(k_:Key)(hk:eN k_=true)(hb:b.length<=200000):C0 267 [aB (b.map aV),st (aQ k_)] (aB ((b++dK k_).map aV)):=by
 refine Ct.B func267 ?_;simp;have hi:=ID hk;have hn:=cO k_.kind;refine CI.p (YP k_) ?_ (ha:=by simp[hk]);simp[hk];refine CI.p (oI b k_.kind (by omega)) ?_;simp;refine CI.p (EO (b++aL k_.kind) k_.name (by simp;omega) (by omega)) ?_;simp;exact aA (by simp[dK])
theorem zbO (b:List UInt8)(l:List cH)(hrs:∀r∈l,I9 r)(hl:l.length<=8)(hb:b.length<=189000):C0 455 [aB (b.map aV),aB (l.map dJ)] (aB ((b++bK l jJ).map aV)):=by
 refine Ct.B func455 ?_;simp;have n0:=cO l.length;refine CI.p (oI b l.length (by omega)) ?_;simp;refine aH.V (l) (λk=>[(0,aB ((l8 jJ (b++aL l.length) (l.take k.1)).map aV)),(1,aB (l.map dJ)),(5,int k.1)]) (λk=>[]) 512 (λk hk1 B hB=>?_) (h0:=by constructor<;>simp[xI]);simp[xI];rcases bC hk1 with⟨r,hk,hx,hr,hm,ht,hd,hw,h⟩|rfl
 ·simp[h,hr,hw];have I:=hrs r hm;have lb:=HT (b++aL l.length) k (m:=183) λy hy=>KM (hrs y hy);have ta:=HQ jJ (b++aL l.length) (l.take k) r;rw[bZ]at lb;have i1:=I.host;have i2:=I.pre;have i3:=I.split;have n1:=mG i1;have n2:=mG i2;have n3:=cO r.split.length;have rn:=zbU (l8 jJ (b++aL l.length) (l.take k)) r;generalize l8 jJ (b++aL l.length) (l.take k)=X at lb ta rn⊢;refine CI.p (EO X r.host (by omega) (by omega)) ?_ (ha:=by simp[hr,hk,hx,h]);simp[hr,hk,hx,h];refine CI.p (EO (X++cY r.host) r.pre (by simp;omega) (by omega)) ?_ (ha:=by simp[hr,hk,hx,h]);simp[hr,hk,hx,h];refine CI.p (oI (X++cY r.host++cY r.pre) r.split.length (by simp;omega)) ?_ (ha:=by simp[hr,hk,hx,h]);simp[hr,hk,hx,h];have lx:(X++(cY r.host++(cY r.pre++aL r.split.length))).length<=300000:=by simp;omega
  obtain⟨Y,hY⟩:∃Y,X++(cY r.host++(cY r.pre++aL r.split.length))=Y:=⟨_,rfl⟩;refine aH.V (r.split) (λkj=>[(0,aB ((l8 jA (X++(cY r.host++(cY r.pre++aL r.split.length))) (r.split.take kj.1)).map aV)),(1,aB (l.map dJ)),(5,int k),(6,int kj.1)]) (λkj=>[]) 1024 (λkj hk1j Bj hBj=>?_) (h0:=by constructor<;>simp[xI,hr,hk,hx,h]);simp[xI,hr,hk,hx,h];rcases bC hk1j with⟨w,hkj,hxj,hrj,hmj,htj,hdj,hwj,hj⟩|rfl
  ·simp[hj,hrj,hwj,hr,hk,hx,h];have W:=I.each w hmj;have w1:=W.c;have w2:=mG w1;have lj:=HT (X++(cY r.host++(cY r.pre++aL r.split.length))) kj (m:=22) λy hy=>GI (I.each y hy);have tj:=HQ jA (X++(cY r.host++(cY r.pre++aL r.split.length))) (r.split.take kj) w;rw[hY]at lx lj tj⊢;generalize l8 jA Y (r.split.take kj)=Z at lj tj⊢;refine CI.p (EO Z w.fT (by omega) (by omega)) ?_ (ha:=by simp[hrj,hkj,hxj,hj,hr,hk,hx,h]);simp[hrj,hkj,hxj,hj,hr,hk,hx,h];refine CI.p (oI (Z++cY w.fT) w.w (by simp;omega)) ?_ (ha:=by simp[hrj,hkj,hxj,hj,hr,hk,hx,h]);simp[hrj,hkj,hxj,hj,hr,hk,hx,h];exact hBj hkj (by constructor<;>simp[hwj,htj,tj,hY,jA])
  ·simp;rw[rn];exact hB hk (by constructor<;>simp[hw,ht,ta])
 ·simp;rw[WK];exact aA
attribute [simp] ntmps63 results63 ntmps67 results67 ntmps196 results196 ntmps195 results195 ntmps64 results64 ntmps114 results114
attribute [simp] aV
theorem NL (n lim:Int)(t:List UInt8)(h0:0<=n)(h1:n<=kZ lim)(ht:t.length<=1000000):C0 63 [st [lD ((aL n++t).map aV),iD 0],int lim] (.aU [st [lD (t.map aV),iD 0],int n]):=by
 refine Ct.B func63 ?_;simp;refine CI.p (zdg n lim t h0 h1 ht) ?_;simp;have e:=RP (aL n) t;refine⟨by omega,?_⟩;exact aA (by simp[e])
theorem Vl (s:Str)(lim:Int)(t:List UInt8)(h1:((bs s).length:Int)<=kZ lim)(ht:(bs s).length+t.length<=1000000):C0 67 [st [lD ((cY s++t).map aV),iD 0],int lim] (.aU [st [lD (t.map aV),iD 0],str s]):=by
 refine Ct.B func67 ?_;simp;have hb:kZ lim<=2147483647:=by unfold kZ;omega
 refine CI.p (NL (bs s).length lim (bs s++t) (by omega) h1 (by simp;omega)) ?_ (ha:=by simp[cY]);simp[cY];have g:¬((bs s).length:Int)+t.length<(bs s).length:=by omega
 have e:=RP (bs s) t;have e1:=Bs s;simp[g];refine⟨by omega,?_⟩;refine dr ?_;exact aA (by simp[e,e1])
theorem RQ :C0 196 [st [lD [],iD 0]] (.aU [st [lD [],iD 0],int 0]):=by
 refine Ct.B func196 ?_;simp;exact aK
theorem yJ (n lim:Int)(t:List UInt8)(h0:0<=n)(h1:n<=kZ lim)(ht:t.length<=1000000):C1 195 [.ptr 0 0,int lim] [] [(0,.cells [aB ((aL n++t).map aV),int 0] 74)] (int n) [(0,.cells [aB (t.map aV),int 0] 74)]:=by
 refine Ct.B func195 ?_;simp;refine CI.p (NL n lim t h0 h1 ht) ?_;simp;exact⟨[],by constructor<;>simp[aI,aJ]⟩
theorem yI (n lim:Int)(t:List UInt8)(h0:0<=n)(h1:n<=kZ lim)(ht:t.length<=1000000):C1 64 [.ptr 0 0,int lim] [] [(0,.cells [aB ((aL n++t).map aV),int 0] 74)] (int n) [(0,.cells [aB (t.map aV),int 0] 74)]:=by
 refine Ct.B func64 ?_;simp;refine CI.p (NL n lim t h0 h1 ht) ?_;simp;exact⟨[],by constructor<;>simp[aI,aJ]⟩
theorem E4 (s:Str)(lim:Int)(t:List UInt8)(h1:((bs s).length:Int)<=kZ lim)(ht:(bs s).length+t.length<=1000000):C1 114 [.ptr 0 0,int lim] [] [(0,.cells [aB ((cY s++t).map aV),int 0] 74)] (str s) [(0,.cells [aB (t.map aV),int 0] 74)]:=by
 refine Ct.B func114 ?_;simp;refine CI.p (Vl s lim t h1 ht) ?_;simp;exact⟨[],by constructor<;>simp[aI,aJ]⟩
attribute [simp] ntmps363 results363 ntmps269 results269 ntmps268 results268
attribute [simp] aV
theorem zcC (b:List UInt8)(r:aC)(hs:cQ r=0)(hb:b.length<=187000):C0 363 [aB (b.map aV),st (aF r)] (aB ((b++fD r).map aV)):=by
 refine Ct.B func363 ?_;simp;have I:=uY hs;have n1:=cO r.kind;have n2:=mG I.name;have n3:=cO r.bR;have n4:=cO r.port;have i1:=I.name;have i2:=I.rules;have i3:=I.bH;have i4:=I.to;refine CI.p (G0 r) ?_ (ha:=by simp[hs]);simp[hs];refine CI.p (oI b r.kind (by omega)) ?_;simp;refine CI.p (EO (b++aL r.kind) r.name (by simp;omega) (by omega)) ?_;simp;refine CI.p (oI (b++aL r.kind++cY r.name) r.bR (by simp;omega)) ?_;simp;have hc:(b++aL r.kind++cY r.name++aL r.bR).length<=187100:=by simp;omega
 rcases(show r.kind=0\/r.kind=1\/r.kind=2\/r.kind=3 from by have:=I.k0;have:=I.k3;omega)with kd|kd|kd|kd
 all_goals rw[kd]at hc
 ·simp[kd];refine CI.p (oI (b++aL 0++cY r.name++aL r.bR) r.port (by omega)) ?_;simp;refine CI.p (EO (b++aL 0++cY r.name++aL r.bR++aL r.port) r.to (by simp at hc⊢;omega) (by omega)) ?_;simp;exact aA (by simp[fD,jQ,kd])
 ·simp[kd];refine CI.p (zbO (b++aL 1++cY r.name++aL r.bR) r.rules I.rule (by omega) (by omega)) ?_;simp;exact aA (by simp[fD,jQ,kd])
 ·simp[kd];refine CI.p (EO (b++aL 2++cY r.name++aL r.bR) r.to (by omega) (by omega)) ?_;simp;exact aA (by simp[fD,jQ,kd])
 ·simp[kd];have n5:=cO r.bH.length;refine CI.p (oI (b++aL 3++cY r.name++aL r.bR) r.bH.length (by omega)) ?_;simp;have hd:(b++(aL 3++(cY r.name++(aL r.bR++aL r.bH.length)))).length<=187200:=by simp at hc⊢;omega
  refine aH.V (r.bH) (λk=>[(0,aB ((l8 aL (b++(aL 3++(cY r.name++(aL r.bR++aL r.bH.length)))) (r.bH.take k.1)).map aV)),(3,.ptr 64 0),(5,int k.1)]) (λk=>[(64,.cells ((aF r).map .d) 174)]) 2048 (λk hk1 B hB=>?_) (h0:=by constructor<;>simp[xI,kd]);simp[xI,kd];rcases bC hk1 with⟨y,hk,hx,hr,hm,ht,hd,hw,h⟩|rfl
  ·simp[h,hr,hw];have lb:=HT (b++(aL 3++(cY r.name++(aL r.bR++aL r.bH.length)))) k (l:=r.bH) (m:=5) λy hy=>cO y;have ta:=HQ aL (b++(aL 3++(cY r.name++(aL r.bR++aL r.bH.length)))) (r.bH.take k) y;generalize l8 aL (b++(aL 3++(cY r.name++(aL r.bR++aL r.bH.length)))) (r.bH.take k)=X at lb ta⊢;refine CI.p (oI X y (by omega)) ?_;simp;exact hB hk (by constructor<;>simp[hw,ht,ta,kd])
  ·simp;exact aA (by simp[fD,jQ,kd,l8,bK])
theorem V1 (b:List UInt8)(l:List Key)(hks:∀k∈l,eN k=true)(hl:l.length<=64)(hb:b.length<=190000):C0 269 [aB (b.map aV),aB (l.map aQ)] (aB ((b++bK l dK).map aV)):=by
 refine Ct.B func269 ?_;simp;have n0:=cO l.length;refine aH.gH 5 2 184 rfl ?_;refine aH.inv mixed rfl (ι:={z:Nat//z<=l.length}) (λk=>[(0,aB (b.map aV)),(1,aB (l.map aQ)),(5,.own 64),(6,int k.1)]) (λk=>[(64,.grow 2 ((l.take k.1).map aQ) 184)]) 65 (λk=>l.length-k.1) ⟨0,by omega⟩ [] (by constructor<;>simp) ?_;rintro⟨k,hk1⟩ B hB;refine CI.n ?_;simp;by_cases h:k<l.length
 ·obtain⟨x,hx,hr,hm,ht,hd⟩:=iU h;have hw:=wr (k:=k) (by omega);have m0:min k l.length=k:=by omega
  have m1:(k:Int)<64:=by omega
  have m2:k<64:=by omega
  simp[h,m0,m1,m2];refine CI.p (YP x) ?_ (ha:=by simp[hr,h,hx,hks x hm]);simp[hr,h,hx,hks x hm];refine⟨by omega,?_⟩;refine hB _ ⟨k+1,h⟩ [] ?_ (by simp;omega);constructor<;>simp[hw,ht]
 ·have e:k=l.length:=by omega
  subst e;simp;refine CI.p (oI b l.length (by omega)) ?_;simp;refine aH.V (l) (λk=>[(0,aB ((l8 dK (b++aL l.length) (l.take k.1)).map aV)),(5,.own 64),(7,int k.1)]) (λk=>[(64,.grow 2 (l.map aQ) 184)]) 2048 (λk hk1 B hB=>?_) (h0:=by constructor<;>simp[xI]);simp[xI];rcases bC hk1 with⟨x,hk,hx,hr,hm,ht,hd,hw,h⟩|rfl
  ·simp[h,hr,hw];have lb:=HT (b++aL l.length) k (m:=22) λy hy=>uE (hks y hy);have ta:=HQ dK (b++aL l.length) (l.take k) x;rw[bZ]at lb;generalize l8 dK (b++aL l.length) (l.take k)=X at lb ta⊢;simp[hr,hk,hx,h];refine CI.p (Gq X x (hks x hm) (by omega)) ?_ (ha:=by simp[hr,hk,hx,h]);simp[hr,hk,hx,h];exact hB hk (by constructor<;>simp[hw,ht,ta])
  ·simp;rw[WK];exact aA
theorem zcL (b:List UInt8)(l:List aC)(hks:∀k∈l,cQ k=0)(hl:l.length<=64)(hb:b.length<=90000):C0 268 [aB (b.map aV),aB (l.map aF)] (aB ((b++bK l fD).map aV)):=by
 refine Ct.B func268 ?_;simp;have n0:=cO l.length;refine aH.gH 5 7 174 rfl ?_;refine aH.inv mixed rfl (ι:={z:Nat//z<=l.length}) (λk=>[(0,aB (b.map aV)),(1,aB (l.map aF)),(5,.own 64),(6,int k.1)]) (λk=>[(64,.grow 7 ((l.take k.1).map aF) 174)]) 65 (λk=>l.length-k.1) ⟨0,by omega⟩ [] (by constructor<;>simp) ?_;rintro⟨k,hk1⟩ B hB;refine CI.n ?_;simp;by_cases h:k<l.length
 ·obtain⟨x,hx,hr,hm,ht,hd⟩:=iU h;have hw:=wr (k:=k) (by omega);have m0:min k l.length=k:=by omega
  have m1:(k:Int)<64:=by omega
  have m2:k<64:=by omega
  simp[h,m0,m1,m2];refine CI.p (G0 x) ?_ (ha:=by simp[hr,h,hx,hks x hm]);simp[hr,h,hx,hks x hm];refine⟨by omega,?_⟩;refine hB _ ⟨k+1,h⟩ [] ?_ (by simp;omega);constructor<;>simp[hw,ht]
 ·have e:k=l.length:=by omega
  subst e;simp;refine CI.p (oI b l.length (by omega)) ?_;simp;refine aH.V (l) (λk=>[(0,aB ((l8 fD (b++aL l.length) (l.take k.1)).map aV)),(5,.own 64),(7,int k.1)]) (λk=>[(64,.grow 7 (l.map aF) 174)]) 2048 (λk hk1 B hB=>?_) (h0:=by constructor<;>simp[xI]);simp[xI];rcases bC hk1 with⟨x,hk,hx,hr,hm,ht,hd,hw,h⟩|rfl
  ·simp[h,hr,hw];have lb:=HT (b++aL l.length) k (m:=1496) λy hy=>A9 (uY (hks y hy));have ta:=HQ fD (b++aL l.length) (l.take k) x;rw[bZ]at lb;generalize l8 fD (b++aL l.length) (l.take k)=X at lb ta⊢;simp[hr,hk,hx,h];refine CI.p (zcC X x (hks x hm) (by omega)) ?_ (ha:=by simp[hr,hk,hx,h]);simp[hr,hk,hx,h];exact hB hk (by constructor<;>simp[hw,ht,ta])
  ·simp;rw[WK];exact aA
attribute [simp] ntmps66 results66 ntmps31 results31 ntmps176 results176
attribute [simp] aV
theorem Cp (k_:Key)(t:List UInt8)(hk:eN k_=true)(ht:t.length<=900000):C1 66 [.ptr 0 0] [] [(0,.cells [aB ((dK k_++t).map aV),int 0] 74)] (st (aQ k_)) [(0,.cells [aB ((t).map aV),int 0] 74)]:=by
 refine Ct.B func66 ?_;simp;obtain⟨h1,h2,h3⟩:=ID hk;have n1:=mG h3;refine CI.cc [0] (yI k_.kind 3 (cY k_.name++t) h1 (eC h2 (by omega) (by omega)) (by simp;omega)) ?_ (ha:=by simp[dK]) (hk:=by simp[dK]);simp[dK];refine CI.cc [0] (E4 k_.name 12 t (eC (by omega) (by omega) (by omega)) (by omega)) ?_;simp;refine CI.p (YP k_) ?_ (ha:=by simp[hk]);simp[hk];exact⟨[],by constructor<;>simp[aI,aJ]⟩
theorem UN (l:List Key)(t:List UInt8)(hs:∀k∈l,eN k=true)(hl:l.length<=64)(ht:t.length<=700000):C1 31 [.ptr 0 0] [] [(0,.cells [aB ((bK l dK++t).map aV),int 0] 74)] (aB (l.map aQ)) [(0,.cells [aB ((t).map aV),int 0] 74)]:=by
 refine Ct.B func31 ?_;simp;have hy:∀y∈l,(dK y).length<=22:=λy hy=>uE (hs y hy);have hall:=uG l hy;refine CI.cc [0] (yI l.length 64 (l.flatMap dK++t) (by omega) (eC (by omega) (by omega) (by omega)) (by simp only[bZ];omega)) ?_ (ha:=by simp[bK]) (hk:=by simp[bK]);simp[bK];refine aH.gH 4 2 184 rfl ?_;refine aH.inv mixed rfl (ι:={z:Nat//z<=l.length}) (λk=>[(0,.ptr 0 0),(3,int l.length),(4,.own 64),(5,int k.1)]) (λk=>[(64,.grow 2 ((l.take k.1).map aQ) 184),(0,.cells [aB (((l.drop k.1).flatMap dK++t).map aV),int 0] 74)]) 65 (λk=>l.length-k.1) ⟨0,by omega⟩ [] (by constructor<;>simp) ?_;rintro⟨k,hk1⟩ B hB;refine CI.n ?_;simp;by_cases h:k<l.length
 ·obtain⟨x,hx,hr,hm,ht',hd⟩:=iU h;have hw:=wr (k:=k) (by omega);have hd2:=xV l (k+1) hy;simp[h];refine CI.cc [0] (Cp x ((l.drop (k+1)).flatMap dK++t) (hs x hm) (by simp only[bZ];omega)) ?_ (ha:=by simp[hd]) (hk:=by simp[hd]);simp[hd];refine⟨by omega,?_⟩;refine hB _ ⟨k+1,h⟩ [] ?_ (by simp;omega);constructor<;>simp[hw,ht']
 ·have e:k=l.length:=by omega
  subst e;simp;exact⟨[],by constructor<;>simp[aI,aJ]⟩
theorem zbR (r:cH)(t:List UInt8)(hrr:I9 r)(ht:t.length<=889000):C1 176 [.ptr 0 0] [] [(0,.cells [aB ((jJ r++t).map aV),int 0] 74)] (st (dJ r)) [(0,.cells [aB ((t).map aV),int 0] 74)]:=by
 refine Ct.B func176 ?_;simp;have h1:=hrr.host;have h2:=hrr.pre;have n1:=mG h1;have n2:=mG h2;have h3:=hrr.split;have hy:∀y∈r.split,(jA y).length<=22:=λw hw=>GI (hrr.each w hw);have n3:=pC hy;have n4:=uG r.split hy;have n5:=cO r.split.length;refine CI.cc [0] (E4 r.host 40 (cY r.pre++(bK r.split jA++t)) (eC (by omega) (by omega) (by omega)) (by simp only[bZ];omega)) ?_ (ha:=by simp[jJ]) (hk:=by simp[jJ]);simp[jJ];refine CI.cc [0] (E4 r.pre 40 (bK r.split jA++t) (eC (by omega) (by omega) (by omega)) (by simp only[bZ];omega)) ?_;simp;refine CI.cc [0] (yI r.split.length 4 (r.split.flatMap jA++t) (by omega) (eC (by omega) (by omega) (by omega)) (by simp only[bZ];omega)) ?_ (ha:=by simp[bK]) (hk:=by simp[bK]);simp[bK];refine aH.BJ 320 2 2 176 179 _ rfl rfl ?_;refine aH.inv mixed rfl (ι:={z:Nat//z<=r.split.length}) (λk=>[(0,.ptr 0 0),(2,.ptr 64 0),(3,.ptr 65 0),(4,int r.split.length),(5,int k.1)]) (λk=>[(64,.cells [str ⟨#[]⟩,str ⟨#[]⟩,aB []] 179),(65,.cells [str r.host,str r.pre,.own 66] 179),(66,.grow 2 ((r.split.take k.1).map wC) 176),(0,.cells [aB (((r.split.drop k.1).flatMap jA++t).map aV),int 0] 74)]) 67 (λk=>r.split.length-k.1) ⟨0,by omega⟩ [] (by constructor<;>simp) ?_;rintro⟨k,hk1⟩ B hB;refine CI.n ?_;simp;by_cases h:k<r.split.length
 ·obtain⟨w,hx,hr,hm,ht',hd⟩:=iU h;have hw:=wr (k:=k) (by omega);have W:=hrr.each w hm;have w1:=W.c;have w2:=mG w1;have w3:=cO w.w;have hd2:=xV r.split (k+1) hy;simp[h];refine CI.cc [0] (E4 w.fT 12 (aL w.w++((r.split.drop (k+1)).flatMap jA++t)) (eC (by omega) (by omega) (by omega)) (by simp only[bZ];omega)) ?_ (ha:=by simp[hd,jA]) (hk:=by simp[hd,jA]);simp[hd,jA];refine CI.cc [0] (yI w.w 100 ((r.split.drop (k+1)).flatMap jA++t) W.w0 (eC W.w1 (by omega) (by omega)) (by simp only[bZ];omega)) ?_;simp;refine⟨by omega,?_⟩;refine hB _ ⟨k+1,h⟩ [] ?_ (by simp;omega);constructor<;>simp[hw,ht']
 ·have e:k=r.split.length:=by omega
  subst e;simp;exact⟨[],by constructor<;>simp[aI,aJ]⟩
attribute [simp] ntmps112 results112 ntmps65 results65 ntmps30 results30
attribute [simp] aV
theorem Xc (r:aC)(t:List UInt8)(hs:cQ r=0)(ht:t.length<=870000):C1 112 [.ptr 0 0] [] [(0,.cells [aB ((fD r++t).map aV),int 0] 74)] (st (aF r)) [(0,.cells [aB ((t).map aV),int 0] 74)]:=by
 refine Ct.B func112 ?_;simp;have I:=uY hs;have n2:=mG I.name;have n3:=cO r.bR;have n4:=UP I;have i1:=I.name;refine CI.cc [0] (yI r.kind 3 (cY r.name++(aL r.bR++(jQ r++t))) I.k0 (eC I.k3 (by omega) (by omega)) (by simp only[bZ];omega)) ?_ (ha:=by simp[fD]) (hk:=by simp[fD]);simp[fD];refine CI.cc [0] (E4 r.name 12 (aL r.bR++(jQ r++t)) (eC (by omega) (by omega) (by omega)) (by simp only[bZ];omega)) ?_;simp;refine CI.cc [0] (yI r.bR 2147483647 (jQ r++t) I.v0 (eC I.v1 (by omega) (by omega)) (by simp only[bZ];omega)) ?_;simp;rcases(show r.kind=0\/r.kind=1\/r.kind=2\/r.kind=3 from by have:=I.k0;have:=I.k3;omega)with kd|kd|kd|kd
 ·have e1:=I.iF (by omega);have e2:=I.HY (by omega);have n5:=mG I.to;have i4:=I.to;have e3:jQ r=aL r.port++cY r.to:=by simp[jQ,kd]
  simp[kd,e3];refine CI.cc [0] (yI r.port 65535 (cY r.to++t) I.p0 (eC I.p1 (by omega) (by omega)) (by simp only[bZ];omega)) ?_;simp;refine CI.cc [0] (E4 r.to 12 t (eC (by omega) (by omega) (by omega)) (by omega)) ?_;simp;exact⟨[],by constructor<;>simp[aI,aJ,kd,e1,e2]⟩
 ·have e1:=I.HX (by omega);have e2:=I.PU (by omega) (by omega);have e4:=I.HY (by omega);have e3:jQ r=bK r.rules jJ:=by simp[jQ,kd]
  have hy:∀y∈r.rules,(jJ y).length<=183:=λy hy=>KM (I.rule y hy);have hall:=uG r.rules hy;have i5:=I.rules;simp[kd,e3];refine CI.cc [0] (yI r.rules.length 8 (r.rules.flatMap jJ++t) (by omega) (eC (by omega) (by omega) (by omega)) (by simp only[bZ];omega)) ?_ (ha:=by simp[bK]) (hk:=by simp[bK]);simp[bK];refine aH.BJ 320 5 3 179 174 _ rfl rfl ?_;refine aH.inv mixed rfl (ι:={z:Nat//z<=r.rules.length}) (λk=>[(0,.ptr 0 0),(2,.ptr 64 0),(3,.ptr 65 0),(4,int r.rules.length),(5,int k.1)]) (λk=>[(64,.cells [int 0,str ⟨#[]⟩,int 0,int 0,str ⟨#[]⟩,aB [],aB []] 174),(65,.cells [int 1,str r.name,int r.bR,int 0,str ⟨#[]⟩,.own 66,aB []] 174),(66,.grow 3 ((r.rules.take k.1).map dJ) 179),(0,.cells [aB (((r.rules.drop k.1).flatMap jJ++t).map aV),int 0] 74)]) 67 (λk=>r.rules.length-k.1) ⟨0,by omega⟩ [] (by constructor<;>simp) ?_;rintro⟨k,hk1⟩ B hB;refine CI.n ?_;simp;by_cases h:k<r.rules.length
  ·obtain⟨x,hx,hr,hm,ht',hd⟩:=iU h;have hw:=wr (k:=k) (by omega);have hd2:=xV r.rules (k+1) hy;simp[h];refine CI.cc [0] (zbR x ((r.rules.drop (k+1)).flatMap jJ++t) (I.rule x hm) (by simp only[bZ];omega)) ?_ (ha:=by simp[hd]) (hk:=by simp[hd]);simp[hd];refine⟨by omega,?_⟩;refine dr ?_;refine hB _ ⟨k+1,h⟩ [] ?_ (by simp;omega);constructor<;>simp[hw,ht']
  ·have e:k=r.rules.length:=by omega
   subst e;simp;exact⟨[],by constructor<;>simp[aI,aJ,kd,e1,e2,e4]⟩
 ·have e1:=I.iF (by omega);have e2:=I.HY (by omega);have e4:=I.HX (by omega);have i4:=I.to;have e3:jQ r=cY r.to:=by simp[jQ,kd]
  simp[kd,e3];refine CI.cc [0] (E4 r.to 12 t (eC (by omega) (by omega) (by omega)) (by omega)) ?_;simp;exact⟨[],by constructor<;>simp[aI,aJ,kd,e1,e2,e4]⟩
 ·have e1:=I.HX (by omega);have e2:=I.PU (by omega) (by omega);have e4:=I.iF (by omega);have e3:jQ r=bK r.bH aL:=by simp[jQ,kd]
  have hy:∀y∈r.bH,(aL y).length<=5:=λy _=>cO y;have hall:=uG r.bH hy;have i5:=I.bH;simp[kd,e3];refine CI.cc [0] (yI r.bH.length 8 (r.bH.flatMap aL++t) (by omega) (eC (by omega) (by omega) (by omega)) (by simp only[bZ];omega)) ?_ (ha:=by simp[bK]) (hk:=by simp[bK]);simp[bK];refine aH.BJ 320 6 1 3 174 _ rfl rfl ?_;refine aH.inv mixed rfl (ι:={z:Nat//z<=r.bH.length}) (λk=>[(0,.ptr 0 0),(2,.ptr 64 0),(3,.ptr 65 0),(6,int r.bH.length),(7,int k.1)]) (λk=>[(64,.cells [int 0,str ⟨#[]⟩,int 0,int 0,str ⟨#[]⟩,aB [],aB []] 174),(65,.cells [int 3,str r.name,int r.bR,int 0,str ⟨#[]⟩,aB [],.own 66] 174),(66,.grow 1 ((r.bH.take k.1).map kP) 3),(0,.cells [aB (((r.bH.drop k.1).flatMap aL++t).map aV),int 0] 74)]) 67 (λk=>r.bH.length-k.1) ⟨0,by omega⟩ [] (by constructor<;>simp) ?_;rintro⟨k,hk1⟩ B hB;refine CI.n ?_;simp;by_cases h:k<r.bH.length
  ·obtain⟨x,hx,hr,hm,ht',hd⟩:=iU h;have hw:=wr (k:=k) (by omega);have hd2:=xV r.bH (k+1) hy;simp[h];refine CI.cc [0] (yI x 2147483647 ((r.bH.drop (k+1)).flatMap aL++t) (I.host x hm).1 (eC (I.host x hm).2 (by omega) (by omega)) (by simp only[bZ];omega)) ?_ (ha:=by simp[hd]) (hk:=by simp[hd]);simp[hd];refine⟨by omega,?_⟩;refine dr ?_;refine hB _ ⟨k+1,h⟩ [] ?_ (by simp;omega);constructor<;>simp[hw,ht']
  ·have e:k=r.bH.length:=by omega
   subst e;simp;exact⟨[],by constructor<;>simp[aI,aJ,kd,e1,e2,e4]⟩
theorem Wp (r:aC)(t:List UInt8)(hs:cQ r=0)(ht:t.length<=870000):C1 65 [.ptr 0 0] [] [(0,.cells [aB ((fD r++t).map aV),int 0] 74)] (st (aF r)) [(0,.cells [aB ((t).map aV),int 0] 74)]:=by
 refine Ct.B func65 ?_;simp;refine CI.cc [0] (Xc r t hs ht) ?_;simp;refine CI.p (G0 r) ?_ (ha:=by simp[hs]);simp[hs];exact⟨[],by constructor<;>simp[aI,aJ]⟩
theorem Xa (l:List aC)(t:List UInt8)(hs:∀r∈l,cQ r=0)(hl:l.length<=64)(ht:t.length<=700000):C1 30 [.ptr 0 0] [] [(0,.cells [aB ((bK l fD++t).map aV),int 0] 74)] (aB (l.map aF)) [(0,.cells [aB ((t).map aV),int 0] 74)]:=by
 refine Ct.B func30 ?_;simp;have hy:∀y∈l,(fD y).length<=1496:=λy hy=>A9 (uY (hs y hy));have hall:=uG l hy;refine CI.cc [0] (yI l.length 64 (l.flatMap fD++t) (by omega) (eC (by omega) (by omega) (by omega)) (by simp only[bZ];omega)) ?_ (ha:=by simp[bK]) (hk:=by simp[bK]);simp[bK];refine aH.gH 4 7 174 rfl ?_;refine aH.inv mixed rfl (ι:={z:Nat//z<=l.length}) (λk=>[(0,.ptr 0 0),(3,int l.length),(4,.own 64),(5,int k.1)]) (λk=>[(64,.grow 7 ((l.take k.1).map aF) 174),(0,.cells [aB (((l.drop k.1).flatMap fD++t).map aV),int 0] 74)]) 65 (λk=>l.length-k.1) ⟨0,by omega⟩ [] (by constructor<;>simp) ?_;rintro⟨k,hk1⟩ B hB;refine CI.n ?_;simp;by_cases h:k<l.length
 ·obtain⟨x,hx,hr,hm,ht',hd⟩:=iU h;have hw:=wr (k:=k) (by omega);have hd2:=xV l (k+1) hy;simp[h];refine CI.cc [0] (Wp x ((l.drop (k+1)).flatMap fD++t) (hs x hm) (by simp only[bZ];omega)) ?_ (ha:=by simp[hd]) (hk:=by simp[hd]);simp[hd];refine⟨by omega,?_⟩;refine hB _ ⟨k+1,h⟩ [] ?_ (by simp;omega);constructor<;>simp[hw,ht']
 ·have e:k=l.length:=by omega
  subst e;simp;exact⟨[],by constructor<;>simp[aI,aJ]⟩
attribute [simp] ntmps191 results191 ntmps192 results192 ntmps128 results128 ntmps129 results129
attribute [simp] aV
theorem Gt (f:G.Frame)(hf:fJ f)(he:¬dD f=0):C0 191 [st (cA f)] (.aU [BI,int (dD f)]):=by
 refine Ct.B func191 ?_;simp;refine CI.p (zN f hf) ?_ (ha:=by simp[he]);simp[he];exact aA
theorem Gp (f:G.Frame)(he:dD f=0):C0 191 [st (cA f)] (.aU [aB ((j3 f).map aV),int 0]):=by
 refine Ct.B func191 ?_;simp;have F:=LJ (j9.1 he);have lk:=pC (l:=f.gone) (lay:=dK) (m:=22) λk hk=>uE (F.gone k hk);have la:=pC (l:=f.aD) (lay:=fD) (m:=1496) λr hr=>A9 (uY (F.aD r hr));have l1:=F.la;have l2:=F.lg;have l3:=F.lh;have l4:=F.ld;have n0:=cO f.type;have n1:=cO f.aM;have n2:=cO f.kind;have n3:=cO f.cN;have n4:=cO f.err;have n5:=cO f.turn;have n6:=cO f.aP.length;have hy:∀m∈f.aP,(jE m).length<=27:=λm hm=>E9 (F.aP m hm).1;refine CI.p (zN f (xJ he)) ?_ (ha:=by simp[he]);simp[he];refine CI.p (oI [] f.type (by simp)) ?_;simp;refine CI.p (oI (aL f.type) f.aM (by omega)) ?_;simp;rcases F.ty with g0|g0|g0|g0
 all_goals rw[g0]at n0
 ·simp[g0];refine CI.p (oI (aL 0++aL f.aM) f.aP.length (by simp;omega)) ?_;simp;refine aH.V (f.aP) (λk=>[(1,.ptr 64 0),(5,aB ((l8 jE (aL 0++(aL f.aM++aL f.aP.length)) (f.aP.take k.1)).map aV)),(6,int k.1)]) (λk=>[(64,.cells ((cA f).map .d) 134)]) 2048 (λk hk1 B hB=>?_) (h0:=by constructor<;>simp[xI,g0]);simp[xI,g0];rcases bC hk1 with⟨m,hk,hx,hr,hm,ht,hd,hw,h⟩|rfl
  ·simp[h,hr,hw];have lb:=HT (aL 0++(aL f.aM++aL f.aP.length)) k hy;have ta:=HQ jE (aL 0++(aL f.aM++aL f.aP.length)) (f.aP.take k) m;have F1:=F.aP m hm;have n7:=uE F1.1;simp only[bZ]at lb;generalize l8 jE (aL 0++(aL f.aM++aL f.aP.length)) (f.aP.take k)=X at lb ta⊢;refine CI.p (Gq X m.k F1.1 (by omega)) ?_ (ha:=by simp[hr,hk,hx,h]);simp[hr,hk,hx,h];refine CI.p (oI (X++dK m.k) m.bR (by simp;omega)) ?_ (ha:=by simp[hr,hk,hx,h]);simp[hr,hk,hx,h];exact hB hk (by constructor<;>simp[hw,ht,ta,jE,g0])
  ·simp;exact aA (by simp[j3,kB,g0,l8,bK])
 ·simp[g0];refine CI.p (oI (aL 1++aL f.aM) f.kind (by simp;omega)) ?_;simp;refine CI.p (oI (aL 1++aL f.aM++aL f.kind) f.cN (by simp;omega)) ?_;simp;refine CI.p (zcL (aL 1++aL f.aM++aL f.kind++aL f.cN) f.aD F.aD l1 (by simp;omega)) ?_;simp;refine CI.p (V1 (aL 1++aL f.aM++aL f.kind++aL f.cN++bK f.aD fD) f.gone F.gone l2 (by simp only[bZ];omega)) ?_;simp;exact aA (by simp[j3,kB,g0])
 ·simp[g0];refine CI.p (oI (aL 2++aL f.aM) f.kind (by simp;omega)) ?_;simp;refine CI.p (oI (aL 2++aL f.aM++aL f.kind) f.cN (by simp;omega)) ?_;simp;refine CI.p (oI (aL 2++aL f.aM++aL f.kind++aL f.cN) f.err (by simp;omega)) ?_;simp;refine CI.p (oI (aL 2++aL f.aM++aL f.kind++aL f.cN++aL f.err) f.turn (by simp;omega)) ?_;simp;refine CI.p (V1 (aL 2++aL f.aM++aL f.kind++aL f.cN++aL f.err++aL f.turn) f.held F.held l4 (by simp only[bZ];omega)) ?_;simp;exact aA (by simp[j3,kB,g0])
 ·simp[g0];refine CI.p (oI (aL 3++aL f.aM) f.turn (by simp;omega)) ?_;simp;refine CI.p (V1 (aL 3++aL f.aM++aL f.turn) f.held F.held l4 (by simp only[bZ];omega)) ?_;simp;exact aA (by simp[j3,kB,g0])
theorem NA (l:List UInt8)(hl:l.length<=100000):C0 192 [aB (l.map aV)] (.aU [aB ((oF l).map aV),int 0]):=by
 refine Ct.B func192 ?_;simp;have n0:=cO l.length;have g:¬(100000:Int)<l.length:=by omega
 simp[g];refine CI.cc [] (WW [] l.length (by simp)) ?_;simp;refine⟨by omega,?_⟩;exact aA (by simp[oF])
theorem Kp (p:List UInt8)(hl:p.length<=100000):C0 128 [aB ((oF p).map aV)] (.aU [aB (p.map aV),int (oF p).length,int 0]):=by
 refine Ct.B func128 ?_;simp;have n0:=cO p.length;refine CI.p (NL p.length 100000 p (by omega) (eC (by omega) (by omega) (by omega)) (by omega)) ?_ (ha:=by simp[oF]);simp[oF];have w1:IntKind.wrap .i64 ((((aL p.length).length:Int)+p.length)-p.length)=(aL p.length).length:=by rw[wz _];omega
 have w2:=wz (((aL p.length).length:Int)+p.length);have w3:IntKind.wrap .i64 ((aL p.length).length:Int)=(aL p.length).length:=wz _;refine⟨by omega,?_⟩;refine dr ?_;exact aA (by simp[oF,w1,w2,w3])
theorem On (f:G.Frame)(he:dD f=0):C0 129 [aB ((j3 f).map aV)] (.aU [st (cA f),int 0]):=by
 refine Ct.B func129 ?_;simp;have F:=LJ (j9.1 he);have lk:=pC (l:=f.gone) (lay:=dK) (m:=22) λk hk=>uE (F.gone k hk);have ld:=pC (l:=f.held) (lay:=dK) (m:=22) λk hk=>uE (F.held k hk);have la:=pC (l:=f.aD) (lay:=fD) (m:=1496) λr hr=>A9 (uY (F.aD r hr));have lh:=pC (l:=f.aP) (lay:=jE) (m:=27) λm hm=>E9 (F.aP m hm).1;have l1:=F.la;have l2:=F.lg;have l3:=F.lh;have l4:=F.ld;have n1:=cO f.aM;have n2:=cO f.kind;have n3:=cO f.cN;have n4:=cO f.err;have n5:=cO f.turn;have hb:=BA (j9.1 he);have hbl:(kB f).length<=99000:=by simp only[j3,bZ]at hb;omega
 refine CI.cc [320] (yJ f.type 3 (aL f.aM++kB f) (by rcases F.ty with h|h|h|h<;>omega) (eC (by rcases F.ty with h|h|h|h<;>omega) (by omega) (by omega)) (by simp only[bZ];omega)) ?_ (ha:=by simp[j3]) (hk:=by simp[j3]);simp[j3];refine CI.cc [320] (yJ f.aM 2147483647 (kB f) F.e0 (eC F.e1 (by omega) (by omega)) (by omega)) ?_;simp;have hf4:=zN f (xJ he);rw[he]at hf4;rcases F.ty with g0|g0|g0|g0
 ·obtain⟨a1,a2,a3,a4,a5,a6,a7⟩:=F.s0 g0;have e1:kB f=bK f.aP jE++[]:=by simp[kB,g0]
  simp[g0,e1];refine CI.cc [320] (yJ f.aP.length 64 (f.aP.flatMap jE++[]) (by omega) (eC (by omega) (by omega) (by omega)) (by simp only[bK,bZ,gZ]at lh⊢;omega)) ?_ (ha:=by simp[bK]) (hk:=by simp[bK]);simp[bK];have hy:∀m∈f.aP,(jE m).length<=27:=λm hm=>E9 (F.aP m hm).1;refine aH.BJ 640 8 3 325 134 _ rfl rfl ?_;refine aH.inv mixed rfl (ι:={z:Nat//z<=f.aP.length}) (λk=>[(2,.ptr 64 0),(3,int 0),(4,.ptr 65 0),(5,.ptr 66 0),(6,int f.aP.length),(7,int k.1)]) (λk=>[(64,.cells [int 0,int 0,int 0,int 0,int 0,aB [],aB [],int 0,aB [],aB []] 134),(65,.cells [aB (((f.aP.drop k.1).flatMap jE++[]).map aV),int 0] 74),(66,.cells [int 0,int f.aM,int 0,int 0,int 0,aB [],aB [],int 0,.own 67,aB []] 134),(67,.grow 3 ((f.aP.take k.1).map jD) 325)]) 68 (λk=>f.aP.length-k.1) ⟨0,by omega⟩ [] (by constructor<;>simp) ?_;rintro⟨k,hk1⟩ B hB;refine CI.run 12 400 rfl ?_;simp;by_cases h:k<f.aP.length
  ·obtain⟨m,hx,hr,hm,ht',hd⟩:=iU h;have hw:=wr (k:=k) (by omega);have hd2:=xV f.aP (k+1) hy;obtain⟨q1,q2,q3⟩:=F.aP m hm;have n7:=cO m.bR;simp[h];refine CI.cc [65] (Cp m.k (aL m.bR++((f.aP.drop (k+1)).flatMap jE++[])) q1 (by simp only[bZ,gZ];omega)) ?_ (ha:=by simp[hd,jE]) (hk:=by simp[hd,jE]);simp[hd,jE];refine CI.cc [65] (yJ m.bR 2147483647 ((f.aP.drop (k+1)).flatMap jE++[]) q2 (eC q3 (by omega) (by omega)) (by simp only[bZ,gZ];omega)) ?_;simp;refine⟨by omega,?_⟩;refine hB _ ⟨k+1,h⟩ [] ?_ (by simp;omega);constructor<;>simp[hw,ht']
  ·have e:k=f.aP.length:=by omega
   subst e;simp only[cA,g0,a1,a2,a3,a4,a5,a6,a7]at hf4;have e2:List.take f.aP.length (List.map jD f.aP)=List.map jD f.aP:=by rw[<-zB,bX]
   simp;refine CI.s (tm:=[(2,.ptr 64 0),(3,int 0),(4,.ptr 65 0),(5,.ptr 66 0)]) (mm:=[(64,.cells [int 0,int 0,int 0,int 0,int 0,aB [],aB [],int 0,aB [],aB []] 134),(65,.cells [aB [],int 0] 74),(66,.cells [int 0,int f.aM,int 0,int 0,int 0,aB [],aB [],int 0,aB (f.aP.map jD),aB []] 134)]) (nx:=67) [] [67] (by constructor<;>simp[e2]) ?_;refine CI.n ?_;simp;refine CI.p RQ ?_;simp;refine CI.p hf4 ?_;simp;exact aA (by simp[g0,a1,a2,a3,a4,a5,a6,a7])
 ·obtain⟨a1,a2,a3,a4⟩:=F.s1 g0;have e1:kB f=aL f.kind++(aL f.cN++(bK f.aD fD++(bK f.gone dK++[]))):=by simp[kB,g0]
  simp[g0,e1];refine CI.cc [320] (yJ f.kind 3 (aL f.cN++(bK f.aD fD++(bK f.gone dK++[]))) F.k0 (eC F.k3 (by omega) (by omega)) (by simp only[bZ,gZ];omega)) ?_;simp;refine CI.cc [320] (yJ f.cN 2147483647 (bK f.aD fD++(bK f.gone dK++[])) F.n0 (eC F.n1 (by omega) (by omega)) (by simp only[bZ,gZ];omega)) ?_;simp;refine CI.cc [320] (Xa f.aD (bK f.gone dK++[]) F.aD l1 (by simp only[bZ,gZ];omega)) ?_;simp;refine CI.cc [320] (UN f.gone [] F.gone l2 (by simp)) ?_;simp;simp only[cA,g0,a1,a2,a3,a4]at hf4;refine CI.p RQ ?_;simp;refine CI.p hf4 ?_;simp;exact aA (by simp[g0,a1,a2,a3,a4])
 ·obtain⟨a1,a2,a3⟩:=F.s2 g0;have e1:kB f=aL f.kind++(aL f.cN++(aL f.err++(aL f.turn++(bK f.held dK++[])))):=by simp[kB,g0]
  simp[g0,e1];refine CI.cc [320] (yJ f.kind 3 (aL f.cN++(aL f.err++(aL f.turn++(bK f.held dK++[])))) F.k0 (eC F.k3 (by omega) (by omega)) (by simp only[bZ,gZ];omega)) ?_;simp;refine CI.cc [320] (yJ f.cN 2147483647 (aL f.err++(aL f.turn++(bK f.held dK++[]))) F.n0 (eC F.n1 (by omega) (by omega)) (by simp only[bZ,gZ];omega)) ?_;simp;refine CI.cc [320] (yJ f.err 15 (aL f.turn++(bK f.held dK++[])) F.r0 (eC F.r1 (by omega) (by omega)) (by simp only[bZ,gZ];omega)) ?_;simp;refine CI.cc [320] (yJ f.turn 2147483647 (bK f.held dK++[]) F.t0 (eC F.t1 (by omega) (by omega)) (by simp only[bZ,gZ];omega)) ?_;simp;refine CI.cc [320] (UN f.held [] F.held l4 (by simp)) ?_;simp;simp only[cA,g0,a1,a2,a3]at hf4;refine CI.p RQ ?_;simp;refine CI.p hf4 ?_;simp;exact aA (by simp[g0,a1,a2,a3])
 ·obtain⟨a1,a2,a3,a4,a5,a6⟩:=F.s3 g0;have e1:kB f=aL f.turn++(bK f.held dK++[]):=by simp[kB,g0]
  simp[g0,e1];refine CI.cc [320] (yJ f.turn 2147483647 (bK f.held dK++[]) F.t0 (eC F.t1 (by omega) (by omega)) (by simp only[bZ,gZ];omega)) ?_;simp;refine CI.cc [320] (UN f.held [] F.held l4 (by simp)) ?_;simp;simp only[cA,g0,a1,a2,a3,a4,a5,a6]at hf4;refine CI.p RQ ?_;simp;refine CI.p hf4 ?_;simp;exact aA (by simp[g0,a1,a2,a3,a4,a5,a6])
attribute [simp] ntmps270 results270 ntmps194 results194 ntmps193 results193 ntmps127 results127 ntmps132 results132 ntmps133 results133 ntmps134 results134 ntmps135 results135 ntmps55 results55
theorem zbe (l:eS)(hl:l.q.length<=1000000):C0 270 [st (iJ l)] (bool (uX l)):=by
 refine Ct.B func270 ?_;simp;rw[Fb]
 repeat' first
  | (refine bM (λh=>?_) (λh=>?_)<;>simp only[h]<;>simp[h])
  | (refine bQ (λh=>?_) (λh=>?_)<;>simp only[h]<;>simp[h])
  | (refine⟨(show jG _ _ from by decide+kernel),?_⟩)
  |fail
 all_goals exact aA (by simp[*])
theorem OC (l:eS)(hl:l.q.length<=1000000):C0 194 [st (iJ l)] (st (iJ (gD l))):=by
 refine Ct.B func194 ?_;simp;refine CI.p (zbe l hl) ?_;simp;cases hs:uX l with
 |false=>
  have e:=Ez hs;simp[hs];exact aA (by simp[e])
 |true=>
  have e:=VM hs;simp[hs];exact aA (by simp[e])
theorem OJ (l:eS)(b:List UInt8)(hl:l.q.length<=1000000)(hb:b.length<=200000):C0 193 [st (iJ l),aB (b.map aV)] (.aU [st (iJ (qB l b).1),int (qB l b).2]):=by
 refine Ct.B func193 ?_;simp;refine CI.p (OC l hl) ?_;simp;simp only[qB];have h32:=ER l;generalize gD l=q at*;by_cases h1:32<=q.q.length
 ·have c:(32:Int)<=q.q.length:=by omega
  have e:ET q b=(q,8):=KK h1;simp[c];exact aA (by simp[e])
 ·have c:¬(32:Int)<=q.q.length:=by omega
  have e:ET q b=(⟨q.aM,q.q++[b]⟩,0):=GX h1;simp[c]
  repeat refine⟨by omega,?_⟩
  exact aA (by simp[e])
theorem NN (l:eS)(i:Int)(hl:l.q.length<=1000000):C0 127 [st (iJ l),int i] (.aU [st (iJ (rT l i).1),aB ((rT l i).2.1.map aV),int (rT l i).2.2]):=by
 refine Ct.B func127 ?_;simp;refine CI.p (OC l hl) ?_;simp;simp only[rT];have h32:=ER l;generalize gD l=q at*;by_cases hq:q.q=[]
 ·obtain⟨e,q⟩:=q;simp only at hq;subst hq;have e1:= @NQ e i;simp;exact aA (by simp[e1])
 ·have e1:=J5 (i:=i) hq;have e2:=E6 i hq;have e4:=Hx i hq;have hz:¬(q.q.length:Int)=0:=by have:=vS.2 hq;omega
  simp[hq,hz,e4];generalize mR q i=k at*;have w1:IntKind.wrap .i64 ((k:Int)+1)=k+1:=wz _;have w2:((k:Int)+1).toNat=k+1:=by omega
  have e3:q.q[k]?.getD []=q.q[k]:=by simp[e2]
  have ld:iY (List.drop (k+1) (List.map CT q.q)) 1:=λe he=>by
   obtain⟨y,_,rfl⟩:=fU.1 (yB he);rfl
  simp[e2,w1,w2]
  repeat refine⟨by omega,?_⟩
  refine⟨⟨ld,by omega⟩,?_⟩;exact aK (by simp[e1,e3])
theorem ziq (l:eS)(i:Int)(hl:l.q.length<=1000000):C0 132 [st (iJ l),int i] (.aU [st (iJ (DV l i).1),int (DV l i).2]):=by
 refine Ct.B func132 ?_;simp;refine CI.p (NN l i hl) ?_;simp;exact aA (by simp[DV])
theorem zk4 (l:eS)(i:Int)(h:tK l):C0 133 [st (iJ l),int i] (.aU [st (iJ (D5 l i).1),int (D5 l i).2]):=by
 refine Ct.B func133 ?_;simp;have hl:=h.len;refine CI.p (NN l i hl) ?_;simp;have h32:=ER l;have h':=h.sound;have hi:=Zj l;unfold D5 rT;by_cases hq:(gD l).q=[]
 ·have e1:EP (gD l) i=(gD l,[],10):=aZ hq;simp[e1];refine CI.p (OC l hl) ?_;simp;exact aA (by simp[e1,hq])
 ·have e2:=E6 i hq;have e1:=J5 (i:=i) hq;obtain⟨g1,g2⟩:=h'.getD e2;have es:∀b,qB l b=qB (gD l) b:=λb=>by unfold qB;rw[hi]
  simp[e1];refine CI.p (OJ l ((gD l).q.getD (mR (gD l) i) []) hl g2) ?_;simp;exact aA (by simp[e1,hq,es])
theorem zf2 (l:eS)(i:Int)(h:tK l):C0 134 [st (iJ l),int i] (.aU [st (iJ (DM l i).1),int (DM l i).2]):=by
 refine Ct.B func134 ?_;simp;have hl:=h.len;refine CI.p (NN l i hl) ?_;simp;unfold DM rT;have h':=h.sound;generalize gD l=q at*;by_cases hq:q.q=[]
 ·obtain⟨e,q⟩:=q;simp only at hq;subst hq;have e1:= @NQ e i;simp[e1];exact aA
 ·have e2:=E6 i hq;have h2:=h'.take i;have e1:=J5 (i:=i) hq;obtain⟨g1,g2⟩:=h'.getD e2;rw[e1]at h2⊢;simp only[aT hq]at h2⊢;generalize q.q.getD (mR q i) []=b at*;simp;refine CI.p (OJ ⟨q.aM,q.q.take (mR q i)++q.q.drop (mR q i+1)⟩ b h2.len g2) ?_;simp;exact aA
theorem zcb (l:eS)(hl:l.q.length<=1000000):C0 135 [st (iJ l)] (.aU [st (iJ (C8 l).1),int (C8 l).2]):=by
 refine Ct.B func135 ?_;simp;refine CI.p (OC l hl) ?_;simp;obtain⟨h1,h2⟩:=U4 l;unfold C8;generalize gD l=q at*;by_cases h3:q.aM=2147483647
 ·simp[h3];exact aA (by simp[h3])
 ·have w1:=wz (q.aM+1);simp[h3];exact aA (by simp[h3,w1])
theorem zbs (l:eS)(hl:l.q.length<=1000000)(hq:∀b∈l.q,b.length<=200000):C0 55 [st (iJ l),st (iJ l)] (bool true):=by
 refine Ct.B func55 ?_;simp;refine aH.V (l.q) (λk=>[(2,.ptr 64 0),(3,.ptr 128 0),(5,int k.1)]) (λk=>[(64,.cells ((iJ l).map .d) 139),(128,.cells ((iJ l).map .d) 139)]) 1024 (λk hk1 B hB=>?_);simp;rcases bC hk1 with⟨x,hk,hx,hr,hm,ht,hd,hw,h⟩|rfl
 ·simp[h,hr,hw];refine dr ?_;exact hB hk (by constructor<;>simp[hw,ht])
 ·simp;exact aA
attribute [simp] ntmps262 results262 ntmps189 results189 ntmps123 results123
theorem zjn (cap:Int)(n:Nat)(now next:List aC)(hnow:cL now):C0 262 [int cap,int n,aB (now.map aF),aB (next.map aF)] (int (jM cap n now next)):=by
 refine Ct.B func262 ?_;simp;refine CI.p (Bu next) ?_;simp;by_cases h1:eB next=0
 rotate_left
 ·simp[h1];exact aA (by simp[jM,h1])
 have h64:=NS h1;have ha:=xA h1;by_cases h2:cap<next.length
 ·simp[h1,h2];exact aA (by simp[jM,h1,h2])
 simp[h1,h2];refine CI.p (zfr next h64) ?_;simp;by_cases h3:(xK next).length=0
 rotate_left
 ·have h4:0<(xK next).length:=by omega
  have h5:¬xK next=[]:=λe=>h3 (by rw[e];rfl);simp[h3,h4,h5];exact aA (by simp[jM,h1,h2,h3,h5])
 have h5:xK next=[]:=kH h3;simp[h5];refine CI.p (Dz next h64 ha) ?_;simp;by_cases h6:mO next=0
 rotate_left
 ·simp[h6];exact aA (by simp[jM,h1,h2,h5,h6])
 simp[h6];refine CI.p (UC now next hnow) ?_;simp;by_cases h7:now=next
 ·simp[h7];rw[h7]at*;exact aA (by simp[jM,h1,h2,h5,h6])
 simp[h7];by_cases h8:100000<=n
 ·have h9:(100000:Int)<=n:=by omega
  simp[h9];exact aA (by simp[jM,h1,h2,h5,h6,h7,h8])
 ·have h9:¬(100000:Int)<=n:=by omega
  simp[h9];exact aA (by simp[jM,h1,h2,h5,h6,h7,h8])
theorem zc2 (s:aW)(aD:List aC)(gone:List Key)(hs:¬s.bA=[])(hl:s.bA.length<=1000000)(hok:cL (dQ s))(hn:(dQ s).length+aD.length<=1000000)(ha:cL aD)(hg:gone.length<=9223372036854775807):C0 189 [st (eW s),aB (aD.map aF),aB (gone.map aQ)] (.aU [st (eW (oY s aD gone)),int (oZ s aD gone)]):=by
 refine Ct.B func189 ?_;simp;have h0:0<s.bA.length:=vS.2 hs;have hw:IntKind.wrap .i64 ((s.bA.length:Int)-1)=((s.bA.length-1:Nat):Int):=by rw[wz _];omega
 have e:s.bA[s.bA.length-1]? =some (dQ s):=QP h0;have hlt:s.bA.length-1<s.bA.length:=by omega
 have e2:s.bA[s.bA.length-1]=dQ s:=(cE.1 e).2;have hpl:(iC (dQ s) aD gone).length<=1000000:=dH (WE _ _ _) hn;have hE:oZ s aD gone=jM s.cap s.bA.length (dQ s) (kI (dQ s) (iC (dQ s) aD gone) s.bA.length):=rfl;have hS:oY s aD gone=if oZ s aD gone=0 then⟨s.cap,s.bA++[kI (dQ s) (iC (dQ s) aD gone) s.bA.length]⟩else s:=rfl
 rw[hS];simp[hw,e,e2,hlt,h0];refine CI.p (WD (dQ s) aD gone hn hg (λr hr=>(ha.all r hr).name)) ?_;simp;refine CI.p (Ym (dQ s) (iC (dQ s) aD gone) s.bA.length hok (by omega) hpl) ?_;simp;refine CI.p (zjn s.cap s.bA.length (dQ s) (kI (dQ s) (iC (dQ s) aD gone) s.bA.length) hok) ?_;simp;rw[<-hE];by_cases hz:oZ s aD gone=0
 ·simp[hz];refine⟨by omega,?_⟩;refine⟨by omega,?_⟩;exact aA (by simp[hz])
 ·simp[hz];exact aA (by simp[hz])
theorem zlv (s:aW)(aD:List aC)(gone:List Key)(hs:gN s=true)(hl:s.bA.length<=1000000)(hok:cL (dQ s))(hn:(dQ s).length+aD.length<=1000000)(ha:cL aD)(hg:gone.length<=9223372036854775807):C0 123 [st (eW s),aB (aD.map aF),aB (gone.map aQ)] (.aU [st (eW (oY s aD gone)),int (oZ s aD gone)]):=by
 refine Ct.B func123 ?_;simp;have ht:=GZ hs;refine CI.p (UI s) ?_ (ha:=by simp[ht]);simp[ht];refine CI.p (zc2 s aD gone (by have:=OM hs;intro e;rw[e]at this;simp at this) hl hok hn ha hg) ?_;simp;exact aA
end Go.Proofs.YtobcmagefgdgdaaGreatDoor
