/-
  LAYERS 10 to 12: the walks of records, frames, streams and links.
-/
import Derived.Test.YtegplpagkajolaaGreatDoorWa
import Derived.Test.YtegplpagkajolaaGreatDoorPq
import Derived.Test.YtegplpagkajolaaGreatDoorFd
import Derived.Test.YtegplpagkajolaaGreatDoorWh
import Derived.Test.YtegplpagkajolaaGreatDoorWf
set_option linter.unusedSimpArgs false
set_option linter.unusedVariables false
set_option maxRecDepth 100000
set_option maxHeartbeats 8000000
namespace Go.Proofs.YtegplpagkajolaaGreatDoor
open Go.AI Go.G Tryz
attribute [simp] ntmps287 results287 ntmps177 results177 ntmps282 results282 ntmps356 results356 ntmps286 results286 ntmps217 results217 ntmps363 results363 ntmps221 results221
attribute [simp] bU
abbrev ER :AV:=.d (.v (.slice none 0 0))
theorem Aa (n:Int):Ct prog 287 [int n] [] [] (int (sL n)) []:=by
 refine Ct.B func287 ?_;simp;have e:=zi9 n;exact aB (by simp[e]) rfl
theorem ziv :Ct prog 177 [ER] [] [] (ER) []:=by
 refine Ct.B func177 ?_;simp;exact aB (by simp) rfl
theorem ZX (x:UInt8)(l:List UInt8)(hl:l.length<=1000000):Ct prog 177 [aC ((x::l).map bU)] [] [] (.own 64) [(64,.grow 1 ((x::l).map bU) 5)]:=by
 refine Ct.B func177 ?_;simp;refine⟨by omega,?_⟩;exact⟨[(64,384)],by constructor<;>simp[aV,aW]⟩
theorem Ke (n:Int):Ct prog 282 [ER,int n] [] [] (.own 64) [(64,.grow 1 ((bW n).map bU) 5)]:=by
 refine Ct.B func282 ?_;simp;refine CI.p ziv ?_;simp;refine CI.p (Aa n) ?_;simp;obtain⟨m,e0,e1,e2⟩:=S9 n;simp[e0];refine aQ.j1 5 1 5 rfl ?_;refine aQ.inv mixed rfl (ι:={z:List UInt8×Nat×Nat//zZ m z.1 z.2.1 z.2.2}) (fun k=>[(1,int k.1.2.1),(5,.own 64)]) (fun k=>[(64,.grow 1 (k.1.1.map bU) 5)]) 65 (fun k=>k.1.2.2) ⟨([],m,5),.start e1⟩ [] (by constructor<;>simp) ?_;rintro⟨⟨q,n,f⟩,hI⟩ B hB;simp only at hI;refine CI.n ?_;simp;have hs:=hI.small;have hql:q.length<=5:=by have:=hI.l;omega
 have hf:=hI.f1;have w1:=Kh n hs;have w2:(n:Int).fdiv (2^min 7 IntKind.i64.bits)=((n/128:Nat):Int):=Kg n;refine aJ (fun h1=>?_) (fun h1=>?_)<;>simp only[h1]<;>simp[w1,w2]<;>(try simp only[nT,nF,dT,dF]at h1)
 ·refine⟨by omega,?_⟩;refine hB _ ⟨(q++[UInt8.ofNat (n%128+128)],n/128,f-1),hI.step (by omega)⟩ [] ?_ (by simp;omega);constructor<;>simp[w2]
 ·have h1':n<128:=by omega
  have w3:=Ki n h1';have e3:=hI.last h1';simp[w3];refine⟨by omega,?_⟩;exact⟨[(64,449)],by constructor<;>simp[aV,aW,e2,<-e3]⟩
theorem Kf (x:UInt8)(l:List UInt8)(n:Int)(hl:l.length<=1000000):Ct prog 282 [aC ((x::l).map bU),int n] [] [] (.own 64) [(64,.grow 1 ((x::l++bW n).map bU) 5)]:=by
 refine Ct.B func282 ?_;simp;refine CI.cc [] (ZX x l hl) ?_;simp;refine CI.p (Aa n) ?_;simp;obtain⟨m,e0,e1,e2⟩:=S9 n;simp[e0];refine aQ.inv mixed rfl (ι:={z:List UInt8×Nat×Nat//zZ m z.1 z.2.1 z.2.2}) (fun k=>[(1,int k.1.2.1),(5,.own 64)]) (fun k=>[(64,.grow 1 ((x::l++k.1.1).map bU) 5)]) 65 (fun k=>k.1.2.2) ⟨([],m,5),.start e1⟩ [] (by constructor<;>simp) ?_;rintro⟨⟨q,n,f⟩,hI⟩ B hB;simp only at hI;refine CI.n ?_;simp;have hs:=hI.small;have hql:q.length<=5:=by have:=hI.l;omega
 have hf:=hI.f1;have w1:=Kh n hs;have w2:(n:Int).fdiv (2^min 7 IntKind.i64.bits)=((n/128:Nat):Int):=Kg n;refine aJ (fun h1=>?_) (fun h1=>?_)<;>simp only[h1]<;>simp[w1,w2]<;>(try simp only[nT,nF,dT,dF]at h1)
 ·refine⟨by omega,?_⟩;refine hB _ ⟨(q++[UInt8.ofNat (n%128+128)],n/128,f-1),hI.step (by omega)⟩ [] ?_ (by simp;omega);constructor<;>simp[w2]
 ·have h1':n<128:=by omega
  have w3:=Ki n h1';have e3:=hI.last h1';simp[w3];refine⟨by omega,?_⟩;exact⟨[(64,449)],by constructor<;>simp[aV,aW,e2,<-e3]⟩
theorem Xb (x:UInt8)(l:List UInt8)(s:cH)(hl:l.length<=1000000)(hs:(bs s).length<=1000000):Ct prog 356 [aC ((x::l).map bU),str s] [] [] (.own 64) [(64,.grow 1 ((x::l++j8 s).map bU) 5)]:=by
 refine Ct.B func356 ?_;simp;have h5:=gU ((bs s).length:Int);have e:List.map (fun c:UInt8=>[D.v (.int .u8 c.toNat)]) (ByteArray.toList s)=(bs s).map bU:=Xx s;have e1:ByteArray.size s=(bs s).length:=mD s;refine CI.cc [] (Kf x l (bs s).length hl) ?_ (ha:=by simp[e,e1]) (hk:=by simp[e,e1]);simp[e,e1];refine⟨by omega,?_⟩;exact⟨[(64,448)],by constructor<;>simp[aV,aW,j8]⟩
theorem zeq (n:Int):Ct prog 282 [ER,int n] [] [] (aC ((bW n).map bU)) []:=(Ke n).data
theorem pH (x:UInt8)(l:List UInt8)(n:Int)(hl:l.length<=1000000):Ct prog 282 [aC ((x::l).map bU),int n] [] [] (aC ((x::l++bW n).map bU)) []:=(Kf x l n hl).data
theorem FN (x:UInt8)(l:List UInt8)(s:cH)(hl:l.length<=1000000)(hs:(bs s).length<=1000000):Ct prog 356 [aC ((x::l).map bU),str s] [] [] (aC ((x::l++j8 s).map bU)) []:=(Xb x l s hl hs).data
theorem zds (n:Int)(t:List UInt8)(h0:0<=n)(h:n<=2147483647)(ht:t.length<=1000000):Ct prog 286 [.ptr 0 0] [(0,.cells [aC ((bW n++t).map bU),int 0] 319)] [] (.bI [int n,int (bW n).length,int 0]) []:=by
 refine Ct.B func286 ?_;simp;have hq5:=gU n;obtain⟨M,e,m1,m2,m3⟩:=zhc (bW n).length t.length hq5;refine⟨⟨by split<;>omega,by split<;>omega⟩,?_⟩;refine⟨by decide+kernel,?_⟩;simp only[e,m3];obtain⟨m,rfl⟩:∃m:Nat,n=m:=⟨n.toNat,by omega⟩;have hq:bW (m:Int)=pU 5 m:=by obtain⟨x,e0,e1,e2⟩:=S9 (m:Int);rw[Ab h0 h]at e0;rw[e2];congr 1;omega
 have hs:=zW.start (m:=m) (by omega);rw[<-hq]at hs;generalize bW (m:Int)=q at*;refine aQ.inv mixed rfl (ι:={z:Nat×Nat×Nat//zW m q z.1 z.2.1 z.2.2}) (fun k=>[(0,.ptr 0 0),(5,int k.1.2.1),(20,int k.1.1),(19,int M),(18,aC ((q++t).map bU|>.take M))]) (fun k=>[(0,.cells [aC ((q++t).map bU),int 0] 319)]) 64 (fun k=>5-k.1.1) ⟨(0,0,m),hs⟩ [] (by constructor<;>simp[m3]) ?_;rintro⟨⟨k,n0,r⟩,hI⟩ B hB;simp only at hI;have hk4:=hI.k4;have w0:IntKind.wrap .i64 ((k:Int)*7)=((7*k:Nat):Int):=by rw[wrap_i64 (by omega) (by omega)];omega
 have w1:IntKind.wrap .u64 (7*(k:Int))=7*(k:Int):=by show(7*(k:Int))%2^64=_;omega
 have wk:IntKind.wrap .i64 ((k:Int)+1)=k+1:=wrap_i64 (by omega) (by omega);have w3:(7*(k:Int)).toNat=7*k:=by omega
 have w2:min (7*k) IntKind.i64.bits=7*k:=by show min (7*k) 64=_;omega
 by_cases hr:r<128
 ·obtain⟨a1,a2⟩:=hI.last hr;have hkM:k<M:=by omega
  have hkq:k<q.length:=by omega
  obtain⟨p1,p2⟩:=Iq hk4 hI.n0 hr;have l1:JZ .u8 (r:Int) 128=r:=by rw[Ml r (by omega)];omega
  have l2:IntKind.wrap .i64 (r:Int)=r:=wrap_i64 (by omega) (by omega);have b0:((q[k]).toNat:Int)=r:=by rw[cI hkq]at a1;rw[lT a1,OL _ (by omega)]
  refine CI.n ?_;simp[m3,hkM,hkq,b0,List.getElem?_append,w0,w1,w2,w3,l1,l2,p1,p2];refine⟨by omega,?_⟩;refine aJ (fun g1=>?_) (fun g1=>?_)<;>simp only[g1]<;>simp<;>(try simp only[nT,nF,dT,dF]at g1)
  ·omega
  have e5:(n0:Int)+2^(7*k)*r=m:=by exact_mod_cast hI.m.symm
  have e6:(q.length:Int)=k+1:=by omega
  have e7:r=0->k=0:=fun h=>by have:=hI.pos;omega
  refine bX (fun g2=>?_) (fun g2=>?_)<;>simp only[g2]<;>simp[Nat.pos_iff_ne_zero]
  ·have e8:=e7 (xD g2);simp[e8];rw[e8]at e5 e6;simp at e5 e6;exact⟨[],by constructor<;>simp[aV,aW,e5,e6]⟩
  ·exact⟨[],by constructor<;>simp[aV,aW,wk,e5,e6]⟩
 ·obtain⟨a1,a2,a3⟩:=hI.more hr;have hkM:k<M:=by omega
  have hkq:k<q.length:=by omega
  obtain⟨p1,p2⟩:=Iq hk4 hI.n0 (c:=r%128) (by omega);have l1:JZ .u8 ((r:Int)%128+128) 128=((r%128:Nat):Int):=by
   have:=Ml (r%128+128) (by omega);rw[show((r:Int)%128+128)=((r%128+128:Nat):Int) by omega,this];omega
  have l2:=wrap_i64 (n:=(r:Int)%128) (by omega) (by omega);rw[show((r%128:Nat):Int)=(r:Int)%128 by omega]at p1 p2;have b0:((q[k]).toNat:Int)=(r:Int)%128+128:=by rw[cI hkq]at a1;rw[lT a1,OL _ (by omega)];omega
  refine CI.n ?_;simp[m3,hkM,hkq,b0,List.getElem?_append,w0,w1,w2,w3,l1,l2,p1,p2];refine⟨by omega,?_⟩;refine aJ (fun g1=>?_) (fun g1=>?_)<;>simp only[g1]<;>simp<;>(try simp only[nT,nF,dT,dF]at g1)
  ·refine hB _ ⟨(k+1,n0+2^(7*k)*(r%128),r/128),a3⟩ [] ?_ (by simp;omega);constructor<;>simp[wk]
  ·omega
theorem nR (n lim:Int)(t:List UInt8)(h0:0<=n)(h1:n<=sL lim)(ht:t.length<=1000000):Ct prog 217 [.ptr 0 0,int lim] [] [(0,.cells [aC ((bW n++t).map bU),int 0] 319)] (int n) [(0,.cells [aC (t.map bU),int 0] 319)]:=by
 refine Ct.B func217 ?_;simp;have hb:sL lim<=2147483647:=by unfold sL;omega
 refine CI.cc [0] (zds n t h0 (by omega) ht) ?_;simp;refine CI.p (Aa lim) ?_;simp;refine aJ (fun h3=>?_) (fun h3=>?_)<;>simp only[h3]<;>simp<;>(try simp only[nT,nF,dT,dF]at h3)
 ·omega
 have e:=Qt (bW n) t;refine⟨by omega,?_⟩;exact⟨[],by constructor<;>simp[aV,aW,e]⟩
theorem F4 (s:cH)(lim:Int)(t:List UInt8)(h1:((bs s).length:Int)<=sL lim)(ht:(bs s).length+t.length<=1000000):Ct prog 363 [.ptr 0 0,int lim] [] [(0,.cells [aC ((j8 s++t).map bU),int 0] 319)] (str s) [(0,.cells [aC (t.map bU),int 0] 319)]:=by
 refine Ct.B func363 ?_;simp;have hb:sL lim<=2147483647:=by unfold sL;omega
 refine CI.cc [0] (nR (bs s).length lim (bs s++t) (by omega) h1 (by simp;omega)) ?_ (ha:=by simp[j8]) (hk:=by simp[j8]);simp[j8];refine aJ (fun h3=>?_) (fun h3=>?_)<;>simp only[h3]<;>simp<;>(try simp only[nT,nF,dT,dF]at h3)
 ·omega
 have e:=Qt (bs s) t;have e1:=Vo s;refine⟨by omega,?_⟩;exact⟨[],by constructor<;>simp[aV,aW,e,e1]⟩
theorem PK :Ct prog 221 [.ptr 0 0] [] [(0,.cells [aC [],int 0] 319)] (int 0) [(0,.cells [aC [],int 0] 319)]:=by
 refine Ct.B func221 ?_;simp;exact⟨[],by constructor<;>simp[aV,aW]⟩
attribute [simp] ntmps403 results403 ntmps416 results416 ntmps401 results401 ntmps357 results357 ntmps359 results359 ntmps399 results399 ntmps358 results358 ntmps400 results400 ntmps360 results360 ntmps355 results355 ntmps361 results361 ntmps283 results283 ntmps417 results417 ntmps402 results402 ntmps362 results362 ntmps284 results284 ntmps285 results285
theorem zhJ (x:UInt8)(b:List UInt8)(l:List Int)(kf:D)(lay:Int->List UInt8)(m B:Nat)(hB:B<=900000)(hf:∀y∈l,∀b':List UInt8,b'.length<=B->cB prog (.d kf) [aC ((x::b').map bU),int y] (aC ((x::b'++lay y).map bU)))(hly:∀y∈l,(lay y).length<=m)(hs:b.length+5+l.length*m<=B)(hl:l.length<=200000):Ct prog 403 [aC ((x::b).map bU),aC (l.map lP),.d kf] [] [] (aC ((x::b++dU l lay).map bU)) []:=by
 refine Ct.B func403 ?_;simp;have hn:=gU l.length;refine CI.p (pH x b l.length (by omega)) ?_;simp;refine aQ.V (l) (fun k=>[(0,aC ((x::(b++bW l.length++(l.take k.1).flatMap lay)).map bU)),(2,.d kf),(13,aC (l.map lP)),(14,int l.length),(15,int k.1)]) (fun k=>[]) 65 (fun k hk1 B hB=>?_);simp;refine aJ (fun h=>?_) (fun h=>?_)
 ·have hk:k<(l).length:=by simpa using h
  obtain⟨y,hx,hr,hm,ht,hd,hw⟩:=dL hk;simp only[h];simp[hr,hw];have hk2:=JL l k hly;refine CI.ff (hf y hm (b++bW l.length++(l.take k).flatMap lay) (by simp only[dQ];omega)) rfl rfl rfl ?_;simp;exact hB hk (by constructor<;>simp[hw,ht,dU])
 ·obtain rfl:k=(l).length:=by simp at h;omega
  simp only[h];simp;exact aB (by simp[dU]) rfl
theorem zhK (x:UInt8)(b:List UInt8)(l:List Weight)(kf:D)(lay:Weight->List UInt8)(m B:Nat)(hB:B<=900000)(hf:∀y∈l,∀b':List UInt8,b'.length<=B->cB prog (.d kf) [aC ((x::b').map bU),st (wC y)] (aC ((x::b'++lay y).map bU)))(hly:∀y∈l,(lay y).length<=m)(hs:b.length+5+l.length*m<=B)(hl:l.length<=200000):Ct prog 416 [aC ((x::b).map bU),aC (l.map wC),.d kf] [] [] (aC ((x::b++dU l lay).map bU)) []:=by
 refine Ct.B func416 ?_;simp;have hn:=gU l.length;refine CI.p (pH x b l.length (by omega)) ?_;simp;refine aQ.V (l) (fun k=>[(0,aC ((x::(b++bW l.length++(l.take k.1).flatMap lay)).map bU)),(2,.d kf),(13,aC (l.map wC)),(14,int l.length),(15,int k.1)]) (fun k=>[]) 65 (fun k hk1 B hB=>?_);simp;refine aJ (fun h=>?_) (fun h=>?_)
 ·have hk:k<(l).length:=by simpa using h
  obtain⟨y,hx,hr,hm,ht,hd,hw⟩:=dL hk;simp only[h];simp[hr,hw];have hk2:=JL l k hly;refine CI.ff (hf y hm (b++bW l.length++(l.take k).flatMap lay) (by simp only[dQ];omega)) rfl rfl rfl ?_;simp;exact hB hk (by constructor<;>simp[hw,ht,dU])
 ·obtain rfl:k=(l).length:=by simp at h;omega
  simp only[h];simp;exact aB (by simp[dU]) rfl
theorem zhG (x:UInt8)(b:List UInt8)(l:List gB)(kf:D)(lay:gB->List UInt8)(m B:Nat)(hB:B<=900000)(hf:∀y∈l,∀b':List UInt8,b'.length<=B->cB prog (.d kf) [aC ((x::b').map bU),st (fR y)] (aC ((x::b'++lay y).map bU)))(hly:∀y∈l,(lay y).length<=m)(hs:b.length+5+l.length*m<=B)(hl:l.length<=200000):Ct prog 401 [aC ((x::b).map bU),aC (l.map fR),.d kf] [] [] (aC ((x::b++dU l lay).map bU)) []:=by
 refine Ct.B func401 ?_;simp;have hn:=gU l.length;refine CI.p (pH x b l.length (by omega)) ?_;simp;refine aQ.V (l) (fun k=>[(0,aC ((x::(b++bW l.length++(l.take k.1).flatMap lay)).map bU)),(2,.d kf),(13,aC (l.map fR)),(14,int l.length),(15,int k.1)]) (fun k=>[]) 65 (fun k hk1 B hB=>?_);simp;refine aJ (fun h=>?_) (fun h=>?_)
 ·have hk:k<(l).length:=by simpa using h
  obtain⟨y,hx,hr,hm,ht,hd,hw⟩:=dL hk;simp only[h];simp[hr,hw];have hk2:=JL l k hly;refine CI.ff (hf y hm (b++bW l.length++(l.take k).flatMap lay) (by simp only[dQ];omega)) rfl rfl rfl ?_;simp;exact hB hk (by constructor<;>simp[hw,ht,dU])
 ·obtain rfl:k=(l).length:=by simp at h;omega
  simp only[h];simp;exact aB (by simp[dU]) rfl
theorem zhI (x:UInt8)(b:List UInt8)(l:List Key)(kf:D)(lay:Key->List UInt8)(m B:Nat)(hB:B<=900000)(hf:∀y∈l,∀b':List UInt8,b'.length<=B->cB prog (.d kf) [aC ((x::b').map bU),st (bP y)] (aC ((x::b'++lay y).map bU)))(hly:∀y∈l,(lay y).length<=m)(hs:b.length+5+l.length*m<=B)(hl:l.length<=200000):Ct prog 357 [aC ((x::b).map bU),aC (l.map bP),.d kf] [] [] (aC ((x::b++dU l lay).map bU)) []:=by
 refine Ct.B func357 ?_;simp;have hn:=gU l.length;refine CI.p (pH x b l.length (by omega)) ?_;simp;refine aQ.V (l) (fun k=>[(0,aC ((x::(b++bW l.length++(l.take k.1).flatMap lay)).map bU)),(2,.d kf),(13,aC (l.map bP)),(14,int l.length),(15,int k.1)]) (fun k=>[]) 65 (fun k hk1 B hB=>?_);simp;refine aJ (fun h=>?_) (fun h=>?_)
 ·have hk:k<(l).length:=by simpa using h
  obtain⟨y,hx,hr,hm,ht,hd,hw⟩:=dL hk;simp only[h];simp[hr,hw];have hk2:=JL l k hly;refine CI.ff (hf y hm (b++bW l.length++(l.take k).flatMap lay) (by simp only[dQ];omega)) rfl rfl rfl ?_;simp;exact hB hk (by constructor<;>simp[hw,ht,dU])
 ·obtain rfl:k=(l).length:=by simp at h;omega
  simp only[h];simp;exact aB (by simp[dU]) rfl
theorem zhH (x:UInt8)(b:List UInt8)(l:List aA)(kf:D)(lay:aA->List UInt8)(m B:Nat)(hB:B<=900000)(hf:∀y∈l,∀b':List UInt8,b'.length<=B->cB prog (.d kf) [aC ((x::b').map bU),st (aK y)] (aC ((x::b'++lay y).map bU)))(hly:∀y∈l,(lay y).length<=m)(hs:b.length+5+l.length*m<=B)(hl:l.length<=200000):Ct prog 359 [aC ((x::b).map bU),aC (l.map aK),.d kf] [] [] (aC ((x::b++dU l lay).map bU)) []:=by
 refine Ct.B func359 ?_;simp;have hn:=gU l.length;refine CI.p (pH x b l.length (by omega)) ?_;simp;refine aQ.V (l) (fun k=>[(0,aC ((x::(b++bW l.length++(l.take k.1).flatMap lay)).map bU)),(2,.d kf),(13,aC (l.map aK)),(14,int l.length),(15,int k.1)]) (fun k=>[]) 65 (fun k hk1 B hB=>?_);simp;refine aJ (fun h=>?_) (fun h=>?_)
 ·have hk:k<(l).length:=by simpa using h
  obtain⟨y,hx,hr,hm,ht,hd,hw⟩:=dL hk;simp only[h];simp[hr,hw];have hk2:=JL l k hly;refine CI.ff (hf y hm (b++bW l.length++(l.take k).flatMap lay) (by simp only[dQ];omega)) rfl rfl rfl ?_;simp;exact hB hk (by constructor<;>simp[hw,ht,dU])
 ·obtain rfl:k=(l).length:=by simp at h;omega
  simp only[h];simp;exact aB (by simp[dU]) rfl
theorem zhe (x:Key)(kf:FuncId)(b:Bool)(hf:cB prog (.d (dX kf)) [st (bP x)] (bool b)):Ct prog 399 [st (bP x),.d (.bM [dX kf])] [] [] (bool (!b)) []:=by
 refine Ct.B func399 ?_;simp;refine CI.ff hf rfl rfl rfl ?_;simp;exact aB (by simp) rfl
theorem zha (l:List Key)(kf:FuncId)(may:Key->Bool)(hf:∀x∈l,cB prog (.d (dX kf)) [st (bP x)] (bool (may x)))(hl:l.length<=1000000):Ct prog 358 [aC (l.map bP),.d (dX kf)] [] [] (aC (((l.filter may).take 64).map bP)) []:=by
 refine Ct.BS func358 mixed 1 400 ?_;simp;refine CI.s (tm:=[(0,aC (l.map bP)),(3,.d (.bM [dX kf]))]) (mm:=[]) (nx:=65) [] [64] (by constructor<;>simp) ?_;refine CI.n ?_;simp;have hg:∀x∈l,cB prog (.d (.fn (.func 399) [] [.bM [dX kf]])) [st (bP x)] (bool (!may x)):=fun x hx=>cB.mY (zhe x kf (may x) (hf x hx)) call399 rfl rfl;have hfl:(l.filter may).length<=1000000:=fV (kS _ _) hl;have ht:=Cw bP (l.filter fun x=>may x);cases l with
 |nil=>
  refine CI.p Rt ?_;simp;refine CI.p (ZS (.fn (.func 399) [] [.bM [dX kf]])) ?_;simp;exact aB (by simp) rfl
 |cons x l=>
  refine CI.cc [] (ZW x l (by simp at hl;omega)) ?_;simp;refine CI.cc [129] (SN (x::l) (.fn (.func 399) [] [.bM [dX kf]]) (fun y=>!may y) hg hl) ?_;simp;refine⟨⟨by split<;>omega,by split<;>omega⟩,?_⟩;exact aB (by simp[ht]) rfl
theorem zhd (x:aA)(kf:FuncId)(b:Bool)(hf:cB prog (.d (dX kf)) [st (aK x)] (bool b)):Ct prog 400 [st (aK x),.d (.bM [dX kf])] [] [] (bool (!b)) []:=by
 refine Ct.B func400 ?_;simp;refine CI.ff hf rfl rfl rfl ?_;simp;exact aB (by simp) rfl
theorem zg7 (l:List aA)(kf:FuncId)(may:aA->Bool)(hf:∀x∈l,cB prog (.d (dX kf)) [st (aK x)] (bool (may x)))(hl:l.length<=1000000):Ct prog 360 [aC (l.map aK),.d (dX kf)] [] [] (aC (((l.filter may).take 64).map aK)) []:=by
 refine Ct.BS func360 mixed 1 400 ?_;simp;refine CI.s (tm:=[(0,aC (l.map aK)),(3,.d (.bM [dX kf]))]) (mm:=[]) (nx:=65) [] [64] (by constructor<;>simp) ?_;refine CI.n ?_;simp;have hg:∀x∈l,cB prog (.d (.fn (.func 400) [] [.bM [dX kf]])) [st (aK x)] (bool (!may x)):=fun x hx=>cB.mY (zhd x kf (may x) (hf x hx)) call400 rfl rfl;have hfl:(l.filter may).length<=1000000:=fV (kS _ _) hl;have ht:=Cw aK (l.filter fun x=>may x);cases l with
 |nil=>
  refine CI.p SX ?_;simp;refine CI.p (SM (.fn (.func 400) [] [.bM [dX kf]])) ?_;simp;exact aB (by simp) rfl
 |cons x l=>
  refine CI.cc [] (SU x l (by simp at hl;omega)) ?_;simp;refine CI.cc [129] (SO (x::l) (.fn (.func 400) [] [.bM [dX kf]]) (fun y=>!may y) hg hl) ?_;simp;refine⟨⟨by split<;>omega,by split<;>omega⟩,?_⟩;exact aB (by simp[ht]) rfl
theorem YX (k_:Key):Ct prog 355 [st (bP k_)] [] [] (bool (iY k_)) []:=by
 refine Ct.B func355 ?_;simp;rw[zeg];refine bX (fun h1=>?_) (fun h1=>?_)<;>simp only[h1]<;>simp
 ·refine bX (fun h2=>?_) (fun h2=>?_)<;>simp only[h2]<;>simp
  ·refine CI.p (IU k_.name) ?_;simp;exact aB (by simp[h1,h2]) rfl
  ·exact aB (by simp[h1,h2]) rfl
 ·exact aB (by simp[h1]) rfl
theorem Gi (r:aA):Ct prog 361 [st (aK r)] [] [] (bool (decide (eL r=0))) []:=by
 refine Ct.B func361 ?_;simp;refine CI.p (D3 r) ?_;simp;exact aB (by simp) rfl
theorem Hb (x:UInt8)(b:List UInt8)(k_:Key)(hk:iY k_=true)(hb:b.length<=200000):Ct prog 283 [aC ((x::b).map bU),st (bP k_)] [] [] (aC ((x::b++jF k_).map bU)) []:=by
 refine Ct.B func283 ?_;simp;have hi:=RP hk;have hn:=gU k_.kind;refine CI.p (YX k_) ?_ (ha:=by simp[hk]);simp[hk];refine CI.p (pH x b k_.kind (by omega)) ?_;simp;refine CI.p (FN x (b++bW k_.kind) k_.name (by simp;omega) (by omega)) ?_;simp;refine⟨by decide+kernel,?_⟩;exact aB (by simp[jF]) rfl
theorem zcF (x:UInt8)(b:List UInt8)(w:Weight)(hw:TP w)(hb:b.length<=200000):Ct prog 417 [aC ((x::b).map bU),st (wC w)] [] [] (aC ((x::b++pO w).map bU)) []:=by
 refine Ct.B func417 ?_;simp;have h1:=hw.c;have hn:=tY hw.c;refine CI.p (FN x b w.gI (by omega) (by omega)) ?_;simp;refine CI.p (pH x (b++j8 w.gI) w.w (by simp;omega)) ?_;simp;refine⟨by decide+kernel,?_⟩;exact aB (by simp[pO]) rfl
theorem zcG (x:UInt8)(b:List UInt8)(r:gB)(hr:TW r)(hb:b.length<=189000):Ct prog 402 [aC ((x::b).map bU),st (fR r)] [] [] (aC ((x::b++rC r).map bU)) []:=by
 refine Ct.B func402 ?_;simp;have h1:=hr.host;have h2:=hr.pre;have n1:=tY h1;have n2:=tY h2;have h3:=hr.split;refine CI.p (FN x b r.host (by omega) (by omega)) ?_;simp;refine CI.p (FN x (b++j8 r.host) r.pre (by simp;omega) (by omega)) ?_;simp;refine CI.p (zhK x (b++j8 r.host++j8 r.pre) r.split (dX 417) pO 22 200000 (by omega) (fun y hy b' hb'=>cB.of (zcF x b' y (hr.each y hy) hb') call417 rfl rfl) (fun y hy=>OG (hr.each y hy)) (by simp;omega) (by omega)) ?_;simp;refine⟨by decide+kernel,?_⟩;exact aB (by simp[rC]) rfl
theorem zcE (x:UInt8)(b:List UInt8)(r:aA)(hs:eL r=0)(hb:b.length<=187000):Ct prog 362 [aC ((x::b).map bU),st (aK r)] [] [] (aC ((x::b++lW r).map bU)) []:=by
 refine Ct.B func362 ?_;simp;have I:=EB hs;have n1:=gU r.kind;have n2:=tY I.name;have n3:=gU r.cS;have n4:=gU r.port;have i1:=I.name;have i2:=I.rules;have i3:=I.cT;have i4:=I.to;refine CI.p (Gi r) ?_ (ha:=by simp[hs]);simp[hs];refine CI.p (pH x b r.kind (by omega)) ?_;simp;refine CI.p (FN x (b++bW r.kind) r.name (by simp;omega) (by omega)) ?_;simp;refine CI.p (pH x (b++bW r.kind++j8 r.name) r.cS (by simp;omega)) ?_;simp;refine⟨by decide+kernel,?_⟩;have hc:(b++bW r.kind++j8 r.name++bW r.cS).length<=187100:=by simp;omega
 rcases(show r.kind=0\/r.kind=1\/r.kind=2\/r.kind=3 from by have:=I.k0;have:=I.k3;omega)with h|h|h|h
 all_goals rw[h]at hc
 ·simp[h];refine CI.p (pH x (b++bW 0++j8 r.name++bW r.cS) r.port (by omega)) ?_;simp;refine CI.p (FN x (b++bW 0++j8 r.name++bW r.cS++bW r.port) r.to (by simp at hc⊢;omega) (by omega)) ?_;simp;refine⟨by decide+kernel,?_⟩;exact aB (by simp[lW,qZ,h]) rfl
 ·simp[h];refine CI.p (zhG x (b++bW 1++j8 r.name++bW r.cS) r.rules (dX 402) rC 183 189000 (by omega) (fun y hy b' hb'=>cB.of (zcG x b' y (I.D8 y hy) hb') call402 rfl rfl) (fun y hy=>V5 (I.D8 y hy)) (by omega) (by omega)) ?_;simp;exact aB (by simp[lW,qZ,h]) rfl
 ·simp[h];refine CI.p (FN x (b++bW 2++j8 r.name++bW r.cS) r.to (by omega) (by omega)) ?_;simp;exact aB (by simp[lW,qZ,h]) rfl
 ·simp[h];refine CI.p (zhJ x (b++bW 3++j8 r.name++bW r.cS) r.cT (dX 282) bW 5 200000 (by omega) (fun y hy b' hb'=>cB.of (pH x b' y (by omega)) call282 rfl rfl) (fun y hy=>gU y) (by omega) (by omega)) ?_;simp;exact aB (by simp[lW,qZ,h]) rfl
theorem WB (x:UInt8)(b:List UInt8)(l:List Key)(hk:∀k∈l,iY k=true)(hl:l.length<=64)(hb:b.length<=190000):Ct prog 284 [aC ((x::b).map bU),aC (l.map bP)] [] [] (aC ((x::b++dU l jF).map bU)) []:=by
 refine Ct.B func284 ?_;simp;have e:(l.filter iY).take 64=l:=by rw[HL.2 hk,T7 hl]
 have hc:=zha l 355 iY (fun y _=>cB.of (YX y) call355 rfl rfl) (by omega);rw[e]at hc;refine CI.p hc ?_;simp;refine CI.p (zhI x b l (dX 283) jF 22 200000 (by omega) (fun y hy b' hb'=>cB.of (Hb x b' y (hk y hy) hb') call283 rfl rfl) (fun y hy=>CT (hk y hy)) (by omega) (by omega)) ?_;simp;exact aB (by simp) rfl
theorem zcJ (x:UInt8)(b:List UInt8)(l:List aA)(hk:∀r∈l,eL r=0)(hl:l.length<=64)(hb:b.length<=90000):Ct prog 285 [aC ((x::b).map bU),aC (l.map aK)] [] [] (aC ((x::b++dU l lW).map bU)) []:=by
 refine Ct.B func285 ?_;simp;have e:(l.filter fun r=>decide (eL r=0)).take 64=l:=by rw[HL.2 (fun r hr=>tS (hk r hr)),T7 hl]
 have hd:=zg7 l 361 (fun r=>decide (eL r=0)) (fun y _=>cB.of (Gi y) call361 rfl rfl) (by omega);rw[e]at hd;refine CI.p hd ?_;simp;refine CI.p (zhH x b l (dX 362) lW 1496 187000 (by omega) (fun y hy b' hb'=>cB.of (zcE x b' y (hk y hy) hb') call362 rfl rfl) (fun y hy=>LV (EB (hk y hy))) (by omega) (by omega)) ?_;simp;exact aB (by simp) rfl
attribute [simp] ntmps364 results364 ntmps289 results289 ntmps368 results368 ntmps405 results405 ntmps292 results292 ntmps367 results367 ntmps404 results404 ntmps366 results366 ntmps365 results365 ntmps291 results291 ntmps290 results290 ntmps219 results219 ntmps220 results220
theorem MZ (q:List UInt8):Ct prog 364 [.ptr 0 0,int 0] [] [(0,.cells [aC ((q).map bU),int 0] 319)] (bool false) [(0,.cells [aC ((q).map bU),int 0] 319)]:=by
 refine Ct.B func364 ?_;simp;exact⟨[],by constructor<;>simp[aV,aW]⟩
theorem Db (k_:Key)(t:List UInt8)(hk:iY k_=true)(ht:t.length<=900000):Ct prog 289 [.ptr 0 0] [] [(0,.cells [aC ((jF k_++t).map bU),int 0] 319)] (st (bP k_)) [(0,.cells [aC ((t).map bU),int 0] 319)]:=by
 refine Ct.B func289 ?_;simp;obtain⟨h1,h2,h3⟩:=RP hk;have n1:=tY h3;refine CI.cc [0] (nR k_.kind 3 (j8 k_.name++t) h1 (kY h2 (by omega) (by omega)) (by simp;omega)) ?_ (ha:=by simp[jF]) (hk:=by simp[jF]);simp[jF];refine CI.cc [0] (F4 k_.name 12 t (kY (by omega) (by omega) (by omega)) (by omega)) ?_;simp;refine CI.p (YX k_) ?_ (ha:=by simp[hk]);simp[hk];refine CI.cc [0] (MZ t) ?_;simp;exact⟨[],by constructor<;>simp[aV,aW]⟩
theorem Xn (n:Int)(t:List UInt8)(h0:0<=n)(h1:n<=2147483647)(ht:t.length<=900000):Ct prog 368 [.ptr 0 0] [] [(0,.cells [aC ((bW n++t).map bU),int 0] 319)] (int n) [(0,.cells [aC ((t).map bU),int 0] 319)]:=by
 refine Ct.B func368 ?_;simp;refine CI.cc [0] (nR n 2147483647 t h0 (kY h1 (by omega) (by omega)) (by omega)) ?_;simp;exact⟨[],by constructor<;>simp[aV,aW]⟩
theorem Xk (w:Weight)(t:List UInt8)(hw:TP w)(ht:t.length<=900000):Ct prog 405 [.ptr 0 0] [] [(0,.cells [aC ((pO w++t).map bU),int 0] 319)] (st (wC w)) [(0,.cells [aC ((t).map bU),int 0] 319)]:=by
 refine Ct.B func405 ?_;simp;have h1:=hw.c;have h2:=gU w.w;refine CI.cc [0] (F4 w.gI 12 (bW w.w++t) (kY (by omega) (by omega) (by omega)) (by simp;omega)) ?_ (ha:=by simp[pO]) (hk:=by simp[pO]);simp[pO];refine CI.cc [0] (nR w.w 100 t hw.w0 (kY hw.w1 (by omega) (by omega)) (by omega)) ?_;simp;exact⟨[],by constructor<;>simp[aV,aW]⟩
theorem zaa (l:List Key)(lim:Int)(t:List UInt8)(hf:∀y∈l,∀t':List UInt8,t'.length<=900000->Ct prog 289 [.ptr 0 0] [] [(0,.cells [aC ((jF y++t').map bU),int 0] 319)] (st (bP y)) [(0,.cells [aC ((t').map bU),int 0] 319)])(hy:∀y∈l,(jF y).length<=22)(h1:l.length<=lim)(hl:l.length<=64)(h2:lim<=1000)(ht:t.length<=700000):Ct prog 292 [.ptr 0 0,int lim,.d (dX 289)] [] [(0,.cells [aC ((dU l jF++t).map bU),int 0] 319)] (aC (l.map bP)) [(0,.cells [aC ((t).map bU),int 0] 319)]:=by
 refine Ct.B func292 ?_;simp;have hall:=A2 l hy;refine CI.cc [0] (nR l.length lim (l.flatMap jF++t) (by omega) (kY h1 (by omega) (by omega)) (by simp only[dQ];omega)) ?_ (ha:=by simp[dU]) (hk:=by simp[dU]);simp[dU];refine aQ.j1 7 2 149 rfl ?_;refine aQ.V (l) (fun k=>[(0,.ptr 0 0),(2,.d (dX 289)),(7,.own 64),(11,int l.length),(12,int k.1)]) (fun k=>[(64,.grow 2 ((l.take k.1).map bP) 149),(0,.cells [aC (((l.drop k.1).flatMap jF++t).map bU),int 0] 319)]) 65 (fun k hk1 B hB=>?_);simp;refine aJ (fun h=>?_) (fun h=>?_)
 ·have hk:k<(l).length:=by simpa using h
  obtain⟨y,hx,hr,hm,ht,hd,hw⟩:=dL hk;simp only[h];simp[hr,hw];have hd2:=JK l (k+1) hy;refine CI.cc [0] (hf y hm ((l.drop (k+1)).flatMap jF++t) (by simp only[dQ];omega)) ?_ (ha:=by simp[hd]) (hk:=by simp[hd]);simp[hd];refine⟨by omega,?_⟩;exact hB hk (by constructor<;>simp[hw,ht])
 ·obtain rfl:k=(l).length:=by simp at h;omega
  simp only[h];simp;exact⟨[],by constructor<;>simp[aV,aW]⟩
theorem zab (l:List Int)(lim:Int)(t:List UInt8)(hf:∀y∈l,∀t':List UInt8,t'.length<=900000->Ct prog 368 [.ptr 0 0] [] [(0,.cells [aC ((bW y++t').map bU),int 0] 319)] (int y) [(0,.cells [aC ((t').map bU),int 0] 319)])(hy:∀y∈l,(bW y).length<=5)(h1:l.length<=lim)(hl:l.length<=8)(h2:lim<=1000)(ht:t.length<=890000):Ct prog 367 [.ptr 0 0,int lim,.d (dX 368)] [] [(0,.cells [aC ((dU l bW++t).map bU),int 0] 319)] (aC (l.map lP)) [(0,.cells [aC ((t).map bU),int 0] 319)]:=by
 refine Ct.B func367 ?_;simp;have hall:=A2 l hy;refine CI.cc [0] (nR l.length lim (l.flatMap bW++t) (by omega) (kY h1 (by omega) (by omega)) (by simp only[dQ];omega)) ?_ (ha:=by simp[dU]) (hk:=by simp[dU]);simp[dU];refine aQ.j1 7 1 3 rfl ?_;refine aQ.V (l) (fun k=>[(0,.ptr 0 0),(2,.d (dX 368)),(7,.own 64),(11,int l.length),(12,int k.1)]) (fun k=>[(64,.grow 1 ((l.take k.1).map lP) 3),(0,.cells [aC (((l.drop k.1).flatMap bW++t).map bU),int 0] 319)]) 65 (fun k hk1 B hB=>?_);simp;refine aJ (fun h=>?_) (fun h=>?_)
 ·have hk:k<(l).length:=by simpa using h
  obtain⟨y,hx,hr,hm,ht,hd,hw⟩:=dL hk;simp only[h];simp[hr,hw];have hd2:=JK l (k+1) hy;refine CI.cc [0] (hf y hm ((l.drop (k+1)).flatMap bW++t) (by simp only[dQ];omega)) ?_ (ha:=by simp[hd]) (hk:=by simp[hd]);simp[hd];refine⟨by omega,?_⟩;exact hB hk (by constructor<;>simp[hw,ht])
 ·obtain rfl:k=(l).length:=by simp at h;omega
  simp only[h];simp;exact⟨[],by constructor<;>simp[aV,aW]⟩
theorem zac (l:List Weight)(lim:Int)(t:List UInt8)(hf:∀y∈l,∀t':List UInt8,t'.length<=900000->Ct prog 405 [.ptr 0 0] [] [(0,.cells [aC ((pO y++t').map bU),int 0] 319)] (st (wC y)) [(0,.cells [aC ((t').map bU),int 0] 319)])(hy:∀y∈l,(pO y).length<=22)(h1:l.length<=lim)(hl:l.length<=4)(h2:lim<=1000)(ht:t.length<=890000):Ct prog 404 [.ptr 0 0,int lim,.d (dX 405)] [] [(0,.cells [aC ((dU l pO++t).map bU),int 0] 319)] (aC (l.map wC)) [(0,.cells [aC ((t).map bU),int 0] 319)]:=by
 refine Ct.B func404 ?_;simp;have hall:=A2 l hy;refine CI.cc [0] (nR l.length lim (l.flatMap pO++t) (by omega) (kY h1 (by omega) (by omega)) (by simp only[dQ];omega)) ?_ (ha:=by simp[dU]) (hk:=by simp[dU]);simp[dU];refine aQ.j1 7 2 163 rfl ?_;refine aQ.V (l) (fun k=>[(0,.ptr 0 0),(2,.d (dX 405)),(7,.own 64),(11,int l.length),(12,int k.1)]) (fun k=>[(64,.grow 2 ((l.take k.1).map wC) 163),(0,.cells [aC (((l.drop k.1).flatMap pO++t).map bU),int 0] 319)]) 65 (fun k hk1 B hB=>?_);simp;refine aJ (fun h=>?_) (fun h=>?_)
 ·have hk:k<(l).length:=by simpa using h
  obtain⟨y,hx,hr,hm,ht,hd,hw⟩:=dL hk;simp only[h];simp[hr,hw];have hd2:=JK l (k+1) hy;refine CI.cc [0] (hf y hm ((l.drop (k+1)).flatMap pO++t) (by simp only[dQ];omega)) ?_ (ha:=by simp[hd]) (hk:=by simp[hd]);simp[hd];refine⟨by omega,?_⟩;exact hB hk (by constructor<;>simp[hw,ht])
 ·obtain rfl:k=(l).length:=by simp at h;omega
  simp only[h];simp;exact⟨[],by constructor<;>simp[aV,aW]⟩
theorem Xl (r:gB)(t:List UInt8)(hr:TW r)(ht:t.length<=889000):Ct prog 366 [.ptr 0 0] [] [(0,.cells [aC ((rC r++t).map bU),int 0] 319)] (st (fR r)) [(0,.cells [aC ((t).map bU),int 0] 319)]:=by
 refine Ct.B func366 ?_;simp;have h1:=hr.host;have h2:=hr.pre;have n1:=tY h1;have n2:=tY h2;have h3:=hr.split;have n3:=vO (l:=r.split) (lay:=pO) (m:=22) fun w hw=>OG (hr.each w hw);refine CI.cc [0] (F4 r.host 40 (j8 r.pre++(dU r.split pO++t)) (kY (by omega) (by omega) (by omega)) (by simp only[dQ];omega)) ?_ (ha:=by simp[rC]) (hk:=by simp[rC]);simp[rC];refine CI.cc [0] (F4 r.pre 40 (dU r.split pO++t) (kY (by omega) (by omega) (by omega)) (by simp only[dQ];omega)) ?_;simp;refine CI.cc [0] (zac r.split 4 t (fun y hy t' ht'=>Xk y t' (hr.each y hy) (by omega)) (fun y hy=>OG (hr.each y hy)) (by omega) (by omega) (by omega) (by omega)) ?_;simp;exact⟨[],by constructor<;>simp[aV,aW]⟩
theorem Zy (l:List gB)(lim:Int)(t:List UInt8)(hf:∀y∈l,∀t':List UInt8,t'.length<=889000->Ct prog 366 [.ptr 0 0] [] [(0,.cells [aC ((rC y++t').map bU),int 0] 319)] (st (fR y)) [(0,.cells [aC ((t').map bU),int 0] 319)])(hy:∀y∈l,(rC y).length<=183)(h1:l.length<=lim)(hl:l.length<=8)(h2:lim<=1000)(ht:t.length<=880000):Ct prog 365 [.ptr 0 0,int lim,.d (dX 366)] [] [(0,.cells [aC ((dU l rC++t).map bU),int 0] 319)] (aC (l.map fR)) [(0,.cells [aC ((t).map bU),int 0] 319)]:=by
 refine Ct.B func365 ?_;simp;have hall:=A2 l hy;refine CI.cc [0] (nR l.length lim (l.flatMap rC++t) (by omega) (kY h1 (by omega) (by omega)) (by simp only[dQ];omega)) ?_ (ha:=by simp[dU]) (hk:=by simp[dU]);simp[dU];refine aQ.j1 7 3 131 rfl ?_;refine aQ.V (l) (fun k=>[(0,.ptr 0 0),(2,.d (dX 366)),(7,.own 64),(11,int l.length),(12,int k.1)]) (fun k=>[(64,.grow 3 ((l.take k.1).map fR) 131),(0,.cells [aC (((l.drop k.1).flatMap rC++t).map bU),int 0] 319)]) 65 (fun k hk1 B hB=>?_);simp;refine aJ (fun h=>?_) (fun h=>?_)
 ·have hk:k<(l).length:=by simpa using h
  obtain⟨y,hx,hr,hm,ht,hd,hw⟩:=dL hk;simp only[h];simp[hr,hw];have hd2:=JK l (k+1) hy;refine CI.cc [0] (hf y hm ((l.drop (k+1)).flatMap rC++t) (by simp only[dQ];omega)) ?_ (ha:=by simp[hd]) (hk:=by simp[hd]);simp[hd];refine⟨by omega,?_⟩;exact hB hk (by constructor<;>simp[hw,ht])
 ·obtain rfl:k=(l).length:=by simp at h;omega
  simp only[h];simp;exact⟨[],by constructor<;>simp[aV,aW]⟩
theorem Xi (r:aA)(t:List UInt8)(hs:eL r=0)(ht:t.length<=870000):Ct prog 291 [.ptr 0 0] [] [(0,.cells [aC ((lW r++t).map bU),int 0] 319)] (st (aK r)) [(0,.cells [aC ((t).map bU),int 0] 319)]:=by
 refine Ct.B func291 ?_;simp;have I:=EB hs;have n2:=tY I.name;have n3:=gU r.cS;have n4:=Dc I;have i1:=I.name;refine CI.cc [0] (nR r.kind 3 (j8 r.name++(bW r.cS++(qZ r++t))) I.k0 (kY I.k3 (by omega) (by omega)) (by simp only[dQ];omega)) ?_ (ha:=by simp[lW]) (hk:=by simp[lW]);simp[lW];refine CI.cc [0] (F4 r.name 12 (bW r.cS++(qZ r++t)) (kY (by omega) (by omega) (by omega)) (by simp only[dQ];omega)) ?_;simp;refine CI.cc [0] (nR r.cS 2147483647 (qZ r++t) I.v0 (kY I.v1 (by omega) (by omega)) (by simp only[dQ];omega)) ?_;simp;rcases(show r.kind=0\/r.kind=1\/r.kind=2\/r.kind=3 from by have:=I.k0;have:=I.k3;omega)with h|h|h|h
 ·have e1:=I.lY (by omega);have e2:=I.XE (by omega);have n5:=tY I.to;have i4:=I.to;have e3:qZ r=bW r.port++j8 r.to:=by simp[qZ,h]
  simp[h,e3];refine CI.cc [0] (nR r.port 65535 (j8 r.to++t) I.p0 (kY I.p1 (by omega) (by omega)) (by simp only[dQ];omega)) ?_;simp;refine CI.cc [0] (F4 r.to 12 t (kY (by omega) (by omega) (by omega)) (by omega)) ?_;simp;have hs4:=D3 r;rw[hs]at hs4;simp only[aK,e1,e2,h]at hs4;refine CI.p hs4 ?_;simp;refine CI.cc [0] (MZ t) ?_;simp;exact⟨[],by constructor<;>simp[aV,aW,h,e1,e2]⟩
 ·have e1:=I.XD (by omega);have e2:=I.Kt (by omega) (by omega);have e4:=I.XE (by omega);have e3:qZ r=dU r.rules rC:=by simp[qZ,h]
  simp[h,e3];refine CI.cc [0] (Zy r.rules 8 t (fun y hy t' ht'=>Xl y t' (I.D8 y hy) (by omega)) (fun y hy=>V5 (I.D8 y hy)) (by have:=I.rules;omega) I.rules (by omega) (by omega)) ?_;simp;have hs4:=D3 r;rw[hs]at hs4;simp only[aK,e1,e2,e4,h]at hs4;refine CI.p hs4 ?_;simp;refine CI.cc [0] (MZ t) ?_;simp;exact⟨[],by constructor<;>simp[aV,aW,h,e1,e2,e4]⟩
 ·have e1:=I.lY (by omega);have e2:=I.XE (by omega);have e4:=I.XD (by omega);have i4:=I.to;have e3:qZ r=j8 r.to:=by simp[qZ,h]
  simp[h,e3];refine CI.cc [0] (F4 r.to 12 t (kY (by omega) (by omega) (by omega)) (by omega)) ?_;simp;have hs4:=D3 r;rw[hs]at hs4;simp only[aK,e1,e2,e4,h]at hs4;refine CI.p hs4 ?_;simp;refine CI.cc [0] (MZ t) ?_;simp;exact⟨[],by constructor<;>simp[aV,aW,h,e1,e2,e4]⟩
 ·have e1:=I.XD (by omega);have e2:=I.Kt (by omega) (by omega);have e4:=I.lY (by omega);have e3:qZ r=dU r.cT bW:=by simp[qZ,h]
  simp[h,e3];refine CI.cc [0] (zab r.cT 8 t (fun y hy t' ht'=>Xn y t' (I.host y hy).1 (I.host y hy).2 (by omega)) (fun y hy=>gU y) (by have:=I.cT;omega) I.cT (by omega) (by omega)) ?_;simp;have hs4:=D3 r;rw[hs]at hs4;simp only[aK,e1,e2,e4,h]at hs4;refine CI.p hs4 ?_;simp;refine CI.cc [0] (MZ t) ?_;simp;exact⟨[],by constructor<;>simp[aV,aW,h,e1,e2,e4]⟩
theorem Zz (l:List aA)(lim:Int)(t:List UInt8)(hf:∀y∈l,∀t':List UInt8,t'.length<=870000->Ct prog 291 [.ptr 0 0] [] [(0,.cells [aC ((lW y++t').map bU),int 0] 319)] (st (aK y)) [(0,.cells [aC ((t').map bU),int 0] 319)])(hy:∀y∈l,(lW y).length<=1496)(h1:l.length<=lim)(hl:l.length<=64)(h2:lim<=1000)(ht:t.length<=700000):Ct prog 290 [.ptr 0 0,int lim,.d (dX 291)] [] [(0,.cells [aC ((dU l lW++t).map bU),int 0] 319)] (aC (l.map aK)) [(0,.cells [aC ((t).map bU),int 0] 319)]:=by
 refine Ct.B func290 ?_;simp;have hall:=A2 l hy;refine CI.cc [0] (nR l.length lim (l.flatMap lW++t) (by omega) (kY h1 (by omega) (by omega)) (by simp only[dQ];omega)) ?_ (ha:=by simp[dU]) (hk:=by simp[dU]);simp[dU];refine aQ.j1 7 7 126 rfl ?_;refine aQ.V (l) (fun k=>[(0,.ptr 0 0),(2,.d (dX 291)),(7,.own 64),(11,int l.length),(12,int k.1)]) (fun k=>[(64,.grow 7 ((l.take k.1).map aK) 126),(0,.cells [aC (((l.drop k.1).flatMap lW++t).map bU),int 0] 319)]) 65 (fun k hk1 B hB=>?_);simp;refine aJ (fun h=>?_) (fun h=>?_)
 ·have hk:k<(l).length:=by simpa using h
  obtain⟨y,hx,hr,hm,ht,hd,hw⟩:=dL hk;simp only[h];simp[hr,hw];have hd2:=JK l (k+1) hy;refine CI.cc [0] (hf y hm ((l.drop (k+1)).flatMap lW++t) (by simp only[dQ];omega)) ?_ (ha:=by simp[hd]) (hk:=by simp[hd]);simp[hd];refine⟨by omega,?_⟩;exact hB hk (by constructor<;>simp[hw,ht])
 ·obtain rfl:k=(l).length:=by simp at h;omega
  simp only[h];simp;exact⟨[],by constructor<;>simp[aV,aW]⟩
theorem Xo (l:List aA)(t:List UInt8)(hs:∀r∈l,eL r=0)(hl:l.length<=64)(ht:t.length<=700000):Ct prog 219 [.ptr 0 0] [] [(0,.cells [aC ((dU l lW++t).map bU),int 0] 319)] (aC (l.map aK)) [(0,.cells [aC ((t).map bU),int 0] 319)]:=by
 refine Ct.B func219 ?_;simp;refine CI.cc [0] (Zz l 64 t (fun y hy t' ht'=>Xi y t' (hs y hy) (by omega)) (fun y hy=>LV (EB (hs y hy))) (by omega) hl (by omega) (by omega)) ?_;simp;exact⟨[],by constructor<;>simp[aV,aW]⟩
theorem U5 (l:List Key)(t:List UInt8)(hs:∀k∈l,iY k=true)(hl:l.length<=64)(ht:t.length<=700000):Ct prog 220 [.ptr 0 0] [] [(0,.cells [aC ((dU l jF++t).map bU),int 0] 319)] (aC (l.map bP)) [(0,.cells [aC ((t).map bU),int 0] 319)]:=by
 refine Ct.B func220 ?_;simp;refine CI.cc [0] (zaa l 64 t (fun y hy t' ht'=>Db y t' (hs y hy) (by omega)) (fun y hy=>CT (hs y hy)) (by omega) hl (by omega) (by omega)) ?_;simp;exact⟨[],by constructor<;>simp[aV,aW]⟩
attribute [simp] ntmps214 results214 ntmps218 results218 ntmps168 results168 ntmps215 results215 ntmps167 results167
theorem zcH (f:G.Frame)(hf:jB f)(he:¬eX f=0):Ct prog 214 [st (fY f)] [] [] (.bI [ER,int (eX f)]) []:=by
 refine Ct.B func214 ?_;simp;refine CI.p (GY f hf) ?_ (ha:=by simp[he]);simp[he];exact aB (by simp) rfl
set_option maxHeartbeats 1000000 in
theorem zcD (f:G.Frame)(he:eX f=0):Ct prog 214 [st (fY f)] [] [] (.bI [aC ((rE f).map bU),int 0]) []:=by
 refine Ct.B func214 ?_;simp;have F:=Ps (nW.1 he);have lk:=vO (l:=f.gone) (lay:=jF) (m:=22) fun k hk=>CT (F.gone k hk);have la:=vO (l:=f.aD) (lay:=lW) (m:=1496) fun r hr=>LV (EB (F.aD r hr));have l1:=F.la;have l2:=F.lg;have l3:=F.lh;have l4:=F.ld;have n1:=gU f.aF;have n2:=gU f.kind;have n3:=gU f.cY;have n4:=gU f.err;have n5:=gU f.aL;have n6:=gU f.bF.length;have hy:∀m∈f.bF,(pV m).length<=27:=fun m hm=>Q1 (F.bF m hm).1;obtain⟨x,e0⟩:∃x,bW f.type=[x]:=⟨_,zer (by rcases F.ty with h|h|h|h<;>omega) (by rcases F.ty with h|h|h|h<;>omega)⟩;refine CI.p (GY f (F9 he)) ?_ (ha:=by simp[he]);simp[he];refine CI.p (zeq f.type) ?_ (ha:=by simp[e0]);simp[e0];refine CI.p (pH x [] f.aF (by simp)) ?_;simp;refine⟨by decide+kernel,?_⟩;rcases F.ty with g0|g0|g0|g0
 all_goals rw[g0]at e0
 ·simp[g0];refine CI.p (pH x (bW f.aF) f.bF.length (by omega)) ?_;simp;refine aQ.V (f.bF) (fun k=>[(5,aC ((x::(bW f.aF++bW f.bF.length++(f.bF.take k.1).flatMap pV)).map bU)),(36,aC (f.bF.map nU)),(37,int f.bF.length),(38,int k.1)]) (fun k=>[]) 65 (fun k hk1 B hB=>?_);simp;refine aJ (fun h=>?_) (fun h=>?_)
  ·have hk:k<(f.bF).length:=by simpa using h
   obtain⟨m,hx,hr,hm,ht,hd,hw⟩:=dL hk;simp only[h];simp[hr,hw];have hk2:=JL f.bF k hy;have F1:=F.bF m hm;have n7:=CT F1.1;refine CI.p (Hb x (bW f.aF++bW f.bF.length++(f.bF.take k).flatMap pV) m.k F1.1 (by simp only[dQ];omega)) ?_;simp;refine CI.p (pH x (bW f.aF++bW f.bF.length++(f.bF.take k).flatMap pV++jF m.k) m.cS (by simp only[dQ];omega)) ?_;simp;refine⟨by decide+kernel,?_⟩;exact hB hk (by constructor<;>simp[hw,ht,pV])
  ·obtain rfl:k=(f.bF).length:=by simp at h;omega
   simp only[h];simp;exact aB (by simp[rE,sK,g0,e0,dU]) rfl
 ·simp[g0];refine CI.p (pH x (bW f.aF) f.kind (by omega)) ?_;simp;refine CI.p (pH x (bW f.aF++bW f.kind) f.cY (by simp;omega)) ?_;simp;refine⟨by decide+kernel,?_⟩;refine CI.p (zcJ x (bW f.aF++bW f.kind++bW f.cY) f.aD F.aD l1 (by simp;omega)) ?_;simp;refine CI.p (WB x (bW f.aF++bW f.kind++bW f.cY++dU f.aD lW) f.gone F.gone l2 (by simp only[dQ];omega)) ?_;simp;refine⟨by decide+kernel,?_⟩;exact aB (by simp[rE,sK,g0,e0]) rfl
 ·simp[g0];refine CI.p (pH x (bW f.aF) f.kind (by omega)) ?_;simp;refine CI.p (pH x (bW f.aF++bW f.kind) f.cY (by simp;omega)) ?_;simp;refine CI.p (pH x (bW f.aF++bW f.kind++bW f.cY) f.err (by simp;omega)) ?_;simp;refine⟨by decide+kernel,?_⟩;refine CI.p (pH x (bW f.aF++bW f.kind++bW f.cY++bW f.err) f.aL (by simp;omega)) ?_;simp;refine CI.p (WB x (bW f.aF++bW f.kind++bW f.cY++bW f.err++bW f.aL) f.held F.held l4 (by simp only[dQ];omega)) ?_;simp;refine⟨by decide+kernel,?_⟩;exact aB (by simp[rE,sK,g0,e0]) rfl
 ·simp[g0];refine CI.p (pH x (bW f.aF) f.aL (by omega)) ?_;simp;refine CI.p (WB x (bW f.aF++bW f.aL) f.held F.held l4 (by simp only[dQ];omega)) ?_;simp;refine⟨by decide+kernel,?_⟩;exact aB (by simp[rE,sK,g0,e0]) rfl
theorem zgx (l:List G.Mark)(t:List UInt8)(hs:∀m∈l,iY m.k=true/\0<=m.cS/\m.cS<=2147483647)(hl:l.length<=64)(ht:t.length<=700000):Ct prog 218 [.ptr 0 0] [] [(0,.cells [aC ((dU l pV++t).map bU),int 0] 319)] (aC (l.map nU)) [(0,.cells [aC (t.map bU),int 0] 319)]:=by
 refine Ct.B func218 ?_;simp;have hy:∀m∈l,(pV m).length<=27:=fun m hm=>Q1 (hs m hm).1;have hall:=A2 l hy;refine CI.cc [0] (nR l.length 64 (l.flatMap pV++t) (by omega) (kY (by omega) (by omega) (by omega)) (by simp only[dQ];omega)) ?_ (ha:=by simp[dU]) (hk:=by simp[dU]);simp[dU];refine aQ.j1 3 3 376 rfl ?_;refine aQ.V (l) (fun k=>[(0,.ptr 0 0),(3,.own 64),(6,int l.length),(7,int k.1)]) (fun k=>[(64,.grow 3 ((l.take k.1).map nU) 376),(0,.cells [aC (((l.drop k.1).flatMap pV++t).map bU),int 0] 319)]) 65 (fun k hk1 B hB=>?_);simp;refine aJ (fun h=>?_) (fun h=>?_)
 ·have hk:k<(l).length:=by simpa using h
  obtain⟨m,hx,hr,hm,ht,hd,hw⟩:=dL hk;simp only[h];simp[hr,hw];have hd2:=JK l (k+1) hy;obtain⟨q1,q2,q3⟩:=hs m hm;have n1:=gU m.cS;refine CI.cc [0] (Db m.k (bW m.cS++((l.drop (k+1)).flatMap pV++t)) q1 (by simp only[dQ];omega)) ?_ (ha:=by simp[hd,pV]) (hk:=by simp[hd,pV]);simp[hd,pV];refine CI.cc [0] (nR m.cS 2147483647 ((l.drop (k+1)).flatMap pV++t) q2 (kY q3 (by omega) (by omega)) (by simp only[dQ];omega)) ?_;simp;refine⟨by omega,?_⟩;exact hB hk (by constructor<;>simp[hw,ht])
 ·obtain rfl:k=(l).length:=by simp at h;omega
  simp only[h];simp;exact⟨[],by constructor<;>simp[aV,aW]⟩
set_option maxHeartbeats 1000000 in
theorem zgR (f:G.Frame)(he:eX f=0):Ct prog 168 [aC ((rE f).map bU)] [] [] (.bI [st (fY f),int 0]) []:=by
 refine Ct.B func168 ?_;simp;have F:=Ps (nW.1 he);have lk:=vO (l:=f.gone) (lay:=jF) (m:=22) fun k hk=>CT (F.gone k hk);have ld:=vO (l:=f.held) (lay:=jF) (m:=22) fun k hk=>CT (F.held k hk);have la:=vO (l:=f.aD) (lay:=lW) (m:=1496) fun r hr=>LV (EB (F.aD r hr));have lh:=vO (l:=f.bF) (lay:=pV) (m:=27) fun m hm=>Q1 (F.bF m hm).1;have l1:=F.la;have l2:=F.lg;have l3:=F.lh;have l4:=F.ld;have n1:=gU f.aF;have n2:=gU f.kind;have n3:=gU f.cY;have n4:=gU f.err;have n5:=gU f.aL;have hb:=PN (nW.1 he);have hbl:(sK f).length<=99000:=by simp only[rE,dQ]at hb;omega
 refine CI.cc [320] (nR f.type 3 (bW f.aF++sK f) (by rcases F.ty with h|h|h|h<;>omega) (kY (by rcases F.ty with h|h|h|h<;>omega) (by omega) (by omega)) (by simp only[dQ];omega)) ?_ (ha:=by simp[rE]) (hk:=by simp[rE]);simp[rE];refine CI.cc [320] (nR f.aF 2147483647 (sK f) F.e0 (kY F.e1 (by omega) (by omega)) (by omega)) ?_;simp;have hf4:=GY f (F9 he);rw[he]at hf4;rcases F.ty with g0|g0|g0|g0
 ·obtain⟨a1,a2,a3,a4,a5,a6,a7⟩:=F.s0 g0;have e1:sK f=dU f.bF pV++[]:=by simp[sK,g0]
  simp[g0,e1];refine CI.cc [320] (zgx f.bF [] F.bF l3 (by simp)) ?_;simp;simp only[fY,g0,a1,a2,a3,a4,a5,a6,a7]at hf4;refine CI.cc [320] PK ?_;simp;refine CI.p hf4 ?_;simp;exact aB (by simp[g0,a1,a2,a3,a4,a5,a6,a7]) rfl
 ·obtain⟨a1,a2,a3,a4⟩:=F.s1 g0;have e1:sK f=bW f.kind++(bW f.cY++(dU f.aD lW++(dU f.gone jF++[]))):=by simp[sK,g0]
  simp[g0,e1];refine CI.cc [320] (nR f.kind 3 (bW f.cY++(dU f.aD lW++(dU f.gone jF++[]))) F.k0 (kY F.k3 (by omega) (by omega)) (by simp only[dQ,l7];omega)) ?_;simp;refine CI.cc [320] (nR f.cY 2147483647 (dU f.aD lW++(dU f.gone jF++[])) F.n0 (kY F.n1 (by omega) (by omega)) (by simp only[dQ,l7];omega)) ?_;simp;refine CI.cc [320] (Xo f.aD (dU f.gone jF++[]) F.aD l1 (by simp only[dQ,l7];omega)) ?_;simp;refine CI.cc [320] (U5 f.gone [] F.gone l2 (by simp)) ?_;simp;simp only[fY,g0,a1,a2,a3,a4]at hf4;refine CI.cc [320] PK ?_;simp;refine CI.p hf4 ?_;simp;exact aB (by simp[g0,a1,a2,a3,a4]) rfl
 ·obtain⟨a1,a2,a3⟩:=F.s2 g0;have e1:sK f=bW f.kind++(bW f.cY++(bW f.err++(bW f.aL++(dU f.held jF++[])))):=by simp[sK,g0]
  simp[g0,e1];refine CI.cc [320] (nR f.kind 3 (bW f.cY++(bW f.err++(bW f.aL++(dU f.held jF++[])))) F.k0 (kY F.k3 (by omega) (by omega)) (by simp only[dQ,l7];omega)) ?_;simp;refine CI.cc [320] (nR f.cY 2147483647 (bW f.err++(bW f.aL++(dU f.held jF++[]))) F.n0 (kY F.n1 (by omega) (by omega)) (by simp only[dQ,l7];omega)) ?_;simp;refine CI.cc [320] (nR f.err 15 (bW f.aL++(dU f.held jF++[])) F.r0 (kY F.r1 (by omega) (by omega)) (by simp only[dQ,l7];omega)) ?_;simp;refine CI.cc [320] (nR f.aL 2147483647 (dU f.held jF++[]) F.t0 (kY F.t1 (by omega) (by omega)) (by simp only[dQ,l7];omega)) ?_;simp;refine CI.cc [320] (U5 f.held [] F.held l4 (by simp)) ?_;simp;simp only[fY,g0,a1,a2,a3]at hf4;refine CI.cc [320] PK ?_;simp;refine CI.p hf4 ?_;simp;exact aB (by simp[g0,a1,a2,a3]) rfl
 ·obtain⟨a1,a2,a3,a4,a5,a6⟩:=F.s3 g0;have e1:sK f=bW f.aL++(dU f.held jF++[]):=by simp[sK,g0]
  simp[g0,e1];refine CI.cc [320] (nR f.aL 2147483647 (dU f.held jF++[]) F.t0 (kY F.t1 (by omega) (by omega)) (by simp only[dQ,l7];omega)) ?_;simp;refine CI.cc [320] (U5 f.held [] F.held l4 (by simp)) ?_;simp;simp only[fY,g0,a1,a2,a3,a4,a5,a6]at hf4;refine CI.cc [320] PK ?_;simp;refine CI.p hf4 ?_;simp;exact aB (by simp[g0,a1,a2,a3,a4,a5,a6]) rfl
theorem Uf (l:List UInt8)(hl:l.length<=100000):Ct prog 215 [aC (l.map bU)] [] [] (.bI [aC ((yY l).map bU),int 0]) []:=by
 refine Ct.B func215 ?_;simp;have n1:=gU l.length;refine aJ (fun h1=>?_) (fun h1=>?_)<;>simp only[h1]<;>simp<;>(try simp only[nT,nF,dT,dF]at h1)
 ·omega
 refine CI.cc [] (Ke l.length) ?_;simp;refine⟨by omega,?_⟩;exact aB (by simp[yY]) rfl
theorem zeE (x:UInt8)(p:List UInt8)(hl:(x::p).length<=100000):Ct prog 167 [aC ((yY (x::p)).map bU)] [] [] (.bI [aC ((x::p).map bU),int (yY (x::p)).length,int 0]) []:=by
 refine Ct.B func167 ?_;simp;have n1:=gU ((x::p).length:Int);refine CI.cc [384] (nR (x::p).length 100000 (x::p) (by omega) (kY (by omega) (by omega) (by omega)) (by omega)) ?_ (ha:=by simp[yY]) (hk:=by simp[yY]);simp[yY];refine⟨by omega,?_⟩;refine CI.cc [] (ZX x p (by simp at hl;omega)) ?_;simp;refine⟨by decide+kernel,?_⟩;rw[show((x::p).length:Int)=p.length+1 by simp]at n1;have hp:p.length+1<=100000:=hl;have w1:IntKind.wrap .i64 ((bW ((p.length:Int)+1)).length:Int)=(bW ((p.length:Int)+1)).length:=wrap_i64 (by omega) (by omega);have w2:IntKind.wrap .i64 (((bW ((p.length:Int)+1)).length:Int)+(p.length+1))=(bW ((p.length:Int)+1)).length+(p.length+1):=wrap_i64 (by omega) (by omega);exact aB (by simp[w1,w2]) rfl
attribute [simp] ntmps176 results176 ntmps120 results120 ntmps122 results122 ntmps121 results121 ntmps216 results216 ntmps166 results166 ntmps115 results115 ntmps81 results81 ntmps82 results82 ntmps83 results83 ntmps178 results178
theorem zix (x:UInt8)(l:List UInt8)(hl:l.length<=1000000):Ct prog 177 [aC ((x::l).map bU)] [] [] (aC ((x::l).map bU)) []:=(ZX x l hl).data
theorem zbs (l:gL)(hl:l.q.length<=1000000):Ct prog 176 [st (rD l)] [] [] (bool (zB l)) []:=by
 refine Ct.B func176 ?_;simp;rw[zbv]
 repeat' first
  | (refine bX (fun h=>?_) (fun h=>?_)<;>simp only[h]<;>simp[h])
  | (refine aJ (fun h=>?_) (fun h=>?_)<;>simp only[h]<;>simp[h])
  | (refine⟨(show nY _ _ from by decide+kernel),?_⟩)
  |fail
 all_goals exact aB (by simp[*]) rfl
theorem OZ (l:gL)(hl:l.q.length<=1000000):Ct prog 120 [st (rD l)] [] [] (st (rD (kT l))) []:=by
 refine Ct.B func120 ?_;simp;refine CI.p (zbs l hl) ?_;simp;cases hs:zB l with
 |false=>
  have e:=zbt hs;simp[hs];exact aB (by simp[e]) rfl
 |true=>
  have e:=Fs hs;simp[hs];exact aB (by simp[e]) rfl
theorem VT (l:gL)(x:UInt8)(b:List UInt8)(h:vU l)(hb:(x::b).length<=200000):Ct prog 122 [st (rD l),aC ((x::b).map bU)] [] [] (.bI [st (rD (CB l (x::b)).1),int (CB l (x::b)).2]) []:=by
 refine Ct.B func122 ?_;simp;refine CI.p (OZ l h.len) ?_;simp;simp only[CB];have h32:=VH l;generalize kT l=q at*;refine aJ (fun h1=>?_) (fun h1=>?_)<;>simp only[h1]<;>simp<;>(try simp only[nT,nF,dT,dF]at h1)
 ·have e:LQ q (x::b)=(q,8):=VV (by omega);exact aB (by simp[e]) rfl
 ·have e:LQ q (x::b)=(⟨q.aF,q.q++[x::b]⟩,0):=O5 (by omega);refine CI.p (zix x b (by simp at hb;omega)) ?_;simp;refine⟨by omega,?_⟩;refine⟨by decide+kernel,?_⟩;exact aB (by simp[e]) rfl
theorem Ig (l:gL)(i:Int)(hl:l.q.length<=1000000)(hq:l.q≠[]):Ct prog 121 [st (rD l),int i] [] [] (.bI [int (pR l i),bool true]) []:=by
 refine Ct.B func121 ?_;simp;have e:=zdc i hq;have hz:¬(l.q.length:Int)=0:=by have:=xI.2 hq;omega
 simp[hq];exact aB (by simp[e]) rfl
theorem Ii (e i:Int):Ct prog 121 [st [iD e,lD []],int i] [] [] (.bI [int 0,bool false]) []:=by
 refine Ct.B func121 ?_;simp;exact aB (by simp) rfl
theorem zgI (n:Int)(h0:0<n)(h1:n<=2000000):Ct prog 216 [ER,int n] [] [] (.sl 64 1 0 0) [(64,.grow 1 (List.replicate n.toNat [.v (.slice none 0 0)]) 200)]:=by
 refine Ct.B func216 ?_;simp;have g1:¬n<0:=by omega
 have g2:=wrap_i64 (n:=n) (by omega) (by omega);simp[g1,g2,h0];refine⟨⟨by omega,by omega⟩,by omega,?_⟩;exact⟨[(64,1216)],by constructor<;>simp[aV,aW]⟩
theorem zgH :Ct prog 216 [ER,int 0] [] [] (ER) []:=by
 refine Ct.B func216 ?_;simp;exact aB (by simp) rfl
theorem zij (a b:List (List UInt8))(h1:a.length+b.length<=2000000):Ct prog 166 [.own 0] [(0,.grow 1 [[.ro true (a.map FL)],[lD (b.map FL)]] 106)] [] (aC ((a++b).map FL)) []:=by
 refine Ct.B func166 ?_;simp;have w1:IntKind.wrap .i64 (a.length:Int)=a.length:=wrap_i64 (by omega) (by omega);have w2:IntKind.wrap .i64 ((a.length:Int)+b.length)=a.length+b.length:=wrap_i64 (by omega) (by omega);have v1:¬((a.length:Int)<0):=by omega
 have v2:¬((a.length:Int)+b.length<0):=by omega
 refine aQ.un ?_;simp[w1,v1];refine aQ.un ?_;simp[w2,v2];refine aQ.un ?_;simp;by_cases h0:a.length+b.length=0
 ·have ha:a=[]:=jL (by omega);have hb:b=[]:=jL (by omega);subst ha;subst hb;refine CI.p zgH ?_;simp;refine aQ.un ?_;simp;refine aQ.un ?_;simp;refine aQ.un ?_;simp;exact⟨[],by constructor<;>simp[aV,aW]⟩
 ·refine CI.cc [] (zgI ((a.length:Int)+b.length) (by omega) (by omega)) ?_;simp;refine aQ.un ?_;simp;refine⟨by omega,?_⟩;refine aQ.un ?_;simp;refine⟨by omega,?_⟩;refine aQ.un ?_;simp;exact⟨[],by constructor<;>simp[aV,aW]⟩
theorem U4 (l:gL)(i:Int)(h:vU l):Ct prog 115 [st (rD l),int i] [] [] (.bI [st (rD (y4 l i).1),aC ((y4 l i).2.1.map bU),int (y4 l i).2.2]) []:=by
 refine Ct.B func115 ?_;simp;refine CI.p (OZ l h.len) ?_;simp;simp only[y4];have h32:=VH l;have h':=h.sound;generalize kT l=q at*;by_cases hq:q.q=[]
 ·obtain⟨e,q⟩:=q;simp only at hq;subst hq;refine CI.p (Ii e i) ?_;simp;have e1:= @Cz e i;exact aB (by simp[e1]) rfl
 ·have e1:=Cy (i:=i) hq;have e2:=PW i hq;refine CI.p (Ig q i (by omega) hq) ?_;simp;generalize pR q i=k at*;have w1:IntKind.wrap .i64 ((k:Int)+1)=k+1:=wrap_i64 (by omega) (by omega);have w2:((k:Int)+1).toNat=k+1:=by omega
  simp[e2,w1,w2];refine⟨by omega,?_⟩;refine⟨⟨by omega,by omega⟩,?_⟩;have e3:q.q[k]?.getD []=q.q[k]:=by simp[e2]
  refine CI.cc [2176] (zij (q.q.take k) (q.q.drop (k+1)) (by simp;omega)) ?_;simp;refine⟨by decide+kernel,?_⟩;exact aB (by simp[e1,e3]) rfl
theorem zhN (l:gL)(i:Int)(h:vU l):Ct prog 81 [st (rD l),int i] [] [] (.bI [st (rD (M1 l i).1),int (M1 l i).2]) []:=by
 refine Ct.B func81 ?_;simp;refine CI.p (U4 l i h) ?_;simp;exact aB (by simp[M1]) rfl
theorem zku (l:gL)(i:Int)(h:vU l):Ct prog 82 [st (rD l),int i] [] [] (.bI [st (rD (NL l i).1),int (NL l i).2]) []:=by
 refine Ct.B func82 ?_;simp;refine CI.p (OZ l h.len) ?_;simp;have h32:=VH l;have h':=h.sound;unfold NL;generalize kT l=q at*;by_cases hq:q.q=[]
 ·obtain⟨e,q⟩:=q;simp only at hq;subst hq;refine CI.p (Ii e i) ?_;simp;exact aB (by simp) rfl
 ·have e2:=PW i hq;refine CI.p (Ig q i (by omega) hq) ?_;simp;generalize pR q i=k at*;obtain⟨g1,g2⟩:=h'.getD e2;have e3:q.q.getD k []=q.q[k]:=by simp[e2]
  rw[e3]at g1 g2;simp only[e3,aH hq];simp[e2];generalize q.q[k]=b at*;cases b with
  |nil=>exact absurd rfl g1
  |cons x b=>
   refine CI.p (VT q x b h' g2) ?_;simp;exact cK (by simp)
theorem zfI (l:gL)(i:Int)(h:vU l):Ct prog 83 [st (rD l),int i] [] [] (.bI [st (rD (MN l i).1),int (MN l i).2]) []:=by
 refine Ct.B func83 ?_;simp;refine CI.p (U4 l i h) ?_;simp;unfold MN y4;have h':=h.sound;generalize kT l=q at*;by_cases hq:q.q=[]
 ·obtain⟨e,q⟩:=q;simp only at hq;subst hq;have e1:= @Cz e i;simp[e1];exact aB (by simp) rfl
 ·have e2:=PW i hq;have h2:=h'.take i;have e1:=Cy (i:=i) hq;obtain⟨g1,g2⟩:=h'.getD e2;rw[e1]at h2⊢;simp only[aH hq]at h2⊢;generalize q.q.getD (pR q i) []=b at*;simp;cases b with
  |nil=>exact absurd rfl g1
  |cons x b=>
   refine CI.p (VT ⟨q.aF,q.q.take (pR q i)++q.q.drop (pR q i+1)⟩ x b h2 g2) ?_;simp;exact aB (by simp) rfl
theorem zcb (l:gL)(hl:l.q.length<=1000000):Ct prog 178 [st (rD l)] [] [] (.bI [st (rD (PD l).1),int (PD l).2]) []:=by
 refine Ct.B func178 ?_;simp;refine CI.p (OZ l hl) ?_;simp;obtain⟨h1,h2⟩:=Zv l;unfold PD;generalize kT l=q at*;refine aJ (fun h3=>?_) (fun h3=>?_)<;>simp only[h3]<;>simp<;>(try simp only[nT,nF,dT,dF]at h3)
 ·first|exact aB (by simp[h3]) rfl|exact cK (by simp[h3])
 ·have w1:=wrap_i64 (n:=q.aF+1) (by omega) (by omega);first|exact aB (by simp[h3,w1]) rfl|exact cK (by simp[h3,w1])
end Go.Proofs.YtegplpagkajolaaGreatDoor
