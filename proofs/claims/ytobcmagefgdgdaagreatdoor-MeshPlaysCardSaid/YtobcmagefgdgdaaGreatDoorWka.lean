/- LAYERS 10 to 12, walked -/
import Derived.Test.YtobcmagefgdgdaaGreatDoorPq
import Derived.Test.YtobcmagefgdgdaaGreatDoorWh
set_option linter.unusedSimpArgs false
set_option linter.unusedVariables false
set_option maxRecDepth 100000
set_option maxHeartbeats 8000000
namespace Go.Proofs.YtobcmagefgdgdaaGreatDoor
open Go.AI Go.G Tryz
attribute [simp] ntmps182 results182 ntmps237 results237 ntmps393 results393 ntmps488 results488 ntmps181 results181 ntmps117 results117 ntmps120 results120 ntmps313 results313
attribute [simp] aV
abbrev BI :AV:=.d (.v (.slice none 0 0))
theorem ZT (n:Int):C0 182 [int n] (int (kZ n)):=by
 refine Ct.B func182 ?_;simp;have e:=Ro n;exact aA (by simp[e])
theorem zjb :C0 237 [BI] (BI):=by
 refine Ct.B func237 ?_;simp;exact aA
theorem ZK (x:UInt8)(l:List UInt8)(hl:l.length<=1000000):C1 237 [aB ((x::l).map aV)] [] [] (.own 64) [(64,.grow 1 ((x::l).map aV) 5)]:=by
 refine Ct.B func237 ?_;simp;refine⟨by omega,?_⟩;exact⟨[(64,384)],by constructor<;>simp[aI,aJ]⟩
theorem Kb (n:Int):C1 393 [BI,int n] [] [] (.own 64) [(64,.grow 1 ((aL n).map aV) 5)]:=by
 refine Ct.B func393 ?_;simp;refine CI.p zjb ?_;simp;refine CI.p (ZT n) ?_;simp;obtain⟨m,e0,e1,e2⟩:=IX n;simp[e0];refine aH.gH 5 1 5 rfl ?_;refine aH.inv mixed rfl (ι:={z:List UInt8×Nat×Nat//x8 m z.1 z.2.1 z.2.2}) (λk=>[(1,int k.1.2.1),(5,.own 64)]) (λk=>[(64,.grow 1 (k.1.1.map aV) 5)]) 65 (λk=>k.1.2.2) ⟨([],m,5),.start e1⟩ [] (by constructor<;>simp) ?_;rintro⟨⟨q,n,f⟩,hI⟩ B hB;simp only at hI;refine CI.n ?_;simp;have hs:=hI.small;have hql:q.length<=5:=by have:=hI.l;omega
 have hf:=hI.f1;have w1:=Ke n hs;have w2:(n:Int).fdiv (2^min 7 IntKind.i64.bits)=((n/128:Nat):Int):=Kd n;refine aX (λh1 zz=>?_) (λh1 zz=>?_)<;>simp only[zz]<;>simp[w1,w2]
 ·refine⟨by omega,?_⟩;refine hB _ ⟨(q++[UInt8.ofNat (n%128+128)],n/128,f-1),hI.step (by omega)⟩ [] ?_ (by simp;omega);constructor<;>simp[w2]
 ·have h1':n<128:=by omega
  have w3:=WX n h1';have e3:=hI.last h1';simp[w3];refine⟨by omega,?_⟩;exact⟨[(64,449)],by constructor<;>simp[aI,aJ,e2,<-e3]⟩
theorem Kc (x:UInt8)(l:List UInt8)(n:Int)(hl:l.length<=1000000):C1 393 [aB ((x::l).map aV),int n] [] [] (.own 64) [(64,.grow 1 ((x::l++aL n).map aV) 5)]:=by
 refine Ct.B func393 ?_;simp;refine CI.cc [] (ZK x l hl) ?_;simp;refine CI.p (ZT n) ?_;simp;obtain⟨m,e0,e1,e2⟩:=IX n;simp[e0];refine aH.inv mixed rfl (ι:={z:List UInt8×Nat×Nat//x8 m z.1 z.2.1 z.2.2}) (λk=>[(1,int k.1.2.1),(5,.own 64)]) (λk=>[(64,.grow 1 ((x::l++k.1.1).map aV) 5)]) 65 (λk=>k.1.2.2) ⟨([],m,5),.start e1⟩ [] (by constructor<;>simp) ?_;rintro⟨⟨q,n,f⟩,hI⟩ B hB;simp only at hI;refine CI.n ?_;simp;have hs:=hI.small;have hql:q.length<=5:=by have:=hI.l;omega
 have hf:=hI.f1;have w1:=Ke n hs;have w2:(n:Int).fdiv (2^min 7 IntKind.i64.bits)=((n/128:Nat):Int):=Kd n;refine aX (λh1 zz=>?_) (λh1 zz=>?_)<;>simp only[zz]<;>simp[w1,w2]
 ·refine⟨by omega,?_⟩;refine hB _ ⟨(q++[UInt8.ofNat (n%128+128)],n/128,f-1),hI.step (by omega)⟩ [] ?_ (by simp;omega);constructor<;>simp[w2]
 ·have h1':n<128:=by omega
  have w3:=WX n h1';have e3:=hI.last h1';simp[w3];refine⟨by omega,?_⟩;exact⟨[(64,449)],by constructor<;>simp[aI,aJ,e2,<-e3]⟩
theorem Wi (x:UInt8)(l:List UInt8)(s:Str)(hl:l.length<=1000000)(hs:(bs s).length<=1000000):C1 488 [aB ((x::l).map aV),str s] [] [] (.own 64) [(64,.grow 1 ((x::l++cY s).map aV) 5)]:=by
 refine Ct.B func488 ?_;simp;have h5:=cO ((bs s).length:Int);have e:List.map (λc:UInt8=>[D.v (.int .u8 c.toNat)]) (ByteArray.toList s)=(bs s).map aV:=Cw s;have e1:ByteArray.size s=(bs s).length:=iA s;refine CI.cc [] (Kc x l (bs s).length hl) ?_ (ha:=by simp[e,e1]) (hk:=by simp[e,e1]);simp[e,e1];refine⟨by omega,?_⟩;exact⟨[(64,448)],by constructor<;>simp[aI,aJ,cY]⟩
theorem zeG (n:Int):C0 393 [BI,int n] (aB ((aL n).map aV)):=(Kb n).data
theorem o6 (x:UInt8)(l:List UInt8)(n:Int)(hl:l.length<=1000000):C0 393 [aB ((x::l).map aV),int n] (aB ((x::l++aL n).map aV)):=(Kc x l n hl).data
theorem EN (x:UInt8)(l:List UInt8)(s:Str)(hl:l.length<=1000000)(hs:(bs s).length<=1000000):C0 488 [aB ((x::l).map aV),str s] (aB ((x::l++cY s).map aV)):=(Wi x l s hl hs).data
theorem zdB (n:Int)(t:List UInt8)(h0:0<=n)(h:n<=2147483647)(ht:t.length<=1000000):C1 181 [.ptr 0 0] [(0,.cells [aB ((aL n++t).map aV),int 0] 190)] [] (.aU [int n,int (aL n).length,int 0]) []:=by
 refine Ct.B func181 ?_;simp;have hq5:=cO n;obtain⟨M,e,m1,m2,m3⟩:=zhL (aL n).length t.length hq5;refine⟨⟨by split<;>omega,by split<;>omega⟩,?_⟩;refine dr ?_;simp only[e,m3];obtain⟨m,rfl⟩:∃m:Nat,n=m:=⟨n.toNat,by omega⟩;have hq:aL (m:Int)=o5 5 m:=by obtain⟨x,e0,e1,e2⟩:=IX (m:Int);rw[SK h0 h]at e0;rw[e2];congr 1;omega
 have hs:=wW.start (m:=m) (by omega);rw[<-hq]at hs;generalize aL (m:Int)=q at*;refine aH.inv mixed rfl (ι:={z:Nat×Nat×Nat//wW m q z.1 z.2.1 z.2.2}) (λk=>[(0,.ptr 0 0),(5,int k.1.2.1),(20,int k.1.1),(19,int M),(18,aB ((q++t).map aV|>.take M))]) (λk=>[(0,.cells [aB ((q++t).map aV),int 0] 190)]) 64 (λk=>5-k.1.1) ⟨(0,0,m),hs⟩ [] (by constructor<;>simp[m3]) ?_;rintro⟨⟨k,n0,r⟩,hI⟩ B hB;simp only at hI;have hk4:=hI.k4;have w0:IntKind.wrap .i64 ((k:Int)*7)=((7*k:Nat):Int):=by rw[wz _];omega
 have w1:IntKind.wrap .u64 (7*(k:Int))=7*(k:Int):=by show(7*(k:Int))%2^64=_;omega
 have wk:IntKind.wrap .i64 ((k:Int)+1)=k+1:=wz _;have w3:(7*(k:Int)).toNat=7*k:=by omega
 have w2:min (7*k) IntKind.i64.bits=7*k:=by show min (7*k) 64=_;omega
 by_cases hr:r<128
 ·obtain⟨a1,a2⟩:=hI.last hr;have hkM:k<M:=by omega
  have hkq:k<q.length:=by omega
  obtain⟨p1,p2⟩:=Ig hk4 hI.n0 hr;have l1:I4 .u8 (r:Int) 128=r:=by rw[Mh r (by omega)];omega
  have l2:IntKind.wrap .i64 (r:Int)=r:=wz _;have b0:((q[k]).toNat:Int)=r:=by rw[bO hkq]at a1;rw[mW a1,J2 _ (by omega)]
  refine CI.n ?_;simp[m3,hkM,hkq,b0,TN,w0,w1,w2,w3,l1,l2,p1,p2];refine⟨by omega,?_⟩;refine aX (λg1 zz=>?_) (λg1 zz=>?_)<;>simp only[zz]<;>simp
  ·omega
  have e5:(n0:Int)+2^(7*k)*r=m:=by exact_mod_cast hI.m.symm
  have e6:(q.length:Int)=k+1:=by omega
  have e7:r=0->k=0:=λh=>by have:=hI.pos;omega
  refine bM (λg2=>?_) (λg2=>?_)<;>simp only[g2]<;>simp[Nat.pos_iff_ne_zero]
  ·have e8:=e7 (lS g2);simp[e8];rw[e8]at e5 e6;simp at e5 e6;exact⟨[],by constructor<;>simp[aI,aJ,e5,e6]⟩
  ·exact⟨[],by constructor<;>simp[aI,aJ,wk,e5,e6]⟩
 ·obtain⟨a1,a2,a3⟩:=hI.more hr;have hkM:k<M:=by omega
  have hkq:k<q.length:=by omega
  obtain⟨p1,p2⟩:=Ig hk4 hI.n0 (c:=r%128) (by omega);have l1:I4 .u8 ((r:Int)%128+128) 128=((r%128:Nat):Int):=by
   have:=Mh (r%128+128) (by omega);rw[show((r:Int)%128+128)=((r%128+128:Nat):Int) by omega,this];omega
  have l2:=wz ((r:Int)%128);rw[show((r%128:Nat):Int)=(r:Int)%128 by omega]at p1 p2;have b0:((q[k]).toNat:Int)=(r:Int)%128+128:=by rw[bO hkq]at a1;rw[mW a1,J2 _ (by omega)];omega
  refine CI.n ?_;simp[m3,hkM,hkq,b0,TN,w0,w1,w2,w3,l1,l2,p1,p2];refine⟨by omega,?_⟩;refine aX (λg1 zz=>?_) (λg1 zz=>?_)<;>simp only[zz]<;>simp
  ·refine hB _ ⟨(k+1,n0+2^(7*k)*(r%128),r/128),a3⟩ [] ?_ (by simp;omega);constructor<;>simp[wk]
  ·omega
theorem nE (n lim:Int)(t:List UInt8)(h0:0<=n)(h1:n<=kZ lim)(ht:t.length<=1000000):C1 117 [.ptr 0 0,int lim] [] [(0,.cells [aB ((aL n++t).map aV),int 0] 190)] (int n) [(0,.cells [aB (t.map aV),int 0] 190)]:=by
 refine Ct.B func117 ?_;simp;have hb:kZ lim<=2147483647:=by unfold kZ;omega
 refine CI.cc [0] (zdB n t h0 (by omega) ht) ?_;simp;refine CI.p (ZT lim) ?_;simp;refine aX (λh3 zz=>?_) (λh3 zz=>?_)<;>simp only[zz]<;>simp
 ·omega
 have e:=RP (aL n) t;refine⟨by omega,?_⟩;exact⟨[],by constructor<;>simp[aI,aJ,e]⟩
theorem E5 (s:Str)(lim:Int)(t:List UInt8)(h1:((bs s).length:Int)<=kZ lim)(ht:(bs s).length+t.length<=1000000):C1 120 [.ptr 0 0,int lim] [] [(0,.cells [aB ((cY s++t).map aV),int 0] 190)] (str s) [(0,.cells [aB (t.map aV),int 0] 190)]:=by
 refine Ct.B func120 ?_;simp;have hb:kZ lim<=2147483647:=by unfold kZ;omega
 refine CI.cc [0] (nE (bs s).length lim (bs s++t) (by omega) h1 (by simp;omega)) ?_ (ha:=by simp[cY]) (hk:=by simp[cY]);simp[cY];refine aX (λh3 zz=>?_) (λh3 zz=>?_)<;>simp only[zz]<;>simp
 ·omega
 have e:=RP (bs s) t;have e1:=Bs s;refine⟨by omega,?_⟩;exact⟨[],by constructor<;>simp[aI,aJ,e,e1]⟩
theorem O6 :C1 313 [.ptr 0 0] [] [(0,.cells [aB [],int 0] 190)] (int 0) [(0,.cells [aB [],int 0] 190)]:=by
 refine Ct.B func313 ?_;simp;exact⟨[],by constructor<;>simp[aI,aJ]⟩
attribute [simp] ntmps556 results556 ntmps589 results589 ntmps554 results554 ntmps489 results489 ntmps491 results491 ntmps552 results552 ntmps490 results490 ntmps553 results553 ntmps492 results492 ntmps259 results259 ntmps493 results493 ntmps394 results394 ntmps590 results590 ntmps555 results555 ntmps494 results494 ntmps395 results395 ntmps396 results396
theorem zim (x:UInt8)(b:List UInt8)(l:List Int)(kf:D)(lay:Int->List UInt8)(m B:Nat)(hB:B<=900000)(hf:∀y∈l,∀b':List UInt8,b'.length<=B->bN prog (.d kf) [aB ((x::b').map aV),int y] (aB ((x::b'++lay y).map aV)))(hly:∀y∈l,(lay y).length<=m)(hs:b.length+5+l.length*m<=B)(hl:l.length<=200000):C0 556 [aB ((x::b).map aV),aB (l.map kP),.d kf] (aB ((x::b++bK l lay).map aV)):=by
 refine Ct.B func556 ?_;simp;have hn:=cO l.length;refine CI.p (o6 x b l.length (by omega)) ?_;simp;refine aH.V (l) (λk=>[(0,aB ((x::(b++aL l.length++(l.take k.1).flatMap lay)).map aV)),(2,.d kf),(13,aB (l.map kP)),(14,int l.length),(15,int k.1)]) (λk=>[]) 65 (λk hk1 B hB=>?_);simp;rcases bC hk1 with⟨y,hk,hx,hr,hm,ht,hd,hw,h⟩|rfl
 ·simp[h,hr,hw];have hk2:=FN l k hly;refine CI.ff (hf y hm (b++aL l.length++(l.take k).flatMap lay) (by simp only[bZ];omega)) rfl rfl rfl ?_;simp;exact hB hk (by constructor<;>simp[hw,ht,bK])
 ·simp;exact aA (by simp[bK])
theorem zin (x:UInt8)(b:List UInt8)(l:List Weight)(kf:D)(lay:Weight->List UInt8)(m B:Nat)(hB:B<=900000)(hf:∀y∈l,∀b':List UInt8,b'.length<=B->bN prog (.d kf) [aB ((x::b').map aV),st (wC y)] (aB ((x::b'++lay y).map aV)))(hly:∀y∈l,(lay y).length<=m)(hs:b.length+5+l.length*m<=B)(hl:l.length<=200000):C0 589 [aB ((x::b).map aV),aB (l.map wC),.d kf] (aB ((x::b++bK l lay).map aV)):=by
 refine Ct.B func589 ?_;simp;have hn:=cO l.length;refine CI.p (o6 x b l.length (by omega)) ?_;simp;refine aH.V (l) (λk=>[(0,aB ((x::(b++aL l.length++(l.take k.1).flatMap lay)).map aV)),(2,.d kf),(13,aB (l.map wC)),(14,int l.length),(15,int k.1)]) (λk=>[]) 65 (λk hk1 B hB=>?_);simp;rcases bC hk1 with⟨y,hk,hx,hr,hm,ht,hd,hw,h⟩|rfl
 ·simp[h,hr,hw];have hk2:=FN l k hly;refine CI.ff (hf y hm (b++aL l.length++(l.take k).flatMap lay) (by simp only[bZ];omega)) rfl rfl rfl ?_;simp;exact hB hk (by constructor<;>simp[hw,ht,bK])
 ·simp;exact aA (by simp[bK])
theorem zij (x:UInt8)(b:List UInt8)(l:List cH)(kf:D)(lay:cH->List UInt8)(m B:Nat)(hB:B<=900000)(hf:∀y∈l,∀b':List UInt8,b'.length<=B->bN prog (.d kf) [aB ((x::b').map aV),st (dJ y)] (aB ((x::b'++lay y).map aV)))(hly:∀y∈l,(lay y).length<=m)(hs:b.length+5+l.length*m<=B)(hl:l.length<=200000):C0 554 [aB ((x::b).map aV),aB (l.map dJ),.d kf] (aB ((x::b++bK l lay).map aV)):=by
 refine Ct.B func554 ?_;simp;have hn:=cO l.length;refine CI.p (o6 x b l.length (by omega)) ?_;simp;refine aH.V (l) (λk=>[(0,aB ((x::(b++aL l.length++(l.take k.1).flatMap lay)).map aV)),(2,.d kf),(13,aB (l.map dJ)),(14,int l.length),(15,int k.1)]) (λk=>[]) 65 (λk hk1 B hB=>?_);simp;rcases bC hk1 with⟨y,hk,hx,hr,hm,ht,hd,hw,h⟩|rfl
 ·simp[h,hr,hw];have hk2:=FN l k hly;refine CI.ff (hf y hm (b++aL l.length++(l.take k).flatMap lay) (by simp only[bZ];omega)) rfl rfl rfl ?_;simp;exact hB hk (by constructor<;>simp[hw,ht,bK])
 ·simp;exact aA (by simp[bK])
theorem zil (x:UInt8)(b:List UInt8)(l:List Key)(kf:D)(lay:Key->List UInt8)(m B:Nat)(hB:B<=900000)(hf:∀y∈l,∀b':List UInt8,b'.length<=B->bN prog (.d kf) [aB ((x::b').map aV),st (aQ y)] (aB ((x::b'++lay y).map aV)))(hly:∀y∈l,(lay y).length<=m)(hs:b.length+5+l.length*m<=B)(hl:l.length<=200000):C0 489 [aB ((x::b).map aV),aB (l.map aQ),.d kf] (aB ((x::b++bK l lay).map aV)):=by
 refine Ct.B func489 ?_;simp;have hn:=cO l.length;refine CI.p (o6 x b l.length (by omega)) ?_;simp;refine aH.V (l) (λk=>[(0,aB ((x::(b++aL l.length++(l.take k.1).flatMap lay)).map aV)),(2,.d kf),(13,aB (l.map aQ)),(14,int l.length),(15,int k.1)]) (λk=>[]) 65 (λk hk1 B hB=>?_);simp;rcases bC hk1 with⟨y,hk,hx,hr,hm,ht,hd,hw,h⟩|rfl
 ·simp[h,hr,hw];have hk2:=FN l k hly;refine CI.ff (hf y hm (b++aL l.length++(l.take k).flatMap lay) (by simp only[bZ];omega)) rfl rfl rfl ?_;simp;exact hB hk (by constructor<;>simp[hw,ht,bK])
 ·simp;exact aA (by simp[bK])
theorem zik (x:UInt8)(b:List UInt8)(l:List aC)(kf:D)(lay:aC->List UInt8)(m B:Nat)(hB:B<=900000)(hf:∀y∈l,∀b':List UInt8,b'.length<=B->bN prog (.d kf) [aB ((x::b').map aV),st (aF y)] (aB ((x::b'++lay y).map aV)))(hly:∀y∈l,(lay y).length<=m)(hs:b.length+5+l.length*m<=B)(hl:l.length<=200000):C0 491 [aB ((x::b).map aV),aB (l.map aF),.d kf] (aB ((x::b++bK l lay).map aV)):=by
 refine Ct.B func491 ?_;simp;have hn:=cO l.length;refine CI.p (o6 x b l.length (by omega)) ?_;simp;refine aH.V (l) (λk=>[(0,aB ((x::(b++aL l.length++(l.take k.1).flatMap lay)).map aV)),(2,.d kf),(13,aB (l.map aF)),(14,int l.length),(15,int k.1)]) (λk=>[]) 65 (λk hk1 B hB=>?_);simp;rcases bC hk1 with⟨y,hk,hx,hr,hm,ht,hd,hw,h⟩|rfl
 ·simp[h,hr,hw];have hk2:=FN l k hly;refine CI.ff (hf y hm (b++aL l.length++(l.take k).flatMap lay) (by simp only[bZ];omega)) rfl rfl rfl ?_;simp;exact hB hk (by constructor<;>simp[hw,ht,bK])
 ·simp;exact aA (by simp[bK])
theorem zhN (x:Key)(kf:FuncId)(b:Bool)(hf:bN prog (.d (dE kf)) [st (aQ x)] (bool b)):C0 552 [st (aQ x),.d (.bE [dE kf])] (bool (!b)):=by
 refine Ct.B func552 ?_;simp;refine CI.ff hf rfl rfl rfl ?_;simp;exact aA
theorem zhJ (l:List Key)(kf:FuncId)(may:Key->Bool)(hf:∀x∈l,bN prog (.d (dE kf)) [st (aQ x)] (bool (may x)))(hl:l.length<=1000000):C0 490 [aB (l.map aQ),.d (dE kf)] (aB (((l.filter may).take 64).map aQ)):=by
 refine Ct.BS func490 mixed 1 400 ?_;simp;refine CI.s (tm:=[(0,aB (l.map aQ)),(3,.d (.bE [dE kf]))]) (mm:=[]) (nx:=65) [] [64] (by constructor<;>simp) ?_;refine CI.n ?_;simp;have hg:∀x∈l,bN prog (.d (.fn (.func 552) [] [.bE [dE kf]])) [st (aQ x)] (bool (!may x)):=λx hx=>bN.nZ (zhN x kf (may x) (hf x hx)) call552 rfl rfl;have hfl:(l.filter may).length<=1000000:=dH (gJ _ _) hl;have ht:=Cm aQ (l.filter λx=>may x);cases l with
 |nil=>
  refine CI.p Qw ?_;simp;refine CI.p (ZH (.fn (.func 552) [] [.bE [dE kf]])) ?_;simp;exact aA
 |cons x l=>
  refine CI.cc [] (ZJ x l (by simp at hl;omega)) ?_;simp;refine CI.cc [129] (RU (x::l) (.fn (.func 552) [] [.bE [dE kf]]) (λy=>!may y) hg hl) ?_;simp;refine⟨⟨by split<;>omega,by split<;>omega⟩,?_⟩;exact aA (by simp[ht])
theorem zhM (x:aC)(kf:FuncId)(b:Bool)(hf:bN prog (.d (dE kf)) [st (aF x)] (bool b)):C0 553 [st (aF x),.d (.bE [dE kf])] (bool (!b)):=by
 refine Ct.B func553 ?_;simp;refine CI.ff hf rfl rfl rfl ?_;simp;exact aA
theorem zhG (l:List aC)(kf:FuncId)(may:aC->Bool)(hf:∀x∈l,bN prog (.d (dE kf)) [st (aF x)] (bool (may x)))(hl:l.length<=1000000):C0 492 [aB (l.map aF),.d (dE kf)] (aB (((l.filter may).take 64).map aF)):=by
 refine Ct.BS func492 mixed 1 400 ?_;simp;refine CI.s (tm:=[(0,aB (l.map aF)),(3,.d (.bE [dE kf]))]) (mm:=[]) (nx:=65) [] [64] (by constructor<;>simp) ?_;refine CI.n ?_;simp;have hg:∀x∈l,bN prog (.d (.fn (.func 553) [] [.bE [dE kf]])) [st (aF x)] (bool (!may x)):=λx hx=>bN.nZ (zhM x kf (may x) (hf x hx)) call553 rfl rfl;have hfl:(l.filter may).length<=1000000:=dH (gJ _ _) hl;have ht:=Cm aF (l.filter λx=>may x);cases l with
 |nil=>
  refine CI.p R6 ?_;simp;refine CI.p (RT (.fn (.func 553) [] [.bE [dE kf]])) ?_;simp;exact aA
 |cons x l=>
  refine CI.cc [] (R4 x l (by simp at hl;omega)) ?_;simp;refine CI.cc [129] (RW (x::l) (.fn (.func 553) [] [.bE [dE kf]]) (λy=>!may y) hg hl) ?_;simp;refine⟨⟨by split<;>omega,by split<;>omega⟩,?_⟩;exact aA (by simp[ht])
theorem YQ (k_:Key):C0 259 [st (aQ k_)] (bool (eN k_)):=by
 refine Ct.B func259 ?_;simp;rw[Jp];refine bM (λh1=>?_) (λh1=>?_)<;>simp only[h1]<;>simp
 ·refine bM (λh2=>?_) (λh2=>?_)<;>simp only[h2]<;>simp
  ·refine CI.p (H6 k_.name) ?_;simp;exact aA (by simp[h1,h2])
  ·exact aA (by simp[h1,h2])
 ·exact aA (by simp[h1])
theorem Fs (r:aC):C0 493 [st (aF r)] (bool (decide (cQ r=0))):=by
 refine Ct.B func493 ?_;simp;refine CI.p (CZ r) ?_;simp;exact aA
theorem Gr (x:UInt8)(b:List UInt8)(k_:Key)(hk:eN k_=true)(hb:b.length<=200000):C0 394 [aB ((x::b).map aV),st (aQ k_)] (aB ((x::b++dK k_).map aV)):=by
 refine Ct.B func394 ?_;simp;have hi:=ID hk;have hn:=cO k_.kind;refine CI.p (YQ k_) ?_ (ha:=by simp[hk]);simp[hk];refine CI.p (o6 x b k_.kind (by omega)) ?_;simp;refine CI.p (EN x (b++aL k_.kind) k_.name (by simp;omega) (by omega)) ?_;simp;refine dr ?_;exact aA (by simp[dK])
theorem zcF (x:UInt8)(b:List UInt8)(w:Weight)(hw:TA w)(hb:b.length<=200000):C0 590 [aB ((x::b).map aV),st (wC w)] (aB ((x::b++jA w).map aV)):=by
 refine Ct.B func590 ?_;simp;have h1:=hw.c;have hn:=mG hw.c;refine CI.p (EN x b w.fT (by omega) (by omega)) ?_;simp;refine CI.p (o6 x (b++cY w.fT) w.w (by simp;omega)) ?_;simp;refine dr ?_;exact aA (by simp[jA])
theorem zcG (x:UInt8)(b:List UInt8)(r:cH)(hr:I9 r)(hb:b.length<=189000):C0 555 [aB ((x::b).map aV),st (dJ r)] (aB ((x::b++jJ r).map aV)):=by
 refine Ct.B func555 ?_;simp;have h1:=hr.host;have h2:=hr.pre;have n1:=mG h1;have n2:=mG h2;have h3:=hr.split;refine CI.p (EN x b r.host (by omega) (by omega)) ?_;simp;refine CI.p (EN x (b++cY r.host) r.pre (by simp;omega) (by omega)) ?_;simp;refine CI.p (zin x (b++cY r.host++cY r.pre) r.split (dE 590) jA 22 200000 (by omega) (λy hy b' hb'=>bN.of (zcF x b' y (hr.each y hy) hb') call590 rfl rfl) (λy hy=>GI (hr.each y hy)) (by simp;omega) (by omega)) ?_;simp;refine dr ?_;exact aA (by simp[jJ])
theorem zcE (x:UInt8)(b:List UInt8)(r:aC)(hs:cQ r=0)(hb:b.length<=187000):C0 494 [aB ((x::b).map aV),st (aF r)] (aB ((x::b++fD r).map aV)):=by
 refine Ct.B func494 ?_;simp;have I:=uY hs;have n1:=cO r.kind;have n2:=mG I.name;have n3:=cO r.bR;have n4:=cO r.port;have i1:=I.name;have i2:=I.rules;have i3:=I.bH;have i4:=I.to;refine CI.p (Fs r) ?_ (ha:=by simp[hs]);simp[hs];refine CI.p (o6 x b r.kind (by omega)) ?_;simp;refine CI.p (EN x (b++aL r.kind) r.name (by simp;omega) (by omega)) ?_;simp;refine CI.p (o6 x (b++aL r.kind++cY r.name) r.bR (by simp;omega)) ?_;simp;refine dr ?_;have hc:(b++aL r.kind++cY r.name++aL r.bR).length<=187100:=by simp;omega
 rcases(show r.kind=0\/r.kind=1\/r.kind=2\/r.kind=3 from by have:=I.k0;have:=I.k3;omega)with h|h|h|h
 all_goals rw[h]at hc
 ·simp[h];refine CI.p (o6 x (b++aL 0++cY r.name++aL r.bR) r.port (by omega)) ?_;simp;refine CI.p (EN x (b++aL 0++cY r.name++aL r.bR++aL r.port) r.to (by simp at hc⊢;omega) (by omega)) ?_;simp;refine dr ?_;exact aA (by simp[fD,jQ,h])
 ·simp[h];refine CI.p (zij x (b++aL 1++cY r.name++aL r.bR) r.rules (dE 555) jJ 183 189000 (by omega) (λy hy b' hb'=>bN.of (zcG x b' y (I.rule y hy) hb') call555 rfl rfl) (λy hy=>KM (I.rule y hy)) (by omega) (by omega)) ?_;simp;exact aA (by simp[fD,jQ,h])
 ·simp[h];refine CI.p (EN x (b++aL 2++cY r.name++aL r.bR) r.to (by omega) (by omega)) ?_;simp;exact aA (by simp[fD,jQ,h])
 ·simp[h];refine CI.p (zim x (b++aL 3++cY r.name++aL r.bR) r.bH (dE 393) aL 5 200000 (by omega) (λy hy b' hb'=>bN.of (o6 x b' y (by omega)) call393 rfl rfl) (λy hy=>cO y) (by omega) (by omega)) ?_;simp;exact aA (by simp[fD,jQ,h])
theorem V2 (x:UInt8)(b:List UInt8)(l:List Key)(hk:∀k∈l,eN k=true)(hl:l.length<=64)(hb:b.length<=190000):C0 395 [aB ((x::b).map aV),aB (l.map aQ)] (aB ((x::b++bK l dK).map aV)):=by
 refine Ct.B func395 ?_;simp;have e:(l.filter eN).take 64=l:=by rw[JS.2 hk,JK hl]
 have hc:=zhJ l 259 eN (λy _=>bN.of (YQ y) call259 rfl rfl) (by omega);rw[e]at hc;refine CI.p hc ?_;simp;refine CI.p (zil x b l (dE 394) dK 22 200000 (by omega) (λy hy b' hb'=>bN.of (Gr x b' y (hk y hy) hb') call394 rfl rfl) (λy hy=>uE (hk y hy)) (by omega) (by omega)) ?_;simp;exact aA
theorem zcM (x:UInt8)(b:List UInt8)(l:List aC)(hk:∀r∈l,cQ r=0)(hl:l.length<=64)(hb:b.length<=90000):C0 396 [aB ((x::b).map aV),aB (l.map aF)] (aB ((x::b++bK l fD).map aV)):=by
 refine Ct.B func396 ?_;simp;have e:(l.filter λr=>decide (cQ r=0)).take 64=l:=by rw[JS.2 (λr hr=>oC (hk r hr)),JK hl]
 have hd:=zhG l 493 (λr=>decide (cQ r=0)) (λy _=>bN.of (Fs y) call493 rfl rfl) (by omega);rw[e]at hd;refine CI.p hd ?_;simp;refine CI.p (zik x b l (dE 494) fD 1496 187000 (by omega) (λy hy b' hb'=>bN.of (zcE x b' y (hk y hy) hb') call494 rfl rfl) (λy hy=>A9 (uY (hk y hy))) (by omega) (by omega)) ?_;simp;exact aA
attribute [simp] ntmps257 results257 ntmps187 results187 ntmps256 results256 ntmps346 results346 ntmps186 results186 ntmps255 results255 ntmps345 results345 ntmps254 results254 ntmps253 results253 ntmps185 results185 ntmps184 results184 ntmps118 results118 ntmps119 results119
theorem LO (q:List UInt8):C1 257 [.ptr 0 0,int 0] [] [(0,.cells [aB ((q).map aV),int 0] 190)] (bool false) [(0,.cells [aB ((q).map aV),int 0] 190)]:=by
 refine Ct.B func257 ?_;simp;exact⟨[],by constructor<;>simp[aI,aJ]⟩
theorem Cq (k_:Key)(t:List UInt8)(hk:eN k_=true)(ht:t.length<=900000):C1 187 [.ptr 0 0] [] [(0,.cells [aB ((dK k_++t).map aV),int 0] 190)] (st (aQ k_)) [(0,.cells [aB ((t).map aV),int 0] 190)]:=by
 refine Ct.B func187 ?_;simp;obtain⟨h1,h2,h3⟩:=ID hk;have n1:=mG h3;refine CI.cc [0] (nE k_.kind 3 (cY k_.name++t) h1 (eC h2 (by omega) (by omega)) (by simp;omega)) ?_ (ha:=by simp[dK]) (hk:=by simp[dK]);simp[dK];refine CI.cc [0] (E5 k_.name 12 t (eC (by omega) (by omega) (by omega)) (by omega)) ?_;simp;refine CI.p (YQ k_) ?_ (ha:=by simp[hk]);simp[hk];refine CI.cc [0] (LO t) ?_;simp;exact⟨[],by constructor<;>simp[aI,aJ]⟩
theorem Wz (n:Int)(t:List UInt8)(h0:0<=n)(h1:n<=2147483647)(ht:t.length<=900000):C1 256 [.ptr 0 0] [] [(0,.cells [aB ((aL n++t).map aV),int 0] 190)] (int n) [(0,.cells [aB ((t).map aV),int 0] 190)]:=by
 refine Ct.B func256 ?_;simp;refine CI.cc [0] (nE n 2147483647 t h0 (eC h1 (by omega) (by omega)) (by omega)) ?_;simp;exact⟨[],by constructor<;>simp[aI,aJ]⟩
theorem Ww (w:Weight)(t:List UInt8)(hw:TA w)(ht:t.length<=900000):C1 346 [.ptr 0 0] [] [(0,.cells [aB ((jA w++t).map aV),int 0] 190)] (st (wC w)) [(0,.cells [aB ((t).map aV),int 0] 190)]:=by
 refine Ct.B func346 ?_;simp;have h1:=hw.c;have h2:=cO w.w;refine CI.cc [0] (E5 w.fT 12 (aL w.w++t) (eC (by omega) (by omega) (by omega)) (by simp;omega)) ?_ (ha:=by simp[jA]) (hk:=by simp[jA]);simp[jA];refine CI.cc [0] (nE w.w 100 t hw.w0 (eC hw.w1 (by omega) (by omega)) (by omega)) ?_;simp;exact⟨[],by constructor<;>simp[aI,aJ]⟩
theorem Zn (l:List Key)(lim:Int)(t:List UInt8)(hf:∀y∈l,∀t':List UInt8,t'.length<=900000->C1 187 [.ptr 0 0] [] [(0,.cells [aB ((dK y++t').map aV),int 0] 190)] (st (aQ y)) [(0,.cells [aB ((t').map aV),int 0] 190)])(hy:∀y∈l,(dK y).length<=22)(h1:l.length<=lim)(hl:l.length<=64)(h2:lim<=1000)(ht:t.length<=700000):C1 186 [.ptr 0 0,int lim,.d (dE 187)] [] [(0,.cells [aB ((bK l dK++t).map aV),int 0] 190)] (aB (l.map aQ)) [(0,.cells [aB ((t).map aV),int 0] 190)]:=by
 refine Ct.B func186 ?_;simp;have hall:=uG l hy;refine CI.cc [0] (nE l.length lim (l.flatMap dK++t) (by omega) (eC h1 (by omega) (by omega)) (by simp only[bZ];omega)) ?_ (ha:=by simp[bK]) (hk:=by simp[bK]);simp[bK];refine aH.gH 7 2 184 rfl ?_;refine aH.V (l) (λk=>[(0,.ptr 0 0),(2,.d (dE 187)),(7,.own 64),(11,int l.length),(12,int k.1)]) (λk=>[(64,.grow 2 ((l.take k.1).map aQ) 184),(0,.cells [aB (((l.drop k.1).flatMap dK++t).map aV),int 0] 190)]) 65 (λk hk1 B hB=>?_);simp;rcases bC hk1 with⟨y,hk,hx,hr,hm,ht,hd,hw,h⟩|rfl
 ·simp[h,hr,hw];have hd2:=xV l (k+1) hy;refine CI.cc [0] (hf y hm ((l.drop (k+1)).flatMap dK++t) (by simp only[bZ];omega)) ?_ (ha:=by simp[hd]) (hk:=by simp[hd]);simp[hd];refine⟨by omega,?_⟩;exact hB hk (by constructor<;>simp[hw,ht])
 ·simp;exact⟨[],by constructor<;>simp[aI,aJ]⟩
theorem Zo (l:List Int)(lim:Int)(t:List UInt8)(hf:∀y∈l,∀t':List UInt8,t'.length<=900000->C1 256 [.ptr 0 0] [] [(0,.cells [aB ((aL y++t').map aV),int 0] 190)] (int y) [(0,.cells [aB ((t').map aV),int 0] 190)])(hy:∀y∈l,(aL y).length<=5)(h1:l.length<=lim)(hl:l.length<=8)(h2:lim<=1000)(ht:t.length<=890000):C1 255 [.ptr 0 0,int lim,.d (dE 256)] [] [(0,.cells [aB ((bK l aL++t).map aV),int 0] 190)] (aB (l.map kP)) [(0,.cells [aB ((t).map aV),int 0] 190)]:=by
 refine Ct.B func255 ?_;simp;have hall:=uG l hy;refine CI.cc [0] (nE l.length lim (l.flatMap aL++t) (by omega) (eC h1 (by omega) (by omega)) (by simp only[bZ];omega)) ?_ (ha:=by simp[bK]) (hk:=by simp[bK]);simp[bK];refine aH.gH 7 1 3 rfl ?_;refine aH.V (l) (λk=>[(0,.ptr 0 0),(2,.d (dE 256)),(7,.own 64),(11,int l.length),(12,int k.1)]) (λk=>[(64,.grow 1 ((l.take k.1).map kP) 3),(0,.cells [aB (((l.drop k.1).flatMap aL++t).map aV),int 0] 190)]) 65 (λk hk1 B hB=>?_);simp;rcases bC hk1 with⟨y,hk,hx,hr,hm,ht,hd,hw,h⟩|rfl
 ·simp[h,hr,hw];have hd2:=xV l (k+1) hy;refine CI.cc [0] (hf y hm ((l.drop (k+1)).flatMap aL++t) (by simp only[bZ];omega)) ?_ (ha:=by simp[hd]) (hk:=by simp[hd]);simp[hd];refine⟨by omega,?_⟩;exact hB hk (by constructor<;>simp[hw,ht])
 ·simp;exact⟨[],by constructor<;>simp[aI,aJ]⟩
theorem Zp (l:List Weight)(lim:Int)(t:List UInt8)(hf:∀y∈l,∀t':List UInt8,t'.length<=900000->C1 346 [.ptr 0 0] [] [(0,.cells [aB ((jA y++t').map aV),int 0] 190)] (st (wC y)) [(0,.cells [aB ((t').map aV),int 0] 190)])(hy:∀y∈l,(jA y).length<=22)(h1:l.length<=lim)(hl:l.length<=4)(h2:lim<=1000)(ht:t.length<=890000):C1 345 [.ptr 0 0,int lim,.d (dE 346)] [] [(0,.cells [aB ((bK l jA++t).map aV),int 0] 190)] (aB (l.map wC)) [(0,.cells [aB ((t).map aV),int 0] 190)]:=by
 refine Ct.B func345 ?_;simp;have hall:=uG l hy;refine CI.cc [0] (nE l.length lim (l.flatMap jA++t) (by omega) (eC h1 (by omega) (by omega)) (by simp only[bZ];omega)) ?_ (ha:=by simp[bK]) (hk:=by simp[bK]);simp[bK];refine aH.gH 7 2 176 rfl ?_;refine aH.V (l) (λk=>[(0,.ptr 0 0),(2,.d (dE 346)),(7,.own 64),(11,int l.length),(12,int k.1)]) (λk=>[(64,.grow 2 ((l.take k.1).map wC) 176),(0,.cells [aB (((l.drop k.1).flatMap jA++t).map aV),int 0] 190)]) 65 (λk hk1 B hB=>?_);simp;rcases bC hk1 with⟨y,hk,hx,hr,hm,ht,hd,hw,h⟩|rfl
 ·simp[h,hr,hw];have hd2:=xV l (k+1) hy;refine CI.cc [0] (hf y hm ((l.drop (k+1)).flatMap jA++t) (by simp only[bZ];omega)) ?_ (ha:=by simp[hd]) (hk:=by simp[hd]);simp[hd];refine⟨by omega,?_⟩;exact hB hk (by constructor<;>simp[hw,ht])
 ·simp;exact⟨[],by constructor<;>simp[aI,aJ]⟩
theorem Wx (r:cH)(t:List UInt8)(hr:I9 r)(ht:t.length<=889000):C1 254 [.ptr 0 0] [] [(0,.cells [aB ((jJ r++t).map aV),int 0] 190)] (st (dJ r)) [(0,.cells [aB ((t).map aV),int 0] 190)]:=by
 refine Ct.B func254 ?_;simp;have h1:=hr.host;have h2:=hr.pre;have n1:=mG h1;have n2:=mG h2;have h3:=hr.split;have n3:=pC (l:=r.split) (lay:=jA) (m:=22) λw hw=>GI (hr.each w hw);refine CI.cc [0] (E5 r.host 40 (cY r.pre++(bK r.split jA++t)) (eC (by omega) (by omega) (by omega)) (by simp only[bZ];omega)) ?_ (ha:=by simp[jJ]) (hk:=by simp[jJ]);simp[jJ];refine CI.cc [0] (E5 r.pre 40 (bK r.split jA++t) (eC (by omega) (by omega) (by omega)) (by simp only[bZ];omega)) ?_;simp;refine CI.cc [0] (Zp r.split 4 t (λy hy t' ht'=>Ww y t' (hr.each y hy) (by omega)) (λy hy=>GI (hr.each y hy)) (by omega) (by omega) (by omega) (by omega)) ?_;simp;exact⟨[],by constructor<;>simp[aI,aJ]⟩
theorem Zl (l:List cH)(lim:Int)(t:List UInt8)(hf:∀y∈l,∀t':List UInt8,t'.length<=889000->C1 254 [.ptr 0 0] [] [(0,.cells [aB ((jJ y++t').map aV),int 0] 190)] (st (dJ y)) [(0,.cells [aB ((t').map aV),int 0] 190)])(hy:∀y∈l,(jJ y).length<=183)(h1:l.length<=lim)(hl:l.length<=8)(h2:lim<=1000)(ht:t.length<=880000):C1 253 [.ptr 0 0,int lim,.d (dE 254)] [] [(0,.cells [aB ((bK l jJ++t).map aV),int 0] 190)] (aB (l.map dJ)) [(0,.cells [aB ((t).map aV),int 0] 190)]:=by
 refine Ct.B func253 ?_;simp;have hall:=uG l hy;refine CI.cc [0] (nE l.length lim (l.flatMap jJ++t) (by omega) (eC h1 (by omega) (by omega)) (by simp only[bZ];omega)) ?_ (ha:=by simp[bK]) (hk:=by simp[bK]);simp[bK];refine aH.gH 7 3 179 rfl ?_;refine aH.V (l) (λk=>[(0,.ptr 0 0),(2,.d (dE 254)),(7,.own 64),(11,int l.length),(12,int k.1)]) (λk=>[(64,.grow 3 ((l.take k.1).map dJ) 179),(0,.cells [aB (((l.drop k.1).flatMap jJ++t).map aV),int 0] 190)]) 65 (λk hk1 B hB=>?_);simp;rcases bC hk1 with⟨y,hk,hx,hr,hm,ht,hd,hw,h⟩|rfl
 ·simp[h,hr,hw];have hd2:=xV l (k+1) hy;refine CI.cc [0] (hf y hm ((l.drop (k+1)).flatMap jJ++t) (by simp only[bZ];omega)) ?_ (ha:=by simp[hd]) (hk:=by simp[hd]);simp[hd];refine⟨by omega,?_⟩;exact hB hk (by constructor<;>simp[hw,ht])
 ·simp;exact⟨[],by constructor<;>simp[aI,aJ]⟩
theorem Wu (r:aC)(t:List UInt8)(hs:cQ r=0)(ht:t.length<=870000):C1 185 [.ptr 0 0] [] [(0,.cells [aB ((fD r++t).map aV),int 0] 190)] (st (aF r)) [(0,.cells [aB ((t).map aV),int 0] 190)]:=by
 refine Ct.B func185 ?_;simp;have I:=uY hs;have n2:=mG I.name;have n3:=cO r.bR;have n4:=UP I;have i1:=I.name;refine CI.cc [0] (nE r.kind 3 (cY r.name++(aL r.bR++(jQ r++t))) I.k0 (eC I.k3 (by omega) (by omega)) (by simp only[bZ];omega)) ?_ (ha:=by simp[fD]) (hk:=by simp[fD]);simp[fD];refine CI.cc [0] (E5 r.name 12 (aL r.bR++(jQ r++t)) (eC (by omega) (by omega) (by omega)) (by simp only[bZ];omega)) ?_;simp;refine CI.cc [0] (nE r.bR 2147483647 (jQ r++t) I.v0 (eC I.v1 (by omega) (by omega)) (by simp only[bZ];omega)) ?_;simp;rcases(show r.kind=0\/r.kind=1\/r.kind=2\/r.kind=3 from by have:=I.k0;have:=I.k3;omega)with h|h|h|h
 ·have e1:=I.iF (by omega);have e2:=I.HY (by omega);have n5:=mG I.to;have i4:=I.to;have e3:jQ r=aL r.port++cY r.to:=by simp[jQ,h]
  simp[h,e3];refine CI.cc [0] (nE r.port 65535 (cY r.to++t) I.p0 (eC I.p1 (by omega) (by omega)) (by simp only[bZ];omega)) ?_;simp;refine CI.cc [0] (E5 r.to 12 t (eC (by omega) (by omega) (by omega)) (by omega)) ?_;simp;have hs4:=CZ r;rw[hs]at hs4;simp only[aF,e1,e2,h]at hs4;refine CI.p hs4 ?_;simp;refine CI.cc [0] (LO t) ?_;simp;exact⟨[],by constructor<;>simp[aI,aJ,h,e1,e2]⟩
 ·have e1:=I.HX (by omega);have e2:=I.PU (by omega) (by omega);have e4:=I.HY (by omega);have e3:jQ r=bK r.rules jJ:=by simp[jQ,h]
  simp[h,e3];refine CI.cc [0] (Zl r.rules 8 t (λy hy t' ht'=>Wx y t' (I.rule y hy) (by omega)) (λy hy=>KM (I.rule y hy)) (by have:=I.rules;omega) I.rules (by omega) (by omega)) ?_;simp;have hs4:=CZ r;rw[hs]at hs4;simp only[aF,e1,e2,e4,h]at hs4;refine CI.p hs4 ?_;simp;refine CI.cc [0] (LO t) ?_;simp;exact⟨[],by constructor<;>simp[aI,aJ,h,e1,e2,e4]⟩
 ·have e1:=I.iF (by omega);have e2:=I.HY (by omega);have e4:=I.HX (by omega);have i4:=I.to;have e3:jQ r=cY r.to:=by simp[jQ,h]
  simp[h,e3];refine CI.cc [0] (E5 r.to 12 t (eC (by omega) (by omega) (by omega)) (by omega)) ?_;simp;have hs4:=CZ r;rw[hs]at hs4;simp only[aF,e1,e2,e4,h]at hs4;refine CI.p hs4 ?_;simp;refine CI.cc [0] (LO t) ?_;simp;exact⟨[],by constructor<;>simp[aI,aJ,h,e1,e2,e4]⟩
 ·have e1:=I.HX (by omega);have e2:=I.PU (by omega) (by omega);have e4:=I.iF (by omega);have e3:jQ r=bK r.bH aL:=by simp[jQ,h]
  simp[h,e3];refine CI.cc [0] (Zo r.bH 8 t (λy hy t' ht'=>Wz y t' (I.host y hy).1 (I.host y hy).2 (by omega)) (λy hy=>cO y) (by have:=I.bH;omega) I.bH (by omega) (by omega)) ?_;simp;have hs4:=CZ r;rw[hs]at hs4;simp only[aF,e1,e2,e4,h]at hs4;refine CI.p hs4 ?_;simp;refine CI.cc [0] (LO t) ?_;simp;exact⟨[],by constructor<;>simp[aI,aJ,h,e1,e2,e4]⟩
theorem Zm (l:List aC)(lim:Int)(t:List UInt8)(hf:∀y∈l,∀t':List UInt8,t'.length<=870000->C1 185 [.ptr 0 0] [] [(0,.cells [aB ((fD y++t').map aV),int 0] 190)] (st (aF y)) [(0,.cells [aB ((t').map aV),int 0] 190)])(hy:∀y∈l,(fD y).length<=1496)(h1:l.length<=lim)(hl:l.length<=64)(h2:lim<=1000)(ht:t.length<=700000):C1 184 [.ptr 0 0,int lim,.d (dE 185)] [] [(0,.cells [aB ((bK l fD++t).map aV),int 0] 190)] (aB (l.map aF)) [(0,.cells [aB ((t).map aV),int 0] 190)]:=by
 refine Ct.B func184 ?_;simp;have hall:=uG l hy;refine CI.cc [0] (nE l.length lim (l.flatMap fD++t) (by omega) (eC h1 (by omega) (by omega)) (by simp only[bZ];omega)) ?_ (ha:=by simp[bK]) (hk:=by simp[bK]);simp[bK];refine aH.gH 7 7 174 rfl ?_;refine aH.V (l) (λk=>[(0,.ptr 0 0),(2,.d (dE 185)),(7,.own 64),(11,int l.length),(12,int k.1)]) (λk=>[(64,.grow 7 ((l.take k.1).map aF) 174),(0,.cells [aB (((l.drop k.1).flatMap fD++t).map aV),int 0] 190)]) 65 (λk hk1 B hB=>?_);simp;rcases bC hk1 with⟨y,hk,hx,hr,hm,ht,hd,hw,h⟩|rfl
 ·simp[h,hr,hw];have hd2:=xV l (k+1) hy;refine CI.cc [0] (hf y hm ((l.drop (k+1)).flatMap fD++t) (by simp only[bZ];omega)) ?_ (ha:=by simp[hd]) (hk:=by simp[hd]);simp[hd];refine⟨by omega,?_⟩;exact hB hk (by constructor<;>simp[hw,ht])
 ·simp;exact⟨[],by constructor<;>simp[aI,aJ]⟩
theorem Xb (l:List aC)(t:List UInt8)(hs:∀r∈l,cQ r=0)(hl:l.length<=64)(ht:t.length<=700000):C1 118 [.ptr 0 0] [] [(0,.cells [aB ((bK l fD++t).map aV),int 0] 190)] (aB (l.map aF)) [(0,.cells [aB ((t).map aV),int 0] 190)]:=by
 refine Ct.B func118 ?_;simp;refine CI.cc [0] (Zm l 64 t (λy hy t' ht'=>Wu y t' (hs y hy) (by omega)) (λy hy=>A9 (uY (hs y hy))) (by omega) hl (by omega) (by omega)) ?_;simp;exact⟨[],by constructor<;>simp[aI,aJ]⟩
theorem UO (l:List Key)(t:List UInt8)(hs:∀k∈l,eN k=true)(hl:l.length<=64)(ht:t.length<=700000):C1 119 [.ptr 0 0] [] [(0,.cells [aB ((bK l dK++t).map aV),int 0] 190)] (aB (l.map aQ)) [(0,.cells [aB ((t).map aV),int 0] 190)]:=by
 refine Ct.B func119 ?_;simp;refine CI.cc [0] (Zn l 64 t (λy hy t' ht'=>Cq y t' (hs y hy) (by omega)) (λy hy=>uE (hs y hy)) (by omega) hl (by omega) (by omega)) ?_;simp;exact⟨[],by constructor<;>simp[aI,aJ]⟩
attribute [simp] ntmps309 results309 ntmps312 results312 ntmps227 results227 ntmps310 results310 ntmps226 results226
theorem zcJ (f:G.Frame)(hf:fJ f)(he:¬dD f=0):C0 309 [st (cA f)] (.aU [BI,int (dD f)]):=by
 refine Ct.B func309 ?_;simp;refine CI.p (FM f hf) ?_ (ha:=by simp[he]);simp[he];exact aA
set_option maxHeartbeats 1000000 in
theorem zcD (f:G.Frame)(he:dD f=0):C0 309 [st (cA f)] (.aU [aB ((j3 f).map aV),int 0]):=by
 refine Ct.B func309 ?_;simp;have F:=LJ (j9.1 he);have lk:=pC (l:=f.gone) (lay:=dK) (m:=22) λk hk=>uE (F.gone k hk);have la:=pC (l:=f.aD) (lay:=fD) (m:=1496) λr hr=>A9 (uY (F.aD r hr));have l1:=F.la;have l2:=F.lg;have l3:=F.lh;have l4:=F.ld;have n1:=cO f.aM;have n2:=cO f.kind;have n3:=cO f.cN;have n4:=cO f.err;have n5:=cO f.turn;have n6:=cO f.aP.length;have hy:∀m∈f.aP,(jE m).length<=27:=λm hm=>E9 (F.aP m hm).1;obtain⟨x,e0⟩:∃x,aL f.type=[x]:=⟨_,zeH (by rcases F.ty with h|h|h|h<;>omega) (by rcases F.ty with h|h|h|h<;>omega)⟩;refine CI.p (FM f (xJ he)) ?_ (ha:=by simp[he]);simp[he];refine CI.p (zeG f.type) ?_ (ha:=by simp[e0]);simp[e0];refine CI.p (o6 x [] f.aM (by simp)) ?_;simp;refine dr ?_;rcases F.ty with g0|g0|g0|g0
 all_goals rw[g0]at e0
 ·simp[g0];refine CI.p (o6 x (aL f.aM) f.aP.length (by omega)) ?_;simp;refine aH.V (f.aP) (λk=>[(5,aB ((x::(aL f.aM++aL f.aP.length++(f.aP.take k.1).flatMap jE)).map aV)),(36,aB (f.aP.map jD)),(37,int f.aP.length),(38,int k.1)]) (λk=>[]) 65 (λk hk1 B hB=>?_);simp;rcases bC hk1 with⟨m,hk,hx,hr,hm,ht,hd,hw,h⟩|rfl
  ·simp[h,hr,hw];have hk2:=FN f.aP k hy;have F1:=F.aP m hm;have n7:=uE F1.1;refine CI.p (Gr x (aL f.aM++aL f.aP.length++(f.aP.take k).flatMap jE) m.k F1.1 (by simp only[bZ];omega)) ?_;simp;refine CI.p (o6 x (aL f.aM++aL f.aP.length++(f.aP.take k).flatMap jE++dK m.k) m.bR (by simp only[bZ];omega)) ?_;simp;refine dr ?_;exact hB hk (by constructor<;>simp[hw,ht,jE])
  ·simp;exact aA (by simp[j3,kB,g0,e0,bK])
 ·simp[g0];refine CI.p (o6 x (aL f.aM) f.kind (by omega)) ?_;simp;refine CI.p (o6 x (aL f.aM++aL f.kind) f.cN (by simp;omega)) ?_;simp;refine dr ?_;refine CI.p (zcM x (aL f.aM++aL f.kind++aL f.cN) f.aD F.aD l1 (by simp;omega)) ?_;simp;refine CI.p (V2 x (aL f.aM++aL f.kind++aL f.cN++bK f.aD fD) f.gone F.gone l2 (by simp only[bZ];omega)) ?_;simp;refine dr ?_;exact aA (by simp[j3,kB,g0,e0])
 ·simp[g0];refine CI.p (o6 x (aL f.aM) f.kind (by omega)) ?_;simp;refine CI.p (o6 x (aL f.aM++aL f.kind) f.cN (by simp;omega)) ?_;simp;refine CI.p (o6 x (aL f.aM++aL f.kind++aL f.cN) f.err (by simp;omega)) ?_;simp;refine dr ?_;refine CI.p (o6 x (aL f.aM++aL f.kind++aL f.cN++aL f.err) f.turn (by simp;omega)) ?_;simp;refine CI.p (V2 x (aL f.aM++aL f.kind++aL f.cN++aL f.err++aL f.turn) f.held F.held l4 (by simp only[bZ];omega)) ?_;simp;refine dr ?_;exact aA (by simp[j3,kB,g0,e0])
 ·simp[g0];refine CI.p (o6 x (aL f.aM) f.turn (by omega)) ?_;simp;refine CI.p (V2 x (aL f.aM++aL f.turn) f.held F.held l4 (by simp only[bZ];omega)) ?_;simp;refine dr ?_;exact aA (by simp[j3,kB,g0,e0])
theorem zg1 (l:List G.Mark)(t:List UInt8)(hs:∀m∈l,eN m.k=true/\0<=m.bR/\m.bR<=2147483647)(hl:l.length<=64)(ht:t.length<=700000):C1 312 [.ptr 0 0] [] [(0,.cells [aB ((bK l jE++t).map aV),int 0] 190)] (aB (l.map jD)) [(0,.cells [aB (t.map aV),int 0] 190)]:=by
 refine Ct.B func312 ?_;simp;have hy:∀m∈l,(jE m).length<=27:=λm hm=>E9 (hs m hm).1;have hall:=uG l hy;refine CI.cc [0] (nE l.length 64 (l.flatMap jE++t) (by omega) (eC (by omega) (by omega) (by omega)) (by simp only[bZ];omega)) ?_ (ha:=by simp[bK]) (hk:=by simp[bK]);simp[bK];refine aH.gH 3 3 352 rfl ?_;refine aH.V (l) (λk=>[(0,.ptr 0 0),(3,.own 64),(6,int l.length),(7,int k.1)]) (λk=>[(64,.grow 3 ((l.take k.1).map jD) 352),(0,.cells [aB (((l.drop k.1).flatMap jE++t).map aV),int 0] 190)]) 65 (λk hk1 B hB=>?_);simp;rcases bC hk1 with⟨m,hk,hx,hr,hm,ht,hd,hw,h⟩|rfl
 ·simp[h,hr,hw];have hd2:=xV l (k+1) hy;obtain⟨q1,q2,q3⟩:=hs m hm;have n1:=cO m.bR;refine CI.cc [0] (Cq m.k (aL m.bR++((l.drop (k+1)).flatMap jE++t)) q1 (by simp only[bZ];omega)) ?_ (ha:=by simp[hd,jE]) (hk:=by simp[hd,jE]);simp[hd,jE];refine CI.cc [0] (nE m.bR 2147483647 ((l.drop (k+1)).flatMap jE++t) q2 (eC q3 (by omega) (by omega)) (by simp only[bZ];omega)) ?_;simp;refine⟨by omega,?_⟩;exact hB hk (by constructor<;>simp[hw,ht])
 ·simp;exact⟨[],by constructor<;>simp[aI,aJ]⟩
set_option maxHeartbeats 1000000 in
theorem zhq (f:G.Frame)(he:dD f=0):C0 227 [aB ((j3 f).map aV)] (.aU [st (cA f),int 0]):=by
 refine Ct.B func227 ?_;simp;have F:=LJ (j9.1 he);have lk:=pC (l:=f.gone) (lay:=dK) (m:=22) λk hk=>uE (F.gone k hk);have ld:=pC (l:=f.held) (lay:=dK) (m:=22) λk hk=>uE (F.held k hk);have la:=pC (l:=f.aD) (lay:=fD) (m:=1496) λr hr=>A9 (uY (F.aD r hr));have lh:=pC (l:=f.aP) (lay:=jE) (m:=27) λm hm=>E9 (F.aP m hm).1;have l1:=F.la;have l2:=F.lg;have l3:=F.lh;have l4:=F.ld;have n1:=cO f.aM;have n2:=cO f.kind;have n3:=cO f.cN;have n4:=cO f.err;have n5:=cO f.turn;have hb:=BA (j9.1 he);have hbl:(kB f).length<=99000:=by simp only[j3,bZ]at hb;omega
 refine CI.cc [320] (nE f.type 3 (aL f.aM++kB f) (by rcases F.ty with h|h|h|h<;>omega) (eC (by rcases F.ty with h|h|h|h<;>omega) (by omega) (by omega)) (by simp only[bZ];omega)) ?_ (ha:=by simp[j3]) (hk:=by simp[j3]);simp[j3];refine CI.cc [320] (nE f.aM 2147483647 (kB f) F.e0 (eC F.e1 (by omega) (by omega)) (by omega)) ?_;simp;have hf4:=FM f (xJ he);rw[he]at hf4;rcases F.ty with g0|g0|g0|g0
 ·obtain⟨a1,a2,a3,a4,a5,a6,a7⟩:=F.s0 g0;have e1:kB f=bK f.aP jE++[]:=by simp[kB,g0]
  simp[g0,e1];refine CI.cc [320] (zg1 f.aP [] F.aP l3 (by simp)) ?_;simp;simp only[cA,g0,a1,a2,a3,a4,a5,a6,a7]at hf4;refine CI.cc [320] O6 ?_;simp;refine CI.p hf4 ?_;simp;exact aA (by simp[g0,a1,a2,a3,a4,a5,a6,a7])
 ·obtain⟨a1,a2,a3,a4⟩:=F.s1 g0;have e1:kB f=aL f.kind++(aL f.cN++(bK f.aD fD++(bK f.gone dK++[]))):=by simp[kB,g0]
  simp[g0,e1];refine CI.cc [320] (nE f.kind 3 (aL f.cN++(bK f.aD fD++(bK f.gone dK++[]))) F.k0 (eC F.k3 (by omega) (by omega)) (by simp only[bZ,gZ];omega)) ?_;simp;refine CI.cc [320] (nE f.cN 2147483647 (bK f.aD fD++(bK f.gone dK++[])) F.n0 (eC F.n1 (by omega) (by omega)) (by simp only[bZ,gZ];omega)) ?_;simp;refine CI.cc [320] (Xb f.aD (bK f.gone dK++[]) F.aD l1 (by simp only[bZ,gZ];omega)) ?_;simp;refine CI.cc [320] (UO f.gone [] F.gone l2 (by simp)) ?_;simp;simp only[cA,g0,a1,a2,a3,a4]at hf4;refine CI.cc [320] O6 ?_;simp;refine CI.p hf4 ?_;simp;exact aA (by simp[g0,a1,a2,a3,a4])
 ·obtain⟨a1,a2,a3⟩:=F.s2 g0;have e1:kB f=aL f.kind++(aL f.cN++(aL f.err++(aL f.turn++(bK f.held dK++[])))):=by simp[kB,g0]
  simp[g0,e1];refine CI.cc [320] (nE f.kind 3 (aL f.cN++(aL f.err++(aL f.turn++(bK f.held dK++[])))) F.k0 (eC F.k3 (by omega) (by omega)) (by simp only[bZ,gZ];omega)) ?_;simp;refine CI.cc [320] (nE f.cN 2147483647 (aL f.err++(aL f.turn++(bK f.held dK++[]))) F.n0 (eC F.n1 (by omega) (by omega)) (by simp only[bZ,gZ];omega)) ?_;simp;refine CI.cc [320] (nE f.err 15 (aL f.turn++(bK f.held dK++[])) F.r0 (eC F.r1 (by omega) (by omega)) (by simp only[bZ,gZ];omega)) ?_;simp;refine CI.cc [320] (nE f.turn 2147483647 (bK f.held dK++[]) F.t0 (eC F.t1 (by omega) (by omega)) (by simp only[bZ,gZ];omega)) ?_;simp;refine CI.cc [320] (UO f.held [] F.held l4 (by simp)) ?_;simp;simp only[cA,g0,a1,a2,a3]at hf4;refine CI.cc [320] O6 ?_;simp;refine CI.p hf4 ?_;simp;exact aA (by simp[g0,a1,a2,a3])
 ·obtain⟨a1,a2,a3,a4,a5,a6⟩:=F.s3 g0;have e1:kB f=aL f.turn++(bK f.held dK++[]):=by simp[kB,g0]
  simp[g0,e1];refine CI.cc [320] (nE f.turn 2147483647 (bK f.held dK++[]) F.t0 (eC F.t1 (by omega) (by omega)) (by simp only[bZ,gZ];omega)) ?_;simp;refine CI.cc [320] (UO f.held [] F.held l4 (by simp)) ?_;simp;simp only[cA,g0,a1,a2,a3,a4,a5,a6]at hf4;refine CI.cc [320] O6 ?_;simp;refine CI.p hf4 ?_;simp;exact aA (by simp[g0,a1,a2,a3,a4,a5,a6])
theorem Tw (l:List UInt8)(hl:l.length<=100000):C0 310 [aB (l.map aV)] (.aU [aB ((oF l).map aV),int 0]):=by
 refine Ct.B func310 ?_;simp;have n1:=cO l.length;refine aX (λh1 zz=>?_) (λh1 zz=>?_)<;>simp only[zz]<;>simp
 ·omega
 refine CI.cc [] (Kb l.length) ?_;simp;refine⟨by omega,?_⟩;exact aA (by simp[oF])
theorem zeT (x:UInt8)(p:List UInt8)(hl:(x::p).length<=100000):C0 226 [aB ((oF (x::p)).map aV)] (.aU [aB ((x::p).map aV),int (oF (x::p)).length,int 0]):=by
 refine Ct.B func226 ?_;simp;have n1:=cO ((x::p).length:Int);refine CI.cc [384] (nE (x::p).length 100000 (x::p) (by omega) (eC (by omega) (by omega) (by omega)) (by omega)) ?_ (ha:=by simp[oF]) (hk:=by simp[oF]);simp[oF];refine⟨by omega,?_⟩;refine CI.cc [] (ZK x p (by simp at hl;omega)) ?_;simp;refine dr ?_;rw[show((x::p).length:Int)=p.length+1 by simp]at n1;have hp:p.length+1<=100000:=hl;have w1:IntKind.wrap .i64 ((aL ((p.length:Int)+1)).length:Int)=(aL ((p.length:Int)+1)).length:=wz _;have w2:IntKind.wrap .i64 (((aL ((p.length:Int)+1)).length:Int)+(p.length+1))=(aL ((p.length:Int)+1)).length+(p.length+1):=wz _;exact aA (by simp[w1,w2])
attribute [simp] ntmps236 results236 ntmps166 results166 ntmps168 results168 ntmps167 results167 ntmps311 results311 ntmps225 results225 ntmps161 results161 ntmps104 results104 ntmps105 results105 ntmps106 results106 ntmps238 results238
theorem zjd (x:UInt8)(l:List UInt8)(hl:l.length<=1000000):C0 237 [aB ((x::l).map aV)] (aB ((x::l).map aV)):=(ZK x l hl).data
theorem zbf (l:eS)(hl:l.q.length<=1000000):C0 236 [st (iJ l)] (bool (uX l)):=by
 refine Ct.B func236 ?_;simp;rw[Fb]
 repeat' first
  | (refine bM (λh=>?_) (λh=>?_)<;>simp only[h]<;>simp[h])
  | (refine bQ (λh=>?_) (λh=>?_)<;>simp only[h]<;>simp[h])
  | (refine⟨(show jG _ _ from by decide+kernel),?_⟩)
  |fail
 all_goals exact aA (by simp[*])
theorem OD (l:eS)(hl:l.q.length<=1000000):C0 166 [st (iJ l)] (st (iJ (gD l))):=by
 refine Ct.B func166 ?_;simp;refine CI.p (zbf l hl) ?_;simp;cases hs:uX l with
 |false=>
  have e:=Ez hs;simp[hs];exact aA (by simp[e])
 |true=>
  have e:=VM hs;simp[hs];exact aA (by simp[e])
theorem VC (l:eS)(x:UInt8)(b:List UInt8)(h:tK l)(hb:(x::b).length<=200000):C0 168 [st (iJ l),aB ((x::b).map aV)] (.aU [st (iJ (qB l (x::b)).1),int (qB l (x::b)).2]):=by
 refine Ct.B func168 ?_;simp;refine CI.p (OD l h.len) ?_;simp;simp only[qB];have h32:=ER l;generalize gD l=q at*;refine aX (λh1 zz=>?_) (λh1 zz=>?_)<;>simp only[zz]<;>simp
 ·have e:ET q (x::b)=(q,8):=KK (by omega);exact aA (by simp[e])
 ·have e:ET q (x::b)=(⟨q.aM,q.q++[x::b]⟩,0):=GX (by omega);refine CI.p (zjd x b (by simp at hb;omega)) ?_;simp;refine⟨by omega,?_⟩;refine dr ?_;exact aA (by simp[e])
theorem Ht (l:eS)(i:Int)(hl:l.q.length<=1000000)(hq:l.q≠[]):C0 167 [st (iJ l),int i] (.aU [int (mR l i),bool true]):=by
 refine Ct.B func167 ?_;simp;have e:=Hx i hq;have hz:¬(l.q.length:Int)=0:=by have:=vS.2 hq;omega
 simp[hq];exact aA (by simp[e])
theorem Hw (e i:Int):C0 167 [st [iD e,lD []],int i] (.aU [int 0,bool false]):=by
 refine Ct.B func167 ?_;simp;exact aA
theorem zhf (n:Int)(h0:0<n)(h1:n<=2000000):C1 311 [BI,int n] [] [] (.sl 64 1 0 0) [(64,.grow 1 (List.replicate n.toNat [.v (.slice none 0 0)]) 24)]:=by
 refine Ct.B func311 ?_;simp;have g1:¬n<0:=by omega
 have g2:=wz (n);simp[g1,g2,h0];refine⟨⟨by omega,by omega⟩,by omega,?_⟩;exact⟨[(64,1216)],by constructor<;>simp[aI,aJ]⟩
theorem zhe :C0 311 [BI,int 0] (BI):=by
 refine Ct.B func311 ?_;simp;exact aA
theorem ziX (a b:List (List UInt8))(h1:a.length+b.length<=2000000):C1 225 [.own 0] [(0,.grow 1 [[.ro true (a.map CT)],[lD (b.map CT)]] 113)] [] (aB ((a++b).map CT)) []:=by
 refine Ct.B func225 ?_;simp;have w1:IntKind.wrap .i64 (a.length:Int)=a.length:=wz _;have w2:IntKind.wrap .i64 ((a.length:Int)+b.length)=a.length+b.length:=wz _;have v1:¬((a.length:Int)<0):=by omega
 have v2:¬((a.length:Int)+b.length<0):=by omega
 refine aH.un ?_;simp[w1,v1];refine aH.un ?_;simp[w2,v2];refine aH.un ?_;simp;by_cases h0:a.length+b.length=0
 ·have ha:a=[]:=kH (by omega);have hb:b=[]:=kH (by omega);subst ha;subst hb;refine CI.p zhe ?_;simp;refine aH.un ?_;simp;refine aH.un ?_;simp;refine aH.un ?_;simp;exact⟨[],by constructor<;>simp[aI,aJ]⟩
 ·refine CI.cc [] (zhf ((a.length:Int)+b.length) (by omega) (by omega)) ?_;simp;refine aH.un ?_;simp;refine⟨by omega,?_⟩;refine aH.un ?_;simp;refine⟨by omega,?_⟩;refine aH.un ?_;simp;exact⟨[],by constructor<;>simp[aI,aJ]⟩
theorem UM (l:eS)(i:Int)(h:tK l):C0 161 [st (iJ l),int i] (.aU [st (iJ (rT l i).1),aB ((rT l i).2.1.map aV),int (rT l i).2.2]):=by
 refine Ct.B func161 ?_;simp;refine CI.p (OD l h.len) ?_;simp;simp only[rT];have h32:=ER l;have h':=h.sound;generalize gD l=q at*;by_cases hq:q.q=[]
 ·obtain⟨e,q⟩:=q;simp only at hq;subst hq;refine CI.p (Hw e i) ?_;simp;have e1:= @NQ e i;exact aA (by simp[e1])
 ·have e1:=J5 (i:=i) hq;have e2:=E6 i hq;refine CI.p (Ht q i (by omega) hq) ?_;simp;generalize mR q i=k at*;have w1:IntKind.wrap .i64 ((k:Int)+1)=k+1:=wz _;have w2:((k:Int)+1).toNat=k+1:=by omega
  simp[e2,w1,w2];refine⟨by omega,?_⟩;refine⟨⟨by omega,by omega⟩,?_⟩;have e3:q.q[k]?.getD []=q.q[k]:=by simp[e2]
  refine CI.cc [2176] (ziX (q.q.take k) (q.q.drop (k+1)) (by simp;omega)) ?_;simp;refine dr ?_;exact aA (by simp[e1,e3])
theorem zir (l:eS)(i:Int)(h:tK l):C0 104 [st (iJ l),int i] (.aU [st (iJ (DV l i).1),int (DV l i).2]):=by
 refine Ct.B func104 ?_;simp;refine CI.p (UM l i h) ?_;simp;exact aA (by simp[DV])
theorem zk6 (l:eS)(i:Int)(h:tK l):C0 105 [st (iJ l),int i] (.aU [st (iJ (D5 l i).1),int (D5 l i).2]):=by
 refine Ct.B func105 ?_;simp;refine CI.p (OD l h.len) ?_;simp;have h32:=ER l;have h':=h.sound;unfold D5;generalize gD l=q at*;by_cases hq:q.q=[]
 ·obtain⟨e,q⟩:=q;simp only at hq;subst hq;refine CI.p (Hw e i) ?_;simp;exact aA
 ·have e2:=E6 i hq;refine CI.p (Ht q i (by omega) hq) ?_;simp;generalize mR q i=k at*;obtain⟨g1,g2⟩:=h'.getD e2;have e3:q.q.getD k []=q.q[k]:=by simp[e2]
  rw[e3]at g1 g2;simp only[e3,aT hq];simp[e2];generalize q.q[k]=b at*;cases b with
  |nil=>exact absurd rfl g1
  |cons x b=>
   refine CI.p (VC q x b h' g2) ?_;simp;exact aK
theorem zf3 (l:eS)(i:Int)(h:tK l):C0 106 [st (iJ l),int i] (.aU [st (iJ (DM l i).1),int (DM l i).2]):=by
 refine Ct.B func106 ?_;simp;refine CI.p (UM l i h) ?_;simp;unfold DM rT;have h':=h.sound;generalize gD l=q at*;by_cases hq:q.q=[]
 ·obtain⟨e,q⟩:=q;simp only at hq;subst hq;have e1:= @NQ e i;simp[e1];exact aA
 ·have e2:=E6 i hq;have h2:=h'.take i;have e1:=J5 (i:=i) hq;obtain⟨g1,g2⟩:=h'.getD e2;rw[e1]at h2⊢;simp only[aT hq]at h2⊢;generalize q.q.getD (mR q i) []=b at*;simp;cases b with
  |nil=>exact absurd rfl g1
  |cons x b=>
   refine CI.p (VC ⟨q.aM,q.q.take (mR q i)++q.q.drop (mR q i+1)⟩ x b h2 g2) ?_;simp;exact aA
theorem zcc (l:eS)(hl:l.q.length<=1000000):C0 238 [st (iJ l)] (.aU [st (iJ (C8 l).1),int (C8 l).2]):=by
 refine Ct.B func238 ?_;simp;refine CI.p (OD l hl) ?_;simp;obtain⟨h1,h2⟩:=U4 l;unfold C8;generalize gD l=q at*;refine aX (λh3 zz=>?_) (λh3 zz=>?_)<;>simp only[zz]<;>simp
 ·exact aA (by simp[h3])
 ·have w1:=wz (q.aM+1);exact aA (by simp[h3,w1])
end Go.Proofs.YtobcmagefgdgdaaGreatDoor
