/-
  LAYERS 10 to 12: the walks of records, frames, streams and links.
-/
import Derived.Test.YtekckhepcdndcaaGreatDoorWa
import Derived.Test.YtekckhepcdndcaaGreatDoorPq
import Derived.Test.YtekckhepcdndcaaGreatDoorFd
import Derived.Test.YtekckhepcdndcaaGreatDoorWh
import Derived.Test.YtekckhepcdndcaaGreatDoorWf
set_option linter.unusedSimpArgs false
set_option linter.unusedVariables false
namespace Go.Proofs.YtekckhepcdndcaaGreatDoor
open Go.AI Go.G
set_option maxRecDepth 20000
attribute [simp] byteC
abbrev nilS :AV:=.d (.v (.slice none 0 0))
attribute [simp] Tryz.ntmps53 Tryz.results53
theorem qse (n:Int):Ct Tryz.prog 53 [int n] [] [] (int (bndN n)) []:=by
 refine Ct.B Tryz.func53 mixed 9999 400 ?_;simp;have e:=qmt n;first|exact fin0 (by simp[e]) rfl|exact zaa (by simp[e])
attribute [simp] Tryz.ntmps33 Tryz.results33
theorem qmi :Ct Tryz.prog 33 [nilS] [] [] (nilS) []:=by
 refine Ct.B Tryz.func33 mixed 9999 400 ?_;simp;first|exact fin0 (by simp) rfl|exact zaa (by simp)
theorem zy2 (x:UInt8)(l:List UInt8)(hl:l.length≤1000000):Ct Tryz.prog 33 [lst ((x::l).map byteC)] [] [] (.own 64) [(64,.grow 1 ((x::l).map byteC) 5)]:=by
 refine Ct.B Tryz.func33 mixed 9999 400 ?_;simp;refine⟨by omega,?_⟩;first| (refine⟨[(64,384)],?_,?_,?_,?_,?_,?_,?_⟩<;>simp[nmF,inB];done)| (refine⟨by decide+kernel,?_⟩;refine⟨[(64,384)],?_,?_,?_,?_,?_,?_,?_⟩<;>simp[nmF,inB])
attribute [simp] Tryz.ntmps243 Tryz.results243
theorem qup (n:Int):Ct Tryz.prog 243 [nilS,int n] [] [] (.own 64) [(64,.grow 1 ((numB n).map byteC) 5)]:=by
 refine Ct.B Tryz.func243 mixed 9999 400 ?_;simp;refine CI.p qmi Tryz.call33 9999 ?_;simp;refine CI.p (qse n) Tryz.call53 9999 ?_;simp;obtain⟨m,e0,e1,e2⟩:=zn9 n;simp[e0];refine LoopI.nilOwn 5 1 5 rfl ?_;refine LoopI.inv mixed rfl (ι:={z:List UInt8×Nat×Nat//NumI m z.1 z.2.1 z.2.2}) (fun k=>[(1,int k.1.2.1),(5,.own 64)]) (fun k=>[(64,.grow 1 (k.1.1.map byteC) 5)]) 65 (fun k=>k.1.2.2) ⟨([],m,5),.start e1⟩ [] (by constructor<;>simp) ?_;rintro⟨⟨q,n,f⟩,hI⟩ B hB;simp only at hI;refine CI.run 9999 400 rfl ?_;simp;have hs:=hI.small;have hql:q.length≤5:=by have:=hI.l;omega
 have hf:=hI.f1;have w1:=qag n hs;have w2:(n:Int).fdiv (2^min 7 IntKind.i64.bits)=((n/128:Nat):Int):=qgq n;refine sBI (fun h1=>?_) (fun h1=>?_)<;>simp only[h1]<;>simp[w1,w2]<;>(try simp only[nT,nF,dT,dF]at h1)
 ·refine⟨by omega,?_⟩;refine hB _ ⟨(q++[UInt8.ofNat (n%128+128)],n/128,f-1),hI.step (by omega)⟩ [] ?_ (by simp;omega);constructor<;>simp[w2]
 ·have h1':n<128:=by omega
  have w3:=qah n h1';have e3:=hI.last h1';simp[w3];refine⟨by omega,?_⟩;first| (refine⟨[(64,449)],?_,?_,?_,?_,?_,?_,?_⟩<;>simp[nmF,inB,e2,←e3];done)| (refine⟨by decide+kernel,?_⟩;refine⟨[(64,449)],?_,?_,?_,?_,?_,?_,?_⟩<;>simp[nmF,inB,e2,←e3])
theorem quq (x:UInt8)(l:List UInt8)(n:Int)(hl:l.length≤1000000):Ct Tryz.prog 243 [lst ((x::l).map byteC),int n] [] [] (.own 64) [(64,.grow 1 ((x::l++numB n).map byteC) 5)]:=by
 refine Ct.B Tryz.func243 mixed 9999 400 ?_;simp;refine CI.cc [] (zy2 x l hl) Tryz.call33 9999 ?_;simp;refine CI.p (qse n) Tryz.call53 9999 ?_;simp;obtain⟨m,e0,e1,e2⟩:=zn9 n;simp[e0];refine LoopI.inv mixed rfl (ι:={z:List UInt8×Nat×Nat//NumI m z.1 z.2.1 z.2.2}) (fun k=>[(1,int k.1.2.1),(5,.own 64)]) (fun k=>[(64,.grow 1 ((x::l++k.1.1).map byteC) 5)]) 65 (fun k=>k.1.2.2) ⟨([],m,5),.start e1⟩ [] (by constructor<;>simp) ?_;rintro⟨⟨q,n,f⟩,hI⟩ B hB;simp only at hI;refine CI.run 9999 400 rfl ?_;simp;have hs:=hI.small;have hql:q.length≤5:=by have:=hI.l;omega
 have hf:=hI.f1;have w1:=qag n hs;have w2:(n:Int).fdiv (2^min 7 IntKind.i64.bits)=((n/128:Nat):Int):=qgq n;refine sBI (fun h1=>?_) (fun h1=>?_)<;>simp only[h1]<;>simp[w1,w2]<;>(try simp only[nT,nF,dT,dF]at h1)
 ·refine⟨by omega,?_⟩;refine hB _ ⟨(q++[UInt8.ofNat (n%128+128)],n/128,f-1),hI.step (by omega)⟩ [] ?_ (by simp;omega);constructor<;>simp[w2]
 ·have h1':n<128:=by omega
  have w3:=qah n h1';have e3:=hI.last h1';simp[w3];refine⟨by omega,?_⟩;first| (refine⟨[(64,449)],?_,?_,?_,?_,?_,?_,?_⟩<;>simp[nmF,inB,e2,←e3];done)| (refine⟨by decide+kernel,?_⟩;refine⟨[(64,449)],?_,?_,?_,?_,?_,?_,?_⟩<;>simp[nmF,inB,e2,←e3])
attribute [simp] Tryz.ntmps306 Tryz.results306
theorem qtc (x:UInt8)(l:List UInt8)(s:Str)(hl:l.length≤1000000)(hs:(bs s).length≤1000000):Ct Tryz.prog 306 [lst ((x::l).map byteC),str s] [] [] (.own 64) [(64,.grow 1 ((x::l++zc5 s).map byteC) 5)]:=by
 refine Ct.B Tryz.func306 mixed 9999 400 ?_;simp;have h5:=zae ((bs s).length:Int);have e:List.map (fun c:UInt8=>[D.v (.int .u8 c.toNat)]) (ByteArray.toList s)=(bs s).map byteC:=zxl s;have e1:ByteArray.size s=(bs s).length:=zbh s;refine CI.cc [] (quq x l (bs s).length hl) Tryz.call243 9999 ?_ (ha:=by simp[e,e1]) (hk:=by simp[e,e1]);simp[e,e1];refine⟨by omega,?_⟩;first| (refine⟨[(64,448)],?_,?_,?_,?_,?_,?_,?_⟩<;>simp[nmF,inB,zc5];done)| (refine⟨by decide+kernel,?_⟩;refine⟨[(64,448)],?_,?_,?_,?_,?_,?_,?_⟩<;>simp[nmF,inB,zc5])
theorem qur (n:Int):Ct Tryz.prog 243 [nilS,int n] [] [] (lst ((numB n).map byteC)) []:=(qup n).data
theorem zdg (x:UInt8)(l:List UInt8)(n:Int)(hl:l.length≤1000000):Ct Tryz.prog 243 [lst ((x::l).map byteC),int n] [] [] (lst ((x::l++numB n).map byteC)) []:=(quq x l n hl).data
theorem zjv (x:UInt8)(l:List UInt8)(s:Str)(hl:l.length≤1000000)(hs:(bs s).length≤1000000):Ct Tryz.prog 306 [lst ((x::l).map byteC),str s] [] [] (lst ((x::l++zc5 s).map byteC)) []:=(qtc x l s hl hs).data
attribute [simp] Tryz.ntmps52 Tryz.results52
theorem qqg (n:Int)(t:List UInt8)(h0:0≤n)(h:n≤2147483647)(ht:t.length≤1000000):Ct Tryz.prog 52 [.ptr 0 0] [(0,.cells [lst ((numB n++t).map byteC),int 0] 120)] [] (.tup [int n,int (numB n).length,int 0]) []:=by
 refine Ct.B Tryz.func52 mixed 9999 400 ?_;simp;have hq5:=zae n;obtain⟨M,e,m1,m2,m3⟩:=qvl (numB n).length t.length hq5;refine⟨⟨by split<;>omega,by split<;>omega⟩,?_⟩;refine⟨by decide+kernel,?_⟩;simp only[e,m3];obtain⟨m,rfl⟩:∃m:Nat,n=m:=⟨n.toNat,by omega⟩;have hq:numB (m:Int)=numF 5 m:=by obtain⟨x,e0,e1,e2⟩:=zn9 (m:Int);rw[zy6 h0 h]at e0;rw[e2];congr 1;omega
 have hs:=ParI.start (m:=m) (by omega);rw[←hq]at hs;generalize numB (m:Int)=q at*;refine LoopI.inv mixed rfl (ι:={z:Nat×Nat×Nat//ParI m q z.1 z.2.1 z.2.2}) (fun k=>[(0,.ptr 0 0),(5,int k.1.2.1),(20,int k.1.1),(19,int M),(18,lst ((q++t).map byteC|>.take M))]) (fun k=>[(0,.cells [lst ((q++t).map byteC),int 0] 120)]) 64 (fun k=>5-k.1.1) ⟨(0,0,m),hs⟩ [] (by constructor<;>simp[m3]) ?_;rintro⟨⟨k,n0,r⟩,hI⟩ B hB;simp only at hI;have hk4:=hI.k4;have w0:IntKind.wrap .i64 ((k:Int)*7)=((7*k:Nat):Int):=by rw[zab (by omega) (by omega)];omega
 have w1:IntKind.wrap .u64 (7*(k:Int))=7*(k:Int):=by show(7*(k:Int))%2^64=_;omega
 have wk:IntKind.wrap .i64 ((k:Int)+1)=k+1:=zab (by omega) (by omega);have w3:(7*(k:Int)).toNat=7*k:=by omega
 have w2:min (7*k) IntKind.i64.bits=7*k:=by show min (7*k) 64=_;omega
 by_cases hr:r<128
 ·obtain⟨a1,a2⟩:=hI.last hr;have hkM:k<M:=by omega
  have hkq:k<q.length:=by omega
  obtain⟨p1,p2⟩:=qni hk4 hI.n0 hr;have l1:zmt .u8 (r:Int) 128=r:=by rw[qal r (by omega)];omega
  have l2:IntKind.wrap .i64 (r:Int)=r:=zab (by omega) (by omega);have b0:((q[k]).toNat:Int)=r:=by rw[List.getElem?_eq_getElem hkq]at a1;rw[Option.some.inj a1,zzh _ (by omega)]
  refine CI.run 9999 400 rfl ?_;simp[m3,hkM,hkq,b0,List.getElem?_append,w0,w1,w2,w3,l1,l2,p1,p2];refine⟨by omega,?_⟩;refine sBI (fun g1=>?_) (fun g1=>?_)<;>simp only[g1]<;>simp<;>(try simp only[nT,nF,dT,dF]at g1)
  ·omega
  have e5:(n0:Int)+2^(7*k)*r=m:=by exact_mod_cast hI.m.symm
  have e6:(q.length:Int)=k+1:=by omega
  have e7:r=0→k=0:=fun h=>by have:=hI.pos;omega
  refine sGI (fun g2=>?_) (fun g2=>?_)<;>simp only[g2]<;>simp[Nat.pos_iff_ne_zero]
  ·have e8:=e7 (of_decide_eq_true g2);simp[e8];rw[e8]at e5 e6;simp at e5 e6;first| (refine⟨[],?_,?_,?_,?_,?_,?_,?_⟩<;>simp[nmF,inB,e5,e6];done)| (refine⟨by decide+kernel,?_⟩;refine⟨[],?_,?_,?_,?_,?_,?_,?_⟩<;>simp[nmF,inB,e5,e6])
  ·first| (refine⟨[],?_,?_,?_,?_,?_,?_,?_⟩<;>simp[nmF,inB,wk,e5,e6];done)| (refine⟨by decide+kernel,?_⟩;refine⟨[],?_,?_,?_,?_,?_,?_,?_⟩<;>simp[nmF,inB,wk,e5,e6])
 ·obtain⟨a1,a2,a3⟩:=hI.more hr;have hkM:k<M:=by omega
  have hkq:k<q.length:=by omega
  obtain⟨p1,p2⟩:=qni hk4 hI.n0 (c:=r%128) (by omega);have l1:zmt .u8 ((r:Int)%128+128) 128=((r%128:Nat):Int):=by
   have:=qal (r%128+128) (by omega);rw[show((r:Int)%128+128)=((r%128+128:Nat):Int) by omega,this];omega
  have l2:IntKind.wrap .i64 ((r:Int)%128)=(r:Int)%128:=zab (by omega) (by omega);rw[show((r%128:Nat):Int)=(r:Int)%128 by omega]at p1 p2;have b0:((q[k]).toNat:Int)=(r:Int)%128+128:=by rw[List.getElem?_eq_getElem hkq]at a1;rw[Option.some.inj a1,zzh _ (by omega)];omega
  refine CI.run 9999 400 rfl ?_;simp[m3,hkM,hkq,b0,List.getElem?_append,w0,w1,w2,w3,l1,l2,p1,p2];refine⟨by omega,?_⟩;refine sBI (fun g1=>?_) (fun g1=>?_)<;>simp only[g1]<;>simp<;>(try simp only[nT,nF,dT,dF]at g1)
  ·refine hB _ ⟨(k+1,n0+2^(7*k)*(r%128),r/128),a3⟩ [] ?_ (by simp;omega);constructor<;>simp[wk]
  ·omega
attribute [simp] Tryz.ntmps32 Tryz.results32
theorem zct (n lim:Int)(t:List UInt8)(h0:0≤n)(h1:n≤bndN lim)(ht:t.length≤1000000):Ct Tryz.prog 32 [.ptr 0 0,int lim] [] [(0,.cells [lst ((numB n++t).map byteC),int 0] 120)] (int n) [(0,.cells [lst (t.map byteC),int 0] 120)]:=by
 refine Ct.B Tryz.func32 mixed 9999 400 ?_;simp;have hb:bndN lim≤2147483647:=by unfold bndN;omega
 refine CI.cc [0] (qqg n t h0 (by omega) ht) Tryz.call52 9999 ?_;simp;refine CI.p (qse lim) Tryz.call53 9999 ?_;simp;refine sBI (fun h3=>?_) (fun h3=>?_)<;>simp only[h3]<;>simp<;>(try simp only[nT,nF,dT,dF]at h3)
 ·omega
 have e:=zwk (numB n) t;refine⟨by omega,?_⟩;first| (refine⟨[],?_,?_,?_,?_,?_,?_,?_⟩<;>simp[nmF,inB,e];done)| (refine⟨by decide+kernel,?_⟩;refine⟨[],?_,?_,?_,?_,?_,?_,?_⟩<;>simp[nmF,inB,e])
attribute [simp] Tryz.ntmps87 Tryz.results87
theorem zj0 (s:Str)(lim:Int)(t:List UInt8)(h1:((bs s).length:Int)≤bndN lim)(ht:(bs s).length+t.length≤1000000):Ct Tryz.prog 87 [.ptr 0 0,int lim] [] [(0,.cells [lst ((zc5 s++t).map byteC),int 0] 120)] (str s) [(0,.cells [lst (t.map byteC),int 0] 120)]:=by
 refine Ct.B Tryz.func87 mixed 9999 400 ?_;simp;have hb:bndN lim≤2147483647:=by unfold bndN;omega
 refine CI.cc [0] (zct (bs s).length lim (bs s++t) (by omega) h1 (by simp;omega)) Tryz.call32 9999 ?_ (ha:=by simp[zc5]) (hk:=by simp[zc5]);simp[zc5];refine sBI (fun h3=>?_) (fun h3=>?_)<;>simp only[h3]<;>simp<;>(try simp only[nT,nF,dT,dF]at h3)
 ·omega
 have e:=zwk (bs s) t;have e1:=qoh s;refine⟨by omega,?_⟩;first| (refine⟨[],?_,?_,?_,?_,?_,?_,?_⟩<;>simp[nmF,inB,e,e1];done)| (refine⟨by decide+kernel,?_⟩;refine⟨[],?_,?_,?_,?_,?_,?_,?_⟩<;>simp[nmF,inB,e,e1])
attribute [simp] Tryz.ntmps37 Tryz.results37
theorem zsk :Ct Tryz.prog 37 [.ptr 0 0] [] [(0,.cells [lst [],int 0] 120)] (int 0) [(0,.cells [lst [],int 0] 120)]:=by
 refine Ct.B Tryz.func37 mixed 9999 400 ?_;simp;first| (refine⟨[],?_,?_,?_,?_,?_,?_,?_⟩<;>simp[nmF,inB];done)| (refine⟨by decide+kernel,?_⟩;refine⟨[],?_,?_,?_,?_,?_,?_,?_⟩<;>simp[nmF,inB])
end Go.Proofs.YtekckhepcdndcaaGreatDoor
namespace Go.Proofs.YtekckhepcdndcaaGreatDoor
open Go.AI Go.G
set_option maxRecDepth 20000
attribute [simp] Tryz.ntmps363 Tryz.results363
theorem qmb (x:UInt8)(b:List UInt8)(l:List Int)(kf:D)(lay:Int→List UInt8)(m B:Nat)(hB:B≤900000)(hf:∀y∈l,∀b':List UInt8,b'.length≤B→FnOk Tryz.prog (.d kf) [lst ((x::b').map byteC),int y] (lst ((x::b'++lay y).map byteC)))(hly:∀y∈l,(lay y).length≤m)(hs:b.length+5+l.length*m≤B)(hl:l.length≤200000):Ct Tryz.prog 363 [lst ((x::b).map byteC),lst (l.map intC),.d kf] [] [] (lst ((x::b++zan l lay).map byteC)) []:=by
 refine Ct.B Tryz.func363 mixed 9999 400 ?_;simp;have hn:=zae l.length;refine CI.p (zdg x b l.length (by omega)) Tryz.call243 9999 ?_;simp;refine LoopI.U mixed (l) (fun k=>[(0,lst ((x::(b++numB l.length++(l.take k.1).flatMap lay)).map byteC)),(2,.d kf),(13,lst (l.map intC)),(14,int l.length),(15,int k.1)]) (fun k=>[]) 65 [] (by constructor<;>simp) ?_;rintro⟨k,hk1⟩ B hB;refine CI.run 9999 400 rfl ?_;simp;refine sBI (fun h=>?_) (fun h=>?_)
 ·have hk:k<(l).length:=by simpa using h
  obtain⟨y,hx,hr,hm,ht,hd⟩:=inL hk;have hw:=wr (k:=k) (by omega);simp only[h];simp[hr,hw];have hk2:=zg6 l k hly;refine CI.ff (hf y hm (b++numB l.length++(l.take k).flatMap lay) (by simp only[List.length_append];omega)) rfl rfl rfl 9999 ?_;simp;refine hB _ ⟨k+1,by omega⟩ [] ?_ (by simp;omega);constructor<;>simp[hw,ht,zan]
 ·have hkl:k=(l).length:=by simp at h;omega
  subst hkl;simp only[h];simp[List.take_length,List.drop_length];first|exact fin0 (by simp[zan]) rfl|exact zaa (by simp[zan])
attribute [simp] Tryz.ntmps393 Tryz.results393
theorem qvy (x:UInt8)(b:List UInt8)(l:List Weight)(kf:D)(lay:Weight→List UInt8)(m B:Nat)(hB:B≤900000)(hf:∀y∈l,∀b':List UInt8,b'.length≤B→FnOk Tryz.prog (.d kf) [lst ((x::b').map byteC),st (wC y)] (lst ((x::b'++lay y).map byteC)))(hly:∀y∈l,(lay y).length≤m)(hs:b.length+5+l.length*m≤B)(hl:l.length≤200000):Ct Tryz.prog 393 [lst ((x::b).map byteC),lst (l.map wC),.d kf] [] [] (lst ((x::b++zan l lay).map byteC)) []:=by
 refine Ct.B Tryz.func393 mixed 9999 400 ?_;simp;have hn:=zae l.length;refine CI.p (zdg x b l.length (by omega)) Tryz.call243 9999 ?_;simp;refine LoopI.U mixed (l) (fun k=>[(0,lst ((x::(b++numB l.length++(l.take k.1).flatMap lay)).map byteC)),(2,.d kf),(13,lst (l.map wC)),(14,int l.length),(15,int k.1)]) (fun k=>[]) 65 [] (by constructor<;>simp) ?_;rintro⟨k,hk1⟩ B hB;refine CI.run 9999 400 rfl ?_;simp;refine sBI (fun h=>?_) (fun h=>?_)
 ·have hk:k<(l).length:=by simpa using h
  obtain⟨y,hx,hr,hm,ht,hd⟩:=inL hk;have hw:=wr (k:=k) (by omega);simp only[h];simp[hr,hw];have hk2:=zg6 l k hly;refine CI.ff (hf y hm (b++numB l.length++(l.take k).flatMap lay) (by simp only[List.length_append];omega)) rfl rfl rfl 9999 ?_;simp;refine hB _ ⟨k+1,by omega⟩ [] ?_ (by simp;omega);constructor<;>simp[hw,ht,zan]
 ·have hkl:k=(l).length:=by simp at h;omega
  subst hkl;simp only[h];simp[List.take_length,List.drop_length];first|exact fin0 (by simp[zan]) rfl|exact zaa (by simp[zan])
attribute [simp] Tryz.ntmps361 Tryz.results361
theorem qif (x:UInt8)(b:List UInt8)(l:List Rule)(kf:D)(lay:Rule→List UInt8)(m B:Nat)(hB:B≤900000)(hf:∀y∈l,∀b':List UInt8,b'.length≤B→FnOk Tryz.prog (.d kf) [lst ((x::b').map byteC),st (zbn y)] (lst ((x::b'++lay y).map byteC)))(hly:∀y∈l,(lay y).length≤m)(hs:b.length+5+l.length*m≤B)(hl:l.length≤200000):Ct Tryz.prog 361 [lst ((x::b).map byteC),lst (l.map zbn),.d kf] [] [] (lst ((x::b++zan l lay).map byteC)) []:=by
 refine Ct.B Tryz.func361 mixed 9999 400 ?_;simp;have hn:=zae l.length;refine CI.p (zdg x b l.length (by omega)) Tryz.call243 9999 ?_;simp;refine LoopI.U mixed (l) (fun k=>[(0,lst ((x::(b++numB l.length++(l.take k.1).flatMap lay)).map byteC)),(2,.d kf),(13,lst (l.map zbn)),(14,int l.length),(15,int k.1)]) (fun k=>[]) 65 [] (by constructor<;>simp) ?_;rintro⟨k,hk1⟩ B hB;refine CI.run 9999 400 rfl ?_;simp;refine sBI (fun h=>?_) (fun h=>?_)
 ·have hk:k<(l).length:=by simpa using h
  obtain⟨y,hx,hr,hm,ht,hd⟩:=inL hk;have hw:=wr (k:=k) (by omega);simp only[h];simp[hr,hw];have hk2:=zg6 l k hly;refine CI.ff (hf y hm (b++numB l.length++(l.take k).flatMap lay) (by simp only[List.length_append];omega)) rfl rfl rfl 9999 ?_;simp;refine hB _ ⟨k+1,by omega⟩ [] ?_ (by simp;omega);constructor<;>simp[hw,ht,zan]
 ·have hkl:k=(l).length:=by simp at h;omega
  subst hkl;simp only[h];simp[List.take_length,List.drop_length];first|exact fin0 (by simp[zan]) rfl|exact zaa (by simp[zan])
attribute [simp] Tryz.ntmps307 Tryz.results307
theorem qma (x:UInt8)(b:List UInt8)(l:List Key)(kf:D)(lay:Key→List UInt8)(m B:Nat)(hB:B≤900000)(hf:∀y∈l,∀b':List UInt8,b'.length≤B→FnOk Tryz.prog (.d kf) [lst ((x::b').map byteC),st (keyC y)] (lst ((x::b'++lay y).map byteC)))(hly:∀y∈l,(lay y).length≤m)(hs:b.length+5+l.length*m≤B)(hl:l.length≤200000):Ct Tryz.prog 307 [lst ((x::b).map byteC),lst (l.map keyC),.d kf] [] [] (lst ((x::b++zan l lay).map byteC)) []:=by
 refine Ct.B Tryz.func307 mixed 9999 400 ?_;simp;have hn:=zae l.length;refine CI.p (zdg x b l.length (by omega)) Tryz.call243 9999 ?_;simp;refine LoopI.U mixed (l) (fun k=>[(0,lst ((x::(b++numB l.length++(l.take k.1).flatMap lay)).map byteC)),(2,.d kf),(13,lst (l.map keyC)),(14,int l.length),(15,int k.1)]) (fun k=>[]) 65 [] (by constructor<;>simp) ?_;rintro⟨k,hk1⟩ B hB;refine CI.run 9999 400 rfl ?_;simp;refine sBI (fun h=>?_) (fun h=>?_)
 ·have hk:k<(l).length:=by simpa using h
  obtain⟨y,hx,hr,hm,ht,hd⟩:=inL hk;have hw:=wr (k:=k) (by omega);simp only[h];simp[hr,hw];have hk2:=zg6 l k hly;refine CI.ff (hf y hm (b++numB l.length++(l.take k).flatMap lay) (by simp only[List.length_append];omega)) rfl rfl rfl 9999 ?_;simp;refine hB _ ⟨k+1,by omega⟩ [] ?_ (by simp;omega);constructor<;>simp[hw,ht,zan]
 ·have hkl:k=(l).length:=by simp at h;omega
  subst hkl;simp only[h];simp[List.take_length,List.drop_length];first|exact fin0 (by simp[zan]) rfl|exact zaa (by simp[zan])
attribute [simp] Tryz.ntmps309 Tryz.results309
theorem ql9 (x:UInt8)(b:List UInt8)(l:List Res)(kf:D)(lay:Res→List UInt8)(m B:Nat)(hB:B≤900000)(hf:∀y∈l,∀b':List UInt8,b'.length≤B→FnOk Tryz.prog (.d kf) [lst ((x::b').map byteC),st (resC y)] (lst ((x::b'++lay y).map byteC)))(hly:∀y∈l,(lay y).length≤m)(hs:b.length+5+l.length*m≤B)(hl:l.length≤200000):Ct Tryz.prog 309 [lst ((x::b).map byteC),lst (l.map resC),.d kf] [] [] (lst ((x::b++zan l lay).map byteC)) []:=by
 refine Ct.B Tryz.func309 mixed 9999 400 ?_;simp;have hn:=zae l.length;refine CI.p (zdg x b l.length (by omega)) Tryz.call243 9999 ?_;simp;refine LoopI.U mixed (l) (fun k=>[(0,lst ((x::(b++numB l.length++(l.take k.1).flatMap lay)).map byteC)),(2,.d kf),(13,lst (l.map resC)),(14,int l.length),(15,int k.1)]) (fun k=>[]) 65 [] (by constructor<;>simp) ?_;rintro⟨k,hk1⟩ B hB;refine CI.run 9999 400 rfl ?_;simp;refine sBI (fun h=>?_) (fun h=>?_)
 ·have hk:k<(l).length:=by simpa using h
  obtain⟨y,hx,hr,hm,ht,hd⟩:=inL hk;have hw:=wr (k:=k) (by omega);simp only[h];simp[hr,hw];have hk2:=zg6 l k hly;refine CI.ff (hf y hm (b++numB l.length++(l.take k).flatMap lay) (by simp only[List.length_append];omega)) rfl rfl rfl 9999 ?_;simp;refine hB _ ⟨k+1,by omega⟩ [] ?_ (by simp;omega);constructor<;>simp[hw,ht,zan]
 ·have hkl:k=(l).length:=by simp at h;omega
  subst hkl;simp only[h];simp[List.take_length,List.drop_length];first|exact fin0 (by simp[zan]) rfl|exact zaa (by simp[zan])
attribute [simp] Tryz.ntmps359 Tryz.results359
theorem qc4 (x:Key)(kf:FuncId)(b:Bool)(hf:FnOk Tryz.prog (.d (fnD kf)) [st (keyC x)] (bool b)):Ct Tryz.prog 359 [st (keyC x),.d (.pro [fnD kf])] [] [] (bool (!b)) []:=by
 refine Ct.B Tryz.func359 mixed 9999 400 ?_;simp;refine CI.ff hf rfl rfl rfl 9999 ?_;simp;first|exact fin0 (by simp) rfl|exact zaa (by simp)
attribute [simp] Tryz.ntmps308 Tryz.results308
theorem qh8 (l:List Key)(kf:FuncId)(may:Key→Bool)(hf:∀x∈l,FnOk Tryz.prog (.d (fnD kf)) [st (keyC x)] (bool (may x)))(hl:l.length≤1000000):Ct Tryz.prog 308 [lst (l.map keyC),.d (fnD kf)] [] [] (lst (((l.filter may).take 64).map keyC)) []:=by
 refine Ct.B Tryz.func308 mixed 1 400 ?_;simp;refine CI.s (tm:=[(0,lst (l.map keyC)),(3,.d (.pro [fnD kf]))]) (mm:=[]) (nx:=65) [] [64] (by constructor<;>simp) ?_;refine CI.run 9999 400 rfl ?_;simp;have hg:∀x∈l,FnOk Tryz.prog (.d (.fn (.func 359) [] [.pro [fnD kf]])) [st (keyC x)] (bool (!may x)):=fun x hx=>FnOk.clo (qc4 x kf (may x) (hf x hx)) Tryz.call359 rfl rfl;have hfl:(l.filter may).length≤1000000:=Nat.le_trans (List.length_filter_le _ _) hl;have ht:=zuc keyC (l.filter fun x=>may x);cases l with
 |nil=>
  refine CI.p zrt Tryz.call358 9999 ?_;simp;refine CI.p (zto (.fn (.func 359) [] [.pro [fnD kf]])) Tryz.call351 9999 ?_;simp;first|exact fin0 (by simp) rfl|exact zaa (by simp)
 |cons x l=>
  refine CI.cc [] (zpw x l (by simp at hl;omega)) Tryz.call358 9999 ?_;simp;refine CI.cc [129] (zn6 (x::l) (.fn (.func 359) [] [.pro [fnD kf]]) (fun y=>!may y) hg hl) Tryz.call351 9999 ?_;simp;refine⟨⟨by split<;>omega,by split<;>omega⟩,?_⟩;first|exact fin0 (by simp[ht]) rfl|exact zaa (by simp[ht])
attribute [simp] Tryz.ntmps360 Tryz.results360
theorem qc3 (x:Res)(kf:FuncId)(b:Bool)(hf:FnOk Tryz.prog (.d (fnD kf)) [st (resC x)] (bool b)):Ct Tryz.prog 360 [st (resC x),.d (.pro [fnD kf])] [] [] (bool (!b)) []:=by
 refine Ct.B Tryz.func360 mixed 9999 400 ?_;simp;refine CI.ff hf rfl rfl rfl 9999 ?_;simp;first|exact fin0 (by simp) rfl|exact zaa (by simp)
attribute [simp] Tryz.ntmps310 Tryz.results310
theorem qh6 (l:List Res)(kf:FuncId)(may:Res→Bool)(hf:∀x∈l,FnOk Tryz.prog (.d (fnD kf)) [st (resC x)] (bool (may x)))(hl:l.length≤1000000):Ct Tryz.prog 310 [lst (l.map resC),.d (fnD kf)] [] [] (lst (((l.filter may).take 64).map resC)) []:=by
 refine Ct.B Tryz.func310 mixed 1 400 ?_;simp;refine CI.s (tm:=[(0,lst (l.map resC)),(3,.d (.pro [fnD kf]))]) (mm:=[]) (nx:=65) [] [64] (by constructor<;>simp) ?_;refine CI.run 9999 400 rfl ?_;simp;have hg:∀x∈l,FnOk Tryz.prog (.d (.fn (.func 360) [] [.pro [fnD kf]])) [st (resC x)] (bool (!may x)):=fun x hx=>FnOk.clo (qc3 x kf (may x) (hf x hx)) Tryz.call360 rfl rfl;have hfl:(l.filter may).length≤1000000:=Nat.le_trans (List.length_filter_le _ _) hl;have ht:=zuc resC (l.filter fun x=>may x);cases l with
 |nil=>
  refine CI.p qa9 Tryz.call228 9999 ?_;simp;refine CI.p (delE (.fn (.func 360) [] [.pro [fnD kf]])) Tryz.call284 9999 ?_;simp;first|exact fin0 (by simp) rfl|exact zaa (by simp)
 |cons x l=>
  refine CI.cc [] (ztp x l (by simp at hl;omega)) Tryz.call228 9999 ?_;simp;refine CI.cc [129] (delC (x::l) (.fn (.func 360) [] [.pro [fnD kf]]) (fun y=>!may y) hg hl) Tryz.call284 9999 ?_;simp;refine⟨⟨by split<;>omega,by split<;>omega⟩,?_⟩;first|exact fin0 (by simp[ht]) rfl|exact zaa (by simp[ht])
attribute [simp] Tryz.ntmps88 Tryz.results88
theorem qhz (k_:Key):Ct Tryz.prog 88 [st (keyC k_)] [] [] (bool (okK k_)) []:=by
 refine Ct.B Tryz.func88 mixed 9999 400 ?_;simp;rw[quk];refine sGI (fun h1=>?_) (fun h1=>?_)<;>simp only[h1]<;>simp
 ·refine sGI (fun h2=>?_) (fun h2=>?_)<;>simp only[h2]<;>simp
  ·refine CI.p (zfc k_.name) Tryz.call128 9999 ?_;simp;first|exact fin0 (by simp[h1,h2]) rfl|exact zaa (by simp[h1,h2])
  ·first|exact fin0 (by simp[h1,h2]) rfl|exact zaa (by simp[h1,h2])
 ·first|exact fin0 (by simp[h1]) rfl|exact zaa (by simp[h1])
attribute [simp] Tryz.ntmps311 Tryz.results311
theorem qfp (r:Res):Ct Tryz.prog 311 [st (resC r)] [] [] (bool (decide (za8 r=0))) []:=by
 refine Ct.B Tryz.func311 mixed 9999 400 ?_;simp;refine CI.p (zm0 r) Tryz.call94 9999 ?_;simp;first|exact fin0 (by simp) rfl|exact zaa (by simp)
attribute [simp] Tryz.ntmps244 Tryz.results244
theorem zz6 (x:UInt8)(b:List UInt8)(k_:Key)(hk:okK k_=true)(hb:b.length≤200000):Ct Tryz.prog 244 [lst ((x::b).map byteC),st (keyC k_)] [] [] (lst ((x::b++zcj k_).map byteC)) []:=by
 refine Ct.B Tryz.func244 mixed 9999 400 ?_;simp;have hi:=qar hk;have hn:=zae k_.kind;refine CI.p (qhz k_) Tryz.call88 9999 ?_ (ha:=by simp[hk]);simp[hk];refine CI.p (zdg x b k_.kind (by omega)) Tryz.call243 9999 ?_;simp;refine CI.p (zjv x (b++numB k_.kind) k_.name (by simp;omega) (by omega)) Tryz.call306 9999 ?_;simp;refine⟨by decide+kernel,?_⟩;first|exact fin0 (by simp[zcj]) rfl|exact zaa (by simp[zcj])
attribute [simp] Tryz.ntmps394 Tryz.results394
theorem qty (x:UInt8)(b:List UInt8)(w:Weight)(hw:WIn w)(hb:b.length≤200000):Ct Tryz.prog 394 [lst ((x::b).map byteC),st (wC w)] [] [] (lst ((x::b++zb2 w).map byteC)) []:=by
 refine Ct.B Tryz.func394 mixed 9999 400 ?_;simp;have h1:=hw.c;have hn:=zbp hw.c;refine CI.p (zjv x b w.cluster (by omega) (by omega)) Tryz.call306 9999 ?_;simp;refine CI.p (zdg x (b++zc5 w.cluster) w.w (by simp;omega)) Tryz.call243 9999 ?_;simp;refine⟨by decide+kernel,?_⟩;first|exact fin0 (by simp[zb2]) rfl|exact zaa (by simp[zb2])
attribute [simp] Tryz.ntmps362 Tryz.results362
theorem qf2 (x:UInt8)(b:List UInt8)(r:Rule)(hr:RuleIn r)(hb:b.length≤189000):Ct Tryz.prog 362 [lst ((x::b).map byteC),st (zbn r)] [] [] (lst ((x::b++ruleBy r).map byteC)) []:=by
 refine Ct.B Tryz.func362 mixed 9999 400 ?_;simp;have h1:=hr.host;have h2:=hr.pre;have n1:=zbp h1;have n2:=zbp h2;have h3:=hr.split;refine CI.p (zjv x b r.host (by omega) (by omega)) Tryz.call306 9999 ?_;simp;refine CI.p (zjv x (b++zc5 r.host) r.pre (by simp;omega) (by omega)) Tryz.call306 9999 ?_;simp;refine CI.p (qvy x (b++zc5 r.host++zc5 r.pre) r.split (fnD 394) zb2 22 200000 (by omega) (fun y hy b' hb'=>FnOk.of (qty x b' y (hr.each y hy) hb') Tryz.call394 rfl rfl) (fun y hy=>zha (hr.each y hy)) (by simp;omega) (by omega)) Tryz.call393 9999 ?_;simp;refine⟨by decide+kernel,?_⟩;first|exact fin0 (by simp[ruleBy]) rfl|exact zaa (by simp[ruleBy])
attribute [simp] Tryz.ntmps312 Tryz.results312
theorem qwx (x:UInt8)(b:List UInt8)(r:Res)(hs:za8 r=0)(hb:b.length≤187000):Ct Tryz.prog 312 [lst ((x::b).map byteC),st (resC r)] [] [] (lst ((x::b++resB r).map byteC)) []:=by
 refine Ct.B Tryz.func312 mixed 9999 400 ?_;simp;have I:=zky hs;have n1:=zae r.kind;have n2:=zbp I.name;have n3:=zae r.ver;have n4:=zae r.port;have i1:=I.name;have i2:=I.rules;have i3:=I.hosts;have i4:=I.to;refine CI.p (qfp r) Tryz.call311 9999 ?_ (ha:=by simp[hs]);simp[hs];refine CI.p (zdg x b r.kind (by omega)) Tryz.call243 9999 ?_;simp;refine CI.p (zjv x (b++numB r.kind) r.name (by simp;omega) (by omega)) Tryz.call306 9999 ?_;simp;refine CI.p (zdg x (b++numB r.kind++zc5 r.name) r.ver (by simp;omega)) Tryz.call243 9999 ?_;simp;refine⟨by decide+kernel,?_⟩;have hc:(b++numB r.kind++zc5 r.name++numB r.ver).length≤187100:=by simp;omega
 rcases(show r.kind=0∨r.kind=1∨r.kind=2∨r.kind=3 from by have:=I.k0;have:=I.k3;omega)with h|h|h|h
 all_goals rw[h]at hc
 ·simp[h];refine CI.p (zdg x (b++numB 0++zc5 r.name++numB r.ver) r.port (by omega)) Tryz.call243 9999 ?_;simp;refine CI.p (zjv x (b++numB 0++zc5 r.name++numB r.ver++numB r.port) r.to (by simp at hc⊢;omega) (by omega)) Tryz.call306 9999 ?_;simp;refine⟨by decide+kernel,?_⟩;first|exact fin0 (by simp[resB,zfz,h]) rfl|exact zaa (by simp[resB,zfz,h])
 ·simp[h];refine CI.p (qif x (b++numB 1++zc5 r.name++numB r.ver) r.rules (fnD 362) ruleBy 183 189000 (by omega) (fun y hy b' hb'=>FnOk.of (qf2 x b' y (I.rule y hy) hb') Tryz.call362 rfl rfl) (fun y hy=>zme (I.rule y hy)) (by omega) (by omega)) Tryz.call361 9999 ?_;simp;first|exact fin0 (by simp[resB,zfz,h]) rfl|exact zaa (by simp[resB,zfz,h])
 ·simp[h];refine CI.p (zjv x (b++numB 2++zc5 r.name++numB r.ver) r.to (by omega) (by omega)) Tryz.call306 9999 ?_;simp;first|exact fin0 (by simp[resB,zfz,h]) rfl|exact zaa (by simp[resB,zfz,h])
 ·simp[h];refine CI.p (qmb x (b++numB 3++zc5 r.name++numB r.ver) r.hosts (fnD 243) numB 5 200000 (by omega) (fun y hy b' hb'=>FnOk.of (zdg x b' y (by omega)) Tryz.call243 rfl rfl) (fun y hy=>zae y) (by omega) (by omega)) Tryz.call363 9999 ?_;simp;first|exact fin0 (by simp[resB,zfz,h]) rfl|exact zaa (by simp[resB,zfz,h])
attribute [simp] Tryz.ntmps245 Tryz.results245
theorem zo2 (x:UInt8)(b:List UInt8)(l:List Key)(hk:∀k∈l,okK k=true)(hl:l.length≤64)(hb:b.length≤190000):Ct Tryz.prog 245 [lst ((x::b).map byteC),lst (l.map keyC)] [] [] (lst ((x::b++zan l zcj).map byteC)) []:=by
 refine Ct.B Tryz.func245 mixed 9999 400 ?_;simp;have e:(l.filter okK).take 64=l:=by rw[List.filter_eq_self.2 hk,List.take_of_length_le hl]
 have hc:=qh8 l 88 okK (fun y _=>FnOk.of (qhz y) Tryz.call88 rfl rfl) (by omega);rw[e]at hc;refine CI.p hc Tryz.call308 9999 ?_;simp;refine CI.p (qma x b l (fnD 244) zcj 22 200000 (by omega) (fun y hy b' hb'=>FnOk.of (zz6 x b' y (hk y hy) hb') Tryz.call244 rfl rfl) (fun y hy=>zdy (hk y hy)) (by omega) (by omega)) Tryz.call307 9999 ?_;simp;first|exact fin0 (by simp) rfl|exact zaa (by simp)
attribute [simp] Tryz.ntmps246 Tryz.results246
theorem qkd (x:UInt8)(b:List UInt8)(l:List Res)(hk:∀r∈l,za8 r=0)(hl:l.length≤64)(hb:b.length≤90000):Ct Tryz.prog 246 [lst ((x::b).map byteC),lst (l.map resC)] [] [] (lst ((x::b++zan l resB).map byteC)) []:=by
 refine Ct.B Tryz.func246 mixed 9999 400 ?_;simp;have e:(l.filter fun r=>decide (za8 r=0)).take 64=l:=by rw[List.filter_eq_self.2 (fun r hr=>decide_eq_true (hk r hr)),List.take_of_length_le hl]
 have hd:=qh6 l 311 (fun r=>decide (za8 r=0)) (fun y _=>FnOk.of (qfp y) Tryz.call311 rfl rfl) (by omega);rw[e]at hd;refine CI.p hd Tryz.call310 9999 ?_;simp;refine CI.p (ql9 x b l (fnD 312) resB 1496 187000 (by omega) (fun y hy b' hb'=>FnOk.of (qwx x b' y (hk y hy) hb') Tryz.call312 rfl rfl) (fun y hy=>zkz (zky (hk y hy))) (by omega) (by omega)) Tryz.call309 9999 ?_;simp;first|exact fin0 (by simp) rfl|exact zaa (by simp)
end Go.Proofs.YtekckhepcdndcaaGreatDoor
namespace Go.Proofs.YtekckhepcdndcaaGreatDoor
open Go.AI Go.G
set_option maxRecDepth 20000
attribute [simp] Tryz.ntmps89 Tryz.results89
theorem zwi (q:List UInt8):Ct Tryz.prog 89 [.ptr 0 0,int 0] [] [(0,.cells [lst ((q).map byteC),int 0] 120)] (bool false) [(0,.cells [lst ((q).map byteC),int 0] 120)]:=by
 refine Ct.B Tryz.func89 mixed 9999 400 ?_;simp;first| (refine⟨[],?_,?_,?_,?_,?_,?_,?_⟩<;>simp[nmF,inB];done)| (refine⟨by decide+kernel,?_⟩;refine⟨[],?_,?_,?_,?_,?_,?_,?_⟩<;>simp[nmF,inB])
attribute [simp] Tryz.ntmps55 Tryz.results55
theorem zud (k_:Key)(t:List UInt8)(hk:okK k_=true)(ht:t.length≤900000):Ct Tryz.prog 55 [.ptr 0 0] [] [(0,.cells [lst ((zcj k_++t).map byteC),int 0] 120)] (st (keyC k_)) [(0,.cells [lst ((t).map byteC),int 0] 120)]:=by
 refine Ct.B Tryz.func55 mixed 9999 400 ?_;simp;obtain⟨h1,h2,h3⟩:=qar hk;have n1:=zbp h3;refine CI.cc [0] (zct k_.kind 3 (zc5 k_.name++t) h1 (zbx h2 (by omega) (by omega)) (by simp;omega)) Tryz.call32 9999 ?_ (ha:=by simp[zcj]) (hk:=by simp[zcj]);simp[zcj];refine CI.cc [0] (zj0 k_.name 12 t (zbx (by omega) (by omega) (by omega)) (by omega)) Tryz.call87 9999 ?_;simp;refine CI.p (qhz k_) Tryz.call88 9999 ?_ (ha:=by simp[hk]);simp[hk];refine CI.cc [0] (zwi t) Tryz.call89 9999 ?_;simp;first| (refine⟨[],?_,?_,?_,?_,?_,?_,?_⟩<;>simp[nmF,inB];done)| (refine⟨by decide+kernel,?_⟩;refine⟨[],?_,?_,?_,?_,?_,?_,?_⟩<;>simp[nmF,inB])
attribute [simp] Tryz.ntmps93 Tryz.results93
theorem qbz (n:Int)(t:List UInt8)(h0:0≤n)(h1:n≤2147483647)(ht:t.length≤900000):Ct Tryz.prog 93 [.ptr 0 0] [] [(0,.cells [lst ((numB n++t).map byteC),int 0] 120)] (int n) [(0,.cells [lst ((t).map byteC),int 0] 120)]:=by
 refine Ct.B Tryz.func93 mixed 9999 400 ?_;simp;refine CI.cc [0] (zct n 2147483647 t h0 (zbx h1 (by omega) (by omega)) (by omega)) Tryz.call32 9999 ?_;simp;first| (refine⟨[],?_,?_,?_,?_,?_,?_,?_⟩<;>simp[nmF,inB];done)| (refine⟨by decide+kernel,?_⟩;refine⟨[],?_,?_,?_,?_,?_,?_,?_⟩<;>simp[nmF,inB])
attribute [simp] Tryz.ntmps130 Tryz.results130
theorem qow (w:Weight)(t:List UInt8)(hw:WIn w)(ht:t.length≤900000):Ct Tryz.prog 130 [.ptr 0 0] [] [(0,.cells [lst ((zb2 w++t).map byteC),int 0] 120)] (st (wC w)) [(0,.cells [lst ((t).map byteC),int 0] 120)]:=by
 refine Ct.B Tryz.func130 mixed 9999 400 ?_;simp;have h1:=hw.c;have h2:=zae w.w;refine CI.cc [0] (zj0 w.cluster 12 (numB w.w++t) (zbx (by omega) (by omega) (by omega)) (by simp;omega)) Tryz.call87 9999 ?_ (ha:=by simp[zb2]) (hk:=by simp[zb2]);simp[zb2];refine CI.cc [0] (zct w.w 100 t hw.w0 (zbx hw.w1 (by omega) (by omega)) (by omega)) Tryz.call32 9999 ?_;simp;first| (refine⟨[],?_,?_,?_,?_,?_,?_,?_⟩<;>simp[nmF,inB];done)| (refine⟨by decide+kernel,?_⟩;refine⟨[],?_,?_,?_,?_,?_,?_,?_⟩<;>simp[nmF,inB])
attribute [simp] Tryz.ntmps58 Tryz.results58
theorem qju (l:List Key)(lim:Int)(t:List UInt8)(hf:∀y∈l,∀t':List UInt8,t'.length≤900000→Ct Tryz.prog 55 [.ptr 0 0] [] [(0,.cells [lst ((zcj y++t').map byteC),int 0] 120)] (st (keyC y)) [(0,.cells [lst ((t').map byteC),int 0] 120)])(hy:∀y∈l,(zcj y).length≤22)(h1:l.length≤lim)(hl:l.length≤64)(h2:lim≤1000)(ht:t.length≤700000):Ct Tryz.prog 58 [.ptr 0 0,int lim,.d (fnD 55)] [] [(0,.cells [lst ((zan l zcj++t).map byteC),int 0] 120)] (lst (l.map keyC)) [(0,.cells [lst ((t).map byteC),int 0] 120)]:=by
 refine Ct.B Tryz.func58 mixed 9999 400 ?_;simp;have hall:=zdj l hy;refine CI.cc [0] (zct l.length lim (l.flatMap zcj++t) (by omega) (zbx h1 (by omega) (by omega)) (by simp only[List.length_append];omega)) Tryz.call32 9999 ?_ (ha:=by simp[zan]) (hk:=by simp[zan]);simp[zan];refine LoopI.nilOwn 7 2 135 rfl ?_;refine LoopI.U mixed (l) (fun k=>[(0,.ptr 0 0),(2,.d (fnD 55)),(7,.own 64),(11,int l.length),(12,int k.1)]) (fun k=>[(64,.grow 2 ((l.take k.1).map keyC) 135),(0,.cells [lst (((l.drop k.1).flatMap zcj++t).map byteC),int 0] 120)]) 65 [] (by constructor<;>simp) ?_;rintro⟨k,hk1⟩ B hB;refine CI.run 9999 400 rfl ?_;simp;refine sBI (fun h=>?_) (fun h=>?_)
 ·have hk:k<(l).length:=by simpa using h
  obtain⟨y,hx,hr,hm,ht,hd⟩:=inL hk;have hw:=wr (k:=k) (by omega);simp only[h];simp[hr,hw];have hd2:=zg5 l (k+1) hy;refine CI.cc [0] (hf y hm ((l.drop (k+1)).flatMap zcj++t) (by simp only[List.length_append];omega)) Tryz.call55 9999 ?_ (ha:=by simp[hd]) (hk:=by simp[hd]);simp[hd];refine⟨by omega,?_⟩;refine hB _ ⟨k+1,by omega⟩ [] ?_ (by simp;omega);constructor<;>simp[hw,ht]
 ·have hkl:k=(l).length:=by simp at h;omega
  subst hkl;simp only[h];simp[List.take_length,List.drop_length];first| (refine⟨[],?_,?_,?_,?_,?_,?_,?_⟩<;>simp[nmF,inB];done)| (refine⟨by decide+kernel,?_⟩;refine⟨[],?_,?_,?_,?_,?_,?_,?_⟩<;>simp[nmF,inB])
attribute [simp] Tryz.ntmps92 Tryz.results92
theorem qej (l:List Int)(lim:Int)(t:List UInt8)(hf:∀y∈l,∀t':List UInt8,t'.length≤900000→Ct Tryz.prog 93 [.ptr 0 0] [] [(0,.cells [lst ((numB y++t').map byteC),int 0] 120)] (int y) [(0,.cells [lst ((t').map byteC),int 0] 120)])(hy:∀y∈l,(numB y).length≤5)(h1:l.length≤lim)(hl:l.length≤8)(h2:lim≤1000)(ht:t.length≤890000):Ct Tryz.prog 92 [.ptr 0 0,int lim,.d (fnD 93)] [] [(0,.cells [lst ((zan l numB++t).map byteC),int 0] 120)] (lst (l.map intC)) [(0,.cells [lst ((t).map byteC),int 0] 120)]:=by
 refine Ct.B Tryz.func92 mixed 9999 400 ?_;simp;have hall:=zdj l hy;refine CI.cc [0] (zct l.length lim (l.flatMap numB++t) (by omega) (zbx h1 (by omega) (by omega)) (by simp only[List.length_append];omega)) Tryz.call32 9999 ?_ (ha:=by simp[zan]) (hk:=by simp[zan]);simp[zan];refine LoopI.nilOwn 7 1 3 rfl ?_;refine LoopI.U mixed (l) (fun k=>[(0,.ptr 0 0),(2,.d (fnD 93)),(7,.own 64),(11,int l.length),(12,int k.1)]) (fun k=>[(64,.grow 1 ((l.take k.1).map intC) 3),(0,.cells [lst (((l.drop k.1).flatMap numB++t).map byteC),int 0] 120)]) 65 [] (by constructor<;>simp) ?_;rintro⟨k,hk1⟩ B hB;refine CI.run 9999 400 rfl ?_;simp;refine sBI (fun h=>?_) (fun h=>?_)
 ·have hk:k<(l).length:=by simpa using h
  obtain⟨y,hx,hr,hm,ht,hd⟩:=inL hk;have hw:=wr (k:=k) (by omega);simp only[h];simp[hr,hw];have hd2:=zg5 l (k+1) hy;refine CI.cc [0] (hf y hm ((l.drop (k+1)).flatMap numB++t) (by simp only[List.length_append];omega)) Tryz.call93 9999 ?_ (ha:=by simp[hd]) (hk:=by simp[hd]);simp[hd];refine⟨by omega,?_⟩;refine hB _ ⟨k+1,by omega⟩ [] ?_ (by simp;omega);constructor<;>simp[hw,ht]
 ·have hkl:k=(l).length:=by simp at h;omega
  subst hkl;simp only[h];simp[List.take_length,List.drop_length];first| (refine⟨[],?_,?_,?_,?_,?_,?_,?_⟩<;>simp[nmF,inB];done)| (refine⟨by decide+kernel,?_⟩;refine⟨[],?_,?_,?_,?_,?_,?_,?_⟩<;>simp[nmF,inB])
attribute [simp] Tryz.ntmps129 Tryz.results129
theorem qtl (l:List Weight)(lim:Int)(t:List UInt8)(hf:∀y∈l,∀t':List UInt8,t'.length≤900000→Ct Tryz.prog 130 [.ptr 0 0] [] [(0,.cells [lst ((zb2 y++t').map byteC),int 0] 120)] (st (wC y)) [(0,.cells [lst ((t').map byteC),int 0] 120)])(hy:∀y∈l,(zb2 y).length≤22)(h1:l.length≤lim)(hl:l.length≤4)(h2:lim≤1000)(ht:t.length≤890000):Ct Tryz.prog 129 [.ptr 0 0,int lim,.d (fnD 130)] [] [(0,.cells [lst ((zan l zb2++t).map byteC),int 0] 120)] (lst (l.map wC)) [(0,.cells [lst ((t).map byteC),int 0] 120)]:=by
 refine Ct.B Tryz.func129 mixed 9999 400 ?_;simp;have hall:=zdj l hy;refine CI.cc [0] (zct l.length lim (l.flatMap zb2++t) (by omega) (zbx h1 (by omega) (by omega)) (by simp only[List.length_append];omega)) Tryz.call32 9999 ?_ (ha:=by simp[zan]) (hk:=by simp[zan]);simp[zan];refine LoopI.nilOwn 7 2 148 rfl ?_;refine LoopI.U mixed (l) (fun k=>[(0,.ptr 0 0),(2,.d (fnD 130)),(7,.own 64),(11,int l.length),(12,int k.1)]) (fun k=>[(64,.grow 2 ((l.take k.1).map wC) 148),(0,.cells [lst (((l.drop k.1).flatMap zb2++t).map byteC),int 0] 120)]) 65 [] (by constructor<;>simp) ?_;rintro⟨k,hk1⟩ B hB;refine CI.run 9999 400 rfl ?_;simp;refine sBI (fun h=>?_) (fun h=>?_)
 ·have hk:k<(l).length:=by simpa using h
  obtain⟨y,hx,hr,hm,ht,hd⟩:=inL hk;have hw:=wr (k:=k) (by omega);simp only[h];simp[hr,hw];have hd2:=zg5 l (k+1) hy;refine CI.cc [0] (hf y hm ((l.drop (k+1)).flatMap zb2++t) (by simp only[List.length_append];omega)) Tryz.call130 9999 ?_ (ha:=by simp[hd]) (hk:=by simp[hd]);simp[hd];refine⟨by omega,?_⟩;refine hB _ ⟨k+1,by omega⟩ [] ?_ (by simp;omega);constructor<;>simp[hw,ht]
 ·have hkl:k=(l).length:=by simp at h;omega
  subst hkl;simp only[h];simp[List.take_length,List.drop_length];first| (refine⟨[],?_,?_,?_,?_,?_,?_,?_⟩<;>simp[nmF,inB];done)| (refine⟨by decide+kernel,?_⟩;refine⟨[],?_,?_,?_,?_,?_,?_,?_⟩<;>simp[nmF,inB])
attribute [simp] Tryz.ntmps91 Tryz.results91
theorem qby (r:Rule)(t:List UInt8)(hr:RuleIn r)(ht:t.length≤889000):Ct Tryz.prog 91 [.ptr 0 0] [] [(0,.cells [lst ((ruleBy r++t).map byteC),int 0] 120)] (st (zbn r)) [(0,.cells [lst ((t).map byteC),int 0] 120)]:=by
 refine Ct.B Tryz.func91 mixed 9999 400 ?_;simp;have h1:=hr.host;have h2:=hr.pre;have n1:=zbp h1;have n2:=zbp h2;have h3:=hr.split;have n3:=zb1 (l:=r.split) (lay:=zb2) (m:=22) fun w hw=>zha (hr.each w hw);refine CI.cc [0] (zj0 r.host 40 (zc5 r.pre++(zan r.split zb2++t)) (zbx (by omega) (by omega) (by omega)) (by simp only[List.length_append];omega)) Tryz.call87 9999 ?_ (ha:=by simp[ruleBy]) (hk:=by simp[ruleBy]);simp[ruleBy];refine CI.cc [0] (zj0 r.pre 40 (zan r.split zb2++t) (zbx (by omega) (by omega) (by omega)) (by simp only[List.length_append];omega)) Tryz.call87 9999 ?_;simp;refine CI.cc [0] (qtl r.split 4 t (fun y hy t' ht'=>qow y t' (hr.each y hy) (by omega)) (fun y hy=>zha (hr.each y hy)) (by omega) (by omega) (by omega) (by omega)) Tryz.call129 9999 ?_;simp;first| (refine⟨[],?_,?_,?_,?_,?_,?_,?_⟩<;>simp[nmF,inB];done)| (refine⟨by decide+kernel,?_⟩;refine⟨[],?_,?_,?_,?_,?_,?_,?_⟩<;>simp[nmF,inB])
attribute [simp] Tryz.ntmps90 Tryz.results90
theorem qei (l:List Rule)(lim:Int)(t:List UInt8)(hf:∀y∈l,∀t':List UInt8,t'.length≤889000→Ct Tryz.prog 91 [.ptr 0 0] [] [(0,.cells [lst ((ruleBy y++t').map byteC),int 0] 120)] (st (zbn y)) [(0,.cells [lst ((t').map byteC),int 0] 120)])(hy:∀y∈l,(ruleBy y).length≤183)(h1:l.length≤lim)(hl:l.length≤8)(h2:lim≤1000)(ht:t.length≤880000):Ct Tryz.prog 90 [.ptr 0 0,int lim,.d (fnD 91)] [] [(0,.cells [lst ((zan l ruleBy++t).map byteC),int 0] 120)] (lst (l.map zbn)) [(0,.cells [lst ((t).map byteC),int 0] 120)]:=by
 refine Ct.B Tryz.func90 mixed 9999 400 ?_;simp;have hall:=zdj l hy;refine CI.cc [0] (zct l.length lim (l.flatMap ruleBy++t) (by omega) (zbx h1 (by omega) (by omega)) (by simp only[List.length_append];omega)) Tryz.call32 9999 ?_ (ha:=by simp[zan]) (hk:=by simp[zan]);simp[zan];refine LoopI.nilOwn 7 3 151 rfl ?_;refine LoopI.U mixed (l) (fun k=>[(0,.ptr 0 0),(2,.d (fnD 91)),(7,.own 64),(11,int l.length),(12,int k.1)]) (fun k=>[(64,.grow 3 ((l.take k.1).map zbn) 151),(0,.cells [lst (((l.drop k.1).flatMap ruleBy++t).map byteC),int 0] 120)]) 65 [] (by constructor<;>simp) ?_;rintro⟨k,hk1⟩ B hB;refine CI.run 9999 400 rfl ?_;simp;refine sBI (fun h=>?_) (fun h=>?_)
 ·have hk:k<(l).length:=by simpa using h
  obtain⟨y,hx,hr,hm,ht,hd⟩:=inL hk;have hw:=wr (k:=k) (by omega);simp only[h];simp[hr,hw];have hd2:=zg5 l (k+1) hy;refine CI.cc [0] (hf y hm ((l.drop (k+1)).flatMap ruleBy++t) (by simp only[List.length_append];omega)) Tryz.call91 9999 ?_ (ha:=by simp[hd]) (hk:=by simp[hd]);simp[hd];refine⟨by omega,?_⟩;refine hB _ ⟨k+1,by omega⟩ [] ?_ (by simp;omega);constructor<;>simp[hw,ht]
 ·have hkl:k=(l).length:=by simp at h;omega
  subst hkl;simp only[h];simp[List.take_length,List.drop_length];first| (refine⟨[],?_,?_,?_,?_,?_,?_,?_⟩<;>simp[nmF,inB];done)| (refine⟨by decide+kernel,?_⟩;refine⟨[],?_,?_,?_,?_,?_,?_,?_⟩<;>simp[nmF,inB])
attribute [simp] Tryz.ntmps57 Tryz.results57
theorem qtg (r:Res)(t:List UInt8)(hs:za8 r=0)(ht:t.length≤870000):Ct Tryz.prog 57 [.ptr 0 0] [] [(0,.cells [lst ((resB r++t).map byteC),int 0] 120)] (st (resC r)) [(0,.cells [lst ((t).map byteC),int 0] 120)]:=by
 refine Ct.B Tryz.func57 mixed 9999 400 ?_;simp;have I:=zky hs;have n2:=zbp I.name;have n3:=zae r.ver;have n4:=zue I;have i1:=I.name;refine CI.cc [0] (zct r.kind 3 (zc5 r.name++(numB r.ver++(zfz r++t))) I.k0 (zbx I.k3 (by omega) (by omega)) (by simp only[List.length_append];omega)) Tryz.call32 9999 ?_ (ha:=by simp[resB]) (hk:=by simp[resB]);simp[resB];refine CI.cc [0] (zj0 r.name 12 (numB r.ver++(zfz r++t)) (zbx (by omega) (by omega) (by omega)) (by simp only[List.length_append];omega)) Tryz.call87 9999 ?_;simp;refine CI.cc [0] (zct r.ver 2147483647 (zfz r++t) I.v0 (zbx I.v1 (by omega) (by omega)) (by simp only[List.length_append];omega)) Tryz.call32 9999 ?_;simp;rcases(show r.kind=0∨r.kind=1∨r.kind=2∨r.kind=3 from by have:=I.k0;have:=I.k3;omega)with h|h|h|h
 ·have e1:=I.noR (by omega);have e2:=I.noH (by omega);have n5:=zbp I.to;have i4:=I.to;have e3:zfz r=numB r.port++zc5 r.to:=by simp[zfz,h]
  simp[h,e3];refine CI.cc [0] (zct r.port 65535 (zc5 r.to++t) I.p0 (zbx I.p1 (by omega) (by omega)) (by simp only[List.length_append];omega)) Tryz.call32 9999 ?_;simp;refine CI.cc [0] (zj0 r.to 12 t (zbx (by omega) (by omega) (by omega)) (by omega)) Tryz.call87 9999 ?_;simp;have hs4:=zm0 r;rw[hs]at hs4;simp only[resC,e1,e2,h]at hs4;refine CI.p hs4 Tryz.call94 9999 ?_;simp;refine CI.cc [0] (zwi t) Tryz.call89 9999 ?_;simp;first| (refine⟨[],?_,?_,?_,?_,?_,?_,?_⟩<;>simp[nmF,inB,h,e1,e2];done)| (refine⟨by decide+kernel,?_⟩;refine⟨[],?_,?_,?_,?_,?_,?_,?_⟩<;>simp[nmF,inB,h,e1,e2])
 ·have e1:=I.noP (by omega);have e2:=I.noT (by omega) (by omega);have e4:=I.noH (by omega);have e3:zfz r=zan r.rules ruleBy:=by simp[zfz,h]
  simp[h,e3];refine CI.cc [0] (qei r.rules 8 t (fun y hy t' ht'=>qby y t' (I.rule y hy) (by omega)) (fun y hy=>zme (I.rule y hy)) (by have:=I.rules;omega) I.rules (by omega) (by omega)) Tryz.call90 9999 ?_;simp;have hs4:=zm0 r;rw[hs]at hs4;simp only[resC,e1,e2,e4,h]at hs4;refine CI.p hs4 Tryz.call94 9999 ?_;simp;refine CI.cc [0] (zwi t) Tryz.call89 9999 ?_;simp;first| (refine⟨[],?_,?_,?_,?_,?_,?_,?_⟩<;>simp[nmF,inB,h,e1,e2,e4];done)| (refine⟨by decide+kernel,?_⟩;refine⟨[],?_,?_,?_,?_,?_,?_,?_⟩<;>simp[nmF,inB,h,e1,e2,e4])
 ·have e1:=I.noR (by omega);have e2:=I.noH (by omega);have e4:=I.noP (by omega);have i4:=I.to;have e3:zfz r=zc5 r.to:=by simp[zfz,h]
  simp[h,e3];refine CI.cc [0] (zj0 r.to 12 t (zbx (by omega) (by omega) (by omega)) (by omega)) Tryz.call87 9999 ?_;simp;have hs4:=zm0 r;rw[hs]at hs4;simp only[resC,e1,e2,e4,h]at hs4;refine CI.p hs4 Tryz.call94 9999 ?_;simp;refine CI.cc [0] (zwi t) Tryz.call89 9999 ?_;simp;first| (refine⟨[],?_,?_,?_,?_,?_,?_,?_⟩<;>simp[nmF,inB,h,e1,e2,e4];done)| (refine⟨by decide+kernel,?_⟩;refine⟨[],?_,?_,?_,?_,?_,?_,?_⟩<;>simp[nmF,inB,h,e1,e2,e4])
 ·have e1:=I.noP (by omega);have e2:=I.noT (by omega) (by omega);have e4:=I.noR (by omega);have e3:zfz r=zan r.hosts numB:=by simp[zfz,h]
  simp[h,e3];refine CI.cc [0] (qej r.hosts 8 t (fun y hy t' ht'=>qbz y t' (I.host y hy).1 (I.host y hy).2 (by omega)) (fun y hy=>zae y) (by have:=I.hosts;omega) I.hosts (by omega) (by omega)) Tryz.call92 9999 ?_;simp;have hs4:=zm0 r;rw[hs]at hs4;simp only[resC,e1,e2,e4,h]at hs4;refine CI.p hs4 Tryz.call94 9999 ?_;simp;refine CI.cc [0] (zwi t) Tryz.call89 9999 ?_;simp;first| (refine⟨[],?_,?_,?_,?_,?_,?_,?_⟩<;>simp[nmF,inB,h,e1,e2,e4];done)| (refine⟨by decide+kernel,?_⟩;refine⟨[],?_,?_,?_,?_,?_,?_,?_⟩<;>simp[nmF,inB,h,e1,e2,e4])
attribute [simp] Tryz.ntmps56 Tryz.results56
theorem qjt (l:List Res)(lim:Int)(t:List UInt8)(hf:∀y∈l,∀t':List UInt8,t'.length≤870000→Ct Tryz.prog 57 [.ptr 0 0] [] [(0,.cells [lst ((resB y++t').map byteC),int 0] 120)] (st (resC y)) [(0,.cells [lst ((t').map byteC),int 0] 120)])(hy:∀y∈l,(resB y).length≤1496)(h1:l.length≤lim)(hl:l.length≤64)(h2:lim≤1000)(ht:t.length≤700000):Ct Tryz.prog 56 [.ptr 0 0,int lim,.d (fnD 57)] [] [(0,.cells [lst ((zan l resB++t).map byteC),int 0] 120)] (lst (l.map resC)) [(0,.cells [lst ((t).map byteC),int 0] 120)]:=by
 refine Ct.B Tryz.func56 mixed 9999 400 ?_;simp;have hall:=zdj l hy;refine CI.cc [0] (zct l.length lim (l.flatMap resB++t) (by omega) (zbx h1 (by omega) (by omega)) (by simp only[List.length_append];omega)) Tryz.call32 9999 ?_ (ha:=by simp[zan]) (hk:=by simp[zan]);simp[zan];refine LoopI.nilOwn 7 7 146 rfl ?_;refine LoopI.U mixed (l) (fun k=>[(0,.ptr 0 0),(2,.d (fnD 57)),(7,.own 64),(11,int l.length),(12,int k.1)]) (fun k=>[(64,.grow 7 ((l.take k.1).map resC) 146),(0,.cells [lst (((l.drop k.1).flatMap resB++t).map byteC),int 0] 120)]) 65 [] (by constructor<;>simp) ?_;rintro⟨k,hk1⟩ B hB;refine CI.run 9999 400 rfl ?_;simp;refine sBI (fun h=>?_) (fun h=>?_)
 ·have hk:k<(l).length:=by simpa using h
  obtain⟨y,hx,hr,hm,ht,hd⟩:=inL hk;have hw:=wr (k:=k) (by omega);simp only[h];simp[hr,hw];have hd2:=zg5 l (k+1) hy;refine CI.cc [0] (hf y hm ((l.drop (k+1)).flatMap resB++t) (by simp only[List.length_append];omega)) Tryz.call57 9999 ?_ (ha:=by simp[hd]) (hk:=by simp[hd]);simp[hd];refine⟨by omega,?_⟩;refine hB _ ⟨k+1,by omega⟩ [] ?_ (by simp;omega);constructor<;>simp[hw,ht]
 ·have hkl:k=(l).length:=by simp at h;omega
  subst hkl;simp only[h];simp[List.take_length,List.drop_length];first| (refine⟨[],?_,?_,?_,?_,?_,?_,?_⟩<;>simp[nmF,inB];done)| (refine⟨by decide+kernel,?_⟩;refine⟨[],?_,?_,?_,?_,?_,?_,?_⟩<;>simp[nmF,inB])
attribute [simp] Tryz.ntmps35 Tryz.results35
theorem qd9 (l:List Res)(t:List UInt8)(hs:∀r∈l,za8 r=0)(hl:l.length≤64)(ht:t.length≤700000):Ct Tryz.prog 35 [.ptr 0 0] [] [(0,.cells [lst ((zan l resB++t).map byteC),int 0] 120)] (lst (l.map resC)) [(0,.cells [lst ((t).map byteC),int 0] 120)]:=by
 refine Ct.B Tryz.func35 mixed 9999 400 ?_;simp;refine CI.cc [0] (qjt l 64 t (fun y hy t' ht'=>qtg y t' (hs y hy) (by omega)) (fun y hy=>zkz (zky (hs y hy))) (by omega) hl (by omega) (by omega)) Tryz.call56 9999 ?_;simp;first| (refine⟨[],?_,?_,?_,?_,?_,?_,?_⟩<;>simp[nmF,inB];done)| (refine⟨by decide+kernel,?_⟩;refine⟨[],?_,?_,?_,?_,?_,?_,?_⟩<;>simp[nmF,inB])
attribute [simp] Tryz.ntmps36 Tryz.results36
theorem zl5 (l:List Key)(t:List UInt8)(hs:∀k∈l,okK k=true)(hl:l.length≤64)(ht:t.length≤700000):Ct Tryz.prog 36 [.ptr 0 0] [] [(0,.cells [lst ((zan l zcj++t).map byteC),int 0] 120)] (lst (l.map keyC)) [(0,.cells [lst ((t).map byteC),int 0] 120)]:=by
 refine Ct.B Tryz.func36 mixed 9999 400 ?_;simp;refine CI.cc [0] (qju l 64 t (fun y hy t' ht'=>zud y t' (hs y hy) (by omega)) (fun y hy=>zdy (hs y hy)) (by omega) hl (by omega) (by omega)) Tryz.call58 9999 ?_;simp;first| (refine⟨[],?_,?_,?_,?_,?_,?_,?_⟩<;>simp[nmF,inB];done)| (refine⟨by decide+kernel,?_⟩;refine⟨[],?_,?_,?_,?_,?_,?_,?_⟩<;>simp[nmF,inB])
end Go.Proofs.YtekckhepcdndcaaGreatDoor
namespace Go.Proofs.YtekckhepcdndcaaGreatDoor
open Go.AI Go.G
set_option maxRecDepth 20000
attribute [simp] Tryz.ntmps190 Tryz.results190
theorem qtz (f:G.Frame)(hf:OkFrame f)(he:¬za0 f=0):Ct Tryz.prog 190 [st (zai f)] [] [] (.tup [nilS,int (za0 f)]) []:=by
 refine Ct.B Tryz.func190 mixed 9999 400 ?_;simp;refine CI.p (zkf f hf) Tryz.call38 9999 ?_ (ha:=by simp[he]);simp[he];first|exact fin0 (by simp) rfl|exact zaa (by simp)
set_option maxHeartbeats 1000000 in
theorem qww (f:G.Frame)(he:za0 f=0):Ct Tryz.prog 190 [st (zai f)] [] [] (.tup [lst ((putB f).map byteC),int 0]) []:=by
 refine Ct.B Tryz.func190 mixed 9999 400 ?_;simp;have F:=qvk (frameE_zero.1 he);have lk:=zb1 (l:=f.gone) (lay:=zcj) (m:=22) fun k hk=>zdy (F.gone k hk);have la:=zb1 (l:=f.adds) (lay:=resB) (m:=1496) fun r hr=>zkz (zky (F.adds r hr));have l1:=F.la;have l2:=F.lg;have l3:=F.lh;have l4:=F.ld;have n1:=zae f.epoch;have n2:=zae f.kind;have n3:=zae f.nonce;have n4:=zae f.err;have n5:=zae f.turn;have n6:=zae f.have_.length;have hy:∀m∈f.have_,(zgz m).length≤27:=fun m hm=>zlb (F.have_ m hm).1;obtain⟨x,e0⟩:∃x,numB f.type=[x]:=⟨_,qcn (by rcases F.ty with h|h|h|h<;>omega) (by rcases F.ty with h|h|h|h<;>omega)⟩;refine CI.p (zkf f (zfo he)) Tryz.call38 9999 ?_ (ha:=by simp[he]);simp[he];refine CI.p (qur f.type) Tryz.call243 9999 ?_ (ha:=by simp[e0]);simp[e0];refine CI.p (zdg x [] f.epoch (by simp)) Tryz.call243 9999 ?_;simp;refine⟨by decide+kernel,?_⟩;rcases F.ty with g0|g0|g0|g0
 all_goals rw[g0]at e0
 ·simp[g0];refine CI.p (zdg x (numB f.epoch) f.have_.length (by omega)) Tryz.call243 9999 ?_;simp;refine LoopI.U mixed (f.have_) (fun k=>[(5,lst ((x::(numB f.epoch++numB f.have_.length++(f.have_.take k.1).flatMap zgz)).map byteC)),(36,lst (f.have_.map zdx)),(37,int f.have_.length),(38,int k.1)]) (fun k=>[]) 65 [] (by constructor<;>simp) ?_;rintro⟨k,hk1⟩ B hB;refine CI.run 9999 400 rfl ?_;simp;refine sBI (fun h=>?_) (fun h=>?_)
  ·have hk:k<(f.have_).length:=by simpa using h
   obtain⟨m,hx,hr,hm,ht,hd⟩:=inL hk;have hw:=wr (k:=k) (by omega);simp only[h];simp[hr,hw];have hk2:=zg6 f.have_ k hy;have F1:=F.have_ m hm;have n7:=zdy F1.1;refine CI.p (zz6 x (numB f.epoch++numB f.have_.length++(f.have_.take k).flatMap zgz) m.k F1.1 (by simp only[List.length_append];omega)) Tryz.call244 9999 ?_;simp;refine CI.p (zdg x (numB f.epoch++numB f.have_.length++(f.have_.take k).flatMap zgz++zcj m.k) m.ver (by simp only[List.length_append];omega)) Tryz.call243 9999 ?_;simp;refine⟨by decide+kernel,?_⟩;refine hB _ ⟨k+1,by omega⟩ [] ?_ (by simp;omega);constructor<;>simp[hw,ht,zgz]
  ·have hkl:k=(f.have_).length:=by simp at h;omega
   subst hkl;simp only[h];simp[List.take_length,List.drop_length];first|exact fin0 (by simp[putB,zgo,g0,e0,zan]) rfl|exact zaa (by simp[putB,zgo,g0,e0,zan])
 ·simp[g0];refine CI.p (zdg x (numB f.epoch) f.kind (by omega)) Tryz.call243 9999 ?_;simp;refine CI.p (zdg x (numB f.epoch++numB f.kind) f.nonce (by simp;omega)) Tryz.call243 9999 ?_;simp;refine⟨by decide+kernel,?_⟩;refine CI.p (qkd x (numB f.epoch++numB f.kind++numB f.nonce) f.adds F.adds l1 (by simp;omega)) Tryz.call246 9999 ?_;simp;refine CI.p (zo2 x (numB f.epoch++numB f.kind++numB f.nonce++zan f.adds resB) f.gone F.gone l2 (by simp only[List.length_append];omega)) Tryz.call245 9999 ?_;simp;refine⟨by decide+kernel,?_⟩;first|exact fin0 (by simp[putB,zgo,g0,e0]) rfl|exact zaa (by simp[putB,zgo,g0,e0])
 ·simp[g0];refine CI.p (zdg x (numB f.epoch) f.kind (by omega)) Tryz.call243 9999 ?_;simp;refine CI.p (zdg x (numB f.epoch++numB f.kind) f.nonce (by simp;omega)) Tryz.call243 9999 ?_;simp;refine CI.p (zdg x (numB f.epoch++numB f.kind++numB f.nonce) f.err (by simp;omega)) Tryz.call243 9999 ?_;simp;refine⟨by decide+kernel,?_⟩;refine CI.p (zdg x (numB f.epoch++numB f.kind++numB f.nonce++numB f.err) f.turn (by simp;omega)) Tryz.call243 9999 ?_;simp;refine CI.p (zo2 x (numB f.epoch++numB f.kind++numB f.nonce++numB f.err++numB f.turn) f.held F.held l4 (by simp only[List.length_append];omega)) Tryz.call245 9999 ?_;simp;refine⟨by decide+kernel,?_⟩;first|exact fin0 (by simp[putB,zgo,g0,e0]) rfl|exact zaa (by simp[putB,zgo,g0,e0])
 ·simp[g0];refine CI.p (zdg x (numB f.epoch) f.turn (by omega)) Tryz.call243 9999 ?_;simp;refine CI.p (zo2 x (numB f.epoch++numB f.turn) f.held F.held l4 (by simp only[List.length_append];omega)) Tryz.call245 9999 ?_;simp;refine⟨by decide+kernel,?_⟩;first|exact fin0 (by simp[putB,zgo,g0,e0]) rfl|exact zaa (by simp[putB,zgo,g0,e0])
attribute [simp] Tryz.ntmps34 Tryz.results34
theorem qvc (l:List G.Mark)(t:List UInt8)(hs:∀m∈l,okK m.k=true∧0≤m.ver∧m.ver≤2147483647)(hl:l.length≤64)(ht:t.length≤700000):Ct Tryz.prog 34 [.ptr 0 0] [] [(0,.cells [lst ((zan l zgz++t).map byteC),int 0] 120)] (lst (l.map zdx)) [(0,.cells [lst (t.map byteC),int 0] 120)]:=by
 refine Ct.B Tryz.func34 mixed 9999 400 ?_;simp;have hy:∀m∈l,(zgz m).length≤27:=fun m hm=>zlb (hs m hm).1;have hall:=zdj l hy;refine CI.cc [0] (zct l.length 64 (l.flatMap zgz++t) (by omega) (zbx (by omega) (by omega) (by omega)) (by simp only[List.length_append];omega)) Tryz.call32 9999 ?_ (ha:=by simp[zan]) (hk:=by simp[zan]);simp[zan];refine LoopI.nilOwn 3 3 139 rfl ?_;refine LoopI.U mixed (l) (fun k=>[(0,.ptr 0 0),(3,.own 64),(6,int l.length),(7,int k.1)]) (fun k=>[(64,.grow 3 ((l.take k.1).map zdx) 139),(0,.cells [lst (((l.drop k.1).flatMap zgz++t).map byteC),int 0] 120)]) 65 [] (by constructor<;>simp) ?_;rintro⟨k,hk1⟩ B hB;refine CI.run 9999 400 rfl ?_;simp;refine sBI (fun h=>?_) (fun h=>?_)
 ·have hk:k<(l).length:=by simpa using h
  obtain⟨m,hx,hr,hm,ht,hd⟩:=inL hk;have hw:=wr (k:=k) (by omega);simp only[h];simp[hr,hw];have hd2:=zg5 l (k+1) hy;obtain⟨q1,q2,q3⟩:=hs m hm;have n1:=zae m.ver;refine CI.cc [0] (zud m.k (numB m.ver++((l.drop (k+1)).flatMap zgz++t)) q1 (by simp only[List.length_append];omega)) Tryz.call55 9999 ?_ (ha:=by simp[hd,zgz]) (hk:=by simp[hd,zgz]);simp[hd,zgz];refine CI.cc [0] (zct m.ver 2147483647 ((l.drop (k+1)).flatMap zgz++t) q2 (zbx q3 (by omega) (by omega)) (by simp only[List.length_append];omega)) Tryz.call32 9999 ?_;simp;refine⟨by omega,?_⟩;refine hB _ ⟨k+1,by omega⟩ [] ?_ (by simp;omega);constructor<;>simp[hw,ht]
 ·have hkl:k=(l).length:=by simp at h;omega
  subst hkl;simp only[h];simp[List.take_length,List.drop_length];first| (refine⟨[],?_,?_,?_,?_,?_,?_,?_⟩<;>simp[nmF,inB];done)| (refine⟨by decide+kernel,?_⟩;refine⟨[],?_,?_,?_,?_,?_,?_,?_⟩<;>simp[nmF,inB])
set_option maxHeartbeats 1000000 in
attribute [simp] Tryz.ntmps14 Tryz.results14
theorem qvi (f:G.Frame)(he:za0 f=0):Ct Tryz.prog 14 [lst ((putB f).map byteC)] [] [] (.tup [st (zai f),int 0]) []:=by
 refine Ct.B Tryz.func14 mixed 9999 400 ?_;simp;have F:=qvk (frameE_zero.1 he);have lk:=zb1 (l:=f.gone) (lay:=zcj) (m:=22) fun k hk=>zdy (F.gone k hk);have ld:=zb1 (l:=f.held) (lay:=zcj) (m:=22) fun k hk=>zdy (F.held k hk);have la:=zb1 (l:=f.adds) (lay:=resB) (m:=1496) fun r hr=>zkz (zky (F.adds r hr));have lh:=zb1 (l:=f.have_) (lay:=zgz) (m:=27) fun m hm=>zlb (F.have_ m hm).1;have l1:=F.la;have l2:=F.lg;have l3:=F.lh;have l4:=F.ld;have n1:=zae f.epoch;have n2:=zae f.kind;have n3:=zae f.nonce;have n4:=zae f.err;have n5:=zae f.turn;have hb:=zk0 (frameE_zero.1 he);have hbl:(zgo f).length≤99000:=by simp only[putB,List.length_append]at hb;omega
 refine CI.cc [320] (zct f.type 3 (numB f.epoch++zgo f) (by rcases F.ty with h|h|h|h<;>omega) (zbx (by rcases F.ty with h|h|h|h<;>omega) (by omega) (by omega)) (by simp only[List.length_append];omega)) Tryz.call32 9999 ?_ (ha:=by simp[putB]) (hk:=by simp[putB]);simp[putB];refine CI.cc [320] (zct f.epoch 2147483647 (zgo f) F.e0 (zbx F.e1 (by omega) (by omega)) (by omega)) Tryz.call32 9999 ?_;simp;have hf4:=zkf f (zfo he);rw[he]at hf4;rcases F.ty with g0|g0|g0|g0
 ·obtain⟨a1,a2,a3,a4,a5,a6,a7⟩:=F.s0 g0;have e1:zgo f=zan f.have_ zgz++[]:=by simp[zgo,g0]
  simp[g0,e1];refine CI.cc [320] (qvc f.have_ [] F.have_ l3 (by simp)) Tryz.call34 9999 ?_;simp;simp only[zai,g0,a1,a2,a3,a4,a5,a6,a7]at hf4;refine CI.cc [320] zsk Tryz.call37 9999 ?_;simp;refine CI.p hf4 Tryz.call38 9999 ?_;simp;first|exact fin0 (by simp[g0,a1,a2,a3,a4,a5,a6,a7]) rfl|exact zaa (by simp[g0,a1,a2,a3,a4,a5,a6,a7])
 ·obtain⟨a1,a2,a3,a4⟩:=F.s1 g0;have e1:zgo f=numB f.kind++(numB f.nonce++(zan f.adds resB++(zan f.gone zcj++[]))):=by simp[zgo,g0]
  simp[g0,e1];refine CI.cc [320] (zct f.kind 3 (numB f.nonce++(zan f.adds resB++(zan f.gone zcj++[]))) F.k0 (zbx F.k3 (by omega) (by omega)) (by simp only[List.length_append,List.length_nil];omega)) Tryz.call32 9999 ?_;simp;refine CI.cc [320] (zct f.nonce 2147483647 (zan f.adds resB++(zan f.gone zcj++[])) F.n0 (zbx F.n1 (by omega) (by omega)) (by simp only[List.length_append,List.length_nil];omega)) Tryz.call32 9999 ?_;simp;refine CI.cc [320] (qd9 f.adds (zan f.gone zcj++[]) F.adds l1 (by simp only[List.length_append,List.length_nil];omega)) Tryz.call35 9999 ?_;simp;refine CI.cc [320] (zl5 f.gone [] F.gone l2 (by simp)) Tryz.call36 9999 ?_;simp;simp only[zai,g0,a1,a2,a3,a4]at hf4;refine CI.cc [320] zsk Tryz.call37 9999 ?_;simp;refine CI.p hf4 Tryz.call38 9999 ?_;simp;first|exact fin0 (by simp[g0,a1,a2,a3,a4]) rfl|exact zaa (by simp[g0,a1,a2,a3,a4])
 ·obtain⟨a1,a2,a3⟩:=F.s2 g0;have e1:zgo f=numB f.kind++(numB f.nonce++(numB f.err++(numB f.turn++(zan f.held zcj++[])))):=by simp[zgo,g0]
  simp[g0,e1];refine CI.cc [320] (zct f.kind 3 (numB f.nonce++(numB f.err++(numB f.turn++(zan f.held zcj++[])))) F.k0 (zbx F.k3 (by omega) (by omega)) (by simp only[List.length_append,List.length_nil];omega)) Tryz.call32 9999 ?_;simp;refine CI.cc [320] (zct f.nonce 2147483647 (numB f.err++(numB f.turn++(zan f.held zcj++[]))) F.n0 (zbx F.n1 (by omega) (by omega)) (by simp only[List.length_append,List.length_nil];omega)) Tryz.call32 9999 ?_;simp;refine CI.cc [320] (zct f.err 15 (numB f.turn++(zan f.held zcj++[])) F.r0 (zbx F.r1 (by omega) (by omega)) (by simp only[List.length_append,List.length_nil];omega)) Tryz.call32 9999 ?_;simp;refine CI.cc [320] (zct f.turn 2147483647 (zan f.held zcj++[]) F.t0 (zbx F.t1 (by omega) (by omega)) (by simp only[List.length_append,List.length_nil];omega)) Tryz.call32 9999 ?_;simp;refine CI.cc [320] (zl5 f.held [] F.held l4 (by simp)) Tryz.call36 9999 ?_;simp;simp only[zai,g0,a1,a2,a3]at hf4;refine CI.cc [320] zsk Tryz.call37 9999 ?_;simp;refine CI.p hf4 Tryz.call38 9999 ?_;simp;first|exact fin0 (by simp[g0,a1,a2,a3]) rfl|exact zaa (by simp[g0,a1,a2,a3])
 ·obtain⟨a1,a2,a3,a4,a5,a6⟩:=F.s3 g0;have e1:zgo f=numB f.turn++(zan f.held zcj++[]):=by simp[zgo,g0]
  simp[g0,e1];refine CI.cc [320] (zct f.turn 2147483647 (zan f.held zcj++[]) F.t0 (zbx F.t1 (by omega) (by omega)) (by simp only[List.length_append,List.length_nil];omega)) Tryz.call32 9999 ?_;simp;refine CI.cc [320] (zl5 f.held [] F.held l4 (by simp)) Tryz.call36 9999 ?_;simp;simp only[zai,g0,a1,a2,a3,a4,a5,a6]at hf4;refine CI.cc [320] zsk Tryz.call37 9999 ?_;simp;refine CI.p hf4 Tryz.call38 9999 ?_;simp;first|exact fin0 (by simp[g0,a1,a2,a3,a4,a5,a6]) rfl|exact zaa (by simp[g0,a1,a2,a3,a4,a5,a6])
attribute [simp] Tryz.ntmps191 Tryz.results191
theorem qs3 (l:List UInt8)(hl:l.length≤100000):Ct Tryz.prog 191 [lst (l.map byteC)] [] [] (.tup [lst ((zkm l).map byteC),int 0]) []:=by
 refine Ct.B Tryz.func191 mixed 9999 400 ?_;simp;have n1:=zae l.length;refine sBI (fun h1=>?_) (fun h1=>?_)<;>simp only[h1]<;>simp<;>(try simp only[nT,nF,dT,dF]at h1)
 ·omega
 refine CI.cc [] (qup l.length) Tryz.call243 9999 ?_;simp;refine⟨by omega,?_⟩;first|exact fin0 (by simp[zkm]) rfl|exact zaa (by simp[zkm])
attribute [simp] Tryz.ntmps13 Tryz.results13
theorem qnq (x:UInt8)(p:List UInt8)(hl:(x::p).length≤100000):Ct Tryz.prog 13 [lst ((zkm (x::p)).map byteC)] [] [] (.tup [lst ((x::p).map byteC),int (zkm (x::p)).length,int 0]) []:=by
 refine Ct.B Tryz.func13 mixed 9999 400 ?_;simp;have n1:=zae ((x::p).length:Int);refine CI.cc [384] (zct (x::p).length 100000 (x::p) (by omega) (zbx (by omega) (by omega) (by omega)) (by omega)) Tryz.call32 9999 ?_ (ha:=by simp[zkm]) (hk:=by simp[zkm]);simp[zkm];refine⟨by omega,?_⟩;refine CI.cc [] (zy2 x p (by simp at hl;omega)) Tryz.call33 9999 ?_;simp;refine⟨by decide+kernel,?_⟩;rw[show((x::p).length:Int)=p.length+1 by simp]at n1;have hp:p.length+1≤100000:=hl;have w1:IntKind.wrap .i64 ((numB ((p.length:Int)+1)).length:Int)=(numB ((p.length:Int)+1)).length:=zab (by omega) (by omega);have w2:IntKind.wrap .i64 (((numB ((p.length:Int)+1)).length:Int)+(p.length+1))=(numB ((p.length:Int)+1)).length+(p.length+1):=zab (by omega) (by omega);first|exact fin0 (by simp[w1,w2]) rfl|exact zaa (by simp[w1,w2])
end Go.Proofs.YtekckhepcdndcaaGreatDoor
namespace Go.Proofs.YtekckhepcdndcaaGreatDoor
open Go.AI Go.G
set_option maxRecDepth 20000
theorem qmj (x:UInt8)(l:List UInt8)(hl:l.length≤1000000):Ct Tryz.prog 33 [lst ((x::l).map byteC)] [] [] (lst ((x::l).map byteC)) []:=(zy2 x l hl).data
attribute [simp] Tryz.ntmps154 Tryz.results154
theorem qpx (l:RLk)(hl:l.q.length≤1000000):Ct Tryz.prog 154 [st (rlkC l)] [] [] (bool (zou l)) []:=by
 refine Ct.B Tryz.func154 mixed 9999 400 ?_;simp;rw[qff]
 repeat' first
  | (refine sGI (fun h=>?_) (fun h=>?_)<;>simp only[h]<;>simp[h])
  | (refine sBI (fun h=>?_) (fun h=>?_)<;>simp only[h]<;>simp[h])
  | (refine⟨(show za5 _ _ from by decide+kernel),?_⟩)
  |fail
 all_goals exact fin0 (by simp[*]) rfl
attribute [simp] Tryz.ntmps114 Tryz.results114
theorem zny (l:RLk)(hl:l.q.length≤1000000):Ct Tryz.prog 114 [st (rlkC l)] [] [] (st (rlkC (zbv l))) []:=by
 refine Ct.B Tryz.func114 mixed 9999 400 ?_;simp;refine CI.p (qpx l hl) Tryz.call154 9999 ?_;simp;cases hs:zou l with
 |false=>
  have e:=qj4 hs;simp[hs];first|exact fin0 (by simp[e]) rfl|exact zaa (by simp[e])
 |true=>
  have e:=zuu hs;simp[hs];first|exact fin0 (by simp[e]) rfl|exact zaa (by simp[e])
attribute [simp] Tryz.ntmps116 Tryz.results116
theorem qe7 (l:RLk)(x:UInt8)(b:List UInt8)(h:OkLk l)(hb:(x::b).length≤200000):Ct Tryz.prog 116 [st (rlkC l),lst ((x::b).map byteC)] [] [] (.tup [st (rlkC (zsh l (x::b)).1),int (zsh l (x::b)).2]) []:=by
 refine Ct.B Tryz.func116 mixed 9999 400 ?_;simp;refine CI.p (zny l h.len) Tryz.call114 9999 ?_;simp;simp only[zsh];have h32:=zl8 l;generalize zbv l=q at*;refine sBI (fun h1=>?_) (fun h1=>?_)<;>simp only[h1]<;>simp<;>(try simp only[nT,nF,dT,dF]at h1)
 ·have e:qe8 q (x::b)=(q,8):=zma (by omega);first|exact fin0 (by simp[e]) rfl|exact zaa (by simp[e])
 ·have e:qe8 q (x::b)=(⟨q.epoch,q.q++[x::b]⟩,0):=zi0 (by omega);refine CI.p (qmj x b (by simp at hb;omega)) Tryz.call33 9999 ?_;simp;refine⟨by omega,?_⟩;refine⟨by decide+kernel,?_⟩;first|exact fin0 (by simp[e]) rfl|exact zaa (by simp[e])
attribute [simp] Tryz.ntmps115 Tryz.results115
theorem qf9 (l:RLk)(i:Int)(hl:l.q.length≤1000000)(hq:l.q≠[]):Ct Tryz.prog 115 [st (rlkC l),int i] [] [] (.tup [int (placeK l i),bool true]) []:=by
 refine Ct.B Tryz.func115 mixed 9999 400 ?_;simp;have e:=qga i hq;have hz:¬(l.q.length:Int)=0:=by have:=List.length_pos_iff.2 hq;omega
 simp[hq];first|exact fin0 (by simp[e]) rfl|exact zaa (by simp[e])
theorem qaa (e i:Int):Ct Tryz.prog 115 [st [iD e,lD []],int i] [] [] (.tup [int 0,bool false]) []:=by
 refine Ct.B Tryz.func115 mixed 9999 400 ?_;simp;first|exact fin0 (by simp) rfl|exact zaa (by simp)
attribute [simp] Tryz.ntmps192 Tryz.results192
theorem qw7 (n:Int)(h0:0<n)(h1:n≤2000000):Ct Tryz.prog 192 [nilS,int n] [] [] (.sl 64 1 0 0) [(64,.grow 1 (List.replicate n.toNat [.v (.slice none 0 0)]) 41)]:=by
 refine Ct.B Tryz.func192 mixed 9999 400 ?_;simp;have g1:¬n<0:=by omega
 have g2:IntKind.wrap .i64 n=n:=zab (by omega) (by omega);simp[g1,g2,h0];refine⟨⟨by omega,by omega⟩,by omega,?_⟩;first| (refine⟨[(64,1216)],?_,?_,?_,?_,?_,?_,?_⟩<;>simp[nmF,inB];done)| (refine⟨by decide+kernel,?_⟩;refine⟨[(64,1216)],?_,?_,?_,?_,?_,?_,?_⟩<;>simp[nmF,inB])
theorem qve :Ct Tryz.prog 192 [nilS,int 0] [] [] (nilS) []:=by
 refine Ct.B Tryz.func192 mixed 9999 400 ?_;simp;first|exact fin0 (by simp) rfl|exact zaa (by simp)
attribute [simp] Tryz.ntmps146 Tryz.results146
theorem qr6 (a b:List (List UInt8))(h1:a.length+b.length≤2000000):Ct Tryz.prog 146 [.own 0] [(0,.grow 1 [[.ro true (a.map txC)],[lD (b.map txC)]] 36)] [] (lst ((a++b).map txC)) []:=by
 refine Ct.B Tryz.func146 mixed 9999 400 ?_;simp;have w1:IntKind.wrap .i64 (a.length:Int)=a.length:=zab (by omega) (by omega);have w2:IntKind.wrap .i64 ((a.length:Int)+b.length)=a.length+b.length:=zab (by omega) (by omega);have v1:¬((a.length:Int)<0):=by omega
 have v2:¬((a.length:Int)+b.length<0):=by omega
 refine LoopI.unroll mixed (Plain.retC _ _ _ _ _) rfl ?_;refine CI.run 9999 400 rfl ?_;simp[w1,v1];refine LoopI.unroll mixed (Plain.retC _ _ _ _ _) rfl ?_;refine CI.run 9999 400 rfl ?_;simp[w2,v2];refine LoopI.unroll mixed (Plain.retC _ _ _ _ _) rfl ?_;refine CI.run 9999 400 rfl ?_;simp;by_cases h0:a.length+b.length=0
 ·have ha:a=[]:=List.eq_nil_of_length_eq_zero (by omega);have hb:b=[]:=List.eq_nil_of_length_eq_zero (by omega);subst ha;subst hb;refine CI.p qve Tryz.call192 9999 ?_;simp;refine LoopI.unroll mixed (Plain.retC _ _ _ _ _) rfl ?_;refine CI.run 9999 400 rfl ?_;simp;refine LoopI.unroll mixed (Plain.retC _ _ _ _ _) rfl ?_;refine CI.run 9999 400 rfl ?_;simp;refine LoopI.unroll mixed (Plain.retC _ _ _ _ _) rfl ?_;refine CI.run 9999 400 rfl ?_;simp;first| (refine⟨[],?_,?_,?_,?_,?_,?_,?_⟩<;>simp[nmF,inB];done)| (refine⟨by decide+kernel,?_⟩;refine⟨[],?_,?_,?_,?_,?_,?_,?_⟩<;>simp[nmF,inB])
 ·refine CI.cc [] (qw7 ((a.length:Int)+b.length) (by omega) (by omega)) Tryz.call192 9999 ?_;simp;refine LoopI.unroll mixed (Plain.retC _ _ _ _ _) rfl ?_;refine CI.run 9999 400 rfl ?_;simp;refine⟨by omega,?_⟩;refine LoopI.unroll mixed (Plain.retC _ _ _ _ _) rfl ?_;refine CI.run 9999 400 rfl ?_;simp;refine⟨by omega,?_⟩;refine LoopI.unroll mixed (Plain.retC _ _ _ _ _) rfl ?_;refine CI.run 9999 400 rfl ?_;simp;first| (refine⟨[],?_,?_,?_,?_,?_,?_,?_⟩<;>simp[nmF,inB];done)| (refine⟨by decide+kernel,?_⟩;refine⟨[],?_,?_,?_,?_,?_,?_,?_⟩<;>simp[nmF,inB])
attribute [simp] Tryz.ntmps109 Tryz.results109
theorem qd7 (l:RLk)(i:Int)(h:OkLk l):Ct Tryz.prog 109 [st (rlkC l),int i] [] [] (.tup [st (rlkC (zoi l i).1),lst ((zoi l i).2.1.map byteC),int (zoi l i).2.2]) []:=by
 refine Ct.B Tryz.func109 mixed 9999 400 ?_;simp;refine CI.p (zny l h.len) Tryz.call114 9999 ?_;simp;simp only[zoi];have h32:=zl8 l;have h':=h.sound;generalize zbv l=q at*;by_cases hq:q.q=[]
 ·obtain⟨e,q⟩:=q;simp only at hq;subst hq;refine CI.p (qaa e i) Tryz.call115 9999 ?_;simp;have e1:= @zqr e i;first|exact fin0 (by simp[e1]) rfl|exact zaa (by simp[e1])
 ·have e1:=zqq (i:=i) hq;have e2:=zk3 i hq;refine CI.p (qf9 q i (by omega) hq) Tryz.call115 9999 ?_;simp;generalize placeK q i=k at*;have w1:IntKind.wrap .i64 ((k:Int)+1)=k+1:=zab (by omega) (by omega);have w2:((k:Int)+1).toNat=k+1:=by omega
  simp[e2,w1,w2];refine⟨by omega,?_⟩;refine⟨⟨by omega,by omega⟩,?_⟩;have e3:q.q[k]?.getD []=q.q[k]:=by simp[e2]
  refine CI.cc [2176] (qr6 (q.q.take k) (q.q.drop (k+1)) (by simp;omega)) Tryz.call146 9999 ?_;simp;refine⟨by decide+kernel,?_⟩;first|exact fin0 (by simp[e1,e3]) rfl|exact zaa (by simp[e1,e3])
attribute [simp] Tryz.ntmps73 Tryz.results73
theorem qvz (l:RLk)(i:Int)(h:OkLk l):Ct Tryz.prog 73 [st (rlkC l),int i] [] [] (.tup [st (rlkC (qc7 l i).1),int (qc7 l i).2]) []:=by
 refine Ct.B Tryz.func73 mixed 9999 400 ?_;simp;refine CI.p (qd7 l i h) Tryz.call109 9999 ?_;simp;first|exact fin0 (by simp[qc7]) rfl|exact zaa (by simp[qc7])
attribute [simp] Tryz.ntmps74 Tryz.results74
theorem qsw (l:RLk)(i:Int)(h:OkLk l):Ct Tryz.prog 74 [st (rlkC l),int i] [] [] (.tup [st (rlkC (zw9 l i).1),int (zw9 l i).2]) []:=by
 refine Ct.B Tryz.func74 mixed 9999 400 ?_;simp;refine CI.p (zny l h.len) Tryz.call114 9999 ?_;simp;have h32:=zl8 l;have h':=h.sound;unfold zw9;generalize zbv l=q at*;by_cases hq:q.q=[]
 ·obtain⟨e,q⟩:=q;simp only at hq;subst hq;refine CI.p (qaa e i) Tryz.call115 9999 ?_;simp;first|exact fin0 (by simp) rfl|exact zaa (by simp)
 ·have e2:=zk3 i hq;refine CI.p (qf9 q i (by omega) hq) Tryz.call115 9999 ?_;simp;generalize placeK q i=k at*;obtain⟨g1,g2⟩:=h'.getD e2;have e3:q.q.getD k []=q.q[k]:=by simp[e2]
  rw[e3]at g1 g2;simp only[e3,if_neg hq];simp[e2];generalize q.q[k]=b at*;cases b with
  |nil=>exact absurd rfl g1
  |cons x b=>
   refine CI.p (qe7 q x b h' g2) Tryz.call116 9999 ?_;simp;first|exact fin0 (by simp) rfl|exact zaa (by simp)
attribute [simp] Tryz.ntmps75 Tryz.results75
theorem qu1 (l:RLk)(i:Int)(h:OkLk l):Ct Tryz.prog 75 [st (rlkC l),int i] [] [] (.tup [st (rlkC (qhg l i).1),int (qhg l i).2]) []:=by
 refine Ct.B Tryz.func75 mixed 9999 400 ?_;simp;refine CI.p (qd7 l i h) Tryz.call109 9999 ?_;simp;unfold qhg zoi;have h':=h.sound;generalize zbv l=q at*;by_cases hq:q.q=[]
 ·obtain⟨e,q⟩:=q;simp only at hq;subst hq;have e1:= @zqr e i;simp[e1];first|exact fin0 (by simp) rfl|exact zaa (by simp)
 ·have e2:=zk3 i hq;have h2:=h'.take i;have e1:=zqq (i:=i) hq;obtain⟨g1,g2⟩:=h'.getD e2;rw[e1]at h2⊢;simp only[if_neg hq]at h2⊢;generalize q.q.getD (placeK q i) []=b at*;simp;cases b with
  |nil=>exact absurd rfl g1
  |cons x b=>
   refine CI.p (qe7 ⟨q.epoch,q.q.take (placeK q i)++q.q.drop (placeK q i+1)⟩ x b h2 g2) Tryz.call116 9999 ?_;simp;first|exact fin0 (by simp) rfl|exact zaa (by simp)
attribute [simp] Tryz.ntmps155 Tryz.results155
theorem qp1 (l:RLk)(hl:l.q.length≤1000000):Ct Tryz.prog 155 [st (rlkC l)] [] [] (.tup [st (rlkC (zz2 l).1),int (zz2 l).2]) []:=by
 refine Ct.B Tryz.func155 mixed 9999 400 ?_;simp;refine CI.p (zny l hl) Tryz.call114 9999 ?_;simp;obtain⟨h1,h2⟩:=qb8 l;unfold zz2;generalize zbv l=q at*;refine sBI (fun h3=>?_) (fun h3=>?_)<;>simp only[h3]<;>simp<;>(try simp only[nT,nF,dT,dF]at h3)
 ·first|exact fin0 (by simp[h3]) rfl|exact zaa (by simp[h3])
 ·have w1:IntKind.wrap .i64 (q.epoch+1)=q.epoch+1:=zab (by omega) (by omega);first|exact fin0 (by simp[h3,w1]) rfl|exact zaa (by simp[h3,w1])
end Go.Proofs.YtekckhepcdndcaaGreatDoor
