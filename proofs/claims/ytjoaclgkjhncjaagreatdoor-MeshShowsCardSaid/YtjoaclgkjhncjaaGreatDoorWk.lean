/-
  LAYERS 10 to 12: the walks of records, frames, streams and links.
-/
import Derived.Test.YtjoaclgkjhncjaaGreatDoorWa
import Derived.Test.YtjoaclgkjhncjaaGreatDoorPq
import Derived.Test.YtjoaclgkjhncjaaGreatDoorFd
import Derived.Test.YtjoaclgkjhncjaaGreatDoorWh
import Derived.Test.YtjoaclgkjhncjaaGreatDoorWf
set_option linter.unusedSimpArgs false
set_option linter.unusedVariables false
namespace Go.Proofs.YtjoaclgkjhncjaaGreatDoor
open Go.AI Go.G
set_option maxRecDepth 20000
attribute [simp] byteC
abbrev nilS :AV:=.d (.v (.slice none 0 0))
attribute [simp] Tryz.ntmps291 Tryz.results291
theorem qtj (n:Int):Ct Tryz.prog 291 [int n] [] [] (int (bndN n)) []:=by
 refine Ct.B Tryz.func291 mixed 9999 400 ?_;simp;have e:=qn3 n;first|exact fin0 (by simp[e]) rfl|exact zaa (by simp[e])
attribute [simp] Tryz.ntmps188 Tryz.results188
theorem qns :Ct Tryz.prog 188 [nilS] [] [] (nilS) []:=by
 refine Ct.B Tryz.func188 mixed 9999 400 ?_;simp;first|exact fin0 (by simp) rfl|exact zaa (by simp)
theorem zz9 (x:UInt8)(l:List UInt8)(hl:l.length≤1000000):Ct Tryz.prog 188 [lst ((x::l).map byteC)] [] [] (.own 64) [(64,.grow 1 ((x::l).map byteC) 5)]:=by
 refine Ct.B Tryz.func188 mixed 9999 400 ?_;simp;refine⟨by omega,?_⟩;first| (refine⟨[(64,384)],?_,?_,?_,?_,?_,?_,?_⟩<;>simp[nmF,inB];done)| (refine⟨by decide+kernel,?_⟩;refine⟨[(64,384)],?_,?_,?_,?_,?_,?_,?_⟩<;>simp[nmF,inB])
attribute [simp] Tryz.ntmps286 Tryz.results286
theorem qvx (n:Int):Ct Tryz.prog 286 [nilS,int n] [] [] (.own 64) [(64,.grow 1 ((numB n).map byteC) 5)]:=by
 refine Ct.B Tryz.func286 mixed 9999 400 ?_;simp;refine CI.p qns Tryz.call188 9999 ?_;simp;refine CI.p (qtj n) Tryz.call291 9999 ?_;simp;obtain⟨m,e0,e1,e2⟩:=zo3 n;simp[e0];refine LoopI.nilOwn 5 1 5 rfl ?_;refine LoopI.inv mixed rfl (ι:={z:List UInt8×Nat×Nat//NumI m z.1 z.2.1 z.2.2}) (fun k=>[(1,int k.1.2.1),(5,.own 64)]) (fun k=>[(64,.grow 1 (k.1.1.map byteC) 5)]) 65 (fun k=>k.1.2.2) ⟨([],m,5),.start e1⟩ [] (by constructor<;>simp) ?_;rintro⟨⟨q,n,f⟩,hI⟩ B hB;simp only at hI;refine CI.run 9999 400 rfl ?_;simp;have hs:=hI.small;have hql:q.length≤5:=by have:=hI.l;omega
 have hf:=hI.f1;have w1:=qbo n hs;have w2:(n:Int).fdiv (2^min 7 IntKind.i64.bits)=((n/128:Nat):Int):=qhy n;refine sBI (fun h1=>?_) (fun h1=>?_)<;>simp only[h1]<;>simp[w1,w2]<;>(try simp only[nT,nF,dT,dF]at h1)
 ·refine⟨by omega,?_⟩;refine hB _ ⟨(q++[UInt8.ofNat (n%128+128)],n/128,f-1),hI.step (by omega)⟩ [] ?_ (by simp;omega);constructor<;>simp[w2]
 ·have h1':n<128:=by omega
  have w3:=qbp n h1';have e3:=hI.last h1';simp[w3];refine⟨by omega,?_⟩;first| (refine⟨[(64,449)],?_,?_,?_,?_,?_,?_,?_⟩<;>simp[nmF,inB,e2,←e3];done)| (refine⟨by decide+kernel,?_⟩;refine⟨[(64,449)],?_,?_,?_,?_,?_,?_,?_⟩<;>simp[nmF,inB,e2,←e3])
theorem qvy (x:UInt8)(l:List UInt8)(n:Int)(hl:l.length≤1000000):Ct Tryz.prog 286 [lst ((x::l).map byteC),int n] [] [] (.own 64) [(64,.grow 1 ((x::l++numB n).map byteC) 5)]:=by
 refine Ct.B Tryz.func286 mixed 9999 400 ?_;simp;refine CI.cc [] (zz9 x l hl) Tryz.call188 9999 ?_;simp;refine CI.p (qtj n) Tryz.call291 9999 ?_;simp;obtain⟨m,e0,e1,e2⟩:=zo3 n;simp[e0];refine LoopI.inv mixed rfl (ι:={z:List UInt8×Nat×Nat//NumI m z.1 z.2.1 z.2.2}) (fun k=>[(1,int k.1.2.1),(5,.own 64)]) (fun k=>[(64,.grow 1 ((x::l++k.1.1).map byteC) 5)]) 65 (fun k=>k.1.2.2) ⟨([],m,5),.start e1⟩ [] (by constructor<;>simp) ?_;rintro⟨⟨q,n,f⟩,hI⟩ B hB;simp only at hI;refine CI.run 9999 400 rfl ?_;simp;have hs:=hI.small;have hql:q.length≤5:=by have:=hI.l;omega
 have hf:=hI.f1;have w1:=qbo n hs;have w2:(n:Int).fdiv (2^min 7 IntKind.i64.bits)=((n/128:Nat):Int):=qhy n;refine sBI (fun h1=>?_) (fun h1=>?_)<;>simp only[h1]<;>simp[w1,w2]<;>(try simp only[nT,nF,dT,dF]at h1)
 ·refine⟨by omega,?_⟩;refine hB _ ⟨(q++[UInt8.ofNat (n%128+128)],n/128,f-1),hI.step (by omega)⟩ [] ?_ (by simp;omega);constructor<;>simp[w2]
 ·have h1':n<128:=by omega
  have w3:=qbp n h1';have e3:=hI.last h1';simp[w3];refine⟨by omega,?_⟩;first| (refine⟨[(64,449)],?_,?_,?_,?_,?_,?_,?_⟩<;>simp[nmF,inB,e2,←e3];done)| (refine⟨by decide+kernel,?_⟩;refine⟨[(64,449)],?_,?_,?_,?_,?_,?_,?_⟩<;>simp[nmF,inB,e2,←e3])
attribute [simp] Tryz.ntmps348 Tryz.results348
theorem quj (x:UInt8)(l:List UInt8)(s:Str)(hl:l.length≤1000000)(hs:(bs s).length≤1000000):Ct Tryz.prog 348 [lst ((x::l).map byteC),str s] [] [] (.own 64) [(64,.grow 1 ((x::l++zdc s).map byteC) 5)]:=by
 refine Ct.B Tryz.func348 mixed 9999 400 ?_;simp;have h5:=zad ((bs s).length:Int);have e:List.map (fun c:UInt8=>[D.v (.int .u8 c.toNat)]) (ByteArray.toList s)=(bs s).map byteC:=zyu s;have e1:ByteArray.size s=(bs s).length:=zbq s;refine CI.cc [] (qvy x l (bs s).length hl) Tryz.call286 9999 ?_ (ha:=by simp[e,e1]) (hk:=by simp[e,e1]);simp[e,e1];refine⟨by omega,?_⟩;first| (refine⟨[(64,448)],?_,?_,?_,?_,?_,?_,?_⟩<;>simp[nmF,inB,zdc];done)| (refine⟨by decide+kernel,?_⟩;refine⟨[(64,448)],?_,?_,?_,?_,?_,?_,?_⟩<;>simp[nmF,inB,zdc])
theorem qvz (n:Int):Ct Tryz.prog 286 [nilS,int n] [] [] (lst ((numB n).map byteC)) []:=(qvx n).data
theorem zdo (x:UInt8)(l:List UInt8)(n:Int)(hl:l.length≤1000000):Ct Tryz.prog 286 [lst ((x::l).map byteC),int n] [] [] (lst ((x::l++numB n).map byteC)) []:=(qvy x l n hl).data
theorem zj9 (x:UInt8)(l:List UInt8)(s:Str)(hl:l.length≤1000000)(hs:(bs s).length≤1000000):Ct Tryz.prog 348 [lst ((x::l).map byteC),str s] [] [] (lst ((x::l++zdc s).map byteC)) []:=(quj x l s hl hs).data
attribute [simp] Tryz.ntmps290 Tryz.results290
theorem qro (n:Int)(t:List UInt8)(h0:0≤n)(h:n≤2147483647)(ht:t.length≤1000000):Ct Tryz.prog 290 [.ptr 0 0] [(0,.cells [lst ((numB n++t).map byteC),int 0] 324)] [] (.tup [int n,int (numB n).length,int 0]) []:=by
 refine Ct.B Tryz.func290 mixed 9999 400 ?_;simp;have hq5:=zad n;obtain⟨M,e,m1,m2,m3⟩:=qws (numB n).length t.length hq5;refine⟨⟨by split<;>omega,by split<;>omega⟩,?_⟩;refine⟨by decide+kernel,?_⟩;simp only[e,m3];obtain⟨m,rfl⟩:∃m:Nat,n=m:=⟨n.toNat,by omega⟩;have hq:numB (m:Int)=numF 5 m:=by obtain⟨x,e0,e1,e2⟩:=zo3 (m:Int);rw[qad h0 h]at e0;rw[e2];congr 1;omega
 have hs:=ParI.start (m:=m) (by omega);rw[←hq]at hs;generalize numB (m:Int)=q at*;refine LoopI.inv mixed rfl (ι:={z:Nat×Nat×Nat//ParI m q z.1 z.2.1 z.2.2}) (fun k=>[(0,.ptr 0 0),(5,int k.1.2.1),(20,int k.1.1),(19,int M),(18,lst ((q++t).map byteC|>.take M))]) (fun k=>[(0,.cells [lst ((q++t).map byteC),int 0] 324)]) 64 (fun k=>5-k.1.1) ⟨(0,0,m),hs⟩ [] (by constructor<;>simp[m3]) ?_;rintro⟨⟨k,n0,r⟩,hI⟩ B hB;simp only at hI;have hk4:=hI.k4;have w0:IntKind.wrap .i64 ((k:Int)*7)=((7*k:Nat):Int):=by rw[zab (by omega) (by omega)];omega
 have w1:IntKind.wrap .u64 (7*(k:Int))=7*(k:Int):=by show(7*(k:Int))%2^64=_;omega
 have wk:IntKind.wrap .i64 ((k:Int)+1)=k+1:=zab (by omega) (by omega);have w3:(7*(k:Int)).toNat=7*k:=by omega
 have w2:min (7*k) IntKind.i64.bits=7*k:=by show min (7*k) 64=_;omega
 by_cases hr:r<128
 ·obtain⟨a1,a2⟩:=hI.last hr;have hkM:k<M:=by omega
  have hkq:k<q.length:=by omega
  obtain⟨p1,p2⟩:=qoq hk4 hI.n0 hr;have l1:zm7 .u8 (r:Int) 128=r:=by rw[qbu r (by omega)];omega
  have l2:IntKind.wrap .i64 (r:Int)=r:=zab (by omega) (by omega);have b0:((q[k]).toNat:Int)=r:=by rw[List.getElem?_eq_getElem hkq]at a1;rw[Option.some.inj a1,qap _ (by omega)]
  refine CI.run 9999 400 rfl ?_;simp[m3,hkM,hkq,b0,List.getElem?_append,w0,w1,w2,w3,l1,l2,p1,p2];refine⟨by omega,?_⟩;refine sBI (fun g1=>?_) (fun g1=>?_)<;>simp only[g1]<;>simp<;>(try simp only[nT,nF,dT,dF]at g1)
  ·omega
  have e5:(n0:Int)+2^(7*k)*r=m:=by exact_mod_cast hI.m.symm
  have e6:(q.length:Int)=k+1:=by omega
  have e7:r=0→k=0:=fun h=>by have:=hI.pos;omega
  refine sGI (fun g2=>?_) (fun g2=>?_)<;>simp only[g2]<;>simp[Nat.pos_iff_ne_zero]
  ·have e8:=e7 (of_decide_eq_true g2);simp[e8];rw[e8]at e5 e6;simp at e5 e6;first| (refine⟨[],?_,?_,?_,?_,?_,?_,?_⟩<;>simp[nmF,inB,e5,e6];done)| (refine⟨by decide+kernel,?_⟩;refine⟨[],?_,?_,?_,?_,?_,?_,?_⟩<;>simp[nmF,inB,e5,e6])
  ·first| (refine⟨[],?_,?_,?_,?_,?_,?_,?_⟩<;>simp[nmF,inB,wk,e5,e6];done)| (refine⟨by decide+kernel,?_⟩;refine⟨[],?_,?_,?_,?_,?_,?_,?_⟩<;>simp[nmF,inB,wk,e5,e6])
 ·obtain⟨a1,a2,a3⟩:=hI.more hr;have hkM:k<M:=by omega
  have hkq:k<q.length:=by omega
  obtain⟨p1,p2⟩:=qoq hk4 hI.n0 (c:=r%128) (by omega);have l1:zm7 .u8 ((r:Int)%128+128) 128=((r%128:Nat):Int):=by
   have:=qbu (r%128+128) (by omega);rw[show((r:Int)%128+128)=((r%128+128:Nat):Int) by omega,this];omega
  have l2:IntKind.wrap .i64 ((r:Int)%128)=(r:Int)%128:=zab (by omega) (by omega);rw[show((r%128:Nat):Int)=(r:Int)%128 by omega]at p1 p2;have b0:((q[k]).toNat:Int)=(r:Int)%128+128:=by rw[List.getElem?_eq_getElem hkq]at a1;rw[Option.some.inj a1,qap _ (by omega)];omega
  refine CI.run 9999 400 rfl ?_;simp[m3,hkM,hkq,b0,List.getElem?_append,w0,w1,w2,w3,l1,l2,p1,p2];refine⟨by omega,?_⟩;refine sBI (fun g1=>?_) (fun g1=>?_)<;>simp only[g1]<;>simp<;>(try simp only[nT,nF,dT,dF]at g1)
  ·refine hB _ ⟨(k+1,n0+2^(7*k)*(r%128),r/128),a3⟩ [] ?_ (by simp;omega);constructor<;>simp[wk]
  ·omega
attribute [simp] Tryz.ntmps230 Tryz.results230
theorem zc4 (n lim:Int)(t:List UInt8)(h0:0≤n)(h1:n≤bndN lim)(ht:t.length≤1000000):Ct Tryz.prog 230 [.ptr 0 0,int lim] [] [(0,.cells [lst ((numB n++t).map byteC),int 0] 324)] (int n) [(0,.cells [lst (t.map byteC),int 0] 324)]:=by
 refine Ct.B Tryz.func230 mixed 9999 400 ?_;simp;have hb:bndN lim≤2147483647:=by unfold bndN;omega
 refine CI.cc [0] (qro n t h0 (by omega) ht) Tryz.call290 9999 ?_;simp;refine CI.p (qtj lim) Tryz.call291 9999 ?_;simp;refine sBI (fun h3=>?_) (fun h3=>?_)<;>simp only[h3]<;>simp<;>(try simp only[nT,nF,dT,dF]at h3)
 ·omega
 have e:=zxw (numB n) t;refine⟨by omega,?_⟩;first| (refine⟨[],?_,?_,?_,?_,?_,?_,?_⟩<;>simp[nmF,inB,e];done)| (refine⟨by decide+kernel,?_⟩;refine⟨[],?_,?_,?_,?_,?_,?_,?_⟩<;>simp[nmF,inB,e])
attribute [simp] Tryz.ntmps355 Tryz.results355
theorem zkf (s:Str)(lim:Int)(t:List UInt8)(h1:((bs s).length:Int)≤bndN lim)(ht:(bs s).length+t.length≤1000000):Ct Tryz.prog 355 [.ptr 0 0,int lim] [] [(0,.cells [lst ((zdc s++t).map byteC),int 0] 324)] (str s) [(0,.cells [lst (t.map byteC),int 0] 324)]:=by
 refine Ct.B Tryz.func355 mixed 9999 400 ?_;simp;have hb:bndN lim≤2147483647:=by unfold bndN;omega
 refine CI.cc [0] (zc4 (bs s).length lim (bs s++t) (by omega) h1 (by simp;omega)) Tryz.call230 9999 ?_ (ha:=by simp[zdc]) (hk:=by simp[zdc]);simp[zdc];refine sBI (fun h3=>?_) (fun h3=>?_)<;>simp only[h3]<;>simp<;>(try simp only[nT,nF,dT,dF]at h3)
 ·omega
 have e:=zxw (bs s) t;have e1:=qpq s;refine⟨by omega,?_⟩;first| (refine⟨[],?_,?_,?_,?_,?_,?_,?_⟩<;>simp[nmF,inB,e,e1];done)| (refine⟨by decide+kernel,?_⟩;refine⟨[],?_,?_,?_,?_,?_,?_,?_⟩<;>simp[nmF,inB,e,e1])
attribute [simp] Tryz.ntmps234 Tryz.results234
theorem zto :Ct Tryz.prog 234 [.ptr 0 0] [] [(0,.cells [lst [],int 0] 324)] (int 0) [(0,.cells [lst [],int 0] 324)]:=by
 refine Ct.B Tryz.func234 mixed 9999 400 ?_;simp;first| (refine⟨[],?_,?_,?_,?_,?_,?_,?_⟩<;>simp[nmF,inB];done)| (refine⟨by decide+kernel,?_⟩;refine⟨[],?_,?_,?_,?_,?_,?_,?_⟩<;>simp[nmF,inB])
end Go.Proofs.YtjoaclgkjhncjaaGreatDoor
namespace Go.Proofs.YtjoaclgkjhncjaaGreatDoor
open Go.AI Go.G
set_option maxRecDepth 20000
attribute [simp] Tryz.ntmps389 Tryz.results389
theorem qnl (x:UInt8)(b:List UInt8)(l:List Int)(kf:D)(lay:Int→List UInt8)(m B:Nat)(hB:B≤900000)(hf:∀y∈l,∀b':List UInt8,b'.length≤B→FnOk Tryz.prog (.d kf) [lst ((x::b').map byteC),int y] (lst ((x::b'++lay y).map byteC)))(hly:∀y∈l,(lay y).length≤m)(hs:b.length+5+l.length*m≤B)(hl:l.length≤200000):Ct Tryz.prog 389 [lst ((x::b).map byteC),lst (l.map intC),.d kf] [] [] (lst ((x::b++zaq l lay).map byteC)) []:=by
 refine Ct.B Tryz.func389 mixed 9999 400 ?_;simp;have hn:=zad l.length;refine CI.p (zdo x b l.length (by omega)) Tryz.call286 9999 ?_;simp;refine LoopI.U mixed (l) (fun k=>[(0,lst ((x::(b++numB l.length++(l.take k.1).flatMap lay)).map byteC)),(2,.d kf),(13,lst (l.map intC)),(14,int l.length),(15,int k.1)]) (fun k=>[]) 65 [] (by constructor<;>simp) ?_;rintro⟨k,hk1⟩ B hB;refine CI.run 9999 400 rfl ?_;simp;refine sBI (fun h=>?_) (fun h=>?_)
 ·have hk:k<(l).length:=by simpa using h
  obtain⟨y,hx,hr,hm,ht,hd⟩:=inL hk;have hw:=wr (k:=k) (by omega);simp only[h];simp[hr,hw];have hk2:=zhn l k hly;refine CI.ff (hf y hm (b++numB l.length++(l.take k).flatMap lay) (by simp only[List.length_append];omega)) rfl rfl rfl 9999 ?_;simp;refine hB _ ⟨k+1,by omega⟩ [] ?_ (by simp;omega);constructor<;>simp[hw,ht,zaq]
 ·have hkl:k=(l).length:=by simp at h;omega
  subst hkl;simp only[h];simp[List.take_length,List.drop_length];first|exact fin0 (by simp[zaq]) rfl|exact zaa (by simp[zaq])
attribute [simp] Tryz.ntmps401 Tryz.results401
theorem qw2 (x:UInt8)(b:List UInt8)(l:List Weight)(kf:D)(lay:Weight→List UInt8)(m B:Nat)(hB:B≤900000)(hf:∀y∈l,∀b':List UInt8,b'.length≤B→FnOk Tryz.prog (.d kf) [lst ((x::b').map byteC),st (wC y)] (lst ((x::b'++lay y).map byteC)))(hly:∀y∈l,(lay y).length≤m)(hs:b.length+5+l.length*m≤B)(hl:l.length≤200000):Ct Tryz.prog 401 [lst ((x::b).map byteC),lst (l.map wC),.d kf] [] [] (lst ((x::b++zaq l lay).map byteC)) []:=by
 refine Ct.B Tryz.func401 mixed 9999 400 ?_;simp;have hn:=zad l.length;refine CI.p (zdo x b l.length (by omega)) Tryz.call286 9999 ?_;simp;refine LoopI.U mixed (l) (fun k=>[(0,lst ((x::(b++numB l.length++(l.take k.1).flatMap lay)).map byteC)),(2,.d kf),(13,lst (l.map wC)),(14,int l.length),(15,int k.1)]) (fun k=>[]) 65 [] (by constructor<;>simp) ?_;rintro⟨k,hk1⟩ B hB;refine CI.run 9999 400 rfl ?_;simp;refine sBI (fun h=>?_) (fun h=>?_)
 ·have hk:k<(l).length:=by simpa using h
  obtain⟨y,hx,hr,hm,ht,hd⟩:=inL hk;have hw:=wr (k:=k) (by omega);simp only[h];simp[hr,hw];have hk2:=zhn l k hly;refine CI.ff (hf y hm (b++numB l.length++(l.take k).flatMap lay) (by simp only[List.length_append];omega)) rfl rfl rfl 9999 ?_;simp;refine hB _ ⟨k+1,by omega⟩ [] ?_ (by simp;omega);constructor<;>simp[hw,ht,zaq]
 ·have hkl:k=(l).length:=by simp at h;omega
  subst hkl;simp only[h];simp[List.take_length,List.drop_length];first|exact fin0 (by simp[zaq]) rfl|exact zaa (by simp[zaq])
attribute [simp] Tryz.ntmps387 Tryz.results387
theorem qjq (x:UInt8)(b:List UInt8)(l:List Rule)(kf:D)(lay:Rule→List UInt8)(m B:Nat)(hB:B≤900000)(hf:∀y∈l,∀b':List UInt8,b'.length≤B→FnOk Tryz.prog (.d kf) [lst ((x::b').map byteC),st (zbk y)] (lst ((x::b'++lay y).map byteC)))(hly:∀y∈l,(lay y).length≤m)(hs:b.length+5+l.length*m≤B)(hl:l.length≤200000):Ct Tryz.prog 387 [lst ((x::b).map byteC),lst (l.map zbk),.d kf] [] [] (lst ((x::b++zaq l lay).map byteC)) []:=by
 refine Ct.B Tryz.func387 mixed 9999 400 ?_;simp;have hn:=zad l.length;refine CI.p (zdo x b l.length (by omega)) Tryz.call286 9999 ?_;simp;refine LoopI.U mixed (l) (fun k=>[(0,lst ((x::(b++numB l.length++(l.take k.1).flatMap lay)).map byteC)),(2,.d kf),(13,lst (l.map zbk)),(14,int l.length),(15,int k.1)]) (fun k=>[]) 65 [] (by constructor<;>simp) ?_;rintro⟨k,hk1⟩ B hB;refine CI.run 9999 400 rfl ?_;simp;refine sBI (fun h=>?_) (fun h=>?_)
 ·have hk:k<(l).length:=by simpa using h
  obtain⟨y,hx,hr,hm,ht,hd⟩:=inL hk;have hw:=wr (k:=k) (by omega);simp only[h];simp[hr,hw];have hk2:=zhn l k hly;refine CI.ff (hf y hm (b++numB l.length++(l.take k).flatMap lay) (by simp only[List.length_append];omega)) rfl rfl rfl 9999 ?_;simp;refine hB _ ⟨k+1,by omega⟩ [] ?_ (by simp;omega);constructor<;>simp[hw,ht,zaq]
 ·have hkl:k=(l).length:=by simp at h;omega
  subst hkl;simp only[h];simp[List.take_length,List.drop_length];first|exact fin0 (by simp[zaq]) rfl|exact zaa (by simp[zaq])
attribute [simp] Tryz.ntmps349 Tryz.results349
theorem qnk (x:UInt8)(b:List UInt8)(l:List Key)(kf:D)(lay:Key→List UInt8)(m B:Nat)(hB:B≤900000)(hf:∀y∈l,∀b':List UInt8,b'.length≤B→FnOk Tryz.prog (.d kf) [lst ((x::b').map byteC),st (keyC y)] (lst ((x::b'++lay y).map byteC)))(hly:∀y∈l,(lay y).length≤m)(hs:b.length+5+l.length*m≤B)(hl:l.length≤200000):Ct Tryz.prog 349 [lst ((x::b).map byteC),lst (l.map keyC),.d kf] [] [] (lst ((x::b++zaq l lay).map byteC)) []:=by
 refine Ct.B Tryz.func349 mixed 9999 400 ?_;simp;have hn:=zad l.length;refine CI.p (zdo x b l.length (by omega)) Tryz.call286 9999 ?_;simp;refine LoopI.U mixed (l) (fun k=>[(0,lst ((x::(b++numB l.length++(l.take k.1).flatMap lay)).map byteC)),(2,.d kf),(13,lst (l.map keyC)),(14,int l.length),(15,int k.1)]) (fun k=>[]) 65 [] (by constructor<;>simp) ?_;rintro⟨k,hk1⟩ B hB;refine CI.run 9999 400 rfl ?_;simp;refine sBI (fun h=>?_) (fun h=>?_)
 ·have hk:k<(l).length:=by simpa using h
  obtain⟨y,hx,hr,hm,ht,hd⟩:=inL hk;have hw:=wr (k:=k) (by omega);simp only[h];simp[hr,hw];have hk2:=zhn l k hly;refine CI.ff (hf y hm (b++numB l.length++(l.take k).flatMap lay) (by simp only[List.length_append];omega)) rfl rfl rfl 9999 ?_;simp;refine hB _ ⟨k+1,by omega⟩ [] ?_ (by simp;omega);constructor<;>simp[hw,ht,zaq]
 ·have hkl:k=(l).length:=by simp at h;omega
  subst hkl;simp only[h];simp[List.take_length,List.drop_length];first|exact fin0 (by simp[zaq]) rfl|exact zaa (by simp[zaq])
attribute [simp] Tryz.ntmps351 Tryz.results351
theorem qnj (x:UInt8)(b:List UInt8)(l:List Res)(kf:D)(lay:Res→List UInt8)(m B:Nat)(hB:B≤900000)(hf:∀y∈l,∀b':List UInt8,b'.length≤B→FnOk Tryz.prog (.d kf) [lst ((x::b').map byteC),st (resC y)] (lst ((x::b'++lay y).map byteC)))(hly:∀y∈l,(lay y).length≤m)(hs:b.length+5+l.length*m≤B)(hl:l.length≤200000):Ct Tryz.prog 351 [lst ((x::b).map byteC),lst (l.map resC),.d kf] [] [] (lst ((x::b++zaq l lay).map byteC)) []:=by
 refine Ct.B Tryz.func351 mixed 9999 400 ?_;simp;have hn:=zad l.length;refine CI.p (zdo x b l.length (by omega)) Tryz.call286 9999 ?_;simp;refine LoopI.U mixed (l) (fun k=>[(0,lst ((x::(b++numB l.length++(l.take k.1).flatMap lay)).map byteC)),(2,.d kf),(13,lst (l.map resC)),(14,int l.length),(15,int k.1)]) (fun k=>[]) 65 [] (by constructor<;>simp) ?_;rintro⟨k,hk1⟩ B hB;refine CI.run 9999 400 rfl ?_;simp;refine sBI (fun h=>?_) (fun h=>?_)
 ·have hk:k<(l).length:=by simpa using h
  obtain⟨y,hx,hr,hm,ht,hd⟩:=inL hk;have hw:=wr (k:=k) (by omega);simp only[h];simp[hr,hw];have hk2:=zhn l k hly;refine CI.ff (hf y hm (b++numB l.length++(l.take k).flatMap lay) (by simp only[List.length_append];omega)) rfl rfl rfl 9999 ?_;simp;refine hB _ ⟨k+1,by omega⟩ [] ?_ (by simp;omega);constructor<;>simp[hw,ht,zaq]
 ·have hkl:k=(l).length:=by simp at h;omega
  subst hkl;simp only[h];simp[List.take_length,List.drop_length];first|exact fin0 (by simp[zaq]) rfl|exact zaa (by simp[zaq])
attribute [simp] Tryz.ntmps385 Tryz.results385
theorem qei (x:Key)(kf:FuncId)(b:Bool)(hf:FnOk Tryz.prog (.d (fnD kf)) [st (keyC x)] (bool b)):Ct Tryz.prog 385 [st (keyC x),.d (.pro [fnD kf])] [] [] (bool (!b)) []:=by
 refine Ct.B Tryz.func385 mixed 9999 400 ?_;simp;refine CI.ff hf rfl rfl rfl 9999 ?_;simp;first|exact fin0 (by simp) rfl|exact zaa (by simp)
attribute [simp] Tryz.ntmps350 Tryz.results350
theorem qjk (l:List Key)(kf:FuncId)(may:Key→Bool)(hf:∀x∈l,FnOk Tryz.prog (.d (fnD kf)) [st (keyC x)] (bool (may x)))(hl:l.length≤1000000):Ct Tryz.prog 350 [lst (l.map keyC),.d (fnD kf)] [] [] (lst (((l.filter may).take 64).map keyC)) []:=by
 refine Ct.B Tryz.func350 mixed 1 400 ?_;simp;refine CI.s (tm:=[(0,lst (l.map keyC)),(3,.d (.pro [fnD kf]))]) (mm:=[]) (nx:=65) [] [64] (by constructor<;>simp) ?_;refine CI.run 9999 400 rfl ?_;simp;have hg:∀x∈l,FnOk Tryz.prog (.d (.fn (.func 385) [] [.pro [fnD kf]])) [st (keyC x)] (bool (!may x)):=fun x hx=>FnOk.clo (qei x kf (may x) (hf x hx)) Tryz.call385 rfl rfl;have hfl:(l.filter may).length≤1000000:=Nat.le_trans (List.length_filter_le _ _) hl;have ht:=zvf keyC (l.filter fun x=>may x);cases l with
 |nil=>
  refine CI.p zsp Tryz.call218 9999 ?_;simp;refine CI.p (zup (.fn (.func 385) [] [.pro [fnD kf]])) Tryz.call164 9999 ?_;simp;first|exact fin0 (by simp) rfl|exact zaa (by simp)
 |cons x l=>
  refine CI.cc [] (zqq x l (by simp at hl;omega)) Tryz.call218 9999 ?_;simp;refine CI.cc [129] (zoz (x::l) (.fn (.func 385) [] [.pro [fnD kf]]) (fun y=>!may y) hg hl) Tryz.call164 9999 ?_;simp;refine⟨⟨by split<;>omega,by split<;>omega⟩,?_⟩;first|exact fin0 (by simp[ht]) rfl|exact zaa (by simp[ht])
attribute [simp] Tryz.ntmps386 Tryz.results386
theorem qeh (x:Res)(kf:FuncId)(b:Bool)(hf:FnOk Tryz.prog (.d (fnD kf)) [st (resC x)] (bool b)):Ct Tryz.prog 386 [st (resC x),.d (.pro [fnD kf])] [] [] (bool (!b)) []:=by
 refine Ct.B Tryz.func386 mixed 9999 400 ?_;simp;refine CI.ff hf rfl rfl rfl 9999 ?_;simp;first|exact fin0 (by simp) rfl|exact zaa (by simp)
attribute [simp] Tryz.ntmps352 Tryz.results352
theorem qji (l:List Res)(kf:FuncId)(may:Res→Bool)(hf:∀x∈l,FnOk Tryz.prog (.d (fnD kf)) [st (resC x)] (bool (may x)))(hl:l.length≤1000000):Ct Tryz.prog 352 [lst (l.map resC),.d (fnD kf)] [] [] (lst (((l.filter may).take 64).map resC)) []:=by
 refine Ct.B Tryz.func352 mixed 1 400 ?_;simp;refine CI.s (tm:=[(0,lst (l.map resC)),(3,.d (.pro [fnD kf]))]) (mm:=[]) (nx:=65) [] [64] (by constructor<;>simp) ?_;refine CI.run 9999 400 rfl ?_;simp;have hg:∀x∈l,FnOk Tryz.prog (.d (.fn (.func 386) [] [.pro [fnD kf]])) [st (resC x)] (bool (!may x)):=fun x hx=>FnOk.clo (qeh x kf (may x) (hf x hx)) Tryz.call386 rfl rfl;have hfl:(l.filter may).length≤1000000:=Nat.le_trans (List.length_filter_le _ _) hl;have ht:=zvf resC (l.filter fun x=>may x);cases l with
 |nil=>
  refine CI.p qcj Tryz.call63 9999 ?_;simp;refine CI.p (delE (.fn (.func 386) [] [.pro [fnD kf]])) Tryz.call62 9999 ?_;simp;first|exact fin0 (by simp) rfl|exact zaa (by simp)
 |cons x l=>
  refine CI.cc [] (zuq x l (by simp at hl;omega)) Tryz.call63 9999 ?_;simp;refine CI.cc [129] (delC (x::l) (.fn (.func 386) [] [.pro [fnD kf]]) (fun y=>!may y) hg hl) Tryz.call62 9999 ?_;simp;refine⟨⟨by split<;>omega,by split<;>omega⟩,?_⟩;first|exact fin0 (by simp[ht]) rfl|exact zaa (by simp[ht])
attribute [simp] Tryz.ntmps347 Tryz.results347
theorem qjb (k_:Key):Ct Tryz.prog 347 [st (keyC k_)] [] [] (bool (okK k_)) []:=by
 refine Ct.B Tryz.func347 mixed 9999 400 ?_;simp;rw[qvt];refine sGI (fun h1=>?_) (fun h1=>?_)<;>simp only[h1]<;>simp
 ·refine sGI (fun h2=>?_) (fun h2=>?_)<;>simp only[h2]<;>simp
  ·refine CI.p (zfw k_.name) Tryz.call202 9999 ?_;simp;first|exact fin0 (by simp[h1,h2]) rfl|exact zaa (by simp[h1,h2])
  ·first|exact fin0 (by simp[h1,h2]) rfl|exact zaa (by simp[h1,h2])
 ·first|exact fin0 (by simp[h1]) rfl|exact zaa (by simp[h1])
attribute [simp] Tryz.ntmps353 Tryz.results353
theorem qg0 (r:Res):Ct Tryz.prog 353 [st (resC r)] [] [] (bool (decide (zbd r=0))) []:=by
 refine Ct.B Tryz.func353 mixed 9999 400 ?_;simp;refine CI.p (znf r) Tryz.call135 9999 ?_;simp;first|exact fin0 (by simp) rfl|exact zaa (by simp)
attribute [simp] Tryz.ntmps287 Tryz.results287
theorem qbe (x:UInt8)(b:List UInt8)(k_:Key)(hk:okK k_=true)(hb:b.length≤200000):Ct Tryz.prog 287 [lst ((x::b).map byteC),st (keyC k_)] [] [] (lst ((x::b++zct k_).map byteC)) []:=by
 refine Ct.B Tryz.func287 mixed 9999 400 ?_;simp;have hi:=qb3 hk;have hn:=zad k_.kind;refine CI.p (qjb k_) Tryz.call347 9999 ?_ (ha:=by simp[hk]);simp[hk];refine CI.p (zdo x b k_.kind (by omega)) Tryz.call286 9999 ?_;simp;refine CI.p (zj9 x (b++numB k_.kind) k_.name (by simp;omega) (by omega)) Tryz.call348 9999 ?_;simp;refine⟨by decide+kernel,?_⟩;first|exact fin0 (by simp[zct]) rfl|exact zaa (by simp[zct])
attribute [simp] Tryz.ntmps402 Tryz.results402
theorem qu7 (x:UInt8)(b:List UInt8)(w:Weight)(hw:WIn w)(hb:b.length≤200000):Ct Tryz.prog 402 [lst ((x::b).map byteC),st (wC w)] [] [] (lst ((x::b++zb7 w).map byteC)) []:=by
 refine Ct.B Tryz.func402 mixed 9999 400 ?_;simp;have h1:=hw.c;have hn:=zbw hw.c;refine CI.p (zj9 x b w.cluster (by omega) (by omega)) Tryz.call348 9999 ?_;simp;refine CI.p (zdo x (b++zdc w.cluster) w.w (by simp;omega)) Tryz.call286 9999 ?_;simp;refine⟨by decide+kernel,?_⟩;first|exact fin0 (by simp[zb7]) rfl|exact zaa (by simp[zb7])
attribute [simp] Tryz.ntmps388 Tryz.results388
theorem qhc (x:UInt8)(b:List UInt8)(r:Rule)(hr:RuleIn r)(hb:b.length≤189000):Ct Tryz.prog 388 [lst ((x::b).map byteC),st (zbk r)] [] [] (lst ((x::b++ruleBy r).map byteC)) []:=by
 refine Ct.B Tryz.func388 mixed 9999 400 ?_;simp;have h1:=hr.host;have h2:=hr.pre;have n1:=zbw h1;have n2:=zbw h2;have h3:=hr.split;refine CI.p (zj9 x b r.host (by omega) (by omega)) Tryz.call348 9999 ?_;simp;refine CI.p (zj9 x (b++zdc r.host) r.pre (by simp;omega) (by omega)) Tryz.call348 9999 ?_;simp;refine CI.p (qw2 x (b++zdc r.host++zdc r.pre) r.split (fnD 402) zb7 22 200000 (by omega) (fun y hy b' hb'=>FnOk.of (qu7 x b' y (hr.each y hy) hb') Tryz.call402 rfl rfl) (fun y hy=>zhr (hr.each y hy)) (by simp;omega) (by omega)) Tryz.call401 9999 ?_;simp;refine⟨by decide+kernel,?_⟩;first|exact fin0 (by simp[ruleBy]) rfl|exact zaa (by simp[ruleBy])
attribute [simp] Tryz.ntmps354 Tryz.results354
theorem qx2 (x:UInt8)(b:List UInt8)(r:Res)(hs:zbd r=0)(hb:b.length≤187000):Ct Tryz.prog 354 [lst ((x::b).map byteC),st (resC r)] [] [] (lst ((x::b++resB r).map byteC)) []:=by
 refine Ct.B Tryz.func354 mixed 9999 400 ?_;simp;have I:=znm hs;have n1:=zad r.kind;have n2:=zbw I.name;have n3:=zad r.ver;have n4:=zad r.port;have i1:=I.name;have i2:=I.rules;have i3:=I.hosts;have i4:=I.to;refine CI.p (qg0 r) Tryz.call353 9999 ?_ (ha:=by simp[hs]);simp[hs];refine CI.p (zdo x b r.kind (by omega)) Tryz.call286 9999 ?_;simp;refine CI.p (zj9 x (b++numB r.kind) r.name (by simp;omega) (by omega)) Tryz.call348 9999 ?_;simp;refine CI.p (zdo x (b++numB r.kind++zdc r.name) r.ver (by simp;omega)) Tryz.call286 9999 ?_;simp;refine⟨by decide+kernel,?_⟩;have hc:(b++numB r.kind++zdc r.name++numB r.ver).length≤187100:=by simp;omega
 rcases(show r.kind=0∨r.kind=1∨r.kind=2∨r.kind=3 from by have:=I.k0;have:=I.k3;omega)with h|h|h|h
 all_goals rw[h]at hc
 ·simp[h];refine CI.p (zdo x (b++numB 0++zdc r.name++numB r.ver) r.port (by omega)) Tryz.call286 9999 ?_;simp;refine CI.p (zj9 x (b++numB 0++zdc r.name++numB r.ver++numB r.port) r.to (by simp at hc⊢;omega) (by omega)) Tryz.call348 9999 ?_;simp;refine⟨by decide+kernel,?_⟩;first|exact fin0 (by simp[resB,zge,h]) rfl|exact zaa (by simp[resB,zge,h])
 ·simp[h];refine CI.p (qjq x (b++numB 1++zdc r.name++numB r.ver) r.rules (fnD 388) ruleBy 183 189000 (by omega) (fun y hy b' hb'=>FnOk.of (qhc x b' y (I.rule y hy) hb') Tryz.call388 rfl rfl) (fun y hy=>zmt (I.rule y hy)) (by omega) (by omega)) Tryz.call387 9999 ?_;simp;first|exact fin0 (by simp[resB,zge,h]) rfl|exact zaa (by simp[resB,zge,h])
 ·simp[h];refine CI.p (zj9 x (b++numB 2++zdc r.name++numB r.ver) r.to (by omega) (by omega)) Tryz.call348 9999 ?_;simp;first|exact fin0 (by simp[resB,zge,h]) rfl|exact zaa (by simp[resB,zge,h])
 ·simp[h];refine CI.p (qnl x (b++numB 3++zdc r.name++numB r.ver) r.hosts (fnD 286) numB 5 200000 (by omega) (fun y hy b' hb'=>FnOk.of (zdo x b' y (by omega)) Tryz.call286 rfl rfl) (fun y hy=>zad y) (by omega) (by omega)) Tryz.call389 9999 ?_;simp;first|exact fin0 (by simp[resB,zge,h]) rfl|exact zaa (by simp[resB,zge,h])
attribute [simp] Tryz.ntmps288 Tryz.results288
theorem zpz (x:UInt8)(b:List UInt8)(l:List Key)(hk:∀k∈l,okK k=true)(hl:l.length≤64)(hb:b.length≤190000):Ct Tryz.prog 288 [lst ((x::b).map byteC),lst (l.map keyC)] [] [] (lst ((x::b++zaq l zct).map byteC)) []:=by
 refine Ct.B Tryz.func288 mixed 9999 400 ?_;simp;have e:(l.filter okK).take 64=l:=by rw[List.filter_eq_self.2 hk,List.take_of_length_le hl]
 have hc:=qjk l 347 okK (fun y _=>FnOk.of (qjb y) Tryz.call347 rfl rfl) (by omega);rw[e]at hc;refine CI.p hc Tryz.call350 9999 ?_;simp;refine CI.p (qnk x b l (fnD 287) zct 22 200000 (by omega) (fun y hy b' hb'=>FnOk.of (qbe x b' y (hk y hy) hb') Tryz.call287 rfl rfl) (fun y hy=>zd7 (hk y hy)) (by omega) (by omega)) Tryz.call349 9999 ?_;simp;first|exact fin0 (by simp) rfl|exact zaa (by simp)
attribute [simp] Tryz.ntmps289 Tryz.results289
theorem qlu (x:UInt8)(b:List UInt8)(l:List Res)(hk:∀r∈l,zbd r=0)(hl:l.length≤64)(hb:b.length≤90000):Ct Tryz.prog 289 [lst ((x::b).map byteC),lst (l.map resC)] [] [] (lst ((x::b++zaq l resB).map byteC)) []:=by
 refine Ct.B Tryz.func289 mixed 9999 400 ?_;simp;have e:(l.filter fun r=>decide (zbd r=0)).take 64=l:=by rw[List.filter_eq_self.2 (fun r hr=>decide_eq_true (hk r hr)),List.take_of_length_le hl]
 have hd:=qji l 353 (fun r=>decide (zbd r=0)) (fun y _=>FnOk.of (qg0 y) Tryz.call353 rfl rfl) (by omega);rw[e]at hd;refine CI.p hd Tryz.call352 9999 ?_;simp;refine CI.p (qnj x b l (fnD 354) resB 1496 187000 (by omega) (fun y hy b' hb'=>FnOk.of (qx2 x b' y (hk y hy) hb') Tryz.call354 rfl rfl) (fun y hy=>zk7 (znm (hk y hy))) (by omega) (by omega)) Tryz.call351 9999 ?_;simp;first|exact fin0 (by simp) rfl|exact zaa (by simp)
end Go.Proofs.YtjoaclgkjhncjaaGreatDoor
namespace Go.Proofs.YtjoaclgkjhncjaaGreatDoor
open Go.AI Go.G
set_option maxRecDepth 20000
attribute [simp] Tryz.ntmps356 Tryz.results356
theorem zxt (q:List UInt8):Ct Tryz.prog 356 [.ptr 0 0,int 0] [] [(0,.cells [lst ((q).map byteC),int 0] 324)] (bool false) [(0,.cells [lst ((q).map byteC),int 0] 324)]:=by
 refine Ct.B Tryz.func356 mixed 9999 400 ?_;simp;first| (refine⟨[],?_,?_,?_,?_,?_,?_,?_⟩<;>simp[nmF,inB];done)| (refine⟨by decide+kernel,?_⟩;refine⟨[],?_,?_,?_,?_,?_,?_,?_⟩<;>simp[nmF,inB])
attribute [simp] Tryz.ntmps293 Tryz.results293
theorem zvg (k_:Key)(t:List UInt8)(hk:okK k_=true)(ht:t.length≤900000):Ct Tryz.prog 293 [.ptr 0 0] [] [(0,.cells [lst ((zct k_++t).map byteC),int 0] 324)] (st (keyC k_)) [(0,.cells [lst ((t).map byteC),int 0] 324)]:=by
 refine Ct.B Tryz.func293 mixed 9999 400 ?_;simp;obtain⟨h1,h2,h3⟩:=qb3 hk;have n1:=zbw h3;refine CI.cc [0] (zc4 k_.kind 3 (zdc k_.name++t) h1 (zb3 h2 (by omega) (by omega)) (by simp;omega)) Tryz.call230 9999 ?_ (ha:=by simp[zct]) (hk:=by simp[zct]);simp[zct];refine CI.cc [0] (zkf k_.name 12 t (zb3 (by omega) (by omega) (by omega)) (by omega)) Tryz.call355 9999 ?_;simp;refine CI.p (qjb k_) Tryz.call347 9999 ?_ (ha:=by simp[hk]);simp[hk];refine CI.cc [0] (zxt t) Tryz.call356 9999 ?_;simp;first| (refine⟨[],?_,?_,?_,?_,?_,?_,?_⟩<;>simp[nmF,inB];done)| (refine⟨by decide+kernel,?_⟩;refine⟨[],?_,?_,?_,?_,?_,?_,?_⟩<;>simp[nmF,inB])
attribute [simp] Tryz.ntmps360 Tryz.results360
theorem qda (n:Int)(t:List UInt8)(h0:0≤n)(h1:n≤2147483647)(ht:t.length≤900000):Ct Tryz.prog 360 [.ptr 0 0] [] [(0,.cells [lst ((numB n++t).map byteC),int 0] 324)] (int n) [(0,.cells [lst ((t).map byteC),int 0] 324)]:=by
 refine Ct.B Tryz.func360 mixed 9999 400 ?_;simp;refine CI.cc [0] (zc4 n 2147483647 t h0 (zb3 h1 (by omega) (by omega)) (by omega)) Tryz.call230 9999 ?_;simp;first| (refine⟨[],?_,?_,?_,?_,?_,?_,?_⟩<;>simp[nmF,inB];done)| (refine⟨by decide+kernel,?_⟩;refine⟨[],?_,?_,?_,?_,?_,?_,?_⟩<;>simp[nmF,inB])
attribute [simp] Tryz.ntmps391 Tryz.results391
theorem qp4 (w:Weight)(t:List UInt8)(hw:WIn w)(ht:t.length≤900000):Ct Tryz.prog 391 [.ptr 0 0] [] [(0,.cells [lst ((zb7 w++t).map byteC),int 0] 324)] (st (wC w)) [(0,.cells [lst ((t).map byteC),int 0] 324)]:=by
 refine Ct.B Tryz.func391 mixed 9999 400 ?_;simp;have h1:=hw.c;have h2:=zad w.w;refine CI.cc [0] (zkf w.cluster 12 (numB w.w++t) (zb3 (by omega) (by omega) (by omega)) (by simp;omega)) Tryz.call355 9999 ?_ (ha:=by simp[zb7]) (hk:=by simp[zb7]);simp[zb7];refine CI.cc [0] (zc4 w.w 100 t hw.w0 (zb3 hw.w1 (by omega) (by omega)) (by omega)) Tryz.call230 9999 ?_;simp;first| (refine⟨[],?_,?_,?_,?_,?_,?_,?_⟩<;>simp[nmF,inB];done)| (refine⟨by decide+kernel,?_⟩;refine⟨[],?_,?_,?_,?_,?_,?_,?_⟩<;>simp[nmF,inB])
attribute [simp] Tryz.ntmps296 Tryz.results296
theorem qk9 (l:List Key)(lim:Int)(t:List UInt8)(hf:∀y∈l,∀t':List UInt8,t'.length≤900000→Ct Tryz.prog 293 [.ptr 0 0] [] [(0,.cells [lst ((zct y++t').map byteC),int 0] 324)] (st (keyC y)) [(0,.cells [lst ((t').map byteC),int 0] 324)])(hy:∀y∈l,(zct y).length≤22)(h1:l.length≤lim)(hl:l.length≤64)(h2:lim≤1000)(ht:t.length≤700000):Ct Tryz.prog 296 [.ptr 0 0,int lim,.d (fnD 293)] [] [(0,.cells [lst ((zaq l zct++t).map byteC),int 0] 324)] (lst (l.map keyC)) [(0,.cells [lst ((t).map byteC),int 0] 324)]:=by
 refine Ct.B Tryz.func296 mixed 9999 400 ?_;simp;have hall:=zdt l hy;refine CI.cc [0] (zc4 l.length lim (l.flatMap zct++t) (by omega) (zb3 h1 (by omega) (by omega)) (by simp only[List.length_append];omega)) Tryz.call230 9999 ?_ (ha:=by simp[zaq]) (hk:=by simp[zaq]);simp[zaq];refine LoopI.nilOwn 7 2 26 rfl ?_;refine LoopI.U mixed (l) (fun k=>[(0,.ptr 0 0),(2,.d (fnD 293)),(7,.own 64),(11,int l.length),(12,int k.1)]) (fun k=>[(64,.grow 2 ((l.take k.1).map keyC) 26),(0,.cells [lst (((l.drop k.1).flatMap zct++t).map byteC),int 0] 324)]) 65 [] (by constructor<;>simp) ?_;rintro⟨k,hk1⟩ B hB;refine CI.run 9999 400 rfl ?_;simp;refine sBI (fun h=>?_) (fun h=>?_)
 ·have hk:k<(l).length:=by simpa using h
  obtain⟨y,hx,hr,hm,ht,hd⟩:=inL hk;have hw:=wr (k:=k) (by omega);simp only[h];simp[hr,hw];have hd2:=zhm l (k+1) hy;refine CI.cc [0] (hf y hm ((l.drop (k+1)).flatMap zct++t) (by simp only[List.length_append];omega)) Tryz.call293 9999 ?_ (ha:=by simp[hd]) (hk:=by simp[hd]);simp[hd];refine⟨by omega,?_⟩;refine hB _ ⟨k+1,by omega⟩ [] ?_ (by simp;omega);constructor<;>simp[hw,ht]
 ·have hkl:k=(l).length:=by simp at h;omega
  subst hkl;simp only[h];simp[List.take_length,List.drop_length];first| (refine⟨[],?_,?_,?_,?_,?_,?_,?_⟩<;>simp[nmF,inB];done)| (refine⟨by decide+kernel,?_⟩;refine⟨[],?_,?_,?_,?_,?_,?_,?_⟩<;>simp[nmF,inB])
attribute [simp] Tryz.ntmps359 Tryz.results359
theorem qfy (l:List Int)(lim:Int)(t:List UInt8)(hf:∀y∈l,∀t':List UInt8,t'.length≤900000→Ct Tryz.prog 360 [.ptr 0 0] [] [(0,.cells [lst ((numB y++t').map byteC),int 0] 324)] (int y) [(0,.cells [lst ((t').map byteC),int 0] 324)])(hy:∀y∈l,(numB y).length≤5)(h1:l.length≤lim)(hl:l.length≤8)(h2:lim≤1000)(ht:t.length≤890000):Ct Tryz.prog 359 [.ptr 0 0,int lim,.d (fnD 360)] [] [(0,.cells [lst ((zaq l numB++t).map byteC),int 0] 324)] (lst (l.map intC)) [(0,.cells [lst ((t).map byteC),int 0] 324)]:=by
 refine Ct.B Tryz.func359 mixed 9999 400 ?_;simp;have hall:=zdt l hy;refine CI.cc [0] (zc4 l.length lim (l.flatMap numB++t) (by omega) (zb3 h1 (by omega) (by omega)) (by simp only[List.length_append];omega)) Tryz.call230 9999 ?_ (ha:=by simp[zaq]) (hk:=by simp[zaq]);simp[zaq];refine LoopI.nilOwn 7 1 3 rfl ?_;refine LoopI.U mixed (l) (fun k=>[(0,.ptr 0 0),(2,.d (fnD 360)),(7,.own 64),(11,int l.length),(12,int k.1)]) (fun k=>[(64,.grow 1 ((l.take k.1).map intC) 3),(0,.cells [lst (((l.drop k.1).flatMap numB++t).map byteC),int 0] 324)]) 65 [] (by constructor<;>simp) ?_;rintro⟨k,hk1⟩ B hB;refine CI.run 9999 400 rfl ?_;simp;refine sBI (fun h=>?_) (fun h=>?_)
 ·have hk:k<(l).length:=by simpa using h
  obtain⟨y,hx,hr,hm,ht,hd⟩:=inL hk;have hw:=wr (k:=k) (by omega);simp only[h];simp[hr,hw];have hd2:=zhm l (k+1) hy;refine CI.cc [0] (hf y hm ((l.drop (k+1)).flatMap numB++t) (by simp only[List.length_append];omega)) Tryz.call360 9999 ?_ (ha:=by simp[hd]) (hk:=by simp[hd]);simp[hd];refine⟨by omega,?_⟩;refine hB _ ⟨k+1,by omega⟩ [] ?_ (by simp;omega);constructor<;>simp[hw,ht]
 ·have hkl:k=(l).length:=by simp at h;omega
  subst hkl;simp only[h];simp[List.take_length,List.drop_length];first| (refine⟨[],?_,?_,?_,?_,?_,?_,?_⟩<;>simp[nmF,inB];done)| (refine⟨by decide+kernel,?_⟩;refine⟨[],?_,?_,?_,?_,?_,?_,?_⟩<;>simp[nmF,inB])
attribute [simp] Tryz.ntmps390 Tryz.results390
theorem qut (l:List Weight)(lim:Int)(t:List UInt8)(hf:∀y∈l,∀t':List UInt8,t'.length≤900000→Ct Tryz.prog 391 [.ptr 0 0] [] [(0,.cells [lst ((zb7 y++t').map byteC),int 0] 324)] (st (wC y)) [(0,.cells [lst ((t').map byteC),int 0] 324)])(hy:∀y∈l,(zb7 y).length≤22)(h1:l.length≤lim)(hl:l.length≤4)(h2:lim≤1000)(ht:t.length≤890000):Ct Tryz.prog 390 [.ptr 0 0,int lim,.d (fnD 391)] [] [(0,.cells [lst ((zaq l zb7++t).map byteC),int 0] 324)] (lst (l.map wC)) [(0,.cells [lst ((t).map byteC),int 0] 324)]:=by
 refine Ct.B Tryz.func390 mixed 9999 400 ?_;simp;have hall:=zdt l hy;refine CI.cc [0] (zc4 l.length lim (l.flatMap zb7++t) (by omega) (zb3 h1 (by omega) (by omega)) (by simp only[List.length_append];omega)) Tryz.call230 9999 ?_ (ha:=by simp[zaq]) (hk:=by simp[zaq]);simp[zaq];refine LoopI.nilOwn 7 2 157 rfl ?_;refine LoopI.U mixed (l) (fun k=>[(0,.ptr 0 0),(2,.d (fnD 391)),(7,.own 64),(11,int l.length),(12,int k.1)]) (fun k=>[(64,.grow 2 ((l.take k.1).map wC) 157),(0,.cells [lst (((l.drop k.1).flatMap zb7++t).map byteC),int 0] 324)]) 65 [] (by constructor<;>simp) ?_;rintro⟨k,hk1⟩ B hB;refine CI.run 9999 400 rfl ?_;simp;refine sBI (fun h=>?_) (fun h=>?_)
 ·have hk:k<(l).length:=by simpa using h
  obtain⟨y,hx,hr,hm,ht,hd⟩:=inL hk;have hw:=wr (k:=k) (by omega);simp only[h];simp[hr,hw];have hd2:=zhm l (k+1) hy;refine CI.cc [0] (hf y hm ((l.drop (k+1)).flatMap zb7++t) (by simp only[List.length_append];omega)) Tryz.call391 9999 ?_ (ha:=by simp[hd]) (hk:=by simp[hd]);simp[hd];refine⟨by omega,?_⟩;refine hB _ ⟨k+1,by omega⟩ [] ?_ (by simp;omega);constructor<;>simp[hw,ht]
 ·have hkl:k=(l).length:=by simp at h;omega
  subst hkl;simp only[h];simp[List.take_length,List.drop_length];first| (refine⟨[],?_,?_,?_,?_,?_,?_,?_⟩<;>simp[nmF,inB];done)| (refine⟨by decide+kernel,?_⟩;refine⟨[],?_,?_,?_,?_,?_,?_,?_⟩<;>simp[nmF,inB])
attribute [simp] Tryz.ntmps358 Tryz.results358
theorem qc9 (r:Rule)(t:List UInt8)(hr:RuleIn r)(ht:t.length≤889000):Ct Tryz.prog 358 [.ptr 0 0] [] [(0,.cells [lst ((ruleBy r++t).map byteC),int 0] 324)] (st (zbk r)) [(0,.cells [lst ((t).map byteC),int 0] 324)]:=by
 refine Ct.B Tryz.func358 mixed 9999 400 ?_;simp;have h1:=hr.host;have h2:=hr.pre;have n1:=zbw h1;have n2:=zbw h2;have h3:=hr.split;have n3:=zb6 (l:=r.split) (lay:=zb7) (m:=22) fun w hw=>zhr (hr.each w hw);refine CI.cc [0] (zkf r.host 40 (zdc r.pre++(zaq r.split zb7++t)) (zb3 (by omega) (by omega) (by omega)) (by simp only[List.length_append];omega)) Tryz.call355 9999 ?_ (ha:=by simp[ruleBy]) (hk:=by simp[ruleBy]);simp[ruleBy];refine CI.cc [0] (zkf r.pre 40 (zaq r.split zb7++t) (zb3 (by omega) (by omega) (by omega)) (by simp only[List.length_append];omega)) Tryz.call355 9999 ?_;simp;refine CI.cc [0] (qut r.split 4 t (fun y hy t' ht'=>qp4 y t' (hr.each y hy) (by omega)) (fun y hy=>zhr (hr.each y hy)) (by omega) (by omega) (by omega) (by omega)) Tryz.call390 9999 ?_;simp;first| (refine⟨[],?_,?_,?_,?_,?_,?_,?_⟩<;>simp[nmF,inB];done)| (refine⟨by decide+kernel,?_⟩;refine⟨[],?_,?_,?_,?_,?_,?_,?_⟩<;>simp[nmF,inB])
attribute [simp] Tryz.ntmps357 Tryz.results357
theorem qfx (l:List Rule)(lim:Int)(t:List UInt8)(hf:∀y∈l,∀t':List UInt8,t'.length≤889000→Ct Tryz.prog 358 [.ptr 0 0] [] [(0,.cells [lst ((ruleBy y++t').map byteC),int 0] 324)] (st (zbk y)) [(0,.cells [lst ((t').map byteC),int 0] 324)])(hy:∀y∈l,(ruleBy y).length≤183)(h1:l.length≤lim)(hl:l.length≤8)(h2:lim≤1000)(ht:t.length≤880000):Ct Tryz.prog 357 [.ptr 0 0,int lim,.d (fnD 358)] [] [(0,.cells [lst ((zaq l ruleBy++t).map byteC),int 0] 324)] (lst (l.map zbk)) [(0,.cells [lst ((t).map byteC),int 0] 324)]:=by
 refine Ct.B Tryz.func357 mixed 9999 400 ?_;simp;have hall:=zdt l hy;refine CI.cc [0] (zc4 l.length lim (l.flatMap ruleBy++t) (by omega) (zb3 h1 (by omega) (by omega)) (by simp only[List.length_append];omega)) Tryz.call230 9999 ?_ (ha:=by simp[zaq]) (hk:=by simp[zaq]);simp[zaq];refine LoopI.nilOwn 7 3 160 rfl ?_;refine LoopI.U mixed (l) (fun k=>[(0,.ptr 0 0),(2,.d (fnD 358)),(7,.own 64),(11,int l.length),(12,int k.1)]) (fun k=>[(64,.grow 3 ((l.take k.1).map zbk) 160),(0,.cells [lst (((l.drop k.1).flatMap ruleBy++t).map byteC),int 0] 324)]) 65 [] (by constructor<;>simp) ?_;rintro⟨k,hk1⟩ B hB;refine CI.run 9999 400 rfl ?_;simp;refine sBI (fun h=>?_) (fun h=>?_)
 ·have hk:k<(l).length:=by simpa using h
  obtain⟨y,hx,hr,hm,ht,hd⟩:=inL hk;have hw:=wr (k:=k) (by omega);simp only[h];simp[hr,hw];have hd2:=zhm l (k+1) hy;refine CI.cc [0] (hf y hm ((l.drop (k+1)).flatMap ruleBy++t) (by simp only[List.length_append];omega)) Tryz.call358 9999 ?_ (ha:=by simp[hd]) (hk:=by simp[hd]);simp[hd];refine⟨by omega,?_⟩;refine hB _ ⟨k+1,by omega⟩ [] ?_ (by simp;omega);constructor<;>simp[hw,ht]
 ·have hkl:k=(l).length:=by simp at h;omega
  subst hkl;simp only[h];simp[List.take_length,List.drop_length];first| (refine⟨[],?_,?_,?_,?_,?_,?_,?_⟩<;>simp[nmF,inB];done)| (refine⟨by decide+kernel,?_⟩;refine⟨[],?_,?_,?_,?_,?_,?_,?_⟩<;>simp[nmF,inB])
attribute [simp] Tryz.ntmps295 Tryz.results295
theorem qum (r:Res)(t:List UInt8)(hs:zbd r=0)(ht:t.length≤870000):Ct Tryz.prog 295 [.ptr 0 0] [] [(0,.cells [lst ((resB r++t).map byteC),int 0] 324)] (st (resC r)) [(0,.cells [lst ((t).map byteC),int 0] 324)]:=by
 refine Ct.B Tryz.func295 mixed 9999 400 ?_;simp;have I:=znm hs;have n2:=zbw I.name;have n3:=zad r.ver;have n4:=zvh I;have i1:=I.name;refine CI.cc [0] (zc4 r.kind 3 (zdc r.name++(numB r.ver++(zge r++t))) I.k0 (zb3 I.k3 (by omega) (by omega)) (by simp only[List.length_append];omega)) Tryz.call230 9999 ?_ (ha:=by simp[resB]) (hk:=by simp[resB]);simp[resB];refine CI.cc [0] (zkf r.name 12 (numB r.ver++(zge r++t)) (zb3 (by omega) (by omega) (by omega)) (by simp only[List.length_append];omega)) Tryz.call355 9999 ?_;simp;refine CI.cc [0] (zc4 r.ver 2147483647 (zge r++t) I.v0 (zb3 I.v1 (by omega) (by omega)) (by simp only[List.length_append];omega)) Tryz.call230 9999 ?_;simp;rcases(show r.kind=0∨r.kind=1∨r.kind=2∨r.kind=3 from by have:=I.k0;have:=I.k3;omega)with h|h|h|h
 ·have e1:=I.noR (by omega);have e2:=I.noH (by omega);have n5:=zbw I.to;have i4:=I.to;have e3:zge r=numB r.port++zdc r.to:=by simp[zge,h]
  simp[h,e3];refine CI.cc [0] (zc4 r.port 65535 (zdc r.to++t) I.p0 (zb3 I.p1 (by omega) (by omega)) (by simp only[List.length_append];omega)) Tryz.call230 9999 ?_;simp;refine CI.cc [0] (zkf r.to 12 t (zb3 (by omega) (by omega) (by omega)) (by omega)) Tryz.call355 9999 ?_;simp;have hs4:=znf r;rw[hs]at hs4;simp only[resC,e1,e2,h]at hs4;refine CI.p hs4 Tryz.call135 9999 ?_;simp;refine CI.cc [0] (zxt t) Tryz.call356 9999 ?_;simp;first| (refine⟨[],?_,?_,?_,?_,?_,?_,?_⟩<;>simp[nmF,inB,h,e1,e2];done)| (refine⟨by decide+kernel,?_⟩;refine⟨[],?_,?_,?_,?_,?_,?_,?_⟩<;>simp[nmF,inB,h,e1,e2])
 ·have e1:=I.noP (by omega);have e2:=I.noT (by omega) (by omega);have e4:=I.noH (by omega);have e3:zge r=zaq r.rules ruleBy:=by simp[zge,h]
  simp[h,e3];refine CI.cc [0] (qfx r.rules 8 t (fun y hy t' ht'=>qc9 y t' (I.rule y hy) (by omega)) (fun y hy=>zmt (I.rule y hy)) (by have:=I.rules;omega) I.rules (by omega) (by omega)) Tryz.call357 9999 ?_;simp;have hs4:=znf r;rw[hs]at hs4;simp only[resC,e1,e2,e4,h]at hs4;refine CI.p hs4 Tryz.call135 9999 ?_;simp;refine CI.cc [0] (zxt t) Tryz.call356 9999 ?_;simp;first| (refine⟨[],?_,?_,?_,?_,?_,?_,?_⟩<;>simp[nmF,inB,h,e1,e2,e4];done)| (refine⟨by decide+kernel,?_⟩;refine⟨[],?_,?_,?_,?_,?_,?_,?_⟩<;>simp[nmF,inB,h,e1,e2,e4])
 ·have e1:=I.noR (by omega);have e2:=I.noH (by omega);have e4:=I.noP (by omega);have i4:=I.to;have e3:zge r=zdc r.to:=by simp[zge,h]
  simp[h,e3];refine CI.cc [0] (zkf r.to 12 t (zb3 (by omega) (by omega) (by omega)) (by omega)) Tryz.call355 9999 ?_;simp;have hs4:=znf r;rw[hs]at hs4;simp only[resC,e1,e2,e4,h]at hs4;refine CI.p hs4 Tryz.call135 9999 ?_;simp;refine CI.cc [0] (zxt t) Tryz.call356 9999 ?_;simp;first| (refine⟨[],?_,?_,?_,?_,?_,?_,?_⟩<;>simp[nmF,inB,h,e1,e2,e4];done)| (refine⟨by decide+kernel,?_⟩;refine⟨[],?_,?_,?_,?_,?_,?_,?_⟩<;>simp[nmF,inB,h,e1,e2,e4])
 ·have e1:=I.noP (by omega);have e2:=I.noT (by omega) (by omega);have e4:=I.noR (by omega);have e3:zge r=zaq r.hosts numB:=by simp[zge,h]
  simp[h,e3];refine CI.cc [0] (qfy r.hosts 8 t (fun y hy t' ht'=>qda y t' (I.host y hy).1 (I.host y hy).2 (by omega)) (fun y hy=>zad y) (by have:=I.hosts;omega) I.hosts (by omega) (by omega)) Tryz.call359 9999 ?_;simp;have hs4:=znf r;rw[hs]at hs4;simp only[resC,e1,e2,e4,h]at hs4;refine CI.p hs4 Tryz.call135 9999 ?_;simp;refine CI.cc [0] (zxt t) Tryz.call356 9999 ?_;simp;first| (refine⟨[],?_,?_,?_,?_,?_,?_,?_⟩<;>simp[nmF,inB,h,e1,e2,e4];done)| (refine⟨by decide+kernel,?_⟩;refine⟨[],?_,?_,?_,?_,?_,?_,?_⟩<;>simp[nmF,inB,h,e1,e2,e4])
attribute [simp] Tryz.ntmps294 Tryz.results294
theorem qk8 (l:List Res)(lim:Int)(t:List UInt8)(hf:∀y∈l,∀t':List UInt8,t'.length≤870000→Ct Tryz.prog 295 [.ptr 0 0] [] [(0,.cells [lst ((resB y++t').map byteC),int 0] 324)] (st (resC y)) [(0,.cells [lst ((t').map byteC),int 0] 324)])(hy:∀y∈l,(resB y).length≤1496)(h1:l.length≤lim)(hl:l.length≤64)(h2:lim≤1000)(ht:t.length≤700000):Ct Tryz.prog 294 [.ptr 0 0,int lim,.d (fnD 295)] [] [(0,.cells [lst ((zaq l resB++t).map byteC),int 0] 324)] (lst (l.map resC)) [(0,.cells [lst ((t).map byteC),int 0] 324)]:=by
 refine Ct.B Tryz.func294 mixed 9999 400 ?_;simp;have hall:=zdt l hy;refine CI.cc [0] (zc4 l.length lim (l.flatMap resB++t) (by omega) (zb3 h1 (by omega) (by omega)) (by simp only[List.length_append];omega)) Tryz.call230 9999 ?_ (ha:=by simp[zaq]) (hk:=by simp[zaq]);simp[zaq];refine LoopI.nilOwn 7 7 67 rfl ?_;refine LoopI.U mixed (l) (fun k=>[(0,.ptr 0 0),(2,.d (fnD 295)),(7,.own 64),(11,int l.length),(12,int k.1)]) (fun k=>[(64,.grow 7 ((l.take k.1).map resC) 67),(0,.cells [lst (((l.drop k.1).flatMap resB++t).map byteC),int 0] 324)]) 65 [] (by constructor<;>simp) ?_;rintro⟨k,hk1⟩ B hB;refine CI.run 9999 400 rfl ?_;simp;refine sBI (fun h=>?_) (fun h=>?_)
 ·have hk:k<(l).length:=by simpa using h
  obtain⟨y,hx,hr,hm,ht,hd⟩:=inL hk;have hw:=wr (k:=k) (by omega);simp only[h];simp[hr,hw];have hd2:=zhm l (k+1) hy;refine CI.cc [0] (hf y hm ((l.drop (k+1)).flatMap resB++t) (by simp only[List.length_append];omega)) Tryz.call295 9999 ?_ (ha:=by simp[hd]) (hk:=by simp[hd]);simp[hd];refine⟨by omega,?_⟩;refine hB _ ⟨k+1,by omega⟩ [] ?_ (by simp;omega);constructor<;>simp[hw,ht]
 ·have hkl:k=(l).length:=by simp at h;omega
  subst hkl;simp only[h];simp[List.take_length,List.drop_length];first| (refine⟨[],?_,?_,?_,?_,?_,?_,?_⟩<;>simp[nmF,inB];done)| (refine⟨by decide+kernel,?_⟩;refine⟨[],?_,?_,?_,?_,?_,?_,?_⟩<;>simp[nmF,inB])
attribute [simp] Tryz.ntmps232 Tryz.results232
theorem qfn (l:List Res)(t:List UInt8)(hs:∀r∈l,zbd r=0)(hl:l.length≤64)(ht:t.length≤700000):Ct Tryz.prog 232 [.ptr 0 0] [] [(0,.cells [lst ((zaq l resB++t).map byteC),int 0] 324)] (lst (l.map resC)) [(0,.cells [lst ((t).map byteC),int 0] 324)]:=by
 refine Ct.B Tryz.func232 mixed 9999 400 ?_;simp;refine CI.cc [0] (qk8 l 64 t (fun y hy t' ht'=>qum y t' (hs y hy) (by omega)) (fun y hy=>zk7 (znm (hs y hy))) (by omega) hl (by omega) (by omega)) Tryz.call294 9999 ?_;simp;first| (refine⟨[],?_,?_,?_,?_,?_,?_,?_⟩<;>simp[nmF,inB];done)| (refine⟨by decide+kernel,?_⟩;refine⟨[],?_,?_,?_,?_,?_,?_,?_⟩<;>simp[nmF,inB])
attribute [simp] Tryz.ntmps233 Tryz.results233
theorem zmk (l:List Key)(t:List UInt8)(hs:∀k∈l,okK k=true)(hl:l.length≤64)(ht:t.length≤700000):Ct Tryz.prog 233 [.ptr 0 0] [] [(0,.cells [lst ((zaq l zct++t).map byteC),int 0] 324)] (lst (l.map keyC)) [(0,.cells [lst ((t).map byteC),int 0] 324)]:=by
 refine Ct.B Tryz.func233 mixed 9999 400 ?_;simp;refine CI.cc [0] (qk9 l 64 t (fun y hy t' ht'=>zvg y t' (hs y hy) (by omega)) (fun y hy=>zd7 (hs y hy)) (by omega) hl (by omega) (by omega)) Tryz.call296 9999 ?_;simp;first| (refine⟨[],?_,?_,?_,?_,?_,?_,?_⟩<;>simp[nmF,inB];done)| (refine⟨by decide+kernel,?_⟩;refine⟨[],?_,?_,?_,?_,?_,?_,?_⟩<;>simp[nmF,inB])
end Go.Proofs.YtjoaclgkjhncjaaGreatDoor
namespace Go.Proofs.YtjoaclgkjhncjaaGreatDoor
open Go.AI Go.G
set_option maxRecDepth 20000
attribute [simp] Tryz.ntmps227 Tryz.results227
theorem qu8 (f:G.Frame)(hf:OkFrame f)(he:¬za4 f=0):Ct Tryz.prog 227 [st (zam f)] [] [] (.tup [nilS,int (za4 f)]) []:=by
 refine Ct.B Tryz.func227 mixed 9999 400 ?_;simp;refine CI.p (zkt f hf) Tryz.call185 9999 ?_ (ha:=by simp[he]);simp[he];first|exact fin0 (by simp) rfl|exact zaa (by simp)
set_option maxHeartbeats 1000000 in
theorem qx1 (f:G.Frame)(he:za4 f=0):Ct Tryz.prog 227 [st (zam f)] [] [] (.tup [lst ((putB f).map byteC),int 0]) []:=by
 refine Ct.B Tryz.func227 mixed 9999 400 ?_;simp;have F:=qwr (frameE_zero.1 he);have lk:=zb6 (l:=f.gone) (lay:=zct) (m:=22) fun k hk=>zd7 (F.gone k hk);have la:=zb6 (l:=f.adds) (lay:=resB) (m:=1496) fun r hr=>zk7 (znm (F.adds r hr));have l1:=F.la;have l2:=F.lg;have l3:=F.lh;have l4:=F.ld;have n1:=zad f.epoch;have n2:=zad f.kind;have n3:=zad f.nonce;have n4:=zad f.err;have n5:=zad f.turn;have n6:=zad f.have_.length;have hy:∀m∈f.have_,(zhg m).length≤27:=fun m hm=>zlm (F.have_ m hm).1;obtain⟨x,e0⟩:∃x,numB f.type=[x]:=⟨_,qd1 (by rcases F.ty with h|h|h|h<;>omega) (by rcases F.ty with h|h|h|h<;>omega)⟩;refine CI.p (zkt f (zf5 he)) Tryz.call185 9999 ?_ (ha:=by simp[he]);simp[he];refine CI.p (qvz f.type) Tryz.call286 9999 ?_ (ha:=by simp[e0]);simp[e0];refine CI.p (zdo x [] f.epoch (by simp)) Tryz.call286 9999 ?_;simp;refine⟨by decide+kernel,?_⟩;rcases F.ty with g0|g0|g0|g0
 all_goals rw[g0]at e0
 ·simp[g0];refine CI.p (zdo x (numB f.epoch) f.have_.length (by omega)) Tryz.call286 9999 ?_;simp;refine LoopI.U mixed (f.have_) (fun k=>[(5,lst ((x::(numB f.epoch++numB f.have_.length++(f.have_.take k.1).flatMap zhg)).map byteC)),(36,lst (f.have_.map zfq)),(37,int f.have_.length),(38,int k.1)]) (fun k=>[]) 65 [] (by constructor<;>simp) ?_;rintro⟨k,hk1⟩ B hB;refine CI.run 9999 400 rfl ?_;simp;refine sBI (fun h=>?_) (fun h=>?_)
  ·have hk:k<(f.have_).length:=by simpa using h
   obtain⟨m,hx,hr,hm,ht,hd⟩:=inL hk;have hw:=wr (k:=k) (by omega);simp only[h];simp[hr,hw];have hk2:=zhn f.have_ k hy;have F1:=F.have_ m hm;have n7:=zd7 F1.1;refine CI.p (qbe x (numB f.epoch++numB f.have_.length++(f.have_.take k).flatMap zhg) m.k F1.1 (by simp only[List.length_append];omega)) Tryz.call287 9999 ?_;simp;refine CI.p (zdo x (numB f.epoch++numB f.have_.length++(f.have_.take k).flatMap zhg++zct m.k) m.ver (by simp only[List.length_append];omega)) Tryz.call286 9999 ?_;simp;refine⟨by decide+kernel,?_⟩;refine hB _ ⟨k+1,by omega⟩ [] ?_ (by simp;omega);constructor<;>simp[hw,ht,zhg]
  ·have hkl:k=(f.have_).length:=by simp at h;omega
   subst hkl;simp only[h];simp[List.take_length,List.drop_length];first|exact fin0 (by simp[putB,zg2,g0,e0,zaq]) rfl|exact zaa (by simp[putB,zg2,g0,e0,zaq])
 ·simp[g0];refine CI.p (zdo x (numB f.epoch) f.kind (by omega)) Tryz.call286 9999 ?_;simp;refine CI.p (zdo x (numB f.epoch++numB f.kind) f.nonce (by simp;omega)) Tryz.call286 9999 ?_;simp;refine⟨by decide+kernel,?_⟩;refine CI.p (qlu x (numB f.epoch++numB f.kind++numB f.nonce) f.adds F.adds l1 (by simp;omega)) Tryz.call289 9999 ?_;simp;refine CI.p (zpz x (numB f.epoch++numB f.kind++numB f.nonce++zaq f.adds resB) f.gone F.gone l2 (by simp only[List.length_append];omega)) Tryz.call288 9999 ?_;simp;refine⟨by decide+kernel,?_⟩;first|exact fin0 (by simp[putB,zg2,g0,e0]) rfl|exact zaa (by simp[putB,zg2,g0,e0])
 ·simp[g0];refine CI.p (zdo x (numB f.epoch) f.kind (by omega)) Tryz.call286 9999 ?_;simp;refine CI.p (zdo x (numB f.epoch++numB f.kind) f.nonce (by simp;omega)) Tryz.call286 9999 ?_;simp;refine CI.p (zdo x (numB f.epoch++numB f.kind++numB f.nonce) f.err (by simp;omega)) Tryz.call286 9999 ?_;simp;refine⟨by decide+kernel,?_⟩;refine CI.p (zdo x (numB f.epoch++numB f.kind++numB f.nonce++numB f.err) f.turn (by simp;omega)) Tryz.call286 9999 ?_;simp;refine CI.p (zpz x (numB f.epoch++numB f.kind++numB f.nonce++numB f.err++numB f.turn) f.held F.held l4 (by simp only[List.length_append];omega)) Tryz.call288 9999 ?_;simp;refine⟨by decide+kernel,?_⟩;first|exact fin0 (by simp[putB,zg2,g0,e0]) rfl|exact zaa (by simp[putB,zg2,g0,e0])
 ·simp[g0];refine CI.p (zdo x (numB f.epoch) f.turn (by omega)) Tryz.call286 9999 ?_;simp;refine CI.p (zpz x (numB f.epoch++numB f.turn) f.held F.held l4 (by simp only[List.length_append];omega)) Tryz.call288 9999 ?_;simp;refine⟨by decide+kernel,?_⟩;first|exact fin0 (by simp[putB,zg2,g0,e0]) rfl|exact zaa (by simp[putB,zg2,g0,e0])
attribute [simp] Tryz.ntmps231 Tryz.results231
theorem qwj (l:List G.Mark)(t:List UInt8)(hs:∀m∈l,okK m.k=true∧0≤m.ver∧m.ver≤2147483647)(hl:l.length≤64)(ht:t.length≤700000):Ct Tryz.prog 231 [.ptr 0 0] [] [(0,.cells [lst ((zaq l zhg++t).map byteC),int 0] 324)] (lst (l.map zfq)) [(0,.cells [lst (t.map byteC),int 0] 324)]:=by
 refine Ct.B Tryz.func231 mixed 9999 400 ?_;simp;have hy:∀m∈l,(zhg m).length≤27:=fun m hm=>zlm (hs m hm).1;have hall:=zdt l hy;refine CI.cc [0] (zc4 l.length 64 (l.flatMap zhg++t) (by omega) (zb3 (by omega) (by omega) (by omega)) (by simp only[List.length_append];omega)) Tryz.call230 9999 ?_ (ha:=by simp[zaq]) (hk:=by simp[zaq]);simp[zaq];refine LoopI.nilOwn 3 3 362 rfl ?_;refine LoopI.U mixed (l) (fun k=>[(0,.ptr 0 0),(3,.own 64),(6,int l.length),(7,int k.1)]) (fun k=>[(64,.grow 3 ((l.take k.1).map zfq) 362),(0,.cells [lst (((l.drop k.1).flatMap zhg++t).map byteC),int 0] 324)]) 65 [] (by constructor<;>simp) ?_;rintro⟨k,hk1⟩ B hB;refine CI.run 9999 400 rfl ?_;simp;refine sBI (fun h=>?_) (fun h=>?_)
 ·have hk:k<(l).length:=by simpa using h
  obtain⟨m,hx,hr,hm,ht,hd⟩:=inL hk;have hw:=wr (k:=k) (by omega);simp only[h];simp[hr,hw];have hd2:=zhm l (k+1) hy;obtain⟨q1,q2,q3⟩:=hs m hm;have n1:=zad m.ver;refine CI.cc [0] (zvg m.k (numB m.ver++((l.drop (k+1)).flatMap zhg++t)) q1 (by simp only[List.length_append];omega)) Tryz.call293 9999 ?_ (ha:=by simp[hd,zhg]) (hk:=by simp[hd,zhg]);simp[hd,zhg];refine CI.cc [0] (zc4 m.ver 2147483647 ((l.drop (k+1)).flatMap zhg++t) q2 (zb3 q3 (by omega) (by omega)) (by simp only[List.length_append];omega)) Tryz.call230 9999 ?_;simp;refine⟨by omega,?_⟩;refine hB _ ⟨k+1,by omega⟩ [] ?_ (by simp;omega);constructor<;>simp[hw,ht]
 ·have hkl:k=(l).length:=by simp at h;omega
  subst hkl;simp only[h];simp[List.take_length,List.drop_length];first| (refine⟨[],?_,?_,?_,?_,?_,?_,?_⟩<;>simp[nmF,inB];done)| (refine⟨by decide+kernel,?_⟩;refine⟨[],?_,?_,?_,?_,?_,?_,?_⟩<;>simp[nmF,inB])
set_option maxHeartbeats 1000000 in
attribute [simp] Tryz.ntmps179 Tryz.results179
theorem qye (f:G.Frame)(he:za4 f=0):Ct Tryz.prog 179 [lst ((putB f).map byteC)] [] [] (.tup [st (zam f),int 0]) []:=by
 refine Ct.B Tryz.func179 mixed 9999 400 ?_;simp;have F:=qwr (frameE_zero.1 he);have lk:=zb6 (l:=f.gone) (lay:=zct) (m:=22) fun k hk=>zd7 (F.gone k hk);have ld:=zb6 (l:=f.held) (lay:=zct) (m:=22) fun k hk=>zd7 (F.held k hk);have la:=zb6 (l:=f.adds) (lay:=resB) (m:=1496) fun r hr=>zk7 (znm (F.adds r hr));have lh:=zb6 (l:=f.have_) (lay:=zhg) (m:=27) fun m hm=>zlm (F.have_ m hm).1;have l1:=F.la;have l2:=F.lg;have l3:=F.lh;have l4:=F.ld;have n1:=zad f.epoch;have n2:=zad f.kind;have n3:=zad f.nonce;have n4:=zad f.err;have n5:=zad f.turn;have hb:=zoo (frameE_zero.1 he);have hbl:(zg2 f).length≤99000:=by simp only[putB,List.length_append]at hb;omega
 refine CI.cc [320] (zc4 f.type 3 (numB f.epoch++zg2 f) (by rcases F.ty with h|h|h|h<;>omega) (zb3 (by rcases F.ty with h|h|h|h<;>omega) (by omega) (by omega)) (by simp only[List.length_append];omega)) Tryz.call230 9999 ?_ (ha:=by simp[putB]) (hk:=by simp[putB]);simp[putB];refine CI.cc [320] (zc4 f.epoch 2147483647 (zg2 f) F.e0 (zb3 F.e1 (by omega) (by omega)) (by omega)) Tryz.call230 9999 ?_;simp;have hf4:=zkt f (zf5 he);rw[he]at hf4;rcases F.ty with g0|g0|g0|g0
 ·obtain⟨a1,a2,a3,a4,a5,a6,a7⟩:=F.s0 g0;have e1:zg2 f=zaq f.have_ zhg++[]:=by simp[zg2,g0]
  simp[g0,e1];refine CI.cc [320] (qwj f.have_ [] F.have_ l3 (by simp)) Tryz.call231 9999 ?_;simp;simp only[zam,g0,a1,a2,a3,a4,a5,a6,a7]at hf4;refine CI.cc [320] zto Tryz.call234 9999 ?_;simp;refine CI.p hf4 Tryz.call185 9999 ?_;simp;first|exact fin0 (by simp[g0,a1,a2,a3,a4,a5,a6,a7]) rfl|exact zaa (by simp[g0,a1,a2,a3,a4,a5,a6,a7])
 ·obtain⟨a1,a2,a3,a4⟩:=F.s1 g0;have e1:zg2 f=numB f.kind++(numB f.nonce++(zaq f.adds resB++(zaq f.gone zct++[]))):=by simp[zg2,g0]
  simp[g0,e1];refine CI.cc [320] (zc4 f.kind 3 (numB f.nonce++(zaq f.adds resB++(zaq f.gone zct++[]))) F.k0 (zb3 F.k3 (by omega) (by omega)) (by simp only[List.length_append,List.length_nil];omega)) Tryz.call230 9999 ?_;simp;refine CI.cc [320] (zc4 f.nonce 2147483647 (zaq f.adds resB++(zaq f.gone zct++[])) F.n0 (zb3 F.n1 (by omega) (by omega)) (by simp only[List.length_append,List.length_nil];omega)) Tryz.call230 9999 ?_;simp;refine CI.cc [320] (qfn f.adds (zaq f.gone zct++[]) F.adds l1 (by simp only[List.length_append,List.length_nil];omega)) Tryz.call232 9999 ?_;simp;refine CI.cc [320] (zmk f.gone [] F.gone l2 (by simp)) Tryz.call233 9999 ?_;simp;simp only[zam,g0,a1,a2,a3,a4]at hf4;refine CI.cc [320] zto Tryz.call234 9999 ?_;simp;refine CI.p hf4 Tryz.call185 9999 ?_;simp;first|exact fin0 (by simp[g0,a1,a2,a3,a4]) rfl|exact zaa (by simp[g0,a1,a2,a3,a4])
 ·obtain⟨a1,a2,a3⟩:=F.s2 g0;have e1:zg2 f=numB f.kind++(numB f.nonce++(numB f.err++(numB f.turn++(zaq f.held zct++[])))):=by simp[zg2,g0]
  simp[g0,e1];refine CI.cc [320] (zc4 f.kind 3 (numB f.nonce++(numB f.err++(numB f.turn++(zaq f.held zct++[])))) F.k0 (zb3 F.k3 (by omega) (by omega)) (by simp only[List.length_append,List.length_nil];omega)) Tryz.call230 9999 ?_;simp;refine CI.cc [320] (zc4 f.nonce 2147483647 (numB f.err++(numB f.turn++(zaq f.held zct++[]))) F.n0 (zb3 F.n1 (by omega) (by omega)) (by simp only[List.length_append,List.length_nil];omega)) Tryz.call230 9999 ?_;simp;refine CI.cc [320] (zc4 f.err 15 (numB f.turn++(zaq f.held zct++[])) F.r0 (zb3 F.r1 (by omega) (by omega)) (by simp only[List.length_append,List.length_nil];omega)) Tryz.call230 9999 ?_;simp;refine CI.cc [320] (zc4 f.turn 2147483647 (zaq f.held zct++[]) F.t0 (zb3 F.t1 (by omega) (by omega)) (by simp only[List.length_append,List.length_nil];omega)) Tryz.call230 9999 ?_;simp;refine CI.cc [320] (zmk f.held [] F.held l4 (by simp)) Tryz.call233 9999 ?_;simp;simp only[zam,g0,a1,a2,a3]at hf4;refine CI.cc [320] zto Tryz.call234 9999 ?_;simp;refine CI.p hf4 Tryz.call185 9999 ?_;simp;first|exact fin0 (by simp[g0,a1,a2,a3]) rfl|exact zaa (by simp[g0,a1,a2,a3])
 ·obtain⟨a1,a2,a3,a4,a5,a6⟩:=F.s3 g0;have e1:zg2 f=numB f.turn++(zaq f.held zct++[]):=by simp[zg2,g0]
  simp[g0,e1];refine CI.cc [320] (zc4 f.turn 2147483647 (zaq f.held zct++[]) F.t0 (zb3 F.t1 (by omega) (by omega)) (by simp only[List.length_append,List.length_nil];omega)) Tryz.call230 9999 ?_;simp;refine CI.cc [320] (zmk f.held [] F.held l4 (by simp)) Tryz.call233 9999 ?_;simp;simp only[zam,g0,a1,a2,a3,a4,a5,a6]at hf4;refine CI.cc [320] zto Tryz.call234 9999 ?_;simp;refine CI.p hf4 Tryz.call185 9999 ?_;simp;first|exact fin0 (by simp[g0,a1,a2,a3,a4,a5,a6]) rfl|exact zaa (by simp[g0,a1,a2,a3,a4,a5,a6])
attribute [simp] Tryz.ntmps228 Tryz.results228
theorem qua (l:List UInt8)(hl:l.length≤100000):Ct Tryz.prog 228 [lst (l.map byteC)] [] [] (.tup [lst ((zn2 l).map byteC),int 0]) []:=by
 refine Ct.B Tryz.func228 mixed 9999 400 ?_;simp;have n1:=zad l.length;refine sBI (fun h1=>?_) (fun h1=>?_)<;>simp only[h1]<;>simp<;>(try simp only[nT,nF,dT,dF]at h1)
 ·omega
 refine CI.cc [] (qvx l.length) Tryz.call286 9999 ?_;simp;refine⟨by omega,?_⟩;first|exact fin0 (by simp[zn2]) rfl|exact zaa (by simp[zn2])
attribute [simp] Tryz.ntmps178 Tryz.results178
theorem qv2 (x:UInt8)(p:List UInt8)(hl:(x::p).length≤100000):Ct Tryz.prog 178 [lst ((zn2 (x::p)).map byteC)] [] [] (.tup [lst ((x::p).map byteC),int (zn2 (x::p)).length,int 0]) []:=by
 refine Ct.B Tryz.func178 mixed 9999 400 ?_;simp;have n1:=zad ((x::p).length:Int);refine CI.cc [384] (zc4 (x::p).length 100000 (x::p) (by omega) (zb3 (by omega) (by omega) (by omega)) (by omega)) Tryz.call230 9999 ?_ (ha:=by simp[zn2]) (hk:=by simp[zn2]);simp[zn2];refine⟨by omega,?_⟩;refine CI.cc [] (zz9 x p (by simp at hl;omega)) Tryz.call188 9999 ?_;simp;refine⟨by decide+kernel,?_⟩;rw[show((x::p).length:Int)=p.length+1 by simp]at n1;have hp:p.length+1≤100000:=hl;have w1:IntKind.wrap .i64 ((numB ((p.length:Int)+1)).length:Int)=(numB ((p.length:Int)+1)).length:=zab (by omega) (by omega);have w2:IntKind.wrap .i64 (((numB ((p.length:Int)+1)).length:Int)+(p.length+1))=(numB ((p.length:Int)+1)).length+(p.length+1):=zab (by omega) (by omega);first|exact fin0 (by simp[w1,w2]) rfl|exact zaa (by simp[w1,w2])
end Go.Proofs.YtjoaclgkjhncjaaGreatDoor
namespace Go.Proofs.YtjoaclgkjhncjaaGreatDoor
open Go.AI Go.G
set_option maxRecDepth 20000
theorem qnt (x:UInt8)(l:List UInt8)(hl:l.length≤1000000):Ct Tryz.prog 188 [lst ((x::l).map byteC)] [] [] (lst ((x::l).map byteC)) []:=(zz9 x l hl).data
attribute [simp] Tryz.ntmps187 Tryz.results187
theorem qq2 (l:RLk)(hl:l.q.length≤1000000):Ct Tryz.prog 187 [st (rlkC l)] [] [] (bool (zpq l)) []:=by
 refine Ct.B Tryz.func187 mixed 9999 400 ?_;simp;rw[qgr]
 repeat' first
  | (refine sGI (fun h=>?_) (fun h=>?_)<;>simp only[h]<;>simp[h])
  | (refine sBI (fun h=>?_) (fun h=>?_)<;>simp only[h]<;>simp[h])
  | (refine⟨(show zba _ _ from by decide+kernel),?_⟩)
  |fail
 all_goals exact fin0 (by simp[*]) rfl
attribute [simp] Tryz.ntmps121 Tryz.results121
theorem zok (l:RLk)(hl:l.q.length≤1000000):Ct Tryz.prog 121 [st (rlkC l)] [] [] (st (rlkC (zb1 l))) []:=by
 refine Ct.B Tryz.func121 mixed 9999 400 ?_;simp;refine CI.p (qq2 l hl) Tryz.call187 9999 ?_;simp;cases hs:zpq l with
 |false=>
  have e:=qlk hs;simp[hs];first|exact fin0 (by simp[e]) rfl|exact zaa (by simp[e])
 |true=>
  have e:=zvz hs;simp[hs];first|exact fin0 (by simp[e]) rfl|exact zaa (by simp[e])
attribute [simp] Tryz.ntmps123 Tryz.results123
theorem qgj (l:RLk)(x:UInt8)(b:List UInt8)(h:OkLk l)(hb:(x::b).length≤200000):Ct Tryz.prog 123 [st (rlkC l),lst ((x::b).map byteC)] [] [] (.tup [st (rlkC (ztj l (x::b)).1),int (ztj l (x::b)).2]) []:=by
 refine Ct.B Tryz.func123 mixed 9999 400 ?_;simp;refine CI.p (zok l h.len) Tryz.call121 9999 ?_;simp;simp only[ztj];have h32:=zmo l;generalize zb1 l=q at*;refine sBI (fun h1=>?_) (fun h1=>?_)<;>simp only[h1]<;>simp<;>(try simp only[nT,nF,dT,dF]at h1)
 ·have e:qgk q (x::b)=(q,8):=zmp (by omega);first|exact fin0 (by simp[e]) rfl|exact zaa (by simp[e])
 ·have e:qgk q (x::b)=(⟨q.epoch,q.q++[x::b]⟩,0):=zjb (by omega);refine CI.p (qnt x b (by simp at hb;omega)) Tryz.call188 9999 ?_;simp;refine⟨by omega,?_⟩;refine⟨by decide+kernel,?_⟩;first|exact fin0 (by simp[e]) rfl|exact zaa (by simp[e])
attribute [simp] Tryz.ntmps122 Tryz.results122
theorem qhi (l:RLk)(i:Int)(hl:l.q.length≤1000000)(hq:l.q≠[]):Ct Tryz.prog 122 [st (rlkC l),int i] [] [] (.tup [int (placeK l i),bool true]) []:=by
 refine Ct.B Tryz.func122 mixed 9999 400 ?_;simp;have e:=qhj i hq;have hz:¬(l.q.length:Int)=0:=by have:=List.length_pos_iff.2 hq;omega
 simp[hq];first|exact fin0 (by simp[e]) rfl|exact zaa (by simp[e])
theorem qbi (e i:Int):Ct Tryz.prog 122 [st [iD e,lD []],int i] [] [] (.tup [int 0,bool false]) []:=by
 refine Ct.B Tryz.func122 mixed 9999 400 ?_;simp;first|exact fin0 (by simp) rfl|exact zaa (by simp)
attribute [simp] Tryz.ntmps229 Tryz.results229
theorem qyc (n:Int)(h0:0<n)(h1:n≤2000000):Ct Tryz.prog 229 [nilS,int n] [] [] (.sl 64 1 0 0) [(64,.grow 1 (List.replicate n.toNat [.v (.slice none 0 0)]) 199)]:=by
 refine Ct.B Tryz.func229 mixed 9999 400 ?_;simp;have g1:¬n<0:=by omega
 have g2:IntKind.wrap .i64 n=n:=zab (by omega) (by omega);simp[g1,g2,h0];refine⟨⟨by omega,by omega⟩,by omega,?_⟩;first| (refine⟨[(64,1216)],?_,?_,?_,?_,?_,?_,?_⟩<;>simp[nmF,inB];done)| (refine⟨by decide+kernel,?_⟩;refine⟨[(64,1216)],?_,?_,?_,?_,?_,?_,?_⟩<;>simp[nmF,inB])
theorem qwl :Ct Tryz.prog 229 [nilS,int 0] [] [] (nilS) []:=by
 refine Ct.B Tryz.func229 mixed 9999 400 ?_;simp;first|exact fin0 (by simp) rfl|exact zaa (by simp)
attribute [simp] Tryz.ntmps177 Tryz.results177
theorem qtb (a b:List (List UInt8))(h1:a.length+b.length≤2000000):Ct Tryz.prog 177 [.own 0] [(0,.grow 1 [[.ro true (a.map txC)],[lD (b.map txC)]] 112)] [] (lst ((a++b).map txC)) []:=by
 refine Ct.B Tryz.func177 mixed 9999 400 ?_;simp;have w1:IntKind.wrap .i64 (a.length:Int)=a.length:=zab (by omega) (by omega);have w2:IntKind.wrap .i64 ((a.length:Int)+b.length)=a.length+b.length:=zab (by omega) (by omega);have v1:¬((a.length:Int)<0):=by omega
 have v2:¬((a.length:Int)+b.length<0):=by omega
 refine LoopI.unroll mixed (Plain.retC _ _ _ _ _) rfl ?_;refine CI.run 9999 400 rfl ?_;simp[w1,v1];refine LoopI.unroll mixed (Plain.retC _ _ _ _ _) rfl ?_;refine CI.run 9999 400 rfl ?_;simp[w2,v2];refine LoopI.unroll mixed (Plain.retC _ _ _ _ _) rfl ?_;refine CI.run 9999 400 rfl ?_;simp;by_cases h0:a.length+b.length=0
 ·have ha:a=[]:=List.eq_nil_of_length_eq_zero (by omega);have hb:b=[]:=List.eq_nil_of_length_eq_zero (by omega);subst ha;subst hb;refine CI.p qwl Tryz.call229 9999 ?_;simp;refine LoopI.unroll mixed (Plain.retC _ _ _ _ _) rfl ?_;refine CI.run 9999 400 rfl ?_;simp;refine LoopI.unroll mixed (Plain.retC _ _ _ _ _) rfl ?_;refine CI.run 9999 400 rfl ?_;simp;refine LoopI.unroll mixed (Plain.retC _ _ _ _ _) rfl ?_;refine CI.run 9999 400 rfl ?_;simp;first| (refine⟨[],?_,?_,?_,?_,?_,?_,?_⟩<;>simp[nmF,inB];done)| (refine⟨by decide+kernel,?_⟩;refine⟨[],?_,?_,?_,?_,?_,?_,?_⟩<;>simp[nmF,inB])
 ·refine CI.cc [] (qyc ((a.length:Int)+b.length) (by omega) (by omega)) Tryz.call229 9999 ?_;simp;refine LoopI.unroll mixed (Plain.retC _ _ _ _ _) rfl ?_;refine CI.run 9999 400 rfl ?_;simp;refine⟨by omega,?_⟩;refine LoopI.unroll mixed (Plain.retC _ _ _ _ _) rfl ?_;refine CI.run 9999 400 rfl ?_;simp;refine⟨by omega,?_⟩;refine LoopI.unroll mixed (Plain.retC _ _ _ _ _) rfl ?_;refine CI.run 9999 400 rfl ?_;simp;first| (refine⟨[],?_,?_,?_,?_,?_,?_,?_⟩<;>simp[nmF,inB];done)| (refine⟨by decide+kernel,?_⟩;refine⟨[],?_,?_,?_,?_,?_,?_,?_⟩<;>simp[nmF,inB])
attribute [simp] Tryz.ntmps116 Tryz.results116
theorem qfl (l:RLk)(i:Int)(h:OkLk l):Ct Tryz.prog 116 [st (rlkC l),int i] [] [] (.tup [st (rlkC (zpa l i).1),lst ((zpa l i).2.1.map byteC),int (zpa l i).2.2]) []:=by
 refine Ct.B Tryz.func116 mixed 9999 400 ?_;simp;refine CI.p (zok l h.len) Tryz.call121 9999 ?_;simp;simp only[zpa];have h32:=zmo l;have h':=h.sound;generalize zb1 l=q at*;by_cases hq:q.q=[]
 ·obtain⟨e,q⟩:=q;simp only at hq;subst hq;refine CI.p (qbi e i) Tryz.call122 9999 ?_;simp;have e1:= @zrp e i;first|exact fin0 (by simp[e1]) rfl|exact zaa (by simp[e1])
 ·have e1:=zro (i:=i) hq;have e2:=zlc i hq;refine CI.p (qhi q i (by omega) hq) Tryz.call122 9999 ?_;simp;generalize placeK q i=k at*;have w1:IntKind.wrap .i64 ((k:Int)+1)=k+1:=zab (by omega) (by omega);have w2:((k:Int)+1).toNat=k+1:=by omega
  simp[e2,w1,w2];refine⟨by omega,?_⟩;refine⟨⟨by omega,by omega⟩,?_⟩;have e3:q.q[k]?.getD []=q.q[k]:=by simp[e2]
  refine CI.cc [2176] (qtb (q.q.take k) (q.q.drop (k+1)) (by simp;omega)) Tryz.call177 9999 ?_;simp;refine⟨by decide+kernel,?_⟩;first|exact fin0 (by simp[e1,e3]) rfl|exact zaa (by simp[e1,e3])
attribute [simp] Tryz.ntmps78 Tryz.results78
theorem qw3 (l:RLk)(i:Int)(h:OkLk l):Ct Tryz.prog 78 [st (rlkC l),int i] [] [] (.tup [st (rlkC (qel l i).1),int (qel l i).2]) []:=by
 refine Ct.B Tryz.func78 mixed 9999 400 ?_;simp;refine CI.p (qfl l i h) Tryz.call116 9999 ?_;simp;first|exact fin0 (by simp[qel]) rfl|exact zaa (by simp[qel])
attribute [simp] Tryz.ntmps79 Tryz.results79
theorem qt2 (l:RLk)(i:Int)(h:OkLk l):Ct Tryz.prog 79 [st (rlkC l),int i] [] [] (.tup [st (rlkC (zyi l i).1),int (zyi l i).2]) []:=by
 refine Ct.B Tryz.func79 mixed 9999 400 ?_;simp;refine CI.p (zok l h.len) Tryz.call121 9999 ?_;simp;have h32:=zmo l;have h':=h.sound;unfold zyi;generalize zb1 l=q at*;by_cases hq:q.q=[]
 ·obtain⟨e,q⟩:=q;simp only at hq;subst hq;refine CI.p (qbi e i) Tryz.call122 9999 ?_;simp;first|exact fin0 (by simp) rfl|exact zaa (by simp)
 ·have e2:=zlc i hq;refine CI.p (qhi q i (by omega) hq) Tryz.call122 9999 ?_;simp;generalize placeK q i=k at*;obtain⟨g1,g2⟩:=h'.getD e2;have e3:q.q.getD k []=q.q[k]:=by simp[e2]
  rw[e3]at g1 g2;simp only[e3,if_neg hq];simp[e2];generalize q.q[k]=b at*;cases b with
  |nil=>exact absurd rfl g1
  |cons x b=>
   refine CI.p (qgj q x b h' g2) Tryz.call123 9999 ?_;simp;first|exact fin0 (by simp) rfl|exact zaa (by simp)
attribute [simp] Tryz.ntmps80 Tryz.results80
theorem qwa (l:RLk)(i:Int)(h:OkLk l):Ct Tryz.prog 80 [st (rlkC l),int i] [] [] (.tup [st (rlkC (qis l i).1),int (qis l i).2]) []:=by
 refine Ct.B Tryz.func80 mixed 9999 400 ?_;simp;refine CI.p (qfl l i h) Tryz.call116 9999 ?_;simp;unfold qis zpa;have h':=h.sound;generalize zb1 l=q at*;by_cases hq:q.q=[]
 ·obtain⟨e,q⟩:=q;simp only at hq;subst hq;have e1:= @zrp e i;simp[e1];first|exact fin0 (by simp) rfl|exact zaa (by simp)
 ·have e2:=zlc i hq;have h2:=h'.take i;have e1:=zro (i:=i) hq;obtain⟨g1,g2⟩:=h'.getD e2;rw[e1]at h2⊢;simp only[if_neg hq]at h2⊢;generalize q.q.getD (placeK q i) []=b at*;simp;cases b with
  |nil=>exact absurd rfl g1
  |cons x b=>
   refine CI.p (qgj ⟨q.epoch,q.q.take (placeK q i)++q.q.drop (placeK q i+1)⟩ x b h2 g2) Tryz.call123 9999 ?_;simp;first|exact fin0 (by simp) rfl|exact zaa (by simp)
attribute [simp] Tryz.ntmps189 Tryz.results189
theorem qq8 (l:RLk)(hl:l.q.length≤1000000):Ct Tryz.prog 189 [st (rlkC l)] [] [] (.tup [st (rlkC (qba l).1),int (qba l).2]) []:=by
 refine Ct.B Tryz.func189 mixed 9999 400 ?_;simp;refine CI.p (zok l hl) Tryz.call121 9999 ?_;simp;obtain⟨h1,h2⟩:=qdj l;unfold qba;generalize zb1 l=q at*;refine sBI (fun h3=>?_) (fun h3=>?_)<;>simp only[h3]<;>simp<;>(try simp only[nT,nF,dT,dF]at h3)
 ·first|exact fin0 (by simp[h3]) rfl|exact zaa (by simp[h3])
 ·have w1:IntKind.wrap .i64 (q.epoch+1)=q.epoch+1:=zab (by omega) (by omega);first|exact fin0 (by simp[h3,w1]) rfl|exact zaa (by simp[h3,w1])
end Go.Proofs.YtjoaclgkjhncjaaGreatDoor
