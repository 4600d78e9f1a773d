/-
  LAYER 24: the walks of a mesh made, and of many steps; the laws' own helpers.
-/
import Derived.Test.YtegplpagkajolaaGreatDoorWn
import Derived.Test.YtegplpagkajolaaGreatDoorPq
import Derived.Test.YtegplpagkajolaaGreatDoorWb
import Derived.Test.YtegplpagkajolaaGreatDoorWl
import Derived.Test.YtegplpagkajolaaGreatDoorPt
set_option linter.unusedSimpArgs false
set_option linter.unusedVariables false
set_option maxRecDepth 100000
set_option maxHeartbeats 8000000
namespace Go.Proofs.YtegplpagkajolaaGreatDoor
open Go.AI Go.G Tryz
attribute [simp] ntmps35 results35 ntmps28 results28 ntmps30 results30
@[simp] theorem lenAll_mstep (l:List bJ):jV (l.map cZ) 11=True:=vG (f:=cZ) (n:=11) (fun _=>rfl) l
@[simp] theorem lenAll_mout (l:List sQ):jV (l.map eV) 7=True:=vG (f:=eV) (n:=7) (fun _=>rfl) l
def mJ (l:List bJ):Bool:=l.all uK&&decide (l.length<=60)
theorem SF {l:List bJ}{s:bJ}(hm:s∈l)(h:uK s=false):mJ l=false:=by
 have:l.all uK=false:=by rw[B4];exact⟨s,hm,by simp[h]⟩
 simp[mJ,this]
theorem Qh (l:List bJ)(ha:∀s∈l,dK s.aD)(hl:l.length<=9223372036854775807):Ct prog 35 [aC (l.map cZ)] [] [] (bool (mJ l)) []:=by
 refine Ct.B func35 ?_;simp;refine aQ.inv mixed rfl (ι:={k:Nat//k<=(l).length/\(l.take k).all uK=true}) (fun k=>[(0,aC (l.map cZ)),(3,int k.1)]) (fun k=>[]) 64 (fun k=>(l).length-k.1) ⟨0,by omega,by simp⟩ [] (by constructor<;>simp) ?_;rintro⟨k,hk1,hi⟩ B hB;refine CI.n ?_;simp;refine aJ (fun h=>?_) (fun h=>?_)
 ·have hk:k<(l).length:=by simpa using h
  obtain⟨s,hx,hr,hm,ht,hd,hw⟩:=dL hk;simp only[h];simp[hr,hw];have ea:=mD s.a.host;have eb:=mD s.a.path;refine CI.p (MY s.aD (ha s hm)) ?_;simp;cases h1:yI s.aD with
  |false=>
   have hn:uK s=false:=by simp[uK,h1]
   simp[h1];exact aB (by simp[SF hm hn]) rfl
  |true=>
   by_cases h2:s.gone.length<=80
   ·have h2':¬(80:Int)<s.gone.length:=by omega
    by_cases h3:(bs s.a.host).length<=100
    ·have h3':¬(100:Int)<(bs s.a.host).length:=by omega
     by_cases h4:(bs s.a.path).length<=100
     ·have h4':¬(100:Int)<(bs s.a.path).length:=by omega
      simp[hr,h1,h2',ea,eb,h3',h4'];refine hB _ ⟨k+1,by omega,by simp[ht,hi,uK,h1,h2,h3,h4]⟩ [] ?_ (by simp;omega);constructor<;>simp[hw,ht,uK,h1,h2,h3,h4]
     ·have hn:uK s=false:=by simp[uK,h4]
      have h4':(100:Int)<(bs s.a.path).length:=by omega
      simp[hr,h1,h2',ea,eb,h3',h4'];exact aB (by simp[SF hm hn]) rfl
    ·have hn:uK s=false:=by simp[uK,h3]
     have h3':(100:Int)<(bs s.a.host).length:=by omega
     simp[hr,h1,h2',ea,eb,h3'];exact aB (by simp[SF hm hn]) rfl
   ·have hn:uK s=false:=by simp[uK,h2]
    have h2':(80:Int)<s.gone.length:=by omega
    simp[hr,h1,h2'];exact aB (by simp[SF hm hn]) rfl
 ·obtain rfl:k=(l).length:=by simp at h;omega
  simp only[h];simp;rw[fA]at hi;have e60:((l.length:Int)<=60)=(l.length<=60):=propext (by omega);exact aB (by simp[mJ,hi,e60]) rfl
theorem JN (l:List bJ)(ha:∀s∈l,dK s.aD)(hl:l.length<=9223372036854775807):Ct prog 28 [aC (l.map cZ)] [] [] (bool (mJ l)) []:=by
 refine Ct.B func28 ?_;simp;refine CI.p (Qh l ha hl) ?_;simp;cases h1:mJ l with
 |false=>
  simp[h1];exact aB (by simp[h1]) rfl
 |true=>
  have h2:(l.length:Int)<=60:=by simp[mJ]at h1;omega
  simp[h1,h2];exact aB (by simp[h1]) rfl
theorem Di (l:List bJ)(hl:l.length<=1000000):Ct prog 30 [aC (l.map cZ)] [] [] (aC (l.map cZ)) []:=by
 refine Ct.B func30 ?_;simp;refine aQ.j1 3 11 48 rfl ?_;refine aQ.V (l) (fun k=>[(0,aC (l.map cZ)),(3,.own 64),(4,int k.1)]) (fun k=>[(64,.grow 11 ((l.take k.1).map cZ) 48)]) 65 (fun k hk1 B hB=>?_);simp;refine aJ (fun h=>?_) (fun h=>?_)
 ·have hk:k<(l).length:=by simpa using h
  obtain⟨x,hx,hr,hm,ht,hd,hw⟩:=dL hk;simp only[h];simp[hr,hw];refine⟨by omega,?_⟩;refine⟨by decide+kernel,?_⟩;exact hB hk (by constructor<;>simp[hw,ht])
 ·obtain rfl:k=(l).length:=by simp at h;omega
  simp only[h];simp;exact aB (by simp) rfl
attribute [simp] ntmps9 results9
abbrev Ed (c:bS):Int:=if 1<if 4<c.qH then 4 else c.qH then if 4<c.qH then 4 else c.qH else 1
theorem O2 {c:bS}{k:Nat}(h:cR c=k):Ed c=k:=by
 unfold cR at h;unfold Ed;split<;>split at* <;>omega
@[simp] def Rz :Nat->List (List D)->List (Nat×bC)
  |_,[]=>[]
  |j,n::l=>(j,.cells (n.map .d) 114)::Rz (j+1) l
abbrev BK (M:G.bL):List (Nat×bC):=(64,.cells [int M.c.qH,int M.c.cap,int M.c.iG,int M.c.max,int M.p.cap,aC (M.p.bV.map r9),.own 65,int M.lost] 92)::(65,.eW (QP 66 (M.ns.map gG)) 93)::Rz 66 (M.ns.map gG)
theorem zeJ (c:bS)(hk:cR c=1):Ct prog 9 [st (jR c)] [] [] (.ptr 64 0) (BK ⟨c,iA c.cap,[fZ c],0⟩):=by
 refine Ct.B func9 ?_;simp;have hs:=O2 hk;refine CI.p (IQ c.cap) ?_;simp;refine⟨by decide+kernel,?_⟩;simp only[hs];refine aQ.rounds 2 ?_;refine dE.s ?_;simp;refine CI.p (wL c.iG c.max) ?_;simp;refine CI.p (wM 0 c.max) ?_;simp;refine⟨by decide+kernel,?_⟩;refine dE.step mixed rfl ?_;refine CI.run 6 400 rfl ?_;simp;refine CI.s (tm:=[(3,.ptr 512 0)]) (mm:=[(512,.cells [int c.qH,int c.cap,int c.iG,int c.max,int (iA c.cap).cap,aC ((iA c.cap).bV.map r9),.own 2048,int 0] 92),(2048,.eW [1920] 93),(1920,.cells ((gG (fZ c)).map .d) 114)]) (nx:=2112) [] [] (by constructor<;>simp[fZ,qB]) ?_;refine CI.n ?_;simp;exact⟨[(64,512),(65,2048),(66,1920)],by constructor<;>simp[aV,aW]⟩
theorem zeI (c:bS)(hk:cR c=2):Ct prog 9 [st (jR c)] [] [] (.ptr 64 0) (BK ⟨c,iA c.cap,[fZ c,fZ c],0⟩):=by
 refine Ct.B func9 ?_;simp;have hs:=O2 hk;refine CI.p (IQ c.cap) ?_;simp;refine⟨by decide+kernel,?_⟩;simp only[hs];refine aQ.rounds 3 ?_;refine dE.s ?_;simp;refine CI.p (wL c.iG c.max) ?_;simp;refine CI.p (wM 0 c.max) ?_;simp;refine⟨by decide+kernel,?_⟩;refine dE.s ?_;simp;refine CI.p (wL c.iG c.max) ?_;simp;refine CI.p (wM 0 c.max) ?_;simp;refine⟨by decide+kernel,?_⟩;refine dE.step mixed rfl ?_;refine CI.run 6 400 rfl ?_;simp;refine CI.s (tm:=[(3,.ptr 512 0)]) (mm:=[(512,.cells [int c.qH,int c.cap,int c.iG,int c.max,int (iA c.cap).cap,aC ((iA c.cap).bV.map r9),.own 3520,int 0] 92),(3520,.eW [1920,3392] 93),(1920,.cells ((gG (fZ c)).map .d) 114),(3392,.cells ((gG (fZ c)).map .d) 114)]) (nx:=3584) [] [] (by constructor<;>simp[fZ,qB]) ?_;refine CI.n ?_;simp;exact⟨[(64,512),(65,3520),(66,1920),(67,3392)],by constructor<;>simp[aV,aW]⟩
theorem zeH (c:bS)(hk:cR c=3):Ct prog 9 [st (jR c)] [] [] (.ptr 64 0) (BK ⟨c,iA c.cap,[fZ c,fZ c,fZ c],0⟩):=by
 refine Ct.B func9 ?_;simp;have hs:=O2 hk;refine CI.p (IQ c.cap) ?_;simp;refine⟨by decide+kernel,?_⟩;simp only[hs];refine aQ.rounds 4 ?_;refine dE.s ?_;simp;refine CI.p (wL c.iG c.max) ?_;simp;refine CI.p (wM 0 c.max) ?_;simp;refine⟨by decide+kernel,?_⟩;refine dE.s ?_;simp;refine CI.p (wL c.iG c.max) ?_;simp;refine CI.p (wM 0 c.max) ?_;simp;refine⟨by decide+kernel,?_⟩;refine dE.s ?_;simp;refine CI.p (wL c.iG c.max) ?_;simp;refine CI.p (wM 0 c.max) ?_;simp;refine⟨by decide+kernel,?_⟩;refine dE.step mixed rfl ?_;refine CI.run 6 400 rfl ?_;simp;refine CI.s (tm:=[(3,.ptr 512 0)]) (mm:=[(512,.cells [int c.qH,int c.cap,int c.iG,int c.max,int (iA c.cap).cap,aC ((iA c.cap).bV.map r9),.own 4992,int 0] 92),(4992,.eW [1920,3392,4864] 93),(1920,.cells ((gG (fZ c)).map .d) 114),(3392,.cells ((gG (fZ c)).map .d) 114),(4864,.cells ((gG (fZ c)).map .d) 114)]) (nx:=5056) [] [] (by constructor<;>simp[fZ,qB]) ?_;refine CI.n ?_;simp;exact⟨[(64,512),(65,4992),(66,1920),(67,3392),(68,4864)],by constructor<;>simp[aV,aW]⟩
theorem zeG (c:bS)(hk:cR c=4):Ct prog 9 [st (jR c)] [] [] (.ptr 64 0) (BK ⟨c,iA c.cap,[fZ c,fZ c,fZ c,fZ c],0⟩):=by
 refine Ct.B func9 ?_;simp;have hs:=O2 hk;refine CI.p (IQ c.cap) ?_;simp;refine⟨by decide+kernel,?_⟩;simp only[hs];refine aQ.rounds 5 ?_;refine dE.s ?_;simp;refine CI.p (wL c.iG c.max) ?_;simp;refine CI.p (wM 0 c.max) ?_;simp;refine⟨by decide+kernel,?_⟩;refine dE.s ?_;simp;refine CI.p (wL c.iG c.max) ?_;simp;refine CI.p (wM 0 c.max) ?_;simp;refine⟨by decide+kernel,?_⟩;refine dE.s ?_;simp;refine CI.p (wL c.iG c.max) ?_;simp;refine CI.p (wM 0 c.max) ?_;simp;refine⟨by decide+kernel,?_⟩;refine dE.s ?_;simp;refine CI.p (wL c.iG c.max) ?_;simp;refine CI.p (wM 0 c.max) ?_;simp;refine⟨by decide+kernel,?_⟩;refine dE.step mixed rfl ?_;refine CI.run 6 400 rfl ?_;simp;refine CI.s (tm:=[(3,.ptr 512 0)]) (mm:=[(512,.cells [int c.qH,int c.cap,int c.iG,int c.max,int (iA c.cap).cap,aC ((iA c.cap).bV.map r9),.own 6464,int 0] 92),(6464,.eW [1920,3392,4864,6336] 93),(1920,.cells ((gG (fZ c)).map .d) 114),(3392,.cells ((gG (fZ c)).map .d) 114),(4864,.cells ((gG (fZ c)).map .d) 114),(6336,.cells ((gG (fZ c)).map .d) 114)]) (nx:=6528) [] [] (by constructor<;>simp[fZ,qB]) ?_;refine CI.n ?_;simp;exact⟨[(64,512),(65,6464),(66,1920),(67,3392),(68,4864),(69,6336)],by constructor<;>simp[aV,aW]⟩
attribute [simp] ntmps18 results18
@[simp] theorem zdt :∀(l:List D) (ys:List AV),EL.pairL (l.map .d) ys=[]
  |[],ys=>by cases ys<;>rfl
  |x::l,[]=>rfl
  |x::l,y::ys=>by simp only[iU,EL.pairL,zdt l ys,KW];cases y<;>simp[EL]
@[simp] theorem prA_mapd (kp:Nat->Bool)(mm:Nat->Option bC)(n:Nat):fO kp mm n∘AV.d=AV.d:=by funext x;cases n<;>simp[fO]
@[simp] theorem leL_refl (l:List AV):eJ.leL l l=True:=eq_true (RE l)
abbrev BD (b:Nat)(M:G.bL)(ks:List (List D)):List (Nat×bC):=(b,.cells [int M.c.qH,int M.c.cap,int M.c.iG,int M.c.max,int M.p.cap,aC (M.p.bV.map r9),.own (b+1),int M.lost] 92)::(b+1,.eW (QP (b+2) ks) 93)::Z0 (b+2) ks
theorem Ld (c:bS)(hk:cR c=1):Ct prog 9 [st (jR c)] [] [] (.ptr 64 0) (BD 64 (aR c) [gA (aR c) 0]):=by
 have e:aR c=⟨c,iA c.cap,[fZ c],0⟩:=by unfold aR;rw[hk];rfl
 rw[e];exact zeJ c hk
theorem Za (M:G.bL)(s:bJ)(B:Int)(hk:M.ns.length=1)(hM:cN M B)(hB:B<=100000000)(hs:eK s):cO eY prog 12 [.ptr 0 0,st (cZ s)] [] (BC M.c M.p M.lost [gA M 0]) (st (eV (bH M s).2)) (BC (bH M s).1.c (bH M s).1.p (bH M s).1.lost [gA (bH M s).1 0]):=by
 have h:=HT M s B hM hB hs;rw[BM,BM,x7 hk,x7 ((uW hM s).trans hk)]at h;exact h
theorem zda (c:bS)(l:List bJ)(hk:cR c=1)(hl:l.length<=1000)(hs:∀s∈l,eK s):cO eY prog 18 [st (jR c),aC (l.map cZ)] [] [] (.bI [.ptr 64 0,.own 127]) (BD 64 (aY (aR c) l).1 [gA (aY (aR c) l).1 0]++[(127,.grow 7 ((aY (aR c) l).2.map eV) 42)]):=by
 refine cO.B lZ func18 ?_;simp;have hn:(aR c).ns.length=1:=by simp[aR,hk]
 refine CI.cc [] (Ld c hk) ?_;simp;refine aQ.j1 7 7 42 rfl ?_;refine aQ.V (l) (fun k=>[(6,.ptr 320 0),(7,.own 704),(12,aC (l.map cZ)),(13,int l.length),(14,int k.1)]) (fun k=>BD 320 (aY (aR c) (l.take k.1)).1 [gA (aY (aR c) (l.take k.1)).1 0]++[(704,.grow 7 ((aY (aR c) (l.take k.1)).2.map eV) 42)]) 705 (fun k hk1 B hB=>?_) (h0:=by constructor<;>simp[aY]);simp[aY];refine aJ (fun h=>?_) (fun h=>?_)
 ·have hk:k<(l).length:=by simpa using h
  obtain⟨x,hx,hr,hm,ht,hd,hw⟩:=dL hk;simp only[h];simp[hr,hw];have q:=mG (M:=aR c) (l.take k) (cN.new c) (fun s hm=>hs s (rP hm));have hq:=LZ (l.take k) (aR c);have hq':(l.take k).length<=1000:=by simp;omega
  generalize hM:aY (aR c) (l.take k)=Q at q hq⊢;obtain⟨M,os⟩:=Q;simp only at q hq⊢;refine CI.j [320,321,322] (Za M x _ (q.2.trans hn) q.1 (by omega) (hs x hm)) ?_;simp;refine⟨by omega,?_⟩;exact hB hk (by constructor<;>simp[hw,ht,rG,hM])
 ·obtain rfl:k=(l).length:=by simp at h;omega
  simp only[h];simp;exact⟨[(64,320),(65,321),(66,322),(127,704)],by constructor<;>simp[aV,aW]⟩
theorem Lc (c:bS)(hk:cR c=2):Ct prog 9 [st (jR c)] [] [] (.ptr 64 0) (BD 64 (aR c) [gA (aR c) 0,gA (aR c) 1]):=by
 have e:aR c=⟨c,iA c.cap,[fZ c,fZ c],0⟩:=by unfold aR;rw[hk];rfl
 rw[e];exact zeI c hk
theorem Yz (M:G.bL)(s:bJ)(B:Int)(hk:M.ns.length=2)(hM:cN M B)(hB:B<=100000000)(hs:eK s):cO eY prog 12 [.ptr 0 0,st (cZ s)] [] (BC M.c M.p M.lost [gA M 0,gA M 1]) (st (eV (bH M s).2)) (BC (bH M s).1.c (bH M s).1.p (bH M s).1.lost [gA (bH M s).1 0,gA (bH M s).1 1]):=by
 have h:=HT M s B hM hB hs;rw[BM,BM,x7 hk,x7 ((uW hM s).trans hk)]at h;exact h
theorem zc9 (c:bS)(l:List bJ)(hk:cR c=2)(hl:l.length<=1000)(hs:∀s∈l,eK s):cO eY prog 18 [st (jR c),aC (l.map cZ)] [] [] (.bI [.ptr 64 0,.own 127]) (BD 64 (aY (aR c) l).1 [gA (aY (aR c) l).1 0,gA (aY (aR c) l).1 1]++[(127,.grow 7 ((aY (aR c) l).2.map eV) 42)]):=by
 refine cO.B lZ func18 ?_;simp;have hn:(aR c).ns.length=2:=by simp[aR,hk]
 refine CI.cc [] (Lc c hk) ?_;simp;refine aQ.j1 7 7 42 rfl ?_;refine aQ.V (l) (fun k=>[(6,.ptr 320 0),(7,.own 704),(12,aC (l.map cZ)),(13,int l.length),(14,int k.1)]) (fun k=>BD 320 (aY (aR c) (l.take k.1)).1 [gA (aY (aR c) (l.take k.1)).1 0,gA (aY (aR c) (l.take k.1)).1 1]++[(704,.grow 7 ((aY (aR c) (l.take k.1)).2.map eV) 42)]) 705 (fun k hk1 B hB=>?_) (h0:=by constructor<;>simp[aY]);simp[aY];refine aJ (fun h=>?_) (fun h=>?_)
 ·have hk:k<(l).length:=by simpa using h
  obtain⟨x,hx,hr,hm,ht,hd,hw⟩:=dL hk;simp only[h];simp[hr,hw];have q:=mG (M:=aR c) (l.take k) (cN.new c) (fun s hm=>hs s (rP hm));have hq:=LZ (l.take k) (aR c);have hq':(l.take k).length<=1000:=by simp;omega
  generalize hM:aY (aR c) (l.take k)=Q at q hq⊢;obtain⟨M,os⟩:=Q;simp only at q hq⊢;refine CI.j [320,321,322,323] (Yz M x _ (q.2.trans hn) q.1 (by omega) (hs x hm)) ?_;simp;refine⟨by omega,?_⟩;exact hB hk (by constructor<;>simp[hw,ht,rG,hM])
 ·obtain rfl:k=(l).length:=by simp at h;omega
  simp only[h];simp;exact⟨[(64,320),(65,321),(66,322),(67,323),(127,704)],by constructor<;>simp[aV,aW]⟩
theorem Lb (c:bS)(hk:cR c=3):Ct prog 9 [st (jR c)] [] [] (.ptr 64 0) (BD 64 (aR c) [gA (aR c) 0,gA (aR c) 1,gA (aR c) 2]):=by
 have e:aR c=⟨c,iA c.cap,[fZ c,fZ c,fZ c],0⟩:=by unfold aR;rw[hk];rfl
 rw[e];exact zeH c hk
theorem Yy (M:G.bL)(s:bJ)(B:Int)(hk:M.ns.length=3)(hM:cN M B)(hB:B<=100000000)(hs:eK s):cO eY prog 12 [.ptr 0 0,st (cZ s)] [] (BC M.c M.p M.lost [gA M 0,gA M 1,gA M 2]) (st (eV (bH M s).2)) (BC (bH M s).1.c (bH M s).1.p (bH M s).1.lost [gA (bH M s).1 0,gA (bH M s).1 1,gA (bH M s).1 2]):=by
 have h:=HT M s B hM hB hs;rw[BM,BM,x7 hk,x7 ((uW hM s).trans hk)]at h;exact h
theorem zc8 (c:bS)(l:List bJ)(hk:cR c=3)(hl:l.length<=1000)(hs:∀s∈l,eK s):cO eY prog 18 [st (jR c),aC (l.map cZ)] [] [] (.bI [.ptr 64 0,.own 127]) (BD 64 (aY (aR c) l).1 [gA (aY (aR c) l).1 0,gA (aY (aR c) l).1 1,gA (aY (aR c) l).1 2]++[(127,.grow 7 ((aY (aR c) l).2.map eV) 42)]):=by
 refine cO.B lZ func18 ?_;simp;have hn:(aR c).ns.length=3:=by simp[aR,hk]
 refine CI.cc [] (Lb c hk) ?_;simp;refine aQ.j1 7 7 42 rfl ?_;refine aQ.V (l) (fun k=>[(6,.ptr 320 0),(7,.own 704),(12,aC (l.map cZ)),(13,int l.length),(14,int k.1)]) (fun k=>BD 320 (aY (aR c) (l.take k.1)).1 [gA (aY (aR c) (l.take k.1)).1 0,gA (aY (aR c) (l.take k.1)).1 1,gA (aY (aR c) (l.take k.1)).1 2]++[(704,.grow 7 ((aY (aR c) (l.take k.1)).2.map eV) 42)]) 705 (fun k hk1 B hB=>?_) (h0:=by constructor<;>simp[aY]);simp[aY];refine aJ (fun h=>?_) (fun h=>?_)
 ·have hk:k<(l).length:=by simpa using h
  obtain⟨x,hx,hr,hm,ht,hd,hw⟩:=dL hk;simp only[h];simp[hr,hw];have q:=mG (M:=aR c) (l.take k) (cN.new c) (fun s hm=>hs s (rP hm));have hq:=LZ (l.take k) (aR c);have hq':(l.take k).length<=1000:=by simp;omega
  generalize hM:aY (aR c) (l.take k)=Q at q hq⊢;obtain⟨M,os⟩:=Q;simp only at q hq⊢;refine CI.j [320,321,322,323,324] (Yy M x _ (q.2.trans hn) q.1 (by omega) (hs x hm)) ?_;simp;refine⟨by omega,?_⟩;exact hB hk (by constructor<;>simp[hw,ht,rG,hM])
 ·obtain rfl:k=(l).length:=by simp at h;omega
  simp only[h];simp;exact⟨[(64,320),(65,321),(66,322),(67,323),(68,324),(127,704)],by constructor<;>simp[aV,aW]⟩
theorem La (c:bS)(hk:cR c=4):Ct prog 9 [st (jR c)] [] [] (.ptr 64 0) (BD 64 (aR c) [gA (aR c) 0,gA (aR c) 1,gA (aR c) 2,gA (aR c) 3]):=by
 have e:aR c=⟨c,iA c.cap,[fZ c,fZ c,fZ c,fZ c],0⟩:=by unfold aR;rw[hk];rfl
 rw[e];exact zeG c hk
theorem Yx (M:G.bL)(s:bJ)(B:Int)(hk:M.ns.length=4)(hM:cN M B)(hB:B<=100000000)(hs:eK s):cO eY prog 12 [.ptr 0 0,st (cZ s)] [] (BC M.c M.p M.lost [gA M 0,gA M 1,gA M 2,gA M 3]) (st (eV (bH M s).2)) (BC (bH M s).1.c (bH M s).1.p (bH M s).1.lost [gA (bH M s).1 0,gA (bH M s).1 1,gA (bH M s).1 2,gA (bH M s).1 3]):=by
 have h:=HT M s B hM hB hs;rw[BM,BM,x7 hk,x7 ((uW hM s).trans hk)]at h;exact h
theorem zc7 (c:bS)(l:List bJ)(hk:cR c=4)(hl:l.length<=1000)(hs:∀s∈l,eK s):cO eY prog 18 [st (jR c),aC (l.map cZ)] [] [] (.bI [.ptr 64 0,.own 127]) (BD 64 (aY (aR c) l).1 [gA (aY (aR c) l).1 0,gA (aY (aR c) l).1 1,gA (aY (aR c) l).1 2,gA (aY (aR c) l).1 3]++[(127,.grow 7 ((aY (aR c) l).2.map eV) 42)]):=by
 refine cO.B lZ func18 ?_;simp;have hn:(aR c).ns.length=4:=by simp[aR,hk]
 refine CI.cc [] (La c hk) ?_;simp;refine aQ.j1 7 7 42 rfl ?_;refine aQ.V (l) (fun k=>[(6,.ptr 320 0),(7,.own 704),(12,aC (l.map cZ)),(13,int l.length),(14,int k.1)]) (fun k=>BD 320 (aY (aR c) (l.take k.1)).1 [gA (aY (aR c) (l.take k.1)).1 0,gA (aY (aR c) (l.take k.1)).1 1,gA (aY (aR c) (l.take k.1)).1 2,gA (aY (aR c) (l.take k.1)).1 3]++[(704,.grow 7 ((aY (aR c) (l.take k.1)).2.map eV) 42)]) 705 (fun k hk1 B hB=>?_) (h0:=by constructor<;>simp[aY]);simp[aY];refine aJ (fun h=>?_) (fun h=>?_)
 ·have hk:k<(l).length:=by simpa using h
  obtain⟨x,hx,hr,hm,ht,hd,hw⟩:=dL hk;simp only[h];simp[hr,hw];have q:=mG (M:=aR c) (l.take k) (cN.new c) (fun s hm=>hs s (rP hm));have hq:=LZ (l.take k) (aR c);have hq':(l.take k).length<=1000:=by simp;omega
  generalize hM:aY (aR c) (l.take k)=Q at q hq⊢;obtain⟨M,os⟩:=Q;simp only at q hq⊢;refine CI.j [320,321,322,323,324,325] (Yx M x _ (q.2.trans hn) q.1 (by omega) (hs x hm)) ?_;simp;refine⟨by omega,?_⟩;exact hB hk (by constructor<;>simp[hw,ht,rG,hM])
 ·obtain rfl:k=(l).length:=by simp at h;omega
  simp only[h];simp;exact⟨[(64,320),(65,321),(66,322),(67,323),(68,324),(69,325),(127,704)],by constructor<;>simp[aV,aW]⟩
theorem HZ (c:bS):cR c=1\/cR c=2\/cR c=3\/cR c=4:=by unfold cR;omega
theorem Hy (c:bS)(l:List bJ)(hl:l.length<=1000)(hs:∀s∈l,eK s):cO eY prog 18 [st (jR c),aC (l.map cZ)] [] [] (.bI [.ptr 64 0,.own 127]) (BD 64 (aY (aR c) l).1 (aI (aY (aR c) l).1 0 (cR c))++[(127,.grow 7 ((aY (aR c) l).2.map eV) 42)]):=by
 rcases HZ c with e|e|e|e<;>rw[e]
 ·exact zda c l e hl hs
 ·exact zc9 c l e hl hs
 ·exact zc8 c l e hl hs
 ·exact zc7 c l e hl hs
attribute [simp] ntmps29 results29 ntmps31 results31 ntmps20 results20
theorem Ri (c:bS):Ct prog 29 [st (jR c)] [] [] (st (jR c)) []:=by
 refine Ct.B func29 ?_;simp;exact aB (by simp) rfl
theorem Mn (c:bS)(p:aT)(lost:Int)(ks:List (List D))(h1:1<=ks.length)(h4:ks.length<=4):Ct prog 31 [.ptr 0 0] (BC c p lost ks) [] (int lost) []:=by
 rcases four h1 h4 with⟨a,e⟩|⟨a,b,e⟩|⟨a,b,d,e⟩|⟨a,b,d,f,e⟩
 all_goals
  subst e;refine Ct.B func31 ?_;simp;exact⟨[],by constructor<;>simp[aV,aW]⟩
theorem Df (c:bS)(p:aT)(lost:Int)(ks:List (List D))(h1:1<=ks.length)(h4:ks.length<=4):Ct prog 20 [.ptr 0 0] (BC c p lost ks) [] (st (jT p)) []:=by
 rcases four h1 h4 with⟨a,e⟩|⟨a,b,e⟩|⟨a,b,d,e⟩|⟨a,b,d,f,e⟩
 all_goals
  subst e;refine Ct.B func20 ?_;simp;exact⟨[],by constructor<;>simp[aV,aW]⟩
theorem QD {l:List bJ}(h:mJ l=true):l.length<=60/\∀s∈l,eK s:=by
 simp only[mJ,bN,cP,eF]at h;refine⟨h.2,fun s hs=>?_⟩;have:=h.1 s hs;simp only[uK,bN,cP]at this;obtain⟨⟨⟨q1,q2⟩,q3⟩,q4⟩:=this;have:=Qi q1;exact⟨⟨by omega,by omega⟩,by omega,by omega⟩
attribute [simp] ntmps13 results13
theorem Kz (c:bS):Ct prog 9 [st (jR c)] [] [] (.ptr 64 0) (BD 64 (aR c) (aI (aR c) 0 (cR c))):=by
 rcases HZ c with hk|hk|hk|hk<;>rw[hk]
 ·exact Ld c hk
 ·exact Lc c hk
 ·exact Lb c hk
 ·exact La c hk
theorem wH (M:G.bL)(s:bJ)(B:Int){k:Nat}(hk:M.ns.length=k)(hM:cN M B)(hB:B<=100000000)(hs:eK s):cO eY prog 12 [.ptr 0 0,st (cZ s)] [] (BC M.c M.p M.lost (aI M 0 k)) (st (eV (bH M s).2)) (BC (bH M s).1.c (bH M s).1.p (bH M s).1.lost (aI (bH M s).1 0 k)):=by
 have h:=HT M s B hM hB hs;rw[BM,BM,x7 hk,x7 ((uW hM s).trans hk)]at h;exact h
theorem LK (c:bS)(p:aT)(lost:Int)(ks:List (List D))(k_:Int)(i:Nat)(n:G.Node)(h4:ks.length<=4)(hi:ks[i]? =some (gG n))(hk:k_=i):Ct prog 13 [.ptr 0 0,int k_] (BC c p lost ks) [] (.bI [st (jQ n.side),bool true]) []:=by
 have hl:i<ks.length:=(cC.1 hi).1;have h1:1<=ks.length:=by omega
 have e:i=0\/i=1\/i=2\/i=3:=by omega
 rcases four h1 h4 with⟨a,x⟩|⟨a,b,x⟩|⟨a,b,d,x⟩|⟨a,b,d,f,x⟩<;>subst x<;>rcases e with x|x|x|x<;>subst x
 all_goals first
  | (exfalso;simp at hl;done)
  |skip
 all_goals
  simp only[BX,UC,lS]at hi;subst hi;refine Ct.B func13 ?_;simp;refine CI.cc [0,1,2,3,4,5] (IN c p lost _ k_ _ hk hl h4) ?_;simp;exact⟨[],by constructor<;>simp[aV,aW]⟩
theorem zaF (c:bS)(p:aT)(lost:Int)(ks:List (List D))(k_:Int)(h1:1<=ks.length)(h4:ks.length<=4)(hk:ks.length<=k_):Ct prog 13 [.ptr 0 0,int k_] (BC c p lost ks) [] (.bI [st (jQ v8),bool false]) []:=by
 rcases four h1 h4 with⟨a,x⟩|⟨a,b,x⟩|⟨a,b,d,x⟩|⟨a,b,d,f,x⟩<;>subst x
 all_goals
  refine Ct.B func13 ?_;simp;refine CI.cc [0,1,2,3,4,5] (Kr c p lost _ k_ (.inr hk) (by simp) h4) ?_;simp;exact⟨[],by constructor<;>simp[aV,aW,v8]⟩
theorem PU (M:G.bL):aY M []=(M,[]):=rfl
theorem GC {M:G.bL}{k i:Nat}(q:M.ns.length=k){n:G.Node}(h:M.ns[i]? =some n):(aI M 0 k)[i]? =some (gG n):=by
 have:=dH (fun l=>l[i]?) (x7 q);simp only[iJ,h]at this;exact this.symm
theorem kW (M:G.bL)(k:Nat):∀i,(aI M i k).length=k:=by
 induction k with
 |zero=>intro i;rfl
 |succ k ih=>intro i;simp[aI,ih]
attribute [simp] ntmps59 results59
theorem Bt (c:bS)(p:aT)(lost:Int)(ks:List (List D))(k_ w:Int)(i:Nat)(n:G.Node)(h4:ks.length<=4)(hi:ks[i]? =some (gG n))(hk:k_=i)(hw:w=0\/w=1):Ct prog 59 [.ptr 0 0,int k_,int w] (BC c p lost ks) [] (.bI [st (kR (dA n w)),bool true]) []:=by
 have hl:i<ks.length:=(cC.1 hi).1;have h1:1<=ks.length:=by omega
 have e:i=0\/i=1\/i=2\/i=3:=by omega
 rcases four h1 h4 with⟨a,x⟩|⟨a,b,x⟩|⟨a,b,d,x⟩|⟨a,b,d,f,x⟩<;>subst x<;>rcases e with x|x|x|x<;>subst x
 all_goals first
  | (exfalso;simp at hl;done)
  |skip
 all_goals
  simp only[BX,UC,lS]at hi;subst hi;rcases hw with rfl|rfl
 all_goals
  refine Ct.B func59 ?_;simp;refine CI.cc [0,1,2,3,4,5] (IN c p lost _ k_ _ hk hl h4) ?_;simp;exact⟨[],by constructor<;>simp[aV,aW,dA]⟩
attribute [simp] ntmps134 results134 ntmps92 results92 ntmps46 results46 ntmps48 results48 ntmps15 results15
theorem XJ (l:List aA)(k_:Int)(n:cH)(hl:l.length<=1000000):Ct prog 134 [int k_,str n,.d (.bM [lD (l.map aK)])] [] [] (Pp l ⟨k_,n⟩) []:=by
 refine Ct.B func134 ?_;simp;refine CI.p (R3 l ⟨k_,n⟩ (by omega)) ?_;simp;exact aB (by simp) rfl
theorem Lk (l:List aA):Ct prog 92 [aC (l.map aK)] [] [] (.d (.fn (.func 134) [] [.bM [lD (l.map aK)]])) []:=by
 refine Ct.B func92 ?_;simp;exact aB (by simp) rfl
theorem zbW (l:List aA)(to:cH)(a:G.Ask)(hl:l.length<=1000000)(hs:∀r∈l,eL r=0)(ha:(bs a.host).length<=1000000)(hp:(bs a.path).length<=1000000):Ct prog 46 [aC (l.map aK),str to,st (sM a)] [] [] (.bI [st (fR (AP l to a).1),bool (AP l to a).2]) []:=by
 refine Ct.B func46 ?_;simp;refine CI.p (Lk l) ?_;simp;refine CI.ff (cB.mY (args:=[int 1,str to]) (by exact XJ l 1 to hl) call134 rfl rfl) rfl rfl rfl ?_;simp;have hf:DD ((aS l ⟨1,to⟩).getD jE):=MT hs _;unfold AP;generalize aS l ⟨1,to⟩=x at hf⊢;cases x with
 |none=>
  simp;exact aB (by simp[rU]) rfl
 |some x=>
  simp;refine CI.p (Hp x.rules a.host a.path ha hp hf.each hf.rules) ?_;simp;exact aB (by simp) rfl
theorem Qq (l:List aA)(cl:cH)(hl:l.length<=1000000):Ct prog 48 [aC (l.map aK),str cl] [] [] (.bI [aC ((vN l cl).1.map lP),bool (vN l cl).2]) []:=by
 refine Ct.B func48 ?_;simp;refine CI.p (Lk l) ?_;simp;refine CI.ff (cB.mY (args:=[int 2,str cl]) (by exact XJ l 2 cl hl) call134 rfl rfl) rfl rfl rfl ?_;simp;unfold vN;generalize aS l ⟨2,cl⟩=x;cases x with
 |none=>
  simp;exact aB (by simp) rfl
 |some x=>
  simp;refine CI.ff (cB.mY (args:=[int 3,str x.to]) (by exact XJ l 3 x.to hl) call134 rfl rfl) rfl rfl rfl ?_;simp;exact aB (by simp) rfl
theorem TJ (l:List aA)(ok:Bool)(a:G.Ask)(hl:l.length<=1000000)(hs:∀r∈l,eL r=0)(ha:(bs a.host).length<=1000000)(hp:(bs a.path).length<=1000000):Ct prog 15 [aC (l.map aK),bool ok,st (sM a)] [] [] (st (TK (iZ l ok a))) []:=by
 refine Ct.B func15 ?_;simp;cases ok with
 |false=>
  simp;exact aB (by simp[iZ]) rfl
 |true=>
  simp;refine CI.p (Mx l a.port (by omega)) ?_;simp;unfold iZ;cases wP l a.port with
  |none=>
   simp;exact aB (by simp) rfl
  |some x=>
   simp;refine CI.p (zbW l x.to a hl hs ha hp) ?_;simp;rw[zkn];have hc:=zbY hs x.to a;generalize AP l x.to a=u at hc⊢;obtain⟨u1,u2⟩:=u;cases u2 with
   |false=>
    simp;exact aB (by simp) rfl
   |true=>
    simp;refine CI.p (Rw u1.split a.first hc) ?_;simp;generalize tN u1.split a.first=v;obtain⟨v1,v2⟩:=v;cases v2 with
    |false=>
     simp;exact aB (by simp) rfl
    |true=>
     simp;refine CI.p (Qq l v1 hl) ?_;simp;rw[zkm];have he:=Qr hs v1;refine CI.p (Il (vN l v1).1 a.other he) ?_;simp;generalize tK (vN l v1).1 a.other=w;obtain⟨w1,w2⟩:=w;cases w2 with
     |false=>
      simp;exact aB (by simp) rfl
     |true=>
      simp;exact aB (by simp) rfl
end Go.Proofs.YtegplpagkajolaaGreatDoor
