/-
  LAYER 24: the walks of a side, and of a step that it takes in a mesh of one to four.
-/
import Derived.Test.YtegplpagkajolaaGreatDoorWl
import Derived.Test.YtegplpagkajolaaGreatDoorWk
import Derived.Test.YtegplpagkajolaaGreatDoorWi
import Derived.Test.YtegplpagkajolaaGreatDoorWf
import Derived.Test.YtegplpagkajolaaGreatDoorPq
import Derived.Test.YtegplpagkajolaaGreatDoorFd
set_option linter.unusedSimpArgs false
set_option linter.unusedVariables false
set_option maxRecDepth 100000
set_option maxHeartbeats 8000000
namespace Go.Proofs.YtegplpagkajolaaGreatDoor
open Go.AI Go.G Tryz
attribute [simp] ntmps165 results165 ntmps114 results114 ntmps123 results123 ntmps112 results112 ntmps116 results116 ntmps60 results60 ntmps85 results85 ntmps84 results84
theorem zbh (l:dS)(f:G.Frame)(h:gF l)(he:eX f=0):Ct prog 122 [st (kR l),aC ((rV f).map bU)] [] [] (.bI [st (kR (qI l f).1),int (qI l f).2]) []:=by
 obtain⟨x,b,e⟩:=List.exists_cons_of_ne_nil (Cr f);have hl:=Cs he;have:=VT (hX l) x b h.lk (by rw[<-e];omega);rw[<-e,CH]at this;rw[<-CH,<-CH]at*;have hs:CB (hX l) (rV f)=(hX (qI l f).1,(qI l f).2):=by
  unfold CB qI;rw[h.sound,aH (by simp[he])];by_cases hq:32<=l.q.length
  ·rw[aU hq,VV (by simpa[hX]using hq)]
  ·rw[aH hq,O5 (by simpa[hX]using hq)];simp[hX]
 rw[hs]at this;exact this
theorem Da (l:dS)(i:Int)(h:gF l):Ct prog 115 [st (kR l),int i] [] [] (.bI [st (kR (takeN l i).1),aC ((if l.q=[]then []else rV (takeN l i).2.1).map bU),int (takeN l i).2.2]) []:=by
 have:=U4 (hX l) i h.lk;rw[U1 h]at this;simpa only[CH]using this
theorem zhO (l:dS)(i:Int)(h:gF l):Ct prog 81 [st (kR l),int i] [] [] (.bI [st (kR (yM l i).1),int (yM l i).2]) []:=by
 have:=zhN (hX l) i h.lk;rw[zhM h]at this;simpa only[CH]using this
theorem zkw (l:dS)(i:Int)(h:gF l):Ct prog 82 [st (kR l),int i] [] [] (.bI [st (kR (vS l i).1),int (vS l i).2]) []:=by
 have:=zku (hX l) i h.lk;rw[zks h]at this;simpa only[CH]using this
theorem zfJ (l:dS)(i:Int)(h:gF l):Ct prog 83 [st (kR l),int i] [] [] (.bI [st (kR (vH l i).1),int (vH l i).2]) []:=by
 have:=zfI (hX l) i h.lk;rw[zfH h]at this;simpa only[CH]using this
theorem LU (l:dS)(h:gF l):Ct prog 178 [st (kR l)] [] [] (.bI [st (kR (if l.aF=2147483647 then l else⟨l.aF+1,[]⟩)),int (if l.aF=2147483647 then 14 else 0)]) []:=by
 have:=zcb (hX l) h.lk.len;unfold PD at this;rw[h.sound]at this;simp only[CH]at this;by_cases he:l.aF=2147483647
 ·rw[aU (show(hX l).aF=2147483647 from he),CH]at this;simpa only[aU he]using this
 ·rw[aH (show¬(hX l).aF=2147483647 from he)]at this;simp only[aH he];have e:rD ⟨(hX l).aF+1,[]⟩=kR ⟨l.aF+1,[]⟩:=rfl;rw[e]at this;exact this
theorem Eu (l:dS)(f:G.Frame)(h:gF l)(hf:jB f):Ct prog 165 [st (kR l),st (fY f)] [] [] (.bI [st (kR (qI l f).1),int (qI l f).2]) []:=by
 refine Ct.B func165 ?_;simp;by_cases he:eX f=0
 ·have hl:=PN (nW.1 he);refine CI.p (zcD f he) ?_;simp;refine CI.p (Uf (rE f) (by omega)) ?_;simp;refine CI.p (zbh l f h he) ?_ (ha:=by simp[rV]);simp[rV];exact aB (by simp) rfl
 ·refine CI.p (zcH f hf he) ?_;simp;simp[he];exact aB (by simp[qI,he]) rfl
abbrev gN (c:bS)(p:aT)(lost:Int)(v:Value):Nat×bC:=(0,.cells [int c.qH,int c.cap,int c.iG,int c.max,int p.cap,aC (p.bV.map r9),.d (.v v),int lost] 92)
abbrev dW (c:bS)(p:aT)(lost:Int)(b:Nat):Nat×bC:=(0,.cells [int c.qH,int c.cap,int c.iG,int c.max,int p.cap,aC (p.bV.map r9),.own b,int lost] 92)
abbrev iR (n:G.Node):Nat×bC:=(1,.cells ((gG n).map .d) 114)
theorem VU (v:Value)(c:bS)(p:aT)(lost:Int)(n:G.Node)(l:List G.Frame)(hn:gF n.up)(hf:∀f∈l,jB f)(hl:l.length<=1000)(h0:0<=lost)(h1:lost<=1000000000000):Ct prog 114 [.ptr 0 0,.ptr 1 0,int 0,aC (l.map fY)] [] [gN c p lost v,iR n] (.bI []) [gN c p (dP n.up lost l).2 v,iR {n with up:=(dP n.up lost l).1}]:=by
 refine Ct.B func114 ?_;simp;refine aQ.V (l) (fun k=>[(0,.ptr 0 0),(1,.ptr 1 0),(2,int 0),(12,aC (l.map fY)),(13,int l.length),(14,int k.1)]) (fun k=>[gN c p ((l.take k.1).foldl kG (n.up,lost)).2 v,iR {n with up:=((l.take k.1).foldl kG (n.up,lost)).1}]) 64 (fun k hk1 B hB=>?_);simp;refine aJ (fun h=>?_) (fun h=>?_)
 ·have hk:k<(l).length:=by simpa using h
  obtain⟨f,hx,hr,hm,ht,hd,hw⟩:=dL hk;simp only[h];simp[hr,hw];have hz:=LP (l.take k) (z:=(n.up,lost)) hn;have hlen:(l.take k).length<=1000:=by simp;omega
  have ht2:(l.take (k+1)).foldl kG (n.up,lost)=kG ((l.take k).foldl kG (n.up,lost)) f:=by rw[ht,KP];rfl
  generalize(l.take k).foldl kG (n.up,lost)=z at hz ht2⊢;refine CI.p (Eu z.1 f hz.1 (hf f hm)) ?_;simp;refine⟨by decide+kernel,?_⟩;have w1:=wrap_i64 (n:=z.2+1) (by simp only at hz;omega) (by simp only at hz;omega);by_cases h2:(qI z.1 f).2=0
  ·have e:kG z f=((qI z.1 f).1,z.2):=aU h2;rw[e]at ht2;simp[h2];refine⟨by decide+kernel,?_⟩;exact hB hk (by constructor<;>simp[hw,ht2])
  ·have e:kG z f=(z.1,z.2+1):=aH h2;rw[e]at ht2;simp[h2,w1];exact hB hk (by constructor<;>simp[hw,ht2])
 ·obtain rfl:k=(l).length:=by simp at h;omega
  simp only[h];simp;exact⟨[],by constructor<;>simp[aV,aW,dP]⟩
theorem Ex (v:Value)(c:bS)(p:aT)(lost:Int)(n:G.Node)(l:List G.Frame)(hn:gF n.dn)(hf:∀f∈l,jB f)(hl:l.length<=1000)(h0:0<=lost)(h1:lost<=1000000000000):Ct prog 114 [.ptr 0 0,.ptr 1 0,int 1,aC (l.map fY)] [] [gN c p lost v,iR n] (.bI []) [gN c p (dP n.dn lost l).2 v,iR {n with dn:=(dP n.dn lost l).1}]:=by
 refine Ct.B func114 ?_;simp;refine aQ.V (l) (fun k=>[(0,.ptr 0 0),(1,.ptr 1 0),(2,int 1),(12,aC (l.map fY)),(13,int l.length),(14,int k.1)]) (fun k=>[gN c p ((l.take k.1).foldl kG (n.dn,lost)).2 v,iR {n with dn:=((l.take k.1).foldl kG (n.dn,lost)).1}]) 64 (fun k hk1 B hB=>?_);simp;refine aJ (fun h=>?_) (fun h=>?_)
 ·have hk:k<(l).length:=by simpa using h
  obtain⟨f,hx,hr,hm,ht,hd,hw⟩:=dL hk;simp only[h];simp[hr,hw];have hz:=LP (l.take k) (z:=(n.dn,lost)) hn;have hlen:(l.take k).length<=1000:=by simp;omega
  have ht2:(l.take (k+1)).foldl kG (n.dn,lost)=kG ((l.take k).foldl kG (n.dn,lost)) f:=by rw[ht,KP];rfl
  generalize(l.take k).foldl kG (n.dn,lost)=z at hz ht2⊢;refine CI.p (Eu z.1 f hz.1 (hf f hm)) ?_;simp;refine⟨by decide+kernel,?_⟩;have w1:=wrap_i64 (n:=z.2+1) (by simp only at hz;omega) (by simp only at hz;omega);by_cases h2:(qI z.1 f).2=0
  ·have e:kG z f=((qI z.1 f).1,z.2):=aU h2;rw[e]at ht2;simp[h2];refine⟨by decide+kernel,?_⟩;exact hB hk (by constructor<;>simp[hw,ht2])
  ·have e:kG z f=(z.1,z.2+1):=aH h2;rw[e]at ht2;simp[h2,w1];exact hB hk (by constructor<;>simp[hw,ht2])
 ·obtain rfl:k=(l).length:=by simp at h;omega
  simp only[h];simp;exact⟨[],by constructor<;>simp[aV,aW,dP]⟩
theorem Gv (v:Value)(c:bS)(p:aT)(lost:Int)(n:G.Node)(hn:dG n)(h0:0<=lost)(h1:lost<=100000000000):Ct prog 123 [.ptr 0 0,.ptr 1 0] [] [gN c p lost v,iR n] (int (gD c.max lost n).2.2) [gN c p (gD c.max lost n).2.1 v,iR (gD c.max lost n).1]:=by
 refine Ct.B func123 ?_;simp;by_cases h2:n.up.aF=2147483647
 ·have e:gD c.max lost n=(n,lost,14):=aU (.inl h2);rw[e];refine aQ.un ?_;simp;refine CI.p (LU n.up hn.up) ?_;simp;simp[h2];exact⟨[],by constructor<;>simp[aV,aW,h2]⟩
 by_cases h3:n.dn.aF=2147483647
 ·have e:gD c.max lost n=(n,lost,14):=aU (.inr h3);rw[e];refine aQ.un ?_;simp;refine CI.p (LU n.up hn.up) ?_;simp;simp[h2];refine aQ.un ?_;simp;refine CI.p (LU n.dn hn.dn) ?_;simp;simp[h3];exact⟨[],by constructor<;>simp[aV,aW,h3]⟩
 have cc:=hn.d.connect (n.up.aF+1);have e:gD c.max lost n=(⟨(jW n.side (n.up.aF+1)).1,kP (n.up.aF+1) c.max,(dP ⟨n.up.aF+1,[]⟩ lost (jW n.side (n.up.aF+1)).2.1).1,⟨n.dn.aF+1,[]⟩,n.bR⟩,(dP ⟨n.up.aF+1,[]⟩ lost (jW n.side (n.up.aF+1)).2.1).2,(jW n.side (n.up.aF+1)).2.2):=aH (by omega);rw[e];have up:=hn.up.fresh h2;refine aQ.un ?_;simp;refine CI.p (LU n.up hn.up) ?_;simp;simp[h2];refine aQ.un ?_;simp;refine CI.p (LU n.dn hn.dn) ?_;simp;simp[h3];refine aQ.un ?_;simp;refine CI.p (wM (n.up.aF+1) c.max) ?_;simp;refine CI.p (zie n.side (n.up.aF+1) hn.d.x) ?_;simp;generalize jW n.side (n.up.aF+1)=X at cc⊢;refine CI.cc [0,1] (VU v c p lost ⟨X.1,kP (n.up.aF+1) c.max,⟨n.up.aF+1,[]⟩,⟨n.dn.aF+1,[]⟩,n.bR⟩ X.2.1 up cc.2.1 (by omega) h0 (by omega)) ?_;simp;exact⟨[],by constructor<;>simp[aV,aW]⟩
theorem Hk (v:Value)(c:bS)(p:aT)(lost:Int)(n:G.Node)(hn:dG n)(hp:fN p=true)(h0:0<=lost)(h1:lost<=10000000000):Ct prog 112 [.ptr 0 0,.ptr 1 0] [] [gN c p lost v,iR n] (int (gM c.max p lost n).2.2) [gN c p (gM c.max p lost n).2.1 v,iR (gM c.max p lost n).1]:=by
 refine Ct.B func112 ?_;simp;have S:=lV.1 hn.ss;have hpl:p.bV.length<=100000:=((rB p).1 hp).2.1;refine CI.p (zcM n.bA p hn.so (by have:=S.hl;omega) (by omega) (fun _=>⟨iC (CO hp),by have:=rW (CO hp);omega⟩)) ?_;simp;refine⟨by decide+kernel,?_⟩;obtain⟨p1,p2,p3,p4,p5⟩:=PQ hn.ss hn.so hp;unfold gM;dsimp only;generalize dD n.bA p=R at p1 p2 p3 p4⊢;have l:=GF hn.dn lost R.2.1;refine CI.cc [0,1] (Ex v c p lost {n with bA:=R.1} R.2.1 hn.dn (fun f hf=>F9 (p3 f hf).1) (by omega) h0 (by omega)) ?_;simp;have hm:dG {n with bA:=R.1,dn:=(dP n.dn lost R.2.1).1}:=⟨hn.d,p1,p2,hn.up,hn.dn.send _ _,hn.pl⟩;generalize dP n.dn lost R.2.1=z at l hm⊢;refine aJ (fun h2=>?_) (fun h2=>?_)<;>simp only[h2]<;>simp<;>(try simp only[nT,nF,dT,dF]at h2)
 ·refine CI.cc [0,1] (Gv v c p z.2 {n with bA:=R.1,dn:=z.1} hm (by omega) (by omega)) ?_;simp;first| (refine⟨[],?_,?_,?_,?_,?_,?_,?_⟩<;>simp[aV,aW,h2];done)| (refine⟨by decide+kernel,?_⟩;refine⟨[],?_,?_,?_,?_,?_,?_,?_⟩<;>simp[aV,aW,h2])
 ·first| (refine⟨[],?_,?_,?_,?_,?_,?_,?_⟩<;>simp[aV,aW,h2];done)| (refine⟨by decide+kernel,?_⟩;refine⟨[],?_,?_,?_,?_,?_,?_,?_⟩<;>simp[aV,aW,h2])
theorem AU (b:Nat)(c:bS)(p:aT)(lost:Int)(n:G.Node)(hn:dG n)(hp:fN p=true)(h0:0<=lost)(h1:lost<=10000000000):Ct prog 112 [.ptr 0 0,.ptr 1 0] [] [dW c p lost b,iR n] (int (gM c.max p lost n).2.2) [dW c p (gM c.max p lost n).2.1 b,iR (gM c.max p lost n).1]:=
 Ct.rJ (mr:=[]) (pre:=[int c.qH,int c.cap,int c.iG,int c.max,int p.cap,aC (p.bV.map r9)]) (pre':=[int c.qH,int c.cap,int c.iG,int c.max,int p.cap,aC (p.bV.map r9)]) rfl fun v=>Hk v c p lost n hn hp h0 h1
theorem Ox (f:G.Frame)(he:eX f=0):Ct prog 116 [aC ((rV f).map bU)] [] [] (.bI [st (fY f),int 0]) []:=by
 refine Ct.B func116 ?_;simp;have hl:=PN (nW.1 he);obtain⟨x,b,e⟩:=List.exists_cons_of_ne_nil (zcI f);have et:rV f=yY (x::b):=by rw[<-e];rfl
 rw[et];refine CI.p (zeE x b (by rw[<-e];omega)) ?_;simp;have eb:(x::b).map bU=(rE f).map bU:=by rw[e]
 refine CI.p (zgR f he) ?_ (ha:=by simp[<-eb]);simp[<-eb];exact aB (by simp) rfl
theorem zgn (n:G.Node)(hn:dG n):Ct prog 60 [.ptr 0 0] [(0,.cells ((gG n).map .d) 114)] [] (bool (decide (n.up.q.length+n.dn.q.length+n.bR.tasks.length=0))) []:=by
 refine Ct.B func60 ?_;simp;have l1:=hn.up.len;have l2:=hn.dn.len;have l3:=hn.pl.p.lt;have w1:=wrap_i64 (n:=(n.up.q.length:Int)+n.dn.q.length) (by omega) (by omega);have w2:=wrap_i64 (n:=(n.up.q.length:Int)+n.dn.q.length+n.bR.tasks.length) (by omega) (by omega);have e:(decide ((n.up.q.length:Int)+n.dn.q.length+n.bR.tasks.length=0))=decide (n.up.q.length+n.dn.q.length+n.bR.tasks.length=0):=N3.2 (by omega);simp[w1,w2,e];refine⟨by decide+kernel,?_⟩;exact⟨[],by constructor<;>simp[aV,aW]⟩
theorem zjj (v:Value)(c:bS)(p:aT)(lost:Int)(n:G.Node)(s:bJ)(hn:dG n):Ct prog 85 [.ptr 0 0,.ptr 1 0,st (cZ s)] [] [gN c p lost v,iR n] (st (eV (rM lost n s).2.2)) [gN c p (rM lost n s).2.1 v,iR (rM lost n s).1]:=by
 refine Ct.B func85 ?_;simp;refine CI.p (Zc n.bR s.a hn.pl.p) ?_;simp;refine⟨by decide+kernel,?_⟩;exact⟨[],by constructor<;>simp[aV,aW,rM,iB]⟩
theorem zkt (v:Value)(c:bS)(p:aT)(lost:Int)(n:G.Node)(s:bJ)(hn:dG n)(h0:0<=lost)(h1:lost<=10000000000):Ct prog 84 [.ptr 0 0,.ptr 1 0,st (cZ s)] [] [gN c p lost v,iR n] (st (eV (fP (gD c.max lost n).2.2))) [gN c p (gD c.max lost n).2.1 v,iR (gD c.max lost n).1]:=by
 refine Ct.B func84 ?_;simp;refine CI.cc [0,1] (Gv v c p lost n hn h0 (by omega)) ?_;simp;exact⟨[],by constructor<;>simp[aV,aW,fP,iB]⟩
attribute [simp] ntmps79 results79 ntmps86 results86 ntmps126 results126 ntmps87 results87 ntmps119 results119
theorem zi6 (v:Value)(c:bS)(p:aT)(lost:Int)(n:G.Node)(s:bJ)(hn:dG n)(hp:fN p=true)(hw:s.bG=0)(h0:0<=lost)(h1:lost<=1000000000):Ct prog 79 [.ptr 0 0,.ptr 1 0,st (cZ s)] [] [gN c p lost v,iR n] (st (eV (jI c.max p lost n s).2.2)) [gN c p (jI c.max p lost n s).2.1 v,iR (jI c.max p lost n s).1]:=by
 refine Ct.B func79 ?_;simp;have ht:=hn.up.take s.n;have e0:dA n s.bG=n.up:=aU hw;have e1:∀l,fB n s.bG l={n with up:=l}:=fun l=>aU hw;have hne:(takeN n.up s.n).2.2=0->n.up.q≠[]:=U3;unfold jI;rw[e0];dsimp only;rw[e1];simp[hw];refine CI.p (Da n.up s.n hn.up) ?_;simp;refine⟨by decide+kernel,?_⟩;refine⟨by decide+kernel,?_⟩;generalize takeN n.up s.n=t at ht hne⊢;by_cases h2:t.2.2=0
 ·have hq:=hne h2;simp[h2,hw];refine CI.p (Ox t.2.1 (ht.2 h2)) ?_ (ha:=by simp[hq]);simp[hq];have S:=lV.1 hn.ss;have hpl:p.bV.length<=100000:=((rB p).1 hp).2.1;refine CI.p (zgE n.bA p t.2.1 (by have:=S.dl;omega) hn.so.v.push (by have:=S.hl;omega) (F9 (ht.2 h2)) (WY hp) (by omega)) ?_;simp;refine⟨by decide+kernel,?_⟩;have k1:=E0 p t.2.1 hn.ss;have k2:=R2 t.2.1 hn.ss hn.so hp;generalize handle n.bA p t.2.1=r at k1 k2⊢;by_cases h3:r.2=0
  ·simp[h3];refine CI.cc [0,1] (Hk v c p lost {n with up:=t.1,bA:=r.1} ⟨hn.d,k1,k2,ht.1,hn.dn,hn.pl⟩ hp h0 (by omega)) ?_;simp;exact⟨[],by constructor<;>simp[aV,aW,h3,fP,iB]⟩
  ·simp[h3];exact⟨[],by constructor<;>simp[aV,aW,h3,fP,iB]⟩
 ·simp[h2];exact⟨[],by constructor<;>simp[aV,aW,h2,fP,iB]⟩
theorem zi5 (v:Value)(c:bS)(p:aT)(lost:Int)(n:G.Node)(s:bJ)(hn:dG n)(hp:fN p=true)(hw:s.bG=1)(h0:0<=lost)(h1:lost<=1000000000):Ct prog 79 [.ptr 0 0,.ptr 1 0,st (cZ s)] [] [gN c p lost v,iR n] (st (eV (jI c.max p lost n s).2.2)) [gN c p (jI c.max p lost n s).2.1 v,iR (jI c.max p lost n s).1]:=by
 refine Ct.B func79 ?_;simp;have ht:=hn.dn.take s.n;have e0:dA n s.bG=n.dn:=aH (by omega);have e1:∀l,fB n s.bG l={n with dn:=l}:=fun l=>aH (by omega)
 have hne:(takeN n.dn s.n).2.2=0->n.dn.q≠[]:=U3;unfold jI;rw[e0];dsimp only;rw[e1];simp[hw];refine CI.p (Da n.dn s.n hn.dn) ?_;simp;refine⟨by decide+kernel,?_⟩;refine⟨by decide+kernel,?_⟩;generalize takeN n.dn s.n=t at ht hne⊢;by_cases h2:t.2.2=0
 ·have hq:=hne h2;simp[h2,hw];refine CI.p (Ox t.2.1 (ht.2 h2)) ?_ (ha:=by simp[hq]);simp[hq];refine CI.p (zaG n.side t.2.1 hn.d.x (F9 (ht.2 h2))) ?_;simp;refine⟨by decide+kernel,?_⟩;have hs:=hn.d.side t.2.1;generalize jM n.side t.2.1=r at hs⊢;refine CI.cc [0,1] (VU v c p lost {n with dn:=t.1,side:=r.1} r.2.1 hn.up hs.2.1 (by omega) h0 (by omega)) ?_;simp;exact⟨[],by constructor<;>simp[aV,aW,fP,iB]⟩
 ·simp[h2];exact⟨[],by constructor<;>simp[aV,aW,h2,fP,iB]⟩
theorem zi1 (v:Value)(c:bS)(p:aT)(lost:Int)(n:G.Node)(s:bJ)(hn:dG n)(hp:fN p=true)(hw:s.bG=0\/s.bG=1)(h0:0<=lost)(h1:lost<=1000000000):Ct prog 79 [.ptr 0 0,.ptr 1 0,st (cZ s)] [] [gN c p lost v,iR n] (st (eV (jI c.max p lost n s).2.2)) [gN c p (jI c.max p lost n s).2.1 v,iR (jI c.max p lost n s).1]:=by
 rcases hw with hw|hw
 ·exact zi6 v c p lost n s hn hp hw h0 h1
 ·exact zi5 v c p lost n s hn hp hw h0 h1
theorem zgP (v:Value)(c:bS)(p:aT)(lost:Int)(n:G.Node)(s:bJ)(hn:dG n)(h0:0<=lost)(h1:lost<=1000000000):Ct prog 86 [.ptr 0 0,.ptr 1 0,st (cZ s)] [] [gN c p lost v,iR n] (st (eV (oE lost n s).2.2)) [gN c p (oE lost n s).2.1 v,iR (oE lost n s).1]:=by
 refine Ct.B func86 ?_;simp;refine CI.p (zdj n.bR n.side s.n hn.pl.p hn.d.x hn.d.n hn.pl.a) ?_;simp;refine⟨by decide+kernel,?_⟩;refine⟨by decide+kernel,?_⟩;have hk:=hn.pl.pick hn.d s.n;have hlast:=zdl (p:=n.bR) (s:=n.side) (draw:=s.n);unfold oE;dsimp only;generalize eI n.bR n.side s.n=r at hk hlast⊢;refine CI.cc [0,1] (VU v c p lost {n with bR:=r.1,side:=r.2.1} r.2.2.1 hn.up hk.2.2.1 (by omega) h0 (by omega)) ?_;simp;by_cases h2:r.2.2.2=0
 ·by_cases h3:r.1.tasks.length=n.bR.tasks.length
  ·have h3':(r.1.tasks.length:Int)=n.bR.tasks.length:=by omega
   simp[h2,h3'];exact⟨[],by constructor<;>simp[aV,aW,h2,h3,fP,iB]⟩
  ·have h3':¬(r.1.tasks.length:Int)=n.bR.tasks.length:=by omega
   obtain⟨i,x,e⟩:=hlast h3;have hd:=hk.1.p.ld;rw[e]at hd⊢;have w1:IntKind.wrap .i64 (i.length:Int)=i.length:=wrap_i64 (by omega) (by simp at hd;omega);have e9:(i.length:Int)<i.length+1:=by omega
   simp[h2,h3',e,w1,e9,Pd];exact⟨[],by constructor<;>simp[aV,aW,h2,h3,iB,e]⟩
 ·simp[h2];exact⟨[],by constructor<;>simp[aV,aW,h2,fP,iB]⟩
theorem Bc (b:Bool):Ct prog 126 [bool b] [] [] (int (KZ b)) []:=by
 refine Ct.B func126 ?_;simp;refine aJ (fun h1=>?_) (fun h1=>?_)<;>simp only[h1]<;>simp
 ·exact aB (by simp[KZ,h1]) rfl
 ·exact aB (by simp[KZ,h1]) rfl
theorem Xc (v:Value)(c:bS)(p:aT)(lost:Int)(n:G.Node)(s:bJ)(hn:dG n)(hp:fN p=true):Ct prog 87 [.ptr 0 0,.ptr 1 0,st (cZ s)] [] [gN c p lost v,iR n] (st (eV (yZ p lost n).2.2)) [gN c p lost v,iR n]:=by
 refine Ct.B func87 ?_;simp;have hpl:p.bV.length<=100000:=((rB p).1 hp).2.1;refine CI.p (AX p (by omega)) ?_;simp;refine CI.p (LL n.side hn.d.x) ?_;simp;have hl:=Ef hn.d.x;refine CI.cc [] (RO (((hC n.side).map (·.l)).getD []) (by omega)) ?_;simp;refine CI.p (Bc (hC n.side).isSome) ?_;simp;have S:=lV.1 hn.ss;refine CI.p (xS n.bA p hn.so (by have:=S.hl;omega) (by omega)) ?_;simp;refine CI.p (Bc (pF n.bA p)) ?_;simp;refine⟨by decide+kernel,?_⟩;exact⟨[],by constructor<;>simp[aV,aW,yZ,iB,oT]⟩
abbrev Kq (n:G.Node):Nat×bC:=(0,.cells ((gG n).map .d) 114)
theorem zgA (lost:Int)(n:G.Node)(s:bJ)(kf:D)(f:dS->Int->dS×Int)(hf:∀l i,gF l->cB prog (.d kf) [st (kR l),int i] (.bI [st (kR (f l i).1),int (f l i).2]))(hn:dG n)(hw:s.bG=0\/s.bG=1):Ct prog 119 [.ptr 0 0,st (cZ s),.d (.bM [kf])] [] [Kq n] (st (eV (mW f lost n s).2.2)) [Kq (mW f lost n s).1]:=by
 refine Ct.B func119 ?_;simp;rcases hw with hw|hw
 ·simp[hw];refine CI.ff (hf n.up s.n hn.up) rfl rfl rfl ?_;simp;refine⟨by decide+kernel,?_⟩;refine⟨by decide+kernel,?_⟩;exact⟨[],by constructor<;>simp[aV,aW,mW,fP,iB,fB,dA,hw]⟩
 ·simp[hw];refine CI.ff (hf n.dn s.n hn.dn) rfl rfl rfl ?_;simp;refine⟨by decide+kernel,?_⟩;refine⟨by decide+kernel,?_⟩;exact⟨[],by constructor<;>simp[aV,aW,mW,fP,iB,fB,dA,hw]⟩
attribute [simp] ntmps21 results21 ntmps41 results41 ntmps40 results40 ntmps42 results42 ntmps80 results80 ntmps75 results75 ntmps76 results76 ntmps39 results39
abbrev XC (i:Nat)(n:G.Node):Nat×bC:=(i,.cells ((gG n).map .d) 114)
@[simp] theorem zf8 (p:Nat->Bool):∀l:List D,fX.mH p (l.map .d)=true
  |[]=>rfl
  |_::l=>by simp only[iU,fX.mH,fX,tU];exact zf8 p l
@[simp] theorem ren_mapd (g:Nat->Nat):AV.cF g∘AV.d=AV.d:=by funext x;simp[AV.cF]
@[simp] def Z0 :Nat->List (List D)->List (Nat×bC)
  |_,[]=>[]
  |j,n::l=>(j,.cells (n.map .d) 114)::Z0 (j+1) l
@[simp] def QP :Nat->List (List D)->List Nat
  |_,[]=>[]
  |j,_::l=>j::QP (j+1) l
abbrev BC (c:bS)(p:aT)(lost:Int)(ks:List (List D)):List (Nat×bC):=dW c p lost 1::(1,.eW (QP 2 ks) 93)::Z0 2 ks
abbrev BM (M:G.bL):List (Nat×bC):=BC M.c M.p M.lost (M.ns.map gG)
abbrev j2 (c:bS)(p:aT):List AV:=[int c.qH,int c.cap,int c.iG,int c.max,int p.cap,aC (p.bV.map r9)]
theorem four {α:Type}:∀{l:List α},1<=l.length->l.length<=4->(∃a,l=[a])\/(∃a b,l=[a,b])\/(∃a b c,l=[a,b,c])\/∃a b c d,l=[a,b,c,d]
 |[],h,_=>absurd h (by simp)
 |[a],_,_=>.inl ⟨a,rfl⟩
 |[a,b],_,_=>.inr (.inl ⟨a,b,rfl⟩)
 |[a,b,c],_,_=>.inr (.inr (.inl ⟨a,b,c,rfl⟩))
 |[a,b,c,d],_,_=>.inr (.inr (.inr ⟨a,b,c,d,rfl⟩))
 |_::_::_::_::_::_,_,h=>absurd h (by simp)
theorem qG (c:bS)(p:aT)(lost:Int)(ks:List (List D))(h1:1<=ks.length)(h4:ks.length<=4):Ct prog 21 [.ptr 0 0] (BC c p lost ks) [] (int ks.length) []:=by
 rcases four h1 h4 with⟨a,e⟩|⟨a,b,e⟩|⟨a,b,d,e⟩|⟨a,b,d,f,e⟩
 all_goals
  subst e;refine Ct.B func21 ?_;simp;exact⟨[],by constructor<;>simp[aV,aW]⟩
theorem IN (c:bS)(p:aT)(lost:Int)(ks:List (List D))(k_:Int)(i:Nat)(hk:k_=i)(hi:i<ks.length)(h4:ks.length<=4):Ct prog 41 [.ptr 0 0,int k_] (BC c p lost ks) [] (.ptr (2+i) 0) []:=by
 have h1:1<=ks.length:=by omega
 have e:k_=0/\i=0\/k_=1/\i=1\/k_=2/\i=2\/k_=3/\i=3:=by omega
 rcases four h1 h4 with⟨a,x⟩|⟨a,b,x⟩|⟨a,b,d,x⟩|⟨a,b,d,f,x⟩<;>subst x<;>rcases e with⟨x,y⟩|⟨x,y⟩|⟨x,y⟩|⟨x,y⟩<;>subst x<;>subst y
 all_goals first
  | (exfalso;simp at hi;done)
  |skip
 all_goals
  refine Ct.B func41 ?_;simp;refine CI.cc [0,1,2,3,4,5] (qG c p lost _ h1 h4) ?_;simp;exact⟨[],by constructor<;>simp[aV,aW]⟩
theorem Kr (c:bS)(p:aT)(lost:Int)(ks:List (List D))(k_:Int)(hk:k_<0\/ks.length<=k_)(h1:1<=ks.length)(h4:ks.length<=4):Ct prog 41 [.ptr 0 0,int k_] (BC c p lost ks) [] (.d (.v (.pointer none))) []:=by
 rcases four h1 h4 with⟨a,x⟩|⟨a,b,x⟩|⟨a,b,d,x⟩|⟨a,b,d,f,x⟩<;>subst x<;>by_cases hz:k_<0
 all_goals
  simp[hz]at hk;refine Ct.B func41 ?_;simp[hz]
  try
   refine CI.cc [0,1,2,3,4,5] (qG c p lost _ h1 h4) ?_;simp;simp[hk]
  exact⟨[],by constructor<;>simp[aV,aW]⟩
theorem Us (v:Value)(c:bS)(p:aT)(lost:Int):Ct prog 40 [.ptr 0 0,int 0] [] [gN c p lost v] (.fn (.func 77) [.ptr 0 0] []) [gN c p lost v]:=by
 refine Ct.B func40 ?_;simp;exact⟨[],by constructor<;>simp[aV,aW]⟩
theorem Uo (v:Value)(c:bS)(p:aT)(lost:Int)(k_:Int)(h0:¬k_=0)(h6:¬k_=6):Ct prog 40 [.ptr 0 0,int k_] [] [gN c p lost v] (.d (.v .nilFunc)) [gN c p lost v]:=by
 refine Ct.B func40 ?_;simp;simp[h0,h6];exact⟨[],by constructor<;>simp[aV,aW]⟩
theorem zax (v:Value)(c:bS)(p:aT)(lost:Int):Ct prog 42 [.ptr 0 0,int 1] [] [gN c p lost v] (.fn (.func 79) [.ptr 0 0] []) [gN c p lost v]:=by
 refine Ct.B func42 ?_;simp;exact⟨[],by constructor<;>simp[aV,aW]⟩
theorem zap (v:Value)(c:bS)(p:aT)(lost:Int):Ct prog 42 [.ptr 0 0,int 5] [] [gN c p lost v] (.fn (.func 84) [.ptr 0 0] []) [gN c p lost v]:=by
 refine Ct.B func42 ?_;simp;exact⟨[],by constructor<;>simp[aV,aW]⟩
theorem zan (v:Value)(c:bS)(p:aT)(lost:Int):Ct prog 42 [.ptr 0 0,int 7] [] [gN c p lost v] (.fn (.func 85) [.ptr 0 0] []) [gN c p lost v]:=by
 refine Ct.B func42 ?_;simp;exact⟨[],by constructor<;>simp[aV,aW]⟩
theorem zal (v:Value)(c:bS)(p:aT)(lost:Int):Ct prog 42 [.ptr 0 0,int 8] [] [gN c p lost v] (.fn (.func 86) [.ptr 0 0] []) [gN c p lost v]:=by
 refine Ct.B func42 ?_;simp;exact⟨[],by constructor<;>simp[aV,aW]⟩
theorem zaj (v:Value)(c:bS)(p:aT)(lost:Int):Ct prog 42 [.ptr 0 0,int 9] [] [gN c p lost v] (.fn (.func 87) [.ptr 0 0] []) [gN c p lost v]:=by
 refine Ct.B func42 ?_;simp;exact⟨[],by constructor<;>simp[aV,aW]⟩
theorem Uq (v:Value)(c:bS)(p:aT)(lost:Int):Ct prog 40 [.ptr 0 0,int 6] [] [gN c p lost v] (.fn (.func 78) [.ptr 0 0] []) [gN c p lost v]:=by
 refine Ct.B func40 ?_;simp;exact⟨[],by constructor<;>simp[aV,aW]⟩
theorem YR (f:Nat):Ct prog 80 [.d (dX f)] [] [] (.d (.fn (.func 119) [] [.bM [dX f]])) []:=by
 refine Ct.BS func80 mixed 1 400 ?_;simp;refine CI.s (tm:=[(1,.d (.bM [dX f]))]) (mm:=[]) (nx:=65) [] [64] (by constructor<;>simp) ?_;refine CI.n ?_;simp;exact aB (by simp) rfl
theorem zav (v:Value)(c:bS)(p:aT)(lost:Int):Ct prog 42 [.ptr 0 0,int 2] [] [gN c p lost v] (.d (.fn (.func 119) [] [.bM [dX 81]])) [gN c p lost v]:=by
 refine Ct.B func42 ?_;simp;refine CI.p (YR 81) ?_;simp;exact⟨[],by constructor<;>simp[aV,aW]⟩
theorem zat (v:Value)(c:bS)(p:aT)(lost:Int):Ct prog 42 [.ptr 0 0,int 3] [] [gN c p lost v] (.d (.fn (.func 119) [] [.bM [dX 82]])) [gN c p lost v]:=by
 refine Ct.B func42 ?_;simp;refine CI.p (YR 82) ?_;simp;exact⟨[],by constructor<;>simp[aV,aW]⟩
theorem zar (v:Value)(c:bS)(p:aT)(lost:Int):Ct prog 42 [.ptr 0 0,int 4] [] [gN c p lost v] (.d (.fn (.func 119) [] [.bM [dX 83]])) [gN c p lost v]:=by
 refine Ct.B func42 ?_;simp;refine CI.p (YR 83) ?_;simp;exact⟨[],by constructor<;>simp[aV,aW]⟩
theorem Bh (a b:Int):Ct prog 75 [int a,int b] [] [] (bool (decide (0<=a)&&decide (a<=b))) []:=by
 refine Ct.B func75 ?_;simp
 repeat' first
  | (refine bX (fun h=>?_) (fun h=>?_)<;>simp only[h]<;>simp[h])
  | (refine aJ (fun h=>?_) (fun h=>?_)<;>simp only[h]<;>simp[h])
  | (refine⟨(show nY _ _ from by decide+kernel),?_⟩)
  |fail
 all_goals exact aB (by simp[*]) rfl
theorem zeQ :Ct prog 76 [] [] [] (.agg [str ⟨#[117,112,100,97,116,101]⟩,str ⟨#[98,114,105,110,103]⟩,str ⟨#[108,111,115,101]⟩,str ⟨#[97,103,97,105,110]⟩,str ⟨#[108,97,116,101]⟩,str ⟨#[114,101,110,101,119]⟩,str ⟨#[116,105,99,107]⟩,str ⟨#[98,101,103,105,110]⟩,str ⟨#[103,111]⟩,str ⟨#[116,101,108,108]⟩]) []:=by
 refine Ct.B func76 ?_;simp;exact aB (by simp) rfl
def QI (k_:Int):cH:=([⟨#[117,112,100,97,116,101]⟩,⟨#[98,114,105,110,103]⟩,⟨#[108,111,115,101]⟩,⟨#[97,103,97,105,110]⟩,⟨#[108,97,116,101]⟩,⟨#[114,101,110,101,119]⟩,⟨#[116,105,99,107]⟩,⟨#[98,101,103,105,110]⟩,⟨#[103,111]⟩,⟨#[116,101,108,108]⟩]:List cH).getD k_.toNat ⟨#[]⟩
theorem L6 {k_:Int}(h0:0<=k_)(h9:k_<=9):¬QI k_=⟨#[]⟩:=by
 have e:k_=0\/k_=1\/k_=2\/k_=3\/k_=4\/k_=5\/k_=6\/k_=7\/k_=8\/k_=9:=by omega
 rcases e with e|e|e|e|e|e|e|e|e|e<;>subst e<;>simp[QI]
theorem L8 (k_:Int)(h0:0<=k_)(h9:k_<=9):Ct prog 39 [int k_] [] [] (str (QI k_)) []:=by
 refine Ct.B func39 ?_;simp;refine CI.p (Bh k_ 9) ?_;simp;have e:k_=0\/k_=1\/k_=2\/k_=3\/k_=4\/k_=5\/k_=6\/k_=7\/k_=8\/k_=9:=by omega
 rcases e with e|e|e|e|e|e|e|e|e|e
 all_goals
  subst e
 all_goals
  simp;refine CI.p zeQ ?_;simp;exact aB (by simp[QI]) rfl
theorem zeU (k_:Int)(h:¬(0<=k_/\k_<=9)):Ct prog 39 [int k_] [] [] (str ⟨#[]⟩) []:=by
 refine Ct.B func39 ?_;simp;refine CI.p (Bh k_ 9) ?_;simp;have e:(!decide (0<=k_)|| !decide (k_<=9))=true:=by simp;omega
 simp[e];exact aB (by simp) rfl
attribute [simp] ntmps12 results12
theorem OF (b:Nat)(c:bS)(p:aT)(lost k_:Int)(h0:¬k_=0)(h6:¬k_=6):Ct prog 40 [.ptr 0 0,int k_] [] [dW c p lost b] (.d (.v .nilFunc)) [dW c p lost b]:=Ct.rJ (mr:=[]) (pre:=j2 c p) (pre':=j2 c p) (post:=[int lost]) (post':=[int lost]) rfl fun v=>Uo v c p lost k_ h0 h6
abbrev nS (j:Nat)(cs:List D):Nat×bC:=(j,.cells (cs.map .d) 114)
theorem Zb (c:bS)(p:aT)(lost:Int)(ks:List (List D))(s:bJ)(i:Nat)(cs:List D)(F:Nat)(cs':List D)(o:sQ)(l':Int)(k1:1<=s.kind)(k9:s.kind<=9)(k6:¬s.kind=6)(hw:s.kind<=4->s.bG=0\/s.bG=1)(h4:ks.length<=4)(hi:ks[i]? =some cs)(hs:s.side=i)(hen:Enters prog F)
  (hS:Ct prog 42 [.ptr 0 0,int s.kind] [] [dW c p lost 1] (.fn (.func F) [.ptr 0 0] []) [dW c p lost 1])
  (hF:Ct prog F [.ptr 0 0,.ptr 1 0,st (cZ s)] [] [dW c p lost 2,nS 1 cs] (st (eV o)) [dW c p l' 2,nS 1 cs']):Ct prog 12 [.ptr 0 0,st (cZ s)] [] (BC c p lost ks) (st (eV o)) (BC c p l' (ks.set i cs')):=by
 have hl:i<ks.length:=(cC.1 hi).1;have h1:1<=ks.length:=by omega
 have hne:=L6 (k_:=s.kind) (by omega) k9;have k0:¬s.kind=0:=by omega
 have e:s.side=0/\i=0\/s.side=1/\i=1\/s.side=2/\i=2\/s.side=3/\i=3:=by omega
 have q:(s.kind<=4/\¬s.bG<0/\¬2<=s.bG)\/(¬s.kind<=4/\True/\True):=by
  by_cases g:s.kind<=4
  ·exact .inl ⟨g,by have:=hw g;omega⟩
  ·exact .inr ⟨g,trivial,trivial⟩
 rcases four h1 h4 with⟨a,x⟩|⟨a,b,x⟩|⟨a,b,d,x⟩|⟨a,b,d,f,x⟩<;>subst x<;>rcases e with⟨e,x⟩|⟨e,x⟩|⟨e,x⟩|⟨e,x⟩<;>subst x
 all_goals first
  | (exfalso;simp at hl;done)
  |skip
 all_goals
  simp at hi;subst hi;rcases q with⟨g1,g2,g3⟩|⟨g1,g2,g3⟩
 all_goals
  refine Ct.B func12 ?_;simp;refine CI.cc [0,1,2,3,4,5] (qG c p lost _ h1 h4) ?_;simp;refine CI.p (L8 s.kind (by omega) k9) ?_;simp;simp[hne];refine CI.cc [0,1] (OF 1 c p lost s.kind k0 k6) ?_;simp;refine CI.cc [0,1,2,3,4,5] (IN c p lost _ s.side _ hs hl h4) ?_;simp;simp[g1,g2,g3];refine CI.cc [0,1] hS ?_;simp;refine CI.cc [0,2+s.side.toNat,1] hF ?_ (hen:=hen) (ha:=by simp[e]) (hn:=by constructor<;>simp[fD,e]) (hk:=by simp[e]);simp[e];first| (refine⟨[],?_,?_,?_,?_,?_,?_,?_⟩<;>simp[aV,aW];done)| (refine⟨by decide+kernel,?_⟩;refine⟨[],?_,?_,?_,?_,?_,?_,?_⟩<;>simp[aV,aW])
theorem Yw (c:bS)(p:aT)(lost:Int)(ks:List (List D))(s:bJ)(i:Nat)(cs:List D)(F:Nat)(cs':List D)(o:sQ)(kf:D)(k1:1<=s.kind)(g1:s.kind<=4)(hw:s.bG=0\/s.bG=1)(h4:ks.length<=4)(hi:ks[i]? =some cs)(hs:s.side=i)(hen:Enters prog F)
  (hS:Ct prog 42 [.ptr 0 0,int s.kind] [] [dW c p lost 1] (.d (.fn (.func F) [] [.bM [kf]])) [dW c p lost 1])
  (hF:Ct prog F [.ptr 0 0,st (cZ s),.d (.bM [kf])] [] [nS 0 cs] (st (eV o)) [nS 0 cs']):Ct prog 12 [.ptr 0 0,st (cZ s)] [] (BC c p lost ks) (st (eV o)) (BC c p lost (ks.set i cs')):=by
 have hl:i<ks.length:=(cC.1 hi).1;have h1:1<=ks.length:=by omega
 have k9:s.kind<=9:=by omega
 have k6:¬s.kind=6:=by omega
 have g2:¬s.bG<0:=by omega
 have g3:¬2<=s.bG:=by omega
 have hne:=L6 (k_:=s.kind) (by omega) k9;have k0:¬s.kind=0:=by omega
 have e:s.side=0/\i=0\/s.side=1/\i=1\/s.side=2/\i=2\/s.side=3/\i=3:=by omega
 rcases four h1 h4 with⟨a,x⟩|⟨a,b,x⟩|⟨a,b,d,x⟩|⟨a,b,d,f,x⟩<;>subst x<;>rcases e with⟨e,x⟩|⟨e,x⟩|⟨e,x⟩|⟨e,x⟩<;>subst x
 all_goals first
  | (exfalso;simp at hl;done)
  |skip
 all_goals
  simp at hi;subst hi
 all_goals
  refine Ct.B func12 ?_;simp;refine CI.cc [0,1,2,3,4,5] (qG c p lost _ h1 h4) ?_;simp;refine CI.p (L8 s.kind (by omega) k9) ?_;simp;simp[hne];refine CI.cc [0,1] (OF 1 c p lost s.kind k0 k6) ?_;simp;refine CI.cc [0,1,2,3,4,5] (IN c p lost _ s.side _ hs hl h4) ?_;simp;simp[g1,g2,g3];refine CI.cc [0,1] hS ?_;simp;refine CI.cc [2+s.side.toNat] hF ?_ (hen:=hen) (ha:=by simp[e]) (hn:=by constructor<;>simp[fD,e]) (hk:=by simp[e]);simp[e];first| (refine⟨[],?_,?_,?_,?_,?_,?_,?_⟩<;>simp[aV,aW];done)| (refine⟨by decide+kernel,?_⟩;refine⟨[],?_,?_,?_,?_,?_,?_,?_⟩<;>simp[aV,aW])
attribute [simp] ntmps77 results77
theorem Yv (c:bS)(p:aT)(lost:Int)(ks:List (List D))(s:bJ)(h1:1<=ks.length)(h4:ks.length<=4)(hk:¬(0<=s.kind/\s.kind<=9)):Ct prog 12 [.ptr 0 0,st (cZ s)] [] (BC c p lost ks) (st (eV (fP 4))) (BC c p lost ks):=by
 rcases four h1 h4 with⟨a,x⟩|⟨a,b,x⟩|⟨a,b,d,x⟩|⟨a,b,d,f,x⟩<;>subst x
 all_goals
  refine Ct.B func12 ?_;simp;refine CI.cc [0,1,2,3,4,5] (qG c p lost _ h1 h4) ?_;simp;refine CI.p (zeU s.kind hk) ?_;simp;exact⟨[],by constructor<;>simp[aV,aW,fP,iB]⟩
theorem Yu (c:bS)(p:aT)(lost:Int)(ks:List (List D))(s:bJ)(h1:1<=ks.length)(h4:ks.length<=4)(k1:1<=s.kind)(k9:s.kind<=9)(k6:¬s.kind=6)(hs:s.side<0\/ks.length<=s.side):Ct prog 12 [.ptr 0 0,st (cZ s)] [] (BC c p lost ks) (st (eV (fP 10))) (BC c p lost ks):=by
 have q:(s.kind<=4/\s.bG<0/\True)\/(s.kind<=4/\¬s.bG<0/\2<=s.bG)\/(s.kind<=4/\¬s.bG<0/\¬2<=s.bG)\/(¬s.kind<=4/\True/\True):=by
  by_cases g:s.kind<=4<;>by_cases g':s.bG<0<;>by_cases g'':2<=s.bG<;>simp[g,g',g'']
 have hne:=L6 (k_:=s.kind) (by omega) k9;have k0:¬s.kind=0:=by omega
 rcases four h1 h4 with⟨a,x⟩|⟨a,b,x⟩|⟨a,b,d,x⟩|⟨a,b,d,f,x⟩<;>subst x<;>rcases q with⟨g1,g2,g3⟩|⟨g1,g2,g3⟩|⟨g1,g2,g3⟩|⟨g1,g2,g3⟩
 all_goals
  refine Ct.B func12 ?_;simp;refine CI.cc [0,1,2,3,4,5] (qG c p lost _ h1 h4) ?_;simp;refine CI.p (L8 s.kind (by omega) k9) ?_;simp;simp[hne];refine CI.cc [0,1] (OF 1 c p lost s.kind k0 k6) ?_;simp;refine CI.cc [0,1,2,3,4,5] (Kr c p lost _ s.side hs h1 h4) ?_;simp;simp[g1,g2,g3];exact⟨[],by constructor<;>simp[aV,aW,fP,iB]⟩
theorem Yt (c:bS)(p:aT)(lost:Int)(ks:List (List D))(s:bJ)(i:Nat)(hi:i<ks.length)(h4:ks.length<=4)(hs:s.side=i)(k1:1<=s.kind)(g1:s.kind<=4)(hw:s.bG<0\/2<=s.bG):Ct prog 12 [.ptr 0 0,st (cZ s)] [] (BC c p lost ks) (st (eV (fP 10))) (BC c p lost ks):=by
 have h1:1<=ks.length:=by omega
 have k9:s.kind<=9:=by omega
 have k6:¬s.kind=6:=by omega
 have q:(s.bG<0/\True)\/(¬s.bG<0/\2<=s.bG):=by
  by_cases g:s.bG<0
  ·exact .inl ⟨g,trivial⟩
  ·exact .inr ⟨g,by omega⟩
 have hne:=L6 (k_:=s.kind) (by omega) k9;have k0:¬s.kind=0:=by omega
 have e:i=0\/i=1\/i=2\/i=3:=by omega
 rcases four h1 h4 with⟨a,x⟩|⟨a,b,x⟩|⟨a,b,d,x⟩|⟨a,b,d,f,x⟩<;>subst x<;>rcases e with x|x|x|x<;>subst x
 all_goals first
  | (exfalso;simp at hi;done)
  |skip
 all_goals
  rcases q with⟨g2,g3⟩|⟨g2,g3⟩
 all_goals
  refine Ct.B func12 ?_;simp;refine CI.cc [0,1,2,3,4,5] (qG c p lost _ h1 h4) ?_;simp;refine CI.p (L8 s.kind (by omega) k9) ?_;simp;simp[hne];refine CI.cc [0,1] (OF 1 c p lost s.kind k0 k6) ?_;simp;refine CI.cc [0,1,2,3,4,5] (IN c p lost _ s.side _ hs hi h4) ?_;simp;simp[g1,g2,g3];exact⟨[],by constructor<;>simp[aV,aW,fP,iB]⟩
theorem Vj (s:bJ)(c:bS)(p q:aT)(l0 l1:Int)(a1 b1:List D)(e1:Int)(hP:cO eY prog 111 [st (jT p),aC (s.aD.map aK),aC (s.gone.map bP)] [] [] (.bI [st (jT q),int 0]) [])(hq:q.bV.length<=1000000)(P1:Ct prog 112 [.ptr 0 0,.ptr 1 0] [] [dW c q l0 2,nS 1 a1] (int e1) [dW c q l1 2,nS 1 b1]):cO eY prog 77 [.ptr 0 0,st (cZ s)] [] (BC c p l0 [a1]) (st (eV ⟨e1,oT q,iB,[],[]⟩)) (BC c q l1 [b1]):=by
 refine cO.B lZ func77 ?_;simp;refine CI.j [] hP ?_;simp;refine⟨by decide+kernel,?_⟩;refine CI.p (AX q hq) ?_;simp;refine aQ.rounds 2 ?_;refine dE.s ?_;simp;refine CI.cc [0,2,1] P1 ?_;simp;all_goals
  refine dE.s ?_;simp;exact⟨[],by constructor<;>simp[aV,aW,oT,iB]⟩
theorem Vi (s:bJ)(c:bS)(p q:aT)(l0 l1 l2:Int)(a1 b1 a2 b2:List D)(e1 e2:Int)(hP:cO eY prog 111 [st (jT p),aC (s.aD.map aK),aC (s.gone.map bP)] [] [] (.bI [st (jT q),int 0]) [])(hq:q.bV.length<=1000000)(P1:Ct prog 112 [.ptr 0 0,.ptr 1 0] [] [dW c q l0 2,nS 1 a1] (int e1) [dW c q l1 2,nS 1 b1])(P2:Ct prog 112 [.ptr 0 0,.ptr 1 0] [] [dW c q l1 2,nS 1 a2] (int e2) [dW c q l2 2,nS 1 b2]):cO eY prog 77 [.ptr 0 0,st (cZ s)] [] (BC c p l0 [a1,a2]) (st (eV ⟨if e1=0 then e2 else e1,oT q,iB,[],[]⟩)) (BC c q l2 [b1,b2]):=by
 refine cO.B lZ func77 ?_;simp;refine CI.j [] hP ?_;simp;refine⟨by decide+kernel,?_⟩;refine CI.p (AX q hq) ?_;simp;refine aQ.rounds 3 ?_;refine dE.s ?_;simp;refine CI.cc [0,2,1] P1 ?_;simp;all_goals
  refine dE.s ?_;simp;refine CI.cc [0,3,1] P2 ?_;simp
 all_goals
  by_cases g2:e1=0
 all_goals
  simp[g2]
 all_goals
  refine dE.s ?_;simp;exact⟨[],by constructor<;>simp[aV,aW,oT,iB,g2]⟩
theorem Vh (s:bJ)(c:bS)(p q:aT)(l0 l1 l2 l3:Int)(a1 b1 a2 b2 a3 b3:List D)(e1 e2 e3:Int)(hP:cO eY prog 111 [st (jT p),aC (s.aD.map aK),aC (s.gone.map bP)] [] [] (.bI [st (jT q),int 0]) [])(hq:q.bV.length<=1000000)(P1:Ct prog 112 [.ptr 0 0,.ptr 1 0] [] [dW c q l0 2,nS 1 a1] (int e1) [dW c q l1 2,nS 1 b1])(P2:Ct prog 112 [.ptr 0 0,.ptr 1 0] [] [dW c q l1 2,nS 1 a2] (int e2) [dW c q l2 2,nS 1 b2])(P3:Ct prog 112 [.ptr 0 0,.ptr 1 0] [] [dW c q l2 2,nS 1 a3] (int e3) [dW c q l3 2,nS 1 b3]):cO eY prog 77 [.ptr 0 0,st (cZ s)] [] (BC c p l0 [a1,a2,a3]) (st (eV ⟨if(if e1=0 then e2 else e1)=0 then e3 else(if e1=0 then e2 else e1),oT q,iB,[],[]⟩)) (BC c q l3 [b1,b2,b3]):=by
 refine cO.B lZ func77 ?_;simp;refine CI.j [] hP ?_;simp;refine⟨by decide+kernel,?_⟩;refine CI.p (AX q hq) ?_;simp;refine aQ.rounds 4 ?_;refine dE.s ?_;simp;refine CI.cc [0,2,1] P1 ?_;simp;all_goals
  refine dE.s ?_;simp;refine CI.cc [0,3,1] P2 ?_;simp
 all_goals
  by_cases g2:e1=0
 all_goals
  simp[g2]
 all_goals
  refine dE.s ?_;simp;refine CI.cc [0,4,1] P3 ?_;simp
 all_goals
  by_cases g3:e2=0
 all_goals
  simp[g2,g3]
 all_goals
  refine dE.s ?_;simp;exact⟨[],by constructor<;>simp[aV,aW,oT,iB,g2,g3]⟩
theorem Vg (s:bJ)(c:bS)(p q:aT)(l0 l1 l2 l3 l4:Int)(a1 b1 a2 b2 a3 b3 a4 b4:List D)(e1 e2 e3 e4:Int)(hP:cO eY prog 111 [st (jT p),aC (s.aD.map aK),aC (s.gone.map bP)] [] [] (.bI [st (jT q),int 0]) [])(hq:q.bV.length<=1000000)(P1:Ct prog 112 [.ptr 0 0,.ptr 1 0] [] [dW c q l0 2,nS 1 a1] (int e1) [dW c q l1 2,nS 1 b1])(P2:Ct prog 112 [.ptr 0 0,.ptr 1 0] [] [dW c q l1 2,nS 1 a2] (int e2) [dW c q l2 2,nS 1 b2])(P3:Ct prog 112 [.ptr 0 0,.ptr 1 0] [] [dW c q l2 2,nS 1 a3] (int e3) [dW c q l3 2,nS 1 b3])(P4:Ct prog 112 [.ptr 0 0,.ptr 1 0] [] [dW c q l3 2,nS 1 a4] (int e4) [dW c q l4 2,nS 1 b4]):cO eY prog 77 [.ptr 0 0,st (cZ s)] [] (BC c p l0 [a1,a2,a3,a4]) (st (eV ⟨if(if(if e1=0 then e2 else e1)=0 then e3 else(if e1=0 then e2 else e1))=0 then e4 else(if(if e1=0 then e2 else e1)=0 then e3 else(if e1=0 then e2 else e1)),oT q,iB,[],[]⟩)) (BC c q l4 [b1,b2,b3,b4]):=by
 refine cO.B lZ func77 ?_;simp;refine CI.j [] hP ?_;simp;refine⟨by decide+kernel,?_⟩;refine CI.p (AX q hq) ?_;simp;refine aQ.rounds 5 ?_;refine dE.s ?_;simp;refine CI.cc [0,2,1] P1 ?_;simp;all_goals
  refine dE.s ?_;simp;refine CI.cc [0,3,1] P2 ?_;simp
 all_goals
  by_cases g2:e1=0
 all_goals
  simp[g2]
 all_goals
  refine dE.s ?_;simp;refine CI.cc [0,4,1] P3 ?_;simp
 all_goals
  by_cases g3:e2=0
 all_goals
  simp[g2,g3]
 all_goals
  refine dE.s ?_;simp;refine CI.cc [0,5,1] P4 ?_;simp
 all_goals
  by_cases g4:e3=0
 all_goals
  simp[g2,g3,g4]
 all_goals
  refine dE.s ?_;simp;exact⟨[],by constructor<;>simp[aV,aW,oT,iB,g2,g3,g4]⟩
end Go.Proofs.YtegplpagkajolaaGreatDoor
