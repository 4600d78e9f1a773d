/-
  LAYERS 3, 5, 6, 14: the walks of references and views, of configurations, of stores; what the laws' arguments are.
-/
import Derived.Test.YtegplpagkajolaaGreatDoorWb
import Derived.Test.YtegplpagkajolaaGreatDoorPl
import Derived.Test.YtegplpagkajolaaGreatDoorTy
import Derived.Test.YtegplpagkajolaaGreatDoorFc
set_option linter.unusedSimpArgs false
set_option linter.unusedVariables false
set_option maxRecDepth 100000
set_option maxHeartbeats 8000000
namespace Go.Proofs.YtegplpagkajolaaGreatDoor
open Go.AI Go.G Tryz
attribute [simp] ntmps58 results58
theorem SR (l:List Key)(hl:l.length<=1000000):Ct prog 58 [.own 0] [] [(0,.grow 2 (l.map bP) 149)] (aC ((oZ l).map bP)) []:=by
 refine Ct.B func58 ?_;simp;refine aJ (fun h0=>?_) (fun h0=>?_)<;>simp only[h0]<;>simp<;>(try simp only[nT,nF,dT,dF]at h0)
 ·have e:oZ l=l:=zil h0;exact⟨[],by constructor<;>simp[aV,aW,e]⟩
 refine aQ.inv mixed rfl (ι:={k:Nat//k+1<=l.length/\oZ (l.take (k+1))=l.take (k+1)}) (fun k=>[(0,.own 0),(3,int ((k.1:Int)+1))]) (fun k=>[(0,.grow 2 (l.map bP) 149)]) 64 (fun k=>l.length-k.1) ⟨0,by omega,zim l⟩ [] (by constructor<;>simp) ?_;rintro⟨m,hk1,hi⟩ B hB;refine CI.n ?_;simp;refine aJ (fun h=>?_) (fun h=>?_)<;>simp only[h]<;>simp<;>(try simp only[nT,nF,dT,dF]at h)
 ·have hk:m+1<l.length:=by omega
  have hk':m<l.length:=by omega
  have hv:l[m+1]? =some l[m+1]:=cI hk;have hq:l[m]? =some l[m]:=cI hk';have w0:IntKind.wrap .i64 (m:Int)=m:=wrap_i64 (by omega) (by omega);have w1:=wrap_i64 (n:=(m:Int)+1+1) (by omega) (by omega);have c1:(0:Int)<=(m:Int)+1:=by omega
  have c2:(m:Int)<l.length:=by omega
  generalize hvu:l[m+1]=u at hv;generalize hqu:l[m]=q0 at hq;have hs:=SS (by omega) (show l[m+1-1]? =_ from hq) hv;simp[h,hvu,hqu,c1,c2,hv,hq,w0];rw[JA];refine⟨by decide+kernel,?_⟩;refine aJ (fun h2=>?_) (fun h2=>?_)<;>simp only[h2]<;>simp[hv,hq]<;>(try simp only[nT,nF,dT,dF]at h2)
  ·refine⟨by omega,?_⟩;rw[h2]at hv;have d0:sR l (m+2+0) (m+1) l:=sR.start (by omega) hi hq hv;clear hv hq hs w0 w1 c1 c2 hi hB;refine aQ.inv mixed rfl (ι:={q:Nat×Nat×List Key//sR l (m+2+q.1) q.2.1 q.2.2}) (fun k=>[(0,.own 0),(3,int k.1.2.1),(4,.sl 0 2 (m+1) (l.length-(m+1))),(5,int ((k.1.1:Int)+1))]) (fun k=>[(0,.grow 2 (k.1.2.2.map bP) 149)]) 64 (fun k=>l.length-k.1.1) ⟨(0,m+1,l),d0⟩ [] (by constructor<;>simp) ?_;rintro⟨⟨d,i,cur⟩,hd⟩ B hB;have hlen:=hd.len;have hlt:=hd.lt;have hle:=hd.le;simp only at hlen hlt hle;have w1:IntKind.wrap .i64 ((d:Int)+1+1)=d+1+1:=wrap_i64 (by omega) (by omega);have w2:IntKind.wrap .i64 ((i:Int)+1)=i+1:=wrap_i64 (by omega) (by omega);have w0:IntKind.wrap .i64 (d:Int)=d:=wrap_i64 (by omega) (by omega);refine CI.n ?_;simp[hlen];refine aJ (fun h3=>?_) (fun h3=>?_)<;>simp only[h3]<;>simp<;>(try simp only[nT,nF,dT,dF]at h3)
   ·have hj:m+1+(d+1)<l.length:=by omega
    have hj':m+1+d<l.length:=by omega
    have hv:l[m+2+d]? =some l[m+1+(d+1)]:=by rw[<-cI hj];congr 1;omega
    have hq:l[m+2+d-1]? =some l[m+1+d]:=by rw[<-cI hj'];congr 1;omega
    generalize l[m+1+(d+1)]=v at hv;generalize l[m+1+d]=q at hq;have hg:cur[m+1+(d+1)]? =some v:=by have:=hd.get hv;rwa[show m+2+d=m+1+(d+1) by omega]at this
    have hg':cur[m+1+d]? =some q:=by have:=hd.get' hq;rwa[show m+2+d-1=m+1+d by omega]at this
    have c1:(0:Int)<=(d:Int)+1:=by omega
    have c2:(d:Int)<((l.length-(m+1):Nat):Int):=by omega
    simp[h3,c1,c2,w0,hg,hg'];rw[Nt];refine⟨by decide+kernel,?_⟩;have hic:i<cur.length:=by omega
    refine aJ (fun h4=>?_) (fun h4=>?_)<;>simp only[h4]<;>simp[h3,c1,c2,hg,hg',hic]<;>(try simp only[nT,nF,dT,dF]at h4)
    ·refine hB _ ⟨(d+1,i+1,cur.set i v),by exact hd.keep hv hq (fun e=>h4 e.symm)⟩ [] ?_ (by simp;omega);constructor<;>simp[w1,w2,HI]
    ·rw[<-h4]at hq;refine hB _ ⟨(d+1,i,cur),by exact hd.same hv hq⟩ [] ?_ (by simp;omega);constructor<;>simp[w1]
   ·have hj:m+2+d=l.length:=by omega
    simp only at hd;rw[hj]at hd;have e:cur.take i=oZ l:=hd.done;have e2:List.take i (List.map bP cur)=List.map bP (oZ l):=by rw[<-DM,e]
    have e3:(oZ l).length=i:=by rw[<-e,yV];omega
    refine⟨by omega,by omega,by omega,?_⟩;rw[e2];exact⟨[],by constructor<;>simp[aV,aW,e3,List.take_append,show i<=i+(l.length-i+(l.length-(i+(l.length-i))))from by omega]⟩
  ·rw[aH (fun e=>h2 e.symm)]at hs;refine hB _ ⟨m+1,by omega,by rw[hs,hi,nZ (i:=m+1),hv];rfl⟩ [] ?_ (by simp;omega);constructor<;>simp[w1]
 ·have e:oZ l=l:=by
   have hl2:m+1=l.length:=by omega
   rw[hl2,fA]at hi;exact hi
  exact⟨[],by constructor<;>simp[aV,aW,e]⟩
open Go.Sort Go.Proofs Go.RowKit Go.Shelf
def RR (k:Key):List Value:=[.int .i64 k.kind,.string k.name]
instance keyInh :Inhabited Key:=⟨⟨0,.empty⟩⟩
theorem O0 (l:List Key)(hl:l.length<4611686018427387904):Ct prog 56 [.own 0,.d (dX 57)] [] [(0,.grow 2 (l.map bP) 149)] (.d (.v (.tuple #[]))) [(0,.grow 2 ((uX l).map bP) 149)]:=
 Ct.sort (enc:=RR) (k:=2) (cf:=dY) (sortL:=uX) (by decide) (fun _=>rfl) (fun x v hv=>by simp[RR]at hv;rcases hv with rfl|rfl<;>rfl) LH
  (fun p cap fv w=>AnyF.slices_SortFunc_none {Tryz.Dx with} p cap fv w)
  (fun bQ off cap d w hc hH hb hs=>AnyQ.slices_SortFunc_total Tryz.Dx 2 (fun w=>by kernel_rfl) (fun w=>by kernel_rfl) RR (fun _=>rfl) (fun x v hv=>by simp[RR]at hv;rcases hv with rfl|rfl<;>rfl) dY OO 57 #[] bQ off cap d w call57 hc hH hb hs (fun x y h1 h2=>zfr h1 h2))
  (fun a b=>ZV a b) hl
end Go.Proofs.YtegplpagkajolaaGreatDoor
namespace Go.Proofs.YtegplpagkajolaaGreatDoor
open Go.AI Go.G Tryz
attribute [simp] ntmps159 results159 ntmps397 results397
theorem PI (r:aA):Ct prog 159 [st (aK r)] [] [] (aC ((eT r).map bP)) []:=by
 refine Ct.B func159 ?_;simp;refine CI.p (D3 r) ?_;simp;refine aJ (fun h1=>?_) (fun h1=>?_)<;>simp only[h1]<;>simp<;>(try simp only[nT,nF,dT,dF]at h1)
 ·first|exact aB (by simp[eT,h1]) rfl|exact cK (by simp[eT,h1])
 obtain⟨hk0,hn,hs,hsh,hnm,hsg⟩:=zA h1;have hk:=zb5.1 hk0;have hb:=Eb hs;have hwk:=wrap_i64 (n:=r.kind+1) (by omega) (by omega);refine aJ (fun h2=>?_) (fun h2=>?_)<;>simp only[h2]<;>simp<;>(try simp only[nT,nF,dT,dF]at h2)
 ·have hto:¬bs r.to=[]:=fun e=>h2 (JR e);have hr0:=Ws hsh hto;have h0:pT r 0=[⟨r.kind+1,r.to⟩]:=by rw[Ix,aH hto]
  have e:=WU h1;rw[hr0]at e;simp only[l7,h0]at e;simp[hr0,hwk];refine aQ.un ?_;simp;refine CI.cc [1152] (O0 [⟨r.kind+1,r.to⟩] (by simp)) ?_;simp;refine CI.cc [1152] (SR (uX [⟨r.kind+1,r.to⟩]) (by rw[LH];simp)) ?_;simp;rw[e];exact aB (by simp) rfl
 ·have hto:bs r.to=[]:=by
   have:r.to=⟨#[]⟩:=by simpa using h2
   rw[this];rfl
  have h0:pT r 0=[]:=by rw[Ix,aU hto]
  refine aQ.j1 3 2 149 rfl ?_;refine aQ.V (r.rules) (fun k=>[(1,.ptr 64 0),(3,.own 65),(24,aC (r.rules.map fR)),(25,int r.rules.length),(26,int k.1)]) (fun k=>[(64,.cells ((aK r).map .d) 126),(65,.grow 2 ((pT r k.1).map bP) 149)]) 66 (fun k hk1 B hB=>?_) (h0:=by constructor<;>simp[h0]);simp[h0];refine aJ (fun h=>?_) (fun h=>?_)
  ·have hk:k<(r.rules).length:=by simpa using h
   obtain⟨x,hx,hr,hm,ht,hd,hw⟩:=dL hk;simp only[h];simp[hr,hw];have h7:=hb.2.2 x hm;refine aQ.V (x.split) (fun kj=>[(1,.ptr 64 0),(3,.own 65),(24,aC (r.rules.map fR)),(25,int r.rules.length),(26,int k),(31,aC (x.split.map wC)),(32,int x.split.length),(33,int kj.1)]) (fun kj=>[(64,.cells ((aK r).map .d) 126),(65,.grow 2 ((pT r k++((x.split.take kj.1).filter fun w=>decide (0<w.w)).map toKey).map bP) 149)]) 66 (fun kj hk1j Bj hBj=>?_) (h0:=by constructor<;>simp[hr]);simp[hr];refine aJ (fun hj=>?_) (fun hj=>?_)
   ·have hkj:kj<(x.split).length:=by simpa using hj
    obtain⟨w,hxj,hrj,hmj,htj,hdj,hwj⟩:=dL hkj;simp only[hj];simp[hrj,hwj,hr];have hlen:=Iy k hb.1 hb.2.2;have h8:((x.split.take kj).filter fun w=>decide (0<w.w)).length<=4:=fV (kS _ _) (fV (by simp;omega) h7);refine aJ (fun h4=>?_) (fun h4=>?_)<;>simp only[h4]<;>simp[hr,hrj]<;>(try simp only[nT,nF,dT,dF]at h4)
    ·refine⟨by omega,?_⟩;exact hBj hkj (by constructor<;>simp[hwj,htj,v7,h4,hwj])
    ·exact hBj hkj (by constructor<;>simp[hwj,htj,v7,h4,hwj])
   ·obtain rfl:kj=(x.split).length:=by simp at hj;omega
    simp only[hj];simp[hw];exact hB hk (by constructor<;>simp[hw,ht,zdv ht,BV])
  ·obtain rfl:k=(r.rules).length:=by simp at h;omega
   simp only[h];simp;have hlen:=Iy r.rules.length hb.1 hb.2.2;refine CI.cc [65] (O0 (pT r r.rules.length) (by omega)) ?_;simp;refine CI.cc [65] (SR (uX (pT r r.rules.length)) (by rw[LH];omega)) ?_;simp;rw[WU h1];exact aB (by simp) rfl
theorem zcr (l:List aA)(k_:Key)(hl:l.length<=1000000):Ct prog 397 [aC (l.map aK),st (bP k_)] [] [] (aC ((uA l k_).map bP)) []:=by
 refine Ct.B func397 ?_;simp;refine aQ.j1 5 2 149 rfl ?_;refine aQ.V (l) (fun k=>[(3,.ptr 64 0),(5,.own 65),(8,aC (l.map aK)),(9,int l.length),(10,int k.1)]) (fun k=>[(64,.cells ((bP k_).map .d) 149),(65,.grow 2 ((uA (l.take k.1) k_).map bP) 149)]) 66 (fun k hk1 B hB=>?_);simp;refine aJ (fun h=>?_) (fun h=>?_)
 ·have hk:k<(l).length:=by simpa using h
  obtain⟨x,hx,hr,hm,ht,hd,hw⟩:=dL hk;simp only[h];simp[hr,hw];have hlen:((l.take k).filter fun r=>decide (k_∈eT r)).length<=1000000:=fV (kS _ _) (by simp;omega);refine CI.p (PI x) ?_;simp;refine CI.p (Ot (eT x) k_ (zcm x)) ?_;simp;refine⟨by decide+kernel,?_⟩;refine aJ (fun h1=>?_) (fun h1=>?_)<;>simp only[h1]<;>simp[hr]
  ·refine CI.p (oX x) ?_;simp;refine⟨by omega,?_⟩;exact hB hk (by constructor<;>simp[hw,ht,v7,h1])
  ·exact hB hk (by constructor<;>simp[hw,ht,v7,h1])
 ·obtain rfl:k=(l).length:=by simp at h;omega
  simp only[h];simp;exact aB (by simp) rfl
attribute [simp] ntmps213 results213 ntmps377 results377 ntmps312 results312 ntmps311 results311 ntmps239 results239
theorem Et (v:View)(f:G.Frame):Ct prog 213 [st (DT v),st (fY f)] [] [] (st (DT (lK v f))) []:=by
 refine Ct.B func213 ?_;simp;exact aB (by simp[lK]) rfl
theorem Jz (f:G.Frame):Ct prog 377 [st (fY f)] [] [] (.agg [int f.aF,int f.kind,int f.cY]) []:=by
 refine Ct.B func377 ?_;simp;exact aB (by simp) rfl
theorem ZL (v:View)(t:Int)(h:List Key):Ct prog 312 [st (DT v),int t,aC (h.map bP)] [] [] (st (DT (eE v t h))) []:=by
 refine Ct.B func312 ?_;simp;refine aJ (fun h1=>?_) (fun h1=>?_)<;>simp only[h1]<;>simp<;>(try simp only[nT,nF,dT,dF]at h1)
 ·first|exact aB (by simp[eE,h1]) rfl|exact cK (by simp[eE,h1])
 ·first|exact aB (by simp[eE,h1]) rfl|exact cK (by simp[eE,h1])
theorem zkg (v:View)(f:G.Frame)(hl:v.bF.length+v.push.aD.length<=1000000)(hg:v.push.gone.length<=9223372036854775807):Ct prog 311 [st (DT v),st (fY f)] [] [] (.bI [st (DT (j4 v f)),int (G6 v f)]) []:=by
 refine Ct.B func311 ?_;simp;refine aJ (fun h1=>?_) (fun h1=>?_)<;>simp only[h1]<;>simp
 ·have h1':v.open_=false:=by simpa using h1
  exact aB (by simp[j4,G6,h1']) rfl
 have h1':v.open_=true:=by simpa using h1
 refine bX (fun h2=>?_) (fun h2=>?_)<;>simp only[h2]<;>simp<;>(try simp only[nT,nF,dT,dF]at h2)
 ·refine⟨by decide+kernel,?_⟩;first|exact aB (by simp[j4,G6,pZ,h1',h2]) rfl|exact cK (by simp[j4,G6,pZ,h1',h2])
 refine CI.p (Jz f) ?_;simp;refine CI.p (Jz v.push) ?_;simp;refine⟨by decide+kernel,?_⟩;rw[zg5 h2];refine aJ (fun h3=>?_) (fun h3=>?_)<;>simp only[h3]<;>simp
 ·have h3':pZ v f=false:=by simpa using h3
  exact aB (by simp[j4,G6,h1',h3']) rfl
 have h3':pZ v f=true:=by simpa using h3
 rw[Aj h1' h3'];refine aJ (fun h4=>?_) (fun h4=>?_)<;>simp only[h4]<;>simp<;>(try simp only[nT,nF,dT,dF]at h4)
 ·refine CI.p (PX v.bF v.push.aD v.push.gone hl hg) ?_;simp;refine CI.p (ZL ⟨cD v.bF v.push.aD v.push.gone,v.held,v.aL,fQ,false⟩ f.aL f.held) ?_ (ha:=by simp[fQ]);simp[fQ];refine⟨by decide+kernel,?_⟩;exact aB (by simp[G6,h1',h3',h4,fQ]) rfl
 ·refine CI.p (ZL ⟨v.bF,v.held,v.aL,fQ,false⟩ f.aL f.held) ?_ (ha:=by simp[fQ]);simp[fQ];refine⟨by decide+kernel,?_⟩;exact aB (by simp[G6,h1',h3',h4,fQ]) rfl
theorem Mj (l:List aA)(hl:l.length<=1000000):Ct prog 239 [aC (l.map aK)] [] [] (aC ((qK l).map nU)) []:=by
 refine Ct.B func239 ?_;simp;refine aQ.j1 3 3 376 rfl ?_;refine aQ.V (l) (fun k=>[(3,.own 64),(6,aC (l.map aK)),(7,int l.length),(8,int k.1)]) (fun k=>[(64,.grow 3 ((qK (l.take k.1)).map nU) 376)]) 65 (fun k hk1 B hB=>?_);simp;refine aJ (fun h=>?_) (fun h=>?_)
 ·have hk:k<(l).length:=by simpa using h
  obtain⟨x,hx,hr,hm,ht,hd,hw⟩:=dL hk;simp only[h];simp[hr,hw];refine CI.p (oX x) ?_;simp;refine⟨by omega,?_⟩;refine⟨by decide+kernel,?_⟩;exact hB hk (by constructor<;>simp[hw,ht,zfn])
 ·obtain rfl:k=(l).length:=by simp at h;omega
  simp only[h];simp;exact aB (by simp) rfl
end Go.Proofs.YtegplpagkajolaaGreatDoor
namespace Go.Proofs.YtegplpagkajolaaGreatDoor
open Go.ChangeShapes Go.WideShapes Go.ChangeAt Go.RowKit Go.AI Go.G
theorem P7 :ownKnob Tryz.prog.godebug=none:=by kernel_rfl
theorem RI :laidOutB Tryz.prog=true:=by kernel_rfl
theorem r6 :kF Tryz.prog 3=.int .i64:=by kernel_rfl
theorem D2 :kF Tryz.prog 9=.str:=by kernel_rfl
theorem zaV :kF Tryz.prog 39=.sl 3:=by kernel_rfl
theorem zaU :kF Tryz.prog 149=.st [3,9]:=by kernel_rfl
theorem zaT :kF Tryz.prog 40=.sl 149:=by kernel_rfl
theorem zaL :kF Tryz.prog 163=.st [9,3]:=by kernel_rfl
theorem zaK :kF Tryz.prog 129=.sl 163:=by kernel_rfl
theorem zaN :kF Tryz.prog 131=.st [9,9,129]:=by kernel_rfl
theorem zaM :kF Tryz.prog 124=.sl 131:=by kernel_rfl
theorem zaP :kF Tryz.prog 126=.st [3,9,3,3,9,124,39]:=by kernel_rfl
theorem zaO :kF Tryz.prog 44=.sl 126:=by kernel_rfl
variable {n : Nat} {ds : List D}
theorem JC {s:ByteArray}(h:s.size<=maxLen):nB s:=by
 have:=mD s;have e:maxLen=9223372036854775807:=rfl;unfold G.nB;omega
theorem JD {α:Type}{l:List α}{f:α->List D}(h:(l.map f).length<=maxLen):l.length<=9223372036854775807:=by
 have e:maxLen=9223372036854775807:=rfl;rw[vZ]at h;omega
theorem zf3 (h:Is Tryz.prog (n+2) 149 ds):∃k:Key,nB k.name/\ds=bP k:=by
 obtain⟨_,_,h1,g1,rfl⟩:=kZ (GK zaU h);obtain⟨_,_,h2,g2,rfl⟩:=kZ g1;obtain rfl:=GM g2;obtain⟨a,_,rfl⟩:=sF r6 h1;obtain⟨b,hb,rfl⟩:=EW D2 h2;exact⟨⟨a,b⟩,JC hb,rfl⟩
theorem zfY (h:Is Tryz.prog (n+2) 163 ds):∃k:Weight,nB k.gI/\ds=wC k:=by
 obtain⟨_,_,h1,g1,rfl⟩:=kZ (GK zaL h);obtain⟨_,_,h2,g2,rfl⟩:=kZ g1;obtain rfl:=GM g2;obtain⟨a,ha,rfl⟩:=EW D2 h1;obtain⟨b,_,rfl⟩:=sF r6 h2;exact⟨⟨a,b⟩,JC ha,rfl⟩
theorem zfZ (h:Is Tryz.prog (n+4) 131 ds):∃x:gB,x.split.length<=9223372036854775807/\ds=fR x:=by
 obtain⟨_,_,h1,g1,rfl⟩:=kZ (GK zaN h);obtain⟨_,_,h2,g2,rfl⟩:=kZ g1;obtain⟨_,_,h3,g3,rfl⟩:=kZ g2;obtain rfl:=GM g3;obtain⟨a,ha,rfl⟩:=EW D2 h1;obtain⟨b,hb,rfl⟩:=EW D2 h2;obtain⟨es,he,h4,rfl⟩:=JB zaK h3;obtain⟨l,_,rfl⟩:=GL (fun c=>zfY) h4;exact⟨⟨a,b,l⟩,JD he,rfl⟩
theorem Nx (h:Is Tryz.prog (n+1) 3 ds):∃x:Int,True/\ds=lP x:=by
 obtain⟨a,_,rfl⟩:=sF r6 h;exact⟨a,trivial,rfl⟩
theorem zf0 (h:Is Tryz.prog (n+6) 126 ds):∃r:aA,zX r/\ds=aK r:=by
 obtain⟨_,_,h1,g1,rfl⟩:=kZ (GK zaP h);obtain⟨_,_,h2,g2,rfl⟩:=kZ g1;obtain⟨_,_,h3,g3,rfl⟩:=kZ g2;obtain⟨_,_,h4,g4,rfl⟩:=kZ g3;obtain⟨_,_,h5,g5,rfl⟩:=kZ g4;obtain⟨_,_,h6,g6,rfl⟩:=kZ g5;obtain⟨_,_,h7,g7,rfl⟩:=kZ g6;obtain rfl:=GM g7;obtain⟨a,_,rfl⟩:=sF r6 h1;obtain⟨b,hb,rfl⟩:=EW D2 h2;obtain⟨c,_,rfl⟩:=sF r6 h3;obtain⟨d,_,rfl⟩:=sF r6 h4;obtain⟨e,he,rfl⟩:=EW D2 h5;obtain⟨es,hes,h8,rfl⟩:=JB zaM h6;obtain⟨l,hl,rfl⟩:=GL (fun c=>zfZ) h8;obtain⟨fs,hfs,h9,rfl⟩:=JB zaV h7;obtain⟨m,_,rfl⟩:=GL (fun c=>Nx) h9;exact⟨⟨a,b,c,d,e,l,m⟩,⟨JC hb,JC he,JD hes,hl,JD hfs⟩,rfl⟩
theorem Nw (h:Is Tryz.prog (n+7) 44 ds):∃l:List aA,dK l/\ds=[lD (l.map aK)]:=by
 obtain⟨es,he,h1,rfl⟩:=JB zaO h;obtain⟨l,hl,rfl⟩:=GL (fun c=>zf0) h1;exact⟨l,⟨JD he,hl⟩,rfl⟩
theorem zf2 (h:Is Tryz.prog (n+3) 40 ds):∃l:List Key,(l.length<=9223372036854775807/\∀k∈l,nB k.name)/\ds=[lD (l.map bP)]:=by
 obtain⟨es,he,h1,rfl⟩:=JB zaT h;obtain⟨l,hl,rfl⟩:=GL (fun c=>zf3) h1;exact⟨l,⟨JD he,hl⟩,rfl⟩
theorem zf4 (h:Is Tryz.prog (n+1) 3 ds):∃x:Int,True/\ds=[iD x]:=Nx h
end Go.Proofs.YtegplpagkajolaaGreatDoor
namespace Go.Proofs.YtegplpagkajolaaGreatDoor
open Go.ChangeShapes Go.WideShapes Go.ChangeAt Go.RowKit Go.AI Go.G
variable {n : Nat} {ds : List D}
theorem zky :E6 Tryz.prog 3=false:=by kernel_rfl
theorem zkx :E6 Tryz.prog 44=false:=by kernel_rfl
end Go.Proofs.YtegplpagkajolaaGreatDoor
namespace Go.Proofs.YtegplpagkajolaaGreatDoor
open Go.AI Go.G Tryz
attribute [simp] ntmps105 results105 ntmps272 results272 ntmps388 results388 ntmps344 results344
theorem W7 (l:List aA)(hl:l.length<=1000000):Ct prog 105 [aC (l.map aK)] [] [] (.d (.mp true [.int,.str] false (pI (l.map aA.key)))) []:=by
 refine Ct.B func105 ?_;simp;refine aQ.V (l) (fun k=>[(3,.own 64),(7,aC (l.map aK)),(8,int l.length),(9,int k.1)]) (fun k=>[(64,.map true [.int,.str] false (pI ((l.take k.1).map aA.key)))]) 65 (fun k hk1 B hB=>?_) (h0:=by constructor<;>simp[I5]);simp[I5];refine aJ (fun h=>?_) (fun h=>?_)
 ·have hk:k<(l).length:=by simpa using h
  obtain⟨x,hx,hr,hm,ht,hd,hw⟩:=dL hk;simp only[h];simp[hr,hw];refine CI.p (oX x) ?_;simp;exact hB hk (by constructor<;>simp[hw,ht])
 ·obtain rfl:k=(l).length:=by simp at h;omega
  simp only[h];simp;exact aB (by simp) rfl
theorem ze2 (l:List aA)(hl:l.length<=30000):Ct prog 272 [aC (l.map aK)] [] [] (aC ((wO l).map bP)) []:=by
 refine Ct.B func272 ?_;simp;refine CI.p (W7 l (by omega)) ?_;simp;refine aQ.j1 4 2 149 rfl ?_;refine aQ.V (l) (fun k=>[(3,.d (.mp true [.int,.str] false (pI (l.map aA.key)))),(4,.own 64),(11,aC (l.map aK)),(12,int l.length),(13,int k.1)]) (fun k=>[(64,.grow 2 ((uB (l.take k.1) l).map bP) 149)]) 65 (fun k hk1 B hB=>?_);simp;refine aJ (fun h=>?_) (fun h=>?_)
 ·have hk:k<(l).length:=by simpa using h
  obtain⟨x,hx,hr,hm,ht,hd,hw⟩:=dL hk;simp only[h];simp[hr,hw];have hml:=QT (l.take k) l;have hr33:=IH x;have htk:(l.take k).length<=30000:=by simp;omega
  refine CI.p (PI x) ?_;simp;refine aQ.V ((eT x)) (fun kj=>[(3,.d (.mp true [.int,.str] false (pI (l.map aA.key)))),(4,.own 64),(11,aC (l.map aK)),(12,int l.length),(13,int k),(18,aC ((eT x).map bP)),(19,int (eT x).length),(20,int kj.1)]) (fun kj=>[(64,.grow 2 ((uB (l.take k) l++((eT x).take kj.1).filter (lY l)).map bP) 149)]) 65 (fun kj hk1j Bj hBj=>?_);simp;refine aJ (fun hj=>?_) (fun hj=>?_)
  ·have hkj:kj<((eT x)).length:=by simpa using hj
   obtain⟨q,hxj,hrj,hmj,htj,hdj,hwj⟩:=dL hkj;simp only[hj];simp[hrj,hwj];have hfl:(((eT x).take kj).filter (lY l)).length<=33:=fV (kS _ _) (by simp;omega);by_cases h1:q∈l.map aA.key
   ·have hL:=GG h1;have h1':lY l q=false:=by simp[lY,mem_keys.1 h1]
    simp[hL];exact hBj hkj (by constructor<;>simp[hwj,htj,v7,h1',hwj])
   ·have hL:=I4 h1;have h1':lY l q=true:=by
     cases h:(aS l q).isSome
     ·simp[lY,h]
     ·exact absurd (mem_keys.2 h) h1
    simp[hL,hrj];refine⟨by omega,?_⟩;exact hBj hkj (by constructor<;>simp[hwj,htj,v7,h1',hwj])
  ·obtain rfl:kj=((eT x)).length:=by simp at hj;omega
   simp only[hj];simp[hw];exact hB hk (by constructor<;>simp[hw,ht,ze4])
 ·obtain rfl:k=(l).length:=by simp at h;omega
  simp only[h];simp;have hml:=QT l l;refine CI.cc [64] (O0 (uB l l) (by omega)) ?_;simp;refine CI.cc [64] (SR (uX (uB l l)) (by rw[LH];omega)) ?_;simp;rw[ze3];exact aB (by simp) rfl
theorem Ns (r:aA)(n:Int):Ct prog 388 [st (aK r),.d (.bM [iD n])] [] [] (bool (decide (r.kind=n))) []:=by
 refine Ct.B func388 ?_;simp;exact aB (by simp) rfl
theorem Np (l:List aA)(n:Int)(hl:l.length<=1000000):Ct prog 344 [aC (l.map aK),int n] [] [] (aC ((l.filter fun r=>decide (r.kind=n)).map aK)) []:=by
 refine Ct.BS func344 mixed 1 400 ?_;simp;refine CI.s (tm:=[(0,aC (l.map aK)),(3,.d (.bM [iD n]))]) (mm:=[]) (nx:=65) [] [64] (by constructor<;>simp) ?_;refine CI.n ?_;simp;refine CI.p (ZD l (.fn (.func 388) [] [.bM [iD n]]) (fun r=>decide (r.kind=n)) (fun r hr=>cB.mY (by exact Ns r n) call388 rfl rfl) hl) ?_;simp;exact aB (by simp) rfl
attribute [simp] ntmps271 results271
theorem K6 (l:List aA):Ct prog 271 [aC (l.map aK)] [] [] (int (fF l)) []:=by
 refine Ct.B func271 ?_;simp;refine aJ (fun h0=>?_) (fun h0=>?_)<;>simp only[h0]<;>simp<;>(try simp only[nT,nF,dT,dF]at h0)
 ·have e:fF l=3:=by simp only[fF];rw[aU (by omega)]
  exact aB (by simp[e]) rfl
 have h64:¬64<l.length:=by omega
 have hl:l.length<=64:=by omega
 refine aQ.inv mixed rfl (ι:={k:Nat//k<=(l).length/\(l.take k).all (fun r=>decide (eL r=0))=true}) (fun k=>[(0,aC (l.map aK)),(13,aC (l.map aK)),(14,int l.length),(15,int k.1)]) (fun k=>[]) 64 (fun k=>(l).length-k.1) ⟨0,by omega,by simp⟩ [] (by constructor<;>simp) ?_;rintro⟨k,hk1,hi⟩ B hB;refine CI.n ?_;simp;refine aJ (fun h=>?_) (fun h=>?_)
 ·have hk:k<(l).length:=by simpa using h
  obtain⟨x,hx,hr,hm,ht,hd,hw⟩:=dL hk;simp only[h];simp[hr,hw];refine CI.p (D3 x) ?_;simp;refine aJ (fun h1=>?_) (fun h1=>?_)<;>simp only[h1]<;>simp<;>(try simp only[nT,nF,dT,dF]at h1)
  ·have e:fF l=eL x:=by rw[<-ZA hi hr h1];exact Xq h64 (by rw[ZA hi hr h1];exact h1)
   exact aB (by simp[e]) rfl
  ·refine hB _ ⟨k+1,by omega,by simp[ht,hi,h1]⟩ [] ?_ (by simp;omega);constructor<;>simp[hw,ht,h1]
 ·obtain rfl:k=(l).length:=by simp at h;omega
  simp only[h];simp;rw[fA]at hi;have hf:=Qc hi;clear hi hB;refine aQ.inv mixed rfl (ι:={k:Nat//k<=(l).length/\cW (l.take k)}) (fun k=>[(0,aC (l.map aK)),(25,aC (l.map aK)),(26,int l.length),(27,int k.1)]) (fun k=>[]) 64 (fun k=>(l).length-k.1) ⟨0,by omega,by simp⟩ [] (by constructor<;>simp) ?_;rintro⟨k,hk1,hi⟩ B hB;refine CI.n ?_;simp;refine aJ (fun h=>?_) (fun h=>?_)
  ·have hk:k<(l).length:=by simpa using h
   obtain⟨x,hx,hr,hm,ht,hd,hw⟩:=dL hk;simp only[h];simp[hr,hw];cases k with
   |zero=>
    simp;refine⟨by decide+kernel,?_⟩;refine hB _ ⟨0+1,by omega,by rw[ht];simp[cW,jC]⟩ [] ?_ (by simp;omega);constructor<;>simp[hw]
   |succ m=>
    have hk':m<l.length:=by omega
    have hy:l[m]? =some l[m]:=cI hk';generalize l[m]=y at hy;have w0:IntKind.wrap .i64 (m:Int)=m:=wrap_i64 (by omega) (by omega);have w1:=wrap_i64 (n:=(m:Int)+1+1) (by omega) (by omega);have c0:(0:Int)<(m:Int)+1:=by omega
    have c1:(0:Int)<=(m:Int)+1:=by omega
    have c2:(m:Int)<l.length:=by omega
    simp[c0,w0,c2,hy];have c3:(m:Int)+1<l.length:=by omega
    refine CI.p (oX y) ?_ (ha:=by simp[c1,c3,hr]);simp[c1,c3,hr];refine CI.p (oX x) ?_;simp;refine CI.p (ZV y.key x.key) ?_;simp;refine⟨by decide+kernel,?_⟩;refine aJ (fun h3=>?_) (fun h3=>?_)<;>simp only[h3]<;>simp[hr,hy]<;>(try simp only[nT,nF,dT,dF]at h3)
    ·have e:fF l=2:=Xr h64 hf (fun ha=>by have:=zjZ ha hy hr;omega);exact aB (by simp[e]) rfl
    ·have h4:dY y.key x.key= -1:=by have:=G3 y.key x.key;omega
     refine hB _ ⟨m+1+1,by omega,by rw[ht];exact zjY _ _ hi (fun z hz=>by rw[Ng hy]at hz;cases hz;exact h4)⟩ [] ?_ (by simp;omega);constructor<;>simp[w1]
  ·obtain rfl:k=(l).length:=by simp at h;omega
   simp only[h];simp;rw[fA]at hi;clear hB;refine CI.p (Np l 0 (by omega)) ?_;simp;have hKl:(l.filter fun r=>decide (r.kind=0)).length<=64:=fV (kS _ _) hl;have hports:u7 l=(l.filter fun r=>decide (r.kind=0)).map aA.port:=rfl;generalize(l.filter fun r=>decide (r.kind=0))=K at hKl hports;refine aQ.inv mixed rfl (ι:={k:Nat//k<=(K).length/\((K.take k).map aA.port).Nodup}) (fun k=>[(7,.own 64),(50,aC (K.map aK)),(51,int K.length),(52,int k.1)]) (fun k=>[(64,.map false [.int] false (vF ((K.take k.1).map aA.port)))]) 65 (fun k=>(K).length-k.1) ⟨0,by omega,by simp⟩ [] (by constructor<;>simp[MF]) ?_;rintro⟨k,hk1,hi⟩ B hB;refine CI.n ?_;simp[MF];refine aJ (fun h=>?_) (fun h=>?_)
   ·have hk:k<(K).length:=by simpa using h
    obtain⟨x,hx,hr,hm,ht,hd,hw⟩:=dL hk;simp only[h];simp[hr,hw];by_cases hP:x.port∈(K.take k).map aA.port
    ·have hL:=zc6 hP;rw[DM]at hL;have e:fF l=13:=by
      rw[U7 h64 hf ‹cW l›,aH];rw[hports];intro hn;have hs:=hn.sublist ((List.take_sublist (k+1) K).map aA.port);rw[ht,BV,iU,AB,Kp]at hs;exact hs.2 hP
     simp[hL];exact aB (by simp[e]) rfl
    ·have hL:=zc5 hP;rw[DM]at hL;simp[hL];refine hB _ ⟨k+1,by omega,by rw[ht,BV,iU,AB,Kp];exact⟨hi,hP⟩⟩ [] ?_ (by simp;omega);constructor<;>simp[hw,ht]
   ·obtain rfl:k=(K).length:=by simp at h;omega
    simp only[h];simp;rw[fA]at hi;have e:fF l=0:=by rw[U7 h64 hf ‹cW l›,hports,aU hi]
    exact aB (by simp[e]) rfl
attribute [simp] ntmps71 results71 ntmps36 results36 ntmps52 results52 ntmps418 results418 ntmps407 results407 ntmps406 results406 ntmps376 results376 ntmps309 results309
theorem Sj (n:Int):Ct prog 71 [int n] [] [] (int (nX n)) []:=by
 refine Ct.B func71 ?_;simp;have e:=Sf n;exact aB (by simp[e]) rfl
theorem IQ (n:Int):Ct prog 36 [int n] [] [] (st (jT (iA n))) []:=by
 refine Ct.B func36 ?_;simp;refine CI.p (Sj n) ?_;simp;exact aB (by simp[iA]) rfl
theorem U0 (s:aT):Ct prog 52 [st (jT s)] [] [] (st (jT (gZ s))) []:=by
 refine Ct.B func52 ?_;simp;refine CI.p (Sj s.cap) ?_;simp;refine aJ (fun h1=>?_) (fun h1=>?_)<;>simp only[h1]<;>simp<;>(try simp only[nT,nF,dT,dF]at h1)
 ·have h0:s.bV=[]:=by first|exact h1|exact jL (by omega)
  refine CI.p (IQ (nX s.cap)) ?_;simp;rw[Xe h0];exact aB (by simp[iA,Z1]) rfl
 ·have h0:¬s.bV=[]:=by first|exact h1|exact fun e=>h1 (by rw[e];rfl)
  rw[UZ h0];exact aB (by simp) rfl
theorem zjx (s:aT)(i:Int):Ct prog 418 [st (jT s),int i] [] [] (atA s i) []:=by
 refine Ct.B func418 ?_;simp;refine CI.p (U0 s) ?_;simp;refine bX (fun h1=>?_) (fun h1=>?_)<;>simp only[h1]<;>simp<;>(try simp only[nT,nF,dT,dF]at h1)
 ·have e:=zjy (s:=s) h1;exact aB (by simp[e]) rfl
 refine aJ (fun h2=>?_) (fun h2=>?_)<;>simp only[h2]<;>simp<;>(try simp only[nT,nF,dT,dF]at h2)
 ·have e:=zjA (s:=s) (i:=i) (by omega);exact aB (by simp[e]) rfl
 ·obtain⟨l,⟨hh,e3⟩,e1,e⟩:=zjz (s:=s) h1 (by omega);have c1:0<=i:=by omega
  have c2:i<(gZ s).bV.length:=by omega
  simp[e1,c1,c2,e3];first|exact aB (by simp[e]) rfl|exact cK (by simp[e])
theorem zhg (s:aT)(k_:Key)(v:Int)(hs:DA s):Ct prog 407 [st (jT s),st (bP k_),int v] [] [] (zhj s k_ v) []:=by
 refine Ct.B func407 ?_;simp;refine CI.p (zjx s v) ?_;simp;refine CI.p (R3 ((qS s v).getD []) k_ (zec hs v).len) ?_;simp;cases hg:aS ((qS s v).getD []) k_ with
 |none=>
  have e:=zhi hg;simp;exact aB (by simp[e,jE]) rfl
 |some r=>
  have e:=zhh hg;simp;refine aJ (fun h1=>?_) (fun h1=>?_)<;>simp only[h1]<;>simp<;>(try simp only[nT,nF,dT,dF]at h1)
  ·rw[aU h1]at e;exact aB (by simp[e]) rfl
  ·rw[aH h1]at e;exact aB (by simp[e,jE]) rfl
theorem zhk (s:aT)(m:G.Mark)(hs:DA s):Ct prog 406 [st (nU m),.d (.bM (jT s))] [] [] (st (aK (ofM s m))) []:=by
 refine Ct.B func406 ?_;simp;refine CI.p (zhg s m.k m.cS hs) ?_;simp;cases hg:wU s m.k m.cS with
 |none=>
  have e:ofM s m=C4 m:=by simp[ofM,hg]
  simp;exact aB (by simp[e,C4]) rfl
 |some r=>
  have e:ofM s m=r:=by simp[ofM,hg]
  simp;exact aB (by simp[e]) rfl
theorem zhf (s:aT):Ct prog 376 [st (jT s)] [] [] (.d (.fn (.func 406) [] [.bM (jT s)])) []:=by
 refine Ct.B func376 ?_;simp;exact aB (by simp) rfl
theorem zfQ (s:aT)(l:List G.Mark)(hs:DA s)(hl:l.length<=1000):Ct prog 309 [st (jT s),aC (l.map nU)] [] [] (aC ((qL s l).map aK)) []:=by
 refine Ct.B func309 ?_;simp;refine CI.p (zhf s) ?_;simp;refine aQ.V (l) (fun k=>[(5,.d (.fn (.func 406) [] [.bM (jT s)])),(6,aC ((qL s (l.take k.1)).map aK)),(11,aC (l.map nU)),(12,int l.length),(13,int k.1)]) (fun k=>[]) 64 (fun k hk1 B hB=>?_) (h0:=by constructor<;>simp[Nl]);simp[Nl];refine aJ (fun h=>?_) (fun h=>?_)
 ·have hk:k<(l).length:=by simpa using h
  obtain⟨x,hx,hr,hm,ht,hd,hw⟩:=dL hk;simp only[h];simp[hr,hw];have hlen:=X8 s (l.take k);have htk:(l.take k).length<=1000:=by simp;omega
  refine CI.ff (cB.mY (args:=[st (nU x)]) (by exact zhk s x hs) call406 rfl rfl) rfl rfl rfl ?_;simp;refine CI.p (Bi (qL s (l.take k)) (ofM s x) (by omega)) ?_;simp;exact hB hk (by constructor<;>simp[hw,ht,zfP])
 ·obtain rfl:k=(l).length:=by simp at h;omega
  simp only[h];simp;exact aB (by simp) rfl
end Go.Proofs.YtegplpagkajolaaGreatDoor
