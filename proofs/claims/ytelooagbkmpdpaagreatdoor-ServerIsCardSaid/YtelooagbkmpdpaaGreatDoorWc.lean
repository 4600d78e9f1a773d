/-
  LAYERS 3 to 14, walked (2)
-/
import Derived.Test.YtelooagbkmpdpaaGreatDoorWb
set_option linter.unusedSimpArgs false
set_option linter.unusedVariables false
set_option maxRecDepth 100000
set_option maxHeartbeats 8000000
namespace Go.Proofs.YtelooagbkmpdpaaGreatDoor
open Go.AI Go.G
attribute [simp] Tryz.ntmps212 Tryz.results212
theorem FV (l:List Key)(hl:l.length<=1000000):Ct Tryz.prog 212 [.own 0] [] [(0,.grow 2 (l.map aK) 86)] (aD ((iO l).map aK)) []:=by
 refine Ct.B Tryz.func212 ?_;simp;refine aE (λh0=>?_) (λh0=>?_)<;>simp only[h0]<;>simp<;>(try simp only[nT,nF,dT,dF]at h0)
 ·have e:iO l=l:=Cr h0;first| (refine⟨[],?_,?_,?_,?_,?_,?_,?_⟩<;>simp[bF,bI,e];done)| (refine⟨by decide+kernel,?_⟩;refine⟨[],?_,?_,?_,?_,?_,?_,?_⟩<;>simp[bF,bI,e])
 refine aJ.inv mixed rfl (ι:={k:Nat//k+1<=l.length/\iO (l.take (k+1))=l.take (k+1)}) (λk=>[(0,.own 0),(3,int ((k.1:Int)+1))]) (λk=>[(0,.grow 2 (l.map aK) 86)]) 64 (λk=>l.length-k.1) ⟨0,by omega,Cs l⟩ [] (by constructor<;>simp) ?_;rintro⟨m,hk1,hi⟩ B hB;refine CI.n ?_;simp;refine aE (λh=>?_) (λh=>?_)<;>simp only[h]<;>simp<;>(try simp only[nT,nF,dT,dF]at h)
 ·have hk:m+1<l.length:=by omega
  have hk':m<l.length:=by omega
  have hv:l[m+1]? =some l[m+1]:=bL hk;have hq:l[m]? =some l[m]:=bL hk';have w0:IntKind.wrap .i64 (m:Int)=m:=wrap_i64 (by omega) (by omega);have w1:IntKind.wrap .i64 ((m:Int)+1+1)=(m:Int)+1+1:=wrap_i64 (by omega) (by omega);have c1:(0:Int)<=(m:Int)+1:=by omega
  have c2:(m:Int)<l.length:=by omega
  generalize hvu:l[m+1]=u at hv;generalize hqu:l[m]=q0 at hq;have hs:=BM (by omega) (show l[m+1-1]? =_ from hq) hv;simp[h,hvu,hqu,c1,c2,hv,hq,w0];rw[q9];refine⟨by decide+kernel,?_⟩;refine aE (λh2=>?_) (λh2=>?_)<;>simp only[h2]<;>simp[hv,hq]<;>(try simp only[nT,nF,dT,dF]at h2)
  ·refine⟨by omega,?_⟩;rw[h2]at hv;have d0:lE l (m+2+0) (m+1) l:=lE.start (by omega) hi hq hv;clear hv hq hs w0 w1 c1 c2 hi hB;refine aJ.inv mixed rfl (ι:={q:Nat×Nat×List Key//lE l (m+2+q.1) q.2.1 q.2.2}) (λk=>[(0,.own 0),(3,int k.1.2.1),(4,.sl 0 2 (m+1) (l.length-(m+1))),(5,int ((k.1.1:Int)+1))]) (λk=>[(0,.grow 2 (k.1.2.2.map aK) 86)]) 64 (λk=>l.length-k.1.1) ⟨(0,m+1,l),d0⟩ [] (by constructor<;>simp) ?_;rintro⟨⟨d,i,cur⟩,hd⟩ B hB;have hlen:=hd.len;have hlt:=hd.lt;have hle:=hd.le;simp only at hlen hlt hle;have w1:IntKind.wrap .i64 ((d:Int)+1+1)=d+1+1:=wrap_i64 (by omega) (by omega);have w2:IntKind.wrap .i64 ((i:Int)+1)=i+1:=wrap_i64 (by omega) (by omega);have w0:IntKind.wrap .i64 (d:Int)=d:=wrap_i64 (by omega) (by omega);refine CI.n ?_;simp[hlen];refine aE (λh3=>?_) (λh3=>?_)<;>simp only[h3]<;>simp<;>(try simp only[nT,nF,dT,dF]at h3)
   ·have hj:m+1+(d+1)<l.length:=by omega
    have hj':m+1+d<l.length:=by omega
    have hv:l[m+2+d]? =some l[m+1+(d+1)]:=by rw[<-bL hj];congr 1;omega
    have hq:l[m+2+d-1]? =some l[m+1+d]:=by rw[<-bL hj'];congr 1;omega
    generalize l[m+1+(d+1)]=v at hv;generalize l[m+1+d]=q at hq;have hg:cur[m+1+(d+1)]? =some v:=by have:=hd.get hv;rwa[show m+2+d=m+1+(d+1) by omega]at this
    have hg':cur[m+1+d]? =some q:=by have:=hd.get' hq;rwa[show m+2+d-1=m+1+d by omega]at this
    have c1:(0:Int)<=(d:Int)+1:=by omega
    have c2:(d:Int)<((l.length-(m+1):Nat):Int):=by omega
    simp[h3,c1,c2,w0,hg,hg'];rw[EP];refine⟨by decide+kernel,?_⟩;have hic:i<cur.length:=by omega
    refine aE (λh4=>?_) (λh4=>?_)<;>simp only[h4]<;>simp[h3,c1,c2,hg,hg',hic]<;>(try simp only[nT,nF,dT,dF]at h4)
    ·refine hB _ ⟨(d+1,i+1,cur.set i v),by exact hd.jW hv hq (λe=>h4 e.symm)⟩ [] ?_ (by simp;omega);constructor<;>simp[w1,w2,List.map_set]
    ·rw[<-h4]at hq;refine hB _ ⟨(d+1,i,cur),by exact hd.same hv hq⟩ [] ?_ (by simp;omega);constructor<;>simp[w1]
   ·have hj:m+2+d=l.length:=by omega
    simp only at hd;rw[hj]at hd;have e:cur.take i=iO l:=hd.done;have e2:List.take i (List.map aK cur)=List.map aK (iO l):=by rw[<-sL,e]
    have e3:(iO l).length=i:=by rw[<-e,sN];omega
    refine⟨by omega,by omega,by omega,?_⟩;rw[e2];first| (refine⟨[],?_,?_,?_,?_,?_,?_,?_⟩<;>simp[bF,bI,e3,yG,show i<=i+(l.length-i+(l.length-(i+(l.length-i))))from by omega];done)| (refine⟨by decide+kernel,?_⟩;refine⟨[],?_,?_,?_,?_,?_,?_,?_⟩<;>simp[bF,bI,e3,yG,show i<=i+(l.length-i+(l.length-(i+(l.length-i))))from by omega])
  ·rw[aR (λe=>h2 e.symm)]at hs;refine hB _ ⟨m+1,by omega,by rw[hs,hi,eW (i:=m+1),hv];rfl⟩ [] ?_ (by simp;omega);constructor<;>simp[w1]
 ·have e:iO l=l:=by
   have hl2:m+1=l.length:=by omega
   rw[hl2,bK]at hi;exact hi
  first| (refine⟨[],?_,?_,?_,?_,?_,?_,?_⟩<;>simp[bF,bI,e];done)| (refine⟨by decide+kernel,?_⟩;refine⟨[],?_,?_,?_,?_,?_,?_,?_⟩<;>simp[bF,bI,e])
open Go.Sort Go.Proofs Go.RowKit Go.Shelf
def AS (k:Key):List Value:=[.int .i64 k.kind,.string k.name]
instance keyInh :Inhabited Key:=⟨⟨0,.empty⟩⟩
theorem C9 (l:List Key)(hl:l.length<4611686018427387904):Ct Tryz.prog 211 [.own 0,.d (jY 207)] [] [(0,.grow 2 (l.map aK) 86)] (.d (.v (.tuple #[]))) [(0,.grow 2 ((nA l).map aK) 86)]:=
 Ct.sort (enc:=AS) (k:=2) (cf:=bR) (sortL:=nA) (by decide) (λ_=>rfl) (λx v hv=>by simp[AS]at hv;rcases hv with rfl|rfl<;>rfl) y6
  (λp cap fv w=>AnyF.slices_SortFunc_none {Tryz.HI with} p cap fv w)
  (λaS off cap d w hc hH hb hs=>AnyQ.slices_SortFunc_total Tryz.HI 2 (λw=>by kernel_rfl) (λw=>by kernel_rfl) AS (λ_=>rfl) (λx v hv=>by simp[AS]at hv;rcases hv with rfl|rfl<;>rfl) bR yW 207 #[] aS off cap d w Tryz.call207 hc hH hb hs (λx y h1 h2=>XX h1 h2))
  (λa b=>FX a b) hl
end Go.Proofs.YtelooagbkmpdpaaGreatDoor
namespace Go.Proofs.YtelooagbkmpdpaaGreatDoor
open Go.AI Go.G
attribute [simp] Tryz.ntmps210 Tryz.results210
theorem uZ (r:aC):Ct Tryz.prog 210 [st (aF r)] [] [] (aD ((bJ r).map aK)) []:=by
 refine Ct.B Tryz.func210 ?_;simp;refine CI.p (DB r) ?_;simp;refine aE (λh1=>?_) (λh1=>?_)<;>simp only[h1]<;>simp<;>(try simp only[nT,nF,dT,dF]at h1)
 ·first|exact aA (by simp[bJ,h1]) rfl|exact aB (by simp[bJ,h1])
 obtain⟨hk0,hn,hs,hsh,hnm,hsg⟩:=sX h1;have hk:=nU.1 hk0;have hb:=wI hs;have hwk:IntKind.wrap .i64 (r.kind+1)=r.kind+1:=wrap_i64 (by omega) (by omega);refine aE (λh2=>?_) (λh2=>?_)<;>simp only[h2]<;>simp<;>(try simp only[nT,nF,dT,dF]at h2)
 ·have hto:¬bs r.to=[]:=λe=>h2 (xW e);have hr0:=QC hsh hto;have h0:lX r 0=[⟨r.kind+1,r.to⟩]:=by rw[JQ,aR hto]
  have e:=JR h1;rw[hr0]at e;simp only[j6,h0]at e;simp[hr0,hwk];refine aJ.un ?_;simp;refine CI.cc [1152] (C9 [⟨r.kind+1,r.to⟩] (by simp)) ?_;simp;refine CI.cc [1152] (FV (nA [⟨r.kind+1,r.to⟩]) (by rw[y6];simp)) ?_;simp;rw[e];first|exact aA (by simp) rfl|exact aB (by simp)
 ·have hto:bs r.to=[]:=by
   have:r.to=⟨#[]⟩:=by simpa using h2
   rw[this];rfl
  have h0:lX r 0=[]:=by rw[JQ,bA hto]
  refine aJ.gK 3 2 86 rfl ?_;refine aJ.V (r.rules) (λk=>[(1,.ptr 64 0),(3,.own 65),(24,aD (r.rules.map dZ)),(25,int r.rules.length),(26,int k.1)]) (λk=>[(64,.cells ((aF r).map .d) 82),(65,.grow 2 ((lX r k.1).map aK) 86)]) 66 (λk hk1 B hB=>?_) (h0:=by constructor<;>simp[h0]);simp[h0];refine aE (λh=>?_) (λh=>?_)
  ·have hk:k<(r.rules).length:=by simpa using h
   obtain⟨x,hx,hr,hm,ht,hd,hw⟩:=bB hk;simp only[h];simp[hr,hw];have h7:=hb.2.2 x hm;refine aJ.V (x.split) (λkj=>[(1,.ptr 64 0),(3,.own 65),(24,aD (r.rules.map dZ)),(25,int r.rules.length),(26,int k),(31,aD (x.split.map wC)),(32,int x.split.length),(33,int kj.1)]) (λkj=>[(64,.cells ((aF r).map .d) 82),(65,.grow 2 ((lX r k++((x.split.take kj.1).filter λw=>decide (0<w.w)).map toKey).map aK) 86)]) 66 (λkj hk1j Bj hBj=>?_) (h0:=by constructor<;>simp[hr]);simp[hr];refine aE (λhj=>?_) (λhj=>?_)
   ·have hkj:kj<(x.split).length:=by simpa using hj
    obtain⟨w,hxj,hrj,hmj,htj,hdj,hwj⟩:=bB hkj;simp only[hj];simp[hrj,hwj,hr];have hlen:=JS k hb.1 hb.2.2;have h8:((x.split.take kj).filter λw=>decide (0<w.w)).length<=4:=cD (eE _ _) (cD (by simp;omega) h7);refine aE (λh4=>?_) (λh4=>?_)<;>simp only[h4]<;>simp[hr,hrj]<;>(try simp only[nT,nF,dT,dF]at h4)
    ·refine⟨by omega,?_⟩;exact hBj hkj (by constructor<;>simp[hwj,htj,jM,h4,hwj])
    ·exact hBj hkj (by constructor<;>simp[hwj,htj,jM,h4,hwj])
   ·obtain rfl:kj=(x.split).length:=by simp at hj;omega
    simp only[hj];simp[hw];exact hB hk (by constructor<;>simp[hw,ht,U8 ht,sM])
  ·obtain rfl:k=(r.rules).length:=by simp at h;omega
   simp only[h];simp;have hlen:=JS r.rules.length hb.1 hb.2.2;refine CI.cc [65] (C9 (lX r r.rules.length) (by omega)) ?_;simp;refine CI.cc [65] (FV (nA (lX r r.rules.length)) (by rw[y6];omega)) ?_;simp;rw[JR h1];first|exact aA (by simp) rfl|exact aB (by simp)
attribute [simp] Tryz.ntmps196 Tryz.results196
theorem TY (l:List aC)(k_:Key)(hl:l.length<=1000000):Ct Tryz.prog 196 [aD (l.map aF),st (aK k_)] [] [] (aD ((qO l k_).map aK)) []:=by
 refine Ct.B Tryz.func196 ?_;simp;refine aJ.gK 5 2 86 rfl ?_;refine aJ.V (l) (λk=>[(3,.ptr 64 0),(5,.own 65),(8,aD (l.map aF)),(9,int l.length),(10,int k.1)]) (λk=>[(64,.cells ((aK k_).map .d) 86),(65,.grow 2 ((qO (l.take k.1) k_).map aK) 86)]) 66 (λk hk1 B hB=>?_);simp;refine aE (λh=>?_) (λh=>?_)
 ·have hk:k<(l).length:=by simpa using h
  obtain⟨x,hx,hr,hm,ht,hd,hw⟩:=bB hk;simp only[h];simp[hr,hw];have hlen:((l.take k).filter λr=>decide (k_∈bJ r)).length<=1000000:=cD (eE _ _) (by simp;omega);refine CI.p (uZ x) ?_;simp;refine CI.p (L8 (bJ x) k_ (IQ x)) ?_;simp;refine⟨by decide+kernel,?_⟩;refine aE (λh1=>?_) (λh1=>?_)<;>simp only[h1]<;>simp[hr]<;>(try simp only[nT,nF,dT,dF]at h1)
  ·refine CI.p (fW x) ?_;simp;refine⟨by omega,?_⟩;exact hB hk (by constructor<;>simp[hw,ht,jM,h1])
  ·exact hB hk (by constructor<;>simp[hw,ht,jM,h1])
 ·obtain rfl:k=(l).length:=by simp at h;omega
  simp only[h];simp;first|exact aA (by simp) rfl|exact aB (by simp)
attribute [simp] Tryz.ntmps43 Tryz.results43
theorem HP (v:View)(f:G.Frame):Ct Tryz.prog 43 [st (iH v),st (bU f)] [] [] (st (iH (lU v f))) []:=by
 refine Ct.B Tryz.func43 ?_;simp;first|exact aA (by simp[lU]) rfl|exact aB (by simp[lU])
attribute [simp] Tryz.ntmps176 Tryz.results176
theorem J9 (f:G.Frame):Ct Tryz.prog 176 [st (bU f)] [] [] (.agg [int f.cA,int f.kind,int f.eY]) []:=by
 refine Ct.B Tryz.func176 ?_;simp;first|exact aA (by simp) rfl|exact aB (by simp)
attribute [simp] Tryz.ntmps130 Tryz.results130
theorem FQ (v:View)(t:Int)(h:List Key):Ct Tryz.prog 130 [st (iH v),int t,aD (h.map aK)] [] [] (st (iH (gT v t h))) []:=by
 refine Ct.B Tryz.func130 ?_;simp;refine aE (λh1=>?_) (λh1=>?_)<;>simp only[h1]<;>simp<;>(try simp only[nT,nF,dT,dF]at h1)
 ·first|exact aA (by simp[gT,h1]) rfl|exact aB (by simp[gT,h1])
 ·first|exact aA (by simp[gT,h1]) rfl|exact aB (by simp[gT,h1])
attribute [simp] Tryz.ntmps129 Tryz.results129
theorem Fy (v:View)(f:G.Frame)(hl:v.aI.length+v.push.aL.length<=1000000)(hg:v.push.gone.length<=9223372036854775807):Ct Tryz.prog 129 [st (iH v),st (bU f)] [] [] (.bC [st (iH (dG v f)),int (gE v f)]) []:=by
 refine Ct.B Tryz.func129 ?_;simp;refine aE (λh1=>?_) (λh1=>?_)<;>simp only[h1]<;>simp
 ·have h1':v.open_=false:=by simpa using h1
  first|exact aA (by simp[dG,gE,h1']) rfl|exact aB (by simp[dG,gE,h1'])
 have h1':v.open_=true:=by simpa using h1
 refine aM (λh2=>?_) (λh2=>?_)<;>simp only[h2]<;>simp<;>(try simp only[nT,nF,dT,dF]at h2)
 ·refine⟨by decide+kernel,?_⟩;first|exact aA (by simp[dG,gE,iN,h1',h2]) rfl|exact aB (by simp[dG,gE,iN,h1',h2])
 refine CI.p (J9 f) ?_;simp;refine CI.p (J9 v.push) ?_;simp;refine⟨by decide+kernel,?_⟩;rw[Ae h2];refine aE (λh3=>?_) (λh3=>?_)<;>simp only[h3]<;>simp
 ·have h3':iN v f=false:=by simpa using h3
  first|exact aA (by simp[dG,gE,h1',h3']) rfl|exact aB (by simp[dG,gE,h1',h3'])
 have h3':iN v f=true:=by simpa using h3
 rw[OO h1' h3'];refine aE (λh4=>?_) (λh4=>?_)<;>simp only[h4]<;>simp<;>(try simp only[nT,nF,dT,dF]at h4)
 ·refine CI.p (JJ v.aI v.push.aL v.push.gone hl hg) ?_;simp;refine CI.p (FQ ⟨jQ v.aI v.push.aL v.push.gone,v.held,v.cK,cV,false⟩ f.cK f.held) ?_ (ha:=by simp[cV]);simp[cV];refine⟨by decide+kernel,?_⟩;first|exact aA (by simp[gE,h1',h3',h4,cV]) rfl|exact aB (by simp[gE,h1',h3',h4,cV])
 ·refine CI.p (FQ ⟨v.aI,v.held,v.cK,cV,false⟩ f.cK f.held) ?_ (ha:=by simp[cV]);simp[cV];refine⟨by decide+kernel,?_⟩;first|exact aA (by simp[gE,h1',h3',h4,cV]) rfl|exact aB (by simp[gE,h1',h3',h4,cV])
attribute [simp] Tryz.ntmps105 Tryz.results105
theorem XU (l:List aC)(hl:l.length<=1000000):Ct Tryz.prog 105 [aD (l.map aF)] [] [] (aD ((nE l).map eN)) []:=by
 refine Ct.B Tryz.func105 ?_;simp;refine aJ.gK 3 3 93 rfl ?_;refine aJ.V (l) (λk=>[(3,.own 64),(6,aD (l.map aF)),(7,int l.length),(8,int k.1)]) (λk=>[(64,.grow 3 ((nE (l.take k.1)).map eN) 93)]) 65 (λk hk1 B hB=>?_);simp;refine aE (λh=>?_) (λh=>?_)
 ·have hk:k<(l).length:=by simpa using h
  obtain⟨x,hx,hr,hm,ht,hd,hw⟩:=bB hk;simp only[h];simp[hr,hw];refine CI.p (fW x) ?_;simp;refine⟨by omega,?_⟩;refine⟨by decide+kernel,?_⟩;exact hB hk (by constructor<;>simp[hw,ht,K0])
 ·obtain rfl:k=(l).length:=by simp at h;omega
  simp only[h];simp;first|exact aA (by simp) rfl|exact aB (by simp)
open Go.ChangeShapes Go.WideShapes Go.ChangeAt Go.RowKit
theorem U7 :ownKnob Tryz.prog.godebug=none:=by kernel_rfl
theorem YH :laidOutB Tryz.prog=true:=by kernel_rfl
theorem iY :dL Tryz.prog 3=.int .i64:=by kernel_rfl
theorem uT :dL Tryz.prog 4=.bool:=by kernel_rfl
theorem uS :dL Tryz.prog 9=.str:=by kernel_rfl
theorem HL :dL Tryz.prog 28=.int .i64:=by kernel_rfl
theorem R3 :dL Tryz.prog 80=.sl 3:=by kernel_rfl
theorem R2 :dL Tryz.prog 86=.st [3,9]:=by kernel_rfl
theorem R1 :dL Tryz.prog 27=.sl 86:=by kernel_rfl
theorem RP :dL Tryz.prog 239=.st [9,3]:=by kernel_rfl
theorem RO :dL Tryz.prog 186=.sl 239:=by kernel_rfl
theorem RU :dL Tryz.prog 188=.st [9,9,186]:=by kernel_rfl
theorem RT :dL Tryz.prog 79=.sl 188:=by kernel_rfl
theorem RX :dL Tryz.prog 82=.st [3,9,3,3,9,79,80]:=by kernel_rfl
theorem RW :dL Tryz.prog 26=.sl 82:=by kernel_rfl
variable {n : Nat} {ds : List D}
theorem AU {s:ByteArray}(h:s.size<=maxLen):nB s:=by
 have:=iX s;have e:maxLen=9223372036854775807:=rfl;unfold G.nB;omega
theorem tF {α:Type}{l:List α}{f:α->List D}(h:(l.map f).length<=maxLen):l.length<=9223372036854775807:=by
 have e:maxLen=9223372036854775807:=rfl;rw[vW]at h;omega
theorem LU (h:Is Tryz.prog (n+2) 86 ds):∃k:Key,nB k.name/\ds=aK k:=by
 obtain⟨_,_,h1,g1,rfl⟩:=dN (pT R2 h);obtain⟨_,_,h2,g2,rfl⟩:=dN g1;obtain rfl:=pU g2;obtain⟨a,_,rfl⟩:=iA iY h1;obtain⟨b,hb,rfl⟩:=u9 uS h2;exact⟨⟨a,b⟩,AU hb,rfl⟩
theorem YR (h:Is Tryz.prog (n+2) 239 ds):∃k:Weight,nB k.jF/\ds=wC k:=by
 obtain⟨_,_,h1,g1,rfl⟩:=dN (pT RP h);obtain⟨_,_,h2,g2,rfl⟩:=dN g1;obtain rfl:=pU g2;obtain⟨a,ha,rfl⟩:=u9 uS h1;obtain⟨b,_,rfl⟩:=iA iY h2;exact⟨⟨a,b⟩,AU ha,rfl⟩
theorem YV (h:Is Tryz.prog (n+4) 188 ds):∃x:gF,x.split.length<=9223372036854775807/\ds=dZ x:=by
 obtain⟨_,_,h1,g1,rfl⟩:=dN (pT RU h);obtain⟨_,_,h2,g2,rfl⟩:=dN g1;obtain⟨_,_,h3,g3,rfl⟩:=dN g2;obtain rfl:=pU g3;obtain⟨a,ha,rfl⟩:=u9 uS h1;obtain⟨b,hb,rfl⟩:=u9 uS h2;obtain⟨es,he,h4,rfl⟩:=tE RO h3;obtain⟨l,_,rfl⟩:=r6 (λc=>YR) h4;exact⟨⟨a,b,l⟩,tF he,rfl⟩
theorem Y0 (h:Is Tryz.prog (n+1) 3 ds):∃x:Int,True/\ds=kR x:=by
 obtain⟨a,_,rfl⟩:=iA iY h;exact⟨a,trivial,rfl⟩
theorem YW (h:Is Tryz.prog (n+6) 82 ds):∃r:aC,qB r/\ds=aF r:=by
 obtain⟨_,_,h1,g1,rfl⟩:=dN (pT RX h);obtain⟨_,_,h2,g2,rfl⟩:=dN g1;obtain⟨_,_,h3,g3,rfl⟩:=dN g2;obtain⟨_,_,h4,g4,rfl⟩:=dN g3;obtain⟨_,_,h5,g5,rfl⟩:=dN g4;obtain⟨_,_,h6,g6,rfl⟩:=dN g5;obtain⟨_,_,h7,g7,rfl⟩:=dN g6;obtain rfl:=pU g7;obtain⟨a,_,rfl⟩:=iA iY h1;obtain⟨b,hb,rfl⟩:=u9 uS h2;obtain⟨c,_,rfl⟩:=iA iY h3;obtain⟨d,_,rfl⟩:=iA iY h4;obtain⟨e,he,rfl⟩:=u9 uS h5;obtain⟨es,hes,h8,rfl⟩:=tE RT h6;obtain⟨l,hl,rfl⟩:=r6 (λc=>YV) h8;obtain⟨fs,hfs,h9,rfl⟩:=tE R3 h7;obtain⟨m,_,rfl⟩:=r6 (λc=>Y0) h9;exact⟨⟨a,b,c,d,e,l,m⟩,⟨AU hb,AU he,tF hes,hl,tF hfs⟩,rfl⟩
theorem ET (h:Is Tryz.prog (n+7) 26 ds):∃l:List aC,gG l/\ds=[lD (l.map aF)]:=by
 obtain⟨es,he,h1,rfl⟩:=tE RW h;obtain⟨l,hl,rfl⟩:=r6 (λc=>YW) h1;exact⟨l,⟨tF he,hl⟩,rfl⟩
theorem EV (h:Is Tryz.prog (n+3) 27 ds):∃l:List Key,(l.length<=9223372036854775807/\∀k∈l,nB k.name)/\ds=[lD (l.map aK)]:=by
 obtain⟨es,he,h1,rfl⟩:=tE R1 h;obtain⟨l,hl,rfl⟩:=r6 (λc=>LU) h1;exact⟨l,⟨tF he,hl⟩,rfl⟩
end Go.Proofs.YtelooagbkmpdpaaGreatDoor
namespace Go.Proofs.YtelooagbkmpdpaaGreatDoor
open Go.ChangeShapes Go.WideShapes Go.ChangeAt Go.RowKit Go.AI Go.G
theorem R0 :dL Tryz.prog 88=.st [86,3]:=by kernel_rfl
theorem RZ :dL Tryz.prog 29=.sl 88:=by kernel_rfl
theorem R6 :dL Tryz.prog 31=.st [3,3,3,3,3,26,27,28,29,27]:=by kernel_rfl
theorem RQ :dL Tryz.prog 33=.st [26,27,3,31,4]:=by kernel_rfl
variable {n : Nat} {ds : List D}
theorem YZ (h:Is Tryz.prog (n+3) 88 ds):∃m:G.Mark,nB m.k.name/\ds=eN m:=by
 obtain⟨_,_,h1,g1,rfl⟩:=dN (pT R0 h);obtain⟨_,_,h2,g2,rfl⟩:=dN g1;obtain rfl:=pU g2;obtain⟨k,hk,rfl⟩:=LU h1;obtain⟨a,_,rfl⟩:=iA iY h2;exact⟨⟨k,a⟩,hk,rfl⟩
theorem YY (h:Is Tryz.prog (n+4) 29 ds):∃l:List G.Mark,(l.length<=9223372036854775807/\∀m∈l,nB m.k.name)/\ds=[lD (l.map eN)]:=by
 obtain⟨es,he,h1,rfl⟩:=tE RZ h;obtain⟨l,hl,rfl⟩:=r6 (λc=>YZ) h1;exact⟨l,⟨tF he,hl⟩,rfl⟩
theorem LV (h:Is Tryz.prog (n+8) 31 ds):∃f:G.Frame,eD f/\ds=bU f:=by
 obtain⟨_,_,h1,g1,rfl⟩:=dN (pT R6 h);obtain⟨_,_,h2,g2,rfl⟩:=dN g1;obtain⟨_,_,h3,g3,rfl⟩:=dN g2;obtain⟨_,_,h4,g4,rfl⟩:=dN g3;obtain⟨_,_,h5,g5,rfl⟩:=dN g4;obtain⟨_,_,h6,g6,rfl⟩:=dN g5;obtain⟨_,_,h7,g7,rfl⟩:=dN g6;obtain⟨_,_,h8,g8,rfl⟩:=dN g7;obtain⟨_,_,h9,g9,rfl⟩:=dN g8;obtain⟨_,_,h10,g10,rfl⟩:=dN g9;obtain rfl:=pU g10;obtain⟨a,_,rfl⟩:=iA iY h1;obtain⟨b,_,rfl⟩:=iA iY h2;obtain⟨c,_,rfl⟩:=iA iY h3;obtain⟨d,_,rfl⟩:=iA iY h4;obtain⟨e,_,rfl⟩:=iA iY h5;obtain⟨l,hl,rfl⟩:=ET h6;obtain⟨g,⟨hg,_⟩,rfl⟩:=EV h7;obtain⟨er,_,rfl⟩:=iA HL h8;obtain⟨m,⟨hm,_⟩,rfl⟩:=YY h9;obtain⟨q,⟨hq,_⟩,rfl⟩:=EV h10;exact⟨⟨a,b,c,d,e,l,g,er,m,q⟩,⟨hl,hg,hm,hq⟩,rfl⟩
theorem YS (h:Is Tryz.prog (n+9) 33 ds):∃v:View,yD v/\ds=iH v:=by
 obtain⟨_,_,h1,g1,rfl⟩:=dN (pT RQ h);obtain⟨_,_,h2,g2,rfl⟩:=dN g1;obtain⟨_,_,h3,g3,rfl⟩:=dN g2;obtain⟨_,_,h4,g4,rfl⟩:=dN g3;obtain⟨_,_,h5,g5,rfl⟩:=dN g4;obtain rfl:=pU g5;obtain⟨l,hl,rfl⟩:=ET h1;obtain⟨q,⟨hq,_⟩,rfl⟩:=EV h2;obtain⟨t,_,rfl⟩:=iA iY h3;obtain⟨f,hf,rfl⟩:=LV h4;obtain⟨o,rfl⟩:=vB uT h5;exact⟨⟨l,q,t,f,o⟩,⟨hl,hq,hf⟩,rfl⟩
theorem Gi :vL Tryz.prog 31=true:=by kernel_rfl
end Go.Proofs.YtelooagbkmpdpaaGreatDoor
namespace Go.Proofs.YtelooagbkmpdpaaGreatDoor
open Go.ChangeShapes Go.WideShapes Go.ChangeAt Go.RowKit Go.AI Go.G
theorem R5 :dL Tryz.prog 36=.sl 26:=by kernel_rfl
theorem RR :dL Tryz.prog 38=.st [3,36]:=by kernel_rfl
variable {n : Nat} {ds : List D}
theorem Y2 (h:Is Tryz.prog (n+8) 36 ds):∃l:List (List aC),(l.length<=9223372036854775807/\∀x∈l,gG x)/\ds=[lD (l.map zB)]:=by
 obtain⟨es,he,h1,rfl⟩:=tE R5 h;obtain⟨l,hl,rfl⟩:=r6 (λc=>ET) h1;exact⟨l,⟨tF he,hl⟩,rfl⟩
theorem YT (h:Is Tryz.prog (n+9) 38 ds):∃s:aZ,iS s/\ds=dI s:=by
 obtain⟨_,_,h1,g1,rfl⟩:=dN (pT RR h);obtain⟨_,_,h2,g2,rfl⟩:=dN g1;obtain rfl:=pU g2;obtain⟨a,_,rfl⟩:=iA iY h1;obtain⟨l,⟨h3,h4⟩,rfl⟩:=Y2 h2;exact⟨⟨a,l⟩,⟨h3,h4⟩,rfl⟩
theorem Gg :vL Tryz.prog 38=true:=by kernel_rfl
end Go.Proofs.YtelooagbkmpdpaaGreatDoor
namespace Go.Proofs.YtelooagbkmpdpaaGreatDoor
open Go.AI Go.G
attribute [simp] Tryz.ntmps209 Tryz.results209
theorem zP (l:List aC)(hl:l.length<=1000000):Ct Tryz.prog 209 [aD (l.map aF)] [] [] (.d (.mp true [.int,.str] false (gB (l.map aC.key)))) []:=by
 refine Ct.B Tryz.func209 ?_;simp;refine aJ.V (l) (λk=>[(3,.own 64),(7,aD (l.map aF)),(8,int l.length),(9,int k.1)]) (λk=>[(64,.map true [.int,.str] false (gB ((l.take k.1).map aC.key)))]) 65 (λk hk1 B hB=>?_) (h0:=by constructor<;>simp[r4]);simp[r4];refine aE (λh=>?_) (λh=>?_)
 ·have hk:k<(l).length:=by simpa using h
  obtain⟨x,hx,hr,hm,ht,hd,hw⟩:=bB hk;simp only[h];simp[hr,hw];refine CI.p (fW x) ?_;simp;exact hB hk (by constructor<;>simp[hw,ht])
 ·obtain rfl:k=(l).length:=by simp at h;omega
  simp only[h];simp;first|exact aA (by simp) rfl|exact aB (by simp)
attribute [simp] Tryz.ntmps157 Tryz.results157
theorem XM (l:List aC)(hl:l.length<=30000):Ct Tryz.prog 157 [aD (l.map aF)] [] [] (aD ((u3 l).map aK)) []:=by
 refine Ct.B Tryz.func157 ?_;simp;refine CI.p (zP l (by omega)) ?_;simp;refine aJ.gK 4 2 86 rfl ?_;refine aJ.V (l) (λk=>[(3,.d (.mp true [.int,.str] false (gB (l.map aC.key)))),(4,.own 64),(11,aD (l.map aF)),(12,int l.length),(13,int k.1)]) (λk=>[(64,.grow 2 ((nW (l.take k.1) l).map aK) 86)]) 65 (λk hk1 B hB=>?_);simp;refine aE (λh=>?_) (λh=>?_)
 ·have hk:k<(l).length:=by simpa using h
  obtain⟨x,hx,hr,hm,ht,hd,hw⟩:=bB hk;simp only[h];simp[hr,hw];have hml:=z7 (l.take k) l;have hr33:=nV x;have htk:(l.take k).length<=30000:=by simp;omega
  refine CI.p (uZ x) ?_;simp;refine aJ.V ((bJ x)) (λkj=>[(3,.d (.mp true [.int,.str] false (gB (l.map aC.key)))),(4,.own 64),(11,aD (l.map aF)),(12,int l.length),(13,int k),(18,aD ((bJ x).map aK)),(19,int (bJ x).length),(20,int kj.1)]) (λkj=>[(64,.grow 2 ((nW (l.take k) l++((bJ x).take kj.1).filter (kD l)).map aK) 86)]) 65 (λkj hk1j Bj hBj=>?_);simp;refine aE (λhj=>?_) (λhj=>?_)
  ·have hkj:kj<((bJ x)).length:=by simpa using hj
   obtain⟨q,hxj,hrj,hmj,htj,hdj,hwj⟩:=bB hkj;simp only[hj];simp[hrj,hwj];have hfl:(((bJ x).take kj).filter (kD l)).length<=33:=cD (eE _ _) (by simp;omega);by_cases h1:q∈l.map aC.key
   ·have hL:=oS h1;have h1':kD l q=false:=by simp[kD,mem_keys.1 h1]
    simp[hL];exact hBj hkj (by constructor<;>simp[hwj,htj,jM,h1',hwj])
   ·have hL:=qW h1;have h1':kD l q=true:=by
     cases h:(aQ l q).isSome
     ·simp[kD,h]
     ·exact absurd (mem_keys.2 h) h1
    simp[hL,hrj];refine⟨by omega,?_⟩;exact hBj hkj (by constructor<;>simp[hwj,htj,jM,h1',hwj])
  ·obtain rfl:kj=((bJ x)).length:=by simp at hj;omega
   simp only[hj];simp[hw];exact hB hk (by constructor<;>simp[hw,ht,XO])
 ·obtain rfl:k=(l).length:=by simp at h;omega
  simp only[h];simp;have hml:=z7 l l;refine CI.cc [64] (C9 (nW l l) (by omega)) ?_;simp;refine CI.cc [64] (FV (nA (nW l l)) (by rw[y6];omega)) ?_;simp;rw[XN];first|exact aA (by simp) rfl|exact aB (by simp)
attribute [simp] Tryz.ntmps238 Tryz.results238
theorem LN (r:aC)(n:Int):Ct Tryz.prog 238 [st (aF r),.d (.aT [iD n])] [] [] (bool (decide (r.kind=n))) []:=by
 refine Ct.B Tryz.func238 ?_;simp;first|exact aA (by simp) rfl|exact aB (by simp)
attribute [simp] Tryz.ntmps191 Tryz.results191
theorem LL (l:List aC)(n:Int)(hl:l.length<=1000000):Ct Tryz.prog 191 [aD (l.map aF),int n] [] [] (aD ((l.filter λr=>decide (r.kind=n)).map aF)) []:=by
 refine Ct.BS Tryz.func191 mixed 1 400 ?_;simp;refine CI.s (tm:=[(0,aD (l.map aF)),(3,.d (.aT [iD n]))]) (mm:=[]) (nx:=65) [] [64] (by constructor<;>simp) ?_;refine CI.n ?_;simp;refine CI.p (FI l (.fn (.func 238) [] [.aT [iD n]]) (λr=>decide (r.kind=n)) (λr hr=>bP.j2 (by exact LN r n) Tryz.call238 rfl rfl) hl) ?_;simp;first|exact aA (by simp) rfl|exact aB (by simp)
attribute [simp] Tryz.ntmps156 Tryz.results156
theorem P4 (l:List aC):Ct Tryz.prog 156 [aD (l.map aF)] [] [] (int (gQ l)) []:=by
 refine Ct.B Tryz.func156 ?_;simp;refine aE (λh0=>?_) (λh0=>?_)<;>simp only[h0]<;>simp<;>(try simp only[nT,nF,dT,dF]at h0)
 ·have e:gQ l=3:=by simp only[gQ];rw[bA (by omega)]
  first|exact aA (by simp[e]) rfl|exact aB (by simp[e])
 have h64:¬64<l.length:=by omega
 have hl:l.length<=64:=by omega
 refine aJ.inv mixed rfl (ι:={k:Nat//k<=(l).length/\(l.take k).all (λr=>decide (cU r=0))=true}) (λk=>[(0,aD (l.map aF)),(13,aD (l.map aF)),(14,int l.length),(15,int k.1)]) (λk=>[]) 64 (λk=>(l).length-k.1) ⟨0,by omega,by simp⟩ [] (by constructor<;>simp) ?_;rintro⟨k,hk1,hi⟩ B hB;refine CI.n ?_;simp;refine aE (λh=>?_) (λh=>?_)
 ·have hk:k<(l).length:=by simpa using h
  obtain⟨x,hx,hr,hm,ht,hd,hw⟩:=bB hk;simp only[h];simp[hr,hw];refine CI.p (DB x) ?_;simp;refine aE (λh1=>?_) (λh1=>?_)<;>simp only[h1]<;>simp<;>(try simp only[nT,nF,dT,dF]at h1)
  ·have e:gQ l=cU x:=by rw[<-A9 hi hr h1];exact QL h64 (by rw[A9 hi hr h1];exact h1)
   first|exact aA (by simp[e]) rfl|exact aB (by simp[e])
  ·refine hB _ ⟨k+1,by omega,by simp[ht,hi,h1]⟩ [] ?_ (by simp;omega);constructor<;>simp[hw,ht,h1]
 ·obtain rfl:k=(l).length:=by simp at h;omega
  simp only[h];simp;rw[bK]at hi;have hf:=FH hi;clear hi hB;refine aJ.inv mixed rfl (ι:={k:Nat//k<=(l).length/\cZ (l.take k)}) (λk=>[(0,aD (l.map aF)),(25,aD (l.map aF)),(26,int l.length),(27,int k.1)]) (λk=>[]) 64 (λk=>(l).length-k.1) ⟨0,by omega,by simp⟩ [] (by constructor<;>simp) ?_;rintro⟨k,hk1,hi⟩ B hB;refine CI.n ?_;simp;refine aE (λh=>?_) (λh=>?_)
  ·have hk:k<(l).length:=by simpa using h
   obtain⟨x,hx,hr,hm,ht,hd,hw⟩:=bB hk;simp only[h];simp[hr,hw];cases k with
   |zero=>
    simp;refine⟨by decide+kernel,?_⟩;refine hB _ ⟨0+1,by omega,by rw[ht];simp[cZ,fL]⟩ [] ?_ (by simp;omega);constructor<;>simp[hw]
   |succ m=>
    have hk':m<l.length:=by omega
    have hy:l[m]? =some l[m]:=bL hk';generalize l[m]=y at hy;have w0:IntKind.wrap .i64 (m:Int)=m:=wrap_i64 (by omega) (by omega);have w1:IntKind.wrap .i64 ((m:Int)+1+1)=(m:Int)+1+1:=wrap_i64 (by omega) (by omega);have c0:(0:Int)<(m:Int)+1:=by omega
    have c1:(0:Int)<=(m:Int)+1:=by omega
    have c2:(m:Int)<l.length:=by omega
    simp[c0,w0,c2,hy];have c3:(m:Int)+1<l.length:=by omega
    refine CI.p (fW y) ?_ (ha:=by simp[c1,c3,hr]);simp[c1,c3,hr];refine CI.p (fW x) ?_;simp;refine CI.p (FX y.key x.key) ?_;simp;refine⟨by decide+kernel,?_⟩;refine aE (λh3=>?_) (λh3=>?_)<;>simp only[h3]<;>simp[hr,hy]<;>(try simp only[nT,nF,dT,dF]at h3)
    ·have e:gQ l=2:=QM h64 hf (λha=>by have:=Fm ha hy hr;omega);first|exact aA (by simp[e]) rfl|exact aB (by simp[e])
    ·have h4:bR y.key x.key= -1:=by have:=tT y.key x.key;omega
     refine hB _ ⟨m+1+1,by omega,by rw[ht];exact Fl _ _ hi (λz hz=>by rw[LI hy]at hz;cases hz;exact h4)⟩ [] ?_ (by simp;omega);constructor<;>simp[w1]
  ·obtain rfl:k=(l).length:=by simp at h;omega
   simp only[h];simp;rw[bK]at hi;clear hB;refine CI.p (LL l 0 (by omega)) ?_;simp;have hKl:(l.filter λr=>decide (r.kind=0)).length<=64:=cD (eE _ _) hl;have hports:DQ l=(l.filter λr=>decide (r.kind=0)).map aC.port:=rfl;generalize(l.filter λr=>decide (r.kind=0))=K at hKl hports;refine aJ.inv mixed rfl (ι:={k:Nat//k<=(K).length/\((K.take k).map aC.port).Nodup}) (λk=>[(7,.own 64),(50,aD (K.map aF)),(51,int K.length),(52,int k.1)]) (λk=>[(64,.map false [.int] false (pP ((K.take k.1).map aC.port)))]) 65 (λk=>(K).length-k.1) ⟨0,by omega,by simp⟩ [] (by constructor<;>simp[K8]) ?_;rintro⟨k,hk1,hi⟩ B hB;refine CI.n ?_;simp[K8];refine aE (λh=>?_) (λh=>?_)
   ·have hk:k<(K).length:=by simpa using h
    obtain⟨x,hx,hr,hm,ht,hd,hw⟩:=bB hk;simp only[h];simp[hr,hw];by_cases hP:x.port∈(K.take k).map aC.port
    ·have hL:=UZ hP;rw[sL]at hL;have e:gQ l=13:=by
      rw[G9 h64 hf ‹cZ l›,aR];rw[hports];intro hn;have hs:=hn.sublist ((List.take_sublist (k+1) K).map aC.port);rw[ht,sM,fM,qE,KD]at hs;exact hs.2 hP
     simp[hL];first|exact aA (by simp[e]) rfl|exact aB (by simp[e])
    ·have hL:=UY hP;rw[sL]at hL;simp[hL];refine hB _ ⟨k+1,by omega,by rw[ht,sM,fM,qE,KD];exact⟨hi,hP⟩⟩ [] ?_ (by simp;omega);constructor<;>simp[hw,ht]
   ·obtain rfl:k=(K).length:=by simp at h;omega
    simp only[h];simp;rw[bK]at hi;have e:gQ l=0:=by rw[G9 h64 hf ‹cZ l›,hports,bA hi]
    first|exact aA (by simp[e]) rfl|exact aB (by simp[e])
attribute [simp] Tryz.ntmps65 Tryz.results65
theorem N8 (n:Int):Ct Tryz.prog 65 [int n] [] [] (int (k9 n)) []:=by
 refine Ct.B Tryz.func65 ?_;simp;have e:=N5 n;first|exact aA (by simp[e]) rfl|exact aB (by simp[e])
attribute [simp] Tryz.ntmps27 Tryz.results27
theorem KI (n:Int):Ct Tryz.prog 27 [int n] [] [] (st (dI (dU n))) []:=by
 refine Ct.B Tryz.func27 ?_;simp;refine CI.p (N8 n) ?_;simp;first|exact aA (by simp[dU]) rfl|exact aB (by simp[dU])
attribute [simp] Tryz.ntmps146 Tryz.results146
theorem XA (n:Int):Ct Tryz.prog 146 [int n] [] [] (st (dI (dU n))) []:=by
 refine Ct.B Tryz.func146 ?_;simp;have e:=N5 n;first|exact aA (by simp[e,dU]) rfl|exact aB (by simp[e,dU])
attribute [simp] Tryz.ntmps62 Tryz.results62
theorem CX (s:aZ):Ct Tryz.prog 62 [st (dI s)] [] [] (st (dI (cO s))) []:=by
 refine Ct.B Tryz.func62 ?_;simp;refine CI.p (N8 s.cap) ?_;simp;refine aE (λh1=>?_) (λh1=>?_)<;>simp only[h1]<;>simp<;>(try simp only[nT,nF,dT,dF]at h1)
 ·have h0:s.aU=[]:=by first|exact h1|exact gX (by omega)
  refine CI.p (KI (k9 s.cap)) ?_;simp;rw[G7 h0];first|exact aA (by simp[dU,FZ]) rfl|exact aB (by simp[dU,FZ])
 ·have h0:¬s.aU=[]:=by first|exact h1|exact λe=>h1 (by rw[e];rfl)
  rw[CW h0];first|exact aA (by simp) rfl|exact aB (by simp)
attribute [simp] Tryz.ntmps95 Tryz.results95
theorem G6 (s:aZ):Ct Tryz.prog 95 [st (dI s)] [] [] (st (dI (cO s))) []:=by
 refine Ct.B Tryz.func95 ?_;simp;refine CI.p (XA s.cap) ?_;simp;refine aE (λh1=>?_) (λh1=>?_)<;>simp only[h1]<;>simp<;>(try simp only[nT,nF,dT,dF]at h1)
 ·have h0:¬s.aU=[]:=λe=>by rw[e]at h1;simp at h1
  rw[CW h0];first|exact aA (by simp[dU]) rfl|exact aB (by simp[dU])
 ·have h0:s.aU=[]:=gX (by omega);rw[G7 h0];first|exact aA (by simp[dU]) rfl|exact aB (by simp[dU])
attribute [simp] Tryz.ntmps257 Tryz.results257
theorem Em (s:aZ)(i:Int):Ct Tryz.prog 257 [st (dI s),int i] [] [] (OF s i) []:=by
 refine Ct.B Tryz.func257 ?_;simp;refine CI.p (CX s) ?_;simp;refine aM (λh1=>?_) (λh1=>?_)<;>simp only[h1]<;>simp<;>(try simp only[nT,nF,dT,dF]at h1)
 ·have e:=OB (s:=s) h1;first|exact aA (by simp[e]) rfl|exact aB (by simp[e])
 refine aE (λh2=>?_) (λh2=>?_)<;>simp only[h2]<;>simp<;>(try simp only[nT,nF,dT,dF]at h2)
 ·have e:=OE (s:=s) (i:=i) (by omega);first|exact aA (by simp[e]) rfl|exact aB (by simp[e])
 ·obtain⟨l,⟨hh,e3⟩,e1,e⟩:=OC (s:=s) h1 (by omega);have c1:0<=i:=by omega
  have c2:i<(cO s).aU.length:=by omega
  simp[e1,c1,c2,e3];first|exact aA (by simp[e]) rfl|exact aB (by simp[e])
attribute [simp] Tryz.ntmps135 Tryz.results135
theorem El (s:aZ)(i:Int):Ct Tryz.prog 135 [st (dI s),int i] [] [] (OF s i) []:=by
 refine Ct.B Tryz.func135 ?_;simp;refine CI.p (G6 s) ?_;simp;refine aM (λh1=>?_) (λh1=>?_)<;>simp only[h1]<;>simp<;>(try simp only[nT,nF,dT,dF]at h1)
 ·have e:=OB (s:=s) h1;first|exact aA (by simp[e]) rfl|exact aB (by simp[e])
 refine aE (λh2=>?_) (λh2=>?_)<;>simp only[h2]<;>simp<;>(try simp only[nT,nF,dT,dF]at h2)
 ·have e:=OE (s:=s) (i:=i) (by omega);first|exact aA (by simp[e]) rfl|exact aB (by simp[e])
 ·obtain⟨l,⟨hh,e3⟩,e1,e⟩:=OC (s:=s) h1 (by omega);have c1:0<=i:=by omega
  have c2:i<(cO s).aU.length:=by omega
  simp[e1,c1,c2,e3];first|exact aA (by simp[e]) rfl|exact aB (by simp[e])
attribute [simp] Tryz.ntmps231 Tryz.results231
theorem Ak (s:aZ)(k_:Key)(v:Int)(hs:iS s):Ct Tryz.prog 231 [st (dI s),st (aK k_),int v] [] [] (M5 s k_ v) []:=by
 refine Ct.B Tryz.func231 ?_;simp;refine CI.p (Em s v) ?_;simp;refine CI.p (MG ((j4 s v).getD []) k_ (J5 hs v).len) ?_;simp;cases hg:aQ ((j4 s v).getD []) k_ with
 |none=>
  have e:=An hg;simp;first|exact aA (by simp[e,kK]) rfl|exact aB (by simp[e,kK])
 |some r=>
  have e:=Am hg;simp;refine aE (λh1=>?_) (λh1=>?_)<;>simp only[h1]<;>simp<;>(try simp only[nT,nF,dT,dF]at h1)
  ·rw[bA h1]at e;first|exact aA (by simp[e]) rfl|exact aB (by simp[e])
  ·rw[aR h1]at e;first|exact aA (by simp[e,kK]) rfl|exact aB (by simp[e,kK])
attribute [simp] Tryz.ntmps84 Tryz.results84
theorem Aj (s:aZ)(k_:Key)(v:Int)(hs:iS s):Ct Tryz.prog 84 [st (dI s),st (aK k_),int v] [] [] (M5 s k_ v) []:=by
 refine Ct.B Tryz.func84 ?_;simp;refine CI.p (El s v) ?_;simp;refine CI.p (vD ((j4 s v).getD []) k_ (J5 hs v).len) ?_;simp;cases ha:j4 s v with
 |none=>
  have e:kT s k_ v=none:=by simp[kT,ha,aQ]
  simp;first|exact aA (by simp[e,kK]) rfl|exact aB (by simp[e,kK])
 |some l=>
  cases hg:aQ l k_ with
  |none=>
   have e:kT s k_ v=none:=by simp[kT,ha,hg]
   simp[hg];first|exact aA (by simp[e,kK]) rfl|exact aB (by simp[e,kK])
  |some r=>
   have e:kT s k_ v=if r.bZ=v then some r else none:=by simp[kT,ha,hg]
   simp[hg];refine aE (λh1=>?_) (λh1=>?_)<;>simp only[h1]<;>simp<;>(try simp only[nT,nF,dT,dF]at h1)
   ·rw[aR h1]at e;first|exact aA (by simp[e,kK]) rfl|exact aB (by simp[e,kK])
   ·rw[bA h1]at e;first|exact aA (by simp[e]) rfl|exact aB (by simp[e])
attribute [simp] Tryz.ntmps230 Tryz.results230
theorem Ao (s:aZ)(m:G.Mark)(hs:iS s):Ct Tryz.prog 230 [st (eN m),.d (.aT (dI s))] [] [] (st (aF (ofM s m))) []:=by
 refine Ct.B Tryz.func230 ?_;simp;refine CI.p (Ak s m.k m.bZ hs) ?_;simp;cases hg:kT s m.k m.bZ with
 |none=>
  have e:ofM s m=mU m:=by simp[ofM,hg]
  simp;first|exact aA (by simp[e,mU]) rfl|exact aB (by simp[e,mU])
 |some r=>
  have e:ofM s m=r:=by simp[ofM,hg]
  simp;first|exact aA (by simp[e]) rfl|exact aB (by simp[e])
attribute [simp] Tryz.ntmps175 Tryz.results175
theorem Ai (s:aZ):Ct Tryz.prog 175 [st (dI s)] [] [] (.d (.fn (.func 230) [] [.aT (dI s)])) []:=by
 refine Ct.B Tryz.func175 ?_;simp;first|exact aA (by simp) rfl|exact aB (by simp)
attribute [simp] Tryz.ntmps126 Tryz.results126
theorem YK (s:aZ)(l:List G.Mark)(hs:iS s)(hl:l.length<=1000):Ct Tryz.prog 126 [st (dI s),aD (l.map eN)] [] [] (aD ((jU s l).map aF)) []:=by
 refine Ct.B Tryz.func126 ?_;simp;refine CI.p (Ai s) ?_;simp;refine aJ.V (l) (λk=>[(5,.d (.fn (.func 230) [] [.aT (dI s)])),(6,aD ((jU s (l.take k.1)).map aF)),(11,aD (l.map eN)),(12,int l.length),(13,int k.1)]) (λk=>[]) 64 (λk hk1 B hB=>?_) (h0:=by constructor<;>simp[AN]);simp[AN];refine aE (λh=>?_) (λh=>?_)
 ·have hk:k<(l).length:=by simpa using h
  obtain⟨x,hx,hr,hm,ht,hd,hw⟩:=bB hk;simp only[h];simp[hr,hw];have hlen:=w8 s (l.take k);have htk:(l.take k).length<=1000:=by simp;omega
  refine CI.ff (bP.j2 (args:=[st (eN x)]) (by exact Ao s x hs) Tryz.call230 rfl rfl) rfl rfl rfl ?_;simp;refine CI.p (GO (jU s (l.take k)) (ofM s x) (by omega)) ?_;simp;exact hB hk (by constructor<;>simp[hw,ht,EM])
 ·obtain rfl:k=(l).length:=by simp at h;omega
  simp only[h];simp;first|exact aA (by simp) rfl|exact aB (by simp)
attribute [simp] Tryz.ntmps36 Tryz.results36
theorem YJ (s:aZ)(l:List G.Mark)(hs:iS s)(hl:l.length<=1000)(hn:∀m∈l,nB m.k.name):Ct Tryz.prog 36 [st (dI s),aD (l.map eN)] [] [] (aD ((jU s l).map aF)) []:=by
 refine Ct.B Tryz.func36 ?_;simp;refine aJ.V (l) (λk=>[(1,aD (l.map eN)),(2,.ptr 64 0),(5,aD ((jU s (l.take k.1)).map aF)),(6,int k.1)]) (λk=>[(64,.cells ((dI s).map .d) 38)]) 65 (λk hk1 B hB=>?_) (h0:=by constructor<;>simp[AN]);simp[AN];refine aE (λh=>?_) (λh=>?_)
 ·have hk:k<(l).length:=by simpa using h
  obtain⟨x,hx,hr,hm,ht,hd,hw⟩:=bB hk;simp only[h];simp[hr,hw];have hlen:=w8 s (l.take k);have htk:(l.take k).length<=1000:=by simp;omega
  refine CI.p (Aj s x.k x.bZ hs) ?_;simp;refine⟨by decide+kernel,?_⟩;cases hg:kT s x.k x.bZ with
  |none=>
   have e:ofM s x=mU x:=by simp[ofM,hg]
   simp[hr];refine⟨by decide+kernel,?_⟩;refine CI.p (CU (jU s (l.take k)) (mU x) (by omega) (hn x hm)) ?_ (ha:=by simp[mU]);simp[mU];exact hB hk (by constructor<;>simp[hw,ht,EM,e,mU])
  |some r=>
   have e:ofM s x=r:=by simp[ofM,hg]
   have hnr:nB r.name:=by rw[<-e];exact Al hs (hn x hm)
   simp;refine CI.p (CU (jU s (l.take k)) r (by omega) hnr) ?_;simp;exact hB hk (by constructor<;>simp[hw,ht,EM,e])
 ·obtain rfl:k=(l).length:=by simp at h;omega
  simp only[h];simp;first|exact aA (by simp) rfl|exact aB (by simp)
attribute [simp] Tryz.ntmps56 Tryz.results56
theorem XT (l:List aC)(hl:l.length<=1000000):Ct Tryz.prog 56 [aD (l.map aF)] [] [] (aD ((nE l).map eN)) []:=by
 refine Ct.B Tryz.func56 ?_;simp;refine aJ.gK 3 3 88 rfl ?_;refine aJ.V (l) (λk=>[(0,aD (l.map aF)),(3,.own 64),(4,int k.1)]) (λk=>[(64,.grow 3 ((nE (l.take k.1)).map eN) 88)]) 65 (λk hk1 B hB=>?_);simp;refine aE (λh=>?_) (λh=>?_)
 ·have hk:k<(l).length:=by simpa using h
  obtain⟨x,hx,hr,hm,ht,hd,hw⟩:=bB hk;simp only[h];simp[hr,hw];refine CI.p (l5 x) ?_ (ha:=by simp[hr]);simp[hr];refine⟨by omega,?_⟩;refine⟨by decide+kernel,?_⟩;exact hB hk (by constructor<;>simp[hw,ht,K0])
 ·obtain rfl:k=(l).length:=by simp at h;omega
  simp only[h];simp;first|exact aA (by simp) rfl|exact aB (by simp)
end Go.Proofs.YtelooagbkmpdpaaGreatDoor
