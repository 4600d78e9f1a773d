/- LAYERS 3 to 14, walked (2) -/
import Derived.Test.YtobcmagefgdgdaaGreatDoorWb
set_option linter.unusedSimpArgs false
set_option linter.unusedVariables false
set_option maxRecDepth 100000
set_option maxHeartbeats 8000000
namespace Go.Proofs.YtobcmagefgdgdaaGreatDoor
open Go.AI Go.G Tryz
attribute [simp] ntmps476 results476
theorem R1 (l:List Key)(hl:l.length<=1000000):C1 476 [.own 0] [] [(0,.grow 2 (l.map aQ) 184)] (aB ((oM l).map aQ)) []:=by
 refine Ct.B func476 ?_;simp;refine aX (λh0 zz=>?_) (λh0 zz=>?_)<;>simp only[zz]<;>simp
 ·have e:oM l=l:=ziZ h0;exact⟨[],by constructor<;>simp[aI,aJ,e]⟩
 refine aH.inv mixed rfl (ι:={k:Nat//k+1<=l.length/\oM (l.take (k+1))=l.take (k+1)}) (λk=>[(0,.own 0),(3,int ((k.1:Int)+1))]) (λk=>[(0,.grow 2 (l.map aQ) 184)]) 64 (λk=>l.length-k.1) ⟨0,by omega,zi0 l⟩ [] (by constructor<;>simp) ?_;rintro⟨m,hk1,hi⟩ B hB;refine CI.n ?_;simp;refine aX (λh zz=>?_) (λh zz=>?_)<;>simp only[zz]<;>simp
 ·have hk:m+1<l.length:=by omega
  have hk':m<l.length:=by omega
  have hv:l[m+1]? =some l[m+1]:=bO hk;have hq:l[m]? =some l[m]:=bO hk';have w0:IntKind.wrap .i64 (m:Int)=m:=wz _;have w1:=wz ((m:Int)+1+1);have c1:(0:Int)<=(m:Int)+1:=by omega
  have c2:(m:Int)<l.length:=by omega
  generalize hvu:l[m+1]=u at hv;generalize hqu:l[m]=q0 at hq;have hs:=R2 (by omega) (show l[m+1-1]? =_ from hq) hv;simp[h,hvu,hqu,c1,c2,hv,hq,w0];rw[BQ];refine dr ?_;refine aX (λh2 zz=>?_) (λh2 zz=>?_)<;>simp only[zz]<;>simp[hv,hq]
  ·refine⟨by omega,?_⟩;rw[h2]at hv;have d0:sK l (m+2+0) (m+1) l:=sK.start (by omega) hi hq hv;clear hv hq hs w0 w1 c1 c2 hi hB;refine aH.inv mixed rfl (ι:={q:Nat×Nat×List Key//sK l (m+2+q.1) q.2.1 q.2.2}) (λk=>[(0,.own 0),(3,int k.1.2.1),(4,.sl 0 2 (m+1) (l.length-(m+1))),(5,int ((k.1.1:Int)+1))]) (λk=>[(0,.grow 2 (k.1.2.2.map aQ) 184)]) 64 (λk=>l.length-k.1.1) ⟨(0,m+1,l),d0⟩ [] (by constructor<;>simp) ?_;rintro⟨⟨d,i,cur⟩,hd⟩ B hB;have hlen:=hd.len;have hlt:=hd.lt;have hle:=hd.le;simp only at hlen hlt hle;have w1:IntKind.wrap .i64 ((d:Int)+1+1)=d+1+1:=wz _;have w2:IntKind.wrap .i64 ((i:Int)+1)=i+1:=wz _;have w0:IntKind.wrap .i64 (d:Int)=d:=wz _;refine CI.n ?_;simp[hlen];refine aX (λh3 zz=>?_) (λh3 zz=>?_)<;>simp only[zz]<;>simp
   ·have hj:m+1+(d+1)<l.length:=by omega
    have hj':m+1+d<l.length:=by omega
    have hv:l[m+2+d]? =some l[m+1+(d+1)]:=by rw[<-bO hj];congr 1;omega
    have hq:l[m+2+d-1]? =some l[m+1+d]:=by rw[<-bO hj'];congr 1;omega
    generalize l[m+1+(d+1)]=v at hv;generalize l[m+1+d]=q at hq;have hg:cur[m+1+(d+1)]? =some v:=by have:=hd.get hv;rwa[show m+2+d=m+1+(d+1) by omega]at this
    have hg':cur[m+1+d]? =some q:=by have:=hd.get' hq;rwa[show m+2+d-1=m+1+d by omega]at this
    have c1:(0:Int)<=(d:Int)+1:=by omega
    have c2:(d:Int)<((l.length-(m+1):Nat):Int):=by omega
    simp[h3,c1,c2,w0,hg,hg'];rw[X9];refine dr ?_;have hic:i<cur.length:=by omega
    refine aX (λh4 zz=>?_) (λh4 zz=>?_)<;>simp only[zz]<;>simp[h3,c1,c2,hg,hg',hic]
    ·refine hB _ ⟨(d+1,i+1,cur.set i v),by exact hd.keep hv hq (λe=>h4 e.symm)⟩ [] ?_ (by simp;omega);constructor<;>simp[w1,w2,GD]
    ·rw[<-h4]at hq;refine hB _ ⟨(d+1,i,cur),by exact hd.same hv hq⟩ [] ?_ (by simp;omega);constructor<;>simp[w1]
   ·have hj:m+2+d=l.length:=by omega
    simp only at hd;rw[hj]at hd;have e:cur.take i=oM l:=hd.done;have e2:List.take i (List.map aQ cur)=List.map aQ (oM l):=by rw[<-zB,e]
    have e3:(oM l).length=i:=by rw[<-e,CL];omega
    refine⟨by omega,by omega,by omega,?_⟩;rw[e2];exact⟨[],by constructor<;>simp[aI,aJ,e3,List.take_append,show i<=i+(l.length-i+(l.length-(i+(l.length-i))))from by omega]⟩
  ·rw[aT (λe=>h2 e.symm)]at hs;refine hB _ ⟨m+1,by omega,by rw[hs,hi,jH (i:=m+1),hv];rfl⟩ [] ?_ (by simp;omega);constructor<;>simp[w1]
 ·have e:oM l=l:=by
   have hl2:m+1=l.length:=by omega
   rw[hl2,bX]at hi;exact hi
  exact⟨[],by constructor<;>simp[aI,aJ,e]⟩
open Go.Sort Go.Proofs Go.RowKit Go.Shelf
def QW (k:Key):List Value:=[.int .i64 k.kind,.string k.name]
instance keyInh :Inhabited Key:=⟨⟨0,.empty⟩⟩
theorem OE (l:List Key)(hl:l.length<4611686018427387904):C1 475 [.own 0,.d (dE 470)] [] [(0,.grow 2 (l.map aQ) 184)] (.d (.v (.tuple #[]))) [(0,.grow 2 ((uT l).map aQ) 184)]:=
 Ct.sort (enc:=QW) (k:=2) (cf:=cT) (sortL:=uT) (by decide) (λ_=>rfl) (λx v hv=>by simp[QW]at hv;rcases hv with rfl|rfl<;>rfl) KD
  (λp cap fv w=>AnyF.slices_SortFunc_none {Tryz.sortKeys with} p cap fv w)
  (λblk off cap d w hc hH hb hs=>AnyQ.slices_SortFunc_total Tryz.sortKeys 2 (λw=>by kernel_rfl) (λw=>by kernel_rfl) QW (λ_=>rfl) (λx v hv=>by simp[QW]at hv;rcases hv with rfl|rfl<;>rfl) cT NV 470 #[] blk off cap d w call470 hc hH hb hs (λx y h1 h2=>zfJ h1 h2))
  (λa b=>ZI a b) hl
end Go.Proofs.YtobcmagefgdgdaaGreatDoor
namespace Go.Proofs.YtobcmagefgdgdaaGreatDoor
open Go.AI Go.G Tryz
attribute [simp] ntmps474 results474 ntmps550 results550
theorem O2 (r:aC):C0 474 [st (aF r)] (aB ((cD r).map aQ)):=by
 refine Ct.B func474 ?_;simp;refine CI.p (CZ r) ?_;simp;refine aX (λh1 zz=>?_) (λh1 zz=>?_)<;>simp only[zz]<;>simp
 ·exact aA (by simp[cD,h1])
 obtain⟨hk0,hn,hs,hsh,hnm,hsg⟩:=xC h1;have hk:=xE.1 hk0;have hb:=KE hs;have hwk:=wz (r.kind+1);refine aX (λh2 zz=>?_) (λh2 zz=>?_)<;>simp only[zz]<;>simp
 ·have hto:¬bs r.to=[]:=λe=>h2 (DY e);have hr0:=Vv hsh hto;have h0:tW r 0=[⟨r.kind+1,r.to⟩]:=by rw[Il,aT hto]
  have e:=Im h1;rw[hr0]at e;simp only[gZ,h0]at e;simp[hr0,hwk];refine aH.un ?_;simp;refine CI.cc [1152] (OE [⟨r.kind+1,r.to⟩] (by simp)) ?_;simp;refine CI.cc [1152] (R1 (uT [⟨r.kind+1,r.to⟩]) (by rw[KD];simp)) ?_;simp;rw[e];exact aA
 ·have hto:bs r.to=[]:=by
   have:r.to=⟨#[]⟩:=by simpa using h2
   rw[this];rfl
  have h0:tW r 0=[]:=by rw[Il,aZ hto]
  refine aH.gH 3 2 184 rfl ?_;refine aH.V (r.rules) (λk=>[(1,.ptr 64 0),(3,.own 65),(24,aB (r.rules.map dJ)),(25,int r.rules.length),(26,int k.1)]) (λk=>[(64,.cells ((aF r).map .d) 174),(65,.grow 2 ((tW r k.1).map aQ) 184)]) 66 (λk hk1 B hB=>?_) (h0:=by constructor<;>simp[h0]);simp[h0];rcases bC hk1 with⟨x,hk,hx,hr,hm,ht,hd,hw,h⟩|rfl
  ·simp[h,hr,hw];have h7:=hb.2.2 x hm;refine aH.V (x.split) (λkj=>[(1,.ptr 64 0),(3,.own 65),(24,aB (r.rules.map dJ)),(25,int r.rules.length),(26,int k),(31,aB (x.split.map wC)),(32,int x.split.length),(33,int kj.1)]) (λkj=>[(64,.cells ((aF r).map .d) 174),(65,.grow 2 ((tW r k++((x.split.take kj.1).filter λw=>decide (0<w.w)).map toKey).map aQ) 184)]) 66 (λkj hk1j Bj hBj=>?_) (h0:=by constructor<;>simp[hr]);simp[hr];rcases bC hk1j with⟨w,hkj,hxj,hrj,hmj,htj,hdj,hwj,hj⟩|rfl
   ·simp[hj,hrj,hwj,hr];have hlen:=Io k hb.1 hb.2.2;have h8:((x.split.take kj).filter λw=>decide (0<w.w)).length<=4:=dH (gJ _ _) (dH (by simp;omega) h7);refine aX (λh4 zz=>?_) (λh4 zz=>?_)<;>simp only[zz]<;>simp[hr,hrj]
    ·refine⟨by omega,?_⟩;exact hBj hkj (by constructor<;>simp[hwj,htj,nL,h4,hwj])
    ·exact hBj hkj (by constructor<;>simp[hwj,htj,nL,h4,hwj])
   ·simp[hw];exact hB hk (by constructor<;>simp[hw,ht,zdN ht,CJ])
  ·simp;have hlen:=Io r.rules.length hb.1 hb.2.2;refine CI.cc [65] (OE (tW r r.rules.length) (by omega)) ?_;simp;refine CI.cc [65] (R1 (uT (tW r r.rules.length)) (by rw[KD];omega)) ?_;simp;rw[Im h1];exact aA
theorem zcs (l:List aC)(k_:Key)(hl:l.length<=1000000):C0 550 [aB (l.map aF),st (aQ k_)] (aB ((yK l k_).map aQ)):=by
 refine Ct.B func550 ?_;simp;refine aH.gH 5 2 184 rfl ?_;refine aH.V (l) (λk=>[(3,.ptr 64 0),(5,.own 65),(8,aB (l.map aF)),(9,int l.length),(10,int k.1)]) (λk=>[(64,.cells ((aQ k_).map .d) 184),(65,.grow 2 ((yK (l.take k.1) k_).map aQ) 184)]) 66 (λk hk1 B hB=>?_);simp;rcases bC hk1 with⟨x,hk,hx,hr,hm,ht,hd,hw,h⟩|rfl
 ·simp[h,hr,hw];have hlen:((l.take k).filter λr=>decide (k_∈cD r)).length<=1000000:=dH (gJ _ _) (by simp;omega);refine CI.p (O2 x) ?_;simp;refine CI.p (Og (cD x) k_ (Ge x)) ?_;simp;refine dr ?_;refine bQ (λh1=>?_) (λh1=>?_)<;>simp only[h1]<;>simp[hr]
  ·refine CI.p (oK x) ?_;simp;refine⟨by omega,?_⟩;exact hB hk (by constructor<;>simp[hw,ht,nL,h1])
  ·exact hB hk (by constructor<;>simp[hw,ht,nL,h1])
 ·simp;exact aA
attribute [simp] ntmps308 results308 ntmps510 results510 ntmps423 results423 ntmps422 results422 ntmps295 results295
theorem Eb (v:View)(f:G.Frame):C0 308 [st (q7 v),st (cA f)] (st (q7 (rW v f))):=by
 refine Ct.B func308 ?_;simp;exact aA (by simp[rW])
theorem Jv (f:G.Frame):C0 510 [st (cA f)] (.agg [int f.aM,int f.kind,int f.cN]):=by
 refine Ct.B func510 ?_;simp;exact aA
theorem ZB (v:View)(t:Int)(h:List Key):C0 423 [st (q7 v),int t,aB (h.map aQ)] (st (q7 (lZ v t h))):=by
 refine Ct.B func423 ?_;simp;refine aX (λh1 zz=>?_) (λh1 zz=>?_)<;>simp only[zz]<;>simp
 ·exact aA (by simp[lZ,h1])
 ·exact aA (by simp[lZ,h1])
theorem zkV (v:View)(f:G.Frame)(hl:v.aP.length+v.push.aD.length<=1000000)(hg:v.push.gone.length<=9223372036854775807):C0 422 [st (q7 v),st (cA f)] (.aU [st (q7 (gC v f)),int (pV v f)]):=by
 refine Ct.B func422 ?_;simp;refine bQ (λh1=>?_) (λh1=>?_)<;>simp only[h1]<;>simp
 ·have h1':v.open_=false:=by simpa using h1
  exact aA (by simp[gC,pV,h1'])
 have h1':v.open_=true:=by simpa using h1
 refine cV (λh2 zz=>?_) (λh2 zz=>?_)<;>simp only[zz]<;>simp
 ·refine dr ?_;exact aA (by simp[gC,pV,mU,h1',h2])
 refine CI.p (Jv f) ?_;simp;refine CI.p (Jv v.push) ?_;simp;refine dr ?_;rw[zhE h2];refine bQ (λh3=>?_) (λh3=>?_)<;>simp only[h3]<;>simp
 ·have h3':mU v f=false:=by simpa using h3
  exact aA (by simp[gC,pV,h1',h3'])
 have h3':mU v f=true:=by simpa using h3
 rw[Sj h1' h3'];refine aX (λh4 zz=>?_) (λh4 zz=>?_)<;>simp only[zz]<;>simp
 ·refine CI.p (PK v.aP v.push.aD v.push.gone hl hg) ?_;simp;refine CI.p (ZB ⟨iC v.aP v.push.aD v.push.gone,v.held,v.turn,eV,false⟩ f.turn f.held) ?_ (ha:=by simp[eV]);simp[eV];refine dr ?_;exact aA (by simp[pV,h1',h3',h4,eV])
 ·refine CI.p (ZB ⟨v.aP,v.held,v.turn,eV,false⟩ f.turn f.held) ?_ (ha:=by simp[eV]);simp[eV];refine dr ?_;exact aA (by simp[pV,h1',h3',h4,eV])
theorem Mc (l:List aC)(hl:l.length<=1000000):C0 295 [aB (l.map aF)] (aB ((vD l).map jD)):=by
 refine Ct.B func295 ?_;simp;refine aH.gH 3 3 352 rfl ?_;refine aH.V (l) (λk=>[(3,.own 64),(6,aB (l.map aF)),(7,int l.length),(8,int k.1)]) (λk=>[(64,.grow 3 ((vD (l.take k.1)).map jD) 352)]) 65 (λk hk1 B hB=>?_);simp;rcases bC hk1 with⟨x,hk,hx,hr,hm,ht,hd,hw,h⟩|rfl
 ·simp[h,hr,hw];refine CI.p (oK x) ?_;simp;refine⟨by omega,?_⟩;refine dr ?_;exact hB hk (by constructor<;>simp[hw,ht,Md])
 ·simp;exact aA
attribute [simp] ntmps473 results473 ntmps383 results383 ntmps537 results537 ntmps472 results472
theorem WV (l:List aC)(hl:l.length<=1000000):C0 473 [aB (l.map aF)] (.d (.mp true [.int,.str] false (o8 (l.map aC.key)))):=by
 refine Ct.B func473 ?_;simp;refine aH.V (l) (λk=>[(3,.own 64),(7,aB (l.map aF)),(8,int l.length),(9,int k.1)]) (λk=>[(64,.map true [.int,.str] false (o8 ((l.take k.1).map aC.key)))]) 65 (λk hk1 B hB=>?_) (h0:=by constructor<;>simp[H9]);simp[H9];rcases bC hk1 with⟨x,hk,hx,hr,hm,ht,hd,hw,h⟩|rfl
 ·simp[h,hr,hw];refine CI.p (oK x) ?_;simp;exact hB hk (by constructor<;>simp[hw,ht])
 ·simp;exact aA
theorem zfs (l:List aC)(hl:l.length<=30000):C0 383 [aB (l.map aF)] (aB ((xK l).map aQ)):=by
 refine Ct.B func383 ?_;simp;refine CI.p (WV l (by omega)) ?_;simp;refine aH.gH 4 2 184 rfl ?_;refine aH.V (l) (λk=>[(3,.d (.mp true [.int,.str] false (o8 (l.map aC.key)))),(4,.own 64),(11,aB (l.map aF)),(12,int l.length),(13,int k.1)]) (λk=>[(64,.grow 2 ((sB (l.take k.1) l).map aQ) 184)]) 65 (λk hk1 B hB=>?_);simp;rcases bC hk1 with⟨x,hk,hx,hr,hm,ht,hd,hw,h⟩|rfl
 ·simp[h,hr,hw];have hml:=KZ (l.take k) l;have hr33:=zP x;have htk:(l.take k).length<=30000:=by simp;omega
  refine CI.p (O2 x) ?_;simp;refine aH.V ((cD x)) (λkj=>[(3,.d (.mp true [.int,.str] false (o8 (l.map aC.key)))),(4,.own 64),(11,aB (l.map aF)),(12,int l.length),(13,int k),(18,aB ((cD x).map aQ)),(19,int (cD x).length),(20,int kj.1)]) (λkj=>[(64,.grow 2 ((sB (l.take k) l++((cD x).take kj.1).filter (iF l)).map aQ) 184)]) 65 (λkj hk1j Bj hBj=>?_);simp;rcases bC hk1j with⟨q,hkj,hxj,hrj,hmj,htj,hdj,hwj,hj⟩|rfl
  ·simp[hj,hrj,hwj];have hfl:(((cD x).take kj).filter (iF l)).length<=33:=dH (gJ _ _) (by simp;omega);by_cases h1:q∈l.map aC.key
   ·have hL:=FA h1;have h1':iF l q=false:=by simp[iF,mem_keys.1 h1]
    simp[hL];exact hBj hkj (by constructor<;>simp[hwj,htj,nL,h1',hwj])
   ·have hL:=H8 h1;have h1':iF l q=true:=by
     cases h:(bI l q).isSome
     ·simp[iF,h]
     ·exact absurd (mem_keys.2 h) h1
    simp[hL,hrj];refine⟨by omega,?_⟩;exact hBj hkj (by constructor<;>simp[hwj,htj,nL,h1',hwj])
  ·simp[hw];exact hB hk (by constructor<;>simp[hw,ht,Lk])
 ·simp;have hml:=KZ l l;refine CI.cc [64] (OE (sB l l) (by omega)) ?_;simp;refine CI.cc [64] (R1 (uT (sB l l)) (by rw[KD];omega)) ?_;simp;rw[zft];exact aA
theorem Nh (r:aC)(n:Int):C0 537 [st (aF r),.d (.bE [iD n])] (bool (decide (r.kind=n))):=by
 refine Ct.B func537 ?_;simp;exact aA
theorem Nf (l:List aC)(n:Int)(hl:l.length<=1000000):C0 472 [aB (l.map aF),int n] (aB ((l.filter λr=>decide (r.kind=n)).map aF)):=by
 refine Ct.BS func472 mixed 1 400 ?_;simp;refine CI.s (tm:=[(0,aB (l.map aF)),(3,.d (.bE [iD n]))]) (mm:=[]) (nx:=65) [] [64] (by constructor<;>simp) ?_;refine CI.n ?_;simp;refine CI.p (Y4 l (.fn (.func 537) [] [.bE [iD n]]) (λr=>decide (r.kind=n)) (λr hr=>bN.nZ (by exact Nh r n) call537 rfl rfl) hl) ?_;simp;exact aA
attribute [simp] ntmps382 results382
theorem J3 (l:List aC):C0 382 [aB (l.map aF)] (int (eB l)):=by
 refine Ct.B func382 ?_;simp;refine aX (λh0 zz=>?_) (λh0 zz=>?_)<;>simp only[zz]<;>simp
 ·have e:eB l=3:=by simp only[eB];rw[aZ (by omega)]
  exact aA (by simp[e])
 have h64:¬64<l.length:=by omega
 have hl:l.length<=64:=by omega
 refine aH.inv mixed rfl (ι:={k:Nat//k<=(l).length/\(l.take k).all (λr=>decide (cQ r=0))=true}) (λk=>[(0,aB (l.map aF)),(13,aB (l.map aF)),(14,int l.length),(15,int k.1)]) (λk=>[]) 64 (λk=>(l).length-k.1) ⟨0,by omega,by simp⟩ [] (by constructor<;>simp) ?_;rintro⟨k,hk1,hi⟩ B hB;refine CI.n ?_;simp;rcases bC hk1 with⟨x,hk,hx,hr,hm,ht,hd,hw,h⟩|rfl
 ·simp[h,hr,hw];refine CI.p (CZ x) ?_;simp;refine aX (λh1 zz=>?_) (λh1 zz=>?_)<;>simp only[zz]<;>simp
  ·have e:eB l=cQ x:=by rw[<-IL hi hr h1];exact Cr h64 (by rw[IL hi hr h1];exact h1)
   exact aA (by simp[e])
  ·refine hB _ ⟨k+1,by omega,by simp[ht,hi,h1]⟩ [] ?_ (by simp;omega);constructor<;>simp[hw,ht,h1]
 ·simp;rw[bX]at hi;have hf:=RH hi;clear hi hB;refine aH.inv mixed rfl (ι:={k:Nat//k<=(l).length/\fA (l.take k)}) (λk=>[(0,aB (l.map aF)),(25,aB (l.map aF)),(26,int l.length),(27,int k.1)]) (λk=>[]) 64 (λk=>(l).length-k.1) ⟨0,by omega,by simp⟩ [] (by constructor<;>simp) ?_;rintro⟨k,hk1,hi⟩ B hB;refine CI.n ?_;simp;rcases bC hk1 with⟨x,hk,hx,hr,hm,ht,hd,hw,h⟩|rfl
  ·simp[h,hr,hw];cases k with
   |zero=>
    simp;refine dr ?_;refine hB _ ⟨0+1,by omega,by rw[ht];simp[fA,i7]⟩ [] ?_ (by simp;omega);constructor<;>simp[hw]
   |succ m=>
    have hk':m<l.length:=by omega
    have hy:l[m]? =some l[m]:=bO hk';generalize l[m]=y at hy;have w0:IntKind.wrap .i64 (m:Int)=m:=wz _;have w1:=wz ((m:Int)+1+1);have c0:(0:Int)<(m:Int)+1:=by omega
    have c1:(0:Int)<=(m:Int)+1:=by omega
    have c2:(m:Int)<l.length:=by omega
    simp[c0,w0,c2,hy];have c3:(m:Int)+1<l.length:=by omega
    refine CI.p (oK y) ?_ (ha:=by simp[c1,c3,hr]);simp[c1,c3,hr];refine CI.p (oK x) ?_;simp;refine CI.p (ZI y.key x.key) ?_;simp;refine dr ?_;refine aX (λh3 zz=>?_) (λh3 zz=>?_)<;>simp only[zz]<;>simp[hr,hy]
    ·have e:eB l=2:=Cs h64 hf (λha=>by have:=Rz ha hy hr;omega);exact aA (by simp[e])
    ·have h4:cT y.key x.key= -1:=by have:=DW y.key x.key;omega
     refine hB _ ⟨m+1+1,by omega,by rw[ht];exact Rx _ _ hi (λz hz=>by rw[X1 hy]at hz;cases hz;exact h4)⟩ [] ?_ (by simp;omega);constructor<;>simp[w1]
  ·simp;rw[bX]at hi;clear hB;refine CI.p (Nf l 0 (by omega)) ?_;simp;have hKl:(l.filter λr=>decide (r.kind=0)).length<=64:=dH (gJ _ _) hl;have hports:DB l=(l.filter λr=>decide (r.kind=0)).map aC.port:=rfl;generalize(l.filter λr=>decide (r.kind=0))=K at hKl hports;refine aH.inv mixed rfl (ι:={k:Nat//k<=(K).length/\((K.take k).map aC.port).Nodup}) (λk=>[(7,.own 64),(50,aB (K.map aF)),(51,int K.length),(52,int k.1)]) (λk=>[(64,.map false [.int] false (vF ((K.take k.1).map aC.port)))]) 65 (λk=>(K).length-k.1) ⟨0,by omega,by simp⟩ [] (by constructor<;>simp[K3]) ?_;rintro⟨k,hk1,hi⟩ B hB;refine CI.n ?_;simp[K3];rcases bC hk1 with⟨x,hk,hx,hr,hm,ht,hd,hw,h⟩|rfl
   ·simp[h,hr,hw];by_cases hP:x.port∈(K.take k).map aC.port
    ·have hL:=zde hP;rw[zB]at hL;have e:eB l=13:=by
      rw[UQ h64 hf ‹fA l›,aT];rw[hports];intro hn;have hs:=hn.sublist ((List.take_sublist (k+1) K).map aC.port);rw[ht,CJ,kE,zC,Kk]at hs;exact hs.2 hP
     simp[hL];exact aA (by simp[e])
    ·have hL:=zdd hP;rw[zB]at hL;simp[hL];refine hB _ ⟨k+1,by omega,by rw[ht,CJ,kE,zC,Kk];exact⟨hi,hP⟩⟩ [] ?_ (by simp;omega);constructor<;>simp[hw,ht]
   ·simp;rw[bX]at hi;have e:eB l=0:=by rw[UQ h64 hf ‹fA l›,hports,aZ hi]
    exact aA (by simp[e])
attribute [simp] ntmps94 results94 ntmps56 results56 ntmps71 results71 ntmps144 results144 ntmps149 results149 ntmps591 results591 ntmps370 results370 ntmps562 results562 ntmps281 results281 ntmps561 results561 ntmps509 results509 ntmps420 results420
theorem Rj (n:Int):C0 94 [int n] (int (n9 n)):=by
 refine Ct.B func94 ?_;simp;have e:=ZN n;exact aA (by simp[e])
theorem HZ (n:Int):C0 56 [int n] (st (eW (fZ n))):=by
 refine Ct.B func56 ?_;simp;refine CI.p (Rj n) ?_;simp;exact aA (by simp[fZ])
theorem Kt (n:Int):C0 71 [int n] (st (eW (fZ n))):=by
 refine Ct.B func71 ?_;simp;have e:=ZN n;exact aA (by simp[e,fZ])
theorem UJ (s:aW):C0 144 [st (eW s)] (st (eW (fN s))):=by
 refine Ct.B func144 ?_;simp;refine CI.p (Rj s.cap) ?_;simp;refine aX (λh1 zz=>?_) (λh1 zz=>?_)<;>simp only[zz]<;>simp
 ·have h0:s.bA=[]:=by first|exact h1|exact kH (by omega)
  refine CI.p (HZ (n9 s.cap)) ?_;simp;rw[Cl h0];exact aA (by simp[fZ,ZO])
 ·have h0:¬s.bA=[]:=by first|exact h1|exact λe=>h1 (by rw[e];rfl)
  rw[UH h0];exact aA
theorem UI (s:aW):C0 149 [st (eW s)] (st (eW (fN s))):=by
 refine Ct.B func149 ?_;simp;refine CI.p (Kt s.cap) ?_;simp;refine aX (λh1 zz=>?_) (λh1 zz=>?_)<;>simp only[zz]<;>simp
 ·have h0:¬s.bA=[]:=λe=>by rw[e]at h1;simp at h1
  rw[UH h0];exact aA (by simp[fZ])
 ·have h0:s.bA=[]:=kH (by omega);rw[Cl h0];exact aA (by simp[fZ])
theorem zkj (s:aW)(i:Int):C0 591 [st (eW s),int i] (Rv s i):=by
 refine Ct.B func591 ?_;simp;refine CI.p (UJ s) ?_;simp;refine cV (λh1 zz=>?_) (λh1 zz=>?_)<;>simp only[zz]<;>simp
 ·have e:=Rr (s:=s) h1;exact aA (by simp[e])
 refine aX (λh2 zz=>?_) (λh2 zz=>?_)<;>simp only[zz]<;>simp
 ·have e:=Ru (s:=s) (i:=i) (by omega);exact aA (by simp[e])
 ·obtain⟨l,⟨hh,e3⟩,e1,e⟩:=Rs (s:=s) h1 (by omega);have c1:0<=i:=by omega
  have c2:i<(fN s).bA.length:=by omega
  simp[e1,c1,c2,e3];exact aA (by simp[e])
theorem zki (s:aW)(i:Int):C0 370 [st (eW s),int i] (Rv s i):=by
 refine Ct.B func370 ?_;simp;refine CI.p (UI s) ?_;simp;refine cV (λh1 zz=>?_) (λh1 zz=>?_)<;>simp only[zz]<;>simp
 ·have e:=Rr (s:=s) h1;exact aA (by simp[e])
 refine aX (λh2 zz=>?_) (λh2 zz=>?_)<;>simp only[zz]<;>simp
 ·have e:=Ru (s:=s) (i:=i) (by omega);exact aA (by simp[e])
 ·obtain⟨l,⟨hh,e3⟩,e1,e⟩:=Rs (s:=s) h1 (by omega);have c1:0<=i:=by omega
  have c2:i<(fN s).bA.length:=by omega
  simp[e1,c1,c2,e3];exact aA (by simp[e])
theorem zhQ (s:aW)(k_:Key)(v:Int)(hs:vR s):C0 562 [st (eW s),st (aQ k_),int v] (Pp s k_ v):=by
 refine Ct.B func562 ?_;simp;refine CI.p (zkj s v) ?_;simp;refine CI.p (YS ((qW s v).getD []) k_ (Jm hs v).len) ?_;simp;cases hg:bI ((qW s v).getD []) k_ with
 |none=>
  have e:=zhT hg;simp;exact aA (by simp[e,fV])
 |some r=>
  have e:=zhS hg;simp;refine aX (λh1 zz=>?_) (λh1 zz=>?_)<;>simp only[zz]<;>simp
  ·rw[aZ h1]at e;exact aA (by simp[e])
  ·rw[aT h1]at e;exact aA (by simp[e,fV])
theorem zhP (s:aW)(k_:Key)(v:Int)(hs:vR s):C0 281 [st (eW s),st (aQ k_),int v] (Pp s k_ v):=by
 refine Ct.B func281 ?_;simp;refine CI.p (zki s v) ?_;simp;refine CI.p (yU ((qW s v).getD []) k_ (Jm hs v).len) ?_;simp;cases ha:qW s v with
 |none=>
  have e:rK s k_ v=none:=by simp[rK,ha,bI]
  simp;exact aA (by simp[e,fV])
 |some l=>
  cases hg:bI l k_ with
  |none=>
   have e:rK s k_ v=none:=by simp[rK,ha,hg]
   simp[hg];exact aA (by simp[e,fV])
  |some r=>
   have e:rK s k_ v=if r.bR=v then some r else none:=by simp[rK,ha,hg]
   simp[hg];refine aX (λh1 zz=>?_) (λh1 zz=>?_)<;>simp only[zz]<;>simp
   ·rw[aT h1]at e;exact aA (by simp[e,fV])
   ·rw[aZ h1]at e;exact aA (by simp[e])
theorem zhU (s:aW)(m:G.Mark)(hs:vR s):C0 561 [st (jD m),.d (.bE (eW s))] (st (aF (ofM s m))):=by
 refine Ct.B func561 ?_;simp;refine CI.p (zhQ s m.k m.bR hs) ?_;simp;cases hg:rK s m.k m.bR with
 |none=>
  have e:ofM s m=vQ m:=by simp[ofM,hg]
  simp;exact aA (by simp[e,vQ])
 |some r=>
  have e:ofM s m=r:=by simp[ofM,hg]
  simp;exact aA (by simp[e])
theorem zhO (s:aW):C0 509 [st (eW s)] (.d (.fn (.func 561) [] [.bE (eW s)])):=by
 refine Ct.B func509 ?_;simp;exact aA
theorem zge (s:aW)(l:List G.Mark)(hs:vR s)(hl:l.length<=1000):C0 420 [st (eW s),aB (l.map jD)] (aB ((pQ s l).map aF)):=by
 refine Ct.B func420 ?_;simp;refine CI.p (zhO s) ?_;simp;refine aH.V (l) (λk=>[(5,.d (.fn (.func 561) [] [.bE (eW s)])),(6,aB ((pQ s (l.take k.1)).map aF)),(11,aB (l.map jD)),(12,int l.length),(13,int k.1)]) (λk=>[]) 64 (λk hk1 B hB=>?_) (h0:=by constructor<;>simp[QR]);simp[QR];rcases bC hk1 with⟨x,hk,hx,hr,hm,ht,hd,hw,h⟩|rfl
 ·simp[h,hr,hw];have hlen:=K9 s (l.take k);have htk:(l.take k).length<=1000:=by simp;omega
  refine CI.ff (bN.nZ (args:=[st (jD x)]) (by exact zhU s x hs) call561 rfl rfl) rfl rfl rfl ?_;simp;refine CI.p (Bc (pQ s (l.take k)) (ofM s x) (by omega)) ?_;simp;exact hB hk (by constructor<;>simp[hw,ht,X4])
 ·simp;exact aA
attribute [simp] ntmps204 results204 ntmps207 results207
theorem zgd (s:aW)(l:List G.Mark)(hs:vR s)(hl:l.length<=1000)(hn:∀m∈l,nB m.k.name):C0 204 [st (eW s),aB (l.map jD)] (aB ((pQ s l).map aF)):=by
 refine Ct.B func204 ?_;simp;refine aH.V (l) (λk=>[(1,aB (l.map jD)),(2,.ptr 64 0),(5,aB ((pQ s (l.take k.1)).map aF)),(6,int k.1)]) (λk=>[(64,.cells ((eW s).map .d) 45)]) 65 (λk hk1 B hB=>?_) (h0:=by constructor<;>simp[QR]);simp[QR];rcases bC hk1 with⟨x,hk,hx,hr,hm,ht,hd,hw,h⟩|rfl
 ·simp[h,hr,hw];have hlen:=K9 s (l.take k);have htk:(l.take k).length<=1000:=by simp;omega
  refine CI.p (zhP s x.k x.bR hs) ?_;simp;refine dr ?_;cases hg:rK s x.k x.bR with
  |none=>
   have e:ofM s x=vQ x:=by simp[ofM,hg]
   simp[hr];refine dr ?_;refine CI.p (T8 (pQ s (l.take k)) (vQ x) (by omega) (hn x hm)) ?_ (ha:=by simp[vQ]);simp[vQ];exact hB hk (by constructor<;>simp[hw,ht,X4,e,vQ])
  |some r=>
   have e:ofM s x=r:=by simp[ofM,hg]
   have hnr:nB r.name:=by rw[<-e];exact zhR hs (hn x hm)
   simp;refine CI.p (T8 (pQ s (l.take k)) r (by omega) hnr) ?_;simp;exact hB hk (by constructor<;>simp[hw,ht,X4,e])
 ·simp;exact aA
theorem Mb (l:List aC)(hl:l.length<=1000000):C0 207 [aB (l.map aF)] (aB ((vD l).map jD)):=by
 refine Ct.B func207 ?_;simp;refine aH.gH 3 3 325 rfl ?_;refine aH.V (l) (λk=>[(0,aB (l.map aF)),(3,.own 64),(4,int k.1)]) (λk=>[(64,.grow 3 ((vD (l.take k.1)).map jD) 325)]) 65 (λk hk1 B hB=>?_);simp;rcases bC hk1 with⟨x,hk,hx,hr,hm,ht,hd,hw,h⟩|rfl
 ·simp[h,hr,hw];refine CI.p (qL x) ?_ (ha:=by simp[hr]);simp[hr];refine⟨by omega,?_⟩;refine dr ?_;exact hB hk (by constructor<;>simp[hw,ht,Md])
 ·simp;exact aA
end Go.Proofs.YtobcmagefgdgdaaGreatDoor
