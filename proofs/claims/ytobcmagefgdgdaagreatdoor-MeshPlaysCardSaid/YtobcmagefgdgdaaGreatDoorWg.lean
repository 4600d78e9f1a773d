/- LAYER 9, walked -/
import Derived.Test.YtobcmagefgdgdaaGreatDoorWx
set_option linter.unusedSimpArgs false
set_option linter.unusedVariables false
set_option maxRecDepth 100000
set_option maxHeartbeats 8000000
namespace Go.G
open Go.AI
theorem NS {l:List aC}(h:eB l=0):l.length<=64:=by
 unfold eB at h;split at h
 ·cases h
 ·omega
end Go.G
namespace Go.Proofs.YtobcmagefgdgdaaGreatDoor
open Go.AI Go.G Tryz

attribute [simp] ntmps453 results453 ntmps356 results356
theorem J4 (l:List aC)(k_:Key)(hl:l.length<=9223372036854775807):C0 453 [aB (l.map aF),st (aQ k_)] (bool (bI l k_).isSome):=by
 refine Ct.B func453 ?_;simp;refine CI.p (yU l k_ hl) ?_;simp;exact aA
theorem zfr (l:List aC)(hl:l.length<=64):C0 356 [aB (l.map aF)] (aB ((xK l).map aQ)):=by
 refine Ct.B func356 ?_;simp;refine aH.V (l) (λk=>[(0,aB (l.map aF)),(3,aB (((sB (l.take k.1) l).foldl iW []).map aQ)),(4,int k.1)]) (λk=>[]) 64 (λk hk1 B hB=>?_);simp;rcases bC hk1 with⟨x,hk,hx,hr,hm,ht,hd,hw,h⟩|rfl
 ·simp[h,hr,hw];refine CI.p (O1 x) ?_;simp;have hrl:=zP x;refine aH.V ((cD x)) (λkj=>[(0,aB (l.map aF)),(3,aB (((sB (l.take k) l++((cD x).take kj.1).filter (iF l)).foldl iW []).map aQ)),(4,int k),(5,aB ((cD x).map aQ)),(6,int kj.1)]) (λkj=>[]) 64 (λkj hk1j Bj hBj=>?_);simp;rcases bC hk1j with⟨q,hkj,hxj,hrj,hmj,htj,hdj,hwj,hj⟩|rfl
  ·simp[hj,hrj,hwj];cases hg:(bI l q).isSome with
   |true=>
    have hno:iF l q=false:=by simp[iF,hg]
    refine CI.p (J4 l q (by omega)) ?_ (ha:=by simp[hg,hrj]);simp[hg,hrj];exact hBj hkj (by constructor<;>simp[hwj,htj,nL,hno])
   |false=>
    have hno:iF l q=true:=by simp[iF,hg]
    have hlen:=Pe (sB (l.take k) l++((cD x).take kj).filter (iF l)) [];have h1:=KZ (l.take k) l;have h2:=gJ (iF l) ((cD x).take kj);have h3:(l.take k).length<=64:=by simp;omega
    have h4:((cD x).take kj).length<=33:=by simp;omega
    rw[bZ,gZ]at hlen;refine CI.p (J4 l q (by omega)) ?_ (ha:=by simp[hg,hrj]);simp[hg,hrj];refine CI.p (V0 ((sB (l.take k) l++((cD x).take kj).filter (iF l)).foldl iW []) q (by omega) (zcm hmj)) ?_;simp;exact hBj hkj (by constructor<;>simp[hwj,htj,nL,hno,qY])
  ·simp;exact hB hk (by constructor<;>simp[hw,ht,Lk])
 ·simp;have e:(sB l l).foldl iW []=xK l:=rfl;exact aA (by simp[e])
attribute [simp] ntmps355 results355 ntmps368 results368 ntmps367 results367
theorem YL (l:List Key)(k_:Key)(hl:l.length<=9223372036854775807):C1 368 [.own 0,st (aQ k_)] [(0,.grow 2 (l.map aQ) 184)] [] (bool (decide (k_∈l))) []:=by
 refine Ct.B func368 ?_;simp;refine aH.inv mixed rfl (ι:={k:Nat//k<=(l).length/\k_∉l.take k}) (λk=>[(0,.own 0),(3,.ptr 64 0),(5,int k.1)]) (λk=>[(0,.grow 2 (l.map aQ) 184),(64,.cells ((aQ k_).map .d) 184)]) 65 (λk=>(l).length-k.1) ⟨0,by omega,by simp⟩ [] (by constructor<;>simp) ?_;rintro⟨k,hk1,hi⟩ B hB;refine CI.n ?_;simp;rcases bC hk1 with⟨x,hk,hx,hr,hm,ht,hd,hw,h⟩|rfl
 ·simp[h,hr,hw,hk,hx];rw[BQ];refine dr ?_;refine aX (λh1 zz=>?_) (λh1 zz=>?_)<;>simp only[zz]<;>simp[hr]
  ·have e:k_∈l:=by rw[<-h1];exact hm
   exact⟨[],by constructor<;>simp[aI,aJ,e]⟩
  ·refine hB _ ⟨k+1,by omega,by rw[ht];simp[hi];exact λe=>h1 e.symm⟩ [] ?_ (by simp;omega);constructor<;>simp[hw]
 ·simp;rw[bX]at hi;exact⟨[],by constructor<;>simp[aI,aJ,hi]⟩
theorem zcx (l:List aC)(n:Nat){k:Nat}{x:aC}(ht:l.take (k+1)=l.take k++[x]):(l.take (k+1)).foldl (nD l) (jZ l n)=nD l ((l.take k).foldl (nD l) (jZ l n)) x:=by
 rw[ht,qY];rfl
theorem zct (l:List aC)(hl:l.length<=64):C0 367 [aB (l.map aF)] (aB ((jZ l 4).map aQ)):=by
 refine Ct.B func367 ?_;simp;have r0:tU []=[]:=rfl;refine aH.gH 3 2 184 rfl ?_;refine aH.V (l) (λk=>[(0,aB (l.map aF)),(3,.own 64),(4,int k.1)]) (λk=>[(64,.grow 2 ((tU (l.take k.1)).map aQ) 184)]) 65 (λk hk1 B hB=>?_) (h0:=by constructor<;>simp[r0]);simp[r0];rcases bC hk1 with⟨x,hk,hx,hr,hm,ht,hd,hw,h⟩|rfl
 ·simp[h,hr,hw];have hrl:=Fu (l.take k);have hrk:(l.take k).length<=64:=by simp;omega
  refine aX (λh1 zz=>?_) (λh1 zz=>?_)<;>simp only[zz]<;>simp[hr]
  ·refine CI.p (qL x) ?_ (ha:=by simp[hr]);simp[hr];refine⟨by omega,?_⟩;exact hB hk (by constructor<;>simp[hw,ht,OV,h1])
  ·exact hB hk (by constructor<;>simp[hw,ht,OV,h1])
 ·simp;have e0:tU l=jZ l 0:=rfl;rw[e0];refine aH.inv mixed rfl (ι:={n:Nat//n<=4}) (λk=>[(0,aB (l.map aF)),(3,.own 64),(5,int k.1)]) (λk=>[(64,.grow 2 ((jZ l k.1).map aQ) 184)]) 65 (λk=>4-k.1) ⟨0,by omega⟩ [] (by constructor<;>simp) ?_;rintro⟨n,hn⟩ B2 hB2;have hNl:=VZ l n;have hNb:33*l.length*n<=33*64*4:=Nat.mul_le_mul (by omega) hn;refine CI.n ?_;simp;refine aX (λhb zz=>?_) (λhb zz=>?_)<;>simp only[zz]<;>simp
  ·refine aH.V (l) (λki=>[(0,aB (l.map aF)),(3,.own 64),(5,int n),(6,int ki.1)]) (λki=>[(64,.grow 2 (((l.take ki.1).foldl (nD l) (jZ l n)).map aQ) 184)]) 65 (λki hk1i Bi hBi=>?_);simp;rcases bC hk1i with⟨x,hki,hxi,hri,hmi,hti,hdi,hwi,hi⟩|rfl
   ·simp[hi,hri,hwi];refine CI.p (O1 x) ?_;simp;have hrl:=zP x;have hO:=Y1 l (l.take ki) (jZ l n);have hOk:(l.take ki).length<=64:=by simp;omega
    obtain⟨O,hOe⟩:∃O,(l.take ki).foldl (nD l) (jZ l n)=O:=⟨_,rfl⟩;have hstep:∀y,nD l O x=y->(l.take (ki+1)).foldl (nD l) (jZ l n)=y:=λy hy=>by rw[zcx l n hti,hOe];exact hy
    rw[hOe]at hO⊢;by_cases hm:x.key∈O
    ·have hrow:nD l O x=(cD x).foldl (lH l) O:=by unfold nD;rw[aZ hm]
     refine aH.inv mixed rfl (ι:={j:Nat//j<=(cD x).length}) (λkj=>[(0,aB (l.map aF)),(3,.own 64),(5,int n),(6,int ki),(7,aB ((cD x).map aQ)),(8,int kj.1)]) (λkj=>[(64,.grow 2 ((((cD x).take kj.1).foldl (lH l) O).map aQ) 184)]) 65 (λkj=>(cD x).length-kj.1) ⟨0,y8 _⟩ [] (by constructor<;>simp) ?_;rintro⟨j,hj⟩ Bj hBj;have hFl:=YZ l ((cD x).take j) O;have hFj:((cD x).take j).length<=33:=by simp;omega
     have hmem:x.key∈((cD x).take j).foldl (lH l) O:=LN l _ O _ hm;refine CI.n ?_;simp;refine cV (λhb2 zz=>?_) (λhb2 zz=>?_)<;>simp only[zz]<;>simp[hri]
     ·have hlt:j<(cD x).length:=by omega
      obtain⟨q,hq⟩:∃q,(cD x)[j]? =some q:=⟨_,bO hlt⟩;have hqe:(cD x)[j]=q:=(cE.1 hq).2;have htq:(cD x).take (j+1)=(cD x).take j++[q]:=by rw[jH,hq];rfl
      have hwj:IntKind.wrap .i64 ((j:Int)+1)=j+1:=wz _;have hnext:((cD x).take (j+1)).foldl (lH l) O=lH l (((cD x).take j).foldl (lH l) O) q:=by rw[htq,qY];rfl
      obtain⟨S,hS⟩:∃S,((cD x).take j).foldl (lH l) O=S:=⟨_,rfl⟩;rw[hS]at hFl hmem hnext⊢;refine CI.p (qL x) ?_;simp;refine CI.cc [64] (YL S x.key (by omega)) ?_ (ha:=by simp[hmem]) (hk:=by simp[hmem]);simp[hmem];simp[hlt,hqe];refine CI.p (J4 l q (by omega)) ?_;simp;cases hg:(bI l q).isSome with
      |false=>
       have hst:lH l S q=S:=by unfold lH;rw[aT (by simp[hg])]
       rw[hst]at hnext;simp;refine hBj _ ⟨j+1,by omega⟩ [] ?_ (by simp;omega);constructor<;>simp[hwj,hnext]
      |true=>
       simp[hlt,hqe];refine CI.cc [64] (YL S q (by omega)) ?_;simp;by_cases hqS:q∈S
       ·have hst:lH l S q=S:=by unfold lH;rw[aT (by simp[hqS])]
        rw[hst]at hnext;simp[hqS];refine hBj _ ⟨j+1,by omega⟩ [] ?_ (by simp;omega);constructor<;>simp[hwj,hnext]
       ·have hst:lH l S q=S++[q]:=by unfold lH;rw[aZ ⟨hg,hqS⟩]
        rw[hst]at hnext;simp[hqS,hlt,hqe];refine⟨by omega,?_⟩;refine hBj _ ⟨j+1,by omega⟩ [] ?_ (by simp;omega);constructor<;>simp[hwj,hnext]
     ·have hje:j=(cD x).length:=by omega
      subst hje;have hn2:=hstep _ hrow;simp;exact hBi hki (by constructor<;>simp[hwi,hn2])
    ·have hrow:nD l O x=O:=by unfold nD;rw[aT hm]
     have hn2:=hstep _ hrow;refine aH.un ?_;simp[hri];refine cV (λhb2 zz=>?_) (λhb2 zz=>?_)<;>simp only[zz]<;>simp[hri]
     ·refine CI.p (qL x) ?_;simp;refine CI.cc [64] (YL O x.key (by omega)) ?_ (ha:=by simp[hm]) (hk:=by simp[hm]);simp[hm];exact hBi hki (by constructor<;>simp[hwi,hn2])
     ·exact hBi hki (by constructor<;>simp[hwi,hn2])
   ·simp;have hw2:IntKind.wrap .i64 ((n:Int)+1)=((n+1:Nat):Int):=by rw[wz _];omega
    have e1:l.foldl (nD l) (jZ l n)=jZ l (n+1):=rfl;refine hB2 _ ⟨n+1,by omega⟩ [] ?_ (by simp;omega);constructor<;>simp[hw2,e1]
  ·have hn4:n=4:=by omega
   subst hn4;exact aA
end Go.Proofs.YtobcmagefgdgdaaGreatDoor
namespace Go.G
open Go.AI
theorem Gi {l:List aC}{a:List aC}{x:aC}:(a++[x]).filter (λr=>decide (r.key∈jZ l 4))=a.filter (λr=>decide (r.key∈jZ l 4))++(if x.key∈jZ l 4 then [x]else []):=by
 by_cases h:x.key∈jZ l 4<;>simp[nL,h]
theorem ZG (a:List aC)(b:List aC)(x:aC):iN a (b++[x])=iN a b++(if bI a x.key=some x then []else [x]):=by
 by_cases h:bI a x.key=some x<;>simp[iN,nL,h]
theorem Qc (a:List aC)(b:List aC)(x:aC):kA (a++[x]) b=kA a b++(if(bI b x.key).isSome then []else [x.key]):=by
 cases h:bI b x.key<;>simp[kA,nL,h]
@[simp] theorem diffA_nil (a:List aC):iN a []=[]:=rfl
@[simp] theorem diffG_nil (b:List aC):kA [] b=[]:=rfl
theorem UZ (now a:List aC)(x:aC)(v:Int):kI now (a++[x]) v=kI now a v++[sU now v x]:=by simp[N8]
@[simp] theorem stampR_nil (now:List aC)(v:Int):kI now [] v=[]:=rfl
theorem Yq (now a:List aC)(v:Int):(kI now a v).length=a.length:=by simp[kI]
end Go.G
namespace Go.Proofs.YtobcmagefgdgdaaGreatDoor
open Go.AI Go.G Tryz
attribute [simp] ntmps278 results278 ntmps357 results357 ntmps358 results358 ntmps260 results260
theorem O4 (l:List aC)(hl:l.length<=64):C0 278 [aB (l.map aF)] (aB ((VY l).map aF)):=by
 refine Ct.B func278 ?_;simp;have hN:=VZ l 4;refine CI.p (zct l hl) ?_;simp;refine aH.gH 4 7 174 rfl ?_;refine aH.V (l) (λk=>[(0,aB (l.map aF)),(3,aB ((jZ l 4).map aQ)),(4,.own 64),(5,int k.1)]) (λk=>[(64,.grow 7 (((l.take k.1).filter λr=>decide (r.key∈jZ l 4)).map aF) 174)]) 65 (λk hk1 B hB=>?_);simp;rcases bC hk1 with⟨x,hk,hx,hr,hm,ht,hd,hw,h⟩|rfl
 ·simp[h,hr,hw];have hf:=gJ (λr:aC=>decide (r.key∈jZ l 4)) (l.take k);have hrk:(l.take k).length<=64:=by simp;omega
  refine CI.p (qL x) ?_;simp;refine CI.p (Q5 (jZ l 4) x.key (by omega)) ?_;simp;by_cases h1:x.key∈jZ l 4
  ·simp[h1,hr];refine⟨by omega,?_⟩;exact hB hk (by constructor<;>simp[hw,ht,Gi,h1])
  ·simp[h1,hr];exact hB hk (by constructor<;>simp[hw,ht,Gi,h1])
 ·simp;have e:l.filter (λr=>decide (r.key∈jZ l 4))=VY l:=rfl;exact aA (by simp[e])
theorem ziC (a b:List aC)(ha:cL a)(hl:a.length<=1000000)(hb:b.length<=1000000):C0 358 [aB (a.map aF),aB (b.map aF)] (.aU [aB ((iN a b).map aF),aB ((kA a b).map aQ)]):=by
 refine Ct.B func358 ?_;simp;refine aH.gH 6 7 174 rfl ?_;refine aH.V (b) (λk=>[(0,aB (a.map aF)),(1,aB (b.map aF)),(6,.own 64),(7,int k.1)]) (λk=>[(64,.grow 7 ((iN a (b.take k.1)).map aF) 174)]) 65 (λk hk1 B hB=>?_);simp;rcases bC hk1 with⟨x,hk,hx,hr,hm,ht,hd,hw,h⟩|rfl
 ·simp[h,hr,hw];have hf:=RS a (b.take k);have hrk:(b.take k).length<=1000000:=by simp;omega
  refine CI.p (qL x) ?_;simp;cases hg:bI a x.key with
  |none=>
   have hne:¬(none=some x):=by simp
   refine CI.p (yU a x.key (by omega)) ?_ (ha:=by simp[hg,hr,hk,hx]);simp[hg,hr,hk,hx];refine dr ?_;refine⟨by omega,?_⟩;exact hB hk (by constructor<;>simp[hw,ht,ZG,hg])
  |some o=>
   refine CI.p (yU a x.key (by omega)) ?_ (ha:=by simp[hg,hr,hk,hx]);simp[hg,hr,hk,hx];refine CI.p (VN o x (ha.all o (BU hg))) ?_ (ha:=by simp[hr,hk,hx]);simp[hr,hk,hx];refine dr ?_;by_cases ho:o=x
   ·simp[ho];exact hB hk (by constructor<;>simp[hw,ht,ZG,hg,ho])
   ·simp[ho,hr,hk,hx];refine⟨by omega,?_⟩;exact hB hk (by constructor<;>simp[hw,ht,ZG,hg,ho])
 ·simp;refine aH.gH 10 2 184 rfl ?_;refine aH.V (a) (λk=>[(0,aB (a.map aF)),(1,aB (b.map aF)),(6,.own 64),(10,.own 65),(11,int k.1)]) (λk=>[(64,.grow 7 ((iN a b).map aF) 174),(65,.grow 2 ((kA (a.take k.1) b).map aQ) 184)]) 66 (λk hk1 B hB=>?_);simp;rcases bC hk1 with⟨x,hk,hx,hr,hm,ht,hd,hw,h⟩|rfl
  ·simp[h,hr,hw];have hf:=RR (a.take k) b;have hrk:(a.take k).length<=1000000:=by simp;omega
   refine CI.p (qL x) ?_;simp;cases hg:bI b x.key with
   |none=>
    refine CI.p (yU b x.key (by omega)) ?_ (ha:=by simp[hg,hr,hk,hx]);simp[hg,hr,hk,hx];refine CI.p (qL x) ?_;simp;refine⟨by omega,?_⟩;exact hB hk (by constructor<;>simp[hw,ht,Qc,hg])
   |some o=>
    refine CI.p (yU b x.key (by omega)) ?_ (ha:=by simp[hg,hr,hk,hx]);simp[hg,hr,hk,hx];exact hB hk (by constructor<;>simp[hw,ht,Qc,hg])
  ·simp;first|exact aA|exact aK
theorem Ym (now l:List aC)(v:Int)(hn:cL now)(hnl:now.length<=1000000)(hl:l.length<=1000000):C0 260 [aB (now.map aF),aB (l.map aF),int v] (aB ((kI now l v).map aF)):=by
 refine Ct.B func260 ?_;simp;refine aH.gH 7 7 174 rfl ?_;refine aH.V (l) (λk=>[(0,aB (now.map aF)),(1,aB (l.map aF)),(2,int v),(7,.own 64),(8,int k.1)]) (λk=>[(64,.grow 7 ((kI now (l.take k.1) v).map aF) 174)]) 65 (λk hk1 B hB=>?_);simp;rcases bC hk1 with⟨x,hk,hx,hr,hm,ht,hd,hw,h⟩|rfl
 ·simp[h,hr,hw];have hf:=Yq now (l.take k) v;have hrk:(l.take k).length<=1000000:=by simp;omega
  refine CI.p (qL x) ?_;simp;cases hg:bI now x.key with
  |none=>
   have hs:sU now v x={x with bR:=v}:=by unfold sU;rw[hg]
   refine CI.p (yU now x.key (by omega)) ?_ (ha:=by simp[hg]);simp[hg];refine⟨by omega,?_⟩;exact hB hk (by constructor<;>simp[hw,ht,UZ,hs])
  |some o=>
   refine CI.p (yU now x.key (by omega)) ?_ (ha:=by simp[hg]);simp[hg];refine CI.p (Sn o {x with bR:=v} (hn.all o (BU hg))) ?_ (ha:=by simp[Sl]);simp[Sl];by_cases ha:jF o x=true
   ·have hs:sU now v x={x with bR:=o.bR}:=by unfold sU;rw[hg];simp[ha]
    simp[ha];refine⟨by omega,?_⟩;exact hB hk (by constructor<;>simp[hw,ht,UZ,hs])
   ·have hs:sU now v x={x with bR:=v}:=by unfold sU;rw[hg];simp[ha]
    simp[ha];refine⟨by omega,?_⟩;exact hB hk (by constructor<;>simp[hw,ht,UZ,hs])
 ·simp;first|exact aA|exact aK
end Go.Proofs.YtobcmagefgdgdaaGreatDoor
