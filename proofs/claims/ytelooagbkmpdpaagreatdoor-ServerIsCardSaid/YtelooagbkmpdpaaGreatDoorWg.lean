/-
  LAYER 9, THE REFERENCE, walked
-/
import Derived.Test.YtelooagbkmpdpaaGreatDoorWf
set_option linter.unusedSimpArgs false
set_option linter.unusedVariables false
set_option maxRecDepth 100000
set_option maxHeartbeats 8000000
namespace Go.Proofs.YtelooagbkmpdpaaGreatDoor
open Go.AI Go.G
attribute [simp] Tryz.ntmps198 Tryz.results198
theorem QI (l:List aC)(k_:Key)(hl:l.length<=9223372036854775807):Ct Tryz.prog 198 [aD (l.map aF),st (aK k_)] [] [] (bool (aQ l k_).isSome) []:=by
 refine Ct.B Tryz.func198 ?_;simp;refine CI.p (vD l k_ hl) ?_;simp;first|exact aA (by simp) rfl|exact aB (by simp)
attribute [simp] Tryz.ntmps148 Tryz.results148
theorem E5 (l:List Key)(k_:Key)(hl:l.length<=9223372036854775807):Ct Tryz.prog 148 [.own 0,st (aK k_)] [(0,.grow 2 (l.map aK) 86)] [] (bool (decide (k_∈l))) []:=by
 refine Ct.B Tryz.func148 ?_;simp;refine aJ.inv mixed rfl (ι:={k:Nat//k<=(l).length/\k_∉l.take k}) (λk=>[(0,.own 0),(3,.ptr 64 0),(5,int k.1)]) (λk=>[(0,.grow 2 (l.map aK) 86),(64,.cells ((aK k_).map .d) 86)]) 65 (λk=>(l).length-k.1) ⟨0,by omega,by simp⟩ [] (by constructor<;>simp) ?_;rintro⟨k,hk1,hi⟩ B hB;refine CI.n ?_;simp;refine aE (λh=>?_) (λh=>?_)
 ·have hk:k<(l).length:=by simpa using h
  obtain⟨x,hx,hr,hm,ht,hd,hw⟩:=bB hk;simp only[h];simp[hr,hw,hk,hx];rw[q9];refine⟨by decide+kernel,?_⟩;refine aE (λh1=>?_) (λh1=>?_)<;>simp only[h1]<;>simp[hr]<;>(try simp only[nT,nF,dT,dF]at h1)
  ·have e:k_∈l:=by rw[<-h1];exact hm
   first| (refine⟨[],?_,?_,?_,?_,?_,?_,?_⟩<;>simp[bF,bI,e];done)| (refine⟨by decide+kernel,?_⟩;refine⟨[],?_,?_,?_,?_,?_,?_,?_⟩<;>simp[bF,bI,e])
  ·refine hB _ ⟨k+1,by omega,by rw[ht];simp[hi];exact λe=>h1 e.symm⟩ [] ?_ (by simp;omega);constructor<;>simp[hw]
 ·obtain rfl:k=(l).length:=by simp at h;omega
  simp only[h];simp;rw[bK]at hi;first| (refine⟨[],?_,?_,?_,?_,?_,?_,?_⟩<;>simp[bF,bI,hi];done)| (refine⟨by decide+kernel,?_⟩;refine⟨[],?_,?_,?_,?_,?_,?_,?_⟩<;>simp[bF,bI,hi])
theorem T8 (l:List aC)(n:Nat){k:Nat}{x:aC}(ht:l.take (k+1)=l.take k++[x]):(l.take (k+1)).foldl (gA l) (eF l n)=gA l ((l.take k).foldl (gA l) (eF l n)) x:=by
 rw[ht,mY];rfl
attribute [simp] Tryz.ntmps147 Tryz.results147
theorem TZ (l:List aC)(hl:l.length<=100):Ct Tryz.prog 147 [aD (l.map aF)] [] [] (aD ((eF l 4).map aK)) []:=by
 refine Ct.B Tryz.func147 ?_;simp;have r0:iJ []=[]:=rfl;refine aJ.gK 3 2 86 rfl ?_;refine aJ.V (l) (λk=>[(0,aD (l.map aF)),(3,.own 64),(4,int k.1)]) (λk=>[(64,.grow 2 ((iJ (l.take k.1)).map aK) 86)]) 65 (λk hk1 B hB=>?_) (h0:=by constructor<;>simp[r0]);simp[r0];refine aE (λh=>?_) (λh=>?_)
 ·have hk:k<(l).length:=by simpa using h
  obtain⟨x,hx,hr,hm,ht,hd,hw⟩:=bB hk;simp only[h];simp[hr,hw];have hrl:=ID (l.take k);have hrk:(l.take k).length<=100:=by simp;omega
  refine aE (λh1=>?_) (λh1=>?_)<;>simp only[h1]<;>simp[hr]<;>(try simp only[nT,nF,dT,dF]at h1)
  ·refine CI.p (l5 x) ?_ (ha:=by simp[hr]);simp[hr];refine⟨by omega,?_⟩;exact hB hk (by constructor<;>simp[hw,ht,uY,h1])
  ·exact hB hk (by constructor<;>simp[hw,ht,uY,h1])
 ·obtain rfl:k=(l).length:=by simp at h;omega
  simp only[h];simp;have e0:iJ l=eF l 0:=rfl;rw[e0];refine aJ.inv mixed rfl (ι:={n:Nat//n<=4}) (λk=>[(0,aD (l.map aF)),(3,.own 64),(5,int k.1)]) (λk=>[(64,.grow 2 ((eF l k.1).map aK) 86)]) 65 (λk=>4-k.1) ⟨0,by omega⟩ [] (by constructor<;>simp) ?_;rintro⟨n,hn⟩ B2 hB2;have hNl:=DL l n;have hNb:33*l.length*n<=33*100*4:=Nat.mul_le_mul (by omega) hn;refine CI.n ?_;simp;refine aE (λhb=>?_) (λhb=>?_)<;>simp only[hb]<;>simp<;>(try simp only[nT,nF,dT,dF]at hb)
  ·refine aJ.V (l) (λki=>[(0,aD (l.map aF)),(3,.own 64),(5,int n),(6,int ki.1)]) (λki=>[(64,.grow 2 (((l.take ki.1).foldl (gA l) (eF l n)).map aK) 86)]) 65 (λki hk1i Bi hBi=>?_);simp;refine aE (λhi=>?_) (λhi=>?_)
   ·have hki:ki<(l).length:=by simpa using hi
    obtain⟨x,hxi,hri,hmi,hti,hdi,hwi⟩:=bB hki;simp only[hi];simp[hri,hwi];refine CI.p (IN x) ?_;simp;have hrl:=nV x;have hO:=FF l (l.take ki) (eF l n);have hOk:(l.take ki).length<=100:=by simp;omega
    obtain⟨O,hOe⟩:∃O,(l.take ki).foldl (gA l) (eF l n)=O:=⟨_,rfl⟩;have hstep:∀y,gA l O x=y->(l.take (ki+1)).foldl (gA l) (eF l n)=y:=λy hy=>by rw[T8 l n hti,hOe];exact hy
    rw[hOe]at hO⊢;by_cases hm:x.key∈O
    ·have hrow:gA l O x=(bJ x).foldl (fV l) O:=by unfold gA;rw[bA hm]
     refine aJ.inv mixed rfl (ι:={j:Nat//j<=(bJ x).length}) (λkj=>[(0,aD (l.map aF)),(3,.own 64),(5,int n),(6,int ki),(7,aD ((bJ x).map aK)),(8,int kj.1)]) (λkj=>[(64,.grow 2 ((((bJ x).take kj.1).foldl (fV l) O).map aK) 86)]) 65 (λkj=>(bJ x).length-kj.1) ⟨0,jJ _⟩ [] (by constructor<;>simp) ?_;rintro⟨j,hj⟩ Bj hBj;have hFl:=FD l ((bJ x).take j) O;have hFj:((bJ x).take j).length<=33:=by simp;omega
     have hmem:x.key∈((bJ x).take j).foldl (fV l) O:=xK l _ O _ hm;refine CI.n ?_;simp;refine aM (λhb2=>?_) (λhb2=>?_)<;>simp only[hb2]<;>simp[hri]<;>(try simp only[nT,nF,dT,dF]at hb2)
     ·have hlt:j<(bJ x).length:=by omega
      obtain⟨q,hq⟩:∃q,(bJ x)[j]? =some q:=⟨_,bL hlt⟩;have hqe:(bJ x)[j]=q:=(cJ.1 hq).2;have htq:(bJ x).take (j+1)=(bJ x).take j++[q]:=by rw[eW,hq];rfl
      have hwj:IntKind.wrap .i64 ((j:Int)+1)=j+1:=wrap_i64 (by omega) (by omega);have hnext:((bJ x).take (j+1)).foldl (fV l) O=fV l (((bJ x).take j).foldl (fV l) O) q:=by rw[htq,mY];rfl
      obtain⟨S,hS⟩:∃S,((bJ x).take j).foldl (fV l) O=S:=⟨_,rfl⟩;rw[hS]at hFl hmem hnext⊢;refine CI.p (l5 x) ?_;simp;refine CI.cc [64] (E5 S x.key (by omega)) ?_ (ha:=by simp[hmem]) (hk:=by simp[hmem]);simp[hmem];simp[hlt,hqe];refine CI.p (QI l q (by omega)) ?_;simp;cases hg:(aQ l q).isSome with
      |false=>
       have hst:fV l S q=S:=by unfold fV;rw[aR (by simp[hg])]
       rw[hst]at hnext;simp;refine hBj _ ⟨j+1,by omega⟩ [] ?_ (by simp;omega);constructor<;>simp[hwj,hnext]
      |true=>
       simp[hlt,hqe];refine CI.cc [64] (E5 S q (by omega)) ?_;simp;by_cases hqS:q∈S
       ·have hst:fV l S q=S:=by unfold fV;rw[aR (by simp[hqS])]
        rw[hst]at hnext;simp[hqS];refine hBj _ ⟨j+1,by omega⟩ [] ?_ (by simp;omega);constructor<;>simp[hwj,hnext]
       ·have hst:fV l S q=S++[q]:=by unfold fV;rw[bA ⟨hg,hqS⟩]
        rw[hst]at hnext;simp[hqS,hlt,hqe];refine⟨by omega,?_⟩;refine hBj _ ⟨j+1,by omega⟩ [] ?_ (by simp;omega);constructor<;>simp[hwj,hnext]
     ·have hje:j=(bJ x).length:=by omega
      subst hje;have hn2:=hstep _ hrow;simp;exact hBi hki (by constructor<;>simp[hwi,hn2])
    ·have hrow:gA l O x=O:=by unfold gA;rw[aR hm]
     have hn2:=hstep _ hrow;refine aJ.un ?_;simp[hri];refine aM (λhb2=>?_) (λhb2=>?_)<;>simp only[hb2]<;>simp[hri]<;>(try simp only[nT,nF,dT,dF]at hb2)
     ·refine CI.p (l5 x) ?_;simp;refine CI.cc [64] (E5 O x.key (by omega)) ?_ (ha:=by simp[hm]) (hk:=by simp[hm]);simp[hm];exact hBi hki (by constructor<;>simp[hwi,hn2])
     ·exact hBi hki (by constructor<;>simp[hwi,hn2])
   ·obtain rfl:ki=(l).length:=by simp at hi;omega
    simp only[hi];simp;have hw2:IntKind.wrap .i64 ((n:Int)+1)=((n+1:Nat):Int):=by rw[wrap_i64 (by omega) (by omega)];omega
    have e1:l.foldl (gA l) (eF l n)=eF l (n+1):=rfl;refine hB2 _ ⟨n+1,by omega⟩ [] ?_ (by simp;omega);constructor<;>simp[hw2,e1]
  ·have hn4:n=4:=by omega
   subst hn4;first|exact aA (by simp) rfl|exact aB (by simp)
end Go.Proofs.YtelooagbkmpdpaaGreatDoor
namespace Go.G
open Go.AI
theorem IX {l:List aC}{a:List aC}{x:aC}:(a++[x]).filter (λr=>decide (r.key∈eF l 4))=a.filter (λr=>decide (r.key∈eF l 4))++(if x.key∈eF l 4 then [x]else []):=by
 by_cases h:x.key∈eF l 4<;>simp[jM,h]
theorem FT (a:List aC)(b:List aC)(x:aC):dR a (b++[x])=dR a b++(if aQ a x.key=some x then []else [x]):=by
 by_cases h:aQ a x.key=some x<;>simp[dR,jM,h]
theorem NO (a:List aC)(b:List aC)(x:aC):eQ (a++[x]) b=eQ a b++(if(aQ b x.key).isSome then []else [x.key]):=by
 cases h:aQ b x.key<;>simp[eQ,jM,h]
@[simp] theorem diffA_nil (a:List aC):dR a []=[]:=rfl
@[simp] theorem diffG_nil (b:List aC):eQ [] b=[]:=rfl
@[simp] theorem stampR_nil (now:List aC)(v:Int):kN now [] v=[]:=rfl
end Go.G
namespace Go.Proofs.YtelooagbkmpdpaaGreatDoor
open Go.AI Go.G
attribute [simp] Tryz.ntmps97 Tryz.results97
theorem T5 (l:List aC)(hl:l.length<=100):Ct Tryz.prog 97 [aD (l.map aF)] [] [] (aD ((zH l).map aF)) []:=by
 refine Ct.B Tryz.func97 ?_;simp;have hN:=DL l 4;refine CI.p (TZ l hl) ?_;simp;refine aJ.gK 4 7 82 rfl ?_;refine aJ.V (l) (λk=>[(0,aD (l.map aF)),(3,aD ((eF l 4).map aK)),(4,.own 64),(5,int k.1)]) (λk=>[(64,.grow 7 (((l.take k.1).filter λr=>decide (r.key∈eF l 4)).map aF) 82)]) 65 (λk hk1 B hB=>?_);simp;refine aE (λh=>?_) (λh=>?_)
 ·have hk:k<(l).length:=by simpa using h
  obtain⟨x,hx,hr,hm,ht,hd,hw⟩:=bB hk;simp only[h];simp[hr,hw];have hf:=eE (λr:aC=>decide (r.key∈eF l 4)) (l.take k);have hrk:(l.take k).length<=100:=by simp;omega
  refine CI.p (l5 x) ?_;simp;refine CI.p (A0 (eF l 4) x.key (by omega)) ?_;simp;by_cases h1:x.key∈eF l 4
  ·simp[h1,hr];refine⟨by omega,?_⟩;exact hB hk (by constructor<;>simp[hw,ht,IX,h1])
  ·simp[h1,hr];exact hB hk (by constructor<;>simp[hw,ht,IX,h1])
 ·obtain rfl:k=(l).length:=by simp at h;omega
  simp only[h];simp;have e:l.filter (λr=>decide (r.key∈eF l 4))=zH l:=rfl;first|exact aA (by simp[e]) rfl|exact aB (by simp[e])
attribute [simp] Tryz.ntmps96 Tryz.results96
theorem Cd (a b:List aC)(ha:gG a)(hl:a.length<=1000000)(hb:b.length<=1000000):Ct Tryz.prog 96 [aD (a.map aF),aD (b.map aF)] [] [] (.bC [aD ((dR a b).map aF),aD ((eQ a b).map aK)]) []:=by
 refine Ct.B Tryz.func96 ?_;simp;refine aJ.gK 6 7 82 rfl ?_;refine aJ.V (b) (λk=>[(0,aD (a.map aF)),(1,aD (b.map aF)),(6,.own 64),(7,int k.1)]) (λk=>[(64,.grow 7 ((dR a (b.take k.1)).map aF) 82)]) 65 (λk hk1 B hB=>?_);simp;refine aE (λh=>?_) (λh=>?_)
 ·have hk:k<(b).length:=by simpa using h
  obtain⟨x,hx,hr,hm,ht,hd,hw⟩:=bB hk;simp only[h];simp[hr,hw];have hf:=BH a (b.take k);have hrk:(b.take k).length<=1000000:=by simp;omega
  refine CI.p (l5 x) ?_;simp;cases hg:aQ a x.key with
  |none=>
   have hne:¬(none=some x):=by simp
   refine CI.p (vD a x.key (by omega)) ?_ (ha:=by simp[hg,hr,hk,hx]);simp[hg,hr,hk,hx];refine⟨by decide+kernel,?_⟩;refine⟨by omega,?_⟩;exact hB hk (by constructor<;>simp[hw,ht,FT,hg])
  |some o=>
   refine CI.p (vD a x.key (by omega)) ?_ (ha:=by simp[hg,hr,hk,hx]);simp[hg,hr,hk,hx];refine CI.p (DC o x (ha.all o (tK hg))) ?_ (ha:=by simp[hr,hk,hx]);simp[hr,hk,hx];refine⟨by decide+kernel,?_⟩;by_cases ho:o=x
   ·simp[ho];exact hB hk (by constructor<;>simp[hw,ht,FT,hg,ho])
   ·simp[ho,hr,hk,hx];refine⟨by omega,?_⟩;exact hB hk (by constructor<;>simp[hw,ht,FT,hg,ho])
 ·obtain rfl:k=(b).length:=by simp at h;omega
  simp only[h];simp;refine aJ.gK 10 2 86 rfl ?_;refine aJ.V (a) (λk=>[(0,aD (a.map aF)),(1,aD (b.map aF)),(6,.own 64),(10,.own 65),(11,int k.1)]) (λk=>[(64,.grow 7 ((dR a b).map aF) 82),(65,.grow 2 ((eQ (a.take k.1) b).map aK) 86)]) 66 (λk hk1 B hB=>?_);simp;refine aE (λh=>?_) (λh=>?_)
  ·have hk:k<(a).length:=by simpa using h
   obtain⟨x,hx,hr,hm,ht,hd,hw⟩:=bB hk;simp only[h];simp[hr,hw];have hf:=BG (a.take k) b;have hrk:(a.take k).length<=1000000:=by simp;omega
   refine CI.p (l5 x) ?_;simp;cases hg:aQ b x.key with
   |none=>
    refine CI.p (vD b x.key (by omega)) ?_ (ha:=by simp[hg,hr,hk,hx]);simp[hg,hr,hk,hx];refine CI.p (l5 x) ?_;simp;refine⟨by omega,?_⟩;exact hB hk (by constructor<;>simp[hw,ht,NO,hg])
   |some o=>
    refine CI.p (vD b x.key (by omega)) ?_ (ha:=by simp[hg,hr,hk,hx]);simp[hg,hr,hk,hx];exact hB hk (by constructor<;>simp[hw,ht,NO,hg])
  ·obtain rfl:k=(a).length:=by simp at h;omega
   simp only[h];simp;first|exact aA (by simp) rfl|exact aB (by simp)
end Go.Proofs.YtelooagbkmpdpaaGreatDoor
