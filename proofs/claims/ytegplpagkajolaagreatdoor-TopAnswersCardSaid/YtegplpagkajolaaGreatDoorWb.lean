/-
  LAYERS 3 to 14: the walks of keys, references, configurations, of the program and of the reference.
-/
import Derived.Test.YtegplpagkajolaaGreatDoorWa
import Derived.Test.YtegplpagkajolaaGreatDoorPl
set_option linter.unusedSimpArgs false
set_option linter.unusedVariables false
set_option maxRecDepth 100000
set_option maxHeartbeats 8000000
namespace Go.Proofs.YtegplpagkajolaaGreatDoor
open Go.AI Go.G Tryz
attribute [simp] ntmps68 results68
theorem oX (r:aA):Ct prog 68 [st (aK r)] [] [] (st (bP r.key)) []:=by
 refine Ct.B func68 ?_;simp;exact aB (by simp[aA.key]) rfl
attribute [simp] ntmps51 results51 ntmps160 results160
theorem zhm (r:aA)(hl:r.rules.length<=9223372036854775807):Ct prog 51 [st (aK r)] [] [] (bool (zR r)) []:=by
 refine Ct.B func51 ?_;simp;refine aQ.inv mixed rfl (ι:={k:Nat//k<=(r.rules).length/\(r.rules.take k).all yH=true}) (fun k=>[(1,.ptr 64 0),(3,int k.1)]) (fun k=>[(64,.cells ((aK r).map .d) 126)]) 65 (fun k=>(r.rules).length-k.1) ⟨0,by omega,by simp⟩ [] (by constructor<;>simp) ?_;rintro⟨k,hk1,hi⟩ B hB;refine CI.n ?_;simp;refine aJ (fun h=>?_) (fun h=>?_)
 ·have hk:k<(r.rules).length:=by simpa using h
  obtain⟨x,hx,hr,hm,ht,hd,hw⟩:=dL hk;simp only[h];simp[hr,hw];have ef:yH x=false->zR r=false:=fun e=>by
   have:r.rules.all yH=false:=by rw[B4];exact⟨x,hm,by simp[e]⟩
   simp only[zR,this,Bool.false_and]
  have s1:=mD x.host;have s2:=mD x.pre;refine bX (fun h1=>?_) (fun h1=>?_)<;>simp only[h1]<;>simp[hr]<;>(try simp only[nT,nF,dT,dF]at h1)
  ·first|exact aB (by simp[ef (by simp[yH];omega)]) rfl|exact cK (by simp[ef (by simp[yH];omega)])
  refine bX (fun h2=>?_) (fun h2=>?_)<;>simp only[h2]<;>simp[hr]<;>(try simp only[nT,nF,dT,dF]at h2)
  ·first|exact aB (by simp[ef (by simp[yH];omega)]) rfl|exact cK (by simp[ef (by simp[yH];omega)])
  refine aJ (fun h3=>?_) (fun h3=>?_)<;>simp only[h3]<;>simp[hr]<;>(try simp only[nT,nF,dT,dF]at h3)
  ·first|exact aB (by simp[ef (by simp[yH];omega)]) rfl|exact cK (by simp[ef (by simp[yH];omega)])
  ·have e:yH x=true:=by simp[yH];omega
   refine hB _ ⟨k+1,by omega,by simp[ht,hi,e]⟩ [] ?_ (by simp;omega);constructor<;>simp[hw,ht,e]
 ·obtain rfl:k=(r.rules).length:=by simp at h;omega
  simp only[h];simp;rw[fA]at hi;have s3:=mD r.name;have s4:=mD r.to;refine bX (fun g1=>?_) (fun g1=>?_)<;>simp only[g1]<;>simp<;>(try simp only[nT,nF,dT,dF]at g1)
  ·have a1:r.rules.length<=20:=by omega
   refine bX (fun g2=>?_) (fun g2=>?_)<;>simp only[g2]<;>simp<;>(try simp only[nT,nF,dT,dF]at g2)
   ·have a2:r.cT.length<=20:=by omega
    refine bX (fun g3=>?_) (fun g3=>?_)<;>simp only[g3]<;>simp<;>(try simp only[nT,nF,dT,dF]at g3)
    ·have a3:(bs r.name).length<=100:=by omega
     by_cases g4:(bs r.to).length<=100
     ·exact aB (by simp[zR,hi,a1,a2,a3,g4,s4];try omega) rfl
     ·exact aB (by simp[zR,hi,a1,a2,a3,g4,s4];try omega) rfl
    ·have a3:¬(bs r.name).length<=100:=by omega
     exact aB (by simp[zR,a3]) rfl
   ·have a2:¬r.cT.length<=20:=by omega
    exact aB (by simp[zR,a2]) rfl
  ·have a1:¬r.rules.length<=20:=by omega
   exact aB (by simp[zR,a1]) rfl
theorem zbT (a b:List gB)(hl:a.length<=9223372036854775807/\∀x∈a,x.split.length<=9223372036854775807):Ct prog 160 [aC (a.map fR),aC (b.map fR)] [] [] (bool (decide (a=b))) []:=by
 refine Ct.B func160 ?_;simp;obtain⟨hl1,hl2⟩:=hl;refine aJ (fun h1=>?_) (fun h1=>?_)<;>simp only[h1]<;>simp<;>(try simp only[nT,nF,dT,dF]at h1)
 ·have e:¬a=b:=fun e=>h1 (by rw[e])
  exact aB (by simp[e]) rfl
 have hab:a.length=b.length:=by omega
 refine aQ.inv mixed rfl (ι:={k:Nat//k<=(a).length/\a.take k=b.take k}) (fun k=>[(0,aC (a.map fR)),(1,aC (b.map fR)),(5,int k.1)]) (fun k=>[]) 64 (fun k=>(a).length-k.1) ⟨0,by omega,by simp⟩ [] (by constructor<;>simp) ?_;rintro⟨k,hk1,hi⟩ B hB;refine CI.n ?_;simp;refine aJ (fun h=>?_) (fun h=>?_)
 ·have hk:k<(a).length:=by simpa using h
  obtain⟨x,hx,hr,hm,ht,hd,hw⟩:=dL hk;simp only[h];simp[hr,hw];have hrb:b[k]? =some b[k]:=cI (by omega);have htb:b.take (k+1)=b.take k++[b[k]]:=by rw[nZ,hrb];rfl
  have hne:x≠b[k]->a≠b:=by
   intro h2 e;subst e;rw[hr]at hrb;cases hrb;exact h2 rfl
  generalize b[k]=y at hrb htb hne;simp[hrb];refine bX (fun h2=>?_) (fun h2=>?_)<;>simp only[h2]<;>simp[hr,hrb]<;>(try simp only[nT,nF,dT,dF]at h2)
  ·refine⟨by decide+kernel,?_⟩;first|exact aB (by simp[hne (fun e=>h2 (by rw[e]))]) rfl|exact cK (by simp[hne (fun e=>h2 (by rw[e]))])
  refine bX (fun h3=>?_) (fun h3=>?_)<;>simp only[h3]<;>simp[hr,hrb]<;>(try simp only[nT,nF,dT,dF]at h3)
  ·refine⟨by decide+kernel,?_⟩;first|exact aB (by simp[hne (fun e=>h3 (by rw[e]))]) rfl|exact cK (by simp[hne (fun e=>h3 (by rw[e]))])
  refine⟨by decide+kernel,?_⟩;refine aJ (fun h4=>?_) (fun h4=>?_)<;>simp only[h4]<;>simp[hr,hrb]<;>(try simp only[nT,nF,dT,dF]at h4)
  ·first|exact aB (by simp[hne (fun e=>h4 (by rw[e]))]) rfl|exact cK (by simp[hne (fun e=>h4 (by rw[e]))])
  have h4':x.split.length=y.split.length:=by omega
  have h5:=hl2 x hm;refine aQ.inv mixed rfl (ι:={kj:Nat//kj<=(x.split).length/\x.split.take kj=y.split.take kj}) (fun kj=>[(0,aC (a.map fR)),(1,aC (b.map fR)),(5,int k),(6,int kj.1)]) (fun kj=>[]) 64 (fun kj=>(x.split).length-kj.1) ⟨0,by omega,by simp⟩ [] (by constructor<;>simp[hr]) ?_;rintro⟨kj,hk1j,hij⟩ Bj hBj;refine CI.n ?_;simp[hr];refine aJ (fun hj=>?_) (fun hj=>?_)
  ·have hkj:kj<(x.split).length:=by simpa using hj
   obtain⟨w,hxj,hrj,hmj,htj,hdj,hwj⟩:=dL hkj;simp only[hj];simp[hrj,hwj,hr,hrb];have hrc:y.split[kj]? =some y.split[kj]:=cI (by omega);have htc:y.split.take (kj+1)=y.split.take kj++[y.split[kj]]:=by rw[nZ,hrc];rfl
   have hnc:w≠y.split[kj]->x≠y:=by
    intro h2 e;subst e;rw[hrj]at hrc;cases hrc;exact h2 rfl
   generalize y.split[kj]=v at hrc htc hnc;have hwv:(decide (w.gI=v.gI)&&decide (w.w=v.w))=decide (w=v):=by
    obtain⟨p,q⟩:=w;obtain⟨u,t⟩:=v;simp[Weight.mk.injEq]
   simp[hrc,hr,hrb,hrj];refine⟨by decide+kernel,?_⟩;refine aJ (fun h6=>?_) (fun h6=>?_)<;>simp only[h6]<;>simp[hr,hrb,hrj,hrc]<;>(try simp only[nT,nF,dT,dF]at h6)
   ·have h7:¬w=v:=by
     rw[<-Bool.not_and,hwv]at h6;simpa using h6
    exact aB (by simp[hne (hnc h7)]) rfl
   ·have h7:w=v:=by
     rw[<-Bool.not_and,hwv]at h6;simpa using h6
    refine hBj _ ⟨kj+1,by omega,by rw[htj,htc,hij,h7]⟩ [] ?_ (by simp;omega);constructor<;>simp[hwj]
  ·obtain rfl:kj=(x.split).length:=by simp at hj;omega
   simp only[hj];simp[hw];have e:x=y:=by
    rw[fA,h4',fA]at hij;obtain⟨p,q,t⟩:=x;obtain⟨p',q',t'⟩:=y;simp only at h2 h3 hij;rw[h2,h3,hij]
   refine hB _ ⟨k+1,by omega,by rw[ht,htb,hi,e]⟩ [] ?_ (by simp;omega);constructor<;>simp[hw]
 ·obtain rfl:k=(a).length:=by simp at h;omega
  simp only[h];simp;have e:a=b:=by
   rw[fA,hab,fA]at hi;exact hi
  exact aB (by simp[e]) rfl
attribute [simp] ntmps108 results108 ntmps70 results70 ntmps33 results33 ntmps17 results17
theorem zkp (a b:aA)(hl:zX a):Ct prog 108 [st (aK a),st (aK b)] [] [] (bool (j5 a b)) []:=by
 refine Ct.B func108 ?_;simp;refine bX (fun h1=>?_) (fun h1=>?_)<;>simp only[h1]<;>simp<;>(try simp only[nT,nF,dT,dF]at h1)
 ·first|exact aB (by simp[j5,h1]) rfl|exact cK (by simp[j5,h1])
 refine bX (fun h2=>?_) (fun h2=>?_)<;>simp only[h2]<;>simp<;>(try simp only[nT,nF,dT,dF]at h2)
 ·first|exact aB (by simp[j5,h2]) rfl|exact cK (by simp[j5,h2])
 refine bX (fun h3=>?_) (fun h3=>?_)<;>simp only[h3]<;>simp<;>(try simp only[nT,nF,dT,dF]at h3)
 ·first|exact aB (by simp[j5,h3]) rfl|exact cK (by simp[j5,h3])
 refine bX (fun h4=>?_) (fun h4=>?_)<;>simp only[h4]<;>simp<;>(try simp only[nT,nF,dT,dF]at h4)
 ·first|exact aB (by simp[j5,h4]) rfl|exact cK (by simp[j5,h4])
 refine aJ (fun h5=>?_) (fun h5=>?_)<;>simp only[h5]<;>simp<;>(try simp only[nT,nF,dT,dF]at h5)
 ·have e:¬a.cT=b.cT:=fun e=>h5 (by rw[e])
  exact aB (by simp[j5,e]) rfl
 have hab:a.cT.length=b.cT.length:=by omega
 have hh:=hl.cT;refine aQ.inv mixed rfl (ι:={k:Nat//k<=(a.cT).length/\a.cT.take k=b.cT.take k}) (fun k=>[(2,.ptr 64 0),(3,.ptr 65 0),(5,int k.1)]) (fun k=>[(64,.cells ((aK a).map .d) 126),(65,.cells ((aK b).map .d) 126)]) 66 (fun k=>(a.cT).length-k.1) ⟨0,by omega,by simp⟩ [] (by constructor<;>simp) ?_;rintro⟨k,hk1,hi⟩ B hB;refine CI.n ?_;simp;refine aJ (fun h=>?_) (fun h=>?_)
 ·have hk:k<(a.cT).length:=by simpa using h
  obtain⟨x,hx,hr,hm,ht,hd,hw⟩:=dL hk;simp only[h];simp[hr,hw];have hrb:b.cT[k]? =some b.cT[k]:=cI (by omega);have htb:b.cT.take (k+1)=b.cT.take k++[b.cT[k]]:=by rw[nZ,hrb];rfl
  have hne:x≠b.cT[k]->a.cT≠b.cT:=by
   intro h2 e;exact h2 (lT (by rw[<-hr,<-hrb,e]))
  generalize b.cT[k]=y at hrb htb hne;simp[hrb];refine⟨by decide+kernel,?_⟩;refine aJ (fun h6=>?_) (fun h6=>?_)<;>simp only[h6]<;>simp[hr,hrb]<;>(try simp only[nT,nF,dT,dF]at h6)
  ·have e:¬a.cT=b.cT:=hne h6;exact aB (by simp[j5,e]) rfl
  ·have h6':x=y:=by omega
   refine hB _ ⟨k+1,by omega,by rw[ht,htb,hi,h6']⟩ [] ?_ (by simp;omega);constructor<;>simp[hw]
 ·obtain rfl:k=(a.cT).length:=by simp at h;omega
  simp only[h];simp;have e:a.cT=b.cT:=by
   rw[fA,hab,fA]at hi;exact hi
  refine CI.p (zbT a.rules b.rules ⟨hl.rules,hl.split⟩) ?_;simp;first|exact aB (by simp[j5,h1,h2,h3,h4,e]) rfl|exact cK (by simp[j5,h1,h2,h3,h4,e])
theorem zbz (a b:aA)(hl:zX a):Ct prog 70 [st (aK a),st (aK b)] [] [] (bool (decide (a=b))) []:=by
 refine Ct.B func70 ?_;simp;refine CI.p (zkp a b hl) ?_;simp;rw[<-Te];refine bX (fun h1=>?_) (fun h1=>?_)<;>simp only[h1]<;>simp
 ·exact aB (by simp[h1]) rfl
 ·exact aB (by simp[h1]) rfl
theorem Td (a b:List aA)(hl:dK a):Ct prog 33 [aC (a.map aK),aC (b.map aK)] [] [] (bool (decide (a=b))) []:=by
 refine Ct.B func33 ?_;simp;refine aJ (fun h1=>?_) (fun h1=>?_)<;>simp only[h1]<;>simp<;>(try simp only[nT,nF,dT,dF]at h1)
 ·have e:¬a=b:=fun e=>h1 (by rw[e])
  exact aB (by simp[e]) rfl
 have hab:a.length=b.length:=by omega
 have hh:=hl.len;refine aQ.inv mixed rfl (ι:={k:Nat//k<=(a).length/\a.take k=b.take k}) (fun k=>[(0,aC (a.map aK)),(1,aC (b.map aK)),(5,int k.1)]) (fun k=>[]) 64 (fun k=>(a).length-k.1) ⟨0,by omega,by simp⟩ [] (by constructor<;>simp) ?_;rintro⟨k,hk1,hi⟩ B hB;refine CI.n ?_;simp;refine aJ (fun h=>?_) (fun h=>?_)
 ·have hk:k<(a).length:=by simpa using h
  obtain⟨x,hx,hr,hm,ht,hd,hw⟩:=dL hk;simp only[h];simp[hr,hw];have hrb:b[k]? =some b[k]:=cI (by omega);have htb:b.take (k+1)=b.take k++[b[k]]:=by rw[nZ,hrb];rfl
  have hne:x≠b[k]->a≠b:=by
   intro h2 e;subst e;rw[hr]at hrb;cases hrb;exact h2 rfl
  generalize b[k]=y at hrb htb hne;simp[hrb];refine CI.p (zbz x y (hl.all x hm)) ?_;simp;refine⟨by decide+kernel,?_⟩;refine aJ (fun h2=>?_) (fun h2=>?_)<;>simp only[h2]<;>simp<;>(try simp only[nT,nF,dT,dF]at h2)
  ·first|exact aB (by simp[hne h2]) rfl|exact cK (by simp[hne h2])
  ·refine hB _ ⟨k+1,by omega,by rw[ht,htb,hi,h2]⟩ [] ?_ (by simp;omega);constructor<;>simp[hw]
 ·obtain rfl:k=(a).length:=by simp at h;omega
  simp only[h];simp;have e:a=b:=by
   rw[fA,hab,fA]at hi;exact hi
  exact aB (by simp[e]) rfl
theorem MY (l:List aA)(hl:dK l):Ct prog 17 [aC (l.map aK)] [] [] (bool (yI l)) []:=by
 refine Ct.B func17 ?_;simp;have hh:=hl.len;refine aQ.inv mixed rfl (ι:={k:Nat//k<=(l).length/\(l.take k).all zR=true}) (fun k=>[(0,aC (l.map aK)),(3,int k.1)]) (fun k=>[]) 64 (fun k=>(l).length-k.1) ⟨0,by omega,by simp⟩ [] (by constructor<;>simp) ?_;rintro⟨k,hk1,hi⟩ B hB;refine CI.n ?_;simp;refine aJ (fun h=>?_) (fun h=>?_)
 ·have hk:k<(l).length:=by simpa using h
  obtain⟨x,hx,hr,hm,ht,hd,hw⟩:=dL hk;simp only[h];simp[hr,hw];refine CI.p (zhm x (hl.all x hm).rules) ?_;simp;refine aJ (fun h1=>?_) (fun h1=>?_)<;>simp only[h1]<;>simp<;>(try simp only[nT,nF,dT,dF]at h1)
  ·have e:l.all zR=false:=by rw[B4];exact⟨x,hm,by simp[h1]⟩
   exact aB (by simp[yI,e]) rfl
  ·refine hB _ ⟨k+1,by omega,by simp[ht,hi,h1]⟩ [] ?_ (by simp;omega);constructor<;>simp[hw,ht,h1]
 ·obtain rfl:k=(l).length:=by simp at h;omega
  simp only[h];simp;rw[fA]at hi;exact aB (by simp[yI,hi];try omega) rfl
attribute [simp] ntmps152 results152 ntmps101 results101 ntmps100 results100 ntmps57 results57 ntmps252 results252 ntmps190 results190 ntmps135 results135 ntmps341 results341 ntmps342 results342 ntmps340 results340
theorem Oa (a:Int):Ct prog 152 [int a] [] [] (bool false) []:=by
 refine Ct.B func152 ?_;simp;exact aB (by simp) rfl
theorem Rn (a b:Int):Ct prog 101 [int a,int b] [] [] (int (if a<b then-1 else if b<a then 1 else 0)) []:=by
 refine Ct.B func101 ?_;simp;refine CI.p (Oa a) ?_;simp;refine CI.p (Oa b) ?_;simp;refine aJ (fun h1=>?_) (fun h1=>?_)<;>simp only[h1]<;>simp<;>(try simp only[nT,nF,dT,dF]at h1)
 ·first|exact aB (by simp[h1]) rfl|exact cK (by simp[h1])
 refine aJ (fun h2=>?_) (fun h2=>?_)<;>simp only[h2]<;>simp<;>(try simp only[nT,nF,dT,dF]at h2)
 ·first|exact aB (by simp[h1,h2]) rfl|exact cK (by simp[h1,h2])
 ·first|exact aB (by simp[h1,h2]) rfl|exact cK (by simp[h1,h2])
def F8 (l:List Int):Int:=(l.find? fun x=>!decide (x=0)).getD 0
theorem zdx (l:List Int)(hl:l.length<=9223372036854775807):Ct prog 100 [.own 0] [(0,.grow 1 (l.map lP) 3)] [] (int (F8 l)) []:=by
 refine Ct.B func100 ?_;simp;refine aQ.inv mixed rfl (ι:={k:Nat//k<=(l).length/\(l.take k).all (fun x=>!!decide (x=0))=true}) (fun k=>[(3,int 0),(6,.own 0),(7,int l.length),(8,int k.1)]) (fun k=>[(0,.grow 1 (l.map lP) 3)]) 64 (fun k=>(l).length-k.1) ⟨0,by omega,by simp⟩ [] (by constructor<;>simp) ?_;rintro⟨k,hk1,hi⟩ B hB;refine CI.n ?_;simp;refine aJ (fun h=>?_) (fun h=>?_)
 ·have hk:k<(l).length:=by simpa using h
  obtain⟨x,hx,hr,hm,ht,hd,hw⟩:=dL hk;simp only[h];simp[hr,hw,hk];refine aJ (fun h1=>?_) (fun h1=>?_)<;>simp only[h1]<;>simp[hx]<;>(try simp only[nT,nF,dT,dF]at h1)
  ·rw[hx]at h1;have e:F8 l=x:=by simp[F8,SC hi hr (by simpa using h1)]
   exact⟨[],by constructor<;>simp[aV,aW,e,hx]⟩
  ·rw[hx]at h1;refine hB _ ⟨k+1,by omega,by rw[ht,List.all_append,hi];simp[h1]⟩ [] ?_ (by simp;omega);constructor<;>simp[hw]
 ·obtain rfl:k=(l).length:=by simp at h;omega
  simp only[h];simp;rw[fA]at hi;have e:F8 l=0:=by simp[F8,ZC hi]
  exact⟨[],by constructor<;>simp[aV,aW,e]⟩
theorem ZV (a b:Key):Ct prog 57 [st (bP a),st (bP b)] [] [] (int (dY a b)) []:=by
 refine Ct.B func57 ?_;simp;refine CI.p (Rn a.kind b.kind) ?_;simp;refine CI.p (zin a.name b.name) ?_;simp;refine CI.cc [896] (zdx [if a.kind<b.kind then-1 else if b.kind<a.kind then 1 else 0,C0 a.name b.name] (by simp)) ?_;simp;refine⟨by decide+kernel,?_⟩;have e:F8 [if a.kind<b.kind then-1 else if b.kind<a.kind then 1 else 0,C0 a.name b.name]=dY a b:=by
  unfold F8 dY;by_cases h1:a.kind<b.kind
  ·simp[h1]
  ·by_cases h2:b.kind<a.kind
   ·simp[h1,h2]
   ·by_cases h3:C0 a.name b.name=0<;>simp[h1,h2,h3]
 exact aB (by simp[e]) rfl
theorem Nz (k_:Key)(r:aA):Ct prog 252 [st (aK r),.d (.bM (bP k_))] [] [] (bool (decide (r.key=k_))) []:=by
 refine Ct.B func252 ?_;simp;refine CI.p (oX r) ?_;simp;rw[JA];refine⟨by decide+kernel,?_⟩;exact aB (by simp) rfl
theorem YF (k_:Key):Ct prog 190 [st (bP k_)] [] [] (.d (.fn (.func 252) [] [.bM (bP k_)])) []:=by
 refine Ct.B func190 ?_;simp;exact aB (by simp) rfl
theorem R3 (l:List aA)(k_:Key)(hl:l.length<=9223372036854775807):Ct prog 135 [aC (l.map aK),st (bP k_)] [] [] (Pp l k_) []:=by
 refine Ct.B func135 ?_;simp;refine CI.p (YF k_) ?_;simp;refine CI.p (RZ l (.fn (.func 252) [] [.bM (bP k_)]) (fun r=>decide (r.key=k_)) (fun r hr=>cB.mY (by exact Nz k_ r) call252 rfl rfl) hl) ?_;simp;rcases JM (fun r:aA=>decide (r.key=k_)) l with⟨h1,h2⟩|⟨i,x,h1,h2,h3,h4⟩
 ·have e:aS l k_=none:=h2;simp[h1];exact aB (by simp[e,jE]) rfl
 ·have e:aS l k_=some x:=h4;have hx:l[i]=x:=by rw[cI h2]at h3;exact lT h3
  simp[h1,h2,h3,hx];exact aB (by simp[e]) rfl
theorem ZD (l:List aA)(kf:D)(p:aA->Bool)(hf:∀x∈l,cB prog (.d kf) [st (aK x)] (bool (p x)))(hl:l.length<=1000000):Ct prog 341 [aC (l.map aK),.d kf] [] [] (aC ((l.filter p).map aK)) []:=by
 refine Ct.B func341 ?_;simp;refine aQ.j1 5 7 126 rfl ?_;refine aQ.V (l) (fun k=>[(0,aC (l.map aK)),(1,.d kf),(5,.own 64),(8,aC (l.map aK)),(9,int l.length),(10,int k.1)]) (fun k=>[(64,.grow 7 (((l.take k.1).filter p).map aK) 126)]) 65 (fun k hk1 B hB=>?_);simp;refine aJ (fun h=>?_) (fun h=>?_)
 ·have hk:k<(l).length:=by simpa using h
  obtain⟨x,hx,hr,hm,ht,hd,hw⟩:=dL hk;simp only[h];simp[hr,hw];have hlen:((l.take k).filter p).length<=1000000:=fV (kS _ _) (by simp;omega);refine CI.ff (hf x hm) rfl rfl rfl ?_;simp;refine aJ (fun h1=>?_) (fun h1=>?_)<;>simp only[h1]<;>simp[hr]
  ·refine⟨by omega,?_⟩;exact hB hk (by constructor<;>simp[hw,ht,v7,h1])
  ·exact hB hk (by constructor<;>simp[hw,ht,v7,h1])
 ·obtain rfl:k=(l).length:=by simp at h;omega
  simp only[h];simp;exact aB (by simp) rfl
theorem Um (k_:Key)(c:Int)(r:aA):Ct prog 342 [st (aK r),.d (.bM (bP k_)),.d (.bM [iD c])] [] [] (bool (decide (dY r.key k_=c))) []:=by
 refine Ct.B func342 ?_;simp;refine CI.p (oX r) ?_;simp;refine CI.p (ZV r.key k_) ?_;simp;refine⟨by decide+kernel,?_⟩;exact aB (by simp) rfl
theorem Bl (l:List aA)(k_:Key)(c:Int)(hl:l.length<=1000000):Ct prog 340 [int c,.d (.bM [lD (l.map aK)]),.d (.bM (bP k_))] [] [] (aC ((tE l k_ c).map aK)) []:=by
 refine Ct.BS func340 mixed 1 400 ?_;simp;refine CI.s (tm:=[(1,.d (.bM [lD (l.map aK)])),(2,.d (.bM (bP k_))),(3,.d (.bM [iD c]))]) (mm:=[]) (nx:=65) [] [64] (by constructor<;>simp) ?_;refine CI.n ?_;simp;refine CI.p (ZD l (.fn (.func 342) [] [.bM (bP k_),.bM [iD c]]) (fun r=>decide (dY r.key k_=c)) (fun r hr=>cB.mY (by exact Um k_ c r) call342 rfl rfl) hl) ?_;simp;exact aB (by simp) rfl
attribute [simp] ntmps387 results387 ntmps343 results343 ntmps270 results270 ntmps66 results66 ntmps90 results90 ntmps65 results65 ntmps269 results269 ntmps208 results208 ntmps415 results415 ntmps396 results396
abbrev Az :List D:=[iD 0,sD ⟨#[]⟩,iD 0,iD 0,sD ⟨#[]⟩,.v (.slice none 0 0),.v (.slice none 0 0)]
theorem zgJ (n:Int)(h0:0<n)(h1:n<=2000000):Ct prog 387 [.d (.v (.slice none 0 0)),int n] [] [] (.sl 64 7 0 0) [(64,.grow 7 (List.replicate n.toNat Az) 126)]:=by
 refine Ct.B func387 ?_;simp;have g1:¬n<0:=by omega
 have g2:=wrap_i64 (n:=n) (by omega) (by omega);simp[g1,g2,h0];refine⟨⟨by omega,by omega⟩,by omega,?_⟩;exact⟨[(64,1216)],by constructor<;>simp[aV,aW,Az]⟩
theorem zii (a b c:List aA)(h0:0<a.length+b.length+c.length)(h1:a.length+b.length+c.length<=2000000):Ct prog 343 [.own 0] [(0,.grow 1 [[lD (a.map aK)],[lD (b.map aK)],[lD (c.map aK)]] 44)] [] (.own 64) [(64,.grow 7 ((a++b++c).map aK) 126)]:=by
 refine Ct.B func343 ?_;simp;have w1:IntKind.wrap .i64 (a.length:Int)=a.length:=wrap_i64 (by omega) (by omega);have w2:IntKind.wrap .i64 ((a.length:Int)+b.length)=a.length+b.length:=wrap_i64 (by omega) (by omega);have w3:IntKind.wrap .i64 ((a.length:Int)+b.length+c.length)=a.length+b.length+c.length:=wrap_i64 (by omega) (by omega);have v1:¬((a.length:Int)<0):=by omega
 have v2:¬((a.length:Int)+b.length<0):=by omega
 have v3:¬((a.length:Int)+b.length+c.length<0):=by omega
 refine aQ.un ?_;simp[w1,v1];refine aQ.un ?_;simp[w2,v2];refine aQ.un ?_;simp[w3,v3];refine aQ.un ?_;simp;refine CI.cc [] (zgJ ((a.length:Int)+b.length+c.length) (by omega) (by omega)) ?_;simp;refine aQ.un ?_;simp;refine⟨by omega,?_⟩;refine aQ.un ?_;simp;refine⟨by omega,?_⟩;refine aQ.un ?_;simp;refine⟨by omega,?_⟩;refine aQ.un ?_;simp;exact⟨[(64,4992)],by constructor<;>simp[aV,aW]⟩
theorem Bi (l:List aA)(r:aA)(hl:l.length<=1000000):Ct prog 270 [aC (l.map aK),st (aK r)] [] [] (aC ((nN l r).map aK)) []:=by
 refine Ct.BS func270 mixed 2 400 ?_;simp;refine CI.pS (oX r) call68 2 ?_;simp;refine CI.s (tm:=[(2,.d (.bM [lD (l.map aK)])),(3,.ptr 64 0),(5,.d (.bM (bP r.key)))]) (mm:=[(64,.cells ((aK r).map .d) 126)]) (nx:=65) [(64,128)] [64,384] (by constructor<;>simp) ?_;refine CI.n ?_;simp;refine CI.ff (cB.mY (args:=[int (-1)]) (by exact Bl l r.key (-1) hl) call340 rfl rfl) rfl rfl rfl ?_;simp;refine CI.ff (cB.mY (args:=[int 1]) (by exact Bl l r.key 1 hl) call340 rfl rfl) rfl rfl rfl ?_;simp;have h1:=Bk l r;simp only[nN,dQ,kE,l7]at h1;refine CI.cc [577] (zii (tE l r.key (-1)) [r] (tE l r.key 1) (by simp;omega) (by simp only[kE,l7];omega)) ?_;simp;exact cK (by simp)
theorem SX :Ct prog 66 [aC []] [] [] (aC []) []:=by
 refine Ct.B func66 ?_;simp;refine⟨?_,?_⟩
 ·exact aB (by simp) rfl
 ·exact aB (by simp) rfl
theorem SU (x:aA)(l:List aA)(hl:l.length<=1000000):Ct prog 66 [aC ((x::l).map aK)] [] [] (.own 64) [(64,.grow 7 ((x::l).map aK) 126)]:=by
 refine Ct.B func66 ?_;simp;refine⟨by omega,?_⟩;exact⟨[(64,384)],by constructor<;>simp[aV,aW]⟩
theorem zgi (l:List aA)(kf:D)(p:aA->Bool)(hf:∀x∈l,cB prog (.d kf) [st (aK x)] (bool (p x)))(hl:l.length<=9223372036854775807):Ct prog 90 [.own 0,.d kf] [(0,.grow 7 (l.map aK) 126)] [] (int (jH p l)) []:=by
 refine Ct.B func90 ?_;simp;refine aQ.inv mixed rfl (ι:={k:Nat//k<=(l).length/\(l.take k).all (fun x=>!p x)=true}) (fun k=>[(0,.own 0),(1,.d kf),(7,int l.length),(8,int k.1)]) (fun k=>[(0,.grow 7 (l.map aK) 126)]) 64 (fun k=>(l).length-k.1) ⟨0,by omega,by simp⟩ [] (by constructor<;>simp) ?_;rintro⟨k,hk1,hi⟩ B hB;refine CI.n ?_;simp;refine aJ (fun h=>?_) (fun h=>?_)
 ·have hk:k<(l).length:=by simpa using h
  obtain⟨r,hx,hr,hm,ht,hd,hw⟩:=dL hk;simp only[h];simp[hr,hw,hk];refine CI.ff (hf r hm) rfl rfl rfl ?_ (ha:=by simp[hx]);simp[hx];refine aJ (fun hp=>?_) (fun hp=>?_)<;>simp only[hp]<;>simp
  ·have e:=yE hi hr hp;exact⟨[],by constructor<;>simp[aV,aW,e]⟩
  ·refine hB _ ⟨k+1,by omega,by simp[ht,hi,hp]⟩ [] ?_ (by simp;omega);constructor<;>simp[hw,ht,hp]
 ·obtain rfl:k=(l).length:=by simp at h;omega
  simp only[h];simp;rw[fA]at hi;have e:jH p l= -1:=yD (fun x hx=>by have:=eF.1 hi x hx;simpa using this);exact⟨[],by constructor<;>simp[aV,aW,e]⟩
theorem SM (kf:D):Ct prog 65 [aC [],.d kf] [] [] (aC []) []:=by
 refine Ct.B func65 ?_;simp;refine CI.p (RZ [] kf (fun _=>false) (fun x hx=>by simp at hx) (by simp)) ?_;simp;simp[jH];exact aB (by simp) rfl
theorem SO (l:List aA)(kf:D)(p:aA->Bool)(hf:∀x∈l,cB prog (.d kf) [st (aK x)] (bool (p x)))(hl:l.length<=1000000):Ct prog 65 [.own 0,.d kf] [] [(0,.grow 7 (l.map aK) 126)] (aC ((l.filter fun x=>!p x).map aK)) []:=by
 refine Ct.B func65 ?_;simp;refine CI.cc [0] (zgi l kf p hf (by omega)) ?_;simp;rcases JM p l with⟨h1,h2⟩|⟨i,x,h1,h2,h3,h4⟩
 ·have e:(l.filter fun x=>!p x)=l:=by
   rw[HL];intro a ha;have:=xJ.1 h2 a ha;simpa using this
  simp[h1];exact⟨[],by constructor<;>simp[aV,aW,e]⟩
 ·have hne:¬(i:Int)= -1:=by omega
  have hwi:IntKind.wrap .i64 ((i:Int)+1)=i+1:=wrap_i64 (by omega) (by omega);simp[h1,hne,hwi];have d0:=p9.start (x:=x) h1 h2;refine aQ.inv mixed rfl (ι:={q:Nat×Nat×List aA//p9 p l q.1 q.2.1 q.2.2}) (fun k=>[(0,.own 0),(1,.d kf),(5,int k.1.2.1),(6,int k.1.1)]) (fun k=>[(0,.grow 7 (k.1.2.2.map aK) 126)]) 64 (fun k=>l.length-k.1.1) ⟨(i+1,i,l),d0⟩ [] (by constructor<;>simp) ?_;rintro⟨⟨j,i,cur⟩,hd⟩ B hB;clear h1 h2 h3 h4 hne hwi d0;have hlen:=hd.len;have hlt:=hd.lt;have hle:=hd.le;simp only at hlen hlt hle;have w1:IntKind.wrap .i64 ((j:Int)+1)=j+1:=wrap_i64 (by omega) (by omega);have w2:IntKind.wrap .i64 ((i:Int)+1)=i+1:=wrap_i64 (by omega) (by omega);refine CI.n ?_;simp[hlen];refine aJ (fun h=>?_) (fun h=>?_)<;>simp only[h]<;>simp<;>(try simp only[nT,nF,dT,dF]at h)
  ·have hj:j<l.length:=by omega
   have hv:l[j]? =some l[j]:=cI hj;have hm:l[j]∈l:=lU hj;generalize l[j]=v at hv hm;have hg:=hd.get hv;have hjc:j<cur.length:=by omega
   have hgx:cur[j]=v:=by rw[cI hjc]at hg;exact lT hg
   simp[hjc,hgx];refine CI.ff (hf v hm) rfl rfl rfl ?_;simp;have hic:i<cur.length:=by omega
   refine aJ (fun h2=>?_) (fun h2=>?_)<;>simp only[h2]<;>simp[hic]
   ·have hp:p v=false:=by simpa using h2
    refine hB _ ⟨(j+1,i+1,cur.set i v),hd.keep hv hp⟩ [] ?_ (by simp;omega);constructor<;>simp[w1,w2,HI]
   ·have hp:p v=true:=by simpa using h2
    refine hB _ ⟨(j+1,i,cur),hd.del hv hp⟩ [] ?_ (by simp;omega);constructor<;>simp[w1]
  ·have hj:j=l.length:=by omega
   subst hj;have e:cur.take i=l.filter (fun x=>!p x):=hd.done;simp[hlen];have e2:List.take i (List.map aK cur)=List.map aK (List.filter (fun x=>!p x) l):=by rw[<-DM,e]
   have e3:(List.filter (fun x=>!p x) l).length=i:=by rw[<-e,yV];omega
   refine⟨by omega,by omega,by omega,?_⟩;rw[e2];exact⟨[],by constructor<;>simp[aV,aW,e3,List.take_append,show i<=i+(l.length-i+(l.length-(i+(l.length-i))))from by omega]⟩
theorem Uh (l:List aA)(k_:Key)(hl:l.length<=1000000):Ct prog 269 [aC (l.map aK),st (bP k_)] [] [] (aC ((tW l k_).map aK)) []:=by
 refine Ct.B func269 ?_;simp;cases l with
 |nil=>
  refine CI.p SX ?_;simp;refine CI.p (YF k_) ?_;simp;refine CI.p (SM (.fn (.func 252) [] [.bM (bP k_)])) ?_;simp;exact cK (by simp)
 |cons x l=>
  refine CI.cc [] (SU x l (by simp at hl;omega)) ?_;simp;refine CI.p (YF k_) ?_;simp;refine CI.cc [256] (SO (x::l) (.fn (.func 252) [] [.bM (bP k_)]) (fun r=>decide (r.key=k_)) (fun r hr=>cB.mY (by exact Nz k_ r) call252 rfl rfl) hl) ?_;simp;exact cK (by simp)
theorem PX (l aD:List aA)(gone:List Key)(hl:l.length+aD.length<=1000000)(hg:gone.length<=9223372036854775807):Ct prog 208 [aC (l.map aK),aC (aD.map aK),aC (gone.map bP)] [] [] (aC ((cD l aD gone).map aK)) []:=by
 refine Ct.B func208 ?_;simp;refine aQ.V (gone) (fun k=>[(0,aC (((gone.take k.1).foldl tW l).map aK)),(1,aC (aD.map aK)),(11,aC (gone.map bP)),(12,int gone.length),(13,int k.1)]) (fun k=>[]) 64 (fun k hk1 B hB=>?_);simp;refine aJ (fun h=>?_) (fun h=>?_)
 ·have hk:k<(gone).length:=by simpa using h
  obtain⟨x,hx,hr,hm,ht,hd,hw⟩:=dL hk;simp only[h];simp[hr,hw];have h1:=R8 (gone.take k) l;refine CI.p (Uh ((gone.take k).foldl tW l) x (by omega)) ?_;simp;exact hB hk (by constructor<;>simp[hw,ht,KP])
 ·obtain rfl:k=(gone).length:=by simp at h;omega
  simp only[h];simp;have h1:=R8 gone l;refine aQ.V (aD) (fun k=>[(0,aC (((aD.take k.1).foldl nN (gone.foldl tW l)).map aK)),(21,aC (aD.map aK)),(22,int aD.length),(23,int k.1)]) (fun k=>[]) 64 (fun k hk1 B hB=>?_);simp;refine aJ (fun h=>?_) (fun h=>?_)
  ·have hk:k<(aD).length:=by simpa using h
   obtain⟨x,hx,hr,hm,ht,hd,hw⟩:=dL hk;simp only[h];simp[hr,hw];have h2:=R9 (aD.take k) (gone.foldl tW l);have h3:(aD.take k).length<=aD.length:=by simp;omega
   refine CI.p (Bi ((aD.take k).foldl nN (gone.foldl tW l)) x (by omega)) ?_;simp;exact hB hk (by constructor<;>simp[hw,ht,KP])
  ·obtain rfl:k=(aD).length:=by simp at h;omega
   simp only[h];simp;exact aB (by simp[cD]) rfl
theorem zgj (l:List Key)(k_:Key)(hl:l.length<=9223372036854775807):Ct prog 415 [aC (l.map bP),st (bP k_)] [] [] (int (jH (fun x=>decide (k_=x)) l)) []:=by
 refine Ct.B func415 ?_;simp;refine aQ.inv mixed rfl (ι:={k:Nat//k<=(l).length/\(l.take k).all (fun x=>!decide (k_=x))=true}) (fun k=>[(0,aC (l.map bP)),(3,.ptr 64 0),(6,aC (l.map bP)),(7,int l.length),(8,int k.1)]) (fun k=>[(64,.cells ((bP k_).map .d) 149)]) 65 (fun k=>(l).length-k.1) ⟨0,by omega,by simp⟩ [] (by constructor<;>simp) ?_;rintro⟨k,hk1,hi⟩ B hB;refine CI.n ?_;simp;refine aJ (fun h=>?_) (fun h=>?_)
 ·have hk:k<(l).length:=by simpa using h
  obtain⟨r,hx,hr,hm,ht,hd,hw⟩:=dL hk;simp only[h];simp[hr,hw];rw[JA];refine⟨by decide+kernel,?_⟩;refine aJ (fun h1=>?_) (fun h1=>?_)<;>simp only[h1]<;>simp[hr]
  ·have e:=yE hi hr (by simpa using h1);exact aB (by simp[e]) rfl
  ·refine hB _ ⟨k+1,by omega,by simp[ht,hi,h1]⟩ [] ?_ (by simp;omega);constructor<;>simp[hw,ht,h1]
 ·obtain rfl:k=(l).length:=by simp at h;omega
  simp only[h];simp;rw[fA]at hi;have e:jH (fun x=>decide (k_=x)) l= -1:=yD (fun x hx=>by have:=eF.1 hi x hx;simpa using this);exact aB (by simp[e]) rfl
theorem Ot (l:List Key)(k_:Key)(hl:l.length<=9223372036854775807):Ct prog 396 [aC (l.map bP),st (bP k_)] [] [] (bool (decide (k_∈l))) []:=by
 refine Ct.B func396 ?_;simp;refine CI.p (zgj l k_ hl) ?_;simp;rw[CU];have e:(l.any fun x=>decide (k_=x))=decide (k_∈l):=by rw[DP];simp
 exact aB (by simp[e]) rfl
end Go.Proofs.YtegplpagkajolaaGreatDoor
