/- LAYERS 3 to 14, walked -/
import Derived.Test.YtobcmagefgdgdaaGreatDoorWa
set_option linter.unusedSimpArgs false
set_option linter.unusedVariables false
set_option maxRecDepth 100000
set_option maxHeartbeats 8000000
namespace Go.Proofs.YtobcmagefgdgdaaGreatDoor
open Go.AI Go.G Tryz
attribute [simp] ntmps248 results248 ntmps212 results212 ntmps369 results369 ntmps280 results280 ntmps452 results452
theorem oK (r:aC):C0 248 [st (aF r)] (st (aQ r.key)):=by
 refine Ct.B func248 ?_;simp;exact aA (by simp[aC.key])
theorem qL (r:aC):C0 212 [st (aF r)] (st (aQ r.key)):=by
 refine Ct.B func212 ?_;simp;exact aA (by simp[aC.key])
theorem R3 (a b:Key)(hl:(bs a.name).length<=9223372036854775807\/(bs b.name).length<=9223372036854775807):C0 369 [st (aQ a),st (aQ b)] (int (cT a b)):=by
 refine Ct.B func369 ?_;simp;refine aX (λh1 zz=>?_) (λh1 zz=>?_)<;>simp only[zz]<;>simp
 ·exact aA (by simp[cT,h1])
 refine aX (λh2 zz=>?_) (λh2 zz=>?_)<;>simp only[zz]<;>simp
 ·exact aA (by simp[cT,h1,h2])
 refine CI.p (zi2 a.name b.name hl) ?_;simp;exact aA (by simp[cT,h1,h2])
theorem V0 (l:List Key)(k_:Key)(hl:l.length<=10000)(hk:(bs k_.name).length<=9223372036854775807):C0 280 [aB (l.map aQ),st (aQ k_)] (aB ((iW l k_).map aQ)):=by
 refine Ct.B func280 ?_;simp;refine aH.gH 5 2 184 rfl ?_;refine aH.inv mixed rfl (ι:={p:Nat×Bool×List Key//p.1<=l.length/\p.2.2++nQ k_ p.2.1 (l.drop p.1)=iW l k_/\p.2.2.length<=2*p.1}) (λk=>[(0,aB (l.map aQ)),(3,.ptr 64 0),(5,.own 65),(6,bool k.1.2.1),(7,int k.1.1)]) (λk=>[(64,.cells ((aQ k_).map .d) 184),(65,.grow 2 (k.1.2.2.map aQ) 184)]) 66 (λk=>l.length-k.1.1) ⟨(0,false,[]),by omega,by simp[iW],by simp⟩ [] (by constructor<;>simp) ?_;rintro⟨⟨i,done,out⟩,hi1,hi2,hi3⟩ B hB;simp only at hi1 hi2 hi3;refine CI.n ?_;simp;refine bQ (λh=>?_) (λh=>?_)
 ·have hk':i<l.length:=by simpa using h
  have hr:l[i]? =some l[i]:=bO hk';have hd:l.drop i=l[i]::l.drop (i+1):=tP hk';have hw:IntKind.wrap .i64 ((i:Int)+1)=i+1:=wz _;generalize l[i]=x at hr hd;rw[hd,nQ]at hi2;simp only[h];simp[hr,hw];refine CI.p (R3 x k_ (.inr hk)) ?_;simp;refine dr ?_;refine cV (λh1 zz=>?_) (λh1 zz=>?_)<;>simp only[zz]<;>simp
  ·cases done with
   |false=>
    simp;refine⟨by omega,?_⟩;refine aX (λh2 zz=>?_) (λh2 zz=>?_)<;>simp only[zz]<;>simp[hr]
    ·refine⟨by omega,?_⟩;simp only[h1,h2,fK,AQ,iO]at hi2;refine hB _ ⟨(i+1,true,out++[k_]++[x]),by omega,by simpa using hi2,by simp;omega⟩ [] ?_ (by simp;omega);constructor<;>simp[hw]
    ·simp only[h1,h2,fK,AQ]at hi2;refine hB _ ⟨(i+1,true,out++[k_]),by omega,by simpa using hi2,by simp;omega⟩ [] ?_ (by simp;omega);constructor<;>simp[hw]
   |true=>
    simp;refine aX (λh2 zz=>?_) (λh2 zz=>?_)<;>simp only[zz]<;>simp[hr]
    ·refine⟨by omega,?_⟩;simp only[h1,h2,iO]at hi2;refine hB _ ⟨(i+1,true,out++[x]),by omega,by simpa using hi2,by simp;omega⟩ [] ?_ (by simp;omega);constructor<;>simp[hw]
    ·simp only[h1,h2]at hi2;refine hB _ ⟨(i+1,true,out),by omega,by simpa using hi2,by simp;omega⟩ [] ?_ (by simp;omega);constructor<;>simp[hw]
  ·have h2:¬cT x k_=0:=by omega
   simp[h2,hr];refine⟨by omega,?_⟩;simp only[h1,h2,iO,false_and]at hi2;refine hB _ ⟨(i+1,done,out++[x]),by omega,by simpa using hi2,by simp;omega⟩ [] ?_ (by simp;omega);constructor<;>simp[hw]
 ·have hil:i=l.length:=by simp at h;omega
  rw[hil,yC,nQ]at hi2;simp only[h];cases done with
  |false=>
   simp;refine⟨by omega,?_⟩;exact aA (by simp[<-hi2])
  |true=>
   simp;exact aA (by simp[<-hi2])
theorem O1 (r:aC):C0 452 [st (aF r)] (aB ((cD r).map aQ)):=by
 refine Ct.B func452 ?_;simp;refine CI.p (G0 r) ?_;simp;refine aX (λh1 zz=>?_) (λh1 zz=>?_)<;>simp only[zz]<;>simp
 ·exact aA (by simp[cD,h1])
 obtain⟨hk0,hn,hs,hsh,hnm,hsg⟩:=xC h1;have hk:=xE.1 hk0;have hb:=KE hs;rw[Ce hk];have hsp:∀x∈r.rules,∀w∈x.split,(bs w.fT).length<=12:=by
  intro x hx w hw;simp only[mS,bL,dP,jS]at hnm;exact DJ ((hnm.2 x hx).2 w hw)
 refine aX (λh2 zz=>?_) (λh2 zz=>?_)<;>simp only[zz]<;>simp
 ·have h0:nG r=[⟨r.kind+1,r.to⟩]:=by simp[nG,h2]
  have hwk:=wz (r.kind+1);refine aH.U mixed (r.rules) (λk=>[(1,.ptr 64 0),(3,aB ((qF r k.1).map aQ)),(4,int k.1)]) (λk=>[(64,.cells ((aF r).map .d) 174)]) 65 [1216] (by constructor<;>simp[O3,h0,hwk]) ?_;rintro⟨k,hk1⟩ B hB;refine CI.n ?_;simp[O3,h0,hwk];rcases bC hk1 with⟨x,hk,hx,hr,hm,ht,hd,hw,h⟩|rfl
  ·simp[h,hr,hw];have h7:=hb.2.2 x hm;refine aH.V (x.split) (λkj=>[(1,.ptr 64 0),(3,aB (((x.split.take kj.1).foldl qE (qF r k)).map aQ)),(4,int k),(5,int kj.1)]) (λkj=>[(64,.cells ((aF r).map .d) 174)]) 65 (λkj hk1j Bj hBj=>?_) (h0:=by constructor<;>simp[hr]);simp[hr];rcases bC hk1j with⟨w,hkj,hxj,hrj,hmj,htj,hdj,hwj,hj⟩|rfl
   ·simp[hj,hrj,hwj,hr];have hlen:((x.split.take kj).foldl qE (qF r k)).length<=10000:=by
     have h5:=RE (x.split.take kj) (qF r k);have h6:=VW k hb.1 hb.2.2;have h8:(x.split.take kj).length<=4:=dH (by simp;omega) h7;omega
    refine aX (λh4 zz=>?_) (λh4 zz=>?_)<;>simp only[zz]<;>simp[hr,hrj]
    ·refine CI.p (V0 ((x.split.take kj).foldl qE (qF r k)) ⟨2,w.fT⟩ hlen (by have:=hsp x hm w hmj;simp only;omega)) ?_ (ha:=by simp[hr,hrj]);simp[hr,hrj];exact hBj hkj (by constructor<;>simp[hwj,htj,qY,qE,h4,hwj])
    ·exact hBj hkj (by constructor<;>simp[hwj,htj,qY,qE,h4,hwj])
   ·simp[hw];refine hB _ ⟨k+1,by omega⟩ [] ?_ (by simp;omega);constructor<;>simp[hw,ht,Gf ht]
  ·simp;exact aA (by simp[KP h1])
 ·have h0:nG r=[]:=by simp[nG,h2]
  refine aH.V (r.rules) (λk=>[(1,.ptr 64 0),(3,aB ((qF r k.1).map aQ)),(4,int k.1)]) (λk=>[(64,.cells ((aF r).map .d) 174)]) 65 (λk hk1 B hB=>?_) (h0:=by constructor<;>simp[O3,h0]);simp[O3,h0];rcases bC hk1 with⟨x,hk,hx,hr,hm,ht,hd,hw,h⟩|rfl
  ·simp[h,hr,hw];have h7:=hb.2.2 x hm;refine aH.V (x.split) (λkj=>[(1,.ptr 64 0),(3,aB (((x.split.take kj.1).foldl qE (qF r k)).map aQ)),(4,int k),(5,int kj.1)]) (λkj=>[(64,.cells ((aF r).map .d) 174)]) 65 (λkj hk1j Bj hBj=>?_) (h0:=by constructor<;>simp[hr]);simp[hr];rcases bC hk1j with⟨w,hkj,hxj,hrj,hmj,htj,hdj,hwj,hj⟩|rfl
   ·simp[hj,hrj,hwj,hr];have hlen:((x.split.take kj).foldl qE (qF r k)).length<=10000:=by
     have h5:=RE (x.split.take kj) (qF r k);have h6:=VW k hb.1 hb.2.2;have h8:(x.split.take kj).length<=4:=dH (by simp;omega) h7;omega
    refine aX (λh4 zz=>?_) (λh4 zz=>?_)<;>simp only[zz]<;>simp[hr,hrj]
    ·refine CI.p (V0 ((x.split.take kj).foldl qE (qF r k)) ⟨2,w.fT⟩ hlen (by have:=hsp x hm w hmj;simp only;omega)) ?_ (ha:=by simp[hr,hrj]);simp[hr,hrj];exact hBj hkj (by constructor<;>simp[hwj,htj,qY,qE,h4,hwj])
    ·exact hBj hkj (by constructor<;>simp[hwj,htj,qY,qE,h4,hwj])
   ·simp[hw];exact hB hk (by constructor<;>simp[hw,ht,Gf ht])
  ·simp;exact aA (by simp[KP h1])
attribute [simp] ntmps41 results41 ntmps116 results116 ntmps301 results301
theorem LB (a b:List Key)(hl:a.length<=9223372036854775807):C0 41 [aB (a.map aQ),aB (b.map aQ)] (bool (decide (a=b))):=by
 refine Ct.B func41 ?_;simp;refine aX (λh1 zz=>?_) (λh1 zz=>?_)<;>simp only[zz]<;>simp
 ·have e:¬a=b:=λe=>h1 (by rw[e]);exact aA (by simp[e])
 have hab:a.length=b.length:=by omega
 refine aH.inv mixed rfl (ι:={k:Nat//k<=(a).length/\a.take k=b.take k}) (λk=>[(0,aB (a.map aQ)),(1,aB (b.map aQ)),(5,int k.1)]) (λk=>[]) 64 (λk=>(a).length-k.1) ⟨0,by omega,by simp⟩ [] (by constructor<;>simp) ?_;rintro⟨k,hk1,hi⟩ B hB;refine CI.n ?_;simp;rcases bC hk1 with⟨x,hk,hx,hr,hm,ht,hd,hw,h⟩|rfl
 ·simp[h,hr,hw];have hrb:b[k]? =some b[k]:=bO (by omega);have htb:b.take (k+1)=b.take k++[b[k]]:=by rw[jH,hrb];rfl
  have hne:x≠b[k]->a≠b:=by
   intro h2 e;subst e;rw[hr]at hrb;cases hrb;exact h2 rfl
  generalize b[k]=y at hrb htb hne;have hxy:(decide (x.kind=y.kind)&&decide (x.name=y.name))=decide (x=y):=by
   obtain⟨p,q⟩:=x;obtain⟨u,v⟩:=y;simp[Key.mk.injEq]
  simp[hrb];refine dr ?_;refine aX (λh2 zz=>?_) (λh2 zz=>?_)<;>simp only[zz]<;>simp[hr,hrb]
  ·have h3:¬x=y:=by
    rw[<-JW,hxy]at h2;simpa using h2
   exact aA (by simp[hne h3])
  ·have h3:x=y:=by
    rw[<-JW,hxy]at h2;simpa using h2
   refine hB _ ⟨k+1,by omega,by rw[ht,htb,hi,h3]⟩ [] ?_ (by simp;omega);constructor<;>simp[hw]
 ·simp;have e:a=b:=by
   rw[bX,hab,bX]at hi;exact hi
  exact aA (by simp[e])
theorem zhZ (r:aC)(hl:r.rules.length<=9223372036854775807):C0 116 [st (aF r)] (bool (yW r)):=by
 refine Ct.B func116 ?_;simp;refine aH.inv mixed rfl (ι:={k:Nat//k<=(r.rules).length/\(r.rules.take k).all xX=true}) (λk=>[(1,.ptr 64 0),(3,int k.1)]) (λk=>[(64,.cells ((aF r).map .d) 174)]) 65 (λk=>(r.rules).length-k.1) ⟨0,by omega,by simp⟩ [] (by constructor<;>simp) ?_;rintro⟨k,hk1,hi⟩ B hB;refine CI.n ?_;simp;rcases bC hk1 with⟨x,hk,hx,hr,hm,ht,hd,hw,h⟩|rfl
 ·simp[h,hr,hw];have ef:xX x=false->yW r=false:=λe=>by
   have:r.rules.all xX=false:=by rw[oE];exact⟨x,hm,by simp[e]⟩
   simp only[yW,this,A4]
  have s1:=iA x.host;have s2:=iA x.pre;refine cV (λh1 zz=>?_) (λh1 zz=>?_)<;>simp only[zz]<;>simp[hr]
  ·exact aA (by simp[ef (by simp[xX];omega)])
  refine cV (λh2 zz=>?_) (λh2 zz=>?_)<;>simp only[zz]<;>simp[hr]
  ·exact aA (by simp[ef (by simp[xX];omega)])
  refine aX (λh3 zz=>?_) (λh3 zz=>?_)<;>simp only[zz]<;>simp[hr]
  ·exact aA (by simp[ef (by simp[xX];omega)])
  ·have e:xX x=true:=by simp[xX];omega
   refine hB _ ⟨k+1,by omega,by simp[ht,hi,e]⟩ [] ?_ (by simp;omega);constructor<;>simp[hw,ht,e]
 ·simp;rw[bX]at hi;have s3:=iA r.name;have s4:=iA r.to;refine cV (λg1 zz=>?_) (λg1 zz=>?_)<;>simp only[zz]<;>simp
  ·have a1:r.rules.length<=20:=by omega
   refine cV (λg2 zz=>?_) (λg2 zz=>?_)<;>simp only[zz]<;>simp
   ·have a2:r.bH.length<=20:=by omega
    refine cV (λg3 zz=>?_) (λg3 zz=>?_)<;>simp only[zz]<;>simp
    ·have a3:(bs r.name).length<=100:=by omega
     by_cases g4:(bs r.to).length<=100
     ·exact aA (by simp[yW,hi,a1,a2,a3,g4,s4];try omega) rfl
     ·exact aA (by simp[yW,hi,a1,a2,a3,g4,s4];try omega) rfl
    ·have a3:¬(bs r.name).length<=100:=by omega
     exact aA (by simp[yW,a3])
   ·have a2:¬r.bH.length<=20:=by omega
    exact aA (by simp[yW,a2])
  ·have a1:¬r.rules.length<=20:=by omega
   exact aA (by simp[yW,a1])
theorem zbP (a b:List cH)(hl:a.length<=9223372036854775807/\∀x∈a,x.split.length<=9223372036854775807):C0 301 [aB (a.map dJ),aB (b.map dJ)] (bool (decide (a=b))):=by
 refine Ct.B func301 ?_;simp;obtain⟨hl1,hl2⟩:=hl;refine aX (λh1 zz=>?_) (λh1 zz=>?_)<;>simp only[zz]<;>simp
 ·have e:¬a=b:=λe=>h1 (by rw[e]);exact aA (by simp[e])
 have hab:a.length=b.length:=by omega
 refine aH.inv mixed rfl (ι:={k:Nat//k<=(a).length/\a.take k=b.take k}) (λk=>[(0,aB (a.map dJ)),(1,aB (b.map dJ)),(5,int k.1)]) (λk=>[]) 64 (λk=>(a).length-k.1) ⟨0,by omega,by simp⟩ [] (by constructor<;>simp) ?_;rintro⟨k,hk1,hi⟩ B hB;refine CI.n ?_;simp;rcases bC hk1 with⟨x,hk,hx,hr,hm,ht,hd,hw,h⟩|rfl
 ·simp[h,hr,hw];have hrb:b[k]? =some b[k]:=bO (by omega);have htb:b.take (k+1)=b.take k++[b[k]]:=by rw[jH,hrb];rfl
  have hne:x≠b[k]->a≠b:=by
   intro h2 e;subst e;rw[hr]at hrb;cases hrb;exact h2 rfl
  generalize b[k]=y at hrb htb hne;simp[hrb];refine cV (λh2 zz=>?_) (λh2 zz=>?_)<;>simp only[zz]<;>simp[hr,hrb]
  ·refine dr ?_;exact aA (by simp[hne (λe=>h2 (by rw[e]))])
  refine cV (λh3 zz=>?_) (λh3 zz=>?_)<;>simp only[zz]<;>simp[hr,hrb]
  ·refine dr ?_;exact aA (by simp[hne (λe=>h3 (by rw[e]))])
  refine dr ?_;refine aX (λh4 zz=>?_) (λh4 zz=>?_)<;>simp only[zz]<;>simp[hr,hrb]
  ·exact aA (by simp[hne (λe=>h4 (by rw[e]))])
  have h4':x.split.length=y.split.length:=by omega
  have h5:=hl2 x hm;refine aH.inv mixed rfl (ι:={kj:Nat//kj<=(x.split).length/\x.split.take kj=y.split.take kj}) (λkj=>[(0,aB (a.map dJ)),(1,aB (b.map dJ)),(5,int k),(6,int kj.1)]) (λkj=>[]) 64 (λkj=>(x.split).length-kj.1) ⟨0,by omega,by simp⟩ [] (by constructor<;>simp[hr]) ?_;rintro⟨kj,hk1j,hij⟩ Bj hBj;refine CI.n ?_;simp[hr];rcases bC hk1j with⟨w,hkj,hxj,hrj,hmj,htj,hdj,hwj,hj⟩|rfl
  ·simp[hj,hrj,hwj,hr,hrb];have hrc:y.split[kj]? =some y.split[kj]:=bO (by omega);have htc:y.split.take (kj+1)=y.split.take kj++[y.split[kj]]:=by rw[jH,hrc];rfl
   have hnc:w≠y.split[kj]->x≠y:=by
    intro h2 e;subst e;rw[hrj]at hrc;cases hrc;exact h2 rfl
   generalize y.split[kj]=v at hrc htc hnc;have hwv:(decide (w.fT=v.fT)&&decide (w.w=v.w))=decide (w=v):=by
    obtain⟨p,q⟩:=w;obtain⟨u,t⟩:=v;simp[Weight.mk.injEq]
   simp[hrc,hr,hrb,hrj];refine dr ?_;refine aX (λh6 zz=>?_) (λh6 zz=>?_)<;>simp only[zz]<;>simp[hr,hrb,hrj,hrc]
   ·have h7:¬w=v:=by
     rw[<-JW,hwv]at h6;simpa using h6
    exact aA (by simp[hne (hnc h7)])
   ·have h7:w=v:=by
     rw[<-JW,hwv]at h6;simpa using h6
    refine hBj _ ⟨kj+1,by omega,by rw[htj,htc,hij,h7]⟩ [] ?_ (by simp;omega);constructor<;>simp[hwj]
  ·simp[hw];have e:x=y:=by
    rw[bX,h4',bX]at hij;obtain⟨p,q,t⟩:=x;obtain⟨p',q',t'⟩:=y;simp only at h2 h3 hij;rw[h2,h3,hij]
   refine hB _ ⟨k+1,by omega,by rw[ht,htb,hi,e]⟩ [] ?_ (by simp;omega);constructor<;>simp[hw]
 ·simp;have e:a=b:=by
   rw[bX,hab,bX]at hi;exact hi
  exact aA (by simp[e])
attribute [simp] ntmps219 results219 ntmps150 results150 ntmps152 results152 ntmps68 results68 ntmps353 results353 ntmps371 results371 ntmps282 results282
theorem Sn (a b:aC)(hl:y2 a):C0 219 [st (aF a),st (aF b)] (bool (jF a b)):=by
 refine Ct.B func219 ?_;simp;refine cV (λh1 zz=>?_) (λh1 zz=>?_)<;>simp only[zz]<;>simp
 ·exact aA (by simp[jF,h1])
 refine cV (λh2 zz=>?_) (λh2 zz=>?_)<;>simp only[zz]<;>simp
 ·exact aA (by simp[jF,h2])
 refine cV (λh3 zz=>?_) (λh3 zz=>?_)<;>simp only[zz]<;>simp
 ·exact aA (by simp[jF,h3])
 refine cV (λh4 zz=>?_) (λh4 zz=>?_)<;>simp only[zz]<;>simp
 ·exact aA (by simp[jF,h4])
 refine aX (λh5 zz=>?_) (λh5 zz=>?_)<;>simp only[zz]<;>simp
 ·have e:¬a.bH=b.bH:=λe=>h5 (by rw[e]);exact aA (by simp[jF,e])
 have hab:a.bH.length=b.bH.length:=by omega
 have hh:=hl.bH;refine aH.inv mixed rfl (ι:={k:Nat//k<=(a.bH).length/\a.bH.take k=b.bH.take k}) (λk=>[(2,.ptr 64 0),(3,.ptr 65 0),(5,int k.1)]) (λk=>[(64,.cells ((aF a).map .d) 174),(65,.cells ((aF b).map .d) 174)]) 66 (λk=>(a.bH).length-k.1) ⟨0,by omega,by simp⟩ [] (by constructor<;>simp) ?_;rintro⟨k,hk1,hi⟩ B hB;refine CI.n ?_;simp;rcases bC hk1 with⟨x,hk,hx,hr,hm,ht,hd,hw,h⟩|rfl
 ·simp[h,hr,hw];have hrb:b.bH[k]? =some b.bH[k]:=bO (by omega);have htb:b.bH.take (k+1)=b.bH.take k++[b.bH[k]]:=by rw[jH,hrb];rfl
  have hne:x≠b.bH[k]->a.bH≠b.bH:=by
   intro h2 e;exact h2 (mW (by rw[<-hr,<-hrb,e]))
  generalize b.bH[k]=y at hrb htb hne;simp[hrb];refine dr ?_;refine aX (λh6 zz=>?_) (λh6 zz=>?_)<;>simp only[zz]<;>simp[hr,hrb]
  ·have e:¬a.bH=b.bH:=hne h6;exact aA (by simp[jF,e])
  ·have h6':x=y:=by omega
   refine hB _ ⟨k+1,by omega,by rw[ht,htb,hi,h6']⟩ [] ?_ (by simp;omega);constructor<;>simp[hw]
 ·simp;have e:a.bH=b.bH:=by
   rw[bX,hab,bX]at hi;exact hi
  refine CI.p (zbP a.rules b.rules ⟨hl.rules,hl.split⟩) ?_;simp;exact aA (by simp[jF,h1,h2,h3,h4,e])
theorem VN (a b:aC)(hl:y2 a):C0 150 [st (aF a),st (aF b)] (bool (decide (a=b))):=by
 refine Ct.B func150 ?_;simp;refine CI.p (Sn a b hl) ?_;simp;rw[<-Sm];refine bM (λh1=>?_) (λh1=>?_)<;>simp only[h1]<;>simp
 ·exact aA (by simp[h1])
 ·exact aA (by simp[h1])
theorem D3 (a b:List aC)(hl:cL a):C0 152 [aB (a.map aF),aB (b.map aF)] (bool (decide (a=b))):=by
 refine Ct.B func152 ?_;simp;refine aX (λh1 zz=>?_) (λh1 zz=>?_)<;>simp only[zz]<;>simp
 ·have e:¬a=b:=λe=>h1 (by rw[e]);exact aA (by simp[e])
 have hab:a.length=b.length:=by omega
 have hh:=hl.len;refine aH.inv mixed rfl (ι:={k:Nat//k<=(a).length/\a.take k=b.take k}) (λk=>[(0,aB (a.map aF)),(1,aB (b.map aF)),(5,int k.1)]) (λk=>[]) 64 (λk=>(a).length-k.1) ⟨0,by omega,by simp⟩ [] (by constructor<;>simp) ?_;rintro⟨k,hk1,hi⟩ B hB;refine CI.n ?_;simp;rcases bC hk1 with⟨x,hk,hx,hr,hm,ht,hd,hw,h⟩|rfl
 ·simp[h,hr,hw];have hrb:b[k]? =some b[k]:=bO (by omega);have htb:b.take (k+1)=b.take k++[b[k]]:=by rw[jH,hrb];rfl
  have hne:x≠b[k]->a≠b:=by
   intro h2 e;subst e;rw[hr]at hrb;cases hrb;exact h2 rfl
  generalize b[k]=y at hrb htb hne;simp[hrb];refine CI.p (VN x y (hl.all x hm)) ?_;simp;refine dr ?_;refine aX (λh2 zz=>?_) (λh2 zz=>?_)<;>simp only[zz]<;>simp
  ·exact aA (by simp[hne h2])
  ·refine hB _ ⟨k+1,by omega,by rw[ht,htb,hi,h2]⟩ [] ?_ (by simp;omega);constructor<;>simp[hw]
 ·simp;have e:a=b:=by
   rw[bX,hab,bX]at hi;exact hi
  exact aA (by simp[e])
theorem zhY (l:List aC)(hl:cL l):C0 68 [aB (l.map aF)] (bool (FP l)):=by
 refine Ct.B func68 ?_;simp;have hh:=hl.len;refine aH.inv mixed rfl (ι:={k:Nat//k<=(l).length/\(l.take k).all yW=true}) (λk=>[(0,aB (l.map aF)),(3,int k.1)]) (λk=>[]) 64 (λk=>(l).length-k.1) ⟨0,by omega,by simp⟩ [] (by constructor<;>simp) ?_;rintro⟨k,hk1,hi⟩ B hB;refine CI.n ?_;simp;rcases bC hk1 with⟨x,hk,hx,hr,hm,ht,hd,hw,h⟩|rfl
 ·simp[h,hr,hw];refine CI.p (zhZ x (hl.all x hm).rules) ?_;simp;refine aX (λh1 zz=>?_) (λh1 zz=>?_)<;>simp only[zz]<;>simp
  ·have e:l.all yW=false:=by rw[oE];exact⟨x,hm,by simp[h1]⟩
   exact aA (by simp[FP,e])
  ·refine hB _ ⟨k+1,by omega,by simp[ht,hi,h1]⟩ [] ?_ (by simp;omega);constructor<;>simp[hw,ht,h1]
 ·simp;rw[bX]at hi;exact aA (by simp[FP,hi];try omega) rfl
theorem yU (l:List aC)(k_:Key)(hl:l.length<=9223372036854775807):C0 353 [aB (l.map aF),st (aQ k_)] (Oy l k_):=by
 refine Ct.B func353 ?_;simp;refine aH.inv mixed rfl (ι:={k:Nat//k<=(l).length/\(l.take k).all (λr=>!decide (r.key=k_))=true}) (λk=>[(0,aB (l.map aF)),(3,.ptr 64 0),(4,.ptr 65 0),(6,int k.1)]) (λk=>[(64,.cells ((aQ k_).map .d) 184),(65,.cells [.d (iD 0),.d (sD ⟨#[]⟩),.d (iD 0),.d (iD 0),.d (sD ⟨#[]⟩),.d (.v (.slice none 0 0)),.d (.v (.slice none 0 0))] 174)]) 66 (λk=>(l).length-k.1) ⟨0,by omega,by simp⟩ [] (by constructor<;>simp) ?_;rintro⟨k,hk1,hi⟩ B hB;refine CI.n ?_;simp;rcases bC hk1 with⟨x,hk,hx,hr,hm,ht,hd,hw,h⟩|rfl
 ·simp[h,hr,hw];refine CI.p (qL x) ?_;simp;rw[BQ];refine dr ?_;refine aX (λh1 zz=>?_) (λh1 zz=>?_)<;>simp only[zz]<;>simp[hr]
  ·have e:bI l k_=some x:=FO hi hr (by simpa using h1);exact aA (by simp[e])
  ·refine hB _ ⟨k+1,by omega,by simp[ht,hi,h1]⟩ [] ?_ (by simp;omega);constructor<;>simp[hw,ht,h1]
 ·simp;rw[bX]at hi;have e:bI l k_=none:=IM hi;exact aA (by simp[e,fV])
theorem Ib (l:List aC)(k_:Key)(c:Int)(hl:l.length<=1000000)(hn:nB k_.name):C1 371 [aB (l.map aF),st (aQ k_),int c] [] [] (.own 64) [(64,.grow 7 ((qJ l k_ c).map aF) 174)]:=by
 refine Ct.B func371 ?_;simp;refine aH.gH 7 7 174 rfl ?_;refine aH.V (l) (λk=>[(0,aB (l.map aF)),(2,int c),(4,.ptr 64 0),(7,.own 65),(8,int k.1)]) (λk=>[(64,.cells ((aQ k_).map .d) 184),(65,.grow 7 ((qJ (l.take k.1) k_ c).map aF) 174)]) 66 (λk hk1 B hB=>?_);simp;rcases bC hk1 with⟨x,hk,hx,hr,hm,ht,hd,hw,h⟩|rfl
 ·simp[h,hr,hw];have hlen:(qJ (l.take k) k_ c).length<=1000000:=dH (gJ _ _) (by simp;omega);refine CI.p (qL x) ?_;simp;refine CI.p (R3 x.key k_ (.inr hn)) ?_;simp;refine dr ?_;refine aX (λh1 zz=>?_) (λh1 zz=>?_)<;>simp only[zz]<;>simp[hr]
  ·refine⟨by omega,?_⟩;exact hB hk (by constructor<;>simp[hw,ht,nL,h1])
  ·exact hB hk (by constructor<;>simp[hw,ht,nL,h1])
 ·simp;exact zhV 65 (by simp) rfl
theorem T8 (l:List aC)(r:aC)(hl:l.length<=1000000)(hn:nB r.name):C0 282 [aB (l.map aF),st (aF r)] (aB ((nN l r).map aF)):=by
 refine Ct.B func282 ?_;simp;have hlen:∀c,(qJ l r.key c).length<=1000000:=λc=>dH (gJ _ _) hl;have h1:=hlen 1;have h2:=hlen (-1);refine CI.p (qL r) ?_;simp;refine CI.cc [] (Ib l r.key (-1) hl hn) ?_;simp;refine⟨by omega,?_⟩;refine CI.cc [] (Ib l r.key 1 hl hn) ?_;simp;refine⟨by omega,?_⟩;first|exact aA|exact aK
attribute [simp] ntmps354 results354 ntmps261 results261 ntmps368 results368 ntmps454 results454
theorem Ty (l:List aC)(k_:Key)(hl:l.length<=1000000):C0 354 [aB (l.map aF),st (aQ k_)] (aB ((nM l k_).map aF)):=by
 refine Ct.B func354 ?_;simp;refine aH.gH 5 7 174 rfl ?_;refine aH.V (l) (λk=>[(0,aB (l.map aF)),(3,.ptr 64 0),(5,.own 65),(6,int k.1)]) (λk=>[(64,.cells ((aQ k_).map .d) 184),(65,.grow 7 ((nM (l.take k.1) k_).map aF) 174)]) 66 (λk hk1 B hB=>?_);simp;rcases bC hk1 with⟨x,hk,hx,hr,hm,ht,hd,hw,h⟩|rfl
 ·simp[h,hr,hw];have hlen:(nM (l.take k) k_).length<=1000000:=dH (gJ _ _) (by simp;omega);refine CI.p (qL x) ?_;simp;rw[X9];refine dr ?_;refine bQ (λh1=>?_) (λh1=>?_)<;>simp only[h1]<;>simp[hr]
  ·refine⟨by omega,?_⟩;exact hB hk (by constructor<;>simp[hw,ht,nL,h1])
  ·exact hB hk (by constructor<;>simp[hw,ht,nL,h1])
 ·simp;exact aA
theorem WD (l aD:List aC)(gone:List Key)(hl:l.length+aD.length<=1000000)(hg:gone.length<=9223372036854775807)(hn:∀r∈aD,nB r.name):C0 261 [aB (l.map aF),aB (aD.map aF),aB (gone.map aQ)] (aB ((iC l aD gone).map aF)):=by
 refine Ct.B func261 ?_;simp;refine aH.V (gone) (λk=>[(0,aB (((gone.take k.1).foldl nM l).map aF)),(1,aB (aD.map aF)),(2,aB (gone.map aQ)),(7,int k.1)]) (λk=>[]) 64 (λk hk1 B hB=>?_);simp;rcases bC hk1 with⟨x,hk,hx,hr,hm,ht,hd,hw,h⟩|rfl
 ·simp[h,hr,hw];have h1:=IJ (gone.take k) l;refine CI.p (Ty ((gone.take k).foldl nM l) x (by omega)) ?_;simp;exact hB hk (by constructor<;>simp[hw,ht,qY])
 ·simp;have h1:=IJ gone l;refine aH.V (aD) (λk=>[(0,aB (((aD.take k.1).foldl nN (gone.foldl nM l)).map aF)),(1,aB (aD.map aF)),(8,int k.1)]) (λk=>[]) 64 (λk hk1 B hB=>?_);simp;rcases bC hk1 with⟨x,hk,hx,hr,hm,ht,hd,hw,h⟩|rfl
  ·simp[h,hr,hw];have h2:=LL (aD.take k) (gone.foldl nM l);have h3:(aD.take k).length<=aD.length:=by simp;omega
   refine CI.p (T8 ((aD.take k).foldl nN (gone.foldl nM l)) x (by omega) (hn x hm)) ?_;simp;exact hB hk (by constructor<;>simp[hw,ht,qY])
  ·simp;exact aA (by simp[iC])
theorem Q5 (l:List Key)(k_:Key)(hl:l.length<=9223372036854775807):C0 368 [aB (l.map aQ),st (aQ k_)] (bool (decide (k_∈l))):=by
 refine Ct.B func368 ?_;simp;refine aH.inv mixed rfl (ι:={k:Nat//k<=(l).length/\k_∉l.take k}) (λk=>[(0,aB (l.map aQ)),(3,.ptr 64 0),(5,int k.1)]) (λk=>[(64,.cells ((aQ k_).map .d) 184)]) 65 (λk=>(l).length-k.1) ⟨0,by omega,by simp⟩ [] (by constructor<;>simp) ?_;rintro⟨k,hk1,hi⟩ B hB;refine CI.n ?_;simp;rcases bC hk1 with⟨x,hk,hx,hr,hm,ht,hd,hw,h⟩|rfl
 ·simp[h,hr,hw];rw[BQ];refine dr ?_;refine aX (λh1 zz=>?_) (λh1 zz=>?_)<;>simp only[zz]<;>simp[hr]
  ·have e:k_∈l:=by rw[<-h1];exact hm
   exact aA (by simp[e])
  ·refine hB _ ⟨k+1,by omega,by rw[ht];simp[hi];exact λe=>h1 e.symm⟩ [] ?_ (by simp;omega);constructor<;>simp[hw]
 ·simp;rw[bX]at hi;exact aA (by simp[hi])
theorem zcr (l:List aC)(k_:Key)(hl:l.length<=1000000):C0 454 [aB (l.map aF),st (aQ k_)] (aB ((yK l k_).map aQ)):=by
 refine Ct.B func454 ?_;simp;refine aH.gH 5 2 184 rfl ?_;refine aH.V (l) (λk=>[(0,aB (l.map aF)),(3,.ptr 64 0),(5,.own 65),(6,int k.1)]) (λk=>[(64,.cells ((aQ k_).map .d) 184),(65,.grow 2 ((yK (l.take k.1) k_).map aQ) 184)]) 66 (λk hk1 B hB=>?_);simp;rcases bC hk1 with⟨x,hk,hx,hr,hm,ht,hd,hw,h⟩|rfl
 ·simp[h,hr,hw];have hlen:((l.take k).filter λr=>decide (k_∈cD r)).length<=1000000:=dH (gJ _ _) (by simp;omega);refine CI.p (O1 x) ?_;simp;refine CI.p (Q5 (cD x) k_ (Ge x)) ?_;simp;refine dr ?_;refine bQ (λh1=>?_) (λh1=>?_)<;>simp only[h1]<;>simp[hr]
  ·refine CI.p (qL x) ?_;simp;refine⟨by omega,?_⟩;exact hB hk (by constructor<;>simp[hw,ht,nL,h1])
  ·exact hB hk (by constructor<;>simp[hw,ht,nL,h1])
 ·simp;exact aA
attribute [simp] ntmps265 results265 ntmps206 results206 ntmps284 results284 ntmps92 results92
theorem Ea (v:View)(f:G.Frame):C0 265 [st (q7 v),st (cA f)] (st (q7 (rW v f))):=by
 refine Ct.B func265 ?_;simp;exact aA (by simp[rW])
theorem Qa (v:View)(t:Int)(h:List Key):C0 206 [st (q7 v),int t,aB (h.map aQ)] (st (q7 (lZ v t h))):=by
 refine Ct.B func206 ?_;simp;refine aX (λh1 zz=>?_) (λh1 zz=>?_)<;>simp only[zz]<;>simp
 ·exact aA (by simp[lZ,h1])
 ·exact aA (by simp[lZ,h1])
theorem zkU (v:View)(f:G.Frame)(hl:v.aP.length+v.push.aD.length<=1000000)(hg:v.push.gone.length<=9223372036854775807)(hn:∀r∈v.push.aD,nB r.name):C0 284 [st (q7 v),st (cA f)] (.aU [st (q7 (gC v f)),int (pV v f)]):=by
 refine Ct.B func284 ?_;simp;refine aX (λh1 zz=>?_) (λh1 zz=>?_)<;>simp only[zz]<;>simp
 ·exact aA (by simp[gC,pV,h1])
 refine cV (λh2 zz=>?_) (λh2 zz=>?_)<;>simp only[zz]<;>simp
 ·exact aA (by simp[gC,pV,mU,h1,h2])
 refine cV (λh3 zz=>?_) (λh3 zz=>?_)<;>simp only[zz]<;>simp
 ·exact aA (by simp[gC,pV,mU,h1,h3])
 refine cV (λh4 zz=>?_) (λh4 zz=>?_)<;>simp only[zz]<;>simp
 ·exact aA (by simp[gC,pV,mU,h1,h4])
 refine aX (λh5 zz=>?_) (λh5 zz=>?_)<;>simp only[zz]<;>simp
 ·exact aA (by simp[gC,pV,mU,h1,h5])
 have hfit:mU v f=true:=by simp[mU,h2,h3,h4,h5]
 refine CI.p (Qa ⟨v.aP,v.held,v.turn,eV,false⟩ f.turn f.held) ?_ (ha:=by simp[eV]);simp[eV];refine aX (λh6 zz=>?_) (λh6 zz=>?_)<;>simp only[zz]<;>simp
 ·refine CI.p (WD v.aP v.push.aD v.push.gone hl hg hn) ?_;simp;exact aK (by simp[gC,pV,h1,hfit,h6,eV])
 ·exact aK (by simp[gC,pV,h1,hfit,h6,eV])
attribute [simp] ntmps572 results572 ntmps534 results534 ntmps533 results533 ntmps470 results470 ntmps532 results532 ntmps465 results465 ntmps379 results379 ntmps468 results468 ntmps469 results469 ntmps467 results467
theorem Nl (a:Int):C0 572 [int a] (bool false):=by
 refine Ct.B func572 ?_;simp;exact aA
theorem Qq (a b:Int):C0 534 [int a,int b] (int (if a<b then-1 else if b<a then 1 else 0)):=by
 refine Ct.B func534 ?_;simp;refine CI.p (Nl a) ?_;simp;refine CI.p (Nl b) ?_;simp;refine aX (λh1 zz=>?_) (λh1 zz=>?_)<;>simp only[zz]<;>simp
 ·exact aA (by simp[h1])
 refine aX (λh2 zz=>?_) (λh2 zz=>?_)<;>simp only[zz]<;>simp
 ·exact aA (by simp[h1,h2])
 ·exact aA (by simp[h1,h2])
def E8 (l:List Int):Int:=(l.find? λx=>!decide (x=0)).getD 0
theorem zdQ (l:List Int)(hl:l.length<=9223372036854775807):C1 533 [.own 0] [(0,.grow 1 (l.map kP) 3)] [] (int (E8 l)) []:=by
 refine Ct.B func533 ?_;simp;refine aH.inv mixed rfl (ι:={k:Nat//k<=(l).length/\(l.take k).all (λx=>!!decide (x=0))=true}) (λk=>[(3,int 0),(6,.own 0),(7,int l.length),(8,int k.1)]) (λk=>[(0,.grow 1 (l.map kP) 3)]) 64 (λk=>(l).length-k.1) ⟨0,by omega,by simp⟩ [] (by constructor<;>simp) ?_;rintro⟨k,hk1,hi⟩ B hB;refine CI.n ?_;simp;rcases bC hk1 with⟨x,hk,hx,hr,hm,ht,hd,hw,h⟩|rfl
 ·simp[h,hr,hw,hk];refine aX (λh1 zz=>?_) (λh1 zz=>?_)<;>simp only[zz]<;>simp[hx]
  ·rw[hx]at h1;have e:E8 l=x:=by simp[E8,FO hi hr (by simpa using h1)]
   exact⟨[],by constructor<;>simp[aI,aJ,e,hx]⟩
  ·rw[hx]at h1;refine hB _ ⟨k+1,by omega,by rw[ht,List.all_append,hi];simp[h1]⟩ [] ?_ (by simp;omega);constructor<;>simp[hw]
 ·simp;rw[bX]at hi;have e:E8 l=0:=by simp[E8,IM hi]
  exact⟨[],by constructor<;>simp[aI,aJ,e]⟩
theorem ZI (a b:Key):C0 470 [st (aQ a),st (aQ b)] (int (cT a b)):=by
 refine Ct.B func470 ?_;simp;refine CI.p (Qq a.kind b.kind) ?_;simp;refine CI.p (zi3 a.name b.name) ?_;simp;refine CI.cc [896] (zdQ [if a.kind<b.kind then-1 else if b.kind<a.kind then 1 else 0,qU a.name b.name] (by simp)) ?_;simp;refine dr ?_;have e:E8 [if a.kind<b.kind then-1 else if b.kind<a.kind then 1 else 0,qU a.name b.name]=cT a b:=by
  unfold E8 cT;by_cases h1:a.kind<b.kind
  ·simp[h1]
  ·by_cases h2:b.kind<a.kind
   ·simp[h1,h2]
   ·by_cases h3:qU a.name b.name=0<;>simp[h1,h2,h3]
 exact aA (by simp[e])
theorem Nk (k_:Key)(r:aC):C0 532 [st (aF r),.d (.bE (aQ k_))] (bool (decide (r.key=k_))):=by
 refine Ct.B func532 ?_;simp;refine CI.p (oK r) ?_;simp;rw[BQ];refine dr ?_;exact aA
theorem YD (k_:Key):C0 465 [st (aQ k_)] (.d (.fn (.func 532) [] [.bE (aQ k_)])):=by
 refine Ct.B func465 ?_;simp;exact aA
theorem YS (l:List aC)(k_:Key)(hl:l.length<=9223372036854775807):C0 379 [aB (l.map aF),st (aQ k_)] (Oy l k_):=by
 refine Ct.B func379 ?_;simp;refine CI.p (YD k_) ?_;simp;refine CI.p (Q1 l (.fn (.func 532) [] [.bE (aQ k_)]) (λr=>decide (r.key=k_)) (λr hr=>bN.nZ (by exact Nk k_ r) call532 rfl rfl) hl) ?_;simp;rcases IP (λr:aC=>decide (r.key=k_)) l with⟨h1,h2⟩|⟨i,x,h1,h2,h3,h4⟩
 ·have e:bI l k_=none:=h2;simp[h1];exact aA (by simp[e,fV])
 ·have e:bI l k_=some x:=h4;have hx:l[i]=x:=by rw[bO h2]at h3;exact mW h3
  simp[h1,h2,h3,hx];exact aA (by simp[e])
theorem Y4 (l:List aC)(kf:D)(p:aC->Bool)(hf:∀x∈l,bN prog (.d kf) [st (aF x)] (bool (p x)))(hl:l.length<=1000000):C0 468 [aB (l.map aF),.d kf] (aB ((l.filter p).map aF)):=by
 refine Ct.B func468 ?_;simp;refine aH.gH 5 7 174 rfl ?_;refine aH.V (l) (λk=>[(0,aB (l.map aF)),(1,.d kf),(5,.own 64),(8,aB (l.map aF)),(9,int l.length),(10,int k.1)]) (λk=>[(64,.grow 7 (((l.take k.1).filter p).map aF) 174)]) 65 (λk hk1 B hB=>?_);simp;rcases bC hk1 with⟨x,hk,hx,hr,hm,ht,hd,hw,h⟩|rfl
 ·simp[h,hr,hw];have hlen:((l.take k).filter p).length<=1000000:=dH (gJ _ _) (by simp;omega);refine CI.ff (hf x hm) rfl rfl rfl ?_;simp;refine bQ (λh1=>?_) (λh1=>?_)<;>simp only[h1]<;>simp[hr]
  ·refine⟨by omega,?_⟩;exact hB hk (by constructor<;>simp[hw,ht,nL,h1])
  ·exact hB hk (by constructor<;>simp[hw,ht,nL,h1])
 ·simp;exact aA
theorem Ub (k_:Key)(c:Int)(r:aC):C0 469 [st (aF r),.d (.bE (aQ k_)),.d (.bE [iD c])] (bool (decide (cT r.key k_=c))):=by
 refine Ct.B func469 ?_;simp;refine CI.p (oK r) ?_;simp;refine CI.p (ZI r.key k_) ?_;simp;refine dr ?_;exact aA
theorem Be (l:List aC)(k_:Key)(c:Int)(hl:l.length<=1000000):C0 467 [int c,.d (.bE [lD (l.map aF)]),.d (.bE (aQ k_))] (aB ((qJ l k_ c).map aF)):=by
 refine Ct.BS func467 mixed 1 400 ?_;simp;refine CI.s (tm:=[(1,.d (.bE [lD (l.map aF)])),(2,.d (.bE (aQ k_))),(3,.d (.bE [iD c]))]) (mm:=[]) (nx:=65) [] [64] (by constructor<;>simp) ?_;refine CI.n ?_;simp;refine CI.p (Y4 l (.fn (.func 469) [] [.bE (aQ k_),.bE [iD c]]) (λr=>decide (cT r.key k_=c)) (λr hr=>bN.nZ (by exact Ub k_ c r) call469 rfl rfl) hl) ?_;simp;exact aA
attribute [simp] ntmps536 results536 ntmps471 results471 ntmps381 results381 ntmps378 results378 ntmps464 results464 ntmps466 results466 ntmps380 results380 ntmps303 results303 ntmps588 results588 ntmps549 results549
abbrev Ak :List D:=[iD 0,sD ⟨#[]⟩,iD 0,iD 0,sD ⟨#[]⟩,.v (.slice none 0 0),.v (.slice none 0 0)]
theorem zhg (n:Int)(h0:0<n)(h1:n<=2000000):C1 536 [.d (.v (.slice none 0 0)),int n] [] [] (.sl 64 7 0 0) [(64,.grow 7 (List.replicate n.toNat Ak) 174)]:=by
 refine Ct.B func536 ?_;simp;have g1:¬n<0:=by omega
 have g2:=wz (n);simp[g1,g2,h0];refine⟨⟨by omega,by omega⟩,by omega,?_⟩;exact⟨[(64,1216)],by constructor<;>simp[aI,aJ,Ak]⟩
theorem ziW (a b c:List aC)(h0:0<a.length+b.length+c.length)(h1:a.length+b.length+c.length<=2000000):C1 471 [.own 0] [(0,.grow 1 [[lD (a.map aF)],[lD (b.map aF)],[lD (c.map aF)]] 65)] [] (.own 64) [(64,.grow 7 ((a++b++c).map aF) 174)]:=by
 refine Ct.B func471 ?_;simp;have w1:IntKind.wrap .i64 (a.length:Int)=a.length:=wz _;have w2:IntKind.wrap .i64 ((a.length:Int)+b.length)=a.length+b.length:=wz _;have w3:IntKind.wrap .i64 ((a.length:Int)+b.length+c.length)=a.length+b.length+c.length:=wz _;have v1:¬((a.length:Int)<0):=by omega
 have v2:¬((a.length:Int)+b.length<0):=by omega
 have v3:¬((a.length:Int)+b.length+c.length<0):=by omega
 refine aH.un ?_;simp[w1,v1];refine aH.un ?_;simp[w2,v2];refine aH.un ?_;simp[w3,v3];refine aH.un ?_;simp;refine CI.cc [] (zhg ((a.length:Int)+b.length+c.length) (by omega) (by omega)) ?_;simp;refine aH.un ?_;simp;refine⟨by omega,?_⟩;refine aH.un ?_;simp;refine⟨by omega,?_⟩;refine aH.un ?_;simp;refine⟨by omega,?_⟩;refine aH.un ?_;simp;exact⟨[(64,4992)],by constructor<;>simp[aI,aJ]⟩
theorem Bc (l:List aC)(r:aC)(hl:l.length<=1000000):C0 381 [aB (l.map aF),st (aF r)] (aB ((nN l r).map aF)):=by
 refine Ct.BS func381 mixed 2 400 ?_;simp;refine CI.pS (oK r) call248 2 ?_;simp;refine CI.s (tm:=[(2,.d (.bE [lD (l.map aF)])),(3,.ptr 64 0),(5,.d (.bE (aQ r.key)))]) (mm:=[(64,.cells ((aF r).map .d) 174)]) (nx:=65) [(64,128)] [64,384] (by constructor<;>simp) ?_;refine CI.n ?_;simp;refine CI.ff (bN.nZ (args:=[int (-1)]) (by exact Be l r.key (-1) hl) call467 rfl rfl) rfl rfl rfl ?_;simp;refine CI.ff (bN.nZ (args:=[int 1]) (by exact Be l r.key 1 hl) call467 rfl rfl) rfl rfl rfl ?_;simp;have h1:=Bd l r;simp only[nN,bZ,jI,gZ]at h1;refine CI.cc [577] (ziW (qJ l r.key (-1)) [r] (qJ l r.key 1) (by simp;omega) (by simp only[jI,gZ];omega)) ?_;simp;exact aK
theorem R6 :C0 378 [aB []] (aB []):=by
 refine Ct.B func378 ?_;simp;refine⟨?_,?_⟩
 ·exact aA
 ·exact aA
theorem R4 (x:aC)(l:List aC)(hl:l.length<=1000000):C1 378 [aB ((x::l).map aF)] [] [] (.own 64) [(64,.grow 7 ((x::l).map aF) 174)]:=by
 refine Ct.B func378 ?_;simp;refine⟨by omega,?_⟩;exact⟨[(64,384)],by constructor<;>simp[aI,aJ]⟩
theorem zgN (l:List aC)(kf:D)(p:aC->Bool)(hf:∀x∈l,bN prog (.d kf) [st (aF x)] (bool (p x)))(hl:l.length<=9223372036854775807):C1 464 [.own 0,.d kf] [(0,.grow 7 (l.map aF) 174)] [] (int (iZ p l)) []:=by
 refine Ct.B func464 ?_;simp;refine aH.inv mixed rfl (ι:={k:Nat//k<=(l).length/\(l.take k).all (λx=>!p x)=true}) (λk=>[(0,.own 0),(1,.d kf),(7,int l.length),(8,int k.1)]) (λk=>[(0,.grow 7 (l.map aF) 174)]) 64 (λk=>(l).length-k.1) ⟨0,by omega,by simp⟩ [] (by constructor<;>simp) ?_;rintro⟨k,hk1,hi⟩ B hB;refine CI.n ?_;simp;rcases bC hk1 with⟨r,hk,hx,hr,hm,ht,hd,hw,h⟩|rfl
 ·simp[h,hr,hw,hk];refine CI.ff (hf r hm) rfl rfl rfl ?_ (ha:=by simp[hx]);simp[hx];refine bQ (λhp=>?_) (λhp=>?_)<;>simp only[hp]<;>simp
  ·have e:=yR hi hr hp;exact⟨[],by constructor<;>simp[aI,aJ,e]⟩
  ·refine hB _ ⟨k+1,by omega,by simp[ht,hi,hp]⟩ [] ?_ (by simp;omega);constructor<;>simp[hw,ht,hp]
 ·simp;rw[bX]at hi;have e:iZ p l= -1:=yQ (λx hx=>by have:=dP.1 hi x hx;simpa using this);exact⟨[],by constructor<;>simp[aI,aJ,e]⟩
theorem RT (kf:D):C0 466 [aB [],.d kf] (aB []):=by
 refine Ct.B func466 ?_;simp;refine CI.p (Q1 [] kf (λ_=>false) (λx hx=>by simp at hx) (by simp)) ?_;simp;simp[iZ];exact aA
theorem RW (l:List aC)(kf:D)(p:aC->Bool)(hf:∀x∈l,bN prog (.d kf) [st (aF x)] (bool (p x)))(hl:l.length<=1000000):C1 466 [.own 0,.d kf] [] [(0,.grow 7 (l.map aF) 174)] (aB ((l.filter λx=>!p x).map aF)) []:=by
 refine Ct.B func466 ?_;simp;refine CI.cc [0] (zgN l kf p hf (by omega)) ?_;simp;rcases IP p l with⟨h1,h2⟩|⟨i,x,h1,h2,h3,h4⟩
 ·have e:(l.filter λx=>!p x)=l:=by
   rw[JS];intro a ha;have:=MX.1 h2 a ha;simpa using this
  simp[h1];exact⟨[],by constructor<;>simp[aI,aJ,e]⟩
 ·have hne:¬(i:Int)= -1:=by omega
  have hwi:IntKind.wrap .i64 ((i:Int)+1)=i+1:=wz _;simp[h1,hne,hwi];have d0:=pW.start (x:=x) h1 h2;refine aH.inv mixed rfl (ι:={q:Nat×Nat×List aC//pW p l q.1 q.2.1 q.2.2}) (λk=>[(0,.own 0),(1,.d kf),(5,int k.1.2.1),(6,int k.1.1)]) (λk=>[(0,.grow 7 (k.1.2.2.map aF) 174)]) 64 (λk=>l.length-k.1.1) ⟨(i+1,i,l),d0⟩ [] (by constructor<;>simp) ?_;rintro⟨⟨j,i,cur⟩,hd⟩ B hB;clear h1 h2 h3 h4 hne hwi d0;have hlen:=hd.len;have hlt:=hd.lt;have hle:=hd.le;simp only at hlen hlt hle;have w1:IntKind.wrap .i64 ((j:Int)+1)=j+1:=wz _;have w2:IntKind.wrap .i64 ((i:Int)+1)=i+1:=wz _;refine CI.n ?_;simp[hlen];refine aX (λh zz=>?_) (λh zz=>?_)<;>simp only[zz]<;>simp
  ·have hj:j<l.length:=by omega
   have hv:l[j]? =some l[j]:=bO hj;have hm:l[j]∈l:=mF hj;generalize l[j]=v at hv hm;have hg:=hd.get hv;have hjc:j<cur.length:=by omega
   have hgx:cur[j]=v:=by rw[bO hjc]at hg;exact mW hg
   simp[hjc,hgx];refine CI.ff (hf v hm) rfl rfl rfl ?_;simp;have hic:i<cur.length:=by omega
   refine bQ (λh2=>?_) (λh2=>?_)<;>simp only[h2]<;>simp[hic]
   ·have hp:p v=false:=by simpa using h2
    refine hB _ ⟨(j+1,i+1,cur.set i v),hd.keep hv hp⟩ [] ?_ (by simp;omega);constructor<;>simp[w1,w2,GD]
   ·have hp:p v=true:=by simpa using h2
    refine hB _ ⟨(j+1,i,cur),hd.del hv hp⟩ [] ?_ (by simp;omega);constructor<;>simp[w1]
  ·have hj:j=l.length:=by omega
   subst hj;have e:cur.take i=l.filter (λx=>!p x):=hd.done;simp[hlen];have e2:List.take i (List.map aF cur)=List.map aF (List.filter (λx=>!p x) l):=by rw[<-zB,e]
   have e3:(List.filter (λx=>!p x) l).length=i:=by rw[<-e,CL];omega
   refine⟨by omega,by omega,by omega,?_⟩;rw[e2];exact⟨[],by constructor<;>simp[aI,aJ,e3,List.take_append,show i<=i+(l.length-i+(l.length-(i+(l.length-i))))from by omega]⟩
theorem Tz (l:List aC)(k_:Key)(hl:l.length<=1000000):C0 380 [aB (l.map aF),st (aQ k_)] (aB ((nM l k_).map aF)):=by
 refine Ct.B func380 ?_;simp;cases l with
 |nil=>
  refine CI.p R6 ?_;simp;refine CI.p (YD k_) ?_;simp;refine CI.p (RT (.fn (.func 532) [] [.bE (aQ k_)])) ?_;simp;exact aK
 |cons x l=>
  refine CI.cc [] (R4 x l (by simp at hl;omega)) ?_;simp;refine CI.p (YD k_) ?_;simp;refine CI.cc [256] (RW (x::l) (.fn (.func 532) [] [.bE (aQ k_)]) (λr=>decide (r.key=k_)) (λr hr=>bN.nZ (by exact Nk k_ r) call532 rfl rfl) hl) ?_;simp;exact aK
theorem PK (l aD:List aC)(gone:List Key)(hl:l.length+aD.length<=1000000)(hg:gone.length<=9223372036854775807):C0 303 [aB (l.map aF),aB (aD.map aF),aB (gone.map aQ)] (aB ((iC l aD gone).map aF)):=by
 refine Ct.B func303 ?_;simp;refine aH.V (gone) (λk=>[(0,aB (((gone.take k.1).foldl nM l).map aF)),(1,aB (aD.map aF)),(11,aB (gone.map aQ)),(12,int gone.length),(13,int k.1)]) (λk=>[]) 64 (λk hk1 B hB=>?_);simp;rcases bC hk1 with⟨x,hk,hx,hr,hm,ht,hd,hw,h⟩|rfl
 ·simp[h,hr,hw];have h1:=IJ (gone.take k) l;refine CI.p (Tz ((gone.take k).foldl nM l) x (by omega)) ?_;simp;exact hB hk (by constructor<;>simp[hw,ht,qY])
 ·simp;have h1:=IJ gone l;refine aH.V (aD) (λk=>[(0,aB (((aD.take k.1).foldl nN (gone.foldl nM l)).map aF)),(21,aB (aD.map aF)),(22,int aD.length),(23,int k.1)]) (λk=>[]) 64 (λk hk1 B hB=>?_);simp;rcases bC hk1 with⟨x,hk,hx,hr,hm,ht,hd,hw,h⟩|rfl
  ·simp[h,hr,hw];have h2:=LL (aD.take k) (gone.foldl nM l);have h3:(aD.take k).length<=aD.length:=by simp;omega
   refine CI.p (Bc ((aD.take k).foldl nN (gone.foldl nM l)) x (by omega)) ?_;simp;exact hB hk (by constructor<;>simp[hw,ht,qY])
  ·simp;exact aA (by simp[iC])
theorem zgO (l:List Key)(k_:Key)(hl:l.length<=9223372036854775807):C0 588 [aB (l.map aQ),st (aQ k_)] (int (iZ (λx=>decide (k_=x)) l)):=by
 refine Ct.B func588 ?_;simp;refine aH.inv mixed rfl (ι:={k:Nat//k<=(l).length/\(l.take k).all (λx=>!decide (k_=x))=true}) (λk=>[(0,aB (l.map aQ)),(3,.ptr 64 0),(6,aB (l.map aQ)),(7,int l.length),(8,int k.1)]) (λk=>[(64,.cells ((aQ k_).map .d) 184)]) 65 (λk=>(l).length-k.1) ⟨0,by omega,by simp⟩ [] (by constructor<;>simp) ?_;rintro⟨k,hk1,hi⟩ B hB;refine CI.n ?_;simp;rcases bC hk1 with⟨r,hk,hx,hr,hm,ht,hd,hw,h⟩|rfl
 ·simp[h,hr,hw];rw[BQ];refine dr ?_;refine bQ (λh1=>?_) (λh1=>?_)<;>simp only[h1]<;>simp[hr]
  ·have e:=yR hi hr (by simpa using h1);exact aA (by simp[e])
  ·refine hB _ ⟨k+1,by omega,by simp[ht,hi,h1]⟩ [] ?_ (by simp;omega);constructor<;>simp[hw,ht,h1]
 ·simp;rw[bX]at hi;have e:iZ (λx=>decide (k_=x)) l= -1:=yQ (λx hx=>by have:=dP.1 hi x hx;simpa using this);exact aA (by simp[e])
theorem Og (l:List Key)(k_:Key)(hl:l.length<=9223372036854775807):C0 549 [aB (l.map aQ),st (aQ k_)] (bool (decide (k_∈l))):=by
 refine Ct.B func549 ?_;simp;refine CI.p (zgO l k_ hl) ?_;simp;rw[DR];have e:(l.any λx=>decide (k_=x))=decide (k_∈l):=by rw[tQ];simp
 exact aA (by simp[e])
end Go.Proofs.YtobcmagefgdgdaaGreatDoor
