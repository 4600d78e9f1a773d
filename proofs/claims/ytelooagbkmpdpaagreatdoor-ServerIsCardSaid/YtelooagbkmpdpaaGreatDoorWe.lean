/-
  LAYERS 5, 6, 9, walked
-/
import Derived.Test.YtelooagbkmpdpaaGreatDoorWc
set_option linter.unusedSimpArgs false
set_option linter.unusedVariables false
set_option maxRecDepth 100000
set_option maxHeartbeats 8000000
namespace Go.Proofs.YtelooagbkmpdpaaGreatDoor
open Go.AI Go.G
theorem PR (a b:Weight):(!decide (a.jF=b.jF)|| !decide (a.w=b.w))= !decide (a=b):=by
 obtain⟨p,q⟩:=a;obtain⟨u,v⟩:=b;rw[pH];simp[Weight.mk.injEq]
theorem XV (a b:G.Mark):(!decide (a.k.kind=b.k.kind)|| (!decide (a.k.name=b.k.name)|| !decide (a.bZ=b.bZ)))= !decide (a=b):=by
 rw[<-K1];simp[vZ,Bool.or_assoc]
attribute [simp] Tryz.ntmps201 Tryz.results201
theorem eq_int (a b:List Int)(hl:a.length<=9223372036854775807):Ct Tryz.prog 201 [aD (a.map kR),aD (b.map kR)] [] [] (bool (decide (a=b))) []:=by
 refine Ct.B Tryz.func201 ?_;simp;refine aE (λh1=>?_) (λh1=>?_)<;>simp only[h1]<;>simp<;>(try simp only[nT,nF,dT,dF]at h1)
 ·have e:¬a=b:=λe=>h1 (by rw[e]);first|exact aA (by simp[e]) rfl|exact aB (by simp[e])
 have hab:a.length=b.length:=by omega
 refine aJ.inv mixed rfl (ι:={k:Nat//k<=(a).length/\a.take k=b.take k}) (λk=>[(0,aD (a.map kR)),(1,aD (b.map kR)),(11,aD (a.map kR)),(12,int a.length),(13,int k.1)]) (λk=>[]) 64 (λk=>(a).length-k.1) ⟨0,by omega,by simp⟩ [] (by constructor<;>simp) ?_;rintro⟨k,hk1,hi⟩ B hB;refine CI.n ?_;simp;refine aE (λh=>?_) (λh=>?_)
 ·have hk:k<(a).length:=by simpa using h
  obtain⟨x,hx,hr,hm,ht,hd,hw⟩:=bB hk;simp only[h];simp[hr,hw];have hrb:b[k]? =some b[k]:=bL (by omega);have htb:b.take (k+1)=b.take k++[b[k]]:=by rw[eW,hrb];rfl
  have hne:¬x=b[k]->¬a=b:=by
   intro h2 e;subst e;rw[hr]at hrb;exact h2 (kJ hrb)
  generalize b[k]=y at hrb htb hne;simp[hrb];refine⟨by decide+kernel,?_⟩;refine aE (λh2=>?_) (λh2=>?_)<;>simp only[h2]<;>simp[hr,hrb]<;>(try simp only[nT,nF,dT,dF]at h2)
  ·have e:=hne h2;first|exact aA (by simp[e]) rfl|exact aB (by simp[e])
  ·refine hB _ ⟨k+1,by omega,by rw[ht,htb,hi,h2]⟩ [] ?_ (by simp;omega);constructor<;>simp[hw]
 ·obtain rfl:k=(a).length:=by simp at h;omega
  simp only[h];simp;have e:a=b:=by
   rw[bK,hab,bK]at hi;exact hi
  first|exact aA (by simp[e]) rfl|exact aB (by simp[e])
attribute [simp] Tryz.ntmps200 Tryz.results200
theorem Bn (a b:List Weight)(hl:a.length<=9223372036854775807):Ct Tryz.prog 200 [aD (a.map wC),aD (b.map wC)] [] [] (bool (decide (a=b))) []:=by
 refine Ct.B Tryz.func200 ?_;simp;refine aE (λh1=>?_) (λh1=>?_)<;>simp only[h1]<;>simp<;>(try simp only[nT,nF,dT,dF]at h1)
 ·have e:¬a=b:=λe=>h1 (by rw[e]);first|exact aA (by simp[e]) rfl|exact aB (by simp[e])
 have hab:a.length=b.length:=by omega
 refine aJ.inv mixed rfl (ι:={k:Nat//k<=(a).length/\a.take k=b.take k}) (λk=>[(0,aD (a.map wC)),(1,aD (b.map wC)),(11,aD (a.map wC)),(12,int a.length),(13,int k.1)]) (λk=>[]) 64 (λk=>(a).length-k.1) ⟨0,by omega,by simp⟩ [] (by constructor<;>simp) ?_;rintro⟨k,hk1,hi⟩ B hB;refine CI.n ?_;simp;refine aE (λh=>?_) (λh=>?_)
 ·have hk:k<(a).length:=by simpa using h
  obtain⟨x,hx,hr,hm,ht,hd,hw⟩:=bB hk;simp only[h];simp[hr,hw];have hrb:b[k]? =some b[k]:=bL (by omega);have htb:b.take (k+1)=b.take k++[b[k]]:=by rw[eW,hrb];rfl
  have hne:¬x=b[k]->¬a=b:=by
   intro h2 e;subst e;rw[hr]at hrb;exact h2 (kJ hrb)
  generalize b[k]=y at hrb htb hne;simp[hrb];rw[PR];refine⟨by decide+kernel,?_⟩;refine aE (λh2=>?_) (λh2=>?_)<;>simp only[h2]<;>simp[hr,hrb]<;>(try simp only[nT,nF,dT,dF]at h2)
  ·have e:=hne h2;first|exact aA (by simp[e]) rfl|exact aB (by simp[e])
  ·refine hB _ ⟨k+1,by omega,by rw[ht,htb,hi,h2]⟩ [] ?_ (by simp;omega);constructor<;>simp[hw]
 ·obtain rfl:k=(a).length:=by simp at h;omega
  simp only[h];simp;have e:a=b:=by
   rw[bK,hab,bK]at hi;exact hi
  first|exact aA (by simp[e]) rfl|exact aB (by simp[e])
attribute [simp] Tryz.ntmps164 Tryz.results164
theorem NB (a b:List Key)(hl:a.length<=9223372036854775807):Ct Tryz.prog 164 [aD (a.map aK),aD (b.map aK)] [] [] (bool (decide (a=b))) []:=by
 refine Ct.B Tryz.func164 ?_;simp;refine aE (λh1=>?_) (λh1=>?_)<;>simp only[h1]<;>simp<;>(try simp only[nT,nF,dT,dF]at h1)
 ·have e:¬a=b:=λe=>h1 (by rw[e]);first|exact aA (by simp[e]) rfl|exact aB (by simp[e])
 have hab:a.length=b.length:=by omega
 refine aJ.inv mixed rfl (ι:={k:Nat//k<=(a).length/\a.take k=b.take k}) (λk=>[(0,aD (a.map aK)),(1,aD (b.map aK)),(11,aD (a.map aK)),(12,int a.length),(13,int k.1)]) (λk=>[]) 64 (λk=>(a).length-k.1) ⟨0,by omega,by simp⟩ [] (by constructor<;>simp) ?_;rintro⟨k,hk1,hi⟩ B hB;refine CI.n ?_;simp;refine aE (λh=>?_) (λh=>?_)
 ·have hk:k<(a).length:=by simpa using h
  obtain⟨x,hx,hr,hm,ht,hd,hw⟩:=bB hk;simp only[h];simp[hr,hw];have hrb:b[k]? =some b[k]:=bL (by omega);have htb:b.take (k+1)=b.take k++[b[k]]:=by rw[eW,hrb];rfl
  have hne:¬x=b[k]->¬a=b:=by
   intro h2 e;subst e;rw[hr]at hrb;exact h2 (kJ hrb)
  generalize b[k]=y at hrb htb hne;simp[hrb];rw[EP];refine⟨by decide+kernel,?_⟩;refine aE (λh2=>?_) (λh2=>?_)<;>simp only[h2]<;>simp[hr,hrb]<;>(try simp only[nT,nF,dT,dF]at h2)
  ·have e:=hne h2;first|exact aA (by simp[e]) rfl|exact aB (by simp[e])
  ·refine hB _ ⟨k+1,by omega,by rw[ht,htb,hi,h2]⟩ [] ?_ (by simp;omega);constructor<;>simp[hw]
 ·obtain rfl:k=(a).length:=by simp at h;omega
  simp only[h];simp;have e:a=b:=by
   rw[bK,hab,bK]at hi;exact hi
  first|exact aA (by simp[e]) rfl|exact aB (by simp[e])
attribute [simp] Tryz.ntmps165 Tryz.results165
theorem Bq (a b:List G.Mark)(hl:a.length<=9223372036854775807):Ct Tryz.prog 165 [aD (a.map eN),aD (b.map eN)] [] [] (bool (decide (a=b))) []:=by
 refine Ct.B Tryz.func165 ?_;simp;refine aE (λh1=>?_) (λh1=>?_)<;>simp only[h1]<;>simp<;>(try simp only[nT,nF,dT,dF]at h1)
 ·have e:¬a=b:=λe=>h1 (by rw[e]);first|exact aA (by simp[e]) rfl|exact aB (by simp[e])
 have hab:a.length=b.length:=by omega
 refine aJ.inv mixed rfl (ι:={k:Nat//k<=(a).length/\a.take k=b.take k}) (λk=>[(0,aD (a.map eN)),(1,aD (b.map eN)),(11,aD (a.map eN)),(12,int a.length),(13,int k.1)]) (λk=>[]) 64 (λk=>(a).length-k.1) ⟨0,by omega,by simp⟩ [] (by constructor<;>simp) ?_;rintro⟨k,hk1,hi⟩ B hB;refine CI.n ?_;simp;refine aE (λh=>?_) (λh=>?_)
 ·have hk:k<(a).length:=by simpa using h
  obtain⟨x,hx,hr,hm,ht,hd,hw⟩:=bB hk;simp only[h];simp[hr,hw];have hrb:b[k]? =some b[k]:=bL (by omega);have htb:b.take (k+1)=b.take k++[b[k]]:=by rw[eW,hrb];rfl
  have hne:¬x=b[k]->¬a=b:=by
   intro h2 e;subst e;rw[hr]at hrb;exact h2 (kJ hrb)
  generalize b[k]=y at hrb htb hne;simp[hrb];rw[XV];refine⟨by decide+kernel,?_⟩;refine aE (λh2=>?_) (λh2=>?_)<;>simp only[h2]<;>simp[hr,hrb]<;>(try simp only[nT,nF,dT,dF]at h2)
  ·have e:=hne h2;first|exact aA (by simp[e]) rfl|exact aB (by simp[e])
  ·refine hB _ ⟨k+1,by omega,by rw[ht,htb,hi,h2]⟩ [] ?_ (by simp;omega);constructor<;>simp[hw]
 ·obtain rfl:k=(a).length:=by simp at h;omega
  simp only[h];simp;have e:a=b:=by
   rw[bK,hab,bK]at hi;exact hi
  first|exact aA (by simp[e]) rfl|exact aB (by simp[e])
attribute [simp] Tryz.ntmps202 Tryz.results202
theorem Bm (a b:List gF)(kf:D)(hf:∀x∈a,∀y,bP Tryz.prog (.d kf) [st (dZ x),st (dZ y)] (bool (decide (x=y))))(hl:a.length<=9223372036854775807):Ct Tryz.prog 202 [aD (a.map dZ),aD (b.map dZ),.d kf] [] [] (bool (decide (a=b))) []:=by
 refine Ct.B Tryz.func202 ?_;simp;refine aE (λh1=>?_) (λh1=>?_)<;>simp only[h1]<;>simp<;>(try simp only[nT,nF,dT,dF]at h1)
 ·have e:¬a=b:=λe=>h1 (by rw[e]);first|exact aA (by simp[e]) rfl|exact aB (by simp[e])
 have hab:a.length=b.length:=by omega
 refine aJ.inv mixed rfl (ι:={k:Nat//k<=(a).length/\a.take k=b.take k}) (λk=>[(0,aD (a.map dZ)),(1,aD (b.map dZ)),(2,.d kf),(15,aD (a.map dZ)),(16,int a.length),(17,int k.1)]) (λk=>[]) 64 (λk=>(a).length-k.1) ⟨0,by omega,by simp⟩ [] (by constructor<;>simp) ?_;rintro⟨k,hk1,hi⟩ B hB;refine CI.n ?_;simp;refine aE (λh=>?_) (λh=>?_)
 ·have hk:k<(a).length:=by simpa using h
  obtain⟨x,hx,hr,hm,ht,hd,hw⟩:=bB hk;simp only[h];simp[hr,hw];have hrb:b[k]? =some b[k]:=bL (by omega);have htb:b.take (k+1)=b.take k++[b[k]]:=by rw[eW,hrb];rfl
  have hne:¬x=b[k]->¬a=b:=by
   intro h2 e;subst e;rw[hr]at hrb;exact h2 (kJ hrb)
  generalize b[k]=y at hrb htb hne;simp[hrb];refine CI.ff (hf x hm y) rfl rfl rfl ?_;simp;refine aE (λh2=>?_) (λh2=>?_)<;>simp only[h2]<;>simp[hr,hrb]<;>(try simp only[nT,nF,dT,dF]at h2)
  ·have e:=hne h2;first|exact aA (by simp[e]) rfl|exact aB (by simp[e])
  ·refine hB _ ⟨k+1,by omega,by rw[ht,htb,hi,h2]⟩ [] ?_ (by simp;omega);constructor<;>simp[hw]
 ·obtain rfl:k=(a).length:=by simp at h;omega
  simp only[h];simp;have e:a=b:=by
   rw[bK,hab,bK]at hi;exact hi
  first|exact aA (by simp[e]) rfl|exact aB (by simp[e])
attribute [simp] Tryz.ntmps107 Tryz.results107
theorem NA (a b:List aC)(kf:D)(hf:∀x∈a,∀y,bP Tryz.prog (.d kf) [st (aF x),st (aF y)] (bool (decide (x=y))))(hl:a.length<=9223372036854775807):Ct Tryz.prog 107 [aD (a.map aF),aD (b.map aF),.d kf] [] [] (bool (decide (a=b))) []:=by
 refine Ct.B Tryz.func107 ?_;simp;refine aE (λh1=>?_) (λh1=>?_)<;>simp only[h1]<;>simp<;>(try simp only[nT,nF,dT,dF]at h1)
 ·have e:¬a=b:=λe=>h1 (by rw[e]);first|exact aA (by simp[e]) rfl|exact aB (by simp[e])
 have hab:a.length=b.length:=by omega
 refine aJ.inv mixed rfl (ι:={k:Nat//k<=(a).length/\a.take k=b.take k}) (λk=>[(0,aD (a.map aF)),(1,aD (b.map aF)),(2,.d kf),(15,aD (a.map aF)),(16,int a.length),(17,int k.1)]) (λk=>[]) 64 (λk=>(a).length-k.1) ⟨0,by omega,by simp⟩ [] (by constructor<;>simp) ?_;rintro⟨k,hk1,hi⟩ B hB;refine CI.n ?_;simp;refine aE (λh=>?_) (λh=>?_)
 ·have hk:k<(a).length:=by simpa using h
  obtain⟨x,hx,hr,hm,ht,hd,hw⟩:=bB hk;simp only[h];simp[hr,hw];have hrb:b[k]? =some b[k]:=bL (by omega);have htb:b.take (k+1)=b.take k++[b[k]]:=by rw[eW,hrb];rfl
  have hne:¬x=b[k]->¬a=b:=by
   intro h2 e;subst e;rw[hr]at hrb;exact h2 (kJ hrb)
  generalize b[k]=y at hrb htb hne;simp[hrb];refine CI.ff (hf x hm y) rfl rfl rfl ?_;simp;refine aE (λh2=>?_) (λh2=>?_)<;>simp only[h2]<;>simp[hr,hrb]<;>(try simp only[nT,nF,dT,dF]at h2)
  ·have e:=hne h2;first|exact aA (by simp[e]) rfl|exact aB (by simp[e])
  ·refine hB _ ⟨k+1,by omega,by rw[ht,htb,hi,h2]⟩ [] ?_ (by simp;omega);constructor<;>simp[hw]
 ·obtain rfl:k=(a).length:=by simp at h;omega
  simp only[h];simp;have e:a=b:=by
   rw[bK,hab,bK]at hi;exact hi
  first|exact aA (by simp[e]) rfl|exact aB (by simp[e])
theorem TD {a b:gF}(h1:a.host=b.host)(h2:a.pre=b.pre):decide (a=b)=decide (a.split=b.split):=by
 obtain⟨a1,a2,a3⟩:=a;obtain⟨b1,b2,b3⟩:=b;simp only at h1 h2;subst h1 h2;rw[pH];simp
attribute [simp] Tryz.ntmps199 Tryz.results199
theorem Gf (x y:gF)(hl:x.split.length<=9223372036854775807):Ct Tryz.prog 199 [st (dZ x),st (dZ y)] [] [] (bool (decide (x=y))) []:=by
 refine Ct.B Tryz.func199 ?_;simp;refine aM (λh1=>?_) (λh1=>?_)<;>simp only[h1]<;>simp<;>(try simp only[nT,nF,dT,dF]at h1)
 ·refine aM (λh2=>?_) (λh2=>?_)<;>simp only[h2]<;>simp<;>(try simp only[nT,nF,dT,dF]at h2)
  ·refine CI.p (Bn x.split y.split hl) ?_;simp;rw[TD h1 h2];first|exact aA (by simp) rfl|exact aB (by simp)
  ·have e:¬x=y:=λe=>h2 (by rw[e]);first|exact aA (by simp[e]) rfl|exact aB (by simp[e])
 ·have e:¬x=y:=λe=>h1 (by rw[e]);first|exact aA (by simp[e]) rfl|exact aB (by simp[e])
attribute [simp] Tryz.ntmps150 Tryz.results150
theorem OT (a b:aC)(hl:qB a):Ct Tryz.prog 150 [st (aF a),st (aF b)] [] [] (bool (dX a b)) []:=by
 refine Ct.B Tryz.func150 ?_;simp;refine CI.p (fW a) ?_;simp;refine CI.p (fW b) ?_;simp;rw[q9];refine aM (λh1=>?_) (λh1=>?_)<;>simp only[h1]<;>simp<;>(try simp only[nT,nF,dT,dF]at h1)
 ·have k1:a.kind=b.kind:=cI Key.kind h1;have k2:a.name=b.name:=cI Key.name h1;refine aM (λh2=>?_) (λh2=>?_)<;>simp only[h2]<;>simp<;>(try simp only[nT,nF,dT,dF]at h2)
  ·refine aM (λh3=>?_) (λh3=>?_)<;>simp only[h3]<;>simp<;>(try simp only[nT,nF,dT,dF]at h3)
   ·refine CI.p (eq_int a.bE b.bE hl.bE) ?_;simp;refine aM (λh4=>?_) (λh4=>?_)<;>simp only[h4]<;>simp<;>(try simp only[nT,nF,dT,dF]at h4)
    ·refine CI.p (Bm a.rules b.rules (jY 199) (λx hx y=>bP.of (Gf x y (hl.split x hx)) Tryz.call199 rfl rfl) hl.rules) ?_;simp;refine⟨by decide+kernel,?_⟩;first|exact aA (by simp[dX,k1,k2,h2,h3,h4]) rfl|exact aB (by simp[dX,k1,k2,h2,h3,h4])
    ·refine⟨by decide+kernel,?_⟩;first|exact aA (by simp[dX,h4]) rfl|exact aB (by simp[dX,h4])
   ·refine⟨by decide+kernel,?_⟩;first|exact aA (by simp[dX,h3]) rfl|exact aB (by simp[dX,h3])
  ·refine⟨by decide+kernel,?_⟩;first|exact aA (by simp[dX,h2]) rfl|exact aB (by simp[dX,h2])
 ·have e:dX a b=false:=by
   simp only[dX];have:(decide (a.kind=b.kind)&&decide (a.name=b.name))=false:=by rw[show(decide (a.kind=b.kind)&&decide (a.name=b.name))=decide (a.key=b.key)from q9 a.key b.key];simpa using h1
   rw[this];simp
  refine⟨by decide+kernel,?_⟩;first|exact aA (by simp[e]) rfl|exact aB (by simp[e])
attribute [simp] Tryz.ntmps108 Tryz.results108
theorem DD (a b:aC)(hl:qB a):Ct Tryz.prog 108 [st (aF a),st (aF b)] [] [] (bool (decide (a=b))) []:=by
 refine Ct.B Tryz.func108 ?_;simp;rw[<-OS];refine aM (λh1=>?_) (λh1=>?_)<;>simp only[h1]<;>simp<;>(try simp only[nT,nF,dT,dF]at h1)
 ·refine CI.p (OT a b hl) ?_;simp;first|exact aA (by simp[h1]) rfl|exact aB (by simp[h1])
 ·first|exact aA (by simp[h1]) rfl|exact aB (by simp[h1])
theorem Z9 {a b:G.Frame}(h1:a.type=b.type)(h2:a.cA=b.cA)(h3:a.kind=b.kind)(h4:a.eY=b.eY)(h5:a.cK=b.cK)(h6:a.err=b.err):decide (a=b)=(decide (a.aL=b.aL)&&(decide (a.gone=b.gone)&&(decide (a.aI=b.aI)&&decide (a.held=b.held)))):=by
 obtain⟨a1,a2,a3,a4,a5,a6,a7,a8,a9,a10⟩:=a;obtain⟨b1,b2,b3,b4,b5,b6,b7,b8,b9,b10⟩:=b;simp only at h1 h2 h3 h4 h5 h6;subst h1 h2 h3 h4 h5 h6;rw[pH];simp[and_assoc]
attribute [simp] Tryz.ntmps117 Tryz.results117
theorem SV (a b:G.Frame)(hl:eD a):Ct Tryz.prog 117 [st (bU a),st (bU b)] [] [] (bool (decide (a=b))) []:=by
 refine Ct.B Tryz.func117 ?_;simp;refine aM (λh1=>?_) (λh1=>?_)<;>simp only[h1]<;>simp<;>(try simp only[nT,nF,dT,dF]at h1)
 ·refine aM (λh2=>?_) (λh2=>?_)<;>simp only[h2]<;>simp<;>(try simp only[nT,nF,dT,dF]at h2)
  ·refine aM (λh3=>?_) (λh3=>?_)<;>simp only[h3]<;>simp<;>(try simp only[nT,nF,dT,dF]at h3)
   ·refine aM (λh4=>?_) (λh4=>?_)<;>simp only[h4]<;>simp<;>(try simp only[nT,nF,dT,dF]at h4)
    ·refine aM (λh5=>?_) (λh5=>?_)<;>simp only[h5]<;>simp<;>(try simp only[nT,nF,dT,dF]at h5)
     ·refine aM (λh6=>?_) (λh6=>?_)<;>simp only[h6]<;>simp<;>(try simp only[nT,nF,dT,dF]at h6)
      ·rw[Z9 h1 h2 h3 h4 h5 h6];refine CI.p (NA a.aL b.aL (jY 108) (λx hx y=>bP.of (DD x y (hl.aL.all x hx)) Tryz.call108 rfl rfl) hl.aL.len) ?_;simp;refine aM (λh7=>?_) (λh7=>?_)<;>simp only[h7]<;>simp<;>(try simp only[nT,nF,dT,dF]at h7)
       ·refine CI.p (NB a.gone b.gone hl.gone) ?_;simp;refine aM (λh8=>?_) (λh8=>?_)<;>simp only[h8]<;>simp<;>(try simp only[nT,nF,dT,dF]at h8)
        ·refine CI.p (Bq a.aI b.aI hl.aI) ?_;simp;refine aM (λh9=>?_) (λh9=>?_)<;>simp only[h9]<;>simp<;>(try simp only[nT,nF,dT,dF]at h9)
         ·refine CI.p (NB a.held b.held hl.held) ?_;simp;first|exact aA (by simp[h7,h8,h9]) rfl|exact aB (by simp[h7,h8,h9])
         ·first|exact aA (by simp[h9]) rfl|exact aB (by simp[h9])
        ·first|exact aA (by simp[h8]) rfl|exact aB (by simp[h8])
       ·first|exact aA (by simp[h7]) rfl|exact aB (by simp[h7])
      ·have e:¬a=b:=λe=>h6 (by rw[e]);first|exact aA (by simp[e]) rfl|exact aB (by simp[e])
     ·have e:¬a=b:=λe=>h5 (by rw[e]);first|exact aA (by simp[e]) rfl|exact aB (by simp[e])
    ·have e:¬a=b:=λe=>h4 (by rw[e]);first|exact aA (by simp[e]) rfl|exact aB (by simp[e])
   ·have e:¬a=b:=λe=>h3 (by rw[e]);first|exact aA (by simp[e]) rfl|exact aB (by simp[e])
  ·have e:¬a=b:=λe=>h2 (by rw[e]);first|exact aA (by simp[e]) rfl|exact aB (by simp[e])
 ·have e:¬a=b:=λe=>h1 (by rw[e]);first|exact aA (by simp[e]) rfl|exact aB (by simp[e])
noncomputable abbrev nZ (S:List Key):D:=.mp true [.int,.str] false (gB S)
noncomputable abbrev D4 (S:List aC):D:=.mp true [.int,.str] false (fP S)
noncomputable abbrev uM (l:List aC):List (Nat×aN):=[(0,.cells [.d (nZ (l.map aC.key))] 245),(1,.cells [.own 4] 245),(2,.cells [.d (D4 l)] 290),(3,.cells [.fn (.func 237) [] [.ptr 0 0,.ptr 1 0,.ptr 2 0,.ptr 3 0]] 292)]
attribute [simp] Tryz.ntmps236 Tryz.results236
theorem XC (l:List aC)(ha:cZ l)(hl:l.length<=100000):Ct Tryz.prog 236 [aD (l.map aF)] [] [] (.d (D4 l)) []:=by
 refine Ct.B Tryz.func236 ?_;simp;refine aJ.V (l) (λk=>[(3,.own 64),(8,aD (l.map aF)),(9,int l.length),(10,int k.1)]) (λk=>[(64,.map true [.int,.str] false (fP (l.take k.1)))]) 65 (λk hk1 B hB=>?_) (h0:=by constructor<;>simp[K9]);simp[K9];refine aE (λh=>?_) (λh=>?_)
 ·have hk:k<(l).length:=by simpa using h
  obtain⟨x,hx,hr,hm,ht,hd,hw⟩:=bB hk;simp only[h];simp[hr,hw];have hN:=Fo ha hr;have hL:=XY hN;have hU:=P0 hN;have hr33:=nV x;refine CI.p (fW x) ?_;simp;refine CI.p (uZ x) ?_ (ha:=by simp[hL]);simp[hL];refine⟨by omega,?_⟩;refine⟨by decide+kernel,?_⟩;exact hB hk (by constructor<;>simp[hw,ht,hU])
 ·obtain rfl:k=(l).length:=by simp at h;omega
  simp only[h];simp;first|exact aA (by simp) rfl|exact aB (by simp)
theorem PV (l:List aC)(hl:l.length<=100000):∀(n:Nat) (out:List Key) (k_:Key),jS l out<n->
  Ct Tryz.prog 237 [st (aK k_),.ptr 0 0,.ptr 1 0,.ptr 2 0,.ptr 3 0] (uM l)
   [(4,.map true [.int,.str] false (gB out))] (.bC []) [(4,.map true [.int,.str] false (gB (dW l n out k_)))]:=by
 intro n;induction n with
 |zero=>intro out k_ h;omega
 |succ n ih=>
  intro out k_ hlt;refine Ct.rZ Tryz.func237 rfl mixed (by rw[Tryz.ntmps237];simp) (CI.run 99 400 rfl ?_);simp[Tryz.ntmps237,Tryz.results237];cases hg:aQ l k_ with
  |none=>
   have hn:k_∉l.map aC.key:=by rw[mem_keys,hg];simp
   have e:dW l (n+1) out k_=out:=by simp[dW,hg]
   have e1:=qW hn;simp[e1];first| (refine⟨[],?_,?_,?_,?_,?_,?_,?_⟩<;>simp[bF,bI,e];done)| (refine⟨by decide+kernel,?_⟩;refine⟨[],?_,?_,?_,?_,?_,?_,?_⟩<;>simp[bF,bI,e])
  |some r=>
   have hn:k_∈l.map aC.key:=by rw[mem_keys,hg];simp
   by_cases ho:k_∈out
   ·have e:dW l (n+1) out k_=out:=by simp[dW,hg,ho]
    have e1:=oS hn;have e2:=oS ho;simp[e1,e2];first| (refine⟨[],?_,?_,?_,?_,?_,?_,?_⟩<;>simp[bF,bI,e];done)| (refine⟨by decide+kernel,?_⟩;refine⟨[],?_,?_,?_,?_,?_,?_,?_⟩<;>simp[bF,bI,e])
   ·have e:dW l (n+1) out k_=(bJ r).foldl (dW l n) (out++[k_]):=by simp[dW,hg,ho]
    have hlt2:=AJ hn ho;have h33:=nV r;have e1:=oS hn;have e2:=qW ho;have e3:=LA hg;simp[e1,e2,e3];refine aJ.V (bJ r) (λk=>[(1,.ptr 0 0),(2,.ptr 1 0),(3,.ptr 2 0),(4,.ptr 3 0),(21,aD ((bJ r).map aK)),(22,int (bJ r).length),(23,int k.1)]) (λk=>uM l++[(4,.map true [.int,.str] false (gB (((bJ r).take k.1).foldl (dW l n) (out++[k_]))))]) 64 (λk hk1 B hB=>?_);simp;refine aE (λh=>?_) (λh=>?_)
    ·have hk:k<(bJ r).length:=by simpa using h
     obtain⟨x,hx,hr,hm,ht,hd,hw⟩:=bB hk;simp only[h];simp[hr,hw];have h5:jS l (((bJ r).take k).foldl (dW l n) (out++[k_]))<n:=by
      have:=wY (l:=l) (λy hy=>oX (sS l n) ((bJ r).take k) (out++[k_]) y hy);omega
     refine CI.cc [0,1,2,3,4] (ih (((bJ r).take k).foldl (dW l n) (out++[k_])) x h5) ?_ (ha:=by simp[uM]) (hk:=by simp[uM]);simp[uM];exact hB hk (by constructor<;>simp[hw,ht,uM,mY])
    ·obtain rfl:k=(bJ r).length:=by simp at h;omega
     simp only[h];simp;rw[<-e];first| (refine⟨[],?_,?_,?_,?_,?_,?_,?_⟩<;>simp[bF,bI];done)| (refine⟨by decide+kernel,?_⟩;refine⟨[],?_,?_,?_,?_,?_,?_,?_⟩<;>simp[bF,bI])
attribute [simp] Tryz.ntmps188 Tryz.results188
theorem T0 (l:List aC)(ha:cZ l)(hl:l.length<=100000):Ct Tryz.prog 188 [aD (l.map aF)] [] [] (.d (nZ (k6 l))) []:=by
 refine Ct.B Tryz.func188 ?_;simp;refine CI.p (zP l (by omega)) ?_;simp;refine CI.p (XC l ha hl) ?_;simp;have rootsR_nil:iJ []=[]:=rfl;refine aJ.V (l) (λk=>[(3,.ptr 64 0),(4,.ptr 66 0),(5,.ptr 65 0),(6,.ptr 67 0),(15,aD (l.map aF)),(16,int l.length),(17,int k.1)]) (λk=>[(64,.cells [.d (nZ (l.map aC.key))] 245),(65,.cells [.own 68] 245),(66,.cells [.d (D4 l)] 290),(67,.cells [.fn (.func 237) [] [.ptr 64 0,.ptr 65 0,.ptr 66 0,.ptr 67 0]] 292),(68,.map true [.int,.str] false (gB ((iJ (l.take k.1)).foldl (dW l (l.length+1)) [])))]) 69 (λk hk1 B hB=>?_) (h0:=by constructor<;>simp[r4,rootsR_nil]);simp[r4,rootsR_nil];refine aE (λh=>?_) (λh=>?_)
 ·have hk:k<(l).length:=by simpa using h
  obtain⟨x,hx,hr,hm,ht,hd,hw⟩:=bB hk;simp only[h];simp[hr,hw];refine aE (λh0=>?_) (λh0=>?_)<;>simp only[h0]<;>simp<;>(try simp only[nT,nF,dT,dF]at h0)
  ·have h5:=AK l ((iJ (l.take k)).foldl (dW l (l.length+1)) []);refine CI.p (fW x) ?_;simp;refine CI.cc [64,65,66,67,68] (PV l hl (l.length+1) ((iJ (l.take k)).foldl (dW l (l.length+1)) []) x.key (by omega)) ?_;simp;refine⟨by decide+kernel,?_⟩;exact hB hk (by constructor<;>simp[hw,ht,uY,h0,mY])
  ·exact hB hk (by constructor<;>simp[hw,ht,uY,h0])
 ·obtain rfl:k=(l).length:=by simp at h;omega
  simp only[h];simp;first|exact aA (by simp[k6]) rfl|exact aB (by simp[k6])
attribute [simp] Tryz.ntmps190 Tryz.results190
theorem UD (S:List Key)(r:aC):Ct Tryz.prog 190 [st (aF r),.d (.aT [nZ S])] [] [] (bool (!decide (r.key∈S))) []:=by
 refine Ct.B Tryz.func190 ?_;simp;by_cases h:r.key∈S
 ·have e1:=oS h;refine CI.p (fW r) ?_ (ha:=by simp[e1]);simp[e1];refine⟨by decide+kernel,?_⟩;first|exact aA (by simp[h]) rfl|exact aB (by simp[h])
 ·have e1:=qW h;refine CI.p (fW r) ?_ (ha:=by simp[e1]);simp[e1];refine⟨by decide+kernel,?_⟩;first|exact aA (by simp[h]) rfl|exact aB (by simp[h])
attribute [simp] Tryz.ntmps213 Tryz.results213
theorem SK (l:List aC)(k_:Key):Ct Tryz.prog 213 [st (aK k_),.d (.aT [nZ (l.map aC.key)])] [] [] (bool (kD l k_)) []:=by
 refine Ct.B Tryz.func213 ?_;simp;by_cases h:k_∈l.map aC.key
 ·have e1:=oS h;have e2:kD l k_=false:=by simp[kD,mem_keys.1 h]
  simp[e1];first|exact aA (by simp[e2]) rfl|exact aB (by simp[e2])
 ·have e1:=qW h;have e2:kD l k_=true:=by
   cases h':(aQ l k_).isSome
   ·simp[kD,h']
   ·exact absurd (mem_keys.2 h') h
  simp[e1];first|exact aA (by simp[e2]) rfl|exact aB (by simp[e2])
attribute [simp] Tryz.ntmps214 Tryz.results214
theorem SJ (r:aC):Ct Tryz.prog 214 [st (aF r)] [] [] (bool (tQ r)) []:=by
 refine Ct.B Tryz.func214 ?_;simp;refine aM (λh1=>?_) (λh1=>?_)<;>simp only[h1]<;>simp<;>(try simp only[nT,nF,dT,dF]at h1)
 ·first|exact aA (by simp[tQ,h1]) rfl|exact aB (by simp[tQ,h1])
 ·first|exact aA (by simp[tQ,h1]) rfl|exact aB (by simp[tQ,h1])
attribute [simp] Tryz.ntmps140 Tryz.results140
theorem T6 (l:List aC)(ha:cZ l)(hl:l.length<=100000):Ct Tryz.prog 140 [aD (l.map aF)] [] [] (aD ((iK l).map aF)) []:=by
 refine Ct.BS Tryz.func140 mixed 2 400 ?_;simp;refine CI.pS (T0 l ha hl) Tryz.call188 2 ?_;simp;refine CI.s (tm:=[(0,aD (l.map aF)),(3,.d (.aT [nZ (k6 l)]))]) (mm:=[]) (nx:=65) [] [256] (by constructor<;>simp) ?_;refine CI.n ?_;simp;obtain⟨S,hS⟩:∃S,k6 l=S:=⟨_,rfl⟩;have e:iK l=l.filter λr=>!(!decide (r.key∈S)):=by simp[iK,hS]
 rw[hS,e];clear e hS;cases l with
 |nil=>
  refine CI.p BO ?_;simp;refine CI.p (BI (.fn (.func 190) [] [.aT [nZ S]])) ?_;simp;first|exact aA (by simp) rfl|exact aB (by simp)
 |cons x l=>
  refine CI.cc [] (BN x l (by simp at hl;omega)) ?_;simp;refine CI.cc [129] (BJ (x::l) (.fn (.func 190) [] [.aT [nZ S]]) (λr=>!decide (r.key∈S)) (λr hr=>bP.j2 (by exact UD S r) Tryz.call190 rfl rfl) (by omega)) ?_;simp;first|exact aA (by simp) rfl|exact aB (by simp)
attribute [simp] Tryz.ntmps158 Tryz.results158
theorem SH (l:List aC)(ha:cZ l)(hl:l.length<=100000):Ct Tryz.prog 158 [aD (l.map aF)] [] [] (int (nS l)) []:=by
 refine Ct.BS Tryz.func158 mixed 2 400 ?_;simp;refine CI.pS (zP l (by omega)) Tryz.call209 2 ?_;simp;refine CI.s (tm:=[(0,aD (l.map aF)),(3,.d (.aT [nZ (l.map aC.key)]))]) (mm:=[]) (nx:=65) [] [256] (by constructor<;>simp) ?_;refine CI.n ?_;simp;refine CI.p (T6 l ha hl) ?_;simp;have hlr:(iK l).length<=l.length:=eE _ _;refine aJ.inv mixed rfl (ι:={k:Nat//k<=((iK l)).length/\((iK l).take k).all (λr=>!((bJ r).any (kD l)))=true}) (λk=>[(3,.d (.aT [nZ (l.map aC.key)])),(4,aD ((iK l).map aF)),(11,aD ((iK l).map aF)),(12,int (iK l).length),(13,int k.1)]) (λk=>[]) 65 (λk=>((iK l)).length-k.1) ⟨0,by omega,by simp⟩ [] (by constructor<;>simp) ?_;rintro⟨k,hk1,hi⟩ B hB;refine CI.n ?_;simp;refine aE (λh=>?_) (λh=>?_)
 ·have hk:k<((iK l)).length:=by simpa using h
  obtain⟨x,hx,hr,hm,ht,hd,hw⟩:=bB hk;simp only[h];simp[hr,hw];have h33:=nV x;refine CI.p (uZ x) ?_;simp;refine CI.p (B5 (bJ x) (.fn (.func 213) [] [.aT [nZ (l.map aC.key)]]) (kD l) (λq _=>bP.j2 (by exact SK l q) Tryz.call213 rfl rfl) (by omega)) ?_;simp;refine aE (λh1=>?_) (λh1=>?_)<;>simp only[h1]<;>simp<;>(try simp only[nT,nF,dT,dF]at h1)
  ·have e0:((iK l).any λr=>(bJ r).any (kD l))=true:=yM.2 ⟨x,hm,h1⟩;have e:nS l=6:=by unfold nS;rw[bA e0]
   first|exact aA (by simp[e]) rfl|exact aB (by simp[e])
  ·refine hB _ ⟨k+1,by omega,by simp[ht,hi,h1]⟩ [] ?_ (by simp;omega);constructor<;>simp[hw,ht,h1]
 ·obtain rfl:k=((iK l)).length:=by simp at h;omega
  simp only[h];simp;rw[bK]at hi;have e0:((iK l).any λr=>(bJ r).any (kD l))=false:=by
   rw[List.any_eq_false];intro y hy;have:=cS.1 hi y hy;rw[Bool.not_eq_true']at this;rw[this];exact CJ
  refine CI.p (OK (iK l) (jY 214) tQ (λx _=>bP.of (SJ x) Tryz.call214 rfl rfl) (by omega)) ?_;simp;refine aE (λh1=>?_) (λh1=>?_)<;>simp only[h1]<;>simp<;>(try simp only[nT,nF,dT,dF]at h1)
  ·have e:nS l=7:=by unfold nS;rw[aR (by rw[e0];exact CJ),bA h1]
   first|exact aA (by simp[e]) rfl|exact aB (by simp[e])
  ·have e:nS l=0:=by unfold nS;rw[aR (by rw[e0];exact CJ),aR (by rw[h1];exact CJ)]
   first|exact aA (by simp[e]) rfl|exact aB (by simp[e])
end Go.Proofs.YtelooagbkmpdpaaGreatDoor
namespace Go.G
open Go.AI
def C4 (now:List aC)(x:aC)(v:Int):Int:=match aQ now x.key with
 |some o=>if dX o x then o.bZ else v
 |none=>v
def lI (now l:List aC)(v:Int)(k:Nat):List aC:=kN now (l.take k) v++l.drop k
section
variable {now l : List aC} {v : Int} {k : Nat} {x : aC}
theorem HE :lI now l v 0=l:=by simp[lI,kN]
theorem HF :lI now l v l.length=kN now l v:=by simp[lI]
theorem Q0 :(lI now l v k).length=l.length:=by simp[lI,kN];omega
theorem Q1 (hr:l[k]? =some x):(lI now l v k)[k]? =some x:=by
 have hk:=(cJ.1 hr).1;have e:(kN now (l.take k) v).length=k:=by simp[kN];omega
 rw[lI,mF (by omega),e,sP];simpa using hr
theorem QZ (hr:l[k]? =some x):(List.map aF (lI now l v k)).set k (aF {x with bZ:=C4 now x v})=List.map aF (lI now l v (k+1)):=by
 have hk:=(cJ.1 hr).1;have e:(kN now (l.take k) v).length=k:=by simp[kN];omega
 rw[<-List.map_set,lI,lI,List.set_append_right _ _ (by omega),e,Nat.sub_self,qF hk,List.set_cons_zero,eW,hr];have e2:l[k]=x:=(cJ.1 hr).2;simp[kN,C4];cases aQ now x.key<;>rfl
end
end Go.G
namespace Go.Proofs.YtelooagbkmpdpaaGreatDoor
open Go.AI Go.G
attribute [simp] Tryz.ntmps166 Tryz.results166
theorem ZF (kf:D):Ct Tryz.prog 166 [aD [],.d kf] [] [] (int (-1)) []:=by
 refine Ct.B Tryz.func166 ?_;simp;refine aJ.un ?_;simp;first|exact aA (by simp) rfl|exact aB (by simp)
attribute [simp] Tryz.ntmps186 Tryz.results186
theorem NQ (kf:D):Ct Tryz.prog 186 [aD [],.d kf] [] [] (aD []) []:=by
 refine Ct.B Tryz.func186 ?_;simp;refine CI.p (ZF kf) ?_;simp;first|exact aA (by simp) rfl|exact aB (by simp)
theorem EZ (l:List Key)(kf:D)(p:Key->Bool)(hf:∀x∈l,bP Tryz.prog (.d kf) [st (aK x)] (bool (p x)))(hl:l.length<=9223372036854775807):Ct Tryz.prog 166 [.own 0,.d kf] [(0,.grow 2 (l.map aK) 86)] [] (int (fC p l)) []:=by
 refine Ct.B Tryz.func166 ?_;simp;refine aJ.inv mixed rfl (ι:={k:Nat//k<=(l).length/\(l.take k).all (λx=>!p x)=true}) (λk=>[(0,.own 0),(1,.d kf),(7,int l.length),(8,int k.1)]) (λk=>[(0,.grow 2 (l.map aK) 86)]) 64 (λk=>(l).length-k.1) ⟨0,by omega,by simp⟩ [] (by constructor<;>simp) ?_;rintro⟨k,hk1,hi⟩ B hB;refine CI.n ?_;simp;refine aE (λh=>?_) (λh=>?_)
 ·have hk:k<(l).length:=by simpa using h
  obtain⟨r,hx,hr,hm,ht,hd,hw⟩:=bB hk;simp only[h];simp[hr,hw,hk];refine CI.ff (hf r hm) rfl rfl rfl ?_ (ha:=by simp[hx]);simp[hx];refine aE (λhp=>?_) (λhp=>?_)<;>simp only[hp]<;>simp
  ·have e:=l7 hi hr hp;first| (refine⟨[],?_,?_,?_,?_,?_,?_,?_⟩<;>simp[bF,bI,e];done)| (refine⟨by decide+kernel,?_⟩;refine⟨[],?_,?_,?_,?_,?_,?_,?_⟩<;>simp[bF,bI,e])
  ·refine hB _ ⟨k+1,by omega,by simp[ht,hi,hp]⟩ [] ?_ (by simp;omega);constructor<;>simp[hw,ht,hp]
 ·obtain rfl:k=(l).length:=by simp at h;omega
  simp only[h];simp;rw[bK]at hi;have e:fC p l= -1:=l6 (λx hx=>by have:=cS.1 hi x hx;simpa using this);first| (refine⟨[],?_,?_,?_,?_,?_,?_,?_⟩<;>simp[bF,bI,e];done)| (refine⟨by decide+kernel,?_⟩;refine⟨[],?_,?_,?_,?_,?_,?_,?_⟩<;>simp[bF,bI,e])
theorem FU (l:List Key)(kf:D)(p:Key->Bool)(hf:∀x∈l,bP Tryz.prog (.d kf) [st (aK x)] (bool (p x)))(hl:l.length<=1000000):Ct Tryz.prog 186 [.own 0,.d kf] [] [(0,.grow 2 (l.map aK) 86)] (aD ((l.filter λx=>!p x).map aK)) []:=by
 refine Ct.B Tryz.func186 ?_;simp;refine CI.cc [0] (EZ l kf p hf (by omega)) ?_;simp;rcases BB p l with⟨h1,h2⟩|⟨i,x,h1,h2,h3,h4⟩
 ·have e:(l.filter λx=>!p x)=l:=by
   rw[List.filter_eq_self];intro a ha;have:=CG.1 h2 a ha;simpa using this
  simp[h1];first| (refine⟨[],?_,?_,?_,?_,?_,?_,?_⟩<;>simp[bF,bI,e];done)| (refine⟨by decide+kernel,?_⟩;refine⟨[],?_,?_,?_,?_,?_,?_,?_⟩<;>simp[bF,bI,e])
 ·have hne:¬(i:Int)= -1:=by omega
  have hwi:IntKind.wrap .i64 ((i:Int)+1)=i+1:=wrap_i64 (by omega) (by omega);simp[h1,hne,hwi];have d0:=kX.start (x:=x) h1 h2;refine aJ.inv mixed rfl (ι:={q:Nat×Nat×List Key//kX p l q.1 q.2.1 q.2.2}) (λk=>[(0,.own 0),(1,.d kf),(5,int k.1.2.1),(6,int k.1.1)]) (λk=>[(0,.grow 2 (k.1.2.2.map aK) 86)]) 64 (λk=>l.length-k.1.1) ⟨(i+1,i,l),d0⟩ [] (by constructor<;>simp) ?_;rintro⟨⟨j,i,cur⟩,hd⟩ B hB;clear h1 h2 h3 h4 hne hwi d0;have hlen:=hd.len;have hlt:=hd.lt;have hle:=hd.le;simp only at hlen hlt hle;have w1:IntKind.wrap .i64 ((j:Int)+1)=j+1:=wrap_i64 (by omega) (by omega);have w2:IntKind.wrap .i64 ((i:Int)+1)=i+1:=wrap_i64 (by omega) (by omega);refine CI.n ?_;simp[hlen];refine aE (λh=>?_) (λh=>?_)<;>simp only[h]<;>simp<;>(try simp only[nT,nF,dT,dF]at h)
  ·have hj:j<l.length:=by omega
   have hv:l[j]? =some l[j]:=bL hj;have hm:l[j]∈l:=mD hj;generalize l[j]=v at hv hm;have hg:=hd.get hv;have hjc:j<cur.length:=by omega
   have hgx:cur[j]=v:=by rw[bL hjc]at hg;exact kJ hg
   simp[hjc,hgx];refine CI.ff (hf v hm) rfl rfl rfl ?_;simp;have hic:i<cur.length:=by omega
   refine aE (λh2=>?_) (λh2=>?_)<;>simp only[h2]<;>simp[hic]
   ·have hp:p v=false:=by simpa using h2
    refine hB _ ⟨(j+1,i+1,cur.set i v),hd.jW hv hp⟩ [] ?_ (by simp;omega);constructor<;>simp[w1,w2,List.map_set]
   ·have hp:p v=true:=by simpa using h2
    refine hB _ ⟨(j+1,i,cur),hd.del hv hp⟩ [] ?_ (by simp;omega);constructor<;>simp[w1]
  ·have hj:j=l.length:=by omega
   subst hj;have e:cur.take i=l.filter (λx=>!p x):=hd.done;simp[hlen];have e2:List.take i (List.map aK cur)=List.map aK (List.filter (λx=>!p x) l):=by rw[<-sL,e]
   have e3:(List.filter (λx=>!p x) l).length=i:=by rw[<-e,sN];omega
   refine⟨by omega,by omega,by omega,?_⟩;rw[e2];first| (refine⟨[],?_,?_,?_,?_,?_,?_,?_⟩<;>simp[bF,bI,e3,yG,show i<=i+(l.length-i+(l.length-(i+(l.length-i))))from by omega];done)| (refine⟨by decide+kernel,?_⟩;refine⟨[],?_,?_,?_,?_,?_,?_,?_⟩<;>simp[bF,bI,e3,yG,show i<=i+(l.length-i+(l.length-(i+(l.length-i))))from by omega])
attribute [simp] Tryz.ntmps127 Tryz.results127
theorem LP (l:List aC)(hl:l.length<=1000000):Ct Tryz.prog 127 [aD (l.map aF)] [] [] (.own 64) [(64,.grow 2 ((l.map aC.key).map aK) 86)]:=by
 refine Ct.B Tryz.func127 ?_;simp;refine aJ.gK 3 2 86 rfl ?_;refine aJ.V (l) (λk=>[(3,.own 64),(6,aD (l.map aF)),(7,int l.length),(8,int k.1)]) (λk=>[(64,.grow 2 (((l.take k.1).map aC.key).map aK) 86)]) 65 (λk hk1 B hB=>?_);simp;refine aE (λh=>?_) (λh=>?_)
 ·have hk:k<(l).length:=by simpa using h
  obtain⟨x,hx,hr,hm,ht,hd,hw⟩:=bB hk;simp only[h];simp[hr,hw];refine CI.p (fW x) ?_;simp;refine⟨by omega,?_⟩;exact hB hk (by constructor<;>simp[hw,ht])
 ·obtain rfl:k=(l).length:=by simp at h;omega
  simp only[h];simp;first| (refine⟨[(64,64)],?_,?_,?_,?_,?_,?_,?_⟩<;>simp[bF,bI];done)| (refine⟨by decide+kernel,?_⟩;refine⟨[(64,64)],?_,?_,?_,?_,?_,?_,?_⟩<;>simp[bF,bI])
attribute [simp] Tryz.ntmps58 Tryz.results58
theorem G8 (a b:List aC)(ha:gG a):Ct Tryz.prog 58 [aD (a.map aF),aD (b.map aF)] [] [] (bool (decide (a=b))) []:=by
 refine Ct.B Tryz.func58 ?_;simp;refine CI.p (NA a b (jY 108) (λx hx y=>bP.of (DD x y (ha.all x hx)) Tryz.call108 rfl rfl) ha.len) ?_;simp;first|exact aA (by simp) rfl|exact aB (by simp)
theorem Cz (l:List aC)(h:¬l=[])(hl:l.length<=1000000):Ct Tryz.prog 152 [aD (l.map aF)] [] [] (.own 64) [(64,.grow 7 (l.map aF) 82)]:=by
 cases l with
 |nil=>exact absurd rfl h
 |cons x l=>exact BN x l (by simp at hl;omega)
attribute [simp] Tryz.ntmps111 Tryz.results111
theorem QV (now l:List aC)(v:Int)(hn:gG now)(hl:l.length<=1000000)(hne:¬l=[]):Ct Tryz.prog 111 [aD (now.map aF),aD (l.map aF),int v] [] [] (aD ((kN now l v).map aF)) []:=by
 refine Ct.B Tryz.func111 ?_;simp;refine CI.cc [] (Cz l hne hl) ?_;simp;refine aJ.V (l) (λk=>[(0,aD (now.map aF)),(2,int v),(7,.own 64),(14,aD (l.map aF)),(15,int l.length),(16,int k.1)]) (λk=>[(64,.grow 7 ((lI now l v k.1).map aF) 82)]) 65 (λk hk1 B hB=>?_) (h0:=by constructor<;>simp[HE]);simp[HE];refine aE (λh=>?_) (λh=>?_)
 ·have hk:k<(l).length:=by simpa using h
  obtain⟨x,hx,hr,hm,ht,hd,hw⟩:=bB hk;simp only[h];simp[hr,hw];have s1:(lI now l v k).length=l.length:=Q0;have s2:(lI now l v k)[k]? =some x:=Q1 hr;have s3:=QZ (now:=now) (v:=v) hr;simp only[aF,C4]at s3;have s4:∀h,(lI now l v k)[k]'h=x:=λh=>kJ ((bL h).symm.trans s2);simp[s1,hk,s4];refine CI.p (fW x) ?_;simp;refine CI.p (MG now x.key hn.len) ?_;simp;cases hg:aQ now x.key with
  |none=>
   simp only[hg]at s3;simp;exact hB hk (by constructor<;>simp[hw,ht,s3])
  |some o=>
   simp only[hg]at s3;simp;have ho:qB o:=hn.all o (tK hg);refine CI.p (OT o x ho) ?_;simp;refine aE (λh3=>?_) (λh3=>?_)<;>simp only[h3]<;>simp<;>(try simp only[nT,nF,dT,dF]at h3)
   ·rw[bA h3]at s3;simp[s1,hk,s4];exact hB hk (by constructor<;>simp[hw,ht,s3])
   ·rw[aR (by rw[h3];exact CJ)]at s3;exact hB hk (by constructor<;>simp[hw,ht,s3])
 ·obtain rfl:k=(l).length:=by simp at h;omega
  simp only[h];simp;first|exact aA (by simp[HF]) rfl|exact aB (by simp[HF])
theorem QY (now:List aC)(v:Int):Ct Tryz.prog 111 [aD (now.map aF),aD [],int v] [] [] (aD []) []:=by
 refine Ct.B Tryz.func111 ?_;simp;refine CI.p BO ?_;simp;refine aJ.un ?_;simp;first|exact aA (by simp) rfl|exact aB (by simp)
end Go.Proofs.YtelooagbkmpdpaaGreatDoor
namespace Go.G
open Go.AI
theorem QK {l:List aC}(h:gQ l=0):l.length<=64:=by
 unfold gQ at h;split at h
 ·cases h
 ·omega
end Go.G
namespace Go.Proofs.YtelooagbkmpdpaaGreatDoor
open Go.AI Go.G
attribute [simp] Tryz.ntmps89 Tryz.results89
theorem EL (s:aZ)(hs:¬s.aU=[])(hl:s.aU.length<=1000000):Ct Tryz.prog 89 [st (dI s)] [] [] (aD ((cM s).map aF)) []:=by
 refine Ct.B Tryz.func89 ?_;simp;have h0:0<s.aU.length:=CD.2 hs;have hw:IntKind.wrap .i64 ((s.aU.length:Int)-1)=((s.aU.length-1:Nat):Int):=by rw[wrap_i64 (by omega) (by omega)];omega
 have e:s.aU[s.aU.length-1]? =some (cM s):=by
  rw[cM,yH,List.getLast?_eq_getElem?];rw[bL (by omega)];rfl
 simp[hw,e];first|exact aA (by simp) rfl|exact aB (by simp)
abbrev j1 (e:Int):AV:=if e=0 then .d (.v .nilIface)else .dC 181 (.ptr 64 0)
abbrev j0 (e:Int)(n:Nat):List (Nat×aN):=if e=0 then []else [(64,.cells [int e,int n] 185)]
attribute [simp] Tryz.ntmps113 Tryz.results113
theorem Dc (s:aZ)(l:List aC)(hs:¬s.aU=[])(hl:s.aU.length<=1000000)(hok:gG (cM s)):Ct Tryz.prog 113 [st (dI s),aD (l.map aF)] [] [] (j1 (iP s.cap s.aU.length (cM s) l)) (j0 (iP s.cap s.aU.length (cM s) l) s.aU.length):=by
 refine Ct.B Tryz.func113 ?_;simp;refine CI.p (P4 l) ?_;simp;by_cases h1:gQ l=0
 ·simp[h1];have h64:=QK h1;have ha:=C0 h1;refine aE (λh2=>?_) (λh2=>?_)<;>simp only[h2]<;>simp<;>(try simp only[nT,nF,dT,dF]at h2)
  ·have e:iP s.cap s.aU.length (cM s) l=8:=by simp[iP,h1,h2]
   rw[e];first| (refine⟨[(64,1280)],?_,?_,?_,?_,?_,?_,?_⟩<;>simp[bF,bI,j1,j0];done)| (refine⟨by decide+kernel,?_⟩;refine⟨[(64,1280)],?_,?_,?_,?_,?_,?_,?_⟩<;>simp[bF,bI,j1,j0])
  ·have hm:=z7 l l;refine CI.p (XM l (by omega)) ?_;simp;refine aE (λh3=>?_) (λh3=>?_)<;>simp only[h3]<;>simp<;>(try simp only[nT,nF,dT,dF]at h3)
   ·have h3':¬(u3 l).length=0:=by omega
    have e:iP s.cap s.aU.length (cM s) l=6:=by simp only[iP,bA h1,aR h2,bA h3']
    rw[e];first| (refine⟨[(64,1600)],?_,?_,?_,?_,?_,?_,?_⟩<;>simp[bF,bI,j1,j0];done)| (refine⟨by decide+kernel,?_⟩;refine⟨[(64,1600)],?_,?_,?_,?_,?_,?_,?_⟩<;>simp[bF,bI,j1,j0])
   ·have h3':¬¬(u3 l).length=0:=by omega
    refine CI.p (SH l ha (by omega)) ?_;simp;by_cases h4:nS l=0
    ·have h4':¬¬nS l=0:=λh=>h h4;simp[h4];refine CI.p (EL s hs hl) ?_;simp;refine CI.p (G8 (cM s) l hok) ?_;simp;by_cases h5:cM s=l
     ·have e:iP s.cap s.aU.length (cM s) l=9:=by simp only[iP,bA h1,aR h2,aR h3',aR h4',bA h5]
      rw[e];simp[h5];first| (refine⟨[(64,2176)],?_,?_,?_,?_,?_,?_,?_⟩<;>simp[bF,bI,j1,j0];done)| (refine⟨by decide+kernel,?_⟩;refine⟨[(64,2176)],?_,?_,?_,?_,?_,?_,?_⟩<;>simp[bF,bI,j1,j0])
     ·simp[h5];refine aE (λh6=>?_) (λh6=>?_)<;>simp only[h6]<;>simp<;>(try simp only[nT,nF,dT,dF]at h6)
      ·have e:iP s.cap s.aU.length (cM s) l=8:=by simp only[iP,bA h1,aR h2,aR h3',aR h4',aR h5,bA (show 100000<=s.aU.length by omega)]
       rw[e];first| (refine⟨[(64,2368)],?_,?_,?_,?_,?_,?_,?_⟩<;>simp[bF,bI,j1,j0];done)| (refine⟨by decide+kernel,?_⟩;refine⟨[(64,2368)],?_,?_,?_,?_,?_,?_,?_⟩<;>simp[bF,bI,j1,j0])
      ·have e:iP s.cap s.aU.length (cM s) l=0:=by simp only[iP,bA h1,aR h2,aR h3',aR h4',aR h5,aR (show¬100000<=s.aU.length by omega)]
       rw[e];first| (refine⟨[],?_,?_,?_,?_,?_,?_,?_⟩<;>simp[bF,bI,j1,j0];done)| (refine⟨by decide+kernel,?_⟩;refine⟨[],?_,?_,?_,?_,?_,?_,?_⟩<;>simp[bF,bI,j1,j0])
    ·have e:iP s.cap s.aU.length (cM s) l=7:=by simp only[iP,bA h1,aR h2,aR h3',bA h4]
     rw[e];simp[h4];first| (refine⟨[(64,1856)],?_,?_,?_,?_,?_,?_,?_⟩<;>simp[bF,bI,j1,j0];done)| (refine⟨by decide+kernel,?_⟩;refine⟨[(64,1856)],?_,?_,?_,?_,?_,?_,?_⟩<;>simp[bF,bI,j1,j0])
 ·have e:iP s.cap s.aU.length (cM s) l=gQ l:=by simp[iP,h1]
  simp[h1];rw[e];simp only[j1,j0,aR h1];first| (refine⟨[(64,960)],?_,?_,?_,?_,?_,?_,?_⟩<;>simp[bF,bI];done)| (refine⟨by decide+kernel,?_⟩;refine⟨[(64,960)],?_,?_,?_,?_,?_,?_,?_⟩<;>simp[bF,bI])
theorem QX (now l:List aC)(v:Int)(hn:gG now)(hl:l.length<=1000000):Ct Tryz.prog 111 [aD (now.map aF),aD (l.map aF),int v] [] [] (aD ((kN now l v).map aF)) []:=by
 by_cases h:l=[]
 ·subst h;exact QY now v
 ·exact QV now l v hn hl h
attribute [simp] Tryz.ntmps63 Tryz.results63
theorem UO (s:aZ)(aL:List aC)(gone:List Key)(hs:¬s.aU=[])(hl:s.aU.length<=1000000)(hok:gG (cM s))(hn:(cM s).length+aL.length<=1000000)(hg:gone.length<=9223372036854775807):Ct Tryz.prog 63 [st (dI s),aD (aL.map aF),aD (gone.map aK)] [] [] (.bC [st (dI (wM s aL gone)),j1 (mL s aL gone)]) (j0 (mL s aL gone) s.aU.length):=by
 refine Ct.B Tryz.func63 ?_;simp;refine CI.p (EL s hs hl) ?_;simp;refine CI.p (JJ (cM s) aL gone hn hg) ?_;simp;have hpl:(jQ (cM s) aL gone).length<=1000000:=cD (U5 _ _ _) hn;refine CI.p (QX (cM s) (jQ (cM s) aL gone) s.aU.length hok hpl) ?_;simp;refine⟨by decide+kernel,?_⟩;have hc:=Dc s (lW s aL gone) hs hl hok;change Ct _ _ _ _ _ (j1 (mL s aL gone)) (j0 (mL s aL gone) s.aU.length)at hc;by_cases he:mL s aL gone=0
 ·have e:wM s aL gone=⟨s.cap,s.aU++[lW s aL gone]⟩:=bA he;rw[e];simp only[j1,j0,bA he]at hc⊢;refine CI.p hc ?_ (ha:=by simp[lW]);simp[lW];refine⟨by omega,?_⟩;refine⟨by decide+kernel,?_⟩;first|exact aA (by simp[lW]) rfl|exact aB (by simp[lW])
 ·have e:wM s aL gone=s:=aR he;rw[e];simp only[j1,j0,aR he]at hc⊢;refine CI.cc [] hc ?_ (ha:=by simp[lW]) (hk:=by simp[lW]);simp[lW];first| (refine⟨[(64,1216)],?_,?_,?_,?_,?_,?_,?_⟩<;>simp[bF,bI];done)| (refine⟨by decide+kernel,?_⟩;refine⟨[(64,1216)],?_,?_,?_,?_,?_,?_,?_⟩<;>simp[bF,bI])
end Go.Proofs.YtelooagbkmpdpaaGreatDoor
section
namespace Go.AI
noncomputable def rV :Code->Option Code
 |.seq a b=>match rV a with
  |some c=>some c
  |none=>rV b
 |.block _ a=>rV a
 |.rangeFunc _ _ c _=>some c
 |_=>none
noncomputable def rU :Code->Option Code
 |.seq a b=>match rU a with
  |some c=>some c
  |none=>rU b
 |.block _ a=>rU a
 |.rangeFunc _ _ _ c=>some c
 |_=>none
end Go.AI
open Go.RowKit Go.Shelf
namespace Go.Proofs.YtelooagbkmpdpaaGreatDoor
open Go.AI Go.G
noncomputable abbrev iB (S:List aC):List (Nat×aN):=[(0,.cells [.own 1] 241),(1,.map true [.int,.str] true (lL S))]
noncomputable abbrev E0 (x:aC)(S:List aC):List (Nat×aN):=[(0,.cells [.own 1] 241),(1,.map true [.int,.str] true (lL S)),(64,.cells ((aF x).map .d) 82)]
theorem ZC (x:aC)(S:List aC)(L dp:Nat){c:Code}(hc:(Tryz.f183.body.bind rV)=some c):
  CI (some L) dp (λ_ _ _=>True) Tryz.prog 16 (λe y=>e=.normal/\AI.Sub y [(3,.ptr 0 0),(5,.ptr 64 0)] (E0 x S) 65 []) [.code c] ⟨[(3,.ptr 0 0),(10,st (aF x))],(iB S).map (λp=>(p.1,some p.2)),64⟩:=by
 simp only[Tryz.f183,vT,rV,mV]at hc;subst hc;refine CI.n ?_;simp;constructor<;>simp
theorem ZB (x:aC)(S:List aC)(L dp:Nat){c:Code}(hc:(Tryz.f183.body.bind rU)=some c):
  CI (some L) dp (λ_ _ _=>True) Tryz.prog 16 (zC (iB S) (iB (x::S))) [.code c] ⟨[(3,.ptr 0 0),(5,.ptr 64 0)],(E0 x S).map (λp=>(p.1,some p.2)),65⟩:=by
 simp only[Tryz.f183,vT,rU,mV]at hc;subst hc;have hU:=PZ S x;refine CI.n ?_;simp;refine CI.p (fW x) ?_;simp;have hU':=hU;simp only[aF]at hU';refine⟨by decide+kernel,rfl,?_⟩;refine⟨?_,?_,?_,?_,?_,?_,?_⟩<;>simp[bF,bI,hU']
theorem Ei (l:List aC)(hl:l.length<=1000000)(L dp:Nat)(r:Loop)(s0:Names)(T:Array Value)(hT:T.size=16){H:Nat}(hT3:T[3]? =some (.pointer (some ⟨H,0,none⟩)))(hs0:s0 0=some (.pointer (some ⟨H,0,none⟩)))
  {ca cb:Code} (hca:(Tryz.f183.body.bind rV)=some ca) (hcb:(Tryz.f183.body.bind rU)=some cb) (hrs:r.state=.ready) (hrp:r.pending=none) (hrt:r.tmps=T) (hra:r.assign=ca) (hrb:r.body=cb) (hps:r.params=#[9,10])
  {c:Code} (hc:Tryz.f258.body=some c):
  CI none dp (vR s0 L r) Tryz.prog 19 (λe y=>(e=.normal\/e=.ret)/\qC (bG y.mm) (.d (.v undef)) (iB []) (.d (.v undef)) (iB l) []) [.code c] ⟨mP 0 [.d (.fn (.yield L) [] []),.d (.aT [lD (l.map aF)])],(iB []).map (λp=>(p.1,some p.2)),64⟩:=by
 simp only[Tryz.f258,mV]at hc;subst hc;have hw0:IntKind.wrap .i64 ((l.length:Int)-1)=(l.length:Int)-1:=wrap_i64 (by omega) (by omega);refine CI.n ?_;simp[hw0];refine aJ.inv mixed rfl (ι:={j:Nat//j<=l.length}) (λj=>[(0,.d (.fn (.yield L) [] [])),(1,.d (.aT [lD (l.map aF)])),(3,int ((j.1:Int)-1))]) (λj=>iB (l.drop j.1)) 64 (λj=>j.1) ⟨l.length,aY _⟩ [] (by constructor<;>simp[K7]) ?_;rintro⟨j,hj⟩ B hB;refine CI.n ?_;simp;refine aE (λh=>?_) (λh=>?_)<;>simp only[h]<;>simp<;>(try simp only[nT,nF,dT,dF]at h)
 ·have hlt:j-1<l.length:=by omega
  obtain⟨x,hx⟩:∃x,l[j-1]? =some x:=⟨_,bL hlt⟩;have hxe:l[j-1]=x:=(cJ.1 hx).2;have hj1:((j:Int)-1)=((j-1:Nat):Int):=by omega
  have hd:l.drop (j-1)=x::l.drop j:=by
   have:=qF hlt;rw[hxe,show j-1+1=j by omega]at this;exact this
  simp[hj1,hlt,hxe,h];refine CI.yield (tmA:=[(3,.ptr 0 0),(10,st (aF x))]) (tmB:=[(3,.ptr 0 0),(5,.ptr 64 0)]) (m0:=iB (l.drop j)) (m1:=iB (x::l.drop j)) (mB:=E0 x (l.drop j)) (nxB:=65) (ntA:=16) mixed hrs hrp (by rw[hrt,hT]) ?_ ?_ rfl (.inl rfl) rfl rfl ?_ ?_ ?_ ?_ ?_ ?_ ?_ ?_
  ·rw[hra];exact ZC x (l.drop j) L _ hca
  ·rw[hrb];exact ZB x (l.drop j) L _ hcb
  ·simp
  ·simp[hps]
  ·intro σ I w vs hk hl ha t
   match vs,hl with
   |[v0,v1],_=>
    have h1:=ha 1 _ v1 (by simp;rfl) rfl (by simp[cY,cY.gS]) (by simp[AV.aW]);rw[hps,hrt];simp only[bH];by_cases t3:3=t
    ·subst t3;simp[hT3];exact .ptr (hk 0 _ hs0 (by omega))
    ·by_cases t10:10=t
     ·subst t10;simp[hT];exact h1
     ·simp only[aR t3,aR t10];exact .any _
  ·intro p hp;simp at hp;rcases hp with rfl|rfl<;>simp[bI,cY,cY.gS,aN.aW,AV.aW]
  ·intro p hp;simp at hp;rcases hp with rfl|rfl<;>simp[aN.aW,AV.aW]
  ·intro p hp;simp at hp;rcases hp with rfl|rfl<;>simp[aP]
  ·intro p hp;simp at hp;rcases hp with rfl|rfl<;>simp
  ·refine CI.nC 99 400 rfl ?_;simp[rO];have hw:IntKind.wrap .i64 (((j-1:Nat):Int)-1)=((j-1:Nat):Int)-1:=wrap_i64 (by omega) (by omega);refine hB _ ⟨j-1,by omega⟩ [] ?_ (by simp;omega);constructor<;>simp[hw,hd]
 ·have hj0:j=0:=by omega
  subst hj0;refine⟨?_,?_,?_,?_,?_,?_,?_⟩<;>simp[bF,bI]
def mQ (H M:Nat):Names:=λb=>if b=0 then some (.pointer (some ⟨H,0,none⟩))else if b=1 then some (.map (some M))else none
theorem Ej (l:List aC)(hl:l.length<=1000000)(L n:Nat)(r:Loop)(T:Array Value)(hT:T.size=16){H M:Nat}(hT3:T[3]? =some (.pointer (some ⟨H,0,none⟩)))
  {ca cb:Code} (hca:(Tryz.f183.body.bind rV)=some ca) (hcb:(Tryz.f183.body.bind rU)=some cb) (hrs:r.state=.ready) (hrp:r.pending=none) (hrt:r.tmps=T) (hra:r.assign=ca) (hrb:r.body=cb) (hps:r.params=#[9,10])
  {W:World} {I:Nat->Prop} {v:Value} (hib:∀n,I n->n<W.heap.size) (hrm:RM (mQ H M) I W (aP (iB []))) (hv:RD I W (.aT [lD (l.map aF)]) v) (hL:W.heap[L]? =some (.loop r)) (hI:¬I L):
  CallsIn (FW none) n Tryz.prog 258 #[.func (.yield L) #[] #[],v] W λe W'=>(∃u,e=.returned u)/\∃I',cB (mQ H M) I W (aP (iB [])) 64 (mQ H M) I' W' (aP (iB l)):=by
 refine callsIn_of_wp (F:=FW none) Tryz.func258 rfl trivial ?_ rfl
 let E:Ctx:={P:=Tryz.prog,w0:=W,iQ:=cR (mQ H M) (aP (iB [])),I0:=I,nt:=19,s0:=mQ H M}
 have hlow:∀b,64<=b->mQ H M b=none:=λb hb=>by unfold mQ;rw[aR (by omega),aR (by omega)]
 have hlk:bG ((iB []).map λp=>(p.1,some p.2))=aP (iB []):=tB _
 have hrel:Rel E (X.den ⟨mP 0 [.d (.fn (.yield L) [] []),.d (.aT [lD (l.map aF)])],(iB []).map (λp=>(p.1,some p.2)),64⟩)
   {tmps:=#[.func (.yield L) #[] #[],v]++Array.replicate (Tryz.f258.ntmps-(#[Value.func (.yield L) #[] #[],v]:Array Value).size) undef,defers:=[]} W:=by
  refine⟨mQ H M,I,?_,rfl,λt=>?_,?_,λb hb=>hlow b hb,hib,λ_ h=>h,λn h=>.inl h,λn h=>?_,rfl,rfl,⟨rfl,aY _⟩,aY _,λ_ _ _=>rfl,λ_ _ h=>h,hlow⟩
  ·simp[E,Tryz.ntmps258]
  ·simp only[X.den,AF,jJ,dY,yF]
   match t with
   |0=>
    simp;exact .d (.fn (xs:=[]) (ys:=[]) rfl rfl (λi c x h=>by simp at h) (λi c x h=>by simp at h))
   |1=>
    simp;exact .d hv
   |t+2=>exact .any _
  ·show RM (mQ H M) I W (bG _);rw[hlk];exact hrm
  ·have h':cR (mQ H M) (bG ((iB []).map λp=>(p.1,some p.2))) n:=h;rw[hlk]at h';exact .inl h'
 have hw:=(pA mixed (Ei l hl L n r (mQ H M) T hT hT3 rfl hca hcb hrs hrp hrt hra hrb hps rfl) E rfl rfl (vR.WO (m0:=iB []) (I0:=I) rfl rfl rfl hrm hL hI)).1 rfl _ W hrel;simp only[bY]at hw;refine oI hw (λe a W' hq=>?_);obtain⟨y,⟨σf,If,hr⟩,he,hfin⟩:lP E (λe y=>(e=.normal\/e=.ret)/\qC (bG y.mm) (.d (.v undef)) (iB []) (.d (.v undef)) (iB l) []) e a W':=by
  cases e<;>simpa[bY]using hq
 have hpost:=UW (w:=W) (σ:=mQ H M) (I:=I) rfl rfl rfl rfl hrm hr hfin;have hres:(results Tryz.f258 a.tmps).run Tryz.prog W'=.ok (.tuple #[]) W':=DG (vs:=[]) (by
  show(([]:List ResultVar).mapM (rW a.tmps)).run Tryz.prog W'=.ok [] W';rw[List.mapM_nil];rfl)
 rcases he with rfl|rfl
 ·exact⟨hr.kU,_,hres,⟨_,rfl⟩,If,hpost⟩
 ·exact⟨hr.kU,_,hres,⟨_,rfl⟩,If,hpost⟩
attribute [simp] Tryz.ntmps235 Tryz.results235
theorem Eh (l:List aC):Ct Tryz.prog 235 [aD (l.map aF)] [] [] (.d (.fn (.func 258) [] [.aT [lD (l.map aF)]])) []:=by
 refine Ct.B Tryz.func235 ?_;simp;first|exact aA (by simp) rfl|exact aB (by simp)
attribute [local go_sem] Oper.semAt_some in
set_option maxHeartbeats 1000000 in
theorem L1 (l:List aC)(hl:l.length<=1000000):Ct Tryz.prog 183 [aD (l.map aF)] [] [] (.d (sB l)) []:=by
 intro σ I w vs hib hlen hv hrm hlow
 match vs,hlen with
 |[v0],_=>
 have hv0:=hv 0 _ v0 rfl rfl;refine(sK (n:=4)).1 ?_;refine callsIn_of_wp_marks (F:=FW none) Tryz.func183 rfl trivial ?_ rfl
 let E:Ctx:={P:=Tryz.prog,w0:=w,iQ:=λ_=>False,I0:=I,nt:=16,s0:=σ}
 have hrel:Rel E (X.den ⟨mP 0 [aD (l.map aF)],[],64⟩) {tmps:=#[v0]++Array.replicate (Tryz.f183.ntmps-(#[v0]:Array Value).size) undef,defers:=[]} w:=by
  refine⟨σ,I,?_,rfl,λt=>?_,⟨λb k hb=>by simp[X.den,bG]at hb,λb b' k k' x x' n hb=>by simp[X.den,bG]at hb⟩,λb hb=>hlow b hb,hib,λ_ h=>h,λn h=>.inl h,λn h=>?_,rfl,rfl,⟨rfl,aY _⟩,aY _,λ_ _ _=>rfl,λ_ _ h=>h,hlow⟩
  ·simp[E,Tryz.ntmps183]
  ·simp only[X.den,AF,jJ,dY,yF]
   match t with
   |0=>simpa using hv0
   |t+1=>exact .any _
  ·obtain⟨b,k,x,hb,_⟩:=h;simp[X.den,bG]at hb
 generalize({tmps:=#[v0]++Array.replicate (Tryz.f183.ntmps-(#[v0]:Array Value).size) undef,defers:=[]}:Act)=a0 at hrel⊢;refine CT (E:=E) (nt:=16) (tm:=[(0,aD (l.map aF))]) (m:=[]) (nx:=64) (gv:=[]) mixed rfl rfl ?_ hrel (λa1 w1 hr1=>?_)
 ·refine CI.n ?_;simp;constructor<;>simp
 refine CT (E:=E) (nt:=16) (tm:=[(0,aD (l.map aF)),(3,.ptr 64 0)]) (m:=[(64,.cells [.own 65] 241),(65,.map true [.int,.str] true (lL []))]) (nx:=66) (gv:=[]) mixed rfl rfl ?_ hr1 (λa2 w2 hr2=>?_)
 ·refine CI.n ?_;simp;constructor<;>simp[K7]
 refine wpIn_seq ?_;refine CT (E:=E) (nt:=16) (tm:=[(0,aD (l.map aF)),(3,.ptr 64 0),(8,.d (.fn (.func 258) [] [.aT [lD (l.map aF)]]))]) (m:=[(64,.cells [.own 65] 241),(65,.map true [.int,.str] true (lL []))]) (nx:=66) (gv:=[]) mixed rfl rfl ?_ hr2 (λa3 w3 hr3=>?_)
 ·refine CI.n ?_;simp;refine CI.p (Eh l) ?_;simp;constructor<;>simp
 refine wpIn_block ?_;obtain⟨σ3,I3,h3⟩:=hr3;have hmm:RM σ3 I3 w3 (aP [(64,.cells [.own 65] 241),(65,.map true [.int,.str] true (lL []))]):=by rw[<-tB];exact h3.mm
 obtain⟨xH,hxH,hbH,hnH⟩:=hmm.aS 64 _ rfl;obtain⟨xM,hxM,hbM,hnM⟩:=hmm.aS 65 _ rfl;have hown:∀n,cR σ3 (aP [(64,.cells [.own 65] 241),(65,.map true [.int,.str] true (lL []))]) n->w.heap.size<=n:=λn hn=>by
  rcases h3.eM n (by show cR σ3 (bG _) n;rw[tB];exact hn)with g|g
  ·exact g.elim
  ·exact g
 obtain⟨H,rfl⟩:∃H,xH=.pointer (some ⟨H,0,none⟩):=by cases hbH;exact⟨_,rfl⟩
 obtain⟨M,rfl⟩:∃M,xM=.map (some M):=by cases hbM;exact⟨_,rfl⟩
 have hHM:H≠M:=λe=>by
  have:=hmm.apart 64 65 _ _ _ _ H rfl rfl hxH hxM rfl (by rw[e];rfl);omega
 have hHw:w.heap.size<=H:=hown H ⟨64,_,_,rfl,hxH,rfl⟩;have hMw:w.heap.size<=M:=hown M ⟨65,_,_,rfl,hxM,rfl⟩;have hT:a3.tmps.size=16:=h3.size;have hT3:a3.tmps[3]? =some (.pointer (some ⟨H,0,none⟩)):=by
  have h:=h3.tm 3;simp only[X.den,bH]at h;have e:a3.tmps[3]? =some (a3.tmps.getD 3 undef):=by simp[hT]
  rw[e];generalize a3.tmps.getD 3 undef=z at h;cases h with
  | @ptr b off n h=>rw[hxH]at h;cases h;rfl
 obtain⟨v,hT8,hv8⟩:∃v,a3.eval (.tmp 8)=.func (.func 258) #[] #[v]/\RD I3 w3 (.aT [lD (l.map aF)]) v:=by
  have h:=h3.tm 8;simp only[X.den,bH]at h;show∃v,a3.tmps.getD 8 undef=_/\_;generalize a3.tmps.getD 8 undef=z at h;cases h with
  |d h=>cases h with
   | @fn f first captured xs ys hx hy h1 h2=>
     have e1:xs=[]:=gX (by simpa using hx)
     match ys,hy with
     |[y],_=>subst e1;exact⟨y,rfl,h2 0 _ y rfl rfl⟩
 refine II (F:=FW none) rfl (by omega) hT8 trivial (enters_of Tryz.func258 (by kernel_rfl) rfl) ?_;rintro fn hfn r hr;obtain⟨W,hW⟩:∃W,(w3.alloc (.deferred (some []))).alloc (.loop r)=W:=⟨_,rfl⟩;rw[hW];have hL:W.heap[w3.heap.size+1]? =some (.loop r):=by
  rw[<-hW];have:=World.alloc_heap_new (w3.alloc (.deferred (some []))) (.loop r);rwa[uE]at this
 have hD:W.heap[w3.heap.size]? =some (.deferred (some [])):=by
  rw[<-hW];exact(Below.heap_alloc _ _ _ (by simp)).trans (World.alloc_heap_new w3 _)
 have hold:∀n,n<w3.heap.size->W.heap[n]? =w3.heap[n]? :=λn hn=>by
  rw[<-hW];exact(Below.heap_alloc _ _ n (by simp;omega)).trans (Below.heap_alloc _ _ n hn)
 have hsz:W.heap.size=w3.heap.size+2:=by rw[<-hW];simp
 have hos:W.os=w3.os:=by rw[<-hW];rfl
 have htape:W.tape=w3.tape:=by rw[<-hW];rfl
 have hout:lC W w3:=by rw[<-hW];exact⟨rfl,aY _⟩
 have hib3:∀n,I3 n->n<W.heap.size:=λn hn=>by have:=h3.ib n hn;omega
 have hIL:¬I3 (w3.heap.size+1):=λh=>by have:=h3.ib _ h;omega
 have hrmW:RM (mQ H M) I3 W (aP (iB [])):=by
  refine⟨λb k hb=>?_,λb b' k k' x x' n h1 h2 q1 q2 q3 q4=>?_⟩
  ·simp only[aP]at hb;split at hb
   ·rename_i e;cases hb;subst e;refine⟨_,rfl,?_,λn hn=>⟨by have:=(hnH n hn).1;omega,(hnH n hn).2⟩⟩;cases hbH with
    | @cells cs T n arr c1 c2 c3=>
      refine .cells ((hold H (hnH H rfl).1).trans c1) (by simpa using c2) (λi c x d1 d2=>?_)
      match i with
      |0=>
       simp at d1;subst d1;have:=c3 0 _ x rfl d2;cases this with
       |own e1 e2=>rw[hxM]at e1;cases e1;exact .own rfl rfl
      |i+1=>simp at d1
   ·split at hb
    ·rename_i e;cases hb;subst e;refine⟨_,rfl,?_,λn hn=>⟨by have:=(hnM n hn).1;omega,(hnM n hn).2⟩⟩;cases hbM with
     |map keys vals c1 c2 c3 c4 c5 c6=>exact .map keys vals ((hold M (hnM M rfl).1).trans c1) c2 c3 c4 c5 (λi d j c x d1 d2 d3 d4=>(c6 i d j c x d1 d2 d3 d4).mono (λn hn=>hold n (h3.ib n hn)) (λ_ h=>h))
    ·cases hb
  ·have two:∀b k,aP (iB []) b=some k->b=0\/b=1:=λb k h=>by
    simp only[aP]at h;split at h
    ·exact .inl (by omega)
    ·split at h
     ·exact .inr (by omega)
     ·cases h
   rcases two b k h1 with rfl|rfl<;>rcases two b' k' h2 with rfl|rfl
   ·rfl
   ·cases q1;cases q2;cases q3;cases q4;exact absurd rfl hHM
   ·cases q1;cases q2;cases q3;cases q4;exact absurd rfl hHM
   ·rfl
 have hvW:RD I3 W (.aT [lD (l.map aF)]) v:=hv8.mono (λn hn=>hold n (h3.ib n hn)) (λ_ h=>h);refine(Ej l hl (w3.heap.size+1) _ r a3.tmps hT hT3 (ca:=r.assign) (cb:=r.body) (by rw[hr];simp only[Tryz.f183,vT,rV]) (by rw[hr];simp only[Tryz.f183,vT,rU]) (by rw[hr]) (by rw[hr]) (by rw[hr]) rfl rfl (by rw[hr]) hib3 hrmW hvW hL hIL).mono ?_;rintro e W' ⟨hu,I',hp⟩;have hnot:∀n,w3.heap.size<=n->¬cR (mQ H M) (aP (iB [])) n:=λn hn ho=>by
  obtain⟨b,k,x,g1,g2,g3⟩:=ho;obtain⟨x',p1,p2,p3⟩:=hrmW.aS b k g1;rw[g2]at p1;cases p1;have h0:b=0\/b=1:=by
   simp only[aP]at g1;split at g1
   ·exact .inl (by omega)
   ·split at g1
    ·exact .inr (by omega)
    ·cases g1
  rcases h0 with rfl|rfl
  ·cases g2;simp[hb]at g3;subst g3;have:=(hnH H rfl).1;omega
  ·cases g2;simp[hb]at g3;subst g3;have:=(hnM M rfl).1;omega
 have hL':W'.heap[w3.heap.size+1]? =some (.loop r):=(hp.frame _ (by omega) (hnot _ (by omega))).trans hL;have hD':W'.heap[w3.heap.size]? =some (.deferred (some [])):=(hp.frame _ (by omega) (hnot _ (by omega))).trans hD;refine⟨hu,r,hL',by rw[hr];simp,?_⟩;rw[show r.pending=none by rw[hr]];obtain⟨xH',hxH',hbH',hnH'⟩:=hp.mem.aS 0 _ rfl;obtain⟨xM',hxM',hbM',hnM'⟩:=hp.mem.aS 1 _ rfl;cases hxH';cases hxM';have hMne:∀n,n=H\/n=M->n≠w3.heap.size/\n≠w3.heap.size+1:=λn hn=>by
  have:=(hnH H rfl).1;have:=(hnM M rfl).1;rcases hn with rfl|rfl<;>omega
 have hcH:W'.heap[H]? =some (.cells #[.map (some M)] 241 (0,0)):=by
  cases hbH' with
  | @cells cs T n arr c1 c2 c3=>
    have h1:arr.size=1:=by simpa using c2
    have h2:arr[0]? =some (.map (some M)):=by
     have e0:arr[0]? =some arr[0]:=by simp[h1]
     have:=c3 0 _ arr[0] rfl e0;rw[e0];generalize arr[0]=z at this;cases this with
     |own e1 e2=>cases e1;rfl
    have h3:arr=#[.map (some M)]:=by
     apply Array.ext
     ·simp[h1]
     ·intro i hi hi';have:i=0:=by omega
      subst this;have:=(e7.1 h2).2;simpa using this
    rw[c1,h3]
 have hw3s:w.heap.size<=w3.heap.size:=h3.hs;have hW's:W.heap.size<=W'.heap.size:=hp.size;obtain⟨W3,hW3⟩:∃W3,W'.putObj (w3.heap.size+1) (.loop {r with state:=.exhausted,pending:=none})=W3:=⟨_,rfl⟩;have hc3:W3.cell? ⟨H,0,none⟩=some (.map (some M)):=by
  rw[<-hW3];exact(World.cell?_of_block (World.putObj_heap_other (hMne H (.inl rfl)).2)).trans (by simp[World.cell?,hcH])
 have hD3:W3.heap[w3.heap.size]? =some (.deferred (some [])):=by rw[<-hW3];exact(World.putObj_heap_other (by omega)).trans hD'
 obtain⟨Wf,hWf⟩:∃Wf,W3.putObj w3.heap.size (.deferred none)=Wf:=⟨_,rfl⟩;have hfo:∀n,n≠w3.heap.size->n≠w3.heap.size+1->Wf.heap[n]? =W'.heap[n]? :=λn h1 h2=>by
  rw[<-hWf,<-hW3];exact(World.putObj_heap_other h1).trans (World.putObj_heap_other h2)
 have hfs:Wf.heap.size=W'.heap.size:=by rw[<-hWf,<-hW3];simp[World.putObj]
 have hfin:∃σ' I'',cB σ I w (aP ([]++[])) 64 σ' I'' Wf (aP ([]++[]))/\RV σ' I'' Wf (.d (sB l)) (.map (some M)):=by
  have hI'D:∀n,I' n->n≠w3.heap.size/\n≠w3.heap.size+1:=λn hn=>by
   rcases hp.fB n hn with g|g|g
   ·have:=h3.ib n g;omega
   ·omega
   ·constructor
    ·intro e;subst e;exact hnot _ (aY _) g
    ·intro e;subst e;exact hnot _ (by omega) g
  refine⟨σ,λn=>I' n\/n=M,?_,?_⟩
  ·refine⟨?_,?_,?_,by omega,λ_ _ h=>h,λb h1 h2=>absurd h1 h2,λn h=>.inl (hp.pV n (h3.i0 n h)),λn h=>?_,λn h=>?_,λn h1 h2=>?_,⟨λb k hb=>by simp[aP]at hb,λb b' k k' x x' n hb=>by simp[aP]at hb⟩,λb k hb=>by simp[aP]at hb,λn hn=>?_⟩
   ·have:Wf.os=W'.os:=by rw[<-hWf,<-hW3];rfl
    rw[this,hp.os,hos,h3.os]
   ·have:Wf.tape=W'.tape:=by rw[<-hWf,<-hW3];rfl
    rw[this,hp.tape,htape,h3.tape]
   ·have:lC Wf W':=by rw[<-hWf,<-hW3];exact⟨rfl,aY _⟩
    exact this.trans (hp.output.trans (hout.trans h3.output))
   ·rw[hfs];rcases h with h|rfl
    ·exact hp.ib n h
    ·exact(hnM' _ rfl).1
   ·rcases h with h|rfl
    ·rcases hp.fB n h with g|g|g
     ·rcases h3.fB n g with q|q|q
      ·exact .inl q
      ·exact q.elim
      ·exact .inr (.inl q)
     ·exact .inr (.inl (by omega))
     ·obtain⟨b,k,x,g1,g2,g3⟩:=g;have h0:b=0\/b=1:=by
       simp only[aP]at g1;split at g1
       ·exact .inl (by omega)
       ·split at g1
        ·exact .inr (by omega)
        ·cases g1
      rcases h0 with rfl|rfl
      ·cases g2;simp[hb]at g3;subst g3;exact .inr (.inl hHw)
      ·cases g2;simp[hb]at g3;subst g3;exact .inr (.inl hMw)
    ·exact .inr (.inl hMw)
   ·rw[hfo n (by omega) (by omega),hp.frame n (by omega) (λho=>?_),hold n (by omega)]
    ·exact h3.frame n h1 (λh=>h.elim)
    ·obtain⟨b,k,x,g1,g2,g3⟩:=ho;have h0:b=0\/b=1:=by
      simp only[aP]at g1;split at g1
      ·exact .inl (by omega)
      ·split at g1
       ·exact .inr (by omega)
       ·cases g1
     rcases h0 with rfl|rfl
     ·cases g2;simp[hb]at g3;subst g3;omega
     ·cases g2;simp[hb]at g3;subst g3;omega
   ·obtain⟨b,k,x,hb,_⟩:=hn;simp[aP]at hb
  ·cases hbM' with
   |map keys vals c1 c2 c3 c4 c5 c6=>
    refine .d (.mp keys vals (.inr rfl) ((hfo M (hMne M (.inr rfl)).1 (hMne M (.inr rfl)).2).trans c1) c3 c4 c5 (λi d j c x d1 d2 d3 d4=>(c6 i d j c x d1 d2 d3 d4).mono (λn hn=>hfo n (hI'D n hn).1 (hI'D n hn).2) (λn hn=>.inl hn)))
 obtain⟨σ',I'',hf1,hf2⟩:=hfin;have hg3:a3.tmps.getD 3 undef=.pointer (some ⟨H,0,none⟩):=by simp[hT3]
 have hdf:a3.defers=[]:=h3.kU;have hrun:=run_takeDeferred (P:=Tryz.prog) hD3;rw[hWf]at hrun;rw[hW3];clear hW3 hWf hfo hfs hcH hbH' hbM' hnH' hnM' hp hL' hD' hnot hvW hrmW hIL hib3 hout htape hos hsz hold hD hL hW hr hv8 hrel h3 hmm hown hbH hbM;generalize W3=W3 at hc3 hD3 hrun⊢;have hTL:a3.tmps.toList.length=16:=by simpa using hT
 have hFW:FW none=Fence.wide:=rfl;rw[hFW];show Code.wpIn Fence.wide 4 Tryz.prog _ _ _ _
 match hm:a3.tmps.toList,hTL with
 |[t0,t1,t2,t3,t4,t5,t6,t7,t8,t9,t10,t11,t12,t13,t14,t15],_=>
 have hTe:a3.tmps=#[t0,t1,t2,t3,t4,t5,t6,t7,t8,t9,t10,t11,t12,t13,t14,t15]:=by rw[<-Array.toArray_toList (xs:=a3.tmps),hm]
 rw[hTe]at hT3⊢;have h3e:t3=.pointer (some ⟨H,0,none⟩):=by simpa using hT3
 subst h3e;clear hT3 hm hTL hTe
 gi_wp2
 rw[hdf];refine⟨by simp,.inl ⟨_,_,rfl,hrun,?_⟩⟩;exact⟨.map (some M),by simp[results,Tryz.f183,go_sem],_,σ',I'',rfl,hf1,hf2⟩
end Go.Proofs.YtelooagbkmpdpaaGreatDoor
end
namespace Go.Proofs.YtelooagbkmpdpaaGreatDoor
open Go.AI Go.G
attribute [simp] Tryz.ntmps185 Tryz.results185
theorem Cg (a:List aC)(r:aC)(ha:gG a):Ct Tryz.prog 185 [st (aF r),.d (.aT [sB a])] [] [] (bool (!decide (aQ a r.key=some r))) []:=by
 refine Ct.B Tryz.func185 ?_;simp;cases hg:aQ a r.key with
 |none=>
  have e1:=K6 hg;refine CI.p (fW r) ?_ (ha:=by simp[e1]);simp[e1];refine⟨by decide+kernel,?_⟩;first|exact aA (by simp) rfl|exact aB (by simp)
 |some o=>
  have e1:=EB hg;have ho:qB o:=ha.all o (tK hg);refine CI.p (fW r) ?_ (ha:=by simp[e1]);simp[e1];refine⟨by decide+kernel,?_⟩;refine CI.p (DD o r ho) ?_;simp;first|exact aA (by simp) rfl|exact aB (by simp)
attribute [simp] Tryz.ntmps187 Tryz.results187
theorem Cf (b:List aC)(k_:Key):Ct Tryz.prog 187 [st (aK k_),.d (.aT [sB b])] [] [] (bool (aQ b k_).isSome) []:=by
 refine Ct.B Tryz.func187 ?_;simp;cases hg:aQ b k_ with
 |none=>
  have e1:=K6 hg;simp[e1];first|exact aA (by simp) rfl|exact aB (by simp)
 |some o=>
  have e1:=EB hg;simp[e1];first|exact aA (by simp) rfl|exact aB (by simp)
attribute [simp] Tryz.ntmps139 Tryz.results139
theorem Ce (a b:List aC)(ha:gG a)(hl:a.length<=1000000)(hb:b.length<=1000000):Ct Tryz.prog 139 [aD (a.map aF),aD (b.map aF)] [] [] (.bC [aD ((dR a b).map aF),aD ((eQ a b).map aK)]) []:=by
 refine Ct.BS Tryz.func139 mixed 2 400 ?_;simp;refine CI.pS (L1 a hl) Tryz.call183 2 ?_;simp;refine CI.pS (L1 b hb) Tryz.call183 2 ?_;simp;refine CI.s (tm:=[(0,aD (a.map aF)),(1,aD (b.map aF)),(6,.d (.aT [sB a])),(7,.d (.aT [sB b]))]) (mm:=[]) (nx:=65) [] [448,512] (by constructor<;>simp) ?_;refine CI.n ?_;simp;refine CI.p (FI b (.fn (.func 185) [] [.aT [sB a]]) (λr=>!decide (aQ a r.key=some r)) (λr hr=>bP.j2 (by exact Cg a r ha) Tryz.call185 rfl rfl) hb) ?_;simp;refine CI.cc [] (LP a hl) ?_;simp;refine CI.cc [385] (FU (a.map aC.key) (.fn (.func 187) [] [.aT [sB b]]) (λk=>(aQ b k).isSome) (λk hk=>bP.j2 (by exact Cf b k) Tryz.call187 rfl rfl) (by simpa using hl)) ?_;simp;first|exact aA (by simp[dR,eQ]) rfl|exact aB (by simp[dR,eQ])
end Go.Proofs.YtelooagbkmpdpaaGreatDoor
namespace Go.G
open Go.AI
theorem BH (a b:List aC):(dR a b).length<=b.length:=eE _ _
theorem BG (a b:List aC):(eQ a b).length<=a.length:=by
 have:=eE (λk=>!(aQ b k).isSome) (a.map aC.key);simpa[eQ]using this
end Go.G
namespace Go.Proofs.YtelooagbkmpdpaaGreatDoor
open Go.AI Go.G

end Go.Proofs.YtelooagbkmpdpaaGreatDoor
