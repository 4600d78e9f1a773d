/-
  LAYERS 5, 6, 9: the walks of what is reached, of differences, and of policies.
-/
import Derived.Test.YtegplpagkajolaaGreatDoorWb
import Derived.Test.YtegplpagkajolaaGreatDoorWc
import Derived.Test.YtegplpagkajolaaGreatDoorPl
import Derived.Test.YtegplpagkajolaaGreatDoorFd
set_option linter.unusedSimpArgs false
set_option linter.unusedVariables false
set_option maxRecDepth 100000
set_option maxHeartbeats 8000000
namespace Go.Proofs.YtegplpagkajolaaGreatDoor
open Go.AI Go.G Tryz
attribute [simp] ntmps157 results157 ntmps156 results156 ntmps372 results372 ntmps373 results373 ntmps158 results158 ntmps62 results62 ntmps155 results155 ntmps104 results104 ntmps63 results63 ntmps301 results301
theorem Uy (a b:Weight):(!decide (a.gI=b.gI)|| !decide (a.w=b.w))= !decide (a=b):=by
 obtain⟨p,q⟩:=a;obtain⟨u,v⟩:=b;rw[DP];simp[Weight.mk.injEq]
theorem zfo (a b:G.Mark):(!decide (a.k.kind=b.k.kind)|| (!decide (a.k.name=b.k.name)|| !decide (a.cS=b.cS)))= !decide (a=b):=by
 rw[<-zfp];simp[Bool.not_and,Bool.or_assoc]
theorem eq_int (a b:List Int)(hl:a.length<=9223372036854775807):Ct prog 157 [aC (a.map lP),aC (b.map lP)] [] [] (bool (decide (a=b))) []:=by
 refine Ct.B func157 ?_;simp;refine aJ (fun h1=>?_) (fun h1=>?_)<;>simp only[h1]<;>simp<;>(try simp only[nT,nF,dT,dF]at h1)
 ·have e:¬a=b:=fun e=>h1 (by rw[e])
  exact aB (by simp[e]) rfl
 have hab:a.length=b.length:=by omega
 refine aQ.inv mixed rfl (ι:={k:Nat//k<=(a).length/\a.take k=b.take k}) (fun k=>[(0,aC (a.map lP)),(1,aC (b.map lP)),(11,aC (a.map lP)),(12,int a.length),(13,int k.1)]) (fun k=>[]) 64 (fun k=>(a).length-k.1) ⟨0,by omega,by simp⟩ [] (by constructor<;>simp) ?_;rintro⟨k,hk1,hi⟩ B hB;refine CI.n ?_;simp;refine aJ (fun h=>?_) (fun h=>?_)
 ·have hk:k<(a).length:=by simpa using h
  obtain⟨x,hx,hr,hm,ht,hd,hw⟩:=dL hk;simp only[h];simp[hr,hw];have hrb:b[k]? =some b[k]:=cI (by omega);have htb:b.take (k+1)=b.take k++[b[k]]:=by rw[nZ,hrb];rfl
  have hne:¬x=b[k]->¬a=b:=by
   intro h2 e;subst e;rw[hr]at hrb;exact h2 (lT hrb)
  generalize b[k]=y at hrb htb hne;simp[hrb];refine⟨by decide+kernel,?_⟩;refine aJ (fun h2=>?_) (fun h2=>?_)<;>simp only[h2]<;>simp[hr,hrb]<;>(try simp only[nT,nF,dT,dF]at h2)
  ·have e:=hne h2;exact aB (by simp[e]) rfl
  ·refine hB _ ⟨k+1,by omega,by rw[ht,htb,hi,h2]⟩ [] ?_ (by simp;omega);constructor<;>simp[hw]
 ·obtain rfl:k=(a).length:=by simp at h;omega
  simp only[h];simp;have e:a=b:=by
   rw[fA,hab,fA]at hi;exact hi
  exact aB (by simp[e]) rfl
theorem zhu (a b:List Weight)(hl:a.length<=9223372036854775807):Ct prog 156 [aC (a.map wC),aC (b.map wC)] [] [] (bool (decide (a=b))) []:=by
 refine Ct.B func156 ?_;simp;refine aJ (fun h1=>?_) (fun h1=>?_)<;>simp only[h1]<;>simp<;>(try simp only[nT,nF,dT,dF]at h1)
 ·have e:¬a=b:=fun e=>h1 (by rw[e])
  exact aB (by simp[e]) rfl
 have hab:a.length=b.length:=by omega
 refine aQ.inv mixed rfl (ι:={k:Nat//k<=(a).length/\a.take k=b.take k}) (fun k=>[(0,aC (a.map wC)),(1,aC (b.map wC)),(11,aC (a.map wC)),(12,int a.length),(13,int k.1)]) (fun k=>[]) 64 (fun k=>(a).length-k.1) ⟨0,by omega,by simp⟩ [] (by constructor<;>simp) ?_;rintro⟨k,hk1,hi⟩ B hB;refine CI.n ?_;simp;refine aJ (fun h=>?_) (fun h=>?_)
 ·have hk:k<(a).length:=by simpa using h
  obtain⟨x,hx,hr,hm,ht,hd,hw⟩:=dL hk;simp only[h];simp[hr,hw];have hrb:b[k]? =some b[k]:=cI (by omega);have htb:b.take (k+1)=b.take k++[b[k]]:=by rw[nZ,hrb];rfl
  have hne:¬x=b[k]->¬a=b:=by
   intro h2 e;subst e;rw[hr]at hrb;exact h2 (lT hrb)
  generalize b[k]=y at hrb htb hne;simp[hrb];rw[Uy];refine⟨by decide+kernel,?_⟩;refine aJ (fun h2=>?_) (fun h2=>?_)<;>simp only[h2]<;>simp[hr,hrb]<;>(try simp only[nT,nF,dT,dF]at h2)
  ·have e:=hne h2;exact aB (by simp[e]) rfl
  ·refine hB _ ⟨k+1,by omega,by rw[ht,htb,hi,h2]⟩ [] ?_ (by simp;omega);constructor<;>simp[hw]
 ·obtain rfl:k=(a).length:=by simp at h;omega
  simp only[h];simp;have e:a=b:=by
   rw[fA,hab,fA]at hi;exact hi
  exact aB (by simp[e]) rfl
theorem ZG (a b:List Key)(hl:a.length<=9223372036854775807):Ct prog 372 [aC (a.map bP),aC (b.map bP)] [] [] (bool (decide (a=b))) []:=by
 refine Ct.B func372 ?_;simp;refine aJ (fun h1=>?_) (fun h1=>?_)<;>simp only[h1]<;>simp<;>(try simp only[nT,nF,dT,dF]at h1)
 ·have e:¬a=b:=fun e=>h1 (by rw[e])
  exact aB (by simp[e]) rfl
 have hab:a.length=b.length:=by omega
 refine aQ.inv mixed rfl (ι:={k:Nat//k<=(a).length/\a.take k=b.take k}) (fun k=>[(0,aC (a.map bP)),(1,aC (b.map bP)),(11,aC (a.map bP)),(12,int a.length),(13,int k.1)]) (fun k=>[]) 64 (fun k=>(a).length-k.1) ⟨0,by omega,by simp⟩ [] (by constructor<;>simp) ?_;rintro⟨k,hk1,hi⟩ B hB;refine CI.n ?_;simp;refine aJ (fun h=>?_) (fun h=>?_)
 ·have hk:k<(a).length:=by simpa using h
  obtain⟨x,hx,hr,hm,ht,hd,hw⟩:=dL hk;simp only[h];simp[hr,hw];have hrb:b[k]? =some b[k]:=cI (by omega);have htb:b.take (k+1)=b.take k++[b[k]]:=by rw[nZ,hrb];rfl
  have hne:¬x=b[k]->¬a=b:=by
   intro h2 e;subst e;rw[hr]at hrb;exact h2 (lT hrb)
  generalize b[k]=y at hrb htb hne;simp[hrb];rw[Nt];refine⟨by decide+kernel,?_⟩;refine aJ (fun h2=>?_) (fun h2=>?_)<;>simp only[h2]<;>simp[hr,hrb]<;>(try simp only[nT,nF,dT,dF]at h2)
  ·have e:=hne h2;exact aB (by simp[e]) rfl
  ·refine hB _ ⟨k+1,by omega,by rw[ht,htb,hi,h2]⟩ [] ?_ (by simp;omega);constructor<;>simp[hw]
 ·obtain rfl:k=(a).length:=by simp at h;omega
  simp only[h];simp;have e:a=b:=by
   rw[fA,hab,fA]at hi;exact hi
  exact aB (by simp[e]) rfl
theorem zhx (a b:List G.Mark)(hl:a.length<=9223372036854775807):Ct prog 373 [aC (a.map nU),aC (b.map nU)] [] [] (bool (decide (a=b))) []:=by
 refine Ct.B func373 ?_;simp;refine aJ (fun h1=>?_) (fun h1=>?_)<;>simp only[h1]<;>simp<;>(try simp only[nT,nF,dT,dF]at h1)
 ·have e:¬a=b:=fun e=>h1 (by rw[e])
  exact aB (by simp[e]) rfl
 have hab:a.length=b.length:=by omega
 refine aQ.inv mixed rfl (ι:={k:Nat//k<=(a).length/\a.take k=b.take k}) (fun k=>[(0,aC (a.map nU)),(1,aC (b.map nU)),(11,aC (a.map nU)),(12,int a.length),(13,int k.1)]) (fun k=>[]) 64 (fun k=>(a).length-k.1) ⟨0,by omega,by simp⟩ [] (by constructor<;>simp) ?_;rintro⟨k,hk1,hi⟩ B hB;refine CI.n ?_;simp;refine aJ (fun h=>?_) (fun h=>?_)
 ·have hk:k<(a).length:=by simpa using h
  obtain⟨x,hx,hr,hm,ht,hd,hw⟩:=dL hk;simp only[h];simp[hr,hw];have hrb:b[k]? =some b[k]:=cI (by omega);have htb:b.take (k+1)=b.take k++[b[k]]:=by rw[nZ,hrb];rfl
  have hne:¬x=b[k]->¬a=b:=by
   intro h2 e;subst e;rw[hr]at hrb;exact h2 (lT hrb)
  generalize b[k]=y at hrb htb hne;simp[hrb];rw[zfo];refine⟨by decide+kernel,?_⟩;refine aJ (fun h2=>?_) (fun h2=>?_)<;>simp only[h2]<;>simp[hr,hrb]<;>(try simp only[nT,nF,dT,dF]at h2)
  ·have e:=hne h2;exact aB (by simp[e]) rfl
  ·refine hB _ ⟨k+1,by omega,by rw[ht,htb,hi,h2]⟩ [] ?_ (by simp;omega);constructor<;>simp[hw]
 ·obtain rfl:k=(a).length:=by simp at h;omega
  simp only[h];simp;have e:a=b:=by
   rw[fA,hab,fA]at hi;exact hi
  exact aB (by simp[e]) rfl
theorem zht (a b:List gB)(kf:D)(hf:∀x∈a,∀y,cB prog (.d kf) [st (fR x),st (fR y)] (bool (decide (x=y))))(hl:a.length<=9223372036854775807):Ct prog 158 [aC (a.map fR),aC (b.map fR),.d kf] [] [] (bool (decide (a=b))) []:=by
 refine Ct.B func158 ?_;simp;refine aJ (fun h1=>?_) (fun h1=>?_)<;>simp only[h1]<;>simp<;>(try simp only[nT,nF,dT,dF]at h1)
 ·have e:¬a=b:=fun e=>h1 (by rw[e])
  exact aB (by simp[e]) rfl
 have hab:a.length=b.length:=by omega
 refine aQ.inv mixed rfl (ι:={k:Nat//k<=(a).length/\a.take k=b.take k}) (fun k=>[(0,aC (a.map fR)),(1,aC (b.map fR)),(2,.d kf),(15,aC (a.map fR)),(16,int a.length),(17,int k.1)]) (fun k=>[]) 64 (fun k=>(a).length-k.1) ⟨0,by omega,by simp⟩ [] (by constructor<;>simp) ?_;rintro⟨k,hk1,hi⟩ B hB;refine CI.n ?_;simp;refine aJ (fun h=>?_) (fun h=>?_)
 ·have hk:k<(a).length:=by simpa using h
  obtain⟨x,hx,hr,hm,ht,hd,hw⟩:=dL hk;simp only[h];simp[hr,hw];have hrb:b[k]? =some b[k]:=cI (by omega);have htb:b.take (k+1)=b.take k++[b[k]]:=by rw[nZ,hrb];rfl
  have hne:¬x=b[k]->¬a=b:=by
   intro h2 e;subst e;rw[hr]at hrb;exact h2 (lT hrb)
  generalize b[k]=y at hrb htb hne;simp[hrb];refine CI.ff (hf x hm y) rfl rfl rfl ?_;simp;refine aJ (fun h2=>?_) (fun h2=>?_)<;>simp only[h2]<;>simp[hr,hrb]<;>(try simp only[nT,nF,dT,dF]at h2)
  ·have e:=hne h2;exact aB (by simp[e]) rfl
  ·refine hB _ ⟨k+1,by omega,by rw[ht,htb,hi,h2]⟩ [] ?_ (by simp;omega);constructor<;>simp[hw]
 ·obtain rfl:k=(a).length:=by simp at h;omega
  simp only[h];simp;have e:a=b:=by
   rw[fA,hab,fA]at hi;exact hi
  exact aB (by simp[e]) rfl
theorem Qk (a b:List aA)(kf:D)(hf:∀x∈a,∀y,cB prog (.d kf) [st (aK x),st (aK y)] (bool (decide (x=y))))(hl:a.length<=9223372036854775807):Ct prog 62 [aC (a.map aK),aC (b.map aK),.d kf] [] [] (bool (decide (a=b))) []:=by
 refine Ct.B func62 ?_;simp;refine aJ (fun h1=>?_) (fun h1=>?_)<;>simp only[h1]<;>simp<;>(try simp only[nT,nF,dT,dF]at h1)
 ·have e:¬a=b:=fun e=>h1 (by rw[e])
  exact aB (by simp[e]) rfl
 have hab:a.length=b.length:=by omega
 refine aQ.inv mixed rfl (ι:={k:Nat//k<=(a).length/\a.take k=b.take k}) (fun k=>[(0,aC (a.map aK)),(1,aC (b.map aK)),(2,.d kf),(15,aC (a.map aK)),(16,int a.length),(17,int k.1)]) (fun k=>[]) 64 (fun k=>(a).length-k.1) ⟨0,by omega,by simp⟩ [] (by constructor<;>simp) ?_;rintro⟨k,hk1,hi⟩ B hB;refine CI.n ?_;simp;refine aJ (fun h=>?_) (fun h=>?_)
 ·have hk:k<(a).length:=by simpa using h
  obtain⟨x,hx,hr,hm,ht,hd,hw⟩:=dL hk;simp only[h];simp[hr,hw];have hrb:b[k]? =some b[k]:=cI (by omega);have htb:b.take (k+1)=b.take k++[b[k]]:=by rw[nZ,hrb];rfl
  have hne:¬x=b[k]->¬a=b:=by
   intro h2 e;subst e;rw[hr]at hrb;exact h2 (lT hrb)
  generalize b[k]=y at hrb htb hne;simp[hrb];refine CI.ff (hf x hm y) rfl rfl rfl ?_;simp;refine aJ (fun h2=>?_) (fun h2=>?_)<;>simp only[h2]<;>simp[hr,hrb]<;>(try simp only[nT,nF,dT,dF]at h2)
  ·have e:=hne h2;exact aB (by simp[e]) rfl
  ·refine hB _ ⟨k+1,by omega,by rw[ht,htb,hi,h2]⟩ [] ?_ (by simp;omega);constructor<;>simp[hw]
 ·obtain rfl:k=(a).length:=by simp at h;omega
  simp only[h];simp;have e:a=b:=by
   rw[fA,hab,fA]at hi;exact hi
  exact aB (by simp[e]) rfl
theorem zbV {a b:gB}(h1:a.host=b.host)(h2:a.pre=b.pre):decide (a=b)=decide (a.split=b.split):=by
 obtain⟨a1,a2,a3⟩:=a;obtain⟨b1,b2,b3⟩:=b;simp only at h1 h2;subst h1 h2;rw[DP];simp
theorem zkq (x y:gB)(hl:x.split.length<=9223372036854775807):Ct prog 155 [st (fR x),st (fR y)] [] [] (bool (decide (x=y))) []:=by
 refine Ct.B func155 ?_;simp;refine bX (fun h1=>?_) (fun h1=>?_)<;>simp only[h1]<;>simp<;>(try simp only[nT,nF,dT,dF]at h1)
 ·refine bX (fun h2=>?_) (fun h2=>?_)<;>simp only[h2]<;>simp<;>(try simp only[nT,nF,dT,dF]at h2)
  ·refine CI.p (zhu x.split y.split hl) ?_;simp;rw[zbV h1 h2];exact aB (by simp) rfl
  ·have e:¬x=y:=fun e=>h2 (by rw[e])
   exact aB (by simp[e]) rfl
 ·have e:¬x=y:=fun e=>h1 (by rw[e])
  exact aB (by simp[e]) rfl
theorem Tf (a b:aA)(hl:zX a):Ct prog 104 [st (aK a),st (aK b)] [] [] (bool (j5 a b)) []:=by
 refine Ct.B func104 ?_;simp;refine CI.p (oX a) ?_;simp;refine CI.p (oX b) ?_;simp;rw[JA];refine bX (fun h1=>?_) (fun h1=>?_)<;>simp only[h1]<;>simp<;>(try simp only[nT,nF,dT,dF]at h1)
 ·have k1:a.kind=b.kind:=dH Key.kind h1;have k2:a.name=b.name:=dH Key.name h1;refine bX (fun h2=>?_) (fun h2=>?_)<;>simp only[h2]<;>simp<;>(try simp only[nT,nF,dT,dF]at h2)
  ·refine bX (fun h3=>?_) (fun h3=>?_)<;>simp only[h3]<;>simp<;>(try simp only[nT,nF,dT,dF]at h3)
   ·refine CI.p (eq_int a.cT b.cT hl.cT) ?_;simp;refine bX (fun h4=>?_) (fun h4=>?_)<;>simp only[h4]<;>simp<;>(try simp only[nT,nF,dT,dF]at h4)
    ·refine CI.p (zht a.rules b.rules (dX 155) (fun x hx y=>cB.of (zkq x y (hl.split x hx)) call155 rfl rfl) hl.rules) ?_;simp;refine⟨by decide+kernel,?_⟩;exact aB (by simp[j5,k1,k2,h2,h3,h4]) rfl
    ·refine⟨by decide+kernel,?_⟩;exact aB (by simp[j5,h4]) rfl
   ·refine⟨by decide+kernel,?_⟩;exact aB (by simp[j5,h3]) rfl
  ·refine⟨by decide+kernel,?_⟩;exact aB (by simp[j5,h2]) rfl
 ·have e:j5 a b=false:=by
   simp only[j5];have:(decide (a.kind=b.kind)&&decide (a.name=b.name))=false:=by rw[show(decide (a.kind=b.kind)&&decide (a.name=b.name))=decide (a.key=b.key)from JA a.key b.key];simpa using h1
   rw[this];simp
  refine⟨by decide+kernel,?_⟩;exact aB (by simp[e]) rfl
theorem V0 (a b:aA)(hl:zX a):Ct prog 63 [st (aK a),st (aK b)] [] [] (bool (decide (a=b))) []:=by
 refine Ct.B func63 ?_;simp;rw[<-Te];refine bX (fun h1=>?_) (fun h1=>?_)<;>simp only[h1]<;>simp
 ·refine CI.p (Tf a b hl) ?_;simp;exact aB (by simp[h1]) rfl
 ·exact aB (by simp[h1]) rfl
theorem zg1 {a b:G.Frame}(h1:a.type=b.type)(h2:a.aF=b.aF)(h3:a.kind=b.kind)(h4:a.cY=b.cY)(h5:a.aL=b.aL)(h6:a.err=b.err):decide (a=b)=(decide (a.aD=b.aD)&&(decide (a.gone=b.gone)&&(decide (a.bF=b.bF)&&decide (a.held=b.held)))):=by
 obtain⟨a1,a2,a3,a4,a5,a6,a7,a8,a9,a10⟩:=a;obtain⟨b1,b2,b3,b4,b5,b6,b7,b8,b9,b10⟩:=b;simp only at h1 h2 h3 h4 h5 h6;subst h1 h2 h3 h4 h5 h6;rw[DP];simp[and_assoc]
theorem zbA (a b:G.Frame)(hl:jB a):Ct prog 301 [st (fY a),st (fY b)] [] [] (bool (decide (a=b))) []:=by
 refine Ct.B func301 ?_;simp;refine bX (fun h1=>?_) (fun h1=>?_)<;>simp only[h1]<;>simp<;>(try simp only[nT,nF,dT,dF]at h1)
 ·refine bX (fun h2=>?_) (fun h2=>?_)<;>simp only[h2]<;>simp<;>(try simp only[nT,nF,dT,dF]at h2)
  ·refine bX (fun h3=>?_) (fun h3=>?_)<;>simp only[h3]<;>simp<;>(try simp only[nT,nF,dT,dF]at h3)
   ·refine bX (fun h4=>?_) (fun h4=>?_)<;>simp only[h4]<;>simp<;>(try simp only[nT,nF,dT,dF]at h4)
    ·refine bX (fun h5=>?_) (fun h5=>?_)<;>simp only[h5]<;>simp<;>(try simp only[nT,nF,dT,dF]at h5)
     ·refine bX (fun h6=>?_) (fun h6=>?_)<;>simp only[h6]<;>simp<;>(try simp only[nT,nF,dT,dF]at h6)
      ·rw[zg1 h1 h2 h3 h4 h5 h6];refine CI.p (Qk a.aD b.aD (dX 63) (fun x hx y=>cB.of (V0 x y (hl.aD.all x hx)) call63 rfl rfl) hl.aD.len) ?_;simp;refine bX (fun h7=>?_) (fun h7=>?_)<;>simp only[h7]<;>simp<;>(try simp only[nT,nF,dT,dF]at h7)
       ·refine CI.p (ZG a.gone b.gone hl.gone) ?_;simp;refine bX (fun h8=>?_) (fun h8=>?_)<;>simp only[h8]<;>simp<;>(try simp only[nT,nF,dT,dF]at h8)
        ·refine CI.p (zhx a.bF b.bF hl.bF) ?_;simp;refine bX (fun h9=>?_) (fun h9=>?_)<;>simp only[h9]<;>simp<;>(try simp only[nT,nF,dT,dF]at h9)
         ·refine CI.p (ZG a.held b.held hl.held) ?_;simp;exact aB (by simp[h7,h8,h9]) rfl
         ·exact aB (by simp[h9]) rfl
        ·exact aB (by simp[h8]) rfl
       ·exact aB (by simp[h7]) rfl
      ·have e:¬a=b:=fun e=>h6 (by rw[e])
       exact aB (by simp[e]) rfl
     ·have e:¬a=b:=fun e=>h5 (by rw[e])
      exact aB (by simp[e]) rfl
    ·have e:¬a=b:=fun e=>h4 (by rw[e])
     exact aB (by simp[e]) rfl
   ·have e:¬a=b:=fun e=>h3 (by rw[e])
    exact aB (by simp[e]) rfl
  ·have e:¬a=b:=fun e=>h2 (by rw[e])
   exact aB (by simp[e]) rfl
 ·have e:¬a=b:=fun e=>h1 (by rw[e])
  exact aB (by simp[e]) rfl
attribute [simp] ntmps106 results106 ntmps64 results64 ntmps67 results67 ntmps345 results345 ntmps346 results346 ntmps26 results26 ntmps273 results273
noncomputable abbrev yA (S:List Key):D:=.mp true [.int,.str] false (pI S)
noncomputable abbrev XI (S:List aA):D:=.mp true [.int,.str] false (lO S)
noncomputable abbrev HP (l:List aA):List (Nat×bC):=[(0,.cells [.d (yA (l.map aA.key))] 158),(1,.cells [.own 4] 158),(2,.cells [.d (XI l)] 190),(3,.cells [.fn (.func 107) [] [.ptr 0 0,.ptr 1 0,.ptr 2 0,.ptr 3 0]] 192)]
theorem zeO (l:List aA)(ha:cW l)(hl:l.length<=100000):Ct prog 106 [aC (l.map aK)] [] [] (.d (XI l)) []:=by
 refine Ct.B func106 ?_;simp;refine aQ.V (l) (fun k=>[(3,.own 64),(8,aC (l.map aK)),(9,int l.length),(10,int k.1)]) (fun k=>[(64,.map true [.int,.str] false (lO (l.take k.1)))]) 65 (fun k hk1 B hB=>?_) (h0:=by constructor<;>simp[Mr]);simp[Mr];refine aJ (fun h=>?_) (fun h=>?_)
 ·have hk:k<(l).length:=by simpa using h
  obtain⟨x,hx,hr,hm,ht,hd,hw⟩:=dL hk;simp only[h];simp[hr,hw];have hN:=zj0 ha hr;have hL:=zfs hN;have hU:=Ve hN;have hr33:=IH x;refine CI.p (oX x) ?_;simp;refine CI.p (PI x) ?_ (ha:=by simp[hL]);simp[hL];refine⟨by omega,?_⟩;refine⟨by decide+kernel,?_⟩;exact hB hk (by constructor<;>simp[hw,ht,hU])
 ·obtain rfl:k=(l).length:=by simp at h;omega
  simp only[h];simp;exact aB (by simp) rfl
theorem Va (l:List aA)(hl:l.length<=100000):∀(n:Nat) (out:List Key) (k_:Key),uD l out<n->
  Ct prog 107 [st (bP k_),.ptr 0 0,.ptr 1 0,.ptr 2 0,.ptr 3 0] (HP l)
   [(4,.map true [.int,.str] false (pI out))] (.bI []) [(4,.map true [.int,.str] false (pI (iV l n out k_)))]:=by
 intro n;induction n with
 |zero=>intro out k_ h;omega
 |succ n ih=>
  intro out k_ hlt;refine Ct.EO func107 rfl mixed (by rw[ntmps107];simp) (CI.run 99 400 rfl ?_);simp[ntmps107,results107];cases hg:aS l k_ with
  |none=>
   have hn:k_∉l.map aA.key:=by rw[mem_keys,hg];simp
   have e:iV l (n+1) out k_=out:=by simp[iV,hg]
   have e1:=I4 hn;simp[e1];exact⟨[],by constructor<;>simp[aV,aW,e]⟩
  |some r=>
   have hn:k_∈l.map aA.key:=by rw[mem_keys,hg];simp
   by_cases ho:k_∈out
   ·have e:iV l (n+1) out k_=out:=by simp[iV,hg,ho]
    have e1:=GG hn;have e2:=GG ho;simp[e1,e2];exact⟨[],by constructor<;>simp[aV,aW,e]⟩
   ·have e:iV l (n+1) out k_=(eT r).foldl (iV l n) (out++[k_]):=by simp[iV,hg,ho]
    have hlt2:=Nc hn ho;have h33:=IH r;have e1:=GG hn;have e2:=I4 ho;have e3:=Ms hg;simp[e1,e2,e3];refine aQ.V (eT r) (fun k=>[(1,.ptr 0 0),(2,.ptr 1 0),(3,.ptr 2 0),(4,.ptr 3 0),(21,aC ((eT r).map bP)),(22,int (eT r).length),(23,int k.1)]) (fun k=>HP l++[(4,.map true [.int,.str] false (pI (((eT r).take k.1).foldl (iV l n) (out++[k_]))))]) 64 (fun k hk1 B hB=>?_);simp;refine aJ (fun h=>?_) (fun h=>?_)
    ·have hk:k<(eT r).length:=by simpa using h
     obtain⟨x,hx,hr,hm,ht,hd,hw⟩:=dL hk;simp only[h];simp[hr,hw];have h5:uD l (((eT r).take k).foldl (iV l n) (out++[k_]))<n:=by
      have:=XY (l:=l) (fun y hy=>JJ (FK l n) ((eT r).take k) (out++[k_]) y hy);omega
     refine CI.cc [0,1,2,3,4] (ih (((eT r).take k).foldl (iV l n) (out++[k_])) x h5) ?_ (ha:=by simp[HP]) (hk:=by simp[HP]);simp[HP];exact hB hk (by constructor<;>simp[hw,ht,HP,KP])
    ·obtain rfl:k=(eT r).length:=by simp at h;omega
     simp only[h];simp;rw[<-e];exact⟨[],by constructor<;>simp[aV,aW]⟩
theorem zct (l:List aA)(ha:cW l)(hl:l.length<=100000):Ct prog 64 [aC (l.map aK)] [] [] (.d (yA (wK l))) []:=by
 refine Ct.B func64 ?_;simp;refine CI.p (W7 l (by omega)) ?_;simp;refine CI.p (zeO l ha hl) ?_;simp;have rootsR_nil:CG []=[]:=rfl;refine aQ.V (l) (fun k=>[(3,.ptr 64 0),(4,.ptr 66 0),(5,.ptr 65 0),(6,.ptr 67 0),(15,aC (l.map aK)),(16,int l.length),(17,int k.1)]) (fun k=>[(64,.cells [.d (yA (l.map aA.key))] 158),(65,.cells [.own 68] 158),(66,.cells [.d (XI l)] 190),(67,.cells [.fn (.func 107) [] [.ptr 64 0,.ptr 65 0,.ptr 66 0,.ptr 67 0]] 192),(68,.map true [.int,.str] false (pI ((CG (l.take k.1)).foldl (iV l (l.length+1)) [])))]) 69 (fun k hk1 B hB=>?_) (h0:=by constructor<;>simp[I5,rootsR_nil]);simp[I5,rootsR_nil];refine aJ (fun h=>?_) (fun h=>?_)
 ·have hk:k<(l).length:=by simpa using h
  obtain⟨x,hx,hr,hm,ht,hd,hw⟩:=dL hk;simp only[h];simp[hr,hw];refine aJ (fun h0=>?_) (fun h0=>?_)<;>simp only[h0]<;>simp<;>(try simp only[nT,nF,dT,dF]at h0)
  ·have h5:=Nd l ((CG (l.take k)).foldl (iV l (l.length+1)) []);refine CI.p (oX x) ?_;simp;refine CI.cc [64,65,66,67,68] (Va l hl (l.length+1) ((CG (l.take k)).foldl (iV l (l.length+1)) []) x.key (by omega)) ?_;simp;refine⟨by decide+kernel,?_⟩;exact hB hk (by constructor<;>simp[hw,ht,Gl,h0,KP])
  ·exact hB hk (by constructor<;>simp[hw,ht,Gl,h0])
 ·obtain rfl:k=(l).length:=by simp at h;omega
  simp only[h];simp;exact aB (by simp[wK]) rfl
theorem zcx (S:List Key)(r:aA):Ct prog 67 [st (aK r),.d (.bM [yA S])] [] [] (bool (!decide (r.key∈S))) []:=by
 refine Ct.B func67 ?_;simp;by_cases h:r.key∈S
 ·have e1:=GG h;refine CI.p (oX r) ?_ (ha:=by simp[e1]);simp[e1];refine⟨by decide+kernel,?_⟩;exact aB (by simp[h]) rfl
 ·have e1:=I4 h;refine CI.p (oX r) ?_ (ha:=by simp[e1]);simp[e1];refine⟨by decide+kernel,?_⟩;exact aB (by simp[h]) rfl
theorem zbd (l:List aA)(k_:Key):Ct prog 345 [st (bP k_),.d (.bM [yA (l.map aA.key)])] [] [] (bool (lY l k_)) []:=by
 refine Ct.B func345 ?_;simp;by_cases h:k_∈l.map aA.key
 ·have e1:=GG h;have e2:lY l k_=false:=by simp[lY,mem_keys.1 h]
  simp[e1];exact aB (by simp[e2]) rfl
 ·have e1:=I4 h;have e2:lY l k_=true:=by
   cases h':(aS l k_).isSome
   ·simp[lY,h']
   ·exact absurd (mem_keys.2 h') h
  simp[e1];exact aB (by simp[e2]) rfl
theorem zbc (r:aA):Ct prog 346 [st (aK r)] [] [] (bool (yJ r)) []:=by
 refine Ct.B func346 ?_;simp;refine bX (fun h1=>?_) (fun h1=>?_)<;>simp only[h1]<;>simp
 ·exact aB (by simp[yJ,h1]) rfl
 ·exact aB (by simp[yJ,h1]) rfl
theorem II (l:List aA)(ha:cW l)(hl:l.length<=100000):Ct prog 26 [aC (l.map aK)] [] [] (aC ((dO l).map aK)) []:=by
 refine Ct.BS func26 mixed 2 400 ?_;simp;refine CI.pS (zct l ha hl) call64 2 ?_;simp;refine CI.s (tm:=[(0,aC (l.map aK)),(3,.d (.bM [yA (wK l)]))]) (mm:=[]) (nx:=65) [] [256] (by constructor<;>simp) ?_;refine CI.n ?_;simp;obtain⟨S,hS⟩:∃S,wK l=S:=⟨_,rfl⟩;have e:dO l=l.filter fun r=>!(!decide (r.key∈S)):=by simp[dO,hS]
 rw[hS,e];clear e hS;cases l with
 |nil=>
  refine CI.p SX ?_;simp;refine CI.p (SM (.fn (.func 67) [] [.bM [yA S]])) ?_;simp;exact aB (by simp) rfl
 |cons x l=>
  refine CI.cc [] (SU x l (by simp at hl;omega)) ?_;simp;refine CI.cc [129] (SO (x::l) (.fn (.func 67) [] [.bM [yA S]]) (fun r=>!decide (r.key∈S)) (fun r hr=>cB.mY (by exact zcx S r) call67 rfl rfl) (by omega)) ?_;simp;exact aB (by simp) rfl
theorem VQ (l:List aA)(ha:cW l)(hl:l.length<=100000):Ct prog 273 [aC (l.map aK)] [] [] (int (iX l)) []:=by
 refine Ct.BS func273 mixed 2 400 ?_;simp;refine CI.pS (W7 l (by omega)) call105 2 ?_;simp;refine CI.s (tm:=[(0,aC (l.map aK)),(3,.d (.bM [yA (l.map aA.key)]))]) (mm:=[]) (nx:=65) [] [256] (by constructor<;>simp) ?_;refine CI.n ?_;simp;refine CI.p (II l ha hl) ?_;simp;have hlr:(dO l).length<=l.length:=kS _ _;refine aQ.inv mixed rfl (ι:={k:Nat//k<=((dO l)).length/\((dO l).take k).all (fun r=>!((eT r).any (lY l)))=true}) (fun k=>[(3,.d (.bM [yA (l.map aA.key)])),(4,aC ((dO l).map aK)),(11,aC ((dO l).map aK)),(12,int (dO l).length),(13,int k.1)]) (fun k=>[]) 65 (fun k=>((dO l)).length-k.1) ⟨0,by omega,by simp⟩ [] (by constructor<;>simp) ?_;rintro⟨k,hk1,hi⟩ B hB;refine CI.n ?_;simp;refine aJ (fun h=>?_) (fun h=>?_)
 ·have hk:k<((dO l)).length:=by simpa using h
  obtain⟨x,hx,hr,hm,ht,hd,hw⟩:=dL hk;simp only[h];simp[hr,hw];have h33:=IH x;refine CI.p (PI x) ?_;simp;refine CI.p (TH (eT x) (.fn (.func 345) [] [.bM [yA (l.map aA.key)]]) (lY l) (fun q _=>cB.mY (by exact zbd l q) call345 rfl rfl) (by omega)) ?_;simp;refine aJ (fun h1=>?_) (fun h1=>?_)<;>simp only[h1]<;>simp
  ·have e0:((dO l).any fun r=>(eT r).any (lY l))=true:=xK.2 ⟨x,hm,h1⟩;have e:iX l=6:=by unfold iX;rw[aU e0]
   exact aB (by simp[e]) rfl
  ·refine hB _ ⟨k+1,by omega,by simp[ht,hi,h1]⟩ [] ?_ (by simp;omega);constructor<;>simp[hw,ht,h1]
 ·obtain rfl:k=((dO l)).length:=by simp at h;omega
  simp only[h];simp;rw[fA]at hi;have e0:((dO l).any fun r=>(eT r).any (lY l))=false:=by
   rw[BZ];intro y hy;have:=eF.1 hi y hy;rw[pN]at this;rw[this];exact UG
  refine CI.p (Sv (dO l) (dX 346) yJ (fun x _=>cB.of (zbc x) call346 rfl rfl) (by omega)) ?_;simp;refine aJ (fun h1=>?_) (fun h1=>?_)<;>simp only[h1]<;>simp
  ·have e:iX l=7:=by unfold iX;rw[aH (by rw[e0];exact UG),aU h1]
   exact aB (by simp[e]) rfl
  ·have e:iX l=0:=by unfold iX;rw[aH (by rw[e0];exact UG),aH (by rw[h1];exact UG)]
   exact aB (by simp[e]) rfl
end Go.Proofs.YtegplpagkajolaaGreatDoor
namespace Go.G
open Go.AI
def VA (now:List aA)(x:aA)(v:Int):Int:=match aS now x.key with
 |some o=>if j5 o x then o.cS else v
 |none=>v
def sV (now l:List aA)(v:Int)(k:Nat):List aA:=l9 now (l.take k) v++l.drop k
section
variable {now l : List aA} {v : Int} {k : Nat} {x : aA}
theorem Dl :sV now l v 0=l:=by simp[sV,l9]
theorem Zl :sV now l v l.length=l9 now l v:=by simp[sV]
theorem Zj :(sV now l v k).length=l.length:=by simp[sV,l9];omega
theorem Zk (hr:l[k]? =some x):(sV now l v k)[k]? =some x:=by
 have hk:=(cC.1 hr).1;have e:(l9 now (l.take k) v).length=k:=by simp[l9];omega
 rw[sV,nL (by omega),e,rQ];simpa using hr
theorem Zi (hr:l[k]? =some x):(List.map aK (sV now l v k)).set k (aK {x with cS:=VA now x v})=List.map aK (sV now l v (k+1)):=by
 have hk:=(cC.1 hr).1;have e:(l9 now (l.take k) v).length=k:=by simp[l9];omega
 rw[<-HI,sV,sV,List.set_append_right _ _ (by omega),e,Nat.sub_self,KV hk,T8,nZ,hr];have e2:l[k]=x:=(cC.1 hr).2;simp[l9,VA];cases aS now x.key<;>rfl
end
end Go.G
namespace Go.Proofs.YtegplpagkajolaaGreatDoor
open Go.AI Go.G Tryz
attribute [simp] ntmps374 results374 ntmps391 results391 ntmps55 results55 ntmps25 results25 ntmps207 results207
theorem zgm (kf:D):Ct prog 374 [aC [],.d kf] [] [] (int (-1)) []:=by
 refine Ct.B func374 ?_;simp;refine aQ.un ?_;simp;exact aB (by simp) rfl
theorem ZS (kf:D):Ct prog 391 [aC [],.d kf] [] [] (aC []) []:=by
 refine Ct.B func391 ?_;simp;refine CI.p (zgm kf) ?_;simp;exact aB (by simp) rfl
theorem YJ (l:List Key)(kf:D)(p:Key->Bool)(hf:∀x∈l,cB prog (.d kf) [st (bP x)] (bool (p x)))(hl:l.length<=9223372036854775807):Ct prog 374 [.own 0,.d kf] [(0,.grow 2 (l.map bP) 149)] [] (int (jH p l)) []:=by
 refine Ct.B func374 ?_;simp;refine aQ.inv mixed rfl (ι:={k:Nat//k<=(l).length/\(l.take k).all (fun x=>!p x)=true}) (fun k=>[(0,.own 0),(1,.d kf),(7,int l.length),(8,int k.1)]) (fun k=>[(0,.grow 2 (l.map bP) 149)]) 64 (fun k=>(l).length-k.1) ⟨0,by omega,by simp⟩ [] (by constructor<;>simp) ?_;rintro⟨k,hk1,hi⟩ B hB;refine CI.n ?_;simp;refine aJ (fun h=>?_) (fun h=>?_)
 ·have hk:k<(l).length:=by simpa using h
  obtain⟨r,hx,hr,hm,ht,hd,hw⟩:=dL hk;simp only[h];simp[hr,hw,hk];refine CI.ff (hf r hm) rfl rfl rfl ?_ (ha:=by simp[hx]);simp[hx];refine aJ (fun hp=>?_) (fun hp=>?_)<;>simp only[hp]<;>simp
  ·have e:=yE hi hr hp;exact⟨[],by constructor<;>simp[aV,aW,e]⟩
  ·refine hB _ ⟨k+1,by omega,by simp[ht,hi,hp]⟩ [] ?_ (by simp;omega);constructor<;>simp[hw,ht,hp]
 ·obtain rfl:k=(l).length:=by simp at h;omega
  simp only[h];simp;rw[fA]at hi;have e:jH p l= -1:=yD (fun x hx=>by have:=eF.1 hi x hx;simpa using this);exact⟨[],by constructor<;>simp[aV,aW,e]⟩
theorem SN (l:List Key)(kf:D)(p:Key->Bool)(hf:∀x∈l,cB prog (.d kf) [st (bP x)] (bool (p x)))(hl:l.length<=1000000):Ct prog 391 [.own 0,.d kf] [] [(0,.grow 2 (l.map bP) 149)] (aC ((l.filter fun x=>!p x).map bP)) []:=by
 refine Ct.B func391 ?_;simp;refine CI.cc [0] (YJ l kf p hf (by omega)) ?_;simp;rcases JM p l with⟨h1,h2⟩|⟨i,x,h1,h2,h3,h4⟩
 ·have e:(l.filter fun x=>!p x)=l:=by
   rw[HL];intro a ha;have:=xJ.1 h2 a ha;simpa using this
  simp[h1];exact⟨[],by constructor<;>simp[aV,aW,e]⟩
 ·have hne:¬(i:Int)= -1:=by omega
  have hwi:IntKind.wrap .i64 ((i:Int)+1)=i+1:=wrap_i64 (by omega) (by omega);simp[h1,hne,hwi];have d0:=p9.start (x:=x) h1 h2;refine aQ.inv mixed rfl (ι:={q:Nat×Nat×List Key//p9 p l q.1 q.2.1 q.2.2}) (fun k=>[(0,.own 0),(1,.d kf),(5,int k.1.2.1),(6,int k.1.1)]) (fun k=>[(0,.grow 2 (k.1.2.2.map bP) 149)]) 64 (fun k=>l.length-k.1.1) ⟨(i+1,i,l),d0⟩ [] (by constructor<;>simp) ?_;rintro⟨⟨j,i,cur⟩,hd⟩ B hB;clear h1 h2 h3 h4 hne hwi d0;have hlen:=hd.len;have hlt:=hd.lt;have hle:=hd.le;simp only at hlen hlt hle;have w1:IntKind.wrap .i64 ((j:Int)+1)=j+1:=wrap_i64 (by omega) (by omega);have w2:IntKind.wrap .i64 ((i:Int)+1)=i+1:=wrap_i64 (by omega) (by omega);refine CI.n ?_;simp[hlen];refine aJ (fun h=>?_) (fun h=>?_)<;>simp only[h]<;>simp<;>(try simp only[nT,nF,dT,dF]at h)
  ·have hj:j<l.length:=by omega
   have hv:l[j]? =some l[j]:=cI hj;have hm:l[j]∈l:=lU hj;generalize l[j]=v at hv hm;have hg:=hd.get hv;have hjc:j<cur.length:=by omega
   have hgx:cur[j]=v:=by rw[cI hjc]at hg;exact lT hg
   simp[hjc,hgx];refine CI.ff (hf v hm) rfl rfl rfl ?_;simp;have hic:i<cur.length:=by omega
   refine aJ (fun h2=>?_) (fun h2=>?_)<;>simp only[h2]<;>simp[hic]
   ·have hp:p v=false:=by simpa using h2
    refine hB _ ⟨(j+1,i+1,cur.set i v),hd.keep hv hp⟩ [] ?_ (by simp;omega);constructor<;>simp[w1,w2,HI]
   ·have hp:p v=true:=by simpa using h2
    refine hB _ ⟨(j+1,i,cur),hd.del hv hp⟩ [] ?_ (by simp;omega);constructor<;>simp[w1]
  ·have hj:j=l.length:=by omega
   subst hj;have e:cur.take i=l.filter (fun x=>!p x):=hd.done;simp[hlen];have e2:List.take i (List.map bP cur)=List.map bP (List.filter (fun x=>!p x) l):=by rw[<-DM,e]
   have e3:(List.filter (fun x=>!p x) l).length=i:=by rw[<-e,yV];omega
   refine⟨by omega,by omega,by omega,?_⟩;rw[e2];exact⟨[],by constructor<;>simp[aV,aW,e3,List.take_append,show i<=i+(l.length-i+(l.length-(i+(l.length-i))))from by omega]⟩
theorem RO (l:List aA)(hl:l.length<=1000000):Ct prog 55 [aC (l.map aK)] [] [] (.own 64) [(64,.grow 2 ((l.map aA.key).map bP) 149)]:=by
 refine Ct.B func55 ?_;simp;refine aQ.j1 3 2 149 rfl ?_;refine aQ.V (l) (fun k=>[(3,.own 64),(6,aC (l.map aK)),(7,int l.length),(8,int k.1)]) (fun k=>[(64,.grow 2 (((l.take k.1).map aA.key).map bP) 149)]) 65 (fun k hk1 B hB=>?_);simp;refine aJ (fun h=>?_) (fun h=>?_)
 ·have hk:k<(l).length:=by simpa using h
  obtain⟨x,hx,hr,hm,ht,hd,hw⟩:=dL hk;simp only[h];simp[hr,hw];refine CI.p (oX x) ?_;simp;refine⟨by omega,?_⟩;exact hB hk (by constructor<;>simp[hw,ht])
 ·obtain rfl:k=(l).length:=by simp at h;omega
  simp only[h];simp;exact⟨[(64,64)],by constructor<;>simp[aV,aW]⟩
theorem B7 (a b:List aA)(ha:dK a):Ct prog 25 [aC (a.map aK),aC (b.map aK)] [] [] (bool (decide (a=b))) []:=by
 refine Ct.B func25 ?_;simp;refine CI.p (Qk a b (dX 63) (fun x hx y=>cB.of (V0 x y (ha.all x hx)) call63 rfl rfl) ha.len) ?_;simp;exact aB (by simp) rfl
theorem ziu (l:List aA)(h:¬l=[])(hl:l.length<=1000000):Ct prog 66 [aC (l.map aK)] [] [] (.own 64) [(64,.grow 7 (l.map aK) 126)]:=by
 cases l with
 |nil=>exact absurd rfl h
 |cons x l=>exact SU x l (by simp at hl;omega)
theorem Ze (now l:List aA)(v:Int)(hn:dK now)(hl:l.length<=1000000)(hne:¬l=[]):Ct prog 207 [aC (now.map aK),aC (l.map aK),int v] [] [] (aC ((l9 now l v).map aK)) []:=by
 refine Ct.B func207 ?_;simp;refine CI.cc [] (ziu l hne hl) ?_;simp;refine aQ.V (l) (fun k=>[(0,aC (now.map aK)),(2,int v),(7,.own 64),(14,aC (l.map aK)),(15,int l.length),(16,int k.1)]) (fun k=>[(64,.grow 7 ((sV now l v k.1).map aK) 126)]) 65 (fun k hk1 B hB=>?_) (h0:=by constructor<;>simp[Dl]);simp[Dl];refine aJ (fun h=>?_) (fun h=>?_)
 ·have hk:k<(l).length:=by simpa using h
  obtain⟨x,hx,hr,hm,ht,hd,hw⟩:=dL hk;simp only[h];simp[hr,hw];have s1:(sV now l v k).length=l.length:=Zj;have s2:(sV now l v k)[k]? =some x:=Zk hr;have s3:=Zi (now:=now) (v:=v) hr;simp only[aK,VA]at s3;have s4:∀h,(sV now l v k)[k]'h=x:=fun h=>lT ((cI h).symm.trans s2);simp[s1,hk,s4];refine CI.p (oX x) ?_;simp;refine CI.p (R3 now x.key hn.len) ?_;simp;cases hg:aS now x.key with
  |none=>
   simp only[hg]at s3;simp;exact hB hk (by constructor<;>simp[hw,ht,s3])
  |some o=>
   simp only[hg]at s3;simp;have ho:zX o:=hn.all o (gV hg);refine CI.p (Tf o x ho) ?_;simp;refine aJ (fun h3=>?_) (fun h3=>?_)<;>simp only[h3]<;>simp
   ·rw[aU h3]at s3;simp[s1,hk,s4];exact hB hk (by constructor<;>simp[hw,ht,s3])
   ·rw[aH (by rw[h3];exact UG)]at s3;exact hB hk (by constructor<;>simp[hw,ht,s3])
 ·obtain rfl:k=(l).length:=by simp at h;omega
  simp only[h];simp;exact aB (by simp[Zl]) rfl
theorem Zh (now:List aA)(v:Int):Ct prog 207 [aC (now.map aK),aC [],int v] [] [] (aC []) []:=by
 refine Ct.B func207 ?_;simp;refine CI.p SX ?_;simp;refine aQ.un ?_;simp;exact aB (by simp) rfl
end Go.Proofs.YtegplpagkajolaaGreatDoor
namespace Go.G
open Go.AI
theorem rW {l:List aA}(h:fF l=0):l.length<=64:=by
 unfold fF at h;split at h
 ·cases h
 ·omega
end Go.G
namespace Go.Proofs.YtegplpagkajolaaGreatDoor
open Go.AI Go.G Tryz
attribute [simp] ntmps53 results53 ntmps209 results209 ntmps162 results162
theorem X6 (s:aT)(hs:¬s.bV=[])(hl:s.bV.length<=1000000):Ct prog 53 [st (jT s)] [] [] (aC ((fW s).map aK)) []:=by
 refine Ct.B func53 ?_;simp;have h0:0<s.bV.length:=xI.2 hs;have hw:IntKind.wrap .i64 ((s.bV.length:Int)-1)=((s.bV.length-1:Nat):Int):=by rw[wrap_i64 (by omega) (by omega)];omega
 have e:s.bV[s.bV.length-1]? =some (fW s):=by
  rw[fW,Ar,HJ];rw[cI (by omega)];rfl
 simp[hw,e];exact aB (by simp) rfl
abbrev vM (e:Int):AV:=if e=0 then .d (.v .nilIface)else .gK 300 (.ptr 64 0)
abbrev vL (e:Int)(n:Nat):List (Nat×bC):=if e=0 then []else [(64,.cells [int e,int n] 304)]
theorem ziC (s:aT)(l:List aA)(hs:¬s.bV=[])(hl:s.bV.length<=1000000)(hok:dK (fW s)):Ct prog 209 [st (jT s),aC (l.map aK)] [] [] (vM (nI s.cap s.bV.length (fW s) l)) (vL (nI s.cap s.bV.length (fW s) l) s.bV.length):=by
 refine Ct.B func209 ?_;simp;refine CI.p (K6 l) ?_;simp;by_cases h1:fF l=0
 ·simp[h1];have h64:=rW h1;have ha:=iC h1;refine aJ (fun h2=>?_) (fun h2=>?_)<;>simp only[h2]<;>simp<;>(try simp only[nT,nF,dT,dF]at h2)
  ·have e:nI s.cap s.bV.length (fW s) l=8:=by simp[nI,h1,h2]
   rw[e];exact⟨[(64,1280)],by constructor<;>simp[aV,aW,vM,vL]⟩
  ·have hm:=QT l l;refine CI.p (ze2 l (by omega)) ?_;simp;refine aJ (fun h3=>?_) (fun h3=>?_)<;>simp only[h3]<;>simp<;>(try simp only[nT,nF,dT,dF]at h3)
   ·have h3':¬(wO l).length=0:=by omega
    have e:nI s.cap s.bV.length (fW s) l=6:=by simp only[nI,aU h1,aH h2,aU h3']
    rw[e];exact⟨[(64,1600)],by constructor<;>simp[aV,aW,vM,vL]⟩
   ·have h3':¬¬(wO l).length=0:=by omega
    refine CI.p (VQ l ha (by omega)) ?_;simp;by_cases h4:iX l=0
    ·have h4':¬¬iX l=0:=fun h=>h h4;simp[h4];refine CI.p (X6 s hs hl) ?_;simp;refine CI.p (B7 (fW s) l hok) ?_;simp;by_cases h5:fW s=l
     ·have e:nI s.cap s.bV.length (fW s) l=9:=by simp only[nI,aU h1,aH h2,aH h3',aH h4',aU h5]
      rw[e];simp[h5];exact⟨[(64,2176)],by constructor<;>simp[aV,aW,vM,vL]⟩
     ·simp[h5];refine aJ (fun h6=>?_) (fun h6=>?_)<;>simp only[h6]<;>simp<;>(try simp only[nT,nF,dT,dF]at h6)
      ·have e:nI s.cap s.bV.length (fW s) l=8:=by simp only[nI,aU h1,aH h2,aH h3',aH h4',aH h5,aU (show 100000<=s.bV.length by omega)]
       rw[e];exact⟨[(64,2368)],by constructor<;>simp[aV,aW,vM,vL]⟩
      ·have e:nI s.cap s.bV.length (fW s) l=0:=by simp only[nI,aU h1,aH h2,aH h3',aH h4',aH h5,aH (show¬100000<=s.bV.length by omega)]
       rw[e];exact⟨[],by constructor<;>simp[aV,aW,vM,vL]⟩
    ·have e:nI s.cap s.bV.length (fW s) l=7:=by simp only[nI,aU h1,aH h2,aH h3',aU h4]
     rw[e];simp[h4];exact⟨[(64,1856)],by constructor<;>simp[aV,aW,vM,vL]⟩
 ·have e:nI s.cap s.bV.length (fW s) l=fF l:=by simp[nI,h1]
  simp[h1];rw[e];simp only[vM,vL,aH h1];exact⟨[(64,960)],by constructor<;>simp[aV,aW]⟩
theorem Zg (now l:List aA)(v:Int)(hn:dK now)(hl:l.length<=1000000):Ct prog 207 [aC (now.map aK),aC (l.map aK),int v] [] [] (aC ((l9 now l v).map aK)) []:=by
 by_cases h:l=[]
 ·subst h;exact Zh now v
 ·exact Ze now l v hn hl h
theorem zcT (s:aT)(aD:List aA)(gone:List Key)(hs:¬s.bV=[])(hl:s.bV.length<=1000000)(hok:dK (fW s))(hn:(fW s).length+aD.length<=1000000)(hg:gone.length<=9223372036854775807):Ct prog 162 [st (jT s),aC (aD.map aK),aC (gone.map bP)] [] [] (.bI [st (jT (tC s aD gone)),vM (rF s aD gone)]) (vL (rF s aD gone) s.bV.length):=by
 refine Ct.B func162 ?_;simp;refine CI.p (X6 s hs hl) ?_;simp;refine CI.p (PX (fW s) aD gone hn hg) ?_;simp;have hpl:(cD (fW s) aD gone).length<=1000000:=fV (Im _ _ _) hn;refine CI.p (Zg (fW s) (cD (fW s) aD gone) s.bV.length hok hpl) ?_;simp;refine⟨by decide+kernel,?_⟩;have hc:=ziC s (u6 s aD gone) hs hl hok;change Ct _ _ _ _ _ (vM (rF s aD gone)) (vL (rF s aD gone) s.bV.length)at hc;by_cases he:rF s aD gone=0
 ·have e:tC s aD gone=⟨s.cap,s.bV++[u6 s aD gone]⟩:=aU he;rw[e];simp only[vM,vL,aU he]at hc⊢;refine CI.p hc ?_ (ha:=by simp[u6]);simp[u6];refine⟨by omega,?_⟩;refine⟨by decide+kernel,?_⟩;exact aB (by simp[u6]) rfl
 ·have e:tC s aD gone=s:=aH he;rw[e];simp only[vM,vL,aH he]at hc⊢;refine CI.cc [] hc ?_ (ha:=by simp[u6]) (hk:=by simp[u6]);simp[u6];exact⟨[(64,1216)],by constructor<;>simp[aV,aW]⟩
end Go.Proofs.YtegplpagkajolaaGreatDoor
section
namespace Go.AI
noncomputable def EA :Code->Option Code
 |.seq a b=>match EA a with
  |some c=>some c
  |none=>EA b
 |.block _ a=>EA a
 |.rangeFunc _ _ c _=>some c
 |_=>none
noncomputable def D9 :Code->Option Code
 |.seq a b=>match D9 a with
  |some c=>some c
  |none=>D9 b
 |.block _ a=>D9 a
 |.rangeFunc _ _ _ c=>some c
 |_=>none
end Go.AI
open Go.RowKit Go.Shelf
namespace Go.Proofs.YtegplpagkajolaaGreatDoor
open Go.AI Go.G Tryz
attribute [simp] ntmps413 results413
noncomputable abbrev oD (S:List aA):List (Nat×bC):=[(0,.cells [.own 1] 479),(1,.map true [.int,.str] true (tI S))]
noncomputable abbrev YK (x:aA)(S:List aA):List (Nat×bC):=[(0,.cells [.own 1] 479),(1,.map true [.int,.str] true (tI S)),(64,.cells ((aK x).map .d) 126)]
theorem zgh (x:aA)(S:List aA)(L dp:Nat){c:Code}(hc:(Tryz.f389.body.bind EA)=some c):
  CI (some L) dp (fun _ _ _=>True) prog 16 (fun e y=>e=.normal/\AI.Sub y [(3,.ptr 0 0),(5,.ptr 64 0)] (YK x S) 65 []) [.code c] ⟨[(3,.ptr 0 0),(10,st (aK x))],(oD S).map (fun p=>(p.1,some p.2)),64⟩:=by
 simp only[Tryz.f389,FG,EA,lS]at hc;subst hc;refine CI.n ?_;simp;constructor<;>simp
theorem zgg (x:aA)(S:List aA)(L dp:Nat){c:Code}(hc:(Tryz.f389.body.bind D9)=some c):
  CI (some L) dp (fun _ _ _=>True) prog 16 (PC (oD S) (oD (x::S))) [.code c] ⟨[(3,.ptr 0 0),(5,.ptr 64 0)],(YK x S).map (fun p=>(p.1,some p.2)),65⟩:=by
 simp only[Tryz.f389,FG,D9,lS]at hc;subst hc;have hU:=Vd S x;refine CI.n ?_;simp;refine CI.p (oX x) ?_;simp;have hU':=hU;simp only[aK]at hU';refine⟨by decide+kernel,rfl,?_⟩;refine⟨?_,?_,?_,?_,?_,?_,?_⟩<;>simp[aV,aW,hU']
theorem zjr (l:List aA)(hl:l.length<=1000000)(L dp:Nat)(r:Loop)(s0:Names)(T:Array Value)(hT:T.size=16){H:Nat}(hT3:T[3]? =some (.pointer (some ⟨H,0,none⟩)))(hs0:s0 0=some (.pointer (some ⟨H,0,none⟩)))
  {ca cb:Code} (hca:(Tryz.f389.body.bind EA)=some ca) (hcb:(Tryz.f389.body.bind D9)=some cb) (hrs:r.state=.ready) (hrp:r.pending=none) (hrt:r.tmps=T) (hra:r.assign=ca) (hrb:r.body=cb) (hps:r.params=#[9,10])
  {c:Code} (hc:Tryz.f421.body=some c):
  CI none dp (KA s0 L r) prog 19 (fun e y=>(e=.normal\/e=.ret)/\BJ (dM y.mm) (.d (.v undef)) (oD []) (.d (.v undef)) (oD l) []) [.code c] ⟨uG 0 [.d (.fn (.yield L) [] []),.d (.bM [lD (l.map aK)])],(oD []).map (fun p=>(p.1,some p.2)),64⟩:=by
 simp only[Tryz.f421,lS]at hc;subst hc;have hw0:=wrap_i64 (n:=(l.length:Int)-1) (by omega) (by omega);refine CI.n ?_;simp[hw0];refine aQ.inv mixed rfl (ι:={j:Nat//j<=l.length}) (fun j=>[(0,.d (.fn (.yield L) [] [])),(1,.d (.bM [lD (l.map aK)])),(3,int ((j.1:Int)-1))]) (fun j=>oD (l.drop j.1)) 64 (fun j=>j.1) ⟨l.length,cM _⟩ [] (by constructor<;>simp[Mq]) ?_;rintro⟨j,hj⟩ B hB;refine CI.n ?_;simp;refine aJ (fun h=>?_) (fun h=>?_)<;>simp only[h]<;>simp<;>(try simp only[nT,nF,dT,dF]at h)
 ·have hlt:j-1<l.length:=by omega
  obtain⟨x,hx⟩:∃x,l[j-1]? =some x:=⟨_,cI hlt⟩;have hxe:l[j-1]=x:=(cC.1 hx).2;have hj1:((j:Int)-1)=((j-1:Nat):Int):=by omega
  have hd:l.drop (j-1)=x::l.drop j:=by
   have:=KV hlt;rw[hxe,show j-1+1=j by omega]at this;exact this
  simp[hj1,hlt,hxe,h];refine CI.yield (tmA:=[(3,.ptr 0 0),(10,st (aK x))]) (tmB:=[(3,.ptr 0 0),(5,.ptr 64 0)]) (m0:=oD (l.drop j)) (m1:=oD (x::l.drop j)) (mB:=YK x (l.drop j)) (nxB:=65) (ntA:=16) mixed hrs hrp (by rw[hrt,hT]) ?_ ?_ rfl (.inl rfl) rfl rfl ?_ ?_ ?_ ?_ ?_ ?_ ?_ ?_
  ·rw[hra];exact zgh x (l.drop j) L _ hca
  ·rw[hrb];exact zgg x (l.drop j) L _ hcb
  ·simp
  ·simp[hps]
  ·intro σ I w vs hk hl ha t
   match vs,hl with
   |[v0,v1],_=>
    have h1:=ha 1 _ v1 (by simp;rfl) rfl (by simp[fX,fX.mH]) (by simp[AV.cF]);rw[hps,hrt];simp only[dB];by_cases t3:3=t
    ·subst t3;simp[hT3];exact .ptr (hk 0 _ hs0 (by omega))
    ·by_cases t10:10=t
     ·subst t10;simp[hT];exact h1
     ·simp only[aH t3,aH t10];exact .any _
  ·intro p hp;simp at hp;rcases hp with rfl|rfl<;>simp[aW,fX,fX.mH,bC.cF,AV.cF]
  ·intro p hp;simp at hp;rcases hp with rfl|rfl<;>simp[bC.cF,AV.cF]
  ·intro p hp;simp at hp;rcases hp with rfl|rfl<;>simp[bE]
  ·intro p hp;simp at hp;rcases hp with rfl|rfl<;>simp
  ·refine CI.CD 99 400 rfl ?_;simp[DQ];have hw:=wrap_i64 (n:=((j-1:Nat):Int)-1) (by omega) (by omega);refine hB _ ⟨j-1,by omega⟩ [] ?_ (by simp;omega);constructor<;>simp[hw,hd]
 ·have hj0:j=0:=by omega
  subst hj0;refine⟨?_,?_,?_,?_,?_,?_,?_⟩<;>simp[aV,aW]
def vJ (H M:Nat):Names:=fun b=>if b=0 then some (.pointer (some ⟨H,0,none⟩))else if b=1 then some (.map (some M))else none
theorem zjs (l:List aA)(hl:l.length<=1000000)(L n:Nat)(r:Loop)(T:Array Value)(hT:T.size=16){H M:Nat}(hT3:T[3]? =some (.pointer (some ⟨H,0,none⟩)))
  {ca cb:Code} (hca:(Tryz.f389.body.bind EA)=some ca) (hcb:(Tryz.f389.body.bind D9)=some cb) (hrs:r.state=.ready) (hrp:r.pending=none) (hrt:r.tmps=T) (hra:r.assign=ca) (hrb:r.body=cb) (hps:r.params=#[9,10])
  {W:World} {I:Nat->Prop} {v:Value} (hib:∀n,I n->n<W.heap.size) (hrm:RM (vJ H M) I W (bE (oD []))) (hv:RD I W (.bM [lD (l.map aK)]) v) (hL:W.heap[L]? =some (.loop r)) (hI:¬I L):
  CallsIn (FW none) n prog 421 #[.func (.yield L) #[] #[],v] W fun e W'=>(∃u,e=.returned u)/\∃I',fK (vJ H M) I W (bE (oD [])) 64 (vJ H M) I' W' (bE (oD l)):=by
 refine callsIn_of_wp (F:=FW none) func421 rfl trivial ?_ rfl
 let E:Ctx:={P:=prog,w0:=W,uM:=fU (vJ H M) (bE (oD [])),I0:=I,nt:=19,s0:=vJ H M}
 have hlow:∀b,64<=b->vJ H M b=none:=fun b hb=>by unfold vJ;rw[aH (by omega),aH (by omega)]
 have hlk:dM ((oD []).map fun p=>(p.1,some p.2))=bE (oD []):=GH _
 have hrel:Rel E (X.den ⟨uG 0 [.d (.fn (.yield L) [] []),.d (.bM [lD (l.map aK)])],(oD []).map (fun p=>(p.1,some p.2)),64⟩)
   {tmps:=#[.func (.yield L) #[] #[],v]++Array.replicate (Tryz.f421.ntmps-(#[Value.func (.yield L) #[] #[],v]:Array Value).size) undef,defers:=[]} W:=by
  refine⟨vJ H M,I,?_,rfl,fun t=>?_,?_,fun b hb=>hlow b hb,hib,fun _ h=>h,fun n h=>.inl h,fun n h=>?_,rfl,rfl,⟨rfl,cM _⟩,cM _,fun _ _ _=>rfl,fun _ _ h=>h,hlow⟩
  ·simp[E,ntmps421]
  ·simp only[X.den,Q5,DI,eA,KE]
   match t with
   |0=>
    simp;exact .d (.fn (xs:=[]) (ys:=[]) rfl rfl (fun i c x h=>by simp at h) (fun i c x h=>by simp at h))
   |1=>
    simp;exact .d hv
   |t+2=>exact .any _
  ·show RM (vJ H M) I W (dM _);rw[hlk];exact hrm
  ·have h':fU (vJ H M) (dM ((oD []).map fun p=>(p.1,some p.2))) n:=h;rw[hlk]at h';exact .inl h'
 have hw:=(BL mixed (zjr l hl L n r (vJ H M) T hT hT3 rfl hca hcb hrs hrp hrt hra hrb hps rfl) E rfl rfl (KA.zej (m0:=oD []) (I0:=I) rfl rfl rfl hrm hL hI)).1 rfl _ W hrel;simp only[eP]at hw;refine BO hw (fun e a W' hq=>?_);obtain⟨y,⟨σf,If,hr⟩,he,hfin⟩:tL E (fun e y=>(e=.normal\/e=.ret)/\BJ (dM y.mm) (.d (.v undef)) (oD []) (.d (.v undef)) (oD l) []) e a W':=by
  cases e<;>simpa[eP]using hq
 have hpost:=zc3 (w:=W) (σ:=vJ H M) (I:=I) rfl rfl rfl rfl hrm hr hfin;have hres:(results Tryz.f421 a.tmps).run prog W'=.ok (.tuple #[]) W':=V3 (vs:=[]) (by
  show(([]:List ResultVar).mapM (EC a.tmps)).run prog W'=.ok [] W';rw[List.mapM_nil];rfl)
 rcases he with rfl|rfl
 ·exact⟨hr.yN,_,hres,⟨_,rfl⟩,If,hpost⟩
 ·exact⟨hr.yN,_,hres,⟨_,rfl⟩,If,hpost⟩
theorem zjq (l:List aA):Ct prog 413 [aC (l.map aK)] [] [] (.d (.fn (.func 421) [] [.bM [lD (l.map aK)]])) []:=by
 refine Ct.B func413 ?_;simp;exact aB (by simp) rfl
attribute [local go_sem] Oper.semAt_some in
set_option maxHeartbeats 1000000 in
theorem Od (l:List aA)(hl:l.length<=1000000):Ct prog 389 [aC (l.map aK)] [] [] (.d (EZ l)) []:=by
 intro σ I w vs hib hlen hv hrm hlow
 match vs,hlen with
 |[v0],_=>
 have hv0:=hv 0 _ v0 rfl rfl;refine(FF (n:=4)).1 ?_;refine callsIn_of_wp_marks (F:=FW none) func389 rfl trivial ?_ rfl
 let E:Ctx:={P:=prog,w0:=w,uM:=fun _=>False,I0:=I,nt:=16,s0:=σ}
 have hrel:Rel E (X.den ⟨uG 0 [aC (l.map aK)],[],64⟩) {tmps:=#[v0]++Array.replicate (Tryz.f389.ntmps-(#[v0]:Array Value).size) undef,defers:=[]} w:=by
  refine⟨σ,I,?_,rfl,fun t=>?_,⟨fun b k hb=>by simp[X.den,dM]at hb,fun b b' k k' x x' n hb=>by simp[X.den,dM]at hb⟩,fun b hb=>hlow b hb,hib,fun _ h=>h,fun n h=>.inl h,fun n h=>?_,rfl,rfl,⟨rfl,cM _⟩,cM _,fun _ _ _=>rfl,fun _ _ h=>h,hlow⟩
  ·simp[E,ntmps389]
  ·simp only[X.den,Q5,DI,eA,KE]
   match t with
   |0=>simpa using hv0
   |t+1=>exact .any _
  ·obtain⟨b,k,x,hb,_⟩:=h;simp[X.den,dM]at hb
 generalize({tmps:=#[v0]++Array.replicate (Tryz.f389.ntmps-(#[v0]:Array Value).size) undef,defers:=[]}:Act)=a0 at hrel⊢;refine UO (E:=E) (nt:=16) (tm:=[(0,aC (l.map aK))]) (m:=[]) (nx:=64) (gv:=[]) mixed rfl rfl ?_ hrel (fun a1 w1 hr1=>?_)
 ·refine CI.n ?_;simp;constructor<;>simp
 refine UO (E:=E) (nt:=16) (tm:=[(0,aC (l.map aK)),(3,.ptr 64 0)]) (m:=[(64,.cells [.own 65] 479),(65,.map true [.int,.str] true (tI []))]) (nx:=66) (gv:=[]) mixed rfl rfl ?_ hr1 (fun a2 w2 hr2=>?_)
 ·refine CI.n ?_;simp;constructor<;>simp[Mq]
 refine wpIn_seq ?_;refine UO (E:=E) (nt:=16) (tm:=[(0,aC (l.map aK)),(3,.ptr 64 0),(8,.d (.fn (.func 421) [] [.bM [lD (l.map aK)]]))]) (m:=[(64,.cells [.own 65] 479),(65,.map true [.int,.str] true (tI []))]) (nx:=66) (gv:=[]) mixed rfl rfl ?_ hr2 (fun a3 w3 hr3=>?_)
 ·refine CI.n ?_;simp;refine CI.p (zjq l) ?_;simp;constructor<;>simp
 refine wpIn_block ?_;obtain⟨σ3,I3,h3⟩:=hr3;have hmm:RM σ3 I3 w3 (bE [(64,.cells [.own 65] 479),(65,.map true [.int,.str] true (tI []))]):=by rw[<-GH];exact h3.mm
 obtain⟨xH,hxH,hbH,hnH⟩:=hmm.bQ 64 _ rfl;obtain⟨xM,hxM,hbM,hnM⟩:=hmm.bQ 65 _ rfl;have hown:∀n,fU σ3 (bE [(64,.cells [.own 65] 479),(65,.map true [.int,.str] true (tI []))]) n->w.heap.size<=n:=fun n hn=>by
  rcases h3.kX n (by show fU σ3 (dM _) n;rw[GH];exact hn)with g|g
  ·exact g.elim
  ·exact g
 obtain⟨H,rfl⟩:∃H,xH=.pointer (some ⟨H,0,none⟩):=by cases hbH;exact⟨_,rfl⟩
 obtain⟨M,rfl⟩:∃M,xM=.map (some M):=by cases hbM;exact⟨_,rfl⟩
 have hHM:H≠M:=fun e=>by
  have:=hmm.apart 64 65 _ _ _ _ H rfl rfl hxH hxM rfl (by rw[e];rfl);omega
 have hHw:w.heap.size<=H:=hown H ⟨64,_,_,rfl,hxH,rfl⟩;have hMw:w.heap.size<=M:=hown M ⟨65,_,_,rfl,hxM,rfl⟩;have hT:a3.tmps.size=16:=h3.size;have hT3:a3.tmps[3]? =some (.pointer (some ⟨H,0,none⟩)):=by
  have h:=h3.tm 3;simp only[X.den,dB]at h;have e:a3.tmps[3]? =some (a3.tmps.getD 3 undef):=by simp[hT]
  rw[e];generalize a3.tmps.getD 3 undef=z at h;cases h with
  | @ptr b off n h=>rw[hxH]at h;cases h;rfl
 obtain⟨v,hT8,hv8⟩:∃v,a3.eval (.tmp 8)=.func (.func 421) #[] #[v]/\RD I3 w3 (.bM [lD (l.map aK)]) v:=by
  have h:=h3.tm 8;simp only[X.den,dB]at h;show∃v,a3.tmps.getD 8 undef=_/\_;generalize a3.tmps.getD 8 undef=z at h;cases h with
  |d h=>cases h with
   | @fn f first captured xs ys hx hy h1 h2=>
     have e1:xs=[]:=jL (by simpa using hx)
     match ys,hy with
     |[y],_=>subst e1;exact⟨y,rfl,h2 0 _ y rfl rfl⟩
 refine Gr (F:=FW none) rfl (by omega) hT8 trivial (enters_of func421 (by kernel_rfl) rfl) ?_;rintro fn hfn r hr;obtain⟨W,hW⟩:∃W,(w3.alloc (.deferred (some []))).alloc (.loop r)=W:=⟨_,rfl⟩;rw[hW];have hL:W.heap[w3.heap.size+1]? =some (.loop r):=by
  rw[<-hW];have:=World.alloc_heap_new (w3.alloc (.deferred (some []))) (.loop r);rwa[HG]at this
 have hD:W.heap[w3.heap.size]? =some (.deferred (some [])):=by
  rw[<-hW];exact(Below.heap_alloc _ _ _ (by simp)).trans (World.alloc_heap_new w3 _)
 have hold:∀n,n<w3.heap.size->W.heap[n]? =w3.heap[n]? :=fun n hn=>by
  rw[<-hW];exact(Below.heap_alloc _ _ n (by simp;omega)).trans (Below.heap_alloc _ _ n hn)
 have hsz:W.heap.size=w3.heap.size+2:=by rw[<-hW];simp
 have hos:W.os=w3.os:=by rw[<-hW];rfl
 have htape:W.tape=w3.tape:=by rw[<-hW];rfl
 have hout:sP W w3:=by rw[<-hW];exact⟨rfl,cM _⟩
 have hib3:∀n,I3 n->n<W.heap.size:=fun n hn=>by have:=h3.ib n hn;omega
 have hIL:¬I3 (w3.heap.size+1):=fun h=>by have:=h3.ib _ h;omega
 have hrmW:RM (vJ H M) I3 W (bE (oD [])):=by
  refine⟨fun b k hb=>?_,fun b b' k k' x x' n h1 h2 q1 q2 q3 q4=>?_⟩
  ·simp only[bE]at hb;split at hb
   ·rename_i e;cases hb;subst e;refine⟨_,rfl,?_,fun n hn=>⟨by have:=(hnH n hn).1;omega,(hnH n hn).2⟩⟩;cases hbH with
    | @cells cs T n arr c1 c2 c3=>
      refine .cells ((hold H (hnH H rfl).1).trans c1) (by simpa using c2) (fun i c x d1 d2=>?_)
      match i with
      |0=>
       simp at d1;subst d1;have:=c3 0 _ x rfl d2;cases this with
       |own e1 e2=>rw[hxM]at e1;cases e1;exact .own rfl rfl
      |i+1=>simp at d1
   ·split at hb
    ·rename_i e;cases hb;subst e;refine⟨_,rfl,?_,fun n hn=>⟨by have:=(hnM n hn).1;omega,(hnM n hn).2⟩⟩;cases hbM with
     |map keys vals c1 c2 c3 c4 c5 c6=>exact .map keys vals ((hold M (hnM M rfl).1).trans c1) c2 c3 c4 c5 (fun i d j c x d1 d2 d3 d4=>(c6 i d j c x d1 d2 d3 d4).mono (fun n hn=>hold n (h3.ib n hn)) (fun _ h=>h))
    ·cases hb
  ·have two:∀b k,bE (oD []) b=some k->b=0\/b=1:=fun b k h=>by
    simp only[bE]at h;split at h
    ·exact .inl (by omega)
    ·split at h
     ·exact .inr (by omega)
     ·cases h
   rcases two b k h1 with rfl|rfl<;>rcases two b' k' h2 with rfl|rfl
   ·rfl
   ·cases q1;cases q2;cases q3;cases q4;exact absurd rfl hHM
   ·cases q1;cases q2;cases q3;cases q4;exact absurd rfl hHM
   ·rfl
 have hvW:RD I3 W (.bM [lD (l.map aK)]) v:=hv8.mono (fun n hn=>hold n (h3.ib n hn)) (fun _ h=>h);refine(zjs l hl (w3.heap.size+1) _ r a3.tmps hT hT3 (ca:=r.assign) (cb:=r.body) (by rw[hr];simp only[Tryz.f389,FG,EA]) (by rw[hr];simp only[Tryz.f389,FG,D9]) (by rw[hr]) (by rw[hr]) (by rw[hr]) rfl rfl (by rw[hr]) hib3 hrmW hvW hL hIL).mono ?_;rintro e W' ⟨hu,I',hp⟩;have hnot:∀n,w3.heap.size<=n->¬fU (vJ H M) (bE (oD [])) n:=fun n hn ho=>by
  obtain⟨b,k,x,g1,g2,g3⟩:=ho;obtain⟨x',p1,p2,p3⟩:=hrmW.bQ b k g1;rw[g2]at p1;cases p1;have h0:b=0\/b=1:=by
   simp only[bE]at g1;split at g1
   ·exact .inl (by omega)
   ·split at g1
    ·exact .inr (by omega)
    ·cases g1
  rcases h0 with rfl|rfl
  ·cases g2;simp[hb]at g3;subst g3;have:=(hnH H rfl).1;omega
  ·cases g2;simp[hb]at g3;subst g3;have:=(hnM M rfl).1;omega
 have hL':W'.heap[w3.heap.size+1]? =some (.loop r):=(hp.frame _ (by omega) (hnot _ (by omega))).trans hL;have hD':W'.heap[w3.heap.size]? =some (.deferred (some [])):=(hp.frame _ (by omega) (hnot _ (by omega))).trans hD;refine⟨hu,r,hL',by rw[hr];simp,?_⟩;rw[show r.pending=none by rw[hr]];obtain⟨xH',hxH',hbH',hnH'⟩:=hp.mem.bQ 0 _ rfl;obtain⟨xM',hxM',hbM',hnM'⟩:=hp.mem.bQ 1 _ rfl;cases hxH';cases hxM';have hMne:∀n,n=H\/n=M->n≠w3.heap.size/\n≠w3.heap.size+1:=fun n hn=>by
  have:=(hnH H rfl).1;have:=(hnM M rfl).1;rcases hn with rfl|rfl<;>omega
 have hcH:W'.heap[H]? =some (.cells #[.map (some M)] 479 (0,0)):=by
  cases hbH' with
  | @cells cs T n arr c1 c2 c3=>
    have h1:arr.size=1:=by simpa using c2
    have h2:arr[0]? =some (.map (some M)):=by
     have e0:arr[0]? =some arr[0]:=by simp[h1]
     have:=c3 0 _ arr[0] rfl e0;rw[e0];generalize arr[0]=z at this;cases this with
     |own e1 e2=>cases e1;rfl
    have h3:arr=#[.map (some M)]:=by
     apply Array.ext
     ·simp[h1]
     ·intro i hi hi';have:i=0:=by omega
      subst this;have:=(qX.1 h2).2;simpa using this
    rw[c1,h3]
 have hw3s:w.heap.size<=w3.heap.size:=h3.hs;have hW's:W.heap.size<=W'.heap.size:=hp.size;obtain⟨W3,hW3⟩:∃W3,W'.putObj (w3.heap.size+1) (.loop {r with state:=.exhausted,pending:=none})=W3:=⟨_,rfl⟩;have hc3:W3.cell? ⟨H,0,none⟩=some (.map (some M)):=by
  rw[<-hW3];exact(World.cell?_of_block (World.putObj_heap_other (hMne H (.inl rfl)).2)).trans (by simp[World.cell?,hcH])
 have hD3:W3.heap[w3.heap.size]? =some (.deferred (some [])):=by rw[<-hW3];exact(World.putObj_heap_other (by omega)).trans hD'
 obtain⟨Wf,hWf⟩:∃Wf,W3.putObj w3.heap.size (.deferred none)=Wf:=⟨_,rfl⟩;have hfo:∀n,n≠w3.heap.size->n≠w3.heap.size+1->Wf.heap[n]? =W'.heap[n]? :=fun n h1 h2=>by
  rw[<-hWf,<-hW3];exact(World.putObj_heap_other h1).trans (World.putObj_heap_other h2)
 have hfs:Wf.heap.size=W'.heap.size:=by rw[<-hWf,<-hW3];simp[World.putObj]
 have hfin:∃σ' I'',fK σ I w (bE ([]++[])) 64 σ' I'' Wf (bE ([]++[]))/\RV σ' I'' Wf (.d (EZ l)) (.map (some M)):=by
  have hI'D:∀n,I' n->n≠w3.heap.size/\n≠w3.heap.size+1:=fun n hn=>by
   rcases hp.lQ n hn with g|g|g
   ·have:=h3.ib n g;omega
   ·omega
   ·constructor
    ·intro e;subst e;exact hnot _ (cM _) g
    ·intro e;subst e;exact hnot _ (by omega) g
  refine⟨σ,fun n=>I' n\/n=M,?_,?_⟩
  ·refine⟨?_,?_,?_,by omega,fun _ _ h=>h,fun b h1 h2=>absurd h1 h2,fun n h=>.inl (hp.vI n (h3.i0 n h)),fun n h=>?_,fun n h=>?_,fun n h1 h2=>?_,⟨fun b k hb=>by simp[bE]at hb,fun b b' k k' x x' n hb=>by simp[bE]at hb⟩,fun b k hb=>by simp[bE]at hb,fun n hn=>?_⟩
   ·have:Wf.os=W'.os:=by rw[<-hWf,<-hW3];rfl
    rw[this,hp.os,hos,h3.os]
   ·have:Wf.tape=W'.tape:=by rw[<-hWf,<-hW3];rfl
    rw[this,hp.tape,htape,h3.tape]
   ·have:sP Wf W':=by rw[<-hWf,<-hW3];exact⟨rfl,cM _⟩
    exact this.trans (hp.output.trans (hout.trans h3.output))
   ·rw[hfs];rcases h with h|rfl
    ·exact hp.ib n h
    ·exact(hnM' _ rfl).1
   ·rcases h with h|rfl
    ·rcases hp.lQ n h with g|g|g
     ·rcases h3.lQ n g with q|q|q
      ·exact .inl q
      ·exact q.elim
      ·exact .inr (.inl q)
     ·exact .inr (.inl (by omega))
     ·obtain⟨b,k,x,g1,g2,g3⟩:=g;have h0:b=0\/b=1:=by
       simp only[bE]at g1;split at g1
       ·exact .inl (by omega)
       ·split at g1
        ·exact .inr (by omega)
        ·cases g1
      rcases h0 with rfl|rfl
      ·cases g2;simp[hb]at g3;subst g3;exact .inr (.inl hHw)
      ·cases g2;simp[hb]at g3;subst g3;exact .inr (.inl hMw)
    ·exact .inr (.inl hMw)
   ·rw[hfo n (by omega) (by omega),hp.frame n (by omega) (fun ho=>?_),hold n (by omega)]
    ·exact h3.frame n h1 (fun h=>h.elim)
    ·obtain⟨b,k,x,g1,g2,g3⟩:=ho;have h0:b=0\/b=1:=by
      simp only[bE]at g1;split at g1
      ·exact .inl (by omega)
      ·split at g1
       ·exact .inr (by omega)
       ·cases g1
     rcases h0 with rfl|rfl
     ·cases g2;simp[hb]at g3;subst g3;omega
     ·cases g2;simp[hb]at g3;subst g3;omega
   ·obtain⟨b,k,x,hb,_⟩:=hn;simp[bE]at hb
  ·cases hbM' with
   |map keys vals c1 c2 c3 c4 c5 c6=>
    refine .d (.mp keys vals (.inr rfl) ((hfo M (hMne M (.inr rfl)).1 (hMne M (.inr rfl)).2).trans c1) c3 c4 c5 (fun i d j c x d1 d2 d3 d4=>(c6 i d j c x d1 d2 d3 d4).mono (fun n hn=>hfo n (hI'D n hn).1 (hI'D n hn).2) (fun n hn=>.inl hn)))
 obtain⟨σ',I'',hf1,hf2⟩:=hfin;have hg3:a3.tmps.getD 3 undef=.pointer (some ⟨H,0,none⟩):=by simp[hT3]
 have hdf:a3.defers=[]:=h3.yN;have hrun:=run_takeDeferred (P:=prog) hD3;rw[hWf]at hrun;rw[hW3];clear hW3 hWf hfo hfs hcH hbH' hbM' hnH' hnM' hp hL' hD' hnot hvW hrmW hIL hib3 hout htape hos hsz hold hD hL hW hr hv8 hrel h3 hmm hown hbH hbM;generalize W3=W3 at hc3 hD3 hrun⊢;have hTL:a3.tmps.toList.length=16:=by simpa using hT
 have hFW:FW none=Fence.wide:=rfl;rw[hFW];show Code.wpIn Fence.wide 4 prog _ _ _ _
 match hm:a3.tmps.toList,hTL with
 |[t0,t1,t2,t3,t4,t5,t6,t7,t8,t9,t10,t11,t12,t13,t14,t15],_=>
 have hTe:a3.tmps=#[t0,t1,t2,t3,t4,t5,t6,t7,t8,t9,t10,t11,t12,t13,t14,t15]:=by rw[<-Array.toArray_toList (xs:=a3.tmps),hm]
 rw[hTe]at hT3⊢;have h3e:t3=.pointer (some ⟨H,0,none⟩):=by simpa using hT3
 subst h3e;clear hT3 hm hTL hTe
 gi_wp2
 rw[hdf];refine⟨by simp,.inl ⟨_,_,rfl,hrun,?_⟩⟩;exact⟨.map (some M),by simp[results,Tryz.f389,go_sem],_,σ',I'',rfl,hf1,hf2⟩
end Go.Proofs.YtegplpagkajolaaGreatDoor
end
namespace Go.Proofs.YtegplpagkajolaaGreatDoor
open Go.AI Go.G Tryz
attribute [simp] ntmps390 results390 ntmps392 results392 ntmps350 results350
theorem zh1 (a:List aA)(r:aA)(ha:dK a):Ct prog 390 [st (aK r),.d (.bM [EZ a])] [] [] (bool (!decide (aS a r.key=some r))) []:=by
 refine Ct.B func390 ?_;simp;cases hg:aS a r.key with
 |none=>
  have e1:=Mp hg;refine CI.p (oX r) ?_ (ha:=by simp[e1]);simp[e1];refine⟨by decide+kernel,?_⟩;exact aB (by simp) rfl
 |some o=>
  have e1:=XT hg;have ho:zX o:=ha.all o (gV hg);refine CI.p (oX r) ?_ (ha:=by simp[e1]);simp[e1];refine⟨by decide+kernel,?_⟩;refine CI.p (V0 o r ho) ?_;simp;exact aB (by simp) rfl
theorem zh0 (b:List aA)(k_:Key):Ct prog 392 [st (bP k_),.d (.bM [EZ b])] [] [] (bool (aS b k_).isSome) []:=by
 refine Ct.B func392 ?_;simp;cases hg:aS b k_ with
 |none=>
  have e1:=Mp hg;simp[e1];exact aB (by simp) rfl
 |some o=>
  have e1:=XT hg;simp[e1];exact aB (by simp) rfl
theorem zhZ (a b:List aA)(ha:dK a)(hl:a.length<=1000000)(hb:b.length<=1000000):Ct prog 350 [aC (a.map aK),aC (b.map aK)] [] [] (.bI [aC ((mN a b).map aK),aC ((oG a b).map bP)]) []:=by
 refine Ct.BS func350 mixed 2 400 ?_;simp;refine CI.pS (Od a hl) call389 2 ?_;simp;refine CI.pS (Od b hb) call389 2 ?_;simp;refine CI.s (tm:=[(0,aC (a.map aK)),(1,aC (b.map aK)),(6,.d (.bM [EZ a])),(7,.d (.bM [EZ b]))]) (mm:=[]) (nx:=65) [] [448,512] (by constructor<;>simp) ?_;refine CI.n ?_;simp;refine CI.p (ZD b (.fn (.func 390) [] [.bM [EZ a]]) (fun r=>!decide (aS a r.key=some r)) (fun r hr=>cB.mY (by exact zh1 a r ha) call390 rfl rfl) hb) ?_;simp;refine CI.cc [] (RO a hl) ?_;simp;refine CI.cc [385] (SN (a.map aA.key) (.fn (.func 392) [] [.bM [EZ b]]) (fun k=>(aS b k).isSome) (fun k hk=>cB.mY (by exact zh0 b k) call392 rfl rfl) (by simpa using hl)) ?_;simp;exact aB (by simp[mN,oG]) rfl
end Go.Proofs.YtegplpagkajolaaGreatDoor
namespace Go.G
open Go.AI
theorem ZR (a b:List aA):(mN a b).length<=b.length:=kS _ _
theorem ZQ (a b:List aA):(oG a b).length<=a.length:=by
 have:=kS (fun k=>!(aS b k).isSome) (a.map aA.key);simpa[oG]using this
end Go.G
namespace Go.Proofs.YtegplpagkajolaaGreatDoor
open Go.AI Go.G Tryz

end Go.Proofs.YtegplpagkajolaaGreatDoor
