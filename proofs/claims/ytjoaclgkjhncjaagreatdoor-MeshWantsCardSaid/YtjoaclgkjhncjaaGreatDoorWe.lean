/-
  LAYERS 5, 6, 9: the walks of what is reached, of differences, and of policies.
-/
import Derived.Test.YtjoaclgkjhncjaaGreatDoorWb
import Derived.Test.YtjoaclgkjhncjaaGreatDoorWc
import Derived.Test.YtjoaclgkjhncjaaGreatDoorPl
import Derived.Test.YtjoaclgkjhncjaaGreatDoorFd
set_option linter.unusedSimpArgs false
set_option linter.unusedVariables false
namespace Go.Proofs.YtjoaclgkjhncjaaGreatDoor
open Go.AI Go.G
set_option maxRecDepth 20000
theorem w_ne (a b:Weight):(!decide (a.cluster=b.cluster)|| !decide (a.w=b.w))= !decide (a=b):=by
 obtain⟨p,q⟩:=a;obtain⟨u,v⟩:=b;rw[Bool.eq_iff_iff];simp[Weight.mk.injEq]
theorem qsf (a b:G.Mark):(!decide (a.k.kind=b.k.kind)|| (!decide (a.k.name=b.k.name)|| !decide (a.ver=b.ver)))= !decide (a=b):=by
 rw[←qsg];simp[Bool.not_and,Bool.or_assoc]
attribute [simp] Tryz.ntmps143 Tryz.results143
theorem qwz (a b:List Int)(hl:a.length≤9223372036854775807):Ct Tryz.prog 143 [lst (a.map intC),lst (b.map intC)] [] [] (bool (decide (a=b))) []:=by
 refine Ct.B Tryz.func143 mixed 9999 400 ?_;simp;refine sBI (fun h1=>?_) (fun h1=>?_)<;>simp only[h1]<;>simp<;>(try simp only[nT,nF,dT,dF]at h1)
 ·have e:¬a=b:=fun e=>h1 (by rw[e])
  first|exact fin0 (by simp[e]) rfl|exact zaa (by simp[e])
 have hab:a.length=b.length:=by omega
 refine LoopI.inv mixed rfl (ι:={k:Nat//k≤(a).length∧a.take k=b.take k}) (fun k=>[(0,lst (a.map intC)),(1,lst (b.map intC)),(11,lst (a.map intC)),(12,int a.length),(13,int k.1)]) (fun k=>[]) 64 (fun k=>(a).length-k.1) ⟨0,by omega,by simp⟩ [] (by constructor<;>simp) ?_;rintro⟨k,hk1,hi⟩ B hB;refine CI.run 9999 400 rfl ?_;simp;refine sBI (fun h=>?_) (fun h=>?_)
 ·have hk:k<(a).length:=by simpa using h
  obtain⟨x,hx,hr,hm,ht,hd⟩:=inL hk;have hw:=wr (k:=k) (by omega);simp only[h];simp[hr,hw];have hrb:b[k]? =some b[k]:=List.getElem?_eq_getElem (by omega);have htb:b.take (k+1)=b.take k++[b[k]]:=by rw[List.take_add_one,hrb];rfl
  have hne:¬x=b[k]→¬a=b:=by
   intro h2 e;subst e;rw[hr]at hrb;exact h2 (Option.some.inj hrb)
  generalize b[k]=y at hrb htb hne;simp[hrb];refine⟨by decide+kernel,?_⟩;refine sBI (fun h2=>?_) (fun h2=>?_)<;>simp only[h2]<;>simp[hr,hrb]<;>(try simp only[nT,nF,dT,dF]at h2)
  ·have e:=hne h2;first|exact fin0 (by simp[e]) rfl|exact zaa (by simp[e])
  ·refine hB _ ⟨k+1,by omega,by rw[ht,htb,hi,h2]⟩ [] ?_ (by simp;omega);constructor<;>simp[hw]
 ·have hkl:k=(a).length:=by simp at h;omega
  subst hkl;simp only[h];simp[List.take_length,List.drop_length];have e:a=b:=by
   rw[List.take_length,hab,List.take_length]at hi;exact hi
  first|exact fin0 (by simp[e]) rfl|exact zaa (by simp[e])
attribute [simp] Tryz.ntmps142 Tryz.results142
theorem eq_w (a b:List Weight)(hl:a.length≤9223372036854775807):Ct Tryz.prog 142 [lst (a.map wC),lst (b.map wC)] [] [] (bool (decide (a=b))) []:=by
 refine Ct.B Tryz.func142 mixed 9999 400 ?_;simp;refine sBI (fun h1=>?_) (fun h1=>?_)<;>simp only[h1]<;>simp<;>(try simp only[nT,nF,dT,dF]at h1)
 ·have e:¬a=b:=fun e=>h1 (by rw[e])
  first|exact fin0 (by simp[e]) rfl|exact zaa (by simp[e])
 have hab:a.length=b.length:=by omega
 refine LoopI.inv mixed rfl (ι:={k:Nat//k≤(a).length∧a.take k=b.take k}) (fun k=>[(0,lst (a.map wC)),(1,lst (b.map wC)),(11,lst (a.map wC)),(12,int a.length),(13,int k.1)]) (fun k=>[]) 64 (fun k=>(a).length-k.1) ⟨0,by omega,by simp⟩ [] (by constructor<;>simp) ?_;rintro⟨k,hk1,hi⟩ B hB;refine CI.run 9999 400 rfl ?_;simp;refine sBI (fun h=>?_) (fun h=>?_)
 ·have hk:k<(a).length:=by simpa using h
  obtain⟨x,hx,hr,hm,ht,hd⟩:=inL hk;have hw:=wr (k:=k) (by omega);simp only[h];simp[hr,hw];have hrb:b[k]? =some b[k]:=List.getElem?_eq_getElem (by omega);have htb:b.take (k+1)=b.take k++[b[k]]:=by rw[List.take_add_one,hrb];rfl
  have hne:¬x=b[k]→¬a=b:=by
   intro h2 e;subst e;rw[hr]at hrb;exact h2 (Option.some.inj hrb)
  generalize b[k]=y at hrb htb hne;simp[hrb];rw[w_ne];refine⟨by decide+kernel,?_⟩;refine sBI (fun h2=>?_) (fun h2=>?_)<;>simp only[h2]<;>simp[hr,hrb]<;>(try simp only[nT,nF,dT,dF]at h2)
  ·have e:=hne h2;first|exact fin0 (by simp[e]) rfl|exact zaa (by simp[e])
  ·refine hB _ ⟨k+1,by omega,by rw[ht,htb,hi,h2]⟩ [] ?_ (by simp;omega);constructor<;>simp[hw]
 ·have hkl:k=(a).length:=by simp at h;omega
  subst hkl;simp only[h];simp[List.take_length,List.drop_length];have e:a=b:=by
   rw[List.take_length,hab,List.take_length]at hi;exact hi
  first|exact fin0 (by simp[e]) rfl|exact zaa (by simp[e])
attribute [simp] Tryz.ntmps364 Tryz.results364
theorem qjo (a b:List Key)(hl:a.length≤9223372036854775807):Ct Tryz.prog 364 [lst (a.map keyC),lst (b.map keyC)] [] [] (bool (decide (a=b))) []:=by
 refine Ct.B Tryz.func364 mixed 9999 400 ?_;simp;refine sBI (fun h1=>?_) (fun h1=>?_)<;>simp only[h1]<;>simp<;>(try simp only[nT,nF,dT,dF]at h1)
 ·have e:¬a=b:=fun e=>h1 (by rw[e])
  first|exact fin0 (by simp[e]) rfl|exact zaa (by simp[e])
 have hab:a.length=b.length:=by omega
 refine LoopI.inv mixed rfl (ι:={k:Nat//k≤(a).length∧a.take k=b.take k}) (fun k=>[(0,lst (a.map keyC)),(1,lst (b.map keyC)),(11,lst (a.map keyC)),(12,int a.length),(13,int k.1)]) (fun k=>[]) 64 (fun k=>(a).length-k.1) ⟨0,by omega,by simp⟩ [] (by constructor<;>simp) ?_;rintro⟨k,hk1,hi⟩ B hB;refine CI.run 9999 400 rfl ?_;simp;refine sBI (fun h=>?_) (fun h=>?_)
 ·have hk:k<(a).length:=by simpa using h
  obtain⟨x,hx,hr,hm,ht,hd⟩:=inL hk;have hw:=wr (k:=k) (by omega);simp only[h];simp[hr,hw];have hrb:b[k]? =some b[k]:=List.getElem?_eq_getElem (by omega);have htb:b.take (k+1)=b.take k++[b[k]]:=by rw[List.take_add_one,hrb];rfl
  have hne:¬x=b[k]→¬a=b:=by
   intro h2 e;subst e;rw[hr]at hrb;exact h2 (Option.some.inj hrb)
  generalize b[k]=y at hrb htb hne;simp[hrb];rw[qo5];refine⟨by decide+kernel,?_⟩;refine sBI (fun h2=>?_) (fun h2=>?_)<;>simp only[h2]<;>simp[hr,hrb]<;>(try simp only[nT,nF,dT,dF]at h2)
  ·have e:=hne h2;first|exact fin0 (by simp[e]) rfl|exact zaa (by simp[e])
  ·refine hB _ ⟨k+1,by omega,by rw[ht,htb,hi,h2]⟩ [] ?_ (by simp;omega);constructor<;>simp[hw]
 ·have hkl:k=(a).length:=by simp at h;omega
  subst hkl;simp only[h];simp[List.take_length,List.drop_length];have e:a=b:=by
   rw[List.take_length,hab,List.take_length]at hi;exact hi
  first|exact fin0 (by simp[e]) rfl|exact zaa (by simp[e])
attribute [simp] Tryz.ntmps365 Tryz.results365
theorem qs5 (a b:List G.Mark)(hl:a.length≤9223372036854775807):Ct Tryz.prog 365 [lst (a.map zfq),lst (b.map zfq)] [] [] (bool (decide (a=b))) []:=by
 refine Ct.B Tryz.func365 mixed 9999 400 ?_;simp;refine sBI (fun h1=>?_) (fun h1=>?_)<;>simp only[h1]<;>simp<;>(try simp only[nT,nF,dT,dF]at h1)
 ·have e:¬a=b:=fun e=>h1 (by rw[e])
  first|exact fin0 (by simp[e]) rfl|exact zaa (by simp[e])
 have hab:a.length=b.length:=by omega
 refine LoopI.inv mixed rfl (ι:={k:Nat//k≤(a).length∧a.take k=b.take k}) (fun k=>[(0,lst (a.map zfq)),(1,lst (b.map zfq)),(11,lst (a.map zfq)),(12,int a.length),(13,int k.1)]) (fun k=>[]) 64 (fun k=>(a).length-k.1) ⟨0,by omega,by simp⟩ [] (by constructor<;>simp) ?_;rintro⟨k,hk1,hi⟩ B hB;refine CI.run 9999 400 rfl ?_;simp;refine sBI (fun h=>?_) (fun h=>?_)
 ·have hk:k<(a).length:=by simpa using h
  obtain⟨x,hx,hr,hm,ht,hd⟩:=inL hk;have hw:=wr (k:=k) (by omega);simp only[h];simp[hr,hw];have hrb:b[k]? =some b[k]:=List.getElem?_eq_getElem (by omega);have htb:b.take (k+1)=b.take k++[b[k]]:=by rw[List.take_add_one,hrb];rfl
  have hne:¬x=b[k]→¬a=b:=by
   intro h2 e;subst e;rw[hr]at hrb;exact h2 (Option.some.inj hrb)
  generalize b[k]=y at hrb htb hne;simp[hrb];rw[qsf];refine⟨by decide+kernel,?_⟩;refine sBI (fun h2=>?_) (fun h2=>?_)<;>simp only[h2]<;>simp[hr,hrb]<;>(try simp only[nT,nF,dT,dF]at h2)
  ·have e:=hne h2;first|exact fin0 (by simp[e]) rfl|exact zaa (by simp[e])
  ·refine hB _ ⟨k+1,by omega,by rw[ht,htb,hi,h2]⟩ [] ?_ (by simp;omega);constructor<;>simp[hw]
 ·have hkl:k=(a).length:=by simp at h;omega
  subst hkl;simp only[h];simp[List.take_length,List.drop_length];have e:a=b:=by
   rw[List.take_length,hab,List.take_length]at hi;exact hi
  first|exact fin0 (by simp[e]) rfl|exact zaa (by simp[e])
attribute [simp] Tryz.ntmps144 Tryz.results144
theorem qnh (a b:List Rule)(kf:D)(hf:∀x∈a,∀y,FnOk Tryz.prog (.d kf) [st (zbk x),st (zbk y)] (bool (decide (x=y))))(hl:a.length≤9223372036854775807):Ct Tryz.prog 144 [lst (a.map zbk),lst (b.map zbk),.d kf] [] [] (bool (decide (a=b))) []:=by
 refine Ct.B Tryz.func144 mixed 9999 400 ?_;simp;refine sBI (fun h1=>?_) (fun h1=>?_)<;>simp only[h1]<;>simp<;>(try simp only[nT,nF,dT,dF]at h1)
 ·have e:¬a=b:=fun e=>h1 (by rw[e])
  first|exact fin0 (by simp[e]) rfl|exact zaa (by simp[e])
 have hab:a.length=b.length:=by omega
 refine LoopI.inv mixed rfl (ι:={k:Nat//k≤(a).length∧a.take k=b.take k}) (fun k=>[(0,lst (a.map zbk)),(1,lst (b.map zbk)),(2,.d kf),(15,lst (a.map zbk)),(16,int a.length),(17,int k.1)]) (fun k=>[]) 64 (fun k=>(a).length-k.1) ⟨0,by omega,by simp⟩ [] (by constructor<;>simp) ?_;rintro⟨k,hk1,hi⟩ B hB;refine CI.run 9999 400 rfl ?_;simp;refine sBI (fun h=>?_) (fun h=>?_)
 ·have hk:k<(a).length:=by simpa using h
  obtain⟨x,hx,hr,hm,ht,hd⟩:=inL hk;have hw:=wr (k:=k) (by omega);simp only[h];simp[hr,hw];have hrb:b[k]? =some b[k]:=List.getElem?_eq_getElem (by omega);have htb:b.take (k+1)=b.take k++[b[k]]:=by rw[List.take_add_one,hrb];rfl
  have hne:¬x=b[k]→¬a=b:=by
   intro h2 e;subst e;rw[hr]at hrb;exact h2 (Option.some.inj hrb)
  generalize b[k]=y at hrb htb hne;simp[hrb];refine CI.ff (hf x hm y) rfl rfl rfl 9999 ?_;simp;refine sBI (fun h2=>?_) (fun h2=>?_)<;>simp only[h2]<;>simp[hr,hrb]<;>(try simp only[nT,nF,dT,dF]at h2)
  ·have e:=hne h2;first|exact fin0 (by simp[e]) rfl|exact zaa (by simp[e])
  ·refine hB _ ⟨k+1,by omega,by rw[ht,htb,hi,h2]⟩ [] ?_ (by simp;omega);constructor<;>simp[hw]
 ·have hkl:k=(a).length:=by simp at h;omega
  subst hkl;simp only[h];simp[List.take_length,List.drop_length];have e:a=b:=by
   rw[List.take_length,hab,List.take_length]at hi;exact hi
  first|exact fin0 (by simp[e]) rfl|exact zaa (by simp[e])
attribute [simp] Tryz.ntmps59 Tryz.results59
theorem qjn (a b:List Res)(kf:D)(hf:∀x∈a,∀y,FnOk Tryz.prog (.d kf) [st (resC x),st (resC y)] (bool (decide (x=y))))(hl:a.length≤9223372036854775807):Ct Tryz.prog 59 [lst (a.map resC),lst (b.map resC),.d kf] [] [] (bool (decide (a=b))) []:=by
 refine Ct.B Tryz.func59 mixed 9999 400 ?_;simp;refine sBI (fun h1=>?_) (fun h1=>?_)<;>simp only[h1]<;>simp<;>(try simp only[nT,nF,dT,dF]at h1)
 ·have e:¬a=b:=fun e=>h1 (by rw[e])
  first|exact fin0 (by simp[e]) rfl|exact zaa (by simp[e])
 have hab:a.length=b.length:=by omega
 refine LoopI.inv mixed rfl (ι:={k:Nat//k≤(a).length∧a.take k=b.take k}) (fun k=>[(0,lst (a.map resC)),(1,lst (b.map resC)),(2,.d kf),(15,lst (a.map resC)),(16,int a.length),(17,int k.1)]) (fun k=>[]) 64 (fun k=>(a).length-k.1) ⟨0,by omega,by simp⟩ [] (by constructor<;>simp) ?_;rintro⟨k,hk1,hi⟩ B hB;refine CI.run 9999 400 rfl ?_;simp;refine sBI (fun h=>?_) (fun h=>?_)
 ·have hk:k<(a).length:=by simpa using h
  obtain⟨x,hx,hr,hm,ht,hd⟩:=inL hk;have hw:=wr (k:=k) (by omega);simp only[h];simp[hr,hw];have hrb:b[k]? =some b[k]:=List.getElem?_eq_getElem (by omega);have htb:b.take (k+1)=b.take k++[b[k]]:=by rw[List.take_add_one,hrb];rfl
  have hne:¬x=b[k]→¬a=b:=by
   intro h2 e;subst e;rw[hr]at hrb;exact h2 (Option.some.inj hrb)
  generalize b[k]=y at hrb htb hne;simp[hrb];refine CI.ff (hf x hm y) rfl rfl rfl 9999 ?_;simp;refine sBI (fun h2=>?_) (fun h2=>?_)<;>simp only[h2]<;>simp[hr,hrb]<;>(try simp only[nT,nF,dT,dF]at h2)
  ·have e:=hne h2;first|exact fin0 (by simp[e]) rfl|exact zaa (by simp[e])
  ·refine hB _ ⟨k+1,by omega,by rw[ht,htb,hi,h2]⟩ [] ?_ (by simp;omega);constructor<;>simp[hw]
 ·have hkl:k=(a).length:=by simp at h;omega
  subst hkl;simp only[h];simp[List.take_length,List.drop_length];have e:a=b:=by
   rw[List.take_length,hab,List.take_length]at hi;exact hi
  first|exact fin0 (by simp[e]) rfl|exact zaa (by simp[e])
theorem qln {a b:Rule}(h1:a.host=b.host)(h2:a.pre=b.pre):decide (a=b)=decide (a.split=b.split):=by
 obtain⟨a1,a2,a3⟩:=a;obtain⟨b1,b2,b3⟩:=b;simp only at h1 h2;subst h1 h2;rw[Bool.eq_iff_iff];simp
attribute [simp] Tryz.ntmps141 Tryz.results141
theorem qxl (x y:Rule)(hl:x.split.length≤9223372036854775807):Ct Tryz.prog 141 [st (zbk x),st (zbk y)] [] [] (bool (decide (x=y))) []:=by
 refine Ct.B Tryz.func141 mixed 9999 400 ?_;simp;refine sGI (fun h1=>?_) (fun h1=>?_)<;>simp only[h1]<;>simp<;>(try simp only[nT,nF,dT,dF]at h1)
 ·refine sGI (fun h2=>?_) (fun h2=>?_)<;>simp only[h2]<;>simp<;>(try simp only[nT,nF,dT,dF]at h2)
  ·refine CI.p (eq_w x.split y.split hl) Tryz.call142 9999 ?_;simp;rw[qln h1 h2];first|exact fin0 (by simp) rfl|exact zaa (by simp)
  ·have e:¬x=y:=fun e=>h2 (by rw[e])
   first|exact fin0 (by simp[e]) rfl|exact zaa (by simp[e])
 ·have e:¬x=y:=fun e=>h1 (by rw[e])
  first|exact fin0 (by simp[e]) rfl|exact zaa (by simp[e])
attribute [simp] Tryz.ntmps93 Tryz.results93
theorem qkg (a b:Res)(hl:OkRes a):Ct Tryz.prog 93 [st (resC a),st (resC b)] [] [] (bool (za9 a b)) []:=by
 refine Ct.B Tryz.func93 mixed 9999 400 ?_;simp;refine CI.p (zfr a) Tryz.call46 9999 ?_;simp;refine CI.p (zfr b) Tryz.call46 9999 ?_;simp;rw[zsa];refine sGI (fun h1=>?_) (fun h1=>?_)<;>simp only[h1]<;>simp<;>(try simp only[nT,nF,dT,dF]at h1)
 ·have k1:a.kind=b.kind:=congrArg Key.kind h1;have k2:a.name=b.name:=congrArg Key.name h1;refine sGI (fun h2=>?_) (fun h2=>?_)<;>simp only[h2]<;>simp<;>(try simp only[nT,nF,dT,dF]at h2)
  ·refine sGI (fun h3=>?_) (fun h3=>?_)<;>simp only[h3]<;>simp<;>(try simp only[nT,nF,dT,dF]at h3)
   ·refine CI.p (qwz a.hosts b.hosts hl.hosts) Tryz.call143 9999 ?_;simp;refine sGI (fun h4=>?_) (fun h4=>?_)<;>simp only[h4]<;>simp<;>(try simp only[nT,nF,dT,dF]at h4)
    ·refine CI.p (qnh a.rules b.rules (fnD 141) (fun x hx y=>FnOk.of (qxl x y (hl.split x hx)) Tryz.call141 rfl rfl) hl.rules) Tryz.call144 9999 ?_;simp;refine⟨by decide+kernel,?_⟩;first|exact fin0 (by simp[za9,k1,k2,h2,h3,h4]) rfl|exact zaa (by simp[za9,k1,k2,h2,h3,h4])
    ·refine⟨by decide+kernel,?_⟩;first|exact fin0 (by simp[za9,h4]) rfl|exact zaa (by simp[za9,h4])
   ·refine⟨by decide+kernel,?_⟩;first|exact fin0 (by simp[za9,h3]) rfl|exact zaa (by simp[za9,h3])
  ·refine⟨by decide+kernel,?_⟩;first|exact fin0 (by simp[za9,h2]) rfl|exact zaa (by simp[za9,h2])
 ·have e:za9 a b=false:=by
   simp only[za9];have:(decide (a.kind=b.kind)&&decide (a.name=b.name))=false:=by rw[show(decide (a.kind=b.kind)&&decide (a.name=b.name))=decide (a.key=b.key)from zsa a.key b.key];simpa using h1
   rw[this];simp
  refine⟨by decide+kernel,?_⟩;first|exact fin0 (by simp[e]) rfl|exact zaa (by simp[e])
attribute [simp] Tryz.ntmps47 Tryz.results47
theorem qa5 (a b:Res)(hl:OkRes a):Ct Tryz.prog 47 [st (resC a),st (resC b)] [] [] (bool (decide (a=b))) []:=by
 refine Ct.B Tryz.func47 mixed 9999 400 ?_;simp;rw[←zst];refine sGI (fun h1=>?_) (fun h1=>?_)<;>simp only[h1]<;>simp<;>(try simp only[nT,nF,dT,dF]at h1)
 ·refine CI.p (qkg a b hl) Tryz.call93 9999 ?_;simp;first|exact fin0 (by simp[h1]) rfl|exact zaa (by simp[h1])
 ·first|exact fin0 (by simp[h1]) rfl|exact zaa (by simp[h1])
theorem qeg {a b:G.Frame}(h1:a.type=b.type)(h2:a.epoch=b.epoch)(h3:a.kind=b.kind)(h4:a.nonce=b.nonce)(h5:a.turn=b.turn)(h6:a.err=b.err):decide (a=b)=(decide (a.adds=b.adds)&&(decide (a.gone=b.gone)&&(decide (a.have_=b.have_)&&decide (a.held=b.held)))):=by
 obtain⟨a1,a2,a3,a4,a5,a6,a7,a8,a9,a10⟩:=a;obtain⟨b1,b2,b3,b4,b5,b6,b7,b8,b9,b10⟩:=b;simp only at h1 h2 h3 h4 h5 h6;subst h1 h2 h3 h4 h5 h6;rw[Bool.eq_iff_iff];simp[and_assoc]
attribute [simp] Tryz.ntmps305 Tryz.results305
theorem qq3 (a b:G.Frame)(hl:OkFrame a):Ct Tryz.prog 305 [st (zam a),st (zam b)] [] [] (bool (decide (a=b))) []:=by
 refine Ct.B Tryz.func305 mixed 9999 400 ?_;simp;refine sGI (fun h1=>?_) (fun h1=>?_)<;>simp only[h1]<;>simp<;>(try simp only[nT,nF,dT,dF]at h1)
 ·refine sGI (fun h2=>?_) (fun h2=>?_)<;>simp only[h2]<;>simp<;>(try simp only[nT,nF,dT,dF]at h2)
  ·refine sGI (fun h3=>?_) (fun h3=>?_)<;>simp only[h3]<;>simp<;>(try simp only[nT,nF,dT,dF]at h3)
   ·refine sGI (fun h4=>?_) (fun h4=>?_)<;>simp only[h4]<;>simp<;>(try simp only[nT,nF,dT,dF]at h4)
    ·refine sGI (fun h5=>?_) (fun h5=>?_)<;>simp only[h5]<;>simp<;>(try simp only[nT,nF,dT,dF]at h5)
     ·refine sGI (fun h6=>?_) (fun h6=>?_)<;>simp only[h6]<;>simp<;>(try simp only[nT,nF,dT,dF]at h6)
      ·rw[qeg h1 h2 h3 h4 h5 h6];refine CI.p (qjn a.adds b.adds (fnD 47) (fun x hx y=>FnOk.of (qa5 x y (hl.adds.all x hx)) Tryz.call47 rfl rfl) hl.adds.len) Tryz.call59 9999 ?_;simp;refine sGI (fun h7=>?_) (fun h7=>?_)<;>simp only[h7]<;>simp<;>(try simp only[nT,nF,dT,dF]at h7)
       ·refine CI.p (qjo a.gone b.gone hl.gone) Tryz.call364 9999 ?_;simp;refine sGI (fun h8=>?_) (fun h8=>?_)<;>simp only[h8]<;>simp<;>(try simp only[nT,nF,dT,dF]at h8)
        ·refine CI.p (qs5 a.have_ b.have_ hl.have_) Tryz.call365 9999 ?_;simp;refine sGI (fun h9=>?_) (fun h9=>?_)<;>simp only[h9]<;>simp<;>(try simp only[nT,nF,dT,dF]at h9)
         ·refine CI.p (qjo a.held b.held hl.held) Tryz.call364 9999 ?_;simp;first|exact fin0 (by simp[h7,h8,h9]) rfl|exact zaa (by simp[h7,h8,h9])
         ·first|exact fin0 (by simp[h9]) rfl|exact zaa (by simp[h9])
        ·first|exact fin0 (by simp[h8]) rfl|exact zaa (by simp[h8])
       ·first|exact fin0 (by simp[h7]) rfl|exact zaa (by simp[h7])
      ·have e:¬a=b:=fun e=>h6 (by rw[e])
       first|exact fin0 (by simp[e]) rfl|exact zaa (by simp[e])
     ·have e:¬a=b:=fun e=>h5 (by rw[e])
      first|exact fin0 (by simp[e]) rfl|exact zaa (by simp[e])
    ·have e:¬a=b:=fun e=>h4 (by rw[e])
     first|exact fin0 (by simp[e]) rfl|exact zaa (by simp[e])
   ·have e:¬a=b:=fun e=>h3 (by rw[e])
    first|exact fin0 (by simp[e]) rfl|exact zaa (by simp[e])
  ·have e:¬a=b:=fun e=>h2 (by rw[e])
   first|exact fin0 (by simp[e]) rfl|exact zaa (by simp[e])
 ·have e:¬a=b:=fun e=>h1 (by rw[e])
  first|exact fin0 (by simp[e]) rfl|exact zaa (by simp[e])
end Go.Proofs.YtjoaclgkjhncjaaGreatDoor
namespace Go.Proofs.YtjoaclgkjhncjaaGreatDoor
open Go.AI Go.G
set_option maxRecDepth 20000
noncomputable abbrev zod (S:List Key):D:=.mp true [.int,.str] false (zg0 S)
noncomputable abbrev qh9 (S:List Res):D:=.mp true [.int,.str] false (lookN S)
noncomputable abbrev visM (l:List Res):List (Nat×Blk):=[(0,.cells [.d (zod (l.map Res.key))] 153),(1,.cells [.own 4] 153),(2,.cells [.d (qh9 l)] 189),(3,.cells [.fn (.func 108) [] [.ptr 0 0,.ptr 1 0,.ptr 2 0,.ptr 3 0]] 191)]
attribute [simp] Tryz.ntmps107 Tryz.results107
theorem qmj (l:List Res)(ha:AscR l)(hl:l.length≤100000):Ct Tryz.prog 107 [lst (l.map resC)] [] [] (.d (qh9 l)) []:=by
 refine Ct.B Tryz.func107 mixed 9999 400 ?_;simp;refine LoopI.U mixed (l) (fun k=>[(3,.own 64),(8,lst (l.map resC)),(9,int l.length),(10,int k.1)]) (fun k=>[(64,.map true [.int,.str] false (lookN (l.take k.1)))]) 65 [] (by constructor<;>simp[zxb]) ?_;rintro⟨k,hk1⟩ B hB;refine CI.run 9999 400 rfl ?_;simp[zxb];refine sBI (fun h=>?_) (fun h=>?_)
 ·have hk:k<(l).length:=by simpa using h
  obtain⟨x,hx,hr,hm,ht,hd⟩:=inL hk;have hw:=wr (k:=k) (by omega);simp only[h];simp[hr,hw];have hN:=qtw ha hr;have hL:=qim hN;have hU:=qc5 hN;have hr33:=zhb x;refine CI.p (zfr x) Tryz.call46 9999 ?_;simp;refine CI.p (qbc x) Tryz.call91 9999 ?_ (ha:=by simp[hL]);simp[hL];refine⟨by omega,?_⟩;refine⟨by decide+kernel,?_⟩;refine hB _ ⟨k+1,by omega⟩ [] ?_ (by simp;omega);constructor<;>simp[hw,ht,hU]
 ·have hkl:k=(l).length:=by simp at h;omega
  subst hkl;simp only[h];simp[List.take_length,List.drop_length];first|exact fin0 (by simp) rfl|exact zaa (by simp)
theorem qpo (l:List Res)(hl:l.length≤100000):∀(n:Nat) (out:List Key) (k_:Key),zkk l out<n→
  Ct Tryz.prog 108 [st (keyC k_),.ptr 0 0,.ptr 1 0,.ptr 2 0,.ptr 3 0] (visM l)
   [(4,.map true [.int,.str] false (zg0 out))] (.tup []) [(4,.map true [.int,.str] false (zg0 (zbc l n out k_)))]:=by
 intro n;induction n with
 |zero=>intro out k_ h;omega
 |succ n ih=>
  intro out k_ hlt;refine Ct.of_body Tryz.func108 rfl mixed (by rw[Tryz.ntmps108];simp) (CI.run 9999 400 rfl ?_);simp[Tryz.ntmps108,Tryz.results108];cases hg:getR l k_ with
  |none=>
   have hn:k_∉l.map Res.key:=by rw[mem_keys,hg];simp
   have e:zbc l (n+1) out k_=out:=by simp[zbc,hg]
   have e1:=zjj hn;simp[e1];first| (refine⟨[],?_,?_,?_,?_,?_,?_,?_⟩<;>simp[nmF,inB,e];done)| (refine⟨by decide+kernel,?_⟩;refine⟨[],?_,?_,?_,?_,?_,?_,?_⟩<;>simp[nmF,inB,e])
  |some r=>
   have hn:k_∈l.map Res.key:=by rw[mem_keys,hg];simp
   by_cases ho:k_∈out
   ·have e:zbc l (n+1) out k_=out:=by simp[zbc,hg,ho]
    have e1:=zkj hn;have e2:=zkj ho;simp[e1,e2];first| (refine⟨[],?_,?_,?_,?_,?_,?_,?_⟩<;>simp[nmF,inB,e];done)| (refine⟨by decide+kernel,?_⟩;refine⟨[],?_,?_,?_,?_,?_,?_,?_⟩<;>simp[nmF,inB,e])
   ·have e:zbc l (n+1) out k_=(zbs r).foldl (zbc l n) (out++[k_]):=by simp[zbc,hg,ho]
    have hlt2:=qip hn ho;have h33:=zhb r;have e1:=zkj hn;have e2:=zjj ho;have e3:=qbv hg;simp[e1,e2,e3];refine LoopI.U mixed (zbs r) (fun k=>[(1,.ptr 0 0),(2,.ptr 1 0),(3,.ptr 2 0),(4,.ptr 3 0),(21,lst ((zbs r).map keyC)),(22,int (zbs r).length),(23,int k.1)]) (fun k=>visM l++[(4,.map true [.int,.str] false (zg0 (((zbs r).take k.1).foldl (zbc l n) (out++[k_]))))]) 64 [] (by constructor<;>simp) ?_;rintro⟨k,hk1⟩ B hB;refine CI.run 9999 400 rfl ?_;simp;refine sBI (fun h=>?_) (fun h=>?_)
    ·have hk:k<(zbs r).length:=by simpa using h
     obtain⟨x,hx,hr,hm,ht,hd⟩:=inL hk;have hw:=wr (k:=k) (by omega);simp only[h];simp[hr,hw];have h5:zkk l (((zbs r).take k).foldl (zbc l n) (out++[k_]))<n:=by
      have:=zzr (l:=l) (fun y hy=>zjl (zfx l n) ((zbs r).take k) (out++[k_]) y hy);omega
     refine CI.cc [0,1,2,3,4] (ih (((zbs r).take k).foldl (zbc l n) (out++[k_])) x h5) Tryz.call108 9999 ?_ (ha:=by simp[visM]) (hk:=by simp[visM]);simp[visM];refine hB _ ⟨k+1,by omega⟩ [] ?_ (by simp;omega);constructor<;>simp[hw,ht,visM,List.foldl_append]
    ·have hkl:k=(zbs r).length:=by simp at h;omega
     subst hkl;simp only[h];simp[List.take_length,List.drop_length];rw[←e];first| (refine⟨[],?_,?_,?_,?_,?_,?_,?_⟩<;>simp[nmF,inB];done)| (refine⟨by decide+kernel,?_⟩;refine⟨[],?_,?_,?_,?_,?_,?_,?_⟩<;>simp[nmF,inB])
attribute [simp] Tryz.ntmps61 Tryz.results61
theorem qg9 (l:List Res)(ha:AscR l)(hl:l.length≤100000):Ct Tryz.prog 61 [lst (l.map resC)] [] [] (.d (zod (zeu l))) []:=by
 refine Ct.B Tryz.func61 mixed 9999 400 ?_;simp;refine CI.p (qrv l (by omega)) Tryz.call90 9999 ?_;simp;refine CI.p (qmj l ha hl) Tryz.call107 9999 ?_;simp;have rootsR_nil:zk5 []=[]:=rfl;refine LoopI.U mixed (l) (fun k=>[(3,.ptr 64 0),(4,.ptr 66 0),(5,.ptr 65 0),(6,.ptr 67 0),(15,lst (l.map resC)),(16,int l.length),(17,int k.1)]) (fun k=>[(64,.cells [.d (zod (l.map Res.key))] 153),(65,.cells [.own 68] 153),(66,.cells [.d (qh9 l)] 189),(67,.cells [.fn (.func 108) [] [.ptr 64 0,.ptr 65 0,.ptr 66 0,.ptr 67 0]] 191),(68,.map true [.int,.str] false (zg0 ((zk5 (l.take k.1)).foldl (zbc l (l.length+1)) [])))]) 69 [] (by constructor<;>simp[zhh,rootsR_nil]) ?_;rintro⟨k,hk1⟩ B hB;refine CI.run 9999 400 rfl ?_;simp[zhh,rootsR_nil];refine sBI (fun h=>?_) (fun h=>?_)
 ·have hk:k<(l).length:=by simpa using h
  obtain⟨x,hx,hr,hm,ht,hd⟩:=inL hk;have hw:=wr (k:=k) (by omega);simp only[h];simp[hr,hw];refine sBI (fun h0=>?_) (fun h0=>?_)<;>simp only[h0]<;>simp<;>(try simp only[nT,nF,dT,dF]at h0)
  ·have h5:=qbx l ((zk5 (l.take k)).foldl (zbc l (l.length+1)) []);refine CI.p (zfr x) Tryz.call46 9999 ?_;simp;refine CI.cc [64,65,66,67,68] (qpo l hl (l.length+1) ((zk5 (l.take k)).foldl (zbc l (l.length+1)) []) x.key (by omega)) Tryz.call108 9999 ?_;simp;refine⟨by decide+kernel,?_⟩;refine hB _ ⟨k+1,by omega⟩ [] ?_ (by simp;omega);constructor<;>simp[hw,ht,zpw,h0,List.foldl_append]
  ·refine hB _ ⟨k+1,by omega⟩ [] ?_ (by simp;omega);constructor<;>simp[hw,ht,zpw,h0]
 ·have hkl:k=(l).length:=by simp at h;omega
  subst hkl;simp only[h];simp[List.take_length,List.drop_length];first|exact fin0 (by simp[zeu]) rfl|exact zaa (by simp[zeu])
attribute [simp] Tryz.ntmps64 Tryz.results64
theorem qu6 (S:List Key)(r:Res):Ct Tryz.prog 64 [st (resC r),.d (.pro [zod S])] [] [] (bool (!decide (r.key∈S))) []:=by
 refine Ct.B Tryz.func64 mixed 9999 400 ?_;simp;by_cases h:r.key∈S
 ·have e1:=zkj h;refine CI.p (zfr r) Tryz.call46 9999 ?_ (ha:=by simp[e1]);simp[e1];refine⟨by decide+kernel,?_⟩;first|exact fin0 (by simp[h]) rfl|exact zaa (by simp[h])
 ·have e1:=zjj h;refine CI.p (zfr r) Tryz.call46 9999 ?_ (ha:=by simp[e1]);simp[e1];refine⟨by decide+kernel,?_⟩;first|exact fin0 (by simp[h]) rfl|exact zaa (by simp[h])
attribute [simp] Tryz.ntmps138 Tryz.results138
theorem qqz (l:List Res)(k_:Key):Ct Tryz.prog 138 [st (keyC k_),.d (.pro [zod (l.map Res.key)])] [] [] (bool (noR l k_)) []:=by
 refine Ct.B Tryz.func138 mixed 9999 400 ?_;simp;by_cases h:k_∈l.map Res.key
 ·have e1:=zkj h;have e2:noR l k_=false:=by simp[noR,mem_keys.1 h]
  simp[e1];first|exact fin0 (by simp[e2]) rfl|exact zaa (by simp[e2])
 ·have e1:=zjj h;have e2:noR l k_=true:=by
   cases h':(getR l k_).isSome
   ·simp[noR,h']
   ·exact absurd (mem_keys.2 h') h
  simp[e1];first|exact fin0 (by simp[e2]) rfl|exact zaa (by simp[e2])
attribute [simp] Tryz.ntmps140 Tryz.results140
theorem qqy (r:Res):Ct Tryz.prog 140 [st (resC r)] [] [] (bool (zf8 r)) []:=by
 refine Ct.B Tryz.func140 mixed 9999 400 ?_;simp;refine sGI (fun h1=>?_) (fun h1=>?_)<;>simp only[h1]<;>simp<;>(try simp only[nT,nF,dT,dF]at h1)
 ·first|exact fin0 (by simp[zf8,h1]) rfl|exact zaa (by simp[zf8,h1])
 ·first|exact fin0 (by simp[zf8,h1]) rfl|exact zaa (by simp[zf8,h1])
attribute [simp] Tryz.ntmps27 Tryz.results27
theorem ztn (l:List Res)(ha:AscR l)(hl:l.length≤100000):Ct Tryz.prog 27 [lst (l.map resC)] [] [] (lst ((zau l).map resC)) []:=by
 refine Ct.B Tryz.func27 mixed 2 400 ?_;simp;refine CI.p (qg9 l ha hl) Tryz.call61 2 ?_;simp;refine CI.s (tm:=[(0,lst (l.map resC)),(3,.d (.pro [zod (zeu l)]))]) (mm:=[]) (nx:=65) [] [256] (by constructor<;>simp) ?_;refine CI.run 9999 400 rfl ?_;simp;obtain⟨S,hS⟩:∃S,zeu l=S:=⟨_,rfl⟩;have e:zau l=l.filter fun r=>!(!decide (r.key∈S)):=by simp[zau,hS]
 rw[hS,e];clear e hS;cases l with
 |nil=>
  refine CI.p qcj Tryz.call63 9999 ?_;simp;refine CI.p (delE (.fn (.func 64) [] [.pro [zod S]])) Tryz.call62 9999 ?_;simp;first|exact fin0 (by simp) rfl|exact zaa (by simp)
 |cons x l=>
  refine CI.cc [] (zuq x l (by simp at hl;omega)) Tryz.call63 9999 ?_;simp;refine CI.cc [129] (delC (x::l) (.fn (.func 64) [] [.pro [zod S]]) (fun r=>!decide (r.key∈S)) (fun r hr=>FnOk.clo (by exact qu6 S r) Tryz.call64 rfl rfl) (by omega)) Tryz.call62 9999 ?_;simp;first|exact fin0 (by simp) rfl|exact zaa (by simp)
attribute [simp] Tryz.ntmps89 Tryz.results89
theorem zol (l:List Res)(ha:AscR l)(hl:l.length≤100000):Ct Tryz.prog 89 [lst (l.map resC)] [] [] (int (zbj l)) []:=by
 refine Ct.B Tryz.func89 mixed 2 400 ?_;simp;refine CI.p (qrv l (by omega)) Tryz.call90 2 ?_;simp;refine CI.s (tm:=[(0,lst (l.map resC)),(3,.d (.pro [zod (l.map Res.key)]))]) (mm:=[]) (nx:=65) [] [256] (by constructor<;>simp) ?_;refine CI.run 9999 400 rfl ?_;simp;refine CI.p (ztn l ha hl) Tryz.call27 9999 ?_;simp;have hlr:(zau l).length≤l.length:=List.length_filter_le _ _;refine LoopI.inv mixed rfl (ι:={k:Nat//k≤((zau l)).length∧((zau l).take k).all (fun r=>!((zbs r).any (noR l)))=true}) (fun k=>[(3,.d (.pro [zod (l.map Res.key)])),(4,lst ((zau l).map resC)),(11,lst ((zau l).map resC)),(12,int (zau l).length),(13,int k.1)]) (fun k=>[]) 65 (fun k=>((zau l)).length-k.1) ⟨0,by omega,by simp⟩ [] (by constructor<;>simp) ?_;rintro⟨k,hk1,hi⟩ B hB;refine CI.run 9999 400 rfl ?_;simp;refine sBI (fun h=>?_) (fun h=>?_)
 ·have hk:k<((zau l)).length:=by simpa using h
  obtain⟨x,hx,hr,hm,ht,hd⟩:=inL hk;have hw:=wr (k:=k) (by omega);simp only[h];simp[hr,hw];have h33:=zhb x;refine CI.p (qbc x) Tryz.call91 9999 ?_;simp;refine CI.p (zuy (zbs x) (.fn (.func 138) [] [.pro [zod (l.map Res.key)]]) (noR l) (fun q _=>FnOk.clo (by exact qqz l q) Tryz.call138 rfl rfl) (by omega)) Tryz.call137 9999 ?_;simp;refine sBI (fun h1=>?_) (fun h1=>?_)<;>simp only[h1]<;>simp<;>(try simp only[nT,nF,dT,dF]at h1)
  ·have e0:((zau l).any fun r=>(zbs r).any (noR l))=true:=List.any_eq_true.2 ⟨x,hm,h1⟩;have e:zbj l=6:=by unfold zbj;rw[if_pos e0]
   first|exact fin0 (by simp[e]) rfl|exact zaa (by simp[e])
  ·refine hB _ ⟨k+1,by omega,by simp[ht,hi,h1]⟩ [] ?_ (by simp;omega);constructor<;>simp[hw,ht,h1]
 ·have hkl:k=((zau l)).length:=by simp at h;omega
  subst hkl;simp only[h];simp[List.take_length,List.drop_length];rw[List.take_length]at hi;have e0:((zau l).any fun r=>(zbs r).any (noR l))=false:=by
   rw[List.any_eq_false];intro y hy;have:=List.all_eq_true.1 hi y hy;rw[Bool.not_eq_true']at this;rw[this];exact Bool.false_ne_true
  refine CI.p (qkf (zau l) (fnD 140) zf8 (fun x _=>FnOk.of (qqy x) Tryz.call140 rfl rfl) (by omega)) Tryz.call139 9999 ?_;simp;refine sBI (fun h1=>?_) (fun h1=>?_)<;>simp only[h1]<;>simp<;>(try simp only[nT,nF,dT,dF]at h1)
  ·have e:zbj l=7:=by unfold zbj;rw[if_neg (by rw[e0];exact Bool.false_ne_true),if_pos h1]
   first|exact fin0 (by simp[e]) rfl|exact zaa (by simp[e])
  ·have e:zbj l=0:=by unfold zbj;rw[if_neg (by rw[e0];exact Bool.false_ne_true),if_neg (by rw[h1];exact Bool.false_ne_true)]
   first|exact fin0 (by simp[e]) rfl|exact zaa (by simp[e])
end Go.Proofs.YtjoaclgkjhncjaaGreatDoor
namespace Go.G
open Go.AI
def qfv (now:List Res)(x:Res)(v:Int):Int:=match getR now x.key with
 |some o=>if za9 o x then o.ver else v
 |none=>v
def zdl (now l:List Res)(v:Int)(k:Nat):List Res:=zch now (l.take k) v++l.drop k
section
variable {now l : List Res} {v : Int} {k : Nat} {x : Res}
theorem znb :zdl now l v 0=l:=by simp[zdl,zch]
theorem zpf :zdl now l v l.length=zch now l v:=by simp[zdl]
theorem zq0 :(zdl now l v k).length=l.length:=by simp[zdl,zch];omega
theorem zyz (hr:l[k]? =some x):(zdl now l v k)[k]? =some x:=by
 have hk:=(List.getElem?_eq_some_iff.1 hr).1;have e:(zch now (l.take k) v).length=k:=by simp[zch];omega
 rw[zdl,List.getElem?_append_right (by omega),e,List.getElem?_drop];simpa using hr
theorem zyy (hr:l[k]? =some x):(List.map resC (zdl now l v k)).set k (resC {x with ver:=qfv now x v})=List.map resC (zdl now l v (k+1)):=by
 have hk:=(List.getElem?_eq_some_iff.1 hr).1;have e:(zch now (l.take k) v).length=k:=by simp[zch];omega
 rw[←List.map_set,zdl,zdl,List.set_append_right _ _ (by omega),e,Nat.sub_self,List.drop_eq_getElem_cons hk,List.set_cons_zero,List.take_add_one,hr];have e2:l[k]=x:=(List.getElem?_eq_some_iff.1 hr).2;simp[zch,qfv];cases getR now x.key<;>rfl
end
end Go.G
namespace Go.Proofs.YtjoaclgkjhncjaaGreatDoor
open Go.AI Go.G
set_option maxRecDepth 20000
attribute [simp] Tryz.ntmps208 Tryz.results208
theorem qm3 (kf:D):Ct Tryz.prog 208 [lst [],.d kf] [] [] (int (-1)) []:=by
 refine Ct.B Tryz.func208 mixed 9999 400 ?_;simp;refine LoopI.unroll mixed (Plain.retC _ _ _ _ _) rfl ?_;refine CI.run 9999 400 rfl ?_;simp;first|exact fin0 (by simp) rfl|exact zaa (by simp)
attribute [simp] Tryz.ntmps164 Tryz.results164
theorem zup (kf:D):Ct Tryz.prog 164 [lst [],.d kf] [] [] (lst []) []:=by
 refine Ct.B Tryz.func164 mixed 9999 400 ?_;simp;refine CI.p (qm3 kf) Tryz.call208 9999 ?_;simp;first|exact fin0 (by simp) rfl|exact zaa (by simp)
theorem zug (l:List Key)(kf:D)(p:Key→Bool)(hf:∀x∈l,FnOk Tryz.prog (.d kf) [st (keyC x)] (bool (p x)))(hl:l.length≤9223372036854775807):Ct Tryz.prog 208 [.own 0,.d kf] [(0,.grow 2 (l.map keyC) 26)] [] (int (idxF p l)) []:=by
 refine Ct.B Tryz.func208 mixed 9999 400 ?_;simp;refine LoopI.inv mixed rfl (ι:={k:Nat//k≤(l).length∧(l.take k).all (fun x=>!p x)=true}) (fun k=>[(0,.own 0),(1,.d kf),(7,int l.length),(8,int k.1)]) (fun k=>[(0,.grow 2 (l.map keyC) 26)]) 64 (fun k=>(l).length-k.1) ⟨0,by omega,by simp⟩ [] (by constructor<;>simp) ?_;rintro⟨k,hk1,hi⟩ B hB;refine CI.run 9999 400 rfl ?_;simp;refine sBI (fun h=>?_) (fun h=>?_)
 ·have hk:k<(l).length:=by simpa using h
  obtain⟨r,hx,hr,hm,ht,hd⟩:=inL hk;have hw:=wr (k:=k) (by omega);simp only[h];simp[hr,hw,hk];refine CI.ff (hf r hm) rfl rfl rfl 9999 ?_ (ha:=by simp[hx]);simp[hx];refine sBI (fun hp=>?_) (fun hp=>?_)<;>simp only[hp]<;>simp
  ·have e:=zc2 hi hr hp;first| (refine⟨[],?_,?_,?_,?_,?_,?_,?_⟩<;>simp[nmF,inB,e];done)| (refine⟨by decide+kernel,?_⟩;refine⟨[],?_,?_,?_,?_,?_,?_,?_⟩<;>simp[nmF,inB,e])
  ·refine hB _ ⟨k+1,by omega,by simp[ht,hi,hp]⟩ [] ?_ (by simp;omega);constructor<;>simp[hw,ht,hp]
 ·have hkl:k=(l).length:=by simp at h;omega
  subst hkl;simp only[h];simp[List.take_length,List.drop_length];rw[List.take_length]at hi;have e:idxF p l= -1:=zbi (fun x hx=>by have:=List.all_eq_true.1 hi x hx;simpa using this);first| (refine⟨[],?_,?_,?_,?_,?_,?_,?_⟩<;>simp[nmF,inB,e];done)| (refine⟨by decide+kernel,?_⟩;refine⟨[],?_,?_,?_,?_,?_,?_,?_⟩<;>simp[nmF,inB,e])
theorem zoz (l:List Key)(kf:D)(p:Key→Bool)(hf:∀x∈l,FnOk Tryz.prog (.d kf) [st (keyC x)] (bool (p x)))(hl:l.length≤1000000):Ct Tryz.prog 164 [.own 0,.d kf] [] [(0,.grow 2 (l.map keyC) 26)] (lst ((l.filter fun x=>!p x).map keyC)) []:=by
 refine Ct.B Tryz.func164 mixed 9999 400 ?_;simp;refine CI.cc [0] (zug l kf p hf (by omega)) Tryz.call208 9999 ?_;simp;rcases zjm p l with⟨h1,h2⟩|⟨i,x,h1,h2,h3,h4⟩
 ·have e:(l.filter fun x=>!p x)=l:=by
   rw[List.filter_eq_self];intro a ha;have:=List.find?_eq_none.1 h2 a ha;simpa using this
  simp[h1];first| (refine⟨[],?_,?_,?_,?_,?_,?_,?_⟩<;>simp[nmF,inB,e];done)| (refine⟨by decide+kernel,?_⟩;refine⟨[],?_,?_,?_,?_,?_,?_,?_⟩<;>simp[nmF,inB,e])
 ·have hne:¬(i:Int)= -1:=by omega
  have hwi:IntKind.wrap .i64 ((i:Int)+1)=i+1:=zab (by omega) (by omega);simp[h1,hne,hwi];have d0:=DelSt.start (x:=x) h1 h2;refine LoopI.inv mixed rfl (ι:={q:Nat×Nat×List Key//DelSt p l q.1 q.2.1 q.2.2}) (fun k=>[(0,.own 0),(1,.d kf),(5,int k.1.2.1),(6,int k.1.1)]) (fun k=>[(0,.grow 2 (k.1.2.2.map keyC) 26)]) 64 (fun k=>l.length-k.1.1) ⟨(i+1,i,l),d0⟩ [] (by constructor<;>simp) ?_;rintro⟨⟨j,i,cur⟩,hd⟩ B hB;clear h1 h2 h3 h4 hne hwi d0;have hlen:=hd.len;have hlt:=hd.lt;have hle:=hd.le;simp only at hlen hlt hle;have w1:IntKind.wrap .i64 ((j:Int)+1)=j+1:=zab (by omega) (by omega);have w2:IntKind.wrap .i64 ((i:Int)+1)=i+1:=zab (by omega) (by omega);refine CI.run 9999 400 rfl ?_;simp[hlen];refine sBI (fun h=>?_) (fun h=>?_)<;>simp only[h]<;>simp<;>(try simp only[nT,nF,dT,dF]at h)
  ·have hj:j<l.length:=by omega
   have hv:l[j]? =some l[j]:=List.getElem?_eq_getElem hj;have hm:l[j]∈l:=List.getElem_mem hj;generalize l[j]=v at hv hm;have hg:=hd.get hv;have hjc:j<cur.length:=by omega
   have hgx:cur[j]=v:=by rw[List.getElem?_eq_getElem hjc]at hg;exact Option.some.inj hg
   simp[hjc,hgx];refine CI.ff (hf v hm) rfl rfl rfl 9999 ?_;simp;have hic:i<cur.length:=by omega
   refine sBI (fun h2=>?_) (fun h2=>?_)<;>simp only[h2]<;>simp[hic]
   ·have hp:p v=false:=by simpa using h2
    refine hB _ ⟨(j+1,i+1,cur.set i v),hd.keep hv hp⟩ [] ?_ (by simp;omega);constructor<;>simp[w1,w2,List.map_set]
   ·have hp:p v=true:=by simpa using h2
    refine hB _ ⟨(j+1,i,cur),hd.del hv hp⟩ [] ?_ (by simp;omega);constructor<;>simp[w1]
  ·have hj:j=l.length:=by omega
   subst hj;have e:cur.take i=l.filter (fun x=>!p x):=hd.done;simp[hlen];have e2:List.take i (List.map keyC cur)=List.map keyC (List.filter (fun x=>!p x) l):=by rw[←List.map_take,e]
   have e3:(List.filter (fun x=>!p x) l).length=i:=by rw[←e,List.length_take];omega
   refine⟨by omega,by omega,by omega,?_⟩;rw[e2];first| (refine⟨[],?_,?_,?_,?_,?_,?_,?_⟩<;>simp[nmF,inB,e3,List.take_append,show i≤i+(l.length-i+(l.length-(i+(l.length-i))))from by omega];done)| (refine⟨by decide+kernel,?_⟩;refine⟨[],?_,?_,?_,?_,?_,?_,?_⟩<;>simp[nmF,inB,e3,List.take_append,show i≤i+(l.length-i+(l.length-(i+(l.length-i))))from by omega])
attribute [simp] Tryz.ntmps49 Tryz.results49
theorem qb2 (l:List Res)(hl:l.length≤1000000):Ct Tryz.prog 49 [lst (l.map resC)] [] [] (.own 64) [(64,.grow 2 ((l.map Res.key).map keyC) 26)]:=by
 refine Ct.B Tryz.func49 mixed 9999 400 ?_;simp;refine LoopI.nilOwn 3 2 26 rfl ?_;refine LoopI.U mixed (l) (fun k=>[(3,.own 64),(6,lst (l.map resC)),(7,int l.length),(8,int k.1)]) (fun k=>[(64,.grow 2 (((l.take k.1).map Res.key).map keyC) 26)]) 65 [] (by constructor<;>simp) ?_;rintro⟨k,hk1⟩ B hB;refine CI.run 9999 400 rfl ?_;simp;refine sBI (fun h=>?_) (fun h=>?_)
 ·have hk:k<(l).length:=by simpa using h
  obtain⟨x,hx,hr,hm,ht,hd⟩:=inL hk;have hw:=wr (k:=k) (by omega);simp only[h];simp[hr,hw];refine CI.p (zfr x) Tryz.call46 9999 ?_;simp;refine⟨by omega,?_⟩;refine hB _ ⟨k+1,by omega⟩ [] ?_ (by simp;omega);constructor<;>simp[hw,ht]
 ·have hkl:k=(l).length:=by simp at h;omega
  subst hkl;simp only[h];simp[List.take_length,List.drop_length];first| (refine⟨[(64,64)],?_,?_,?_,?_,?_,?_,?_⟩<;>simp[nmF,inB];done)| (refine⟨by decide+kernel,?_⟩;refine⟨[(64,64)],?_,?_,?_,?_,?_,?_,?_⟩<;>simp[nmF,inB])
attribute [simp] Tryz.ntmps25 Tryz.results25
theorem zg4 (a b:List Res)(ha:OkRs a):Ct Tryz.prog 25 [lst (a.map resC),lst (b.map resC)] [] [] (bool (decide (a=b))) []:=by
 refine Ct.B Tryz.func25 mixed 9999 400 ?_;simp;refine CI.p (qjn a b (fnD 47) (fun x hx y=>FnOk.of (qa5 x y (ha.all x hx)) Tryz.call47 rfl rfl) ha.len) Tryz.call59 9999 ?_;simp;first|exact fin0 (by simp) rfl|exact zaa (by simp)
theorem qtc (l:List Res)(h:¬l=[])(hl:l.length≤1000000):Ct Tryz.prog 63 [lst (l.map resC)] [] [] (.own 64) [(64,.grow 7 (l.map resC) 67)]:=by
 cases l with
 |nil=>exact absurd rfl h
 |cons x l=>exact zuq x l (by simp at hl;omega)
attribute [simp] Tryz.ntmps221 Tryz.results221
theorem qqj (now l:List Res)(v:Int)(hn:OkRs now)(hl:l.length≤1000000)(hne:¬l=[]):Ct Tryz.prog 221 [lst (now.map resC),lst (l.map resC),int v] [] [] (lst ((zch now l v).map resC)) []:=by
 refine Ct.B Tryz.func221 mixed 9999 400 ?_;simp;refine CI.cc [] (qtc l hne hl) Tryz.call63 9999 ?_;simp;refine LoopI.U mixed (l) (fun k=>[(0,lst (now.map resC)),(2,int v),(7,.own 64),(14,lst (l.map resC)),(15,int l.length),(16,int k.1)]) (fun k=>[(64,.grow 7 ((zdl now l v k.1).map resC) 67)]) 65 [] (by constructor<;>simp[znb]) ?_;rintro⟨k,hk1⟩ B hB;refine CI.run 9999 400 rfl ?_;simp[znb];refine sBI (fun h=>?_) (fun h=>?_)
 ·have hk:k<(l).length:=by simpa using h
  obtain⟨x,hx,hr,hm,ht,hd⟩:=inL hk;have hw:=wr (k:=k) (by omega);simp only[h];simp[hr,hw];have s1:(zdl now l v k).length=l.length:=zq0;have s2:(zdl now l v k)[k]? =some x:=zyz hr;have s3:=zyy (now:=now) (v:=v) hr;simp only[resC,qfv]at s3;have s4:∀h,(zdl now l v k)[k]'h=x:=fun h=>Option.some.inj ((List.getElem?_eq_getElem h).symm.trans s2);simp[s1,hk,s4];refine CI.p (zfr x) Tryz.call46 9999 ?_;simp;refine CI.p (qee now x.key hn.len) Tryz.call15 9999 ?_;simp;cases hg:getR now x.key with
  |none=>
   simp only[hg]at s3;simp;refine hB _ ⟨k+1,by omega⟩ [] ?_ (by simp;omega);constructor<;>simp[hw,ht,s3]
  |some o=>
   simp only[hg]at s3;simp;have ho:OkRes o:=hn.all o (zce hg);refine CI.p (qkg o x ho) Tryz.call93 9999 ?_;simp;refine sBI (fun h3=>?_) (fun h3=>?_)<;>simp only[h3]<;>simp<;>(try simp only[nT,nF,dT,dF]at h3)
   ·rw[if_pos h3]at s3;simp[s1,hk,s4];refine hB _ ⟨k+1,by omega⟩ [] ?_ (by simp;omega);constructor<;>simp[hw,ht,s3]
   ·rw[if_neg (by rw[h3];exact Bool.false_ne_true)]at s3;refine hB _ ⟨k+1,by omega⟩ [] ?_ (by simp;omega);constructor<;>simp[hw,ht,s3]
 ·have hkl:k=(l).length:=by simp at h;omega
  subst hkl;simp only[h];simp[List.take_length,List.drop_length];first|exact fin0 (by simp[zpf]) rfl|exact zaa (by simp[zpf])
theorem qus (now:List Res)(v:Int):Ct Tryz.prog 221 [lst (now.map resC),lst [],int v] [] [] (lst []) []:=by
 refine Ct.B Tryz.func221 mixed 9999 400 ?_;simp;refine CI.p qcj Tryz.call63 9999 ?_;simp;refine LoopI.unroll mixed (Plain.retC _ _ _ _ _) rfl ?_;refine CI.run 9999 400 rfl ?_;simp;first|exact fin0 (by simp) rfl|exact zaa (by simp)
end Go.Proofs.YtjoaclgkjhncjaaGreatDoor
namespace Go.G
open Go.AI
theorem tab_len {l:List Res}(h:tabE l=0):l.length≤64:=by
 unfold tabE at h;split at h
 ·cases h
 ·omega
end Go.G
namespace Go.Proofs.YtjoaclgkjhncjaaGreatDoor
open Go.AI Go.G
set_option maxRecDepth 20000
attribute [simp] Tryz.ntmps54 Tryz.results54
theorem qit (s:Store)(hs:¬s.hist=[])(hl:s.hist.length≤1000000):Ct Tryz.prog 54 [st (zbg s)] [] [] (lst ((zbf s).map resC)) []:=by
 refine Ct.B Tryz.func54 mixed 9999 400 ?_;simp;have h0:0<s.hist.length:=List.length_pos_iff.2 hs;have hw:IntKind.wrap .i64 ((s.hist.length:Int)-1)=((s.hist.length-1:Nat):Int):=by rw[zab (by omega) (by omega)];omega
 have e:s.hist[s.hist.length-1]? =some (zbf s):=by
  rw[zbf,List.getLastD_eq_getLast?,List.getLast?_eq_getElem?];rw[List.getElem?_eq_getElem (by omega)];rfl
 simp[hw,e];first|exact fin0 (by simp) rfl|exact zaa (by simp)
abbrev errA (e:Int):AV:=if e=0 then .d (.v .nilIface)else .ifc 309 (.ptr 64 0)
abbrev errM (e:Int)(n:Nat):List (Nat×Blk):=if e=0 then []else [(64,.cells [int e,int n] 313)]
attribute [simp] Tryz.ntmps223 Tryz.results223
theorem qtd (s:Store)(l:List Res)(hs:¬s.hist=[])(hl:s.hist.length≤1000000)(hok:OkRs (zbf s)):Ct Tryz.prog 223 [st (zbg s),lst (l.map resC)] [] [] (errA (zcx s.cap s.hist.length (zbf s) l)) (errM (zcx s.cap s.hist.length (zbf s) l) s.hist.length):=by
 refine Ct.B Tryz.func223 mixed 9999 400 ?_;simp;refine CI.p (zmh l) Tryz.call88 9999 ?_;simp;by_cases h1:tabE l=0
 ·simp[h1];have h64:=tab_len h1;have ha:=zcc h1;refine sBI (fun h2=>?_) (fun h2=>?_)<;>simp only[h2]<;>simp<;>(try simp only[nT,nF,dT,dF]at h2)
  ·have e:zcx s.cap s.hist.length (zbf s) l=8:=by simp[zcx,h1,h2]
   rw[e];first| (refine⟨[(64,1280)],?_,?_,?_,?_,?_,?_,?_⟩<;>simp[nmF,inB,errA,errM];done)| (refine⟨by decide+kernel,?_⟩;refine⟨[(64,1280)],?_,?_,?_,?_,?_,?_,?_⟩<;>simp[nmF,inB,errA,errM])
  ·have hm:=zlj l l;refine CI.p (zwz l (by omega)) Tryz.call44 9999 ?_;simp;refine sBI (fun h3=>?_) (fun h3=>?_)<;>simp only[h3]<;>simp<;>(try simp only[nT,nF,dT,dF]at h3)
   ·have h3':¬(zra l).length=0:=by omega
    have e:zcx s.cap s.hist.length (zbf s) l=6:=by simp only[zcx,if_pos h1,if_neg h2,if_pos h3']
    rw[e];first| (refine⟨[(64,1600)],?_,?_,?_,?_,?_,?_,?_⟩<;>simp[nmF,inB,errA,errM];done)| (refine⟨by decide+kernel,?_⟩;refine⟨[(64,1600)],?_,?_,?_,?_,?_,?_,?_⟩<;>simp[nmF,inB,errA,errM])
   ·have h3':¬¬(zra l).length=0:=by omega
    refine CI.p (zol l ha (by omega)) Tryz.call89 9999 ?_;simp;by_cases h4:zbj l=0
    ·have h4':¬¬zbj l=0:=fun h=>h h4;simp[h4];refine CI.p (qit s hs hl) Tryz.call54 9999 ?_;simp;refine CI.p (zg4 (zbf s) l hok) Tryz.call25 9999 ?_;simp;by_cases h5:zbf s=l
     ·have e:zcx s.cap s.hist.length (zbf s) l=9:=by simp only[zcx,if_pos h1,if_neg h2,if_neg h3',if_neg h4',if_pos h5]
      rw[e];simp[h5];first| (refine⟨[(64,2176)],?_,?_,?_,?_,?_,?_,?_⟩<;>simp[nmF,inB,errA,errM];done)| (refine⟨by decide+kernel,?_⟩;refine⟨[(64,2176)],?_,?_,?_,?_,?_,?_,?_⟩<;>simp[nmF,inB,errA,errM])
     ·simp[h5];refine sBI (fun h6=>?_) (fun h6=>?_)<;>simp only[h6]<;>simp<;>(try simp only[nT,nF,dT,dF]at h6)
      ·have e:zcx s.cap s.hist.length (zbf s) l=8:=by simp only[zcx,if_pos h1,if_neg h2,if_neg h3',if_neg h4',if_neg h5,if_pos (show 100000≤s.hist.length by omega)]
       rw[e];first| (refine⟨[(64,2368)],?_,?_,?_,?_,?_,?_,?_⟩<;>simp[nmF,inB,errA,errM];done)| (refine⟨by decide+kernel,?_⟩;refine⟨[(64,2368)],?_,?_,?_,?_,?_,?_,?_⟩<;>simp[nmF,inB,errA,errM])
      ·have e:zcx s.cap s.hist.length (zbf s) l=0:=by simp only[zcx,if_pos h1,if_neg h2,if_neg h3',if_neg h4',if_neg h5,if_neg (show¬100000≤s.hist.length by omega)]
       rw[e];first| (refine⟨[],?_,?_,?_,?_,?_,?_,?_⟩<;>simp[nmF,inB,errA,errM];done)| (refine⟨by decide+kernel,?_⟩;refine⟨[],?_,?_,?_,?_,?_,?_,?_⟩<;>simp[nmF,inB,errA,errM])
    ·have e:zcx s.cap s.hist.length (zbf s) l=7:=by simp only[zcx,if_pos h1,if_neg h2,if_neg h3',if_pos h4]
     rw[e];simp[h4];first| (refine⟨[(64,1856)],?_,?_,?_,?_,?_,?_,?_⟩<;>simp[nmF,inB,errA,errM];done)| (refine⟨by decide+kernel,?_⟩;refine⟨[(64,1856)],?_,?_,?_,?_,?_,?_,?_⟩<;>simp[nmF,inB,errA,errM])
 ·have e:zcx s.cap s.hist.length (zbf s) l=tabE l:=by simp[zcx,h1]
  simp[h1];rw[e];simp only[errA,errM,if_neg h1];first| (refine⟨[(64,960)],?_,?_,?_,?_,?_,?_,?_⟩<;>simp[nmF,inB];done)| (refine⟨by decide+kernel,?_⟩;refine⟨[(64,960)],?_,?_,?_,?_,?_,?_,?_⟩<;>simp[nmF,inB])
theorem qqk (now l:List Res)(v:Int)(hn:OkRs now)(hl:l.length≤1000000):Ct Tryz.prog 221 [lst (now.map resC),lst (l.map resC),int v] [] [] (lst ((zch now l v).map resC)) []:=by
 by_cases h:l=[]
 ·subst h;exact qus now v
 ·exact qqj now l v hn hl h
attribute [simp] Tryz.ntmps173 Tryz.results173
theorem qhf (s:Store)(adds:List Res)(gone:List Key)(hs:¬s.hist=[])(hl:s.hist.length≤1000000)(hok:OkRs (zbf s))(hn:(zbf s).length+adds.length≤1000000)(hg:gone.length≤9223372036854775807):Ct Tryz.prog 173 [st (zbg s),lst (adds.map resC),lst (gone.map keyC)] [] [] (.tup [st (zbg (zgz s adds gone)),errA (zif s adds gone)]) (errM (zif s adds gone) s.hist.length):=by
 refine Ct.B Tryz.func173 mixed 9999 400 ?_;simp;refine CI.p (qit s hs hl) Tryz.call54 9999 ?_;simp;refine CI.p (zts (zbf s) adds gone hn hg) Tryz.call222 9999 ?_;simp;have hpl:(zak (zbf s) adds gone).length≤1000000:=Nat.le_trans (zwi _ _ _) hn;refine CI.p (qqk (zbf s) (zak (zbf s) adds gone) s.hist.length hok hpl) Tryz.call221 9999 ?_;simp;refine⟨by decide+kernel,?_⟩;have hc:=qtd s (ziv s adds gone) hs hl hok;change Ct _ _ _ _ _ (errA (zif s adds gone)) (errM (zif s adds gone) s.hist.length)at hc;by_cases he:zif s adds gone=0
 ·have e:zgz s adds gone=⟨s.cap,s.hist++[ziv s adds gone]⟩:=if_pos he;rw[e];simp only[errA,errM,if_pos he]at hc⊢;refine CI.p hc Tryz.call223 9999 ?_ (ha:=by simp[ziv]);simp[ziv];refine⟨by omega,?_⟩;refine⟨by decide+kernel,?_⟩;first|exact fin0 (by simp[ziv]) rfl|exact zaa (by simp[ziv])
 ·have e:zgz s adds gone=s:=if_neg he;rw[e];simp only[errA,errM,if_neg he]at hc⊢;refine CI.cc [] hc Tryz.call223 9999 ?_ (ha:=by simp[ziv]) (hk:=by simp[ziv]);simp[ziv];first| (refine⟨[(64,1216)],?_,?_,?_,?_,?_,?_,?_⟩<;>simp[nmF,inB];done)| (refine⟨by decide+kernel,?_⟩;refine⟨[(64,1216)],?_,?_,?_,?_,?_,?_,?_⟩<;>simp[nmF,inB])
end Go.Proofs.YtjoaclgkjhncjaaGreatDoor
section
namespace Go.AI
noncomputable def rfA :Code→Option Code
 |.seq a b=>match rfA a with
  |some c=>some c
  |none=>rfA b
 |.block _ a=>rfA a
 |.rangeFunc _ _ c _=>some c
 |_=>none
noncomputable def rfC :Code→Option Code
 |.seq a b=>match rfC a with
  |some c=>some c
  |none=>rfC b
 |.block _ a=>rfC a
 |.rangeFunc _ _ _ c=>some c
 |_=>none
end Go.AI
open Go.RowKit Go.Shelf
namespace Go.Proofs.YtjoaclgkjhncjaaGreatDoor
open Go.AI Go.G
set_option maxRecDepth 20000
noncomputable abbrev idxM (S:List Res):List (Nat×Blk):=[(0,.cells [.own 1] 252),(1,.map true [.int,.str] true (zjv S))]
noncomputable abbrev idxB (x:Res)(S:List Res):List (Nat×Blk):=[(0,.cells [.own 1] 252),(1,.map true [.int,.str] true (zjv S)),(64,.cells ((resC x).map .d) 67)]
theorem qec (x:Res)(S:List Res)(L dp:Nat){c:Code}(hc:(Tryz.f161.body.bind rfA)=some c):
  CI (some L) dp (fun _ _ _=>True) Tryz.prog 16 (fun e y=>e=.normal∧AI.Sub y [(3,.ptr 0 0),(5,.ptr 64 0)] (idxB x S) 65 []) [.code c] ⟨[(3,.ptr 0 0),(10,st (resC x))],(idxM S).map (fun p=>(p.1,some p.2)),64⟩:=by
 simp only[Tryz.f161,Option.bind_some,rfA,Option.some.injEq]at hc;subst hc;refine CI.run 9999 400 rfl ?_;simp;constructor<;>simp
theorem qm1 (x:Res)(S:List Res)(L dp:Nat){c:Code}(hc:(Tryz.f161.body.bind rfC)=some c):
  CI (some L) dp (fun _ _ _=>True) Tryz.prog 16 (retR (idxM S) (idxM (x::S))) [.code c] ⟨[(3,.ptr 0 0),(5,.ptr 64 0)],(idxB x S).map (fun p=>(p.1,some p.2)),65⟩:=by
 simp only[Tryz.f161,Option.bind_some,rfC,Option.some.injEq]at hc;subst hc;have hU:=qc4 S x;refine CI.run 9999 400 rfl ?_;simp;refine CI.p (zfr x) Tryz.call46 9999 ?_;simp;have hU':=hU;simp only[resC]at hU';refine⟨by decide+kernel,rfl,?_⟩;refine⟨?_,?_,?_,?_,?_,?_,?_⟩<;>simp[nmF,inB,hU']
theorem qkb (l:List Res)(hl:l.length≤1000000)(L dp:Nat)(r:Loop)(s0:Names)(T:Array Value)(hT:T.size=16){H:Nat}(hT3:T[3]? =some (.pointer (some ⟨H,0,none⟩)))(hs0:s0 0=some (.pointer (some ⟨H,0,none⟩)))
  {ca cb:Code} (hca:(Tryz.f161.body.bind rfA)=some ca) (hcb:(Tryz.f161.body.bind rfC)=some cb) (hrs:r.state=.ready) (hrp:r.pending=none) (hrt:r.tmps=T) (hra:r.assign=ca) (hrb:r.body=cb) (hps:r.params=#[9,10])
  {c:Code} (hc:Tryz.f278.body=some c):
  CI none dp (IterJ s0 L r) Tryz.prog 19 (fun e y=>(e=.normal∨e=.ret)∧FinOk (zap y.mm) (.d (.v undef)) (idxM []) (.d (.v undef)) (idxM l) []) [.code c] ⟨zlv 0 [.d (.fn (.yield L) [] []),.d (.pro [lD (l.map resC)])],(idxM []).map (fun p=>(p.1,some p.2)),64⟩:=by
 simp only[Tryz.f278,Option.some.injEq]at hc;subst hc;have hw0:IntKind.wrap .i64 ((l.length:Int)-1)=(l.length:Int)-1:=zab (by omega) (by omega);refine CI.run 9999 400 rfl ?_;simp[hw0];refine LoopI.inv mixed rfl (ι:={j:Nat//j≤l.length}) (fun j=>[(0,.d (.fn (.yield L) [] [])),(1,.d (.pro [lD (l.map resC)])),(3,int ((j.1:Int)-1))]) (fun j=>idxM (l.drop j.1)) 64 (fun j=>j.1) ⟨l.length,Nat.le_refl _⟩ [] (by constructor<;>simp[zxa]) ?_;rintro⟨j,hj⟩ B hB;refine CI.run 9999 400 rfl ?_;simp;refine sBI (fun h=>?_) (fun h=>?_)<;>simp only[h]<;>simp<;>(try simp only[nT,nF,dT,dF]at h)
 ·have hlt:j-1<l.length:=by omega
  obtain⟨x,hx⟩:∃x,l[j-1]? =some x:=⟨_,List.getElem?_eq_getElem hlt⟩;have hxe:l[j-1]=x:=(List.getElem?_eq_some_iff.1 hx).2;have hj1:((j:Int)-1)=((j-1:Nat):Int):=by omega
  have hd:l.drop (j-1)=x::l.drop j:=by
   have:=List.drop_eq_getElem_cons hlt;rw[hxe,show j-1+1=j by omega]at this;exact this
  simp[hj1,hlt,hxe,h];refine CI.yield (tmA:=[(3,.ptr 0 0),(10,st (resC x))]) (tmB:=[(3,.ptr 0 0),(5,.ptr 64 0)]) (m0:=idxM (l.drop j)) (m1:=idxM (x::l.drop j)) (mB:=idxB x (l.drop j)) (nxB:=65) (ntA:=16) mixed hrs hrp (by rw[hrt,hT]) ?_ ?_ rfl (.inl rfl) rfl rfl ?_ ?_ ?_ ?_ ?_ ?_ ?_ ?_
  ·rw[hra];exact qec x (l.drop j) L _ hca
  ·rw[hrb];exact qm1 x (l.drop j) L _ hcb
  ·simp
  ·simp[hps]
  ·intro σ I w vs hk hl ha t
   match vs,hl with
   |[v0,v1],_=>
    have h1:=ha 1 _ v1 (by simp;rfl) rfl (by simp[inA,inA.inL]) (by simp[AV.ren]);rw[hps,hrt];simp only[zal];by_cases t3:3=t
    ·subst t3;simp[hT3];exact .ptr (hk 0 _ hs0 (by omega))
    ·by_cases t10:10=t
     ·subst t10;simp[hT];exact h1
     ·simp only[if_neg t3,if_neg t10];exact .any _
  ·intro p hp;simp at hp;rcases hp with rfl|rfl<;>simp[inB,inA,inA.inL,Blk.ren,AV.ren]
  ·intro p hp;simp at hp;rcases hp with rfl|rfl<;>simp[Blk.ren,AV.ren]
  ·intro p hp;simp at hp;rcases hp with rfl|rfl<;>simp[zac]
  ·intro p hp;simp at hp;rcases hp with rfl|rfl<;>simp
  ·refine CI.runOps 9999 400 rfl ?_;simp[zm9];have hw:IntKind.wrap .i64 (((j-1:Nat):Int)-1)=((j-1:Nat):Int)-1:=zab (by omega) (by omega);refine hB _ ⟨j-1,by omega⟩ [] ?_ (by simp;omega);constructor<;>simp[hw,hd]
 ·have hj0:j=0:=by omega
  subst hj0;refine⟨?_,?_,?_,?_,?_,?_,?_⟩<;>simp[nmF,inB]
def idxS (H M:Nat):Names:=fun b=>if b=0 then some (.pointer (some ⟨H,0,none⟩))else if b=1 then some (.map (some M))else none
theorem qez (l:List Res)(hl:l.length≤1000000)(L n:Nat)(r:Loop)(T:Array Value)(hT:T.size=16){H M:Nat}(hT3:T[3]? =some (.pointer (some ⟨H,0,none⟩)))
  {ca cb:Code} (hca:(Tryz.f161.body.bind rfA)=some ca) (hcb:(Tryz.f161.body.bind rfC)=some cb) (hrs:r.state=.ready) (hrp:r.pending=none) (hrt:r.tmps=T) (hra:r.assign=ca) (hrb:r.body=cb) (hps:r.params=#[9,10])
  {W:World} {I:Nat→Prop} {v:Value} (hib:∀n,I n→n<W.heap.size) (hrm:RM (idxS H M) I W (zac (idxM []))) (hv:RD I W (.pro [lD (l.map resC)]) v) (hL:W.heap[L]? =some (.loop r)) (hI:¬I L):
  CallsIn (FW none) n Tryz.prog 278 #[.func (.yield L) #[] #[],v] W fun e W'=>(∃u,e=.returned u)∧∃I',Post (idxS H M) I W (zac (idxM [])) 64 (idxS H M) I' W' (zac (idxM l)):=by
 refine callsIn_of_wp (F:=FW none) Tryz.func278 rfl trivial ?_ rfl
 let E:Ctx:={P:=Tryz.prog,w0:=W,bor:=Owns (idxS H M) (zac (idxM [])),I0:=I,nt:=19,s0:=idxS H M}
 have hlow:∀b,64≤b→idxS H M b=none:=fun b hb=>by unfold idxS;rw[if_neg (by omega),if_neg (by omega)]
 have hlk:zap ((idxM []).map fun p=>(p.1,some p.2))=zac (idxM []):=zej _;have hrel:Rel E (X.den ⟨zlv 0 [.d (.fn (.yield L) [] []),.d (.pro [lD (l.map resC)])],(idxM []).map (fun p=>(p.1,some p.2)),64⟩)
   {tmps:=#[.func (.yield L) #[] #[],v]++Array.replicate (Tryz.f278.ntmps-(#[Value.func (.yield L) #[] #[],v]:Array Value).size) undef,defers:=[]} W:=by
  refine⟨idxS H M,I,?_,rfl,fun t=>?_,?_,fun b hb=>hlow b hb,hib,fun _ h=>h,fun n h=>.inl h,fun n h=>?_,rfl,rfl,⟨rfl,Nat.le_refl _⟩,Nat.le_refl _,fun _ _ _=>rfl,fun _ _ h=>h,hlow⟩
  ·simp[E,Tryz.ntmps278]
  ·simp only[X.den,zhy,Nat.zero_le,if_true,Nat.sub_zero]
   match t with
   |0=>
    simp;exact .d (.fn (xs:=[]) (ys:=[]) rfl rfl (fun i c x h=>by simp at h) (fun i c x h=>by simp at h))
   |1=>
    simp;exact .d hv
   |t+2=>exact .any _
  ·show RM (idxS H M) I W (zap _);rw[hlk];exact hrm
  ·have h':Owns (idxS H M) (zap ((idxM []).map fun p=>(p.1,some p.2))) n:=h;rw[hlk]at h';exact .inl h'
 have hw:=(zev mixed (qkb l hl L n r (idxS H M) T hT hT3 rfl hca hcb hrs hrp hrt hra hrb hps rfl) E rfl rfl (IterJ.of_rel (m0:=idxM []) (I0:=I) rfl rfl rfl hrm hL hI)).1 rfl _ W hrel;simp only[aftI]at hw;refine wpIn_mono hw (fun e a W' hq=>?_);obtain⟨y,⟨σf,If,hr⟩,he,hfin⟩:zjx E (fun e y=>(e=.normal∨e=.ret)∧FinOk (zap y.mm) (.d (.v undef)) (idxM []) (.d (.v undef)) (idxM l) []) e a W':=by
  cases e<;>simpa[aftI]using hq
 have hpost:=zwb (w:=W) (σ:=idxS H M) (I:=I) rfl rfl rfl rfl hrm hr hfin;have hres:(results Tryz.f278 a.tmps).run Tryz.prog W'=.ok (.tuple #[]) W':=zkd (vs:=[]) (by
  show(([]:List ResultVar).mapM (znn a.tmps)).run Tryz.prog W'=.ok [] W';rw[List.mapM_nil];rfl)
 rcases he with rfl|rfl
 ·exact⟨hr.dfs,_,hres,⟨_,rfl⟩,If,hpost⟩
 ·exact⟨hr.dfs,_,hres,⟨_,rfl⟩,If,hpost⟩
attribute [simp] Tryz.ntmps217 Tryz.results217
theorem qey (l:List Res):Ct Tryz.prog 217 [lst (l.map resC)] [] [] (.d (.fn (.func 278) [] [.pro [lD (l.map resC)]])) []:=by
 refine Ct.B Tryz.func217 mixed 9999 400 ?_;simp;first|exact fin0 (by simp) rfl|exact zaa (by simp)
attribute [local go_sem] Oper.semAt_some in
set_option maxHeartbeats 1000000 in
theorem qi1 (l:List Res)(hl:l.length≤1000000):Ct Tryz.prog 161 [lst (l.map resC)] [] [] (.d (idxD l)) []:=by
 intro σ I w vs hib hlen hv hrm hlow
 match vs,hlen with
 |[v0],_=>
 have hv0:=hv 0 _ v0 rfl rfl;refine(callsIn_wide (n:=4)).1 ?_;refine callsIn_of_wp_marks (F:=FW none) Tryz.func161 rfl trivial ?_ rfl
 let E:Ctx:={P:=Tryz.prog,w0:=w,bor:=fun _=>False,I0:=I,nt:=16,s0:=σ}
 have hrel:Rel E (X.den ⟨zlv 0 [lst (l.map resC)],[],64⟩) {tmps:=#[v0]++Array.replicate (Tryz.f161.ntmps-(#[v0]:Array Value).size) undef,defers:=[]} w:=by
  refine⟨σ,I,?_,rfl,fun t=>?_,⟨fun b k hb=>by simp[X.den,zap]at hb,fun b b' k k' x x' n hb=>by simp[X.den,zap]at hb⟩,fun b hb=>hlow b hb,hib,fun _ h=>h,fun n h=>.inl h,fun n h=>?_,rfl,rfl,⟨rfl,Nat.le_refl _⟩,Nat.le_refl _,fun _ _ _=>rfl,fun _ _ h=>h,hlow⟩
  ·simp[E,Tryz.ntmps161]
  ·simp only[X.den,zhy,Nat.zero_le,if_true,Nat.sub_zero]
   match t with
   |0=>simpa using hv0
   |t+1=>exact .any _
  ·obtain⟨b,k,x,hb,_⟩:=h;simp[X.den,zap]at hb
 generalize({tmps:=#[v0]++Array.replicate (Tryz.f161.ntmps-(#[v0]:Array Value).size) undef,defers:=[]}:Act)=a0 at hrel⊢;refine zj7 (E:=E) (nt:=16) (tm:=[(0,lst (l.map resC))]) (m:=[]) (nx:=64) (gv:=[]) mixed rfl rfl ?_ hrel (fun a1 w1 hr1=>?_)
 ·refine CI.run 9999 400 rfl ?_;simp;constructor<;>simp
 refine zj7 (E:=E) (nt:=16) (tm:=[(0,lst (l.map resC)),(3,.ptr 64 0)]) (m:=[(64,.cells [.own 65] 252),(65,.map true [.int,.str] true (zjv []))]) (nx:=66) (gv:=[]) mixed rfl rfl ?_ hr1 (fun a2 w2 hr2=>?_)
 ·refine CI.run 9999 400 rfl ?_;simp;constructor<;>simp[zxa]
 refine wpIn_seq ?_;refine zj7 (E:=E) (nt:=16) (tm:=[(0,lst (l.map resC)),(3,.ptr 64 0),(8,.d (.fn (.func 278) [] [.pro [lD (l.map resC)]]))]) (m:=[(64,.cells [.own 65] 252),(65,.map true [.int,.str] true (zjv []))]) (nx:=66) (gv:=[]) mixed rfl rfl ?_ hr2 (fun a3 w3 hr3=>?_)
 ·refine CI.run 9999 400 rfl ?_;simp;refine CI.p (qey l) Tryz.call217 9999 ?_;simp;constructor<;>simp
 refine wpIn_block ?_;obtain⟨σ3,I3,h3⟩:=hr3;have hmm:RM σ3 I3 w3 (zac [(64,.cells [.own 65] 252),(65,.map true [.int,.str] true (zjv []))]):=by rw[←zej];exact h3.mm
 obtain⟨xH,hxH,hbH,hnH⟩:=hmm.blk 64 _ rfl;obtain⟨xM,hxM,hbM,hnM⟩:=hmm.blk 65 _ rfl;have hown:∀n,Owns σ3 (zac [(64,.cells [.own 65] 252),(65,.map true [.int,.str] true (zjv []))]) n→w.heap.size≤n:=fun n hn=>by
  rcases h3.mine n (by show Owns σ3 (zap _) n;rw[zej];exact hn)with g|g
  ·exact g.elim
  ·exact g
 obtain⟨H,rfl⟩:∃H,xH=.pointer (some ⟨H,0,none⟩):=by cases hbH;exact⟨_,rfl⟩
 obtain⟨M,rfl⟩:∃M,xM=.map (some M):=by cases hbM;exact⟨_,rfl⟩
 have hHM:H≠M:=fun e=>by
  have:=hmm.apart 64 65 _ _ _ _ H rfl rfl hxH hxM rfl (by rw[e];rfl);omega
 have hHw:w.heap.size≤H:=hown H ⟨64,_,_,rfl,hxH,rfl⟩;have hMw:w.heap.size≤M:=hown M ⟨65,_,_,rfl,hxM,rfl⟩;have hT:a3.tmps.size=16:=h3.size;have hT3:a3.tmps[3]? =some (.pointer (some ⟨H,0,none⟩)):=by
  have h:=h3.tm 3;simp only[X.den,zal]at h;have e:a3.tmps[3]? =some (a3.tmps.getD 3 undef):=by simp[hT]
  rw[e];generalize a3.tmps.getD 3 undef=z at h;cases h with
  | @ptr b off n h=>rw[hxH]at h;cases h;rfl
 obtain⟨v,hT8,hv8⟩:∃v,a3.eval (.tmp 8)=.func (.func 278) #[] #[v]∧RD I3 w3 (.pro [lD (l.map resC)]) v:=by
  have h:=h3.tm 8;simp only[X.den,zal]at h;show∃v,a3.tmps.getD 8 undef=_∧_;generalize a3.tmps.getD 8 undef=z at h;cases h with
  |d h=>cases h with
   | @fn f first captured xs ys hx hy h1 h2=>
     have e1:xs=[]:=List.eq_nil_of_length_eq_zero (by simpa using hx)
     match ys,hy with
     |[y],_=>subst e1;exact⟨y,rfl,h2 0 _ y rfl rfl⟩
 refine qa9 (F:=FW none) rfl (by omega) hT8 trivial (enters_of Tryz.func278 (by kernel_rfl) rfl) ?_;rintro fn hfn r hr;obtain⟨W,hW⟩:∃W,(w3.alloc (.deferred (some []))).alloc (.loop r)=W:=⟨_,rfl⟩;rw[hW];have hL:W.heap[w3.heap.size+1]? =some (.loop r):=by
  rw[←hW];have:=World.alloc_heap_new (w3.alloc (.deferred (some []))) (.loop r);rwa[World.size_alloc]at this
 have hD:W.heap[w3.heap.size]? =some (.deferred (some [])):=by
  rw[←hW];exact(Below.heap_alloc _ _ _ (by simp)).trans (World.alloc_heap_new w3 _)
 have hold:∀n,n<w3.heap.size→W.heap[n]? =w3.heap[n]? :=fun n hn=>by
  rw[←hW];exact(Below.heap_alloc _ _ n (by simp;omega)).trans (Below.heap_alloc _ _ n hn)
 have hsz:W.heap.size=w3.heap.size+2:=by rw[←hW];simp
 have hos:W.os=w3.os:=by rw[←hW];rfl
 have htape:W.tape=w3.tape:=by rw[←hW];rfl
 have hout:SameOut W w3:=by rw[←hW];exact⟨rfl,Nat.le_refl _⟩
 have hib3:∀n,I3 n→n<W.heap.size:=fun n hn=>by have:=h3.ib n hn;omega
 have hIL:¬I3 (w3.heap.size+1):=fun h=>by have:=h3.ib _ h;omega
 have hrmW:RM (idxS H M) I3 W (zac (idxM [])):=by
  refine⟨fun b k hb=>?_,fun b b' k k' x x' n h1 h2 q1 q2 q3 q4=>?_⟩
  ·simp only[zac]at hb;split at hb
   ·rename_i e;cases hb;subst e;refine⟨_,rfl,?_,fun n hn=>⟨by have:=(hnH n hn).1;omega,(hnH n hn).2⟩⟩;cases hbH with
    | @cells cs T n arr c1 c2 c3=>
      refine .cells ((hold H (hnH H rfl).1).trans c1) (by simpa using c2) (fun i c x d1 d2=>?_)
      match i with
      |0=>
       simp at d1;subst d1;have:=c3 0 _ x rfl d2;cases this with
       |own e1 e2=>rw[hxM]at e1;cases e1;exact .own rfl rfl
      |i+1=>simp at d1
   ·split at hb
    ·rename_i e;cases hb;subst e;refine⟨_,rfl,?_,fun n hn=>⟨by have:=(hnM n hn).1;omega,(hnM n hn).2⟩⟩;cases hbM with
     |map keys vals c1 c2 c3 c4 c5 c6=>exact .map keys vals ((hold M (hnM M rfl).1).trans c1) c2 c3 c4 c5 (fun i d j c x d1 d2 d3 d4=>(c6 i d j c x d1 d2 d3 d4).mono (fun n hn=>hold n (h3.ib n hn)) (fun _ h=>h))
    ·cases hb
  ·have two:∀b k,zac (idxM []) b=some k→b=0∨b=1:=fun b k h=>by
    simp only[zac]at h;split at h
    ·exact .inl (by omega)
    ·split at h
     ·exact .inr (by omega)
     ·cases h
   rcases two b k h1 with rfl|rfl<;>rcases two b' k' h2 with rfl|rfl
   ·rfl
   ·cases q1;cases q2;cases q3;cases q4;exact absurd rfl hHM
   ·cases q1;cases q2;cases q3;cases q4;exact absurd rfl hHM
   ·rfl
 have hvW:RD I3 W (.pro [lD (l.map resC)]) v:=hv8.mono (fun n hn=>hold n (h3.ib n hn)) (fun _ h=>h);refine(qez l hl (w3.heap.size+1) _ r a3.tmps hT hT3 (ca:=r.assign) (cb:=r.body) (by rw[hr];simp only[Tryz.f161,Option.bind_some,rfA]) (by rw[hr];simp only[Tryz.f161,Option.bind_some,rfC]) (by rw[hr]) (by rw[hr]) (by rw[hr]) rfl rfl (by rw[hr]) hib3 hrmW hvW hL hIL).mono ?_;rintro e W' ⟨hu,I',hp⟩;have hnot:∀n,w3.heap.size≤n→¬Owns (idxS H M) (zac (idxM [])) n:=fun n hn ho=>by
  obtain⟨b,k,x,g1,g2,g3⟩:=ho;obtain⟨x',p1,p2,p3⟩:=hrmW.blk b k g1;rw[g2]at p1;cases p1;have h0:b=0∨b=1:=by
   simp only[zac]at g1;split at g1
   ·exact .inl (by omega)
   ·split at g1
    ·exact .inr (by omega)
    ·cases g1
  rcases h0 with rfl|rfl
  ·cases g2;simp[hb]at g3;subst g3;have:=(hnH H rfl).1;omega
  ·cases g2;simp[hb]at g3;subst g3;have:=(hnM M rfl).1;omega
 have hL':W'.heap[w3.heap.size+1]? =some (.loop r):=(hp.frame _ (by omega) (hnot _ (by omega))).trans hL;have hD':W'.heap[w3.heap.size]? =some (.deferred (some [])):=(hp.frame _ (by omega) (hnot _ (by omega))).trans hD;refine⟨hu,r,hL',by rw[hr];simp,?_⟩;rw[show r.pending=none by rw[hr]];obtain⟨xH',hxH',hbH',hnH'⟩:=hp.mem.blk 0 _ rfl;obtain⟨xM',hxM',hbM',hnM'⟩:=hp.mem.blk 1 _ rfl;cases hxH';cases hxM';have hMne:∀n,n=H∨n=M→n≠w3.heap.size∧n≠w3.heap.size+1:=fun n hn=>by
  have:=(hnH H rfl).1;have:=(hnM M rfl).1;rcases hn with rfl|rfl<;>omega
 have hcH:W'.heap[H]? =some (.cells #[.map (some M)] 252 (0,0)):=by
  cases hbH' with
  | @cells cs T n arr c1 c2 c3=>
    have h1:arr.size=1:=by simpa using c2
    have h2:arr[0]? =some (.map (some M)):=by
     have e0:arr[0]? =some arr[0]:=by simp[h1]
     have:=c3 0 _ arr[0] rfl e0;rw[e0];generalize arr[0]=z at this;cases this with
     |own e1 e2=>cases e1;rfl
    have h3:arr=#[.map (some M)]:=by
     apply Array.ext
     ·simp[h1]
     ·intro i hi hi';have:i=0:=by omega
      subst this;have:=(Array.getElem?_eq_some_iff.1 h2).2;simpa using this
    rw[c1,h3]
 have hw3s:w.heap.size≤w3.heap.size:=h3.hs;have hW's:W.heap.size≤W'.heap.size:=hp.size;obtain⟨W3,hW3⟩:∃W3,W'.putObj (w3.heap.size+1) (.loop {r with state:=.exhausted,pending:=none})=W3:=⟨_,rfl⟩;have hc3:W3.cell? ⟨H,0,none⟩=some (.map (some M)):=by
  rw[←hW3];exact(World.cell?_of_block (World.putObj_heap_other (hMne H (.inl rfl)).2)).trans (by simp[World.cell?,hcH])
 have hD3:W3.heap[w3.heap.size]? =some (.deferred (some [])):=by rw[←hW3];exact(World.putObj_heap_other (by omega)).trans hD'
 obtain⟨Wf,hWf⟩:∃Wf,W3.putObj w3.heap.size (.deferred none)=Wf:=⟨_,rfl⟩;have hfo:∀n,n≠w3.heap.size→n≠w3.heap.size+1→Wf.heap[n]? =W'.heap[n]? :=fun n h1 h2=>by
  rw[←hWf,←hW3];exact(World.putObj_heap_other h1).trans (World.putObj_heap_other h2)
 have hfs:Wf.heap.size=W'.heap.size:=by rw[←hWf,←hW3];simp[World.putObj]
 have hfin:∃σ' I'',Post σ I w (zac ([]++[])) 64 σ' I'' Wf (zac ([]++[]))∧RV σ' I'' Wf (.d (idxD l)) (.map (some M)):=by
  have hI'D:∀n,I' n→n≠w3.heap.size∧n≠w3.heap.size+1:=fun n hn=>by
   rcases hp.inew n hn with g|g|g
   ·have:=h3.ib n g;omega
   ·omega
   ·constructor
    ·intro e;subst e;exact hnot _ (Nat.le_refl _) g
    ·intro e;subst e;exact hnot _ (by omega) g
  refine⟨σ,fun n=>I' n∨n=M,?_,?_⟩
  ·refine⟨?_,?_,?_,by omega,fun _ _ h=>h,fun b h1 h2=>absurd h1 h2,fun n h=>.inl (hp.imono n (h3.i0 n h)),fun n h=>?_,fun n h=>?_,fun n h1 h2=>?_,⟨fun b k hb=>by simp[zac]at hb,fun b b' k k' x x' n hb=>by simp[zac]at hb⟩,fun b k hb=>by simp[zac]at hb,fun n hn=>?_⟩
   ·have:Wf.os=W'.os:=by rw[←hWf,←hW3];rfl
    rw[this,hp.os,hos,h3.os]
   ·have:Wf.tape=W'.tape:=by rw[←hWf,←hW3];rfl
    rw[this,hp.tape,htape,h3.tape]
   ·have:SameOut Wf W':=by rw[←hWf,←hW3];exact⟨rfl,Nat.le_refl _⟩
    exact this.trans (hp.output.trans (hout.trans h3.output))
   ·rw[hfs];rcases h with h|rfl
    ·exact hp.ib n h
    ·exact(hnM' _ rfl).1
   ·rcases h with h|rfl
    ·rcases hp.inew n h with g|g|g
     ·rcases h3.inew n g with q|q|q
      ·exact .inl q
      ·exact q.elim
      ·exact .inr (.inl q)
     ·exact .inr (.inl (by omega))
     ·obtain⟨b,k,x,g1,g2,g3⟩:=g;have h0:b=0∨b=1:=by
       simp only[zac]at g1;split at g1
       ·exact .inl (by omega)
       ·split at g1
        ·exact .inr (by omega)
        ·cases g1
      rcases h0 with rfl|rfl
      ·cases g2;simp[hb]at g3;subst g3;exact .inr (.inl hHw)
      ·cases g2;simp[hb]at g3;subst g3;exact .inr (.inl hMw)
    ·exact .inr (.inl hMw)
   ·rw[hfo n (by omega) (by omega),hp.frame n (by omega) (fun ho=>?_),hold n (by omega)]
    ·exact h3.frame n h1 (fun h=>h.elim)
    ·obtain⟨b,k,x,g1,g2,g3⟩:=ho;have h0:b=0∨b=1:=by
      simp only[zac]at g1;split at g1
      ·exact .inl (by omega)
      ·split at g1
       ·exact .inr (by omega)
       ·cases g1
     rcases h0 with rfl|rfl
     ·cases g2;simp[hb]at g3;subst g3;omega
     ·cases g2;simp[hb]at g3;subst g3;omega
   ·obtain⟨b,k,x,hb,_⟩:=hn;simp[zac]at hb
  ·cases hbM' with
   |map keys vals c1 c2 c3 c4 c5 c6=>
    refine .d (.mp keys vals (.inr rfl) ((hfo M (hMne M (.inr rfl)).1 (hMne M (.inr rfl)).2).trans c1) c3 c4 c5 (fun i d j c x d1 d2 d3 d4=>(c6 i d j c x d1 d2 d3 d4).mono (fun n hn=>hfo n (hI'D n hn).1 (hI'D n hn).2) (fun n hn=>.inl hn)))
 obtain⟨σ',I'',hf1,hf2⟩:=hfin;have hg3:a3.tmps.getD 3 undef=.pointer (some ⟨H,0,none⟩):=by simp[hT3]
 have hdf:a3.defers=[]:=h3.dfs;have hrun:=run_takeDeferred (P:=Tryz.prog) hD3;rw[hWf]at hrun;rw[hW3];clear hW3 hWf hfo hfs hcH hbH' hbM' hnH' hnM' hp hL' hD' hnot hvW hrmW hIL hib3 hout htape hos hsz hold hD hL hW hr hv8 hrel h3 hmm hown hbH hbM;generalize W3=W3 at hc3 hD3 hrun⊢;have hTL:a3.tmps.toList.length=16:=by simpa using hT
 have hFW:FW none=Fence.wide:=rfl;rw[hFW];show Code.wpIn Fence.wide 4 Tryz.prog _ _ _ _
 match hm:a3.tmps.toList,hTL with
 |[t0,t1,t2,t3,t4,t5,t6,t7,t8,t9,t10,t11,t12,t13,t14,t15],_=>
 have hTe:a3.tmps=#[t0,t1,t2,t3,t4,t5,t6,t7,t8,t9,t10,t11,t12,t13,t14,t15]:=by rw[←Array.toArray_toList (xs:=a3.tmps),hm]
 rw[hTe]at hT3⊢;have h3e:t3=.pointer (some ⟨H,0,none⟩):=by simpa using hT3
 subst h3e;clear hT3 hm hTL hTe
 gi_wp2
 rw[hdf];refine⟨by simp,.inl ⟨_,_,rfl,hrun,?_⟩⟩;exact⟨.map (some M),by simp[results,Tryz.f161,go_sem],_,σ',I'',rfl,hf1,hf2⟩
end Go.Proofs.YtjoaclgkjhncjaaGreatDoor
end
namespace Go.Proofs.YtjoaclgkjhncjaaGreatDoor
open Go.AI Go.G
set_option maxRecDepth 20000
attribute [simp] Tryz.ntmps163 Tryz.results163
theorem qym (a:List Res)(r:Res)(ha:OkRs a):Ct Tryz.prog 163 [st (resC r),.d (.pro [idxD a])] [] [] (bool (!decide (getR a r.key=some r))) []:=by
 refine Ct.B Tryz.func163 mixed 9999 400 ?_;simp;cases hg:getR a r.key with
 |none=>
  have e1:=zw9 hg;refine CI.p (zfr r) Tryz.call46 9999 ?_ (ha:=by simp[e1]);simp[e1];refine⟨by decide+kernel,?_⟩;first|exact fin0 (by simp) rfl|exact zaa (by simp)
 |some o=>
  have e1:=zt8 hg;have ho:OkRes o:=ha.all o (zce hg);refine CI.p (zfr r) Tryz.call46 9999 ?_ (ha:=by simp[e1]);simp[e1];refine⟨by decide+kernel,?_⟩;refine CI.p (qa5 o r ho) Tryz.call47 9999 ?_;simp;first|exact fin0 (by simp) rfl|exact zaa (by simp)
attribute [simp] Tryz.ntmps165 Tryz.results165
theorem qyl (b:List Res)(k_:Key):Ct Tryz.prog 165 [st (keyC k_),.d (.pro [idxD b])] [] [] (bool (getR b k_).isSome) []:=by
 refine Ct.B Tryz.func165 mixed 9999 400 ?_;simp;cases hg:getR b k_ with
 |none=>
  have e1:=zw9 hg;simp[e1];first|exact fin0 (by simp) rfl|exact zaa (by simp)
 |some o=>
  have e1:=zt8 hg;simp[e1];first|exact fin0 (by simp) rfl|exact zaa (by simp)
attribute [simp] Tryz.ntmps101 Tryz.results101
theorem qw5 (a b:List Res)(ha:OkRs a)(hl:a.length≤1000000)(hb:b.length≤1000000):Ct Tryz.prog 101 [lst (a.map resC),lst (b.map resC)] [] [] (.tup [lst ((zem a b).map resC),lst ((zf9 a b).map keyC)]) []:=by
 refine Ct.B Tryz.func101 mixed 2 400 ?_;simp;refine CI.p (qi1 a hl) Tryz.call161 2 ?_;simp;refine CI.p (qi1 b hb) Tryz.call161 2 ?_;simp;refine CI.s (tm:=[(0,lst (a.map resC)),(1,lst (b.map resC)),(6,.d (.pro [idxD a])),(7,.d (.pro [idxD b]))]) (mm:=[]) (nx:=65) [] [448,512] (by constructor<;>simp) ?_;refine CI.run 9999 400 rfl ?_;simp;refine CI.p (zun b (.fn (.func 163) [] [.pro [idxD a]]) (fun r=>!decide (getR a r.key=some r)) (fun r hr=>FnOk.clo (by exact qym a r ha) Tryz.call163 rfl rfl) hb) Tryz.call162 9999 ?_;simp;refine CI.cc [] (qb2 a hl) Tryz.call49 9999 ?_;simp;refine CI.cc [385] (zoz (a.map Res.key) (.fn (.func 165) [] [.pro [idxD b]]) (fun k=>(getR b k).isSome) (fun k hk=>FnOk.clo (by exact qyl b k) Tryz.call165 rfl rfl) (by simpa using hl)) Tryz.call164 9999 ?_;simp;first|exact fin0 (by simp[zem,zf9]) rfl|exact zaa (by simp[zem,zf9])
end Go.Proofs.YtjoaclgkjhncjaaGreatDoor
namespace Go.G
open Go.AI
theorem diffA_len (a b:List Res):(zem a b).length≤b.length:=List.length_filter_le _ _
theorem diffG_len (a b:List Res):(zf9 a b).length≤a.length:=by
 have:=List.length_filter_le (fun k=>!(getR b k).isSome) (a.map Res.key);simpa[zf9]using this
end Go.G
namespace Go.Proofs.YtjoaclgkjhncjaaGreatDoor
open Go.AI Go.G
set_option maxRecDepth 20000
end Go.Proofs.YtjoaclgkjhncjaaGreatDoor
