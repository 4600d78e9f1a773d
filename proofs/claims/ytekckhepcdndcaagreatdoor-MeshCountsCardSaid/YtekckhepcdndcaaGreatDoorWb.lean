/-
  LAYERS 3 to 14: the walks of keys, references, configurations, of the program and of the reference.
-/
import Derived.Test.YtekckhepcdndcaaGreatDoorWa
import Derived.Test.YtekckhepcdndcaaGreatDoorPl
set_option linter.unusedSimpArgs false
set_option linter.unusedVariables false
namespace Go.Proofs.YtekckhepcdndcaaGreatDoor
open Go.AI Go.G
set_option maxRecDepth 20000
attribute [simp] Tryz.ntmps165 Tryz.results165
theorem zf1 (r:Res):Ct Tryz.prog 165 [st (resC r)] [] [] (st (keyC r.key)) []:=by
 refine Ct.B Tryz.func165 mixed 9999 400 ?_;simp;first|exact fin0 (by simp[Res.key]) rfl|exact zaa (by simp[Res.key])
end Go.Proofs.YtekckhepcdndcaaGreatDoor
namespace Go.Proofs.YtekckhepcdndcaaGreatDoor
open Go.AI Go.G
set_option maxRecDepth 20000
attribute [simp] Tryz.ntmps42 Tryz.results42
theorem qll (a b:List Key)(hl:a.length≤9223372036854775807):Ct Tryz.prog 42 [lst (a.map keyC),lst (b.map keyC)] [] [] (bool (decide (a=b))) []:=by
 refine Ct.B Tryz.func42 mixed 9999 400 ?_;simp;refine sBI (fun h1=>?_) (fun h1=>?_)<;>simp only[h1]<;>simp<;>(try simp only[nT,nF,dT,dF]at h1)
 ·have e:¬a=b:=fun e=>h1 (by rw[e])
  first|exact fin0 (by simp[e]) rfl|exact zaa (by simp[e])
 have hab:a.length=b.length:=by omega
 refine LoopI.inv mixed rfl (ι:={k:Nat//k≤(a).length∧a.take k=b.take k}) (fun k=>[(0,lst (a.map keyC)),(1,lst (b.map keyC)),(5,int k.1)]) (fun k=>[]) 64 (fun k=>(a).length-k.1) ⟨0,by omega,by simp⟩ [] (by constructor<;>simp) ?_;rintro⟨k,hk1,hi⟩ B hB;refine CI.run 9999 400 rfl ?_;simp;refine sBI (fun h=>?_) (fun h=>?_)
 ·have hk:k<(a).length:=by simpa using h
  obtain⟨x,hx,hr,hm,ht,hd⟩:=inL hk;have hw:=wr (k:=k) (by omega);simp only[h];simp[hr,hw];have hrb:b[k]? =some b[k]:=List.getElem?_eq_getElem (by omega);have htb:b.take (k+1)=b.take k++[b[k]]:=by rw[List.take_add_one,hrb];rfl
  have hne:x≠b[k]→a≠b:=by
   intro h2 e;subst e;rw[hr]at hrb;cases hrb;exact h2 rfl
  generalize b[k]=y at hrb htb hne;have hxy:(decide (x.kind=y.kind)&&decide (x.name=y.name))=decide (x=y):=by
   obtain⟨p,q⟩:=x;obtain⟨u,v⟩:=y;simp[Key.mk.injEq]
  simp[hrb];refine⟨by decide+kernel,?_⟩;refine sBI (fun h2=>?_) (fun h2=>?_)<;>simp only[h2]<;>simp[hr,hrb]<;>(try simp only[nT,nF,dT,dF]at h2)
  ·have h3:¬x=y:=by
    rw[←Bool.not_and,hxy]at h2;simpa using h2
   first|exact fin0 (by simp[hne h3]) rfl|exact zaa (by simp[hne h3])
  ·have h3:x=y:=by
    rw[←Bool.not_and,hxy]at h2;simpa using h2
   refine hB _ ⟨k+1,by omega,by rw[ht,htb,hi,h3]⟩ [] ?_ (by simp;omega);constructor<;>simp[hw]
 ·have hkl:k=(a).length:=by simp at h;omega
  subst hkl;simp only[h];simp[List.take_length,List.drop_length];have e:a=b:=by
   rw[List.take_length,hab,List.take_length]at hi;exact hi
  first|exact fin0 (by simp[e]) rfl|exact zaa (by simp[e])
attribute [simp] Tryz.ntmps80 Tryz.results80
theorem ql5 (r:Res)(hl:r.rules.length≤9223372036854775807):Ct Tryz.prog 80 [st (resC r)] [] [] (bool (zfu r)) []:=by
 refine Ct.B Tryz.func80 mixed 9999 400 ?_;simp;refine LoopI.inv mixed rfl (ι:={k:Nat//k≤(r.rules).length∧(r.rules.take k).all zec=true}) (fun k=>[(1,.ptr 64 0),(3,int k.1)]) (fun k=>[(64,.cells ((resC r).map .d) 146)]) 65 (fun k=>(r.rules).length-k.1) ⟨0,by omega,by simp⟩ [] (by constructor<;>simp) ?_;rintro⟨k,hk1,hi⟩ B hB;refine CI.run 9999 400 rfl ?_;simp;refine sBI (fun h=>?_) (fun h=>?_)
 ·have hk:k<(r.rules).length:=by simpa using h
  obtain⟨x,hx,hr,hm,ht,hd⟩:=inL hk;have hw:=wr (k:=k) (by omega);simp only[h];simp[hr,hw];have ef:zec x=false→zfu r=false:=fun e=>by
   have:r.rules.all zec=false:=by rw[List.all_eq_false];exact⟨x,hm,by simp[e]⟩
   simp only[zfu,this,Bool.false_and]
  have s1:=zbh x.host;have s2:=zbh x.pre;refine sGI (fun h1=>?_) (fun h1=>?_)<;>simp only[h1]<;>simp[hr]<;>(try simp only[nT,nF,dT,dF]at h1)
  ·first|exact fin0 (by simp[ef (by simp[zec];omega)]) rfl|exact zaa (by simp[ef (by simp[zec];omega)])
  refine sGI (fun h2=>?_) (fun h2=>?_)<;>simp only[h2]<;>simp[hr]<;>(try simp only[nT,nF,dT,dF]at h2)
  ·first|exact fin0 (by simp[ef (by simp[zec];omega)]) rfl|exact zaa (by simp[ef (by simp[zec];omega)])
  refine sBI (fun h3=>?_) (fun h3=>?_)<;>simp only[h3]<;>simp[hr]<;>(try simp only[nT,nF,dT,dF]at h3)
  ·first|exact fin0 (by simp[ef (by simp[zec];omega)]) rfl|exact zaa (by simp[ef (by simp[zec];omega)])
  ·have e:zec x=true:=by simp[zec];omega
   refine hB _ ⟨k+1,by omega,by simp[ht,hi,e]⟩ [] ?_ (by simp;omega);constructor<;>simp[hw,ht,e]
 ·have hkl:k=(r.rules).length:=by simp at h;omega
  subst hkl;simp only[h];simp[List.take_length,List.drop_length];rw[List.take_length]at hi;have s3:=zbh r.name;have s4:=zbh r.to;refine sGI (fun g1=>?_) (fun g1=>?_)<;>simp only[g1]<;>simp<;>(try simp only[nT,nF,dT,dF]at g1)
  ·have a1:r.rules.length≤20:=by omega
   refine sGI (fun g2=>?_) (fun g2=>?_)<;>simp only[g2]<;>simp<;>(try simp only[nT,nF,dT,dF]at g2)
   ·have a2:r.hosts.length≤20:=by omega
    refine sGI (fun g3=>?_) (fun g3=>?_)<;>simp only[g3]<;>simp<;>(try simp only[nT,nF,dT,dF]at g3)
    ·have a3:(bs r.name).length≤100:=by omega
     by_cases g4:(bs r.to).length≤100
     ·exact fin0 (by simp[zfu,hi,a1,a2,a3,g4,s4];try omega) rfl
     ·exact fin0 (by simp[zfu,hi,a1,a2,a3,g4,s4];try omega) rfl
    ·have a3:¬(bs r.name).length≤100:=by omega
     first|exact fin0 (by simp[zfu,a3]) rfl|exact zaa (by simp[zfu,a3])
   ·have a2:¬r.hosts.length≤20:=by omega
    first|exact fin0 (by simp[zfu,a2]) rfl|exact zaa (by simp[zfu,a2])
  ·have a1:¬r.rules.length≤20:=by omega
   first|exact fin0 (by simp[zfu,a1]) rfl|exact zaa (by simp[zfu,a1])
end Go.Proofs.YtekckhepcdndcaaGreatDoor
namespace Go.Proofs.YtekckhepcdndcaaGreatDoor
open Go.AI Go.G
set_option maxRecDepth 20000
attribute [simp] Tryz.ntmps44 Tryz.results44
theorem qvo (l:List Res)(hl:OkRs l):Ct Tryz.prog 44 [lst (l.map resC)] [] [] (bool (fewL l)) []:=by
 refine Ct.B Tryz.func44 mixed 9999 400 ?_;simp;have hh:=hl.len;refine LoopI.inv mixed rfl (ι:={k:Nat//k≤(l).length∧(l.take k).all zfu=true}) (fun k=>[(0,lst (l.map resC)),(3,int k.1)]) (fun k=>[]) 64 (fun k=>(l).length-k.1) ⟨0,by omega,by simp⟩ [] (by constructor<;>simp) ?_;rintro⟨k,hk1,hi⟩ B hB;refine CI.run 9999 400 rfl ?_;simp;refine sBI (fun h=>?_) (fun h=>?_)
 ·have hk:k<(l).length:=by simpa using h
  obtain⟨x,hx,hr,hm,ht,hd⟩:=inL hk;have hw:=wr (k:=k) (by omega);simp only[h];simp[hr,hw];refine CI.p (ql5 x (hl.all x hm).rules) Tryz.call80 9999 ?_;simp;refine sBI (fun h1=>?_) (fun h1=>?_)<;>simp only[h1]<;>simp<;>(try simp only[nT,nF,dT,dF]at h1)
  ·have e:l.all zfu=false:=by rw[List.all_eq_false];exact⟨x,hm,by simp[h1]⟩
   first|exact fin0 (by simp[fewL,e]) rfl|exact zaa (by simp[fewL,e])
  ·refine hB _ ⟨k+1,by omega,by simp[ht,hi,h1]⟩ [] ?_ (by simp;omega);constructor<;>simp[hw,ht,h1]
 ·have hkl:k=(l).length:=by simp at h;omega
  subst hkl;simp only[h];simp[List.take_length,List.drop_length];rw[List.take_length]at hi;exact fin0 (by simp[fewL,hi];try omega) rfl
end Go.Proofs.YtekckhepcdndcaaGreatDoor
namespace Go.Proofs.YtekckhepcdndcaaGreatDoor
open Go.AI Go.G
set_option maxRecDepth 20000
attribute [simp] Tryz.ntmps22 Tryz.results22
theorem qvp (f:G.Frame)(hl:OkFrame f):Ct Tryz.prog 22 [st (zai f)] [] [] (bool (fewF f)) []:=by
 refine Ct.B Tryz.func22 mixed 9999 400 ?_;simp;have hh:=hl.have_;refine LoopI.inv mixed rfl (ι:={k:Nat//k≤(f.have_).length∧((f.have_.take k).all fun m=>decide ((bs m.k.name).length≤100))=true}) (fun k=>[(1,.ptr 64 0),(3,int k.1)]) (fun k=>[(64,.cells ((zai f).map .d) 98)]) 65 (fun k=>(f.have_).length-k.1) ⟨0,by omega,by simp⟩ [] (by constructor<;>simp) ?_;rintro⟨k,hk1,hi⟩ B hB;refine CI.run 9999 400 rfl ?_;simp;refine sBI (fun h=>?_) (fun h=>?_)
 ·have hk:k<(f.have_).length:=by simpa using h
  obtain⟨x,hx,hr,hm,ht,hd⟩:=inL hk;have hw:=wr (k:=k) (by omega);simp only[h];simp[hr,hw];have s1:=zbh x.k.name;refine sBI (fun h1=>?_) (fun h1=>?_)<;>simp only[h1]<;>simp[hr,s1]<;>(try simp only[nT,nF,dT,dF]at h1)
  ·have e:(f.have_.all fun m=>decide ((bs m.k.name).length≤100))=false:=by
    rw[List.all_eq_false];exact⟨x,hm,by simp;omega⟩
   first|exact fin0 (by simp[fewF,e]) rfl|exact zaa (by simp[fewF,e])
  ·have e:(bs x.k.name).length≤100:=by omega
   refine hB _ ⟨k+1,by omega,by simp[ht,hi,e]⟩ [] ?_ (by simp;omega);constructor<;>simp[hw,ht,e]
 ·have hkl:k=(f.have_).length:=by simp at h;omega
  subst hkl;simp only[h];simp[List.take_length,List.drop_length];rw[List.take_length]at hi;refine CI.p (qvo f.adds hl.adds) Tryz.call44 9999 ?_;simp;refine sGI (fun h1=>?_) (fun h1=>?_)<;>simp only[h1]<;>simp<;>(try simp only[nT,nF,dT,dF]at h1)
  ·refine sGI (fun h2=>?_) (fun h2=>?_)<;>simp only[h2]<;>simp<;>(try simp only[nT,nF,dT,dF]at h2)
   ·have a2:f.gone.length≤80:=by omega
    refine sGI (fun h3=>?_) (fun h3=>?_)<;>simp only[h3]<;>simp<;>(try simp only[nT,nF,dT,dF]at h3)
    ·have a3:f.have_.length≤80:=by omega
     exact fin0 (by simp[fewF,hi,h1,a2,a3];try omega) rfl
    ·have a3:¬f.have_.length≤80:=by omega
     first|exact fin0 (by simp[fewF,a3]) rfl|exact zaa (by simp[fewF,a3])
   ·have a2:¬f.gone.length≤80:=by omega
    first|exact fin0 (by simp[fewF,a2]) rfl|exact zaa (by simp[fewF,a2])
  ·first|exact fin0 (by simp[fewF,h1]) rfl|exact zaa (by simp[fewF,h1])
end Go.Proofs.YtekckhepcdndcaaGreatDoor
namespace Go.Proofs.YtekckhepcdndcaaGreatDoor
open Go.AI Go.G
set_option maxRecDepth 20000
attribute [simp] Tryz.ntmps376 Tryz.results376
theorem qho (a:Int):Ct Tryz.prog 376 [int a] [] [] (bool false) []:=by
 refine Ct.B Tryz.func376 mixed 9999 400 ?_;simp;first|exact fin0 (by simp) rfl|exact zaa (by simp)
attribute [simp] Tryz.ntmps341 Tryz.results341
theorem zwr (a b:Int):Ct Tryz.prog 341 [int a,int b] [] [] (int (if a<b then-1 else if b<a then 1 else 0)) []:=by
 refine Ct.B Tryz.func341 mixed 9999 400 ?_;simp;refine CI.p (qho a) Tryz.call376 9999 ?_;simp;refine CI.p (qho b) Tryz.call376 9999 ?_;simp;refine sBI (fun h1=>?_) (fun h1=>?_)<;>simp only[h1]<;>simp<;>(try simp only[nT,nF,dT,dF]at h1)
 ·first|exact fin0 (by simp[h1]) rfl|exact zaa (by simp[h1])
 refine sBI (fun h2=>?_) (fun h2=>?_)<;>simp only[h2]<;>simp<;>(try simp only[nT,nF,dT,dF]at h2)
 ·first|exact fin0 (by simp[h1,h2]) rfl|exact zaa (by simp[h1,h2])
 ·first|exact fin0 (by simp[h1,h2]) rfl|exact zaa (by simp[h1,h2])
def orI (l:List Int):Int:=(l.find? fun x=>!decide (x=0)).getD 0
attribute [simp] Tryz.ntmps340 Tryz.results340
theorem or_p (l:List Int)(hl:l.length≤9223372036854775807):Ct Tryz.prog 340 [.own 0] [(0,.grow 1 (l.map intC) 3)] [] (int (orI l)) []:=by
 refine Ct.B Tryz.func340 mixed 9999 400 ?_;simp;refine LoopI.inv mixed rfl (ι:={k:Nat//k≤(l).length∧(l.take k).all (fun x=>!!decide (x=0))=true}) (fun k=>[(3,int 0),(6,.own 0),(7,int l.length),(8,int k.1)]) (fun k=>[(0,.grow 1 (l.map intC) 3)]) 64 (fun k=>(l).length-k.1) ⟨0,by omega,by simp⟩ [] (by constructor<;>simp) ?_;rintro⟨k,hk1,hi⟩ B hB;refine CI.run 9999 400 rfl ?_;simp;refine sBI (fun h=>?_) (fun h=>?_)
 ·have hk:k<(l).length:=by simpa using h
  obtain⟨x,hx,hr,hm,ht,hd⟩:=inL hk;have hw:=wr (k:=k) (by omega);simp only[h];simp[hr,hw,hk];refine sBI (fun h1=>?_) (fun h1=>?_)<;>simp only[h1]<;>simp[hx]<;>(try simp only[nT,nF,dT,dF]at h1)
  ·rw[hx]at h1;have e:orI l=x:=by simp[orI,ztl hi hr (by simpa using h1)]
   first| (refine⟨[],?_,?_,?_,?_,?_,?_,?_⟩<;>simp[nmF,inB,e,hx];done)| (refine⟨by decide+kernel,?_⟩;refine⟨[],?_,?_,?_,?_,?_,?_,?_⟩<;>simp[nmF,inB,e,hx])
  ·rw[hx]at h1;refine hB _ ⟨k+1,by omega,by rw[ht,List.all_append,hi];simp[h1]⟩ [] ?_ (by simp;omega);constructor<;>simp[hw]
 ·have hkl:k=(l).length:=by simp at h;omega
  subst hkl;simp only[h];simp[List.take_length,List.drop_length];rw[List.take_length]at hi;have e:orI l=0:=by simp[orI,zpq hi]
  first| (refine⟨[],?_,?_,?_,?_,?_,?_,?_⟩<;>simp[nmF,inB,e];done)| (refine⟨by decide+kernel,?_⟩;refine⟨[],?_,?_,?_,?_,?_,?_,?_⟩<;>simp[nmF,inB,e])
attribute [simp] Tryz.ntmps288 Tryz.results288
theorem qis (a b:Key):Ct Tryz.prog 288 [st (keyC a),st (keyC b)] [] [] (int (cmpK a b)) []:=by
 refine Ct.B Tryz.func288 mixed 9999 400 ?_;simp;refine CI.p (zwr a.kind b.kind) Tryz.call341 9999 ?_;simp;refine CI.p (qxg a.name b.name) Tryz.call342 9999 ?_;simp;refine CI.cc [896] (or_p [if a.kind<b.kind then-1 else if b.kind<a.kind then 1 else 0,cmpS a.name b.name] (by simp)) Tryz.call340 9999 ?_;simp;refine⟨by decide+kernel,?_⟩;have e:orI [if a.kind<b.kind then-1 else if b.kind<a.kind then 1 else 0,cmpS a.name b.name]=cmpK a b:=by
  unfold orI cmpK;by_cases h1:a.kind<b.kind
  ·simp[h1]
  ·by_cases h2:b.kind<a.kind
   ·simp[h1,h2]
   ·by_cases h3:cmpS a.name b.name=0<;>simp[h1,h2,h3]
 first|exact fin0 (by simp[e]) rfl|exact zaa (by simp[e])
attribute [simp] Tryz.ntmps339 Tryz.results339
theorem isP (k_:Key)(r:Res):Ct Tryz.prog 339 [st (resC r),.d (.pro (keyC k_))] [] [] (bool (decide (r.key=k_))) []:=by
 refine Ct.B Tryz.func339 mixed 9999 400 ?_;simp;refine CI.p (zf1 r) Tryz.call165 9999 ?_;simp;rw[zrg];refine⟨by decide+kernel,?_⟩;first|exact fin0 (by simp) rfl|exact zaa (by simp)
attribute [simp] Tryz.ntmps283 Tryz.results283
theorem is_p (k_:Key):Ct Tryz.prog 283 [st (keyC k_)] [] [] (.d (.fn (.func 339) [] [.pro (keyC k_)])) []:=by
 refine Ct.B Tryz.func283 mixed 9999 400 ?_;simp;first|exact fin0 (by simp) rfl|exact zaa (by simp)
attribute [simp] Tryz.ntmps229 Tryz.results229
theorem qrw (l:List Res)(k_:Key)(hl:l.length≤9223372036854775807):Ct Tryz.prog 229 [lst (l.map resC),st (keyC k_)] [] [] (getA l k_) []:=by
 refine Ct.B Tryz.func229 mixed 9999 400 ?_;simp;refine CI.p (is_p k_) Tryz.call283 9999 ?_;simp;refine CI.p (ztb l (.fn (.func 339) [] [.pro (keyC k_)]) (fun r=>decide (r.key=k_)) (fun r hr=>FnOk.clo (by exact isP k_ r) Tryz.call339 rfl rfl) hl) Tryz.call141 9999 ?_;simp;rcases zja (fun r:Res=>decide (r.key=k_)) l with⟨h1,h2⟩|⟨i,x,h1,h2,h3,h4⟩
 ·have e:getR l k_=none:=h2;simp[h1];first|exact fin0 (by simp[e,zRes]) rfl|exact zaa (by simp[e,zRes])
 ·have e:getR l k_=some x:=h4;have hx:l[i]=x:=by rw[List.getElem?_eq_getElem h2]at h3;exact Option.some.inj h3
  simp[h1,h2,h3,hx];first|exact fin0 (by simp[e]) rfl|exact zaa (by simp[e])
attribute [simp] Tryz.ntmps286 Tryz.results286
theorem ztm (l:List Res)(kf:D)(p:Res→Bool)(hf:∀x∈l,FnOk Tryz.prog (.d kf) [st (resC x)] (bool (p x)))(hl:l.length≤1000000):Ct Tryz.prog 286 [lst (l.map resC),.d kf] [] [] (lst ((l.filter p).map resC)) []:=by
 refine Ct.B Tryz.func286 mixed 9999 400 ?_;simp;refine LoopI.nilOwn 5 7 146 rfl ?_;refine LoopI.U mixed (l) (fun k=>[(0,lst (l.map resC)),(1,.d kf),(5,.own 64),(8,lst (l.map resC)),(9,int l.length),(10,int k.1)]) (fun k=>[(64,.grow 7 (((l.take k.1).filter p).map resC) 146)]) 65 [] (by constructor<;>simp) ?_;rintro⟨k,hk1⟩ B hB;refine CI.run 9999 400 rfl ?_;simp;refine sBI (fun h=>?_) (fun h=>?_)
 ·have hk:k<(l).length:=by simpa using h
  obtain⟨x,hx,hr,hm,ht,hd⟩:=inL hk;have hw:=wr (k:=k) (by omega);simp only[h];simp[hr,hw];have hlen:((l.take k).filter p).length≤1000000:=Nat.le_trans (List.length_filter_le _ _) (by simp;omega);refine CI.ff (hf x hm) rfl rfl rfl 9999 ?_;simp;refine sBI (fun h1=>?_) (fun h1=>?_)<;>simp only[h1]<;>simp[hr]<;>(try simp only[nT,nF,dT,dF]at h1)
  ·refine⟨by omega,?_⟩;refine hB _ ⟨k+1,by omega⟩ [] ?_ (by simp;omega);constructor<;>simp[hw,ht,List.filter_append,h1]
  ·refine hB _ ⟨k+1,by omega⟩ [] ?_ (by simp;omega);constructor<;>simp[hw,ht,List.filter_append,h1]
 ·have hkl:k=(l).length:=by simp at h;omega
  subst hkl;simp only[h];simp[List.take_length,List.drop_length];first|exact fin0 (by simp) rfl|exact zaa (by simp)
attribute [simp] Tryz.ntmps287 Tryz.results287
theorem qs5 (k_:Key)(c:Int)(r:Res):Ct Tryz.prog 287 [st (resC r),.d (.pro (keyC k_)),.d (.pro [iD c])] [] [] (bool (decide (cmpK r.key k_=c))) []:=by
 refine Ct.B Tryz.func287 mixed 9999 400 ?_;simp;refine CI.p (zf1 r) Tryz.call165 9999 ?_;simp;refine CI.p (qis r.key k_) Tryz.call288 9999 ?_;simp;refine⟨by decide+kernel,?_⟩;first|exact fin0 (by simp) rfl|exact zaa (by simp)
attribute [simp] Tryz.ntmps285 Tryz.results285
theorem qna (l:List Res)(k_:Key)(c:Int)(hl:l.length≤1000000):Ct Tryz.prog 285 [int c,.d (.pro [lD (l.map resC)]),.d (.pro (keyC k_))] [] [] (lst ((zj5 l k_ c).map resC)) []:=by
 refine Ct.B Tryz.func285 mixed 1 400 ?_;simp;refine CI.s (tm:=[(1,.d (.pro [lD (l.map resC)])),(2,.d (.pro (keyC k_))),(3,.d (.pro [iD c]))]) (mm:=[]) (nx:=65) [] [64] (by constructor<;>simp) ?_;refine CI.run 9999 400 rfl ?_;simp;refine CI.p (ztm l (.fn (.func 287) [] [.pro (keyC k_),.pro [iD c]]) (fun r=>decide (cmpK r.key k_=c)) (fun r hr=>FnOk.clo (by exact qs5 k_ c r) Tryz.call287 rfl rfl) hl) Tryz.call286 9999 ?_;simp;first|exact fin0 (by simp) rfl|exact zaa (by simp)
end Go.Proofs.YtekckhepcdndcaaGreatDoor
namespace Go.Proofs.YtekckhepcdndcaaGreatDoor
open Go.AI Go.G
set_option maxRecDepth 20000
abbrev qn7 :List D:=[iD 0,sD ⟨#[]⟩,iD 0,iD 0,sD ⟨#[]⟩,.v (.slice none 0 0),.v (.slice none 0 0)]
attribute [simp] Tryz.ntmps343 Tryz.results343
theorem qw8 (n:Int)(h0:0<n)(h1:n≤2000000):Ct Tryz.prog 343 [.d (.v (.slice none 0 0)),int n] [] [] (.sl 64 7 0 0) [(64,.grow 7 (List.replicate n.toNat qn7) 146)]:=by
 refine Ct.B Tryz.func343 mixed 9999 400 ?_;simp;have g1:¬n<0:=by omega
 have g2:IntKind.wrap .i64 n=n:=zab (by omega) (by omega);simp[g1,g2,h0];refine⟨⟨by omega,by omega⟩,by omega,?_⟩;first| (refine⟨[(64,1216)],?_,?_,?_,?_,?_,?_,?_⟩<;>simp[nmF,inB,qn7];done)| (refine⟨by decide+kernel,?_⟩;refine⟨[(64,1216)],?_,?_,?_,?_,?_,?_,?_⟩<;>simp[nmF,inB,qn7])
attribute [simp] Tryz.ntmps289 Tryz.results289
theorem qr5 (a b c:List Res)(h0:0<a.length+b.length+c.length)(h1:a.length+b.length+c.length≤2000000):Ct Tryz.prog 289 [.own 0] [(0,.grow 1 [[lD (a.map resC)],[lD (b.map resC)],[lD (c.map resC)]] 45)] [] (.own 64) [(64,.grow 7 ((a++b++c).map resC) 146)]:=by
 refine Ct.B Tryz.func289 mixed 9999 400 ?_;simp;have w1:IntKind.wrap .i64 (a.length:Int)=a.length:=zab (by omega) (by omega);have w2:IntKind.wrap .i64 ((a.length:Int)+b.length)=a.length+b.length:=zab (by omega) (by omega);have w3:IntKind.wrap .i64 ((a.length:Int)+b.length+c.length)=a.length+b.length+c.length:=zab (by omega) (by omega);have v1:¬((a.length:Int)<0):=by omega
 have v2:¬((a.length:Int)+b.length<0):=by omega
 have v3:¬((a.length:Int)+b.length+c.length<0):=by omega
 refine LoopI.unroll mixed (Plain.retC _ _ _ _ _) rfl ?_;refine CI.run 9999 400 rfl ?_;simp[w1,v1];refine LoopI.unroll mixed (Plain.retC _ _ _ _ _) rfl ?_;refine CI.run 9999 400 rfl ?_;simp[w2,v2];refine LoopI.unroll mixed (Plain.retC _ _ _ _ _) rfl ?_;refine CI.run 9999 400 rfl ?_;simp[w3,v3];refine LoopI.unroll mixed (Plain.retC _ _ _ _ _) rfl ?_;refine CI.run 9999 400 rfl ?_;simp;refine CI.cc [] (qw8 ((a.length:Int)+b.length+c.length) (by omega) (by omega)) Tryz.call343 9999 ?_;simp;refine LoopI.unroll mixed (Plain.retC _ _ _ _ _) rfl ?_;refine CI.run 9999 400 rfl ?_;simp;refine⟨by omega,?_⟩;refine LoopI.unroll mixed (Plain.retC _ _ _ _ _) rfl ?_;refine CI.run 9999 400 rfl ?_;simp;refine⟨by omega,?_⟩;refine LoopI.unroll mixed (Plain.retC _ _ _ _ _) rfl ?_;refine CI.run 9999 400 rfl ?_;simp;refine⟨by omega,?_⟩;refine LoopI.unroll mixed (Plain.retC _ _ _ _ _) rfl ?_;refine CI.run 9999 400 rfl ?_;simp;first| (refine⟨[(64,4992)],?_,?_,?_,?_,?_,?_,?_⟩<;>simp[nmF,inB];done)| (refine⟨by decide+kernel,?_⟩;refine⟨[(64,4992)],?_,?_,?_,?_,?_,?_,?_⟩<;>simp[nmF,inB])
attribute [simp] Tryz.ntmps231 Tryz.results231
theorem qm9 (l:List Res)(r:Res)(hl:l.length≤1000000):Ct Tryz.prog 231 [lst (l.map resC),st (resC r)] [] [] (lst ((zgh l r).map resC)) []:=by
 refine Ct.B Tryz.func231 mixed 2 400 ?_;simp;refine CI.p (zf1 r) Tryz.call165 2 ?_;simp;refine CI.s (tm:=[(2,.d (.pro [lD (l.map resC)])),(3,.ptr 64 0),(5,.d (.pro (keyC r.key)))]) (mm:=[(64,.cells ((resC r).map .d) 146)]) (nx:=65) [(64,128)] [64,384] (by constructor<;>simp) ?_;refine CI.run 9999 400 rfl ?_;simp;refine CI.ff (FnOk.clo (args:=[int (-1)]) (by exact qna l r.key (-1) hl) Tryz.call285 rfl rfl) rfl rfl rfl 9999 ?_;simp;refine CI.ff (FnOk.clo (args:=[int 1]) (by exact qna l r.key 1 hl) Tryz.call285 rfl rfl) rfl rfl rfl 9999 ?_;simp;have h1:=zt5 l r;simp only[zgh,List.length_append,List.length_cons,List.length_nil]at h1;refine CI.cc [577] (qr5 (zj5 l r.key (-1)) [r] (zj5 l r.key 1) (by simp;omega) (by simp only[List.length_cons,List.length_nil];omega)) Tryz.call289 9999 ?_;simp;first|exact fin0 (by simp) rfl|exact zaa (by simp)
attribute [simp] Tryz.ntmps228 Tryz.results228
theorem qa9 :Ct Tryz.prog 228 [lst []] [] [] (lst []) []:=by
 refine Ct.B Tryz.func228 mixed 9999 400 ?_;simp;refine⟨?_,?_⟩
 ·first|exact fin0 (by simp) rfl|exact zaa (by simp)
 ·first|exact fin0 (by simp) rfl|exact zaa (by simp)
theorem ztp (x:Res)(l:List Res)(hl:l.length≤1000000):Ct Tryz.prog 228 [lst ((x::l).map resC)] [] [] (.own 64) [(64,.grow 7 ((x::l).map resC) 146)]:=by
 refine Ct.B Tryz.func228 mixed 9999 400 ?_;simp;refine⟨by omega,?_⟩;first| (refine⟨[(64,384)],?_,?_,?_,?_,?_,?_,?_⟩<;>simp[nmF,inB];done)| (refine⟨by decide+kernel,?_⟩;refine⟨[(64,384)],?_,?_,?_,?_,?_,?_,?_⟩<;>simp[nmF,inB])
attribute [simp] Tryz.ntmps141 Tryz.results141
theorem qls (l:List Res)(kf:D)(p:Res→Bool)(hf:∀x∈l,FnOk Tryz.prog (.d kf) [st (resC x)] (bool (p x)))(hl:l.length≤9223372036854775807):Ct Tryz.prog 141 [.own 0,.d kf] [(0,.grow 7 (l.map resC) 146)] [] (int (idxF p l)) []:=by
 refine Ct.B Tryz.func141 mixed 9999 400 ?_;simp;refine LoopI.inv mixed rfl (ι:={k:Nat//k≤(l).length∧(l.take k).all (fun x=>!p x)=true}) (fun k=>[(0,.own 0),(1,.d kf),(7,int l.length),(8,int k.1)]) (fun k=>[(0,.grow 7 (l.map resC) 146)]) 64 (fun k=>(l).length-k.1) ⟨0,by omega,by simp⟩ [] (by constructor<;>simp) ?_;rintro⟨k,hk1,hi⟩ B hB;refine CI.run 9999 400 rfl ?_;simp;refine sBI (fun h=>?_) (fun h=>?_)
 ·have hk:k<(l).length:=by simpa using h
  obtain⟨r,hx,hr,hm,ht,hd⟩:=inL hk;have hw:=wr (k:=k) (by omega);simp only[h];simp[hr,hw,hk];refine CI.ff (hf r hm) rfl rfl rfl 9999 ?_ (ha:=by simp[hx]);simp[hx];refine sBI (fun hp=>?_) (fun hp=>?_)<;>simp only[hp]<;>simp
  ·have e:=zcr hi hr hp;first| (refine⟨[],?_,?_,?_,?_,?_,?_,?_⟩<;>simp[nmF,inB,e];done)| (refine⟨by decide+kernel,?_⟩;refine⟨[],?_,?_,?_,?_,?_,?_,?_⟩<;>simp[nmF,inB,e])
  ·refine hB _ ⟨k+1,by omega,by simp[ht,hi,hp]⟩ [] ?_ (by simp;omega);constructor<;>simp[hw,ht,hp]
 ·have hkl:k=(l).length:=by simp at h;omega
  subst hkl;simp only[h];simp[List.take_length,List.drop_length];rw[List.take_length]at hi;have e:idxF p l= -1:=zbc (fun x hx=>by have:=List.all_eq_true.1 hi x hx;simpa using this);first| (refine⟨[],?_,?_,?_,?_,?_,?_,?_⟩<;>simp[nmF,inB,e];done)| (refine⟨by decide+kernel,?_⟩;refine⟨[],?_,?_,?_,?_,?_,?_,?_⟩<;>simp[nmF,inB,e])
attribute [simp] Tryz.ntmps284 Tryz.results284
theorem delE (kf:D):Ct Tryz.prog 284 [lst [],.d kf] [] [] (lst []) []:=by
 refine Ct.B Tryz.func284 mixed 9999 400 ?_;simp;refine CI.p (ztb [] kf (fun _=>false) (fun x hx=>by simp at hx) (by simp)) Tryz.call141 9999 ?_;simp;simp[idxF];first|exact fin0 (by simp) rfl|exact zaa (by simp)
theorem delC (l:List Res)(kf:D)(p:Res→Bool)(hf:∀x∈l,FnOk Tryz.prog (.d kf) [st (resC x)] (bool (p x)))(hl:l.length≤1000000):Ct Tryz.prog 284 [.own 0,.d kf] [] [(0,.grow 7 (l.map resC) 146)] (lst ((l.filter fun x=>!p x).map resC)) []:=by
 refine Ct.B Tryz.func284 mixed 9999 400 ?_;simp;refine CI.cc [0] (qls l kf p hf (by omega)) Tryz.call141 9999 ?_;simp;rcases zja p l with⟨h1,h2⟩|⟨i,x,h1,h2,h3,h4⟩
 ·have e:(l.filter fun x=>!p x)=l:=by
   rw[List.filter_eq_self];intro a ha;have:=List.find?_eq_none.1 h2 a ha;simpa using this
  simp[h1];first| (refine⟨[],?_,?_,?_,?_,?_,?_,?_⟩<;>simp[nmF,inB,e];done)| (refine⟨by decide+kernel,?_⟩;refine⟨[],?_,?_,?_,?_,?_,?_,?_⟩<;>simp[nmF,inB,e])
 ·have hne:¬(i:Int)= -1:=by omega
  have hwi:IntKind.wrap .i64 ((i:Int)+1)=i+1:=zab (by omega) (by omega);simp[h1,hne,hwi];have d0:=DelSt.start (x:=x) h1 h2;refine LoopI.inv mixed rfl (ι:={q:Nat×Nat×List Res//DelSt p l q.1 q.2.1 q.2.2}) (fun k=>[(0,.own 0),(1,.d kf),(5,int k.1.2.1),(6,int k.1.1)]) (fun k=>[(0,.grow 7 (k.1.2.2.map resC) 146)]) 64 (fun k=>l.length-k.1.1) ⟨(i+1,i,l),d0⟩ [] (by constructor<;>simp) ?_;rintro⟨⟨j,i,cur⟩,hd⟩ B hB;clear h1 h2 h3 h4 hne hwi d0;have hlen:=hd.len;have hlt:=hd.lt;have hle:=hd.le;simp only at hlen hlt hle;have w1:IntKind.wrap .i64 ((j:Int)+1)=j+1:=zab (by omega) (by omega);have w2:IntKind.wrap .i64 ((i:Int)+1)=i+1:=zab (by omega) (by omega);refine CI.run 9999 400 rfl ?_;simp[hlen];refine sBI (fun h=>?_) (fun h=>?_)<;>simp only[h]<;>simp<;>(try simp only[nT,nF,dT,dF]at h)
  ·have hj:j<l.length:=by omega
   have hv:l[j]? =some l[j]:=List.getElem?_eq_getElem hj;have hm:l[j]∈l:=List.getElem_mem hj;generalize l[j]=v at hv hm;have hg:=hd.get hv;have hjc:j<cur.length:=by omega
   have hgx:cur[j]=v:=by rw[List.getElem?_eq_getElem hjc]at hg;exact Option.some.inj hg
   simp[hjc,hgx];refine CI.ff (hf v hm) rfl rfl rfl 9999 ?_;simp;have hic:i<cur.length:=by omega
   refine sBI (fun h2=>?_) (fun h2=>?_)<;>simp only[h2]<;>simp[hic]
   ·have hp:p v=false:=by simpa using h2
    refine hB _ ⟨(j+1,i+1,cur.set i v),hd.keep hv hp⟩ [] ?_ (by simp;omega);constructor<;>simp[w1,w2,List.map_set]
   ·have hp:p v=true:=by simpa using h2
    refine hB _ ⟨(j+1,i,cur),hd.del hv hp⟩ [] ?_ (by simp;omega);constructor<;>simp[w1]
  ·have hj:j=l.length:=by omega
   subst hj;have e:cur.take i=l.filter (fun x=>!p x):=hd.done;simp[hlen];have e2:List.take i (List.map resC cur)=List.map resC (List.filter (fun x=>!p x) l):=by rw[←List.map_take,e]
   have e3:(List.filter (fun x=>!p x) l).length=i:=by rw[←e,List.length_take];omega
   refine⟨by omega,by omega,by omega,?_⟩;rw[e2];first| (refine⟨[],?_,?_,?_,?_,?_,?_,?_⟩<;>simp[nmF,inB,e3,List.take_append,show i≤i+(l.length-i+(l.length-(i+(l.length-i))))from by omega];done)| (refine⟨by decide+kernel,?_⟩;refine⟨[],?_,?_,?_,?_,?_,?_,?_⟩<;>simp[nmF,inB,e3,List.take_append,show i≤i+(l.length-i+(l.length-(i+(l.length-i))))from by omega])
attribute [simp] Tryz.ntmps230 Tryz.results230
theorem qd2 (l:List Res)(k_:Key)(hl:l.length≤1000000):Ct Tryz.prog 230 [lst (l.map resC),st (keyC k_)] [] [] (lst ((zcf l k_).map resC)) []:=by
 refine Ct.B Tryz.func230 mixed 9999 400 ?_;simp;cases l with
 |nil=>
  refine CI.p qa9 Tryz.call228 9999 ?_;simp;refine CI.p (is_p k_) Tryz.call283 9999 ?_;simp;refine CI.p (delE (.fn (.func 339) [] [.pro (keyC k_)])) Tryz.call284 9999 ?_;simp;first|exact fin0 (by simp) rfl|exact zaa (by simp)
 |cons x l=>
  refine CI.cc [] (ztp x l (by simp at hl;omega)) Tryz.call228 9999 ?_;simp;refine CI.p (is_p k_) Tryz.call283 9999 ?_;simp;refine CI.cc [256] (delC (x::l) (.fn (.func 339) [] [.pro (keyC k_)]) (fun r=>decide (r.key=k_)) (fun r hr=>FnOk.clo (by exact isP k_ r) Tryz.call339 rfl rfl) hl) Tryz.call284 9999 ?_;simp;first|exact fin0 (by simp) rfl|exact zaa (by simp)
attribute [simp] Tryz.ntmps184 Tryz.results184
theorem zso (l adds:List Res)(gone:List Key)(hl:l.length+adds.length≤1000000)(hg:gone.length≤9223372036854775807):Ct Tryz.prog 184 [lst (l.map resC),lst (adds.map resC),lst (gone.map keyC)] [] [] (lst ((zbk l adds gone).map resC)) []:=by
 refine Ct.B Tryz.func184 mixed 9999 400 ?_;simp;refine LoopI.U mixed (gone) (fun k=>[(0,lst (((gone.take k.1).foldl zcf l).map resC)),(1,lst (adds.map resC)),(11,lst (gone.map keyC)),(12,int gone.length),(13,int k.1)]) (fun k=>[]) 64 [] (by constructor<;>simp) ?_;rintro⟨k,hk1⟩ B hB;refine CI.run 9999 400 rfl ?_;simp;refine sBI (fun h=>?_) (fun h=>?_)
 ·have hk:k<(gone).length:=by simpa using h
  obtain⟨x,hx,hr,hm,ht,hd⟩:=inL hk;have hw:=wr (k:=k) (by omega);simp only[h];simp[hr,hw];have h1:=zdo (gone.take k) l;refine CI.p (qd2 ((gone.take k).foldl zcf l) x (by omega)) Tryz.call230 9999 ?_;simp;refine hB _ ⟨k+1,by omega⟩ [] ?_ (by simp;omega);constructor<;>simp[hw,ht,List.foldl_append]
 ·have hkl:k=(gone).length:=by simp at h;omega
  subst hkl;simp only[h];simp[List.take_length,List.drop_length];have h1:=zdo gone l;refine LoopI.U mixed (adds) (fun k=>[(0,lst (((adds.take k.1).foldl zgh (gone.foldl zcf l)).map resC)),(21,lst (adds.map resC)),(22,int adds.length),(23,int k.1)]) (fun k=>[]) 64 [] (by constructor<;>simp) ?_;rintro⟨k,hk1⟩ B hB;refine CI.run 9999 400 rfl ?_;simp;refine sBI (fun h=>?_) (fun h=>?_)
  ·have hk:k<(adds).length:=by simpa using h
   obtain⟨x,hx,hr,hm,ht,hd⟩:=inL hk;have hw:=wr (k:=k) (by omega);simp only[h];simp[hr,hw];have h2:=ze8 (adds.take k) (gone.foldl zcf l);have h3:(adds.take k).length≤adds.length:=by simp;omega
   refine CI.p (qm9 ((adds.take k).foldl zgh (gone.foldl zcf l)) x (by omega)) Tryz.call231 9999 ?_;simp;refine hB _ ⟨k+1,by omega⟩ [] ?_ (by simp;omega);constructor<;>simp[hw,ht,List.foldl_append]
  ·have hkl:k=(adds).length:=by simp at h;omega
   subst hkl;simp only[h];simp[List.take_length,List.drop_length];first|exact fin0 (by simp[zbk]) rfl|exact zaa (by simp[zbk])
attribute [simp] Tryz.ntmps392 Tryz.results392
theorem qu9 (l:List Key)(k_:Key)(hl:l.length≤9223372036854775807):Ct Tryz.prog 392 [lst (l.map keyC),st (keyC k_)] [] [] (int (idxF (fun x=>decide (k_=x)) l)) []:=by
 refine Ct.B Tryz.func392 mixed 9999 400 ?_;simp;refine LoopI.inv mixed rfl (ι:={k:Nat//k≤(l).length∧(l.take k).all (fun x=>!decide (k_=x))=true}) (fun k=>[(0,lst (l.map keyC)),(3,.ptr 64 0),(6,lst (l.map keyC)),(7,int l.length),(8,int k.1)]) (fun k=>[(64,.cells ((keyC k_).map .d) 135)]) 65 (fun k=>(l).length-k.1) ⟨0,by omega,by simp⟩ [] (by constructor<;>simp) ?_;rintro⟨k,hk1,hi⟩ B hB;refine CI.run 9999 400 rfl ?_;simp;refine sBI (fun h=>?_) (fun h=>?_)
 ·have hk:k<(l).length:=by simpa using h
  obtain⟨r,hx,hr,hm,ht,hd⟩:=inL hk;have hw:=wr (k:=k) (by omega);simp only[h];simp[hr,hw];rw[zrg];refine⟨by decide+kernel,?_⟩;refine sBI (fun h1=>?_) (fun h1=>?_)<;>simp only[h1]<;>simp[hr]<;>(try simp only[nT,nF,dT,dF]at h1)
  ·have e:=zcr hi hr (by simpa using h1);first|exact fin0 (by simp[e]) rfl|exact zaa (by simp[e])
  ·refine hB _ ⟨k+1,by omega,by simp[ht,hi,h1]⟩ [] ?_ (by simp;omega);constructor<;>simp[hw,ht,h1]
 ·have hkl:k=(l).length:=by simp at h;omega
  subst hkl;simp only[h];simp[List.take_length,List.drop_length];rw[List.take_length]at hi;have e:idxF (fun x=>decide (k_=x)) l= -1:=zbc (fun x hx=>by have:=List.all_eq_true.1 hi x hx;simpa using this);first|exact fin0 (by simp[e]) rfl|exact zaa (by simp[e])
attribute [simp] Tryz.ntmps356 Tryz.results356
theorem qn0 (l:List Key)(k_:Key)(hl:l.length≤9223372036854775807):Ct Tryz.prog 356 [lst (l.map keyC),st (keyC k_)] [] [] (bool (decide (k_∈l))) []:=by
 refine Ct.B Tryz.func356 mixed 9999 400 ?_;simp;refine CI.p (qu9 l k_ hl) Tryz.call392 9999 ?_;simp;rw[zgb];have e:(l.any fun x=>decide (k_=x))=decide (k_∈l):=by rw[Bool.eq_iff_iff];simp
 first|exact fin0 (by simp[e]) rfl|exact zaa (by simp[e])
end Go.Proofs.YtekckhepcdndcaaGreatDoor
