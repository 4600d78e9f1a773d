/-
  LAYERS 3 to 14: the walks of keys, references, configurations, of the program and of the reference.
-/
import Derived.Test.YtjoaclgkjhncjaaGreatDoorWa
import Derived.Test.YtjoaclgkjhncjaaGreatDoorPl
set_option linter.unusedSimpArgs false
set_option linter.unusedVariables false
namespace Go.Proofs.YtjoaclgkjhncjaaGreatDoor
open Go.AI Go.G
set_option maxRecDepth 20000
attribute [simp] Tryz.ntmps46 Tryz.results46
theorem zfr (r:Res):Ct Tryz.prog 46 [st (resC r)] [] [] (st (keyC r.key)) []:=by
 refine Ct.B Tryz.func46 mixed 9999 400 ?_;simp;first|exact fin0 (by simp[Res.key]) rfl|exact zaa (by simp[Res.key])
end Go.Proofs.YtjoaclgkjhncjaaGreatDoor
namespace Go.Proofs.YtjoaclgkjhncjaaGreatDoor
open Go.AI Go.G
set_option maxRecDepth 20000
attribute [simp] Tryz.ntmps109 Tryz.results109
theorem qnf (r:Res)(hl:r.rules.length≤9223372036854775807):Ct Tryz.prog 109 [st (resC r)] [] [] (bool (zgq r)) []:=by
 refine Ct.B Tryz.func109 mixed 9999 400 ?_;simp;refine LoopI.inv mixed rfl (ι:={k:Nat//k≤(r.rules).length∧(r.rules.take k).all zfg=true}) (fun k=>[(1,.ptr 64 0),(3,int k.1)]) (fun k=>[(64,.cells ((resC r).map .d) 67)]) 65 (fun k=>(r.rules).length-k.1) ⟨0,by omega,by simp⟩ [] (by constructor<;>simp) ?_;rintro⟨k,hk1,hi⟩ B hB;refine CI.run 9999 400 rfl ?_;simp;refine sBI (fun h=>?_) (fun h=>?_)
 ·have hk:k<(r.rules).length:=by simpa using h
  obtain⟨x,hx,hr,hm,ht,hd⟩:=inL hk;have hw:=wr (k:=k) (by omega);simp only[h];simp[hr,hw];have ef:zfg x=false→zgq r=false:=fun e=>by
   have:r.rules.all zfg=false:=by rw[List.all_eq_false];exact⟨x,hm,by simp[e]⟩
   simp only[zgq,this,Bool.false_and]
  have s1:=zbq x.host;have s2:=zbq x.pre;refine sGI (fun h1=>?_) (fun h1=>?_)<;>simp only[h1]<;>simp[hr]<;>(try simp only[nT,nF,dT,dF]at h1)
  ·first|exact fin0 (by simp[ef (by simp[zfg];omega)]) rfl|exact zaa (by simp[ef (by simp[zfg];omega)])
  refine sGI (fun h2=>?_) (fun h2=>?_)<;>simp only[h2]<;>simp[hr]<;>(try simp only[nT,nF,dT,dF]at h2)
  ·first|exact fin0 (by simp[ef (by simp[zfg];omega)]) rfl|exact zaa (by simp[ef (by simp[zfg];omega)])
  refine sBI (fun h3=>?_) (fun h3=>?_)<;>simp only[h3]<;>simp[hr]<;>(try simp only[nT,nF,dT,dF]at h3)
  ·first|exact fin0 (by simp[ef (by simp[zfg];omega)]) rfl|exact zaa (by simp[ef (by simp[zfg];omega)])
  ·have e:zfg x=true:=by simp[zfg];omega
   refine hB _ ⟨k+1,by omega,by simp[ht,hi,e]⟩ [] ?_ (by simp;omega);constructor<;>simp[hw,ht,e]
 ·have hkl:k=(r.rules).length:=by simp at h;omega
  subst hkl;simp only[h];simp[List.take_length,List.drop_length];rw[List.take_length]at hi;have s3:=zbq r.name;have s4:=zbq r.to;refine sGI (fun g1=>?_) (fun g1=>?_)<;>simp only[g1]<;>simp<;>(try simp only[nT,nF,dT,dF]at g1)
  ·have a1:r.rules.length≤20:=by omega
   refine sGI (fun g2=>?_) (fun g2=>?_)<;>simp only[g2]<;>simp<;>(try simp only[nT,nF,dT,dF]at g2)
   ·have a2:r.hosts.length≤20:=by omega
    refine sGI (fun g3=>?_) (fun g3=>?_)<;>simp only[g3]<;>simp<;>(try simp only[nT,nF,dT,dF]at g3)
    ·have a3:(bs r.name).length≤100:=by omega
     by_cases g4:(bs r.to).length≤100
     ·exact fin0 (by simp[zgq,hi,a1,a2,a3,g4,s4];try omega) rfl
     ·exact fin0 (by simp[zgq,hi,a1,a2,a3,g4,s4];try omega) rfl
    ·have a3:¬(bs r.name).length≤100:=by omega
     first|exact fin0 (by simp[zgq,a3]) rfl|exact zaa (by simp[zgq,a3])
   ·have a2:¬r.hosts.length≤20:=by omega
    first|exact fin0 (by simp[zgq,a2]) rfl|exact zaa (by simp[zgq,a2])
  ·have a1:¬r.rules.length≤20:=by omega
   first|exact fin0 (by simp[zgq,a1]) rfl|exact zaa (by simp[zgq,a1])
attribute [simp] Tryz.ntmps171 Tryz.results171
theorem qq4 (a b:List Rule)(hl:a.length≤9223372036854775807∧∀x∈a,x.split.length≤9223372036854775807):Ct Tryz.prog 171 [lst (a.map zbk),lst (b.map zbk)] [] [] (bool (decide (a=b))) []:=by
 refine Ct.B Tryz.func171 mixed 9999 400 ?_;simp;obtain⟨hl1,hl2⟩:=hl;refine sBI (fun h1=>?_) (fun h1=>?_)<;>simp only[h1]<;>simp<;>(try simp only[nT,nF,dT,dF]at h1)
 ·have e:¬a=b:=fun e=>h1 (by rw[e])
  first|exact fin0 (by simp[e]) rfl|exact zaa (by simp[e])
 have hab:a.length=b.length:=by omega
 refine LoopI.inv mixed rfl (ι:={k:Nat//k≤(a).length∧a.take k=b.take k}) (fun k=>[(0,lst (a.map zbk)),(1,lst (b.map zbk)),(5,int k.1)]) (fun k=>[]) 64 (fun k=>(a).length-k.1) ⟨0,by omega,by simp⟩ [] (by constructor<;>simp) ?_;rintro⟨k,hk1,hi⟩ B hB;refine CI.run 9999 400 rfl ?_;simp;refine sBI (fun h=>?_) (fun h=>?_)
 ·have hk:k<(a).length:=by simpa using h
  obtain⟨x,hx,hr,hm,ht,hd⟩:=inL hk;have hw:=wr (k:=k) (by omega);simp only[h];simp[hr,hw];have hrb:b[k]? =some b[k]:=List.getElem?_eq_getElem (by omega);have htb:b.take (k+1)=b.take k++[b[k]]:=by rw[List.take_add_one,hrb];rfl
  have hne:x≠b[k]→a≠b:=by
   intro h2 e;subst e;rw[hr]at hrb;cases hrb;exact h2 rfl
  generalize b[k]=y at hrb htb hne;simp[hrb];refine sGI (fun h2=>?_) (fun h2=>?_)<;>simp only[h2]<;>simp[hr,hrb]<;>(try simp only[nT,nF,dT,dF]at h2)
  ·refine⟨by decide+kernel,?_⟩;first|exact fin0 (by simp[hne (fun e=>h2 (by rw[e]))]) rfl|exact zaa (by simp[hne (fun e=>h2 (by rw[e]))])
  refine sGI (fun h3=>?_) (fun h3=>?_)<;>simp only[h3]<;>simp[hr,hrb]<;>(try simp only[nT,nF,dT,dF]at h3)
  ·refine⟨by decide+kernel,?_⟩;first|exact fin0 (by simp[hne (fun e=>h3 (by rw[e]))]) rfl|exact zaa (by simp[hne (fun e=>h3 (by rw[e]))])
  refine⟨by decide+kernel,?_⟩;refine sBI (fun h4=>?_) (fun h4=>?_)<;>simp only[h4]<;>simp[hr,hrb]<;>(try simp only[nT,nF,dT,dF]at h4)
  ·first|exact fin0 (by simp[hne (fun e=>h4 (by rw[e]))]) rfl|exact zaa (by simp[hne (fun e=>h4 (by rw[e]))])
  have h4':x.split.length=y.split.length:=by omega
  have h5:=hl2 x hm;refine LoopI.inv mixed rfl (ι:={kj:Nat//kj≤(x.split).length∧x.split.take kj=y.split.take kj}) (fun kj=>[(0,lst (a.map zbk)),(1,lst (b.map zbk)),(5,int k),(6,int kj.1)]) (fun kj=>[]) 64 (fun kj=>(x.split).length-kj.1) ⟨0,by omega,by simp⟩ [] (by constructor<;>simp[hr]) ?_;rintro⟨kj,hk1j,hij⟩ Bj hBj;refine CI.run 9999 400 rfl ?_;simp[hr];refine sBI (fun hj=>?_) (fun hj=>?_)
  ·have hkj:kj<(x.split).length:=by simpa using hj
   obtain⟨w,hxj,hrj,hmj,htj,hdj⟩:=inL hkj;have hwj:=wr (k:=kj) (by omega);simp only[hj];simp[hrj,hwj,hr,hrb];have hrc:y.split[kj]? =some y.split[kj]:=List.getElem?_eq_getElem (by omega);have htc:y.split.take (kj+1)=y.split.take kj++[y.split[kj]]:=by rw[List.take_add_one,hrc];rfl
   have hnc:w≠y.split[kj]→x≠y:=by
    intro h2 e;subst e;rw[hrj]at hrc;cases hrc;exact h2 rfl
   generalize y.split[kj]=v at hrc htc hnc;have hwv:(decide (w.cluster=v.cluster)&&decide (w.w=v.w))=decide (w=v):=by
    obtain⟨p,q⟩:=w;obtain⟨u,t⟩:=v;simp[Weight.mk.injEq]
   simp[hrc,hr,hrb,hrj];refine⟨by decide+kernel,?_⟩;refine sBI (fun h6=>?_) (fun h6=>?_)<;>simp only[h6]<;>simp[hr,hrb,hrj,hrc]<;>(try simp only[nT,nF,dT,dF]at h6)
   ·have h7:¬w=v:=by
     rw[←Bool.not_and,hwv]at h6;simpa using h6
    first|exact fin0 (by simp[hne (hnc h7)]) rfl|exact zaa (by simp[hne (hnc h7)])
   ·have h7:w=v:=by
     rw[←Bool.not_and,hwv]at h6;simpa using h6
    refine hBj _ ⟨kj+1,by omega,by rw[htj,htc,hij,h7]⟩ [] ?_ (by simp;omega);constructor<;>simp[hwj]
  ·have hklj:kj=(x.split).length:=by simp at hj;omega
   subst hklj;simp only[hj];simp[List.take_length,List.drop_length,hw];have e:x=y:=by
    rw[List.take_length,h4',List.take_length]at hij;obtain⟨p,q,t⟩:=x;obtain⟨p',q',t'⟩:=y;simp only at h2 h3 hij;rw[h2,h3,hij]
   refine hB _ ⟨k+1,by omega,by rw[ht,htb,hi,e]⟩ [] ?_ (by simp;omega);constructor<;>simp[hw]
 ·have hkl:k=(a).length:=by simp at h;omega
  subst hkl;simp only[h];simp[List.take_length,List.drop_length];have e:a=b:=by
   rw[List.take_length,hab,List.take_length]at hi;exact hi
  first|exact fin0 (by simp[e]) rfl|exact zaa (by simp[e])
end Go.Proofs.YtjoaclgkjhncjaaGreatDoor
namespace Go.Proofs.YtjoaclgkjhncjaaGreatDoor
open Go.AI Go.G
set_option maxRecDepth 20000
attribute [simp] Tryz.ntmps106 Tryz.results106
theorem qt0 (a b:Res)(hl:OkRes a):Ct Tryz.prog 106 [st (resC a),st (resC b)] [] [] (bool (za9 a b)) []:=by
 refine Ct.B Tryz.func106 mixed 9999 400 ?_;simp;refine sGI (fun h1=>?_) (fun h1=>?_)<;>simp only[h1]<;>simp<;>(try simp only[nT,nF,dT,dF]at h1)
 ·first|exact fin0 (by simp[za9,h1]) rfl|exact zaa (by simp[za9,h1])
 refine sGI (fun h2=>?_) (fun h2=>?_)<;>simp only[h2]<;>simp<;>(try simp only[nT,nF,dT,dF]at h2)
 ·first|exact fin0 (by simp[za9,h2]) rfl|exact zaa (by simp[za9,h2])
 refine sGI (fun h3=>?_) (fun h3=>?_)<;>simp only[h3]<;>simp<;>(try simp only[nT,nF,dT,dF]at h3)
 ·first|exact fin0 (by simp[za9,h3]) rfl|exact zaa (by simp[za9,h3])
 refine sGI (fun h4=>?_) (fun h4=>?_)<;>simp only[h4]<;>simp<;>(try simp only[nT,nF,dT,dF]at h4)
 ·first|exact fin0 (by simp[za9,h4]) rfl|exact zaa (by simp[za9,h4])
 refine sBI (fun h5=>?_) (fun h5=>?_)<;>simp only[h5]<;>simp<;>(try simp only[nT,nF,dT,dF]at h5)
 ·have e:¬a.hosts=b.hosts:=fun e=>h5 (by rw[e])
  first|exact fin0 (by simp[za9,e]) rfl|exact zaa (by simp[za9,e])
 have hab:a.hosts.length=b.hosts.length:=by omega
 have hh:=hl.hosts;refine LoopI.inv mixed rfl (ι:={k:Nat//k≤(a.hosts).length∧a.hosts.take k=b.hosts.take k}) (fun k=>[(2,.ptr 64 0),(3,.ptr 65 0),(5,int k.1)]) (fun k=>[(64,.cells ((resC a).map .d) 67),(65,.cells ((resC b).map .d) 67)]) 66 (fun k=>(a.hosts).length-k.1) ⟨0,by omega,by simp⟩ [] (by constructor<;>simp) ?_;rintro⟨k,hk1,hi⟩ B hB;refine CI.run 9999 400 rfl ?_;simp;refine sBI (fun h=>?_) (fun h=>?_)
 ·have hk:k<(a.hosts).length:=by simpa using h
  obtain⟨x,hx,hr,hm,ht,hd⟩:=inL hk;have hw:=wr (k:=k) (by omega);simp only[h];simp[hr,hw];have hrb:b.hosts[k]? =some b.hosts[k]:=List.getElem?_eq_getElem (by omega);have htb:b.hosts.take (k+1)=b.hosts.take k++[b.hosts[k]]:=by rw[List.take_add_one,hrb];rfl
  have hne:x≠b.hosts[k]→a.hosts≠b.hosts:=by
   intro h2 e;exact h2 (Option.some.inj (by rw[←hr,←hrb,e]))
  generalize b.hosts[k]=y at hrb htb hne;simp[hrb];refine⟨by decide+kernel,?_⟩;refine sBI (fun h6=>?_) (fun h6=>?_)<;>simp only[h6]<;>simp[hr,hrb]<;>(try simp only[nT,nF,dT,dF]at h6)
  ·have e:¬a.hosts=b.hosts:=hne h6;first|exact fin0 (by simp[za9,e]) rfl|exact zaa (by simp[za9,e])
  ·have h6':x=y:=by omega
   refine hB _ ⟨k+1,by omega,by rw[ht,htb,hi,h6']⟩ [] ?_ (by simp;omega);constructor<;>simp[hw]
 ·have hkl:k=(a.hosts).length:=by simp at h;omega
  subst hkl;simp only[h];simp[List.take_length,List.drop_length];have e:a.hosts=b.hosts:=by
   rw[List.take_length,hab,List.take_length]at hi;exact hi
  refine CI.p (qq4 a.rules b.rules ⟨hl.rules,hl.split⟩) Tryz.call171 9999 ?_;simp;first|exact fin0 (by simp[za9,h1,h2,h3,h4,e]) rfl|exact zaa (by simp[za9,h1,h2,h3,h4,e])
attribute [simp] Tryz.ntmps60 Tryz.results60
theorem qu0 (a b:Res)(hl:OkRes a):Ct Tryz.prog 60 [st (resC a),st (resC b)] [] [] (bool (decide (a=b))) []:=by
 refine Ct.B Tryz.func60 mixed 9999 400 ?_;simp;refine CI.p (qt0 a b hl) Tryz.call106 9999 ?_;simp;rw[←zst];refine sGI (fun h1=>?_) (fun h1=>?_)<;>simp only[h1]<;>simp<;>(try simp only[nT,nF,dT,dF]at h1)
 ·first|exact fin0 (by simp[h1]) rfl|exact zaa (by simp[h1])
 ·first|exact fin0 (by simp[h1]) rfl|exact zaa (by simp[h1])
attribute [simp] Tryz.ntmps26 Tryz.results26
theorem qyp (a b:List Res)(hl:OkRs a):Ct Tryz.prog 26 [lst (a.map resC),lst (b.map resC)] [] [] (bool (decide (a=b))) []:=by
 refine Ct.B Tryz.func26 mixed 9999 400 ?_;simp;refine sBI (fun h1=>?_) (fun h1=>?_)<;>simp only[h1]<;>simp<;>(try simp only[nT,nF,dT,dF]at h1)
 ·have e:¬a=b:=fun e=>h1 (by rw[e])
  first|exact fin0 (by simp[e]) rfl|exact zaa (by simp[e])
 have hab:a.length=b.length:=by omega
 have hh:=hl.len;refine LoopI.inv mixed rfl (ι:={k:Nat//k≤(a).length∧a.take k=b.take k}) (fun k=>[(0,lst (a.map resC)),(1,lst (b.map resC)),(5,int k.1)]) (fun k=>[]) 64 (fun k=>(a).length-k.1) ⟨0,by omega,by simp⟩ [] (by constructor<;>simp) ?_;rintro⟨k,hk1,hi⟩ B hB;refine CI.run 9999 400 rfl ?_;simp;refine sBI (fun h=>?_) (fun h=>?_)
 ·have hk:k<(a).length:=by simpa using h
  obtain⟨x,hx,hr,hm,ht,hd⟩:=inL hk;have hw:=wr (k:=k) (by omega);simp only[h];simp[hr,hw];have hrb:b[k]? =some b[k]:=List.getElem?_eq_getElem (by omega);have htb:b.take (k+1)=b.take k++[b[k]]:=by rw[List.take_add_one,hrb];rfl
  have hne:x≠b[k]→a≠b:=by
   intro h2 e;subst e;rw[hr]at hrb;cases hrb;exact h2 rfl
  generalize b[k]=y at hrb htb hne;simp[hrb];refine CI.p (qu0 x y (hl.all x hm)) Tryz.call60 9999 ?_;simp;refine⟨by decide+kernel,?_⟩;refine sBI (fun h2=>?_) (fun h2=>?_)<;>simp only[h2]<;>simp<;>(try simp only[nT,nF,dT,dF]at h2)
  ·first|exact fin0 (by simp[hne h2]) rfl|exact zaa (by simp[hne h2])
  ·refine hB _ ⟨k+1,by omega,by rw[ht,htb,hi,h2]⟩ [] ?_ (by simp;omega);constructor<;>simp[hw]
 ·have hkl:k=(a).length:=by simp at h;omega
  subst hkl;simp only[h];simp[List.take_length,List.drop_length];have e:a=b:=by
   rw[List.take_length,hab,List.take_length]at hi;exact hi
  first|exact fin0 (by simp[e]) rfl|exact zaa (by simp[e])
attribute [simp] Tryz.ntmps67 Tryz.results67
theorem qyi (l:List Res)(hl:OkRs l):Ct Tryz.prog 67 [lst (l.map resC)] [] [] (bool (fewL l)) []:=by
 refine Ct.B Tryz.func67 mixed 9999 400 ?_;simp;have hh:=hl.len;refine LoopI.inv mixed rfl (ι:={k:Nat//k≤(l).length∧(l.take k).all zgq=true}) (fun k=>[(0,lst (l.map resC)),(3,int k.1)]) (fun k=>[]) 64 (fun k=>(l).length-k.1) ⟨0,by omega,by simp⟩ [] (by constructor<;>simp) ?_;rintro⟨k,hk1,hi⟩ B hB;refine CI.run 9999 400 rfl ?_;simp;refine sBI (fun h=>?_) (fun h=>?_)
 ·have hk:k<(l).length:=by simpa using h
  obtain⟨x,hx,hr,hm,ht,hd⟩:=inL hk;have hw:=wr (k:=k) (by omega);simp only[h];simp[hr,hw];refine CI.p (qnf x (hl.all x hm).rules) Tryz.call109 9999 ?_;simp;refine sBI (fun h1=>?_) (fun h1=>?_)<;>simp only[h1]<;>simp<;>(try simp only[nT,nF,dT,dF]at h1)
  ·have e:l.all zgq=false:=by rw[List.all_eq_false];exact⟨x,hm,by simp[h1]⟩
   first|exact fin0 (by simp[fewL,e]) rfl|exact zaa (by simp[fewL,e])
  ·refine hB _ ⟨k+1,by omega,by simp[ht,hi,h1]⟩ [] ?_ (by simp;omega);constructor<;>simp[hw,ht,h1]
 ·have hkl:k=(l).length:=by simp at h;omega
  subst hkl;simp only[h];simp[List.take_length,List.drop_length];rw[List.take_length]at hi;exact fin0 (by simp[fewL,hi];try omega) rfl
end Go.Proofs.YtjoaclgkjhncjaaGreatDoor
namespace Go.Proofs.YtjoaclgkjhncjaaGreatDoor
open Go.AI Go.G
set_option maxRecDepth 20000
attribute [simp] Tryz.ntmps156 Tryz.results156
theorem qi0 (a:Int):Ct Tryz.prog 156 [int a] [] [] (bool false) []:=by
 refine Ct.B Tryz.func156 mixed 9999 400 ?_;simp;first|exact fin0 (by simp) rfl|exact zaa (by simp)
attribute [simp] Tryz.ntmps98 Tryz.results98
theorem zx2 (a b:Int):Ct Tryz.prog 98 [int a,int b] [] [] (int (if a<b then-1 else if b<a then 1 else 0)) []:=by
 refine Ct.B Tryz.func98 mixed 9999 400 ?_;simp;refine CI.p (qi0 a) Tryz.call156 9999 ?_;simp;refine CI.p (qi0 b) Tryz.call156 9999 ?_;simp;refine sBI (fun h1=>?_) (fun h1=>?_)<;>simp only[h1]<;>simp<;>(try simp only[nT,nF,dT,dF]at h1)
 ·first|exact fin0 (by simp[h1]) rfl|exact zaa (by simp[h1])
 refine sBI (fun h2=>?_) (fun h2=>?_)<;>simp only[h2]<;>simp<;>(try simp only[nT,nF,dT,dF]at h2)
 ·first|exact fin0 (by simp[h1,h2]) rfl|exact zaa (by simp[h1,h2])
 ·first|exact fin0 (by simp[h1,h2]) rfl|exact zaa (by simp[h1,h2])
def orI (l:List Int):Int:=(l.find? fun x=>!decide (x=0)).getD 0
attribute [simp] Tryz.ntmps97 Tryz.results97
theorem or_p (l:List Int)(hl:l.length≤9223372036854775807):Ct Tryz.prog 97 [.own 0] [(0,.grow 1 (l.map intC) 3)] [] (int (orI l)) []:=by
 refine Ct.B Tryz.func97 mixed 9999 400 ?_;simp;refine LoopI.inv mixed rfl (ι:={k:Nat//k≤(l).length∧(l.take k).all (fun x=>!!decide (x=0))=true}) (fun k=>[(3,int 0),(6,.own 0),(7,int l.length),(8,int k.1)]) (fun k=>[(0,.grow 1 (l.map intC) 3)]) 64 (fun k=>(l).length-k.1) ⟨0,by omega,by simp⟩ [] (by constructor<;>simp) ?_;rintro⟨k,hk1,hi⟩ B hB;refine CI.run 9999 400 rfl ?_;simp;refine sBI (fun h=>?_) (fun h=>?_)
 ·have hk:k<(l).length:=by simpa using h
  obtain⟨x,hx,hr,hm,ht,hd⟩:=inL hk;have hw:=wr (k:=k) (by omega);simp only[h];simp[hr,hw,hk];refine sBI (fun h1=>?_) (fun h1=>?_)<;>simp only[h1]<;>simp[hx]<;>(try simp only[nT,nF,dT,dF]at h1)
  ·rw[hx]at h1;have e:orI l=x:=by simp[orI,zum hi hr (by simpa using h1)]
   first| (refine⟨[],?_,?_,?_,?_,?_,?_,?_⟩<;>simp[nmF,inB,e,hx];done)| (refine⟨by decide+kernel,?_⟩;refine⟨[],?_,?_,?_,?_,?_,?_,?_⟩<;>simp[nmF,inB,e,hx])
  ·rw[hx]at h1;refine hB _ ⟨k+1,by omega,by rw[ht,List.all_append,hi];simp[h1]⟩ [] ?_ (by simp;omega);constructor<;>simp[hw]
 ·have hkl:k=(l).length:=by simp at h;omega
  subst hkl;simp only[h];simp[List.take_length,List.drop_length];rw[List.take_length]at hi;have e:orI l=0:=by simp[orI,zqm hi]
  first| (refine⟨[],?_,?_,?_,?_,?_,?_,?_⟩<;>simp[nmF,inB,e];done)| (refine⟨by decide+kernel,?_⟩;refine⟨[],?_,?_,?_,?_,?_,?_,?_⟩<;>simp[nmF,inB,e])
attribute [simp] Tryz.ntmps51 Tryz.results51
theorem qj4 (a b:Key):Ct Tryz.prog 51 [st (keyC a),st (keyC b)] [] [] (int (cmpK a b)) []:=by
 refine Ct.B Tryz.func51 mixed 9999 400 ?_;simp;refine CI.p (zx2 a.kind b.kind) Tryz.call98 9999 ?_;simp;refine CI.p (qyn a.name b.name) Tryz.call99 9999 ?_;simp;refine CI.cc [896] (or_p [if a.kind<b.kind then-1 else if b.kind<a.kind then 1 else 0,cmpS a.name b.name] (by simp)) Tryz.call97 9999 ?_;simp;refine⟨by decide+kernel,?_⟩;have e:orI [if a.kind<b.kind then-1 else if b.kind<a.kind then 1 else 0,cmpS a.name b.name]=cmpK a b:=by
  unfold orI cmpK;by_cases h1:a.kind<b.kind
  ·simp[h1]
  ·by_cases h2:b.kind<a.kind
   ·simp[h1,h2]
   ·by_cases h3:cmpS a.name b.name=0<;>simp[h1,h2,h3]
 first|exact fin0 (by simp[e]) rfl|exact zaa (by simp[e])
attribute [simp] Tryz.ntmps87 Tryz.results87
theorem isP (k_:Key)(r:Res):Ct Tryz.prog 87 [st (resC r),.d (.pro (keyC k_))] [] [] (bool (decide (r.key=k_))) []:=by
 refine Ct.B Tryz.func87 mixed 9999 400 ?_;simp;refine CI.p (zfr r) Tryz.call46 9999 ?_;simp;rw[zsa];refine⟨by decide+kernel,?_⟩;first|exact fin0 (by simp) rfl|exact zaa (by simp)
attribute [simp] Tryz.ntmps42 Tryz.results42
theorem is_p (k_:Key):Ct Tryz.prog 42 [st (keyC k_)] [] [] (.d (.fn (.func 87) [] [.pro (keyC k_)])) []:=by
 refine Ct.B Tryz.func42 mixed 9999 400 ?_;simp;first|exact fin0 (by simp) rfl|exact zaa (by simp)
attribute [simp] Tryz.ntmps15 Tryz.results15
theorem qee (l:List Res)(k_:Key)(hl:l.length≤9223372036854775807):Ct Tryz.prog 15 [lst (l.map resC),st (keyC k_)] [] [] (getA l k_) []:=by
 refine Ct.B Tryz.func15 mixed 9999 400 ?_;simp;refine CI.p (is_p k_) Tryz.call42 9999 ?_;simp;refine CI.p (zuf l (.fn (.func 87) [] [.pro (keyC k_)]) (fun r=>decide (r.key=k_)) (fun r hr=>FnOk.clo (by exact isP k_ r) Tryz.call87 rfl rfl) hl) Tryz.call41 9999 ?_;simp;rcases zjm (fun r:Res=>decide (r.key=k_)) l with⟨h1,h2⟩|⟨i,x,h1,h2,h3,h4⟩
 ·have e:getR l k_=none:=h2;simp[h1];first|exact fin0 (by simp[e,zRes]) rfl|exact zaa (by simp[e,zRes])
 ·have e:getR l k_=some x:=h4;have hx:l[i]=x:=by rw[List.getElem?_eq_getElem h2]at h3;exact Option.some.inj h3
  simp[h1,h2,h3,hx];first|exact fin0 (by simp[e]) rfl|exact zaa (by simp[e])
attribute [simp] Tryz.ntmps162 Tryz.results162
theorem zun (l:List Res)(kf:D)(p:Res→Bool)(hf:∀x∈l,FnOk Tryz.prog (.d kf) [st (resC x)] (bool (p x)))(hl:l.length≤1000000):Ct Tryz.prog 162 [lst (l.map resC),.d kf] [] [] (lst ((l.filter p).map resC)) []:=by
 refine Ct.B Tryz.func162 mixed 9999 400 ?_;simp;refine LoopI.nilOwn 5 7 67 rfl ?_;refine LoopI.U mixed (l) (fun k=>[(0,lst (l.map resC)),(1,.d kf),(5,.own 64),(8,lst (l.map resC)),(9,int l.length),(10,int k.1)]) (fun k=>[(64,.grow 7 (((l.take k.1).filter p).map resC) 67)]) 65 [] (by constructor<;>simp) ?_;rintro⟨k,hk1⟩ B hB;refine CI.run 9999 400 rfl ?_;simp;refine sBI (fun h=>?_) (fun h=>?_)
 ·have hk:k<(l).length:=by simpa using h
  obtain⟨x,hx,hr,hm,ht,hd⟩:=inL hk;have hw:=wr (k:=k) (by omega);simp only[h];simp[hr,hw];have hlen:((l.take k).filter p).length≤1000000:=Nat.le_trans (List.length_filter_le _ _) (by simp;omega);refine CI.ff (hf x hm) rfl rfl rfl 9999 ?_;simp;refine sBI (fun h1=>?_) (fun h1=>?_)<;>simp only[h1]<;>simp[hr]<;>(try simp only[nT,nF,dT,dF]at h1)
  ·refine⟨by omega,?_⟩;refine hB _ ⟨k+1,by omega⟩ [] ?_ (by simp;omega);constructor<;>simp[hw,ht,List.filter_append,h1]
  ·refine hB _ ⟨k+1,by omega⟩ [] ?_ (by simp;omega);constructor<;>simp[hw,ht,List.filter_append,h1]
 ·have hkl:k=(l).length:=by simp at h;omega
  subst hkl;simp only[h];simp[List.take_length,List.drop_length];first|exact fin0 (by simp) rfl|exact zaa (by simp)
attribute [simp] Tryz.ntmps342 Tryz.results342
theorem quc (k_:Key)(c:Int)(r:Res):Ct Tryz.prog 342 [st (resC r),.d (.pro (keyC k_)),.d (.pro [iD c])] [] [] (bool (decide (cmpK r.key k_=c))) []:=by
 refine Ct.B Tryz.func342 mixed 9999 400 ?_;simp;refine CI.p (zfr r) Tryz.call46 9999 ?_;simp;refine CI.p (qj4 r.key k_) Tryz.call51 9999 ?_;simp;refine⟨by decide+kernel,?_⟩;first|exact fin0 (by simp) rfl|exact zaa (by simp)
attribute [simp] Tryz.ntmps341 Tryz.results341
theorem qoi (l:List Res)(k_:Key)(c:Int)(hl:l.length≤1000000):Ct Tryz.prog 341 [int c,.d (.pro [lD (l.map resC)]),.d (.pro (keyC k_))] [] [] (lst ((zju l k_ c).map resC)) []:=by
 refine Ct.B Tryz.func341 mixed 1 400 ?_;simp;refine CI.s (tm:=[(1,.d (.pro [lD (l.map resC)])),(2,.d (.pro (keyC k_))),(3,.d (.pro [iD c]))]) (mm:=[]) (nx:=65) [] [64] (by constructor<;>simp) ?_;refine CI.run 9999 400 rfl ?_;simp;refine CI.p (zun l (.fn (.func 342) [] [.pro (keyC k_),.pro [iD c]]) (fun r=>decide (cmpK r.key k_=c)) (fun r hr=>FnOk.clo (by exact quc k_ c r) Tryz.call342 rfl rfl) hl) Tryz.call162 9999 ?_;simp;first|exact fin0 (by simp) rfl|exact zaa (by simp)
end Go.Proofs.YtjoaclgkjhncjaaGreatDoor
namespace Go.Proofs.YtjoaclgkjhncjaaGreatDoor
open Go.AI Go.G
set_option maxRecDepth 20000
abbrev qpf :List D:=[iD 0,sD ⟨#[]⟩,iD 0,iD 0,sD ⟨#[]⟩,.v (.slice none 0 0),.v (.slice none 0 0)]
attribute [simp] Tryz.ntmps384 Tryz.results384
theorem qyd (n:Int)(h0:0<n)(h1:n≤2000000):Ct Tryz.prog 384 [.d (.v (.slice none 0 0)),int n] [] [] (.sl 64 7 0 0) [(64,.grow 7 (List.replicate n.toNat qpf) 67)]:=by
 refine Ct.B Tryz.func384 mixed 9999 400 ?_;simp;have g1:¬n<0:=by omega
 have g2:IntKind.wrap .i64 n=n:=zab (by omega) (by omega);simp[g1,g2,h0];refine⟨⟨by omega,by omega⟩,by omega,?_⟩;first| (refine⟨[(64,1216)],?_,?_,?_,?_,?_,?_,?_⟩<;>simp[nmF,inB,qpf];done)| (refine⟨by decide+kernel,?_⟩;refine⟨[(64,1216)],?_,?_,?_,?_,?_,?_,?_⟩<;>simp[nmF,inB,qpf])
attribute [simp] Tryz.ntmps343 Tryz.results343
theorem qta (a b c:List Res)(h0:0<a.length+b.length+c.length)(h1:a.length+b.length+c.length≤2000000):Ct Tryz.prog 343 [.own 0] [(0,.grow 1 [[lD (a.map resC)],[lD (b.map resC)],[lD (c.map resC)]] 43)] [] (.own 64) [(64,.grow 7 ((a++b++c).map resC) 67)]:=by
 refine Ct.B Tryz.func343 mixed 9999 400 ?_;simp;have w1:IntKind.wrap .i64 (a.length:Int)=a.length:=zab (by omega) (by omega);have w2:IntKind.wrap .i64 ((a.length:Int)+b.length)=a.length+b.length:=zab (by omega) (by omega);have w3:IntKind.wrap .i64 ((a.length:Int)+b.length+c.length)=a.length+b.length+c.length:=zab (by omega) (by omega);have v1:¬((a.length:Int)<0):=by omega
 have v2:¬((a.length:Int)+b.length<0):=by omega
 have v3:¬((a.length:Int)+b.length+c.length<0):=by omega
 refine LoopI.unroll mixed (Plain.retC _ _ _ _ _) rfl ?_;refine CI.run 9999 400 rfl ?_;simp[w1,v1];refine LoopI.unroll mixed (Plain.retC _ _ _ _ _) rfl ?_;refine CI.run 9999 400 rfl ?_;simp[w2,v2];refine LoopI.unroll mixed (Plain.retC _ _ _ _ _) rfl ?_;refine CI.run 9999 400 rfl ?_;simp[w3,v3];refine LoopI.unroll mixed (Plain.retC _ _ _ _ _) rfl ?_;refine CI.run 9999 400 rfl ?_;simp;refine CI.cc [] (qyd ((a.length:Int)+b.length+c.length) (by omega) (by omega)) Tryz.call384 9999 ?_;simp;refine LoopI.unroll mixed (Plain.retC _ _ _ _ _) rfl ?_;refine CI.run 9999 400 rfl ?_;simp;refine⟨by omega,?_⟩;refine LoopI.unroll mixed (Plain.retC _ _ _ _ _) rfl ?_;refine CI.run 9999 400 rfl ?_;simp;refine⟨by omega,?_⟩;refine LoopI.unroll mixed (Plain.retC _ _ _ _ _) rfl ?_;refine CI.run 9999 400 rfl ?_;simp;refine⟨by omega,?_⟩;refine LoopI.unroll mixed (Plain.retC _ _ _ _ _) rfl ?_;refine CI.run 9999 400 rfl ?_;simp;first| (refine⟨[(64,4992)],?_,?_,?_,?_,?_,?_,?_⟩<;>simp[nmF,inB];done)| (refine⟨by decide+kernel,?_⟩;refine⟨[(64,4992)],?_,?_,?_,?_,?_,?_,?_⟩<;>simp[nmF,inB])
attribute [simp] Tryz.ntmps280 Tryz.results280
theorem qoh (l:List Res)(r:Res)(hl:l.length≤1000000):Ct Tryz.prog 280 [lst (l.map resC),st (resC r)] [] [] (lst ((zfk l r).map resC)) []:=by
 refine Ct.B Tryz.func280 mixed 2 400 ?_;simp;refine CI.p (zfr r) Tryz.call46 2 ?_;simp;refine CI.s (tm:=[(2,.d (.pro [lD (l.map resC)])),(3,.ptr 64 0),(5,.d (.pro (keyC r.key)))]) (mm:=[(64,.cells ((resC r).map .d) 67)]) (nx:=65) [(64,128)] [64,384] (by constructor<;>simp) ?_;refine CI.run 9999 400 rfl ?_;simp;refine CI.ff (FnOk.clo (args:=[int (-1)]) (by exact qoi l r.key (-1) hl) Tryz.call341 rfl rfl) rfl rfl rfl 9999 ?_;simp;refine CI.ff (FnOk.clo (args:=[int 1]) (by exact qoi l r.key 1 hl) Tryz.call341 rfl rfl) rfl rfl rfl 9999 ?_;simp;have h1:=zu7 l r;simp only[zfk,List.length_append,List.length_cons,List.length_nil]at h1;refine CI.cc [577] (qta (zju l r.key (-1)) [r] (zju l r.key 1) (by simp;omega) (by simp only[List.length_cons,List.length_nil];omega)) Tryz.call343 9999 ?_;simp;first|exact fin0 (by simp) rfl|exact zaa (by simp)
attribute [simp] Tryz.ntmps63 Tryz.results63
theorem qcj :Ct Tryz.prog 63 [lst []] [] [] (lst []) []:=by
 refine Ct.B Tryz.func63 mixed 9999 400 ?_;simp;refine⟨?_,?_⟩
 ·first|exact fin0 (by simp) rfl|exact zaa (by simp)
 ·first|exact fin0 (by simp) rfl|exact zaa (by simp)
theorem zuq (x:Res)(l:List Res)(hl:l.length≤1000000):Ct Tryz.prog 63 [lst ((x::l).map resC)] [] [] (.own 64) [(64,.grow 7 ((x::l).map resC) 67)]:=by
 refine Ct.B Tryz.func63 mixed 9999 400 ?_;simp;refine⟨by omega,?_⟩;first| (refine⟨[(64,384)],?_,?_,?_,?_,?_,?_,?_⟩<;>simp[nmF,inB];done)| (refine⟨by decide+kernel,?_⟩;refine⟨[(64,384)],?_,?_,?_,?_,?_,?_,?_⟩<;>simp[nmF,inB])
attribute [simp] Tryz.ntmps41 Tryz.results41
theorem qm2 (l:List Res)(kf:D)(p:Res→Bool)(hf:∀x∈l,FnOk Tryz.prog (.d kf) [st (resC x)] (bool (p x)))(hl:l.length≤9223372036854775807):Ct Tryz.prog 41 [.own 0,.d kf] [(0,.grow 7 (l.map resC) 67)] [] (int (idxF p l)) []:=by
 refine Ct.B Tryz.func41 mixed 9999 400 ?_;simp;refine LoopI.inv mixed rfl (ι:={k:Nat//k≤(l).length∧(l.take k).all (fun x=>!p x)=true}) (fun k=>[(0,.own 0),(1,.d kf),(7,int l.length),(8,int k.1)]) (fun k=>[(0,.grow 7 (l.map resC) 67)]) 64 (fun k=>(l).length-k.1) ⟨0,by omega,by simp⟩ [] (by constructor<;>simp) ?_;rintro⟨k,hk1,hi⟩ B hB;refine CI.run 9999 400 rfl ?_;simp;refine sBI (fun h=>?_) (fun h=>?_)
 ·have hk:k<(l).length:=by simpa using h
  obtain⟨r,hx,hr,hm,ht,hd⟩:=inL hk;have hw:=wr (k:=k) (by omega);simp only[h];simp[hr,hw,hk];refine CI.ff (hf r hm) rfl rfl rfl 9999 ?_ (ha:=by simp[hx]);simp[hx];refine sBI (fun hp=>?_) (fun hp=>?_)<;>simp only[hp]<;>simp
  ·have e:=zc2 hi hr hp;first| (refine⟨[],?_,?_,?_,?_,?_,?_,?_⟩<;>simp[nmF,inB,e];done)| (refine⟨by decide+kernel,?_⟩;refine⟨[],?_,?_,?_,?_,?_,?_,?_⟩<;>simp[nmF,inB,e])
  ·refine hB _ ⟨k+1,by omega,by simp[ht,hi,hp]⟩ [] ?_ (by simp;omega);constructor<;>simp[hw,ht,hp]
 ·have hkl:k=(l).length:=by simp at h;omega
  subst hkl;simp only[h];simp[List.take_length,List.drop_length];rw[List.take_length]at hi;have e:idxF p l= -1:=zbi (fun x hx=>by have:=List.all_eq_true.1 hi x hx;simpa using this);first| (refine⟨[],?_,?_,?_,?_,?_,?_,?_⟩<;>simp[nmF,inB,e];done)| (refine⟨by decide+kernel,?_⟩;refine⟨[],?_,?_,?_,?_,?_,?_,?_⟩<;>simp[nmF,inB,e])
attribute [simp] Tryz.ntmps62 Tryz.results62
theorem delE (kf:D):Ct Tryz.prog 62 [lst [],.d kf] [] [] (lst []) []:=by
 refine Ct.B Tryz.func62 mixed 9999 400 ?_;simp;refine CI.p (zuf [] kf (fun _=>false) (fun x hx=>by simp at hx) (by simp)) Tryz.call41 9999 ?_;simp;simp[idxF];first|exact fin0 (by simp) rfl|exact zaa (by simp)
theorem delC (l:List Res)(kf:D)(p:Res→Bool)(hf:∀x∈l,FnOk Tryz.prog (.d kf) [st (resC x)] (bool (p x)))(hl:l.length≤1000000):Ct Tryz.prog 62 [.own 0,.d kf] [] [(0,.grow 7 (l.map resC) 67)] (lst ((l.filter fun x=>!p x).map resC)) []:=by
 refine Ct.B Tryz.func62 mixed 9999 400 ?_;simp;refine CI.cc [0] (qm2 l kf p hf (by omega)) Tryz.call41 9999 ?_;simp;rcases zjm p l with⟨h1,h2⟩|⟨i,x,h1,h2,h3,h4⟩
 ·have e:(l.filter fun x=>!p x)=l:=by
   rw[List.filter_eq_self];intro a ha;have:=List.find?_eq_none.1 h2 a ha;simpa using this
  simp[h1];first| (refine⟨[],?_,?_,?_,?_,?_,?_,?_⟩<;>simp[nmF,inB,e];done)| (refine⟨by decide+kernel,?_⟩;refine⟨[],?_,?_,?_,?_,?_,?_,?_⟩<;>simp[nmF,inB,e])
 ·have hne:¬(i:Int)= -1:=by omega
  have hwi:IntKind.wrap .i64 ((i:Int)+1)=i+1:=zab (by omega) (by omega);simp[h1,hne,hwi];have d0:=DelSt.start (x:=x) h1 h2;refine LoopI.inv mixed rfl (ι:={q:Nat×Nat×List Res//DelSt p l q.1 q.2.1 q.2.2}) (fun k=>[(0,.own 0),(1,.d kf),(5,int k.1.2.1),(6,int k.1.1)]) (fun k=>[(0,.grow 7 (k.1.2.2.map resC) 67)]) 64 (fun k=>l.length-k.1.1) ⟨(i+1,i,l),d0⟩ [] (by constructor<;>simp) ?_;rintro⟨⟨j,i,cur⟩,hd⟩ B hB;clear h1 h2 h3 h4 hne hwi d0;have hlen:=hd.len;have hlt:=hd.lt;have hle:=hd.le;simp only at hlen hlt hle;have w1:IntKind.wrap .i64 ((j:Int)+1)=j+1:=zab (by omega) (by omega);have w2:IntKind.wrap .i64 ((i:Int)+1)=i+1:=zab (by omega) (by omega);refine CI.run 9999 400 rfl ?_;simp[hlen];refine sBI (fun h=>?_) (fun h=>?_)<;>simp only[h]<;>simp<;>(try simp only[nT,nF,dT,dF]at h)
  ·have hj:j<l.length:=by omega
   have hv:l[j]? =some l[j]:=List.getElem?_eq_getElem hj;have hm:l[j]∈l:=List.getElem_mem hj;generalize l[j]=v at hv hm;have hg:=hd.get hv;have hjc:j<cur.length:=by omega
   have hgx:cur[j]=v:=by rw[List.getElem?_eq_getElem hjc]at hg;exact Option.some.inj hg
   simp[hjc,hgx];refine CI.ff (hf v hm) rfl rfl rfl 9999 ?_;simp;have hic:i<cur.length:=by omega
   refine sBI (fun h2=>?_) (fun h2=>?_)<;>simp only[h2]<;>simp[hic]
   ·have hp:p v=false:=by simpa using h2
    refine hB _ ⟨(j+1,i+1,cur.set i v),hd.keep hv hp⟩ [] ?_ (by simp;omega);constructor<;>simp[w1,w2,List.map_set]
   ·have hp:p v=true:=by simpa using h2
    refine hB _ ⟨(j+1,i,cur),hd.del hv hp⟩ [] ?_ (by simp;omega);constructor<;>simp[w1]
  ·have hj:j=l.length:=by omega
   subst hj;have e:cur.take i=l.filter (fun x=>!p x):=hd.done;simp[hlen];have e2:List.take i (List.map resC cur)=List.map resC (List.filter (fun x=>!p x) l):=by rw[←List.map_take,e]
   have e3:(List.filter (fun x=>!p x) l).length=i:=by rw[←e,List.length_take];omega
   refine⟨by omega,by omega,by omega,?_⟩;rw[e2];first| (refine⟨[],?_,?_,?_,?_,?_,?_,?_⟩<;>simp[nmF,inB,e3,List.take_append,show i≤i+(l.length-i+(l.length-(i+(l.length-i))))from by omega];done)| (refine⟨by decide+kernel,?_⟩;refine⟨[],?_,?_,?_,?_,?_,?_,?_⟩<;>simp[nmF,inB,e3,List.take_append,show i≤i+(l.length-i+(l.length-(i+(l.length-i))))from by omega])
attribute [simp] Tryz.ntmps279 Tryz.results279
theorem qfg (l:List Res)(k_:Key)(hl:l.length≤1000000):Ct Tryz.prog 279 [lst (l.map resC),st (keyC k_)] [] [] (lst ((zcq l k_).map resC)) []:=by
 refine Ct.B Tryz.func279 mixed 9999 400 ?_;simp;cases l with
 |nil=>
  refine CI.p qcj Tryz.call63 9999 ?_;simp;refine CI.p (is_p k_) Tryz.call42 9999 ?_;simp;refine CI.p (delE (.fn (.func 87) [] [.pro (keyC k_)])) Tryz.call62 9999 ?_;simp;first|exact fin0 (by simp) rfl|exact zaa (by simp)
 |cons x l=>
  refine CI.cc [] (zuq x l (by simp at hl;omega)) Tryz.call63 9999 ?_;simp;refine CI.p (is_p k_) Tryz.call42 9999 ?_;simp;refine CI.cc [256] (delC (x::l) (.fn (.func 87) [] [.pro (keyC k_)]) (fun r=>decide (r.key=k_)) (fun r hr=>FnOk.clo (by exact isP k_ r) Tryz.call87 rfl rfl) hl) Tryz.call62 9999 ?_;simp;first|exact fin0 (by simp) rfl|exact zaa (by simp)
attribute [simp] Tryz.ntmps222 Tryz.results222
theorem zts (l adds:List Res)(gone:List Key)(hl:l.length+adds.length≤1000000)(hg:gone.length≤9223372036854775807):Ct Tryz.prog 222 [lst (l.map resC),lst (adds.map resC),lst (gone.map keyC)] [] [] (lst ((zak l adds gone).map resC)) []:=by
 refine Ct.B Tryz.func222 mixed 9999 400 ?_;simp;refine LoopI.U mixed (gone) (fun k=>[(0,lst (((gone.take k.1).foldl zcq l).map resC)),(1,lst (adds.map resC)),(11,lst (gone.map keyC)),(12,int gone.length),(13,int k.1)]) (fun k=>[]) 64 [] (by constructor<;>simp) ?_;rintro⟨k,hk1⟩ B hB;refine CI.run 9999 400 rfl ?_;simp;refine sBI (fun h=>?_) (fun h=>?_)
 ·have hk:k<(gone).length:=by simpa using h
  obtain⟨x,hx,hr,hm,ht,hd⟩:=inL hk;have hw:=wr (k:=k) (by omega);simp only[h];simp[hr,hw];have h1:=zdx (gone.take k) l;refine CI.p (qfg ((gone.take k).foldl zcq l) x (by omega)) Tryz.call279 9999 ?_;simp;refine hB _ ⟨k+1,by omega⟩ [] ?_ (by simp;omega);constructor<;>simp[hw,ht,List.foldl_append]
 ·have hkl:k=(gone).length:=by simp at h;omega
  subst hkl;simp only[h];simp[List.take_length,List.drop_length];have h1:=zdx gone l;refine LoopI.U mixed (adds) (fun k=>[(0,lst (((adds.take k.1).foldl zfk (gone.foldl zcq l)).map resC)),(21,lst (adds.map resC)),(22,int adds.length),(23,int k.1)]) (fun k=>[]) 64 [] (by constructor<;>simp) ?_;rintro⟨k,hk1⟩ B hB;refine CI.run 9999 400 rfl ?_;simp;refine sBI (fun h=>?_) (fun h=>?_)
  ·have hk:k<(adds).length:=by simpa using h
   obtain⟨x,hx,hr,hm,ht,hd⟩:=inL hk;have hw:=wr (k:=k) (by omega);simp only[h];simp[hr,hw];have h2:=zft (adds.take k) (gone.foldl zcq l);have h3:(adds.take k).length≤adds.length:=by simp;omega
   refine CI.p (qoh ((adds.take k).foldl zfk (gone.foldl zcq l)) x (by omega)) Tryz.call280 9999 ?_;simp;refine hB _ ⟨k+1,by omega⟩ [] ?_ (by simp;omega);constructor<;>simp[hw,ht,List.foldl_append]
  ·have hkl:k=(adds).length:=by simp at h;omega
   subst hkl;simp only[h];simp[List.take_length,List.drop_length];first|exact fin0 (by simp[zak]) rfl|exact zaa (by simp[zak])
attribute [simp] Tryz.ntmps220 Tryz.results220
theorem qwg (l:List Key)(k_:Key)(hl:l.length≤9223372036854775807):Ct Tryz.prog 220 [lst (l.map keyC),st (keyC k_)] [] [] (int (idxF (fun x=>decide (k_=x)) l)) []:=by
 refine Ct.B Tryz.func220 mixed 9999 400 ?_;simp;refine LoopI.inv mixed rfl (ι:={k:Nat//k≤(l).length∧(l.take k).all (fun x=>!decide (k_=x))=true}) (fun k=>[(0,lst (l.map keyC)),(3,.ptr 64 0),(6,lst (l.map keyC)),(7,int l.length),(8,int k.1)]) (fun k=>[(64,.cells ((keyC k_).map .d) 26)]) 65 (fun k=>(l).length-k.1) ⟨0,by omega,by simp⟩ [] (by constructor<;>simp) ?_;rintro⟨k,hk1,hi⟩ B hB;refine CI.run 9999 400 rfl ?_;simp;refine sBI (fun h=>?_) (fun h=>?_)
 ·have hk:k<(l).length:=by simpa using h
  obtain⟨r,hx,hr,hm,ht,hd⟩:=inL hk;have hw:=wr (k:=k) (by omega);simp only[h];simp[hr,hw];rw[zsa];refine⟨by decide+kernel,?_⟩;refine sBI (fun h1=>?_) (fun h1=>?_)<;>simp only[h1]<;>simp[hr]<;>(try simp only[nT,nF,dT,dF]at h1)
  ·have e:=zc2 hi hr (by simpa using h1);first|exact fin0 (by simp[e]) rfl|exact zaa (by simp[e])
  ·refine hB _ ⟨k+1,by omega,by simp[ht,hi,h1]⟩ [] ?_ (by simp;omega);constructor<;>simp[hw,ht,h1]
 ·have hkl:k=(l).length:=by simp at h;omega
  subst hkl;simp only[h];simp[List.take_length,List.drop_length];rw[List.take_length]at hi;have e:idxF (fun x=>decide (k_=x)) l= -1:=zbi (fun x hx=>by have:=List.all_eq_true.1 hi x hx;simpa using this);first|exact fin0 (by simp[e]) rfl|exact zaa (by simp[e])
attribute [simp] Tryz.ntmps169 Tryz.results169
theorem qo7 (l:List Key)(k_:Key)(hl:l.length≤9223372036854775807):Ct Tryz.prog 169 [lst (l.map keyC),st (keyC k_)] [] [] (bool (decide (k_∈l))) []:=by
 refine Ct.B Tryz.func169 mixed 9999 400 ?_;simp;refine CI.p (qwg l k_ hl) Tryz.call220 9999 ?_;simp;rw[zgp];have e:(l.any fun x=>decide (k_=x))=decide (k_∈l):=by rw[Bool.eq_iff_iff];simp
 first|exact fin0 (by simp[e]) rfl|exact zaa (by simp[e])
end Go.Proofs.YtjoaclgkjhncjaaGreatDoor
