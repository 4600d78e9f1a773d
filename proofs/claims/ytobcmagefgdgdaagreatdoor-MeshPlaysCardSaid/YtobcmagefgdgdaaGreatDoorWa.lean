/- LAYERS 1 to 3, walked -/
import Derived.Test.YtobcmagefgdgdaaGreatDoorTy
import Derived.Test.YtobcmagefgdgdaaGreatDoorPl
import Derived.Test.YtobcmagefgdgdaaGreatDoorFd
set_option linter.unusedSimpArgs false
set_option linter.unusedVariables false
set_option maxRecDepth 100000
set_option maxHeartbeats 8000000
namespace Go.Proofs.YtobcmagefgdgdaaGreatDoor
open Go.AI Go.G Tryz
attribute [simp] ntmps249 results249 ntmps250 results250 ntmps177 results177 ntmps252 results252 ntmps343 results343 ntmps457 results457 ntmps344 results344
theorem mixed :prog.follows .mixedOrders=true:=by kernel_rfl
theorem Mg (c:UInt8):C0 249 [byte c] (bool (vE c)):=by
 refine Ct.B func249 ?_;simp
 repeat' first
  | (refine bM (λh=>?_) (λh=>?_)<;>simp only[h]<;>simp[h])
  | (refine bQ (λh=>?_) (λh=>?_)<;>simp only[h]<;>simp[h])
  | (refine⟨(show jG _ _ from by decide+kernel),?_⟩)
  |fail
 all_goals exact aA (by simp[*,vE])
theorem Ic (c:UInt8):C0 250 [byte c] (bool (rE c)):=by
 refine Ct.B func250 ?_;simp;refine CI.p (Mg c) ?_;simp
 repeat' first
  | (refine bM (λh=>?_) (λh=>?_)<;>simp only[h]<;>simp[h])
  | (refine bQ (λh=>?_) (λh=>?_)<;>simp only[h]<;>simp[h])
  | (refine⟨(show jG _ _ from by decide+kernel),?_⟩)
  |fail
 all_goals exact aA (by simp[*,rE])
theorem DK (s:Str):C0 177 [str s] (bool (fI s)):=by
 refine Ct.B func177 ?_;simp;have hsz:=iA s;refine bM (λh1=>?_) (λh1=>?_)<;>simp only[h1]<;>simp
 ·have hz:(bs s).length=0:=by have:=lS h1;omega
  exact aA (by simp[fI,lW,hz])
 refine bM (λh2=>?_) (λh2=>?_)<;>simp only[h2]<;>simp
 ·have hz:¬((bs s).length<=12):=by have:=lS h2;omega
  exact aA (by simp[fI,lW,hz])
 obtain⟨c,l,hs⟩:∃c l,bs s=c::l:=by
  have:=pG h1;cases hb:bs s with
  |nil=>rw[hb]at hsz;simp only[gZ]at hsz;omega
  |cons c l=>exact⟨c,l,rfl⟩
 simp[wN,hs];refine CI.p (Mg c) ?_;simp;refine bQ (λh3=>?_) (λh3=>?_)<;>simp only[h3]<;>simp
 ·have h3':vE c=false:=by simpa using h3
  exact aA (by simp[fI,lW,hs,h3'])
 have h3':vE c=true:=by simpa using h3
 have hle:(bs s).length<=12:=by have:=pG h2;omega
 have h1':1<=(bs s).length:=by rw[hs];simp
 refine aH.inv mixed rfl (ι:={k:Nat//k<=((bs s)).length/\((bs s).take k).all rE=true}) (λk=>[(0,str s),(3,int k.1)]) (λk=>[]) 64 (λk=>((bs s)).length-k.1) ⟨0,by omega,by simp⟩ [] (by constructor<;>simp[hsz]) ?_;rintro⟨k,hk1,hi⟩ B hB;refine CI.n ?_;simp[hsz];rcases bC hk1 with⟨b,hk,hx,hr,hm,ht,hd,hw,h⟩|rfl
 ·simp[h,hr,hw,wN];refine CI.p (Ic b) ?_;simp;refine bQ (λh4=>?_) (λh4=>?_)<;>simp only[h4]<;>simp
  ·have h4':(bs s).all rE=false:=by
    have:rE b=false:=by simpa using h4
    rw[oE];exact⟨b,hm,by simp[this]⟩
   exact aA (by simp[fI,lW,h4'])
  ·have h4':rE b=true:=by simpa using h4
   refine hB _ ⟨k+1,by omega,by simp[ht,hi,h4']⟩ [] ?_ (by simp;omega);constructor<;>simp[hw,ht,h4']
 ·simp;rw[bX]at hi;have e:fI s=true:=by
   simp only[fI,lW,hi,h1',hle,F7,uP,Bool.and_true];rw[hs];exact h3'
  exact aA (by simp[e])
theorem PJ (s:Str):C0 252 [str s] (bool (kL s)):=by
 refine Ct.B func252 ?_;simp;have hsz:=iA s;refine bM (λh1=>?_) (λh1=>?_)<;>simp only[h1]<;>simp
 ·have hz:(bs s).length=0:=by have:=lS h1;omega
  exact aA (by simp[kL,hz])
 refine bM (λh2=>?_) (λh2=>?_)<;>simp only[h2]<;>simp
 ·have hz:¬((bs s).length<=40):=by have:=lS h2;omega
  exact aA (by simp[kL,hz])
 obtain⟨c,l,hs⟩:∃c l,bs s=c::l:=by
  have:=pG h1;cases hb:bs s with
  |nil=>rw[hb]at hsz;simp only[gZ]at hsz;omega
  |cons c l=>exact⟨c,l,rfl⟩
 simp[wN,hs];refine bQ (λh3=>?_) (λh3=>?_)<;>simp only[h3]<;>simp
 ·have h3':¬(c.toNat=47):=by simp at h3;omega
  exact aA (by simp[kL,hs,h3'])
 have h3':c.toNat=47:=by simp at h3;omega
 have hle:(bs s).length<=40:=by have:=pG h2;omega
 have h1':1<=(bs s).length:=by rw[hs];simp
 refine aH.inv mixed rfl (ι:={k:Nat//k<=((bs s)).length/\((bs s).take k).all p9=true}) (λk=>[(0,str s),(3,int k.1)]) (λk=>[]) 64 (λk=>((bs s)).length-k.1) ⟨0,by omega,by simp⟩ [] (by constructor<;>simp[hsz]) ?_;rintro⟨k,hk1,hi⟩ B hB;refine CI.n ?_;simp[hsz];rcases bC hk1 with⟨b,hk,hx,hr,hm,ht,hd,hw,h⟩|rfl
 ·simp[h,hr,hw,wN];refine CI.p (Ic b) ?_;simp;refine bM (λh4=>?_) (λh4=>?_)<;>simp only[h4]<;>simp[wN,hr]
  ·refine bQ (λh5=>?_) (λh5=>?_)<;>simp only[h5]<;>simp
   ·have h4':(bs s).all p9=false:=by
     have:p9 b=false:=by simp[p9]at h4 h5⊢;exact⟨h4,by omega⟩
     rw[oE];exact⟨b,hm,by simp[this]⟩
    exact aA (by simp[kL,h4'])
   ·have h4':p9 b=true:=by simp[p9]at h4 h5⊢;exact .inr (by omega)
    refine hB _ ⟨k+1,by omega,by simp[ht,hi,h4']⟩ [] ?_ (by simp;omega);constructor<;>simp[hw,ht,h4']
  ·have h4':p9 b=true:=by simp[p9]at h4⊢;exact .inl h4
   refine hB _ ⟨k+1,by omega,by simp[ht,hi,h4']⟩ [] ?_ (by simp;omega);constructor<;>simp[hw,ht,h4']
 ·simp;rw[bX]at hi;have e:kL s=true:=by
   simp only[kL,hi,h1',hle,F7,uP,Bool.and_true];rw[hs];simpa using h3'
  exact aA (by simp[e])
theorem UX (s:Str):C0 343 [str s] (bool (mJ (bs s))):=by
 refine Ct.B func343 ?_;simp;have hsz:=iA s;refine bM (λh1=>?_) (λh1=>?_)<;>simp only[h1]<;>simp
 ·have hz:2<=(bs s).length:=by have:=lS h1;omega
  refine⟨by omega,?_⟩;simp[A5,AD];exact aA (by simp[mJ,hz])
 ·have hz:¬(2<=(bs s).length):=by have:=pG h1;omega
  exact aA (by simp[mJ,hz])
theorem zi2 (a b:Str)(hl:(bs a).length<=9223372036854775807\/(bs b).length<=9223372036854775807):C0 457 [str a,str b] (int (qU a b)):=by
 refine Ct.B func457 ?_;simp;have hsa:=iA a;have hsb:=iA b;refine aH.inv mixed rfl (ι:={k:Nat//k<=(bs a).length/\k<=(bs b).length/\(bs a).take k=(bs b).take k}) (λk=>[(0,str a),(1,str b),(5,int k.1)]) (λk=>[]) 64 (λk=>(bs a).length-k.1) ⟨0,by omega,by omega,by simp⟩ [] (by constructor<;>simp) ?_;rintro⟨k,hk1,hk2,hi⟩ B hB;refine CI.n ?_;simp[hsa,hsb];refine bM (λh1=>?_) (λh1=>?_)<;>simp only[h1]<;>simp[hsa,hsb]
 ·have hka:k<(bs a).length:=by have:=lS h1;omega
  have hra:(bs a)[k]? =some (bs a)[k]:=bO hka;have hda:(bs a).drop k=(bs a)[k]::(bs a).drop (k+1):=tP hka;have hta:(bs a).take (k+1)=(bs a).take k++[(bs a)[k]]:=by rw[jH,hra];rfl
  generalize(bs a)[k]=x at hra hda hta;refine bQ (λh2=>?_) (λh2=>?_)
  ·have hkb:k<(bs b).length:=by have:=lS h2;omega
   have hrb:(bs b)[k]? =some (bs b)[k]:=bO hkb;have hdb:(bs b).drop k=(bs b)[k]::(bs b).drop (k+1):=tP hkb;have htb:(bs b).take (k+1)=(bs b).take k++[(bs b)[k]]:=by rw[jH,hrb];rfl
   generalize(bs b)[k]=y at hrb hdb htb;have e:=RZ k hi hk1 hk2;rw[hda,hdb]at e;simp only[Lib.compareBytes]at e;have hw:IntKind.wrap .i64 ((k:Int)+1)=k+1:=wz _;simp only[h2];simp[wN,hra,hrb];refine dr ?_;refine bQ (λh3=>?_) (λh3=>?_)<;>simp only[h3]<;>simp[wN,hra,hrb]
   ·have h3':x<y:=by simpa[GB]using h3
    rw[aZ h3']at e;exact aA (by simp[qU,e])
   have h3':¬x<y:=by simpa[GB]using h3
   rw[aT h3']at e;refine dr ?_;refine bQ (λh4=>?_) (λh4=>?_)<;>simp only[h4]<;>simp[wN,hra,hrb]
   ·have h4':y<x:=by simpa[GB]using h4
    rw[aZ h4']at e;exact aA (by simp[qU,e])
   have h4':¬y<x:=by simpa[GB]using h4
   have hxy:x=y:=by
    simp only[GB]at h3' h4';exact JI.1 (by omega)
   refine hB _ ⟨k+1,by omega,by omega,by rw[hta,htb,hi,hxy]⟩ [] ?_ (by simp;omega);constructor<;>simp[hw]
  ·have hkb:k=(bs b).length:=by have:=pG h2;omega
   have e:=RZ k hi hk1 hk2;rw[hda,hkb,yC]at e;simp only[Lib.compareBytes]at e;have h3:¬(bs a).length<(bs b).length:=by omega
   have h4:(bs b).length<(bs a).length:=by omega
   simp only[h2];simp[hsa,hsb,h3,h4];exact aA (by simp[qU,e])
 ·have hka:k=(bs a).length:=by have:=pG h1;omega
  have e:=RZ k hi hk1 hk2;rw[hka,yC]at e;by_cases h3:(bs a).length<(bs b).length
  ·have hdb:(bs b).drop (bs a).length=(bs b)[(bs a).length]::(bs b).drop ((bs a).length+1):=tP h3;rw[hdb]at e;simp only[Lib.compareBytes]at e;simp[h3];exact aA (by simp[qU,e])
  ·have h4:(bs b).length=(bs a).length:=by omega
   rw[<-h4,yC]at e;simp only[Lib.compareBytes]at e;have h5:¬(bs b).length<(bs a).length:=by omega
   simp[h3,h5,hsa,hsb];exact aA (by simp[qU,e])
theorem XE (s:Str)(hl:(bs s).length<=1000):C0 344 [str s] (bool (iG [] (bs s))):=by
 refine Ct.B func344 ?_;simp;have hsz:=iA s;refine aH.inv mixed rfl (ι:={p:Nat×Nat//(p.1<=(bs s).length/\p.2<=p.1/\iG (((bs s).drop p.2).take (p.1-p.2)) ((bs s).drop p.1)=iG [] (bs s))\/(p.1=(bs s).length+1/\p.2<=p.1/\iG [] (bs s)=true)}) (λk=>[(0,str s),(3,int k.1.2),(4,int k.1.1)]) (λk=>[]) 64 (λk=>(bs s).length+1-k.1.1) ⟨(0,0),.inl (by simp)⟩ [] (by constructor<;>simp) ?_;rintro⟨⟨k,f⟩,hi⟩ B hB;refine CI.n ?_;simp[hsz];refine bQ (λh1=>?_) (λh1=>?_)
 ·have hk:k<=(bs s).length:=by have:=lS h1;omega
  have hi1:k<=(bs s).length/\f<=k/\iG (((bs s).drop f).take (k-f)) ((bs s).drop k)=iG [] (bs s):=by
   rcases hi with hi|⟨hi,_⟩
   ·exact hi
   ·simp only at hi;omega
  obtain⟨_,hf,hi1⟩:=hi1;have hw:IntKind.wrap .i64 ((k:Int)+1)=k+1:=wz _;have hpc:bs (s.extract f k)=((bs s).drop f).take (k-f):=by rw[AD,List.drop_take]
  simp only[h1];simp[hsz];refine bM (λh2=>?_) (λh2=>?_)<;>simp only[h2]<;>simp[hsz]
  ·have hkl:k=(bs s).length:=by have:=lS h2;omega
   refine⟨by omega,?_⟩;refine CI.p (DK (s.extract f k)) ?_;simp;rw[hkl,yC]at hi1;rw[show fI (s.extract f k)=iG [] (bs s) by rw[<-hi1,fI,hpc,hkl];rfl];refine bQ (λh3=>?_) (λh3=>?_)<;>simp only[h3]<;>simp
   ·have h3':iG [] (bs s)=false:=by simpa using h3
    exact aA (by simp[h3'])
   ·have h3':iG [] (bs s)=true:=by simpa using h3
    refine hB _ ⟨(k+1,k+1),.inr ⟨by simp;omega,by simp,h3'⟩⟩ [] ?_ (by simp;omega);constructor<;>simp[hw]
  ·have hkl:k<(bs s).length:=by have:=pG h2;omega
   have hr:(bs s)[k]? =some (bs s)[k]:=bO hkl;have hd:(bs s).drop k=(bs s)[k]::(bs s).drop (k+1):=tP hkl;have ht:((bs s).drop f).take (k+1-f)=((bs s).drop f).take (k-f)++[(bs s)[k]]:=by
    rw[show k+1-f=(k-f)+1 by omega,jH,CN,show f+(k-f)=k by omega,hr];rfl
   generalize(bs s)[k]=c at hr hd ht;rw[hd,iG]at hi1;simp[wN,hr];refine bQ (λh3=>?_) (λh3=>?_)<;>simp only[h3]<;>simp[hsz]
   ·have h3':c=46:=JI.1 (by have:=lS h3;simp at this⊢;omega);refine⟨by omega,?_⟩;refine CI.p (DK (s.extract f k)) ?_;simp;rw[aZ h3']at hi1;refine bQ (λh4=>?_) (λh4=>?_)<;>simp only[h4]<;>simp
    ·have h4':iG [] (bs s)=false:=by
      rw[<-hi1];simp[fI,hpc]at h4;simp[h4]
     exact aA (by simp[h4'])
    ·have h4':fI (s.extract f k)=true:=by simpa using h4
     rw[fI,hpc]at h4';rw[h4',uP]at hi1;refine hB _ ⟨(k+1,k+1),.inl ⟨by simp;omega,by simp,by simpa using hi1⟩⟩ [] ?_ (by simp;omega);constructor<;>simp[hw]
   ·have h3':¬c=46:=by
     intro e;subst e;simp at h3
    rw[aT h3']at hi1;refine hB _ ⟨(k+1,f),.inl ⟨by simp;omega,by simp;omega,by simp only;rw[ht];exact hi1⟩⟩ [] ?_ (by simp;omega);constructor<;>simp[hw]
 ·have hi1:iG [] (bs s)=true:=by
   have:=pG h1;rcases hi with⟨hi,_⟩|⟨_,_,hi⟩
   ·simp only at hi;omega
   ·exact hi
  simp only[h1];simp;exact aA (by simp[hi1])
attribute [simp] ntmps251 results251 ntmps535 results535 ntmps441 results441 ntmps440 results440 ntmps592 results592 ntmps348 results348 ntmps564 results564 ntmps597 results597 ntmps570 results570 ntmps526 results526
theorem Q2 (s:Str):C0 251 [str s] (bool (j8 s)):=by
 refine Ct.B func251 ?_;simp;have hsz:=iA s;refine bQ (λh1=>?_) (λh1=>?_)<;>simp only[h1]<;>simp[hsz]
 ·have hz:¬((bs s).length<=40):=by have:=lS h1;omega
  exact aA (by simp[j8,hz])
 have hz:(bs s).length<=40:=by have:=pG h1;omega
 refine bM (λh2=>?_) (λh2=>?_)<;>simp only[h2]<;>simp
 ·have e:bs s=[42]:=by rw[lS h2];rfl
  exact aA (by simp[j8,e])
 have e:¬bs s=[42]:=by
  intro e;exact pG h2 (DY e)
 refine CI.p (UX s) ?_;simp;refine bM (λh3=>?_) (λh3=>?_)<;>simp only[h3]<;>simp
 ·have h3':2<=(bs s).length:=by simp[mJ]at h3;exact h3.1
  refine⟨by omega,?_⟩;have e2:bs (s.extract 2 s.size)=(bs s).drop 2:=by rw[AD,hsz,bX]
  refine CI.p (XE (s.extract 2 s.size) (by rw[e2,AY];omega)) ?_;simp;rw[e2];refine bM (λh4=>?_) (λh4=>?_)<;>simp only[h4]<;>simp
  ·exact aA (by simp[j8,hz,h3,h4])
  refine CI.p (XE s (by omega)) ?_;simp;exact aA (by simp[j8,hz,h3,h4,e])
 refine CI.p (XE s (by omega)) ?_;simp;exact aA (by simp[j8,hz,h3,e])
theorem Xi (a b:Str):C0 573 [str a,str b] (int (qU a b)):=Ct.pure (xs:=[.string a,.string b]) (λw=>Tryz.strings_Compare a b w)
theorem zi3 (a b:Str):C0 535 [str a,str b] (int (qU a b)):=by
 refine Ct.B func535 ?_;simp;refine CI.p (Xi a b) ?_;simp;exact aA
theorem Mi (c:Int):C0 441 [.d (.v (.int .i32 c))] (bool (K1 c)):=by
 refine Ct.B func441 ?_;simp
 repeat' first
  | (refine bM (λh=>?_) (λh=>?_)<;>simp only[h]<;>simp[h])
  | (refine bQ (λh=>?_) (λh=>?_)<;>simp only[h]<;>simp[h])
  | (refine⟨(show jG _ _ from by decide+kernel),?_⟩)
  |fail
 all_goals exact aA (by simp[*,K1])
theorem PG (c:Int):C0 440 [.d (.v (.int .i32 c))] (bool (KR c)):=by
 refine Ct.B func440 ?_;simp;refine CI.p (Mi c) ?_;simp
 repeat' first
  | (refine bM (λh=>?_) (λh=>?_)<;>simp only[h]<;>simp[h])
  | (refine bQ (λh=>?_) (λh=>?_)<;>simp only[h]<;>simp[h])
  | (refine⟨(show jG _ _ from by decide+kernel),?_⟩)
  |fail
 all_goals exact aA (by simp[*,KR])
theorem hasPrefix (s p:Str):C0 592 [str s,str p] (bool (decide ((bs p).length<=(bs s).length)&&decide ((bs s).take (bs p).length=bs p))):=by
 refine Ct.B func592 ?_;simp;have hs:=iA s;have hp:=iA p;refine bM (λh1=>?_) (λh1=>?_)<;>simp only[h1]<;>simp[hs,hp]
 ·have h1':(bs p).length<=(bs s).length:=by have:=lS h1;omega
  refine⟨by omega,?_⟩;exact aA (by simp[h1',A5,AD])
 ·have h1':¬(bs p).length<=(bs s).length:=by have:=pG h1;omega
  exact aA (by simp[h1'])
theorem H6 (s:Str):C0 348 [str s] (bool (fI s)):=by
 refine Ct.B func348 ?_;simp;have hsz:=iA s;refine bQ (λh1=>?_) (λh1=>?_)<;>simp only[h1]<;>simp[hsz]
 ·have hz:¬((bs s).length<=12):=by have:=lS h1;omega
  exact aA (by simp[fI,lW,hz])
 have hz:(bs s).length<=12:=by have:=pG h1;omega
 refine aH.inv mixed rfl (ι:={k:Nat//k<=(bs s).length/\((bs s).take k).all rE=true/\(1<=k->vE ((bs s).headD 0)=true)}) (λk=>[(0,str s),(9,.own 64)]) (λk=>[(64,.iter s k.1)]) 65 (λk=>(bs s).length-k.1) ⟨0,by omega,by simp,by omega⟩ [] (by constructor<;>simp) ?_;rintro⟨k,hk1,hi,hl⟩ B hB;by_cases hk:k<(bs s).length
 ·have hr:(bs s)[k]? =some (bs s)[k]:=bO hk;have hm:(bs s)[k]∈(bs s):=mF hk;have ht:(bs s).take (k+1)=(bs s).take k++[(bs s)[k]]:=by rw[jH,hr];rfl
  have h0:k=0->(bs s).headD 0=(bs s)[k]:=by
   intro e;simp only[e,List.headD_eq_head?_getD,List.head?_eq_getElem?];rw[bO (by omega)];rfl
  generalize(bs s)[k]=c at hr hm ht h0;by_cases hc:c.toNat<128
  ·refine CI.n ?_;simp[hsz,hk,Qf hr hc];refine CI.p (PG c.toNat) ?_;simp;refine bM (λh2=>?_) (λh2=>?_)<;>simp only[h2]<;>simp
   ·have h2':(bs s).all rE=false:=by
     rw[oE];exact⟨c,hm,by simpa using h2⟩
    exact aA (by simp[fI,lW,h2'])
   have h2':rE c=true:=by simpa using h2
   refine bM (λh3=>?_) (λh3=>?_)<;>simp only[h3]<;>simp
   ·have hk0:k=0:=by have:=lS h3;omega
    refine CI.p (Mi c.toNat) ?_;simp;refine bQ (λh4=>?_) (λh4=>?_)<;>simp only[h4]<;>simp
    ·have h4':vE c=false:=by simpa using h4
     have h5:(bs s).head?.getD 0=c:=by rw[<-List.headD_eq_head?_getD];exact h0 hk0
     exact aA (by simp[fI,lW,h5,h4'])
    ·have h4':vE c=true:=by simpa using h4
     refine hB _ ⟨k+1,by omega,by simp[ht,hi,h2'],λ_=>by rw[h0 hk0];exact h4'⟩ [] ?_ (by simp;omega);constructor<;>simp
   ·have hk0:1<=k:=by have:=pG h3;omega
    refine hB _ ⟨k+1,by omega,by simp[ht,hi,h2'],λ_=>hl hk0⟩ [] ?_ (by simp;omega);constructor<;>simp
  ·have hu:=Qg hr (by omega);have hv:rE c=false:=by
    cases hv:rE c
    ·rfl
    ·exact absurd (Ie hv) hc
   have h2':(bs s).all rE=false:=by
    rw[oE];exact⟨c,hm,by simp[hv]⟩
   refine CI.n ?_;simp[hsz,hk];refine CI.p (PG (Utf8.decode s k).1) ?_;simp;rw[Hr hu];simp;exact aA (by simp[fI,lW,h2'])
 ·have hkl:k=(bs s).length:=by omega
  rw[hkl,bX]at hi;refine CI.n ?_;simp[hsz,hk,hkl];cases hb:bs s with
  |nil=>
   have e:s=⟨#[]⟩:=DY (by rw[hb];rfl);subst e;exact aA (by simp[fI,lW,hb])
  |cons a l=>
   have hne:¬s=⟨#[]⟩:=by
    intro e;subst e;cases hb
   have e:fI s=true:=by
    have h5:=hl (by rw[hkl,hb];simp);have h6:1<=(bs s).length:=by rw[hb];simp
    simp only[fI,lW,hi,hz,h5,h6,F7,uP]
   exact aA (by simp[e,hne])
theorem Oe (s p:Str):C0 564 [str s,str p] (bool (decide ((bs p).length<=(bs s).length)&&decide ((bs s).take (bs p).length=bs p))):=by
 refine Ct.B func564 ?_;simp;refine CI.p (hasPrefix s p) ?_;simp;exact aA
def EM (s p:Str):Str:=if(decide ((bs p).length<=(bs s).length)&&decide ((bs s).take (bs p).length=bs p))=true then s.extract (bs p).length s.size else s
theorem trimPrefix (s p:Str):C0 597 [str s,str p] (str (EM s p)):=by
 refine Ct.B func597 ?_;simp;have hs:=iA s;have hp:=iA p;refine CI.p (hasPrefix s p) ?_;simp;generalize hq:(decide ((bs p).length<=(bs s).length)&&decide ((bs s).take (bs p).length=bs p))=q;refine bQ (λh1=>?_) (λh1=>?_)<;>simp only[h1]<;>simp[hs,hp]
 ·have h1':(bs p).length<=(bs s).length:=by
   rw[h1,bL]at hq;exact lS hq.1
  refine⟨by omega,?_⟩;exact aA (by simp[EM,hq,h1,hs])
 ·exact aA (by simp[EM,hq,h1])
theorem Vn (s p:Str):C0 570 [str s,str p] (str (EM s p)):=by
 refine Ct.B func570 ?_;simp;refine CI.p (trimPrefix s p) ?_;simp;exact aA
theorem WC (s:Str):C0 526 [str s] (bool (kL s)):=by
 refine Ct.B func526 ?_;simp;have hsz:=iA s;refine aH.inv mixed rfl (ι:={k:Nat//k<=(bs s).length/\((bs s).take k).all p9=true}) (λk=>[(0,str s),(6,.own 64)]) (λk=>[(64,.iter s k.1)]) 65 (λk=>(bs s).length-k.1) ⟨0,by omega,by simp⟩ [] (by constructor<;>simp) ?_;rintro⟨k,hk1,hi⟩ B hB;by_cases hk:k<(bs s).length
 ·have hr:(bs s)[k]? =some (bs s)[k]:=bO hk;have hm:(bs s)[k]∈(bs s):=mF hk;have ht:(bs s).take (k+1)=(bs s).take k++[(bs s)[k]]:=by rw[jH,hr];rfl
  generalize(bs s)[k]=c at hr hm ht;by_cases hc:c.toNat<128
  ·refine CI.n ?_;simp[hsz,hk,Qf hr hc];refine CI.p (PG c.toNat) ?_;simp;refine bM (λh2=>?_) (λh2=>?_)<;>simp only[h2]<;>simp
   ·refine bQ (λh3=>?_) (λh3=>?_)<;>simp only[h3]<;>simp
    ·have h2':(bs s).all p9=false:=by
      rw[oE];exact⟨c,hm,by simp[p9]at h2 h3⊢;exact⟨h2,by omega⟩⟩
     exact aA (by simp[kL,h2'])
    ·have h2':p9 c=true:=by simp[p9]at h2 h3⊢;exact .inr (by omega)
     refine hB _ ⟨k+1,by omega,by simp[ht,hi,h2']⟩ [] ?_ (by simp;omega);constructor<;>simp
   ·have h2':p9 c=true:=by simp[p9]at h2⊢;exact .inl h2
    refine hB _ ⟨k+1,by omega,by simp[ht,hi,h2']⟩ [] ?_ (by simp;omega);constructor<;>simp
  ·have hu:=Qg hr (by omega);have hv:p9 c=false:=by
    cases hv:rE c
    ·simp[p9,hv];omega
    ·exact absurd (Ie hv) hc
   have h2':(bs s).all p9=false:=by
    rw[oE];exact⟨c,hm,by simp[hv]⟩
   have hn:¬((Utf8.decode s k).1:Int)=47:=by omega
   refine CI.n ?_;simp[hsz,hk];refine CI.p (PG (Utf8.decode s k).1) ?_;simp;rw[Hr hu];simp[hn];exact aA (by simp[kL,h2'])
 ·have hkl:k=(bs s).length:=by omega
  rw[hkl,bX]at hi;refine CI.n ?_;simp[hsz,hk,hkl];refine bM (λh1=>?_) (λh1=>?_)<;>simp only[h1]<;>simp
  ·refine CI.p (Oe s ⟨#[47]⟩) ?_;simp;have hz:(bs s).length<=40:=by have:=lS h1;omega
   have e:kL s=(decide ((bs ⟨#[47]⟩).length<=(bs s).length)&&decide ((bs s).take (bs ⟨#[47]⟩).length=bs ⟨#[47]⟩)):=by
    rw[show bs ⟨#[47]⟩=[47]from rfl];simp only[kL,hi,hz];cases hb:bs s with
    |nil=>rfl
    |cons a l=>simp[<-JI]
   exact aA (by simp[e])
  ·have hz:¬((bs s).length<=40):=by have:=pG h1;omega
   exact aA (by simp[kL,hz])
end Go.Proofs.YtobcmagefgdgdaaGreatDoor
section
open Go.RowKit Go.Shelf
namespace Go.Proofs.YtobcmagefgdgdaaGreatDoor
open Go.AI Go.G Tryz
attribute [local go_sem] Oper.semAt_some
theorem Zc (s p:Str)(n:Int)(w:World):Calls prog 605 #[.string s,.string p,.int .i64 n] w λe w'=>e=.returned (.func (.func 608) #[] #[.pointer (some ⟨w.heap.size+1,0,none⟩),.pointer (some ⟨w.heap.size,0,none⟩),.pointer (some ⟨w.heap.size+2,0,none⟩)])/\w'=((w.alloc (.cells #[.string s] 9)).alloc (.cells #[.string p] 9)).alloc (.cells #[.int .i64 n] 3):=by
 go_enter func605,ntmps605
 go_wp2
 go_ret
 exact⟨rfl,rfl⟩
theorem zlq (s p:Str)(w:World):Calls prog 596 #[.string s,.string p] w λe w'=>e=.returned (.func (.func 608) #[] #[.pointer (some ⟨w.heap.size+1,0,none⟩),.pointer (some ⟨w.heap.size,0,none⟩),.pointer (some ⟨w.heap.size+2,0,none⟩)])/\w'=((w.alloc (.cells #[.string s] 9)).alloc (.cells #[.string p] 9)).alloc (.cells #[.int .i64 0] 3):=by
 go_enter func596,ntmps596
 go_wp2_with (go_at_call 605;refine(Zc _ _ _ _).mono ?_;rintro e w' ⟨rfl,rfl⟩)
 go_ret
 exact⟨rfl,rfl⟩
structure kT (w:World)(rest:Str)(lp:Loop)(W:World):Prop where
 b0:W.heap[w.heap.size]? =some (.cells #[.bool false] 4 (0,0))
 b1:W.heap[w.heap.size+1]? =some (.cells #[.string rest] 9 (0,0))
 b2:W.heap[w.heap.size+2]? =some (.cells #[.string ⟨#[46]⟩] 9 (0,0))
 b3:W.heap[w.heap.size+3]? =some (.cells #[.int .i64 0] 3 (0,0))
 b4:W.heap[w.heap.size+4]? =some (.deferred (some []))
 b5:W.heap[w.heap.size+5]? =some (.loop lp)
 below:Below w.heap.size w W
 dr:w.drawn<=W.drawn
theorem wS {W:World}{B:Nat}{v:Value}{t:TypeId}(h:W.heap[B]? =some (.cells #[v] t (0,0))):W.cell? ⟨B,0,none⟩=some v/\W.frozen? ⟨B,0,none⟩=false:=by
 constructor<;>simp[World.cell?,World.frozen?,h]
theorem SI {W:World}{B:Nat}{v:Value}{t:TypeId}(h:W.heap[B]? =some (.cells #[v] t (0,0)))(x:Value):(W.setCell ⟨B,0,none⟩ x).heap[B]? =some (.cells #[x] t (0,0)):=by
 obtain⟨hlt,hk⟩:=qZ.1 h;show(W.heap.modify B _)[B]? =_;rw[uQ (by rw[Array.size_modify];exact hlt),Array.getElem_modify_self,hk];rfl
theorem x6 {W:World}{B k:Nat}(x:Value)(h:k≠B):(W.setCell ⟨B,0,none⟩ x).heap[k]? =W.heap[k]? :=Below.heap_setCell W ⟨B,0,none⟩ x k h
section
variable {w W W' : World} {rest : Str} {lp : Loop}
theorem kT.lt (h:kT w rest lp W):w.heap.size+5<W.heap.size:=(qZ.1 h.b5).1
theorem kT.grow (h:kT w rest lp W)(hb:Below W.heap.size W W')(hd:W.drawn<=W'.drawn):kT w rest lp W':=by
 have:=h.lt;exact⟨(hb.block _ (by omega)).trans h.b0,(hb.block _ (by omega)).trans h.b1,(hb.block _ (by omega)).trans h.b2,(hb.block _ (by omega)).trans h.b3,(hb.block _ (by omega)).trans h.b4,(hb.block _ (by omega)).trans h.b5,h.below.trans (hb.mono h.below.size),dH h.dr hd⟩
theorem kT.Dw (h:kT w rest lp W)(r:Str):kT w r lp (W.setCell ⟨w.heap.size+1,0,none⟩ (.string r)):=
 ⟨(x6 _ (by omega)).trans h.b0,SI h.b1 _,(x6 _ (by omega)).trans h.b2,(x6 _ (by omega)).trans h.b3,(x6 _ (by omega)).trans h.b4,(x6 _ (by omega)).trans h.b5,h.below.setCell (p:=⟨w.heap.size+1,0,none⟩) (by simp) _,h.dr⟩
theorem kT.Dx (h:kT w rest lp W):kT w rest lp (W.setCell ⟨w.heap.size,0,none⟩ (.bool false)):=
 ⟨SI h.b0 _,(x6 _ (by omega)).trans h.b1,(x6 _ (by omega)).trans h.b2,(x6 _ (by omega)).trans h.b3,(x6 _ (by omega)).trans h.b4,(x6 _ (by omega)).trans h.b5,h.below.setCell (p:=⟨w.heap.size,0,none⟩) (by simp) _,h.dr⟩
theorem Below.put {B l:Nat}{w W:World}(h:Below B w W)(o:Obj)(hl:B<=l):Below B w (W.putObj l o):=
 ⟨h.os,h.tape,h.output,by simpa using h.size,λk hk=>(World.putObj_heap_other (by omega)).trans (h.block k hk)⟩
theorem kT.put (h:kT w rest lp W)(lq:Loop):kT w rest lq (W.putObj (w.heap.size+5) (.loop lq)):=
 ⟨(World.putObj_heap_other (by omega)).trans h.b0,(World.putObj_heap_other (by omega)).trans h.b1,(World.putObj_heap_other (by omega)).trans h.b2,(World.putObj_heap_other (by omega)).trans h.b3,(World.putObj_heap_other (by omega)).trans h.b4,World.putObj_heap_same h.lt,Below.put h.below _ (by omega),h.dr⟩
end
end Go.Proofs.YtobcmagefgdgdaaGreatDoor
end
section
namespace Go.G
open Go.AI
theorem Ky :∀(l p:List UInt8) (i:Int),Lib.indexByte l 46=i->(i<0->iG p l=lW (p++l))/\(0<=i->iG p l=(lW (p++l.take i.toNat)&&iG [] (l.drop (i.toNat+1))))
 |[],p,i,h=>by
  simp[Lib.indexByte]at h;subst h;simp[iG]
 |c::l,p,i,h=>by
  simp only[Lib.indexByte]at h;by_cases hc:c=46
  ·subst hc;simp at h;subst h;simp[iG]
  ·have hc':(c==46)=false:=by simpa using hc
   have ih:=Ky l (p++[c]) (Lib.indexByte l 46) rfl;have h1:=Lib.indexByte_ge l 46;simp only[hc']at h;by_cases h2:Lib.indexByte l 46<0
   ·have e:Lib.indexByte l 46= -1:=by omega
    rw[e]at h;have:i= -1:=by simpa using h.symm
    subst this;exact⟨λ_=>by rw[iG,aT hc,ih.1 h2];simp,λh=>by omega⟩
   ·obtain⟨k,hk⟩:∃k:Nat,Lib.indexByte l 46=k:=⟨(Lib.indexByte l 46).toNat,by omega⟩;rw[hk]at h ih;have e:i=((k+1:Nat):Int):=by
     have:¬(k:Int)<0:=by omega
     simp[this]at h;omega
    subst e;refine⟨λh=>by omega,λ_=>?_⟩;rw[iG,aT hc,ih.2 (by omega)];simp
end Go.G
open Go.RowKit Go.Shelf
namespace Go.Proofs.YtobcmagefgdgdaaGreatDoor
open Go.AI Go.G Tryz
attribute [local go_sem] Oper.semAt_some
theorem zjV {σ σ':Names}{I I':Nat->Prop}{w w':World}{nm:Nat}{m':Mem}(hp:eG σ I w (bB []) nm σ' I' w' m'):Below w.heap.size w w':=
 ⟨hp.os,hp.tape,hp.output.eq,hp.size,λk hk=>hp.frame k hk (by rintro⟨b,_,_,hb,_⟩;simp[bB]at hb)⟩
theorem Lb (s:Str)(w:World):Calls prog 348 #[.string s] w λe w'=>e=.returned (.bool (fI s))/\Below w.heap.size w w'/\w.drawn<=w'.drawn:=by
 refine(H6 s (λ_=>none) (λn=>n<w.heap.size) w [.string s] (λ_ h=>h) rfl (λi c x h1 h2=>?_) ⟨λb k hb=>by simp[bB]at hb,λb b' k k' x x' n hb=>by simp[bB]at hb⟩ (λ_ _=>rfl)).mono ?_
 ·match i with
  |0=>simp at h1 h2;subst h1;subst h2;exact .d (.v _)
  |i+1=>simp at h1
 ·rintro e w' ⟨v,σ',I',rfl,hp,hv⟩;cases hv with
  |d hd=>cases hd with
   |v=>exact⟨rfl,zjV hp,hp.output.drawn⟩
def W7 (H:Nat)(W:World):Nat:=match W.cell? ⟨H+1,0,none⟩with
 |some (.string s)=>s.size
 |_=>0
theorem Kn {w W:World}{rest:Str}{r:Loop}(h:kT w rest r W):W7 w.heap.size W=rest.size:=by
 simp[W7,(wS h.b1).1]
def Ti (w:World)(rest:Str)(r:Loop)(x:Str)(e:Ending)(W':World):Prop:=(e=.returned (.bool true)/\fI x=true/\kT w rest r W')\/(e=.returned (.bool false)/\fI x=false/\∃q:Loop,q.state=.done/\q.pending=some .ret/\kT w rest q W')
abbrev zlx (w:World)(r:Loop)(t:Bool)(W:World):Prop:=(t=true/\∃rest,kT w rest r W)\/(t=false/\∃rest,∃q:Loop,q.state=.done/\q.pending=some .ret/\kT w rest q W)
set_option maxRecDepth 100000 in
set_option maxHeartbeats 2000000 in
theorem zeQ (m:Nat)(hm:1<=m)(w:World)(s:Str)(r:Loop)(hs:(bs s).length<=40)
  (hY:∀W rest x,kT w rest r W->YieldAt Fence.wide (m-1) prog (w.heap.size+5) #[.string x] W (Ti w rest r x))
  (W:World) (h:kT w s r W):
  CallsIn Fence.wide m prog 608 #[.func (.yield (w.heap.size+5)) #[] #[],.pointer (some ⟨w.heap.size+2,0,none⟩),.pointer (some ⟨w.heap.size+1,0,none⟩),.pointer (some ⟨w.heap.size+3,0,none⟩)] W λe W'=>(∃v,e=.returned v)/\zlx w r (iG [] (bs s)) W':=by
 refine callsIn_of_wp func608 rfl trivial ?_ rfl;simp only[ntmps608,JL,jI,gZ,Nat.reduceAdd,Nat.reduceSub,Array.replicate_succ,Array.replicate_zero,List.push_toArray,List.append_toArray,EI,yD];have c2:=(wS h.b2).1
 gi_wp2
 gi_loopw [7] (λ_ wr=>∃rest,kT w rest r wr/\iG [] (bs rest)=iG [] (bs s)/\(bs rest).length<=40) (λ_ wr=>W7 w.heap.size wr)
 case atStart=>exact⟨s,h,rfl,hs⟩
 case round=>
  obtain⟨rest,hr,hg,hl⟩:=hrel;clear c2;have d1:=(wS hr.b1).1;have d2:=(wS hr.b2).1;have d3:=(wS hr.b3).1;have hsp:=Ky (bs rest) [] _ rfl;have hge:=Lib.indexByte_ge (bs rest) 46;have hsz:=iA rest;unfold bs at hsp hge;by_cases hi:Lib.indexByte rest.data.toList 46<0
  ·obtain⟨f1,t1,a1,b1,hy1,hR1⟩:=hY wr rest rest hr
   gi_wp2_with (refine⟨trivial,?_⟩;gi_at_call 610;refine(EG.2 (Tryz.strings_Index_one rest 46 _)).mono ?_;rintro e w' ⟨rfl,rfl⟩)
   refine hR1.mono ?_;have e1:iG [] (bs s)=fI rest:=by rw[<-hg];exact hsp.1 hi
   rintro e W3 (⟨rfl,hn,h3⟩|⟨rfl,hn,q,hq1,hq2,hq⟩)
   ·gi_wp2
    go_end0
    exact⟨⟨_,rfl⟩,.inl ⟨e1.trans hn,rest,h3⟩⟩
   ·gi_wp2
    go_end0
    exact⟨⟨_,rfl⟩,.inr ⟨e1.trans hn,rest,q,hq1,hq2,hq⟩⟩
  ·obtain⟨k,hk⟩:∃k:Nat,Lib.indexByte rest.data.toList 46=k:=⟨(Lib.indexByte rest.data.toList 46).toNat,by omega⟩;have hkl:k<rest.size:=by
    rw[hsz];exact(cE.1 (Lib.indexByte_some hk).1).1
   have hidx:∀(j:Nat) (w:World),CallsIn Fence.wide j prog 610 #[.string rest,.string ⟨#[46]⟩] w λe w'=>e=.returned (.int .i64 k)/\w'=w:=by
    intro j w;rw[<-hk];exact EG.2 (Tryz.strings_Index_one rest 46 _)
   have H1:=hsp.2 (by omega);rw[hk]at H1;have H2:iG [] (bs s)=(fI (rest.extract 0 k)&&iG [] (bs (rest.extract (k+1) rest.size))):=by
    rw[<-hg];refine H1.trans ?_;rw[AD,fI,AD,hsz,bX];simp[bs]
   have H3:(bs (rest.extract (k+1) rest.size)).length<=40:=by rw[AD,hsz,bX,AY];omega
   have H4:(rest.extract (k+1) rest.size).size<rest.size:=by simp;omega
   have H5:rest.size<=40:=by omega
   clear H1 hsp hge hsz hk hi;obtain⟨f1,t1,a1,b1,hy1,hR1⟩:=hY wr rest (rest.extract 0 k) hr
   gi_wp2_with (refine⟨trivial,?_⟩;gi_at_call 610;refine(hidx _ _).mono ?_;rintro e w' ⟨rfl,rfl⟩)
   refine hR1.mono ?_;clear d1 d2 d3;rintro e W3 (⟨rfl,hn,h3⟩|⟨rfl,hn,q,hq1,hq2,hq⟩)
   ·obtain⟨d1,d4⟩:=wS h3.b1;have d2:=(wS h3.b2).1
    gi_wp2
    go_roundw
    case rel=>exact⟨rest.extract (k+1) rest.size,h3.Dw _,by rw[H2,hn];rfl,H3⟩
    case measure=>rw[Kn (h3.Dw _),Kn hr];exact H4
   ·gi_wp2
    refine bodyPost_ret (results_none rfl _ _ _) rfl ?_;exact⟨⟨_,rfl⟩,.inr ⟨by rw[H2,hn];rfl,rest,q,hq1,hq2,hq⟩⟩
set_option maxRecDepth 100000 in
set_option maxHeartbeats 2000000 in
theorem zfg (s:Str)(hs:(bs s).length<=40)(w:World):Calls prog 569 #[.string s] w λe w'=>e=.returned (.bool (iG [] (bs s)))/\Below w.heap.size w w'/\w.drawn<=w'.drawn:=by
 refine(EG (n:=4)).1 ?_;refine callsIn_of_wp_marks func569 rfl trivial ?_ rfl;simp only[ntmps569,JL,jI,gZ,Nat.reduceAdd,Nat.reduceSub,Array.replicate_succ,Array.replicate_zero,List.push_toArray,List.append_toArray,EI,yD]
 gi_wp2_with (refine⟨trivial,?_⟩;gi_at_call 596;refine(EG.2 (zlq _ _ _)).mono ?_;rintro e w' ⟨rfl,rfl⟩)
 obtain⟨W0,hW0⟩:∃W0,(((w.alloc (.cells #[.bool false] 4)).alloc (.cells #[.string s] 9)).alloc (.cells #[.string ⟨#[46]⟩] 9)).alloc (.cells #[.int .i64 0] 3)=W0:=⟨_,rfl⟩;have hs0:W0.heap.size=w.heap.size+4:=by rw[<-hW0];simp
 have k0:W0.heap[w.heap.size]? =some (.cells #[.bool false] 4 (0,0)):=by
  rw[<-hW0];exact(((Below.heap_alloc _ _ _ (by simp;omega)).trans (Below.heap_alloc _ _ _ (by simp;omega))).trans (Below.heap_alloc _ _ _ (by simp))).trans (World.alloc_heap_new w _)
 have k1:W0.heap[w.heap.size+1]? =some (.cells #[.string s] 9 (0,0)):=by
  rw[<-hW0];refine((Below.heap_alloc _ _ _ (by simp)).trans (Below.heap_alloc _ _ _ (by simp))).trans ?_;have:=World.alloc_heap_new (w.alloc (.cells #[.bool false] 4)) (.cells #[.string s] 9);rwa[F9]at this
 have k2:W0.heap[w.heap.size+2]? =some (.cells #[.string ⟨#[46]⟩] 9 (0,0)):=by
  rw[<-hW0];refine(Below.heap_alloc _ _ _ (by simp)).trans ?_;have:=World.alloc_heap_new ((w.alloc (.cells #[.bool false] 4)).alloc (.cells #[.string s] 9)) (.cells #[.string ⟨#[46]⟩] 9);rwa[F9,F9]at this
 have k3:W0.heap[w.heap.size+3]? =some (.cells #[.int .i64 0] 3 (0,0)):=by
  rw[<-hW0];have:=World.alloc_heap_new (((w.alloc (.cells #[.bool false] 4)).alloc (.cells #[.string s] 9)).alloc (.cells #[.string ⟨#[46]⟩] 9)) (.cells #[.int .i64 0] 3);rwa[F9,F9,F9]at this
 have kb:Below w.heap.size w W0:=by
  rw[<-hW0];exact((((Below.refl _ w).alloc (bY _) _).alloc (by simp) _).alloc (by simp;omega) _).alloc (by simp;omega) _
 have kd:w.drawn<=W0.drawn:=by rw[<-hW0];exact bY _
 rw[hW0];clear hW0;refine Fx rfl (by omega) rfl trivial (enters_of func608 (by kernel_rfl) rfl) ?_;rintro fn hfn r hr;rw[hs0]at hr⊢;have k5:((W0.alloc (.deferred (some []))).alloc (.loop r)).heap[w.heap.size+5]? =some (.loop r):=by
  have:=World.alloc_heap_new (W0.alloc (.deferred (some []))) (.loop r);rwa[F9,hs0]at this
 have hold:∀k,k<w.heap.size+4->((W0.alloc (.deferred (some []))).alloc (.loop r)).heap[k]? =W0.heap[k]? :=λk hk=>
  (Below.heap_alloc _ _ k (by simp;omega)).trans (Below.heap_alloc _ _ k (by omega))
 have k4:((W0.alloc (.deferred (some []))).alloc (.loop r)).heap[w.heap.size+4]? =some (.deferred (some [])):=by
  refine(Below.heap_alloc _ _ _ (by simp;omega)).trans ?_;have:=World.alloc_heap_new W0 (.deferred (some []));rwa[hs0]at this
 have hN:kT w s r ((W0.alloc (.deferred (some []))).alloc (.loop r)):=
  ⟨(hold _ (by omega)).trans k0,(hold _ (by omega)).trans k1,(hold _ (by omega)).trans k2,(hold _ (by omega)).trans k3,k4,k5,(kb.alloc (by omega) _).alloc (by simp;omega) _,kd⟩
 have hY:∀W rest x,kT w rest r W->YieldAt Fence.wide (4-1-1) prog (w.heap.size+5) #[.string x] W (Ti w rest r x):=by
  intro W rest x h;have hp:=h.put {r with state:=.busy};refine zb9 h.b5 (by rw[hr]) (by rw[hr];rfl) trivial {tmps:=#[.string s,undef,.pointer (some ⟨w.heap.size,0,none⟩),.string x,.string s,.func (.func 608) #[] #[.pointer (some ⟨w.heap.size+1+1,0,none⟩),.pointer (some ⟨w.heap.size+1,0,none⟩),.pointer (some ⟨w.heap.size+1+2,0,none⟩)],.string x,undef,undef,undef],defers:=[]} W h.b5 ?_ ?_
  ·intro K hK;rw[hr]
   gi_wp2
   exact hK
  ·generalize hWb:W.putObj (w.heap.size+5) (.loop {r with state:=.busy})=Wb at hp;have hbd:=jW Loop.body hr;have hrr:∀W3,kT w rest {r with state:=.busy} W3->kT w rest r (W3.putObj (w.heap.size+5) (.loop {{r with state:=.busy}with state:=if(none:Option Code).isNone then .ready else .done,pending:=none})):=λW3 h3=>by
    have:=h3.put r;rw[hr]at this⊢;exact this
   dsimp only at hbd;rw[hbd];clear hbd hr hs0 k0 k1 k2 k3 k4 k5 kb hold hN hWb h;cases hv:fI x with
   |true=>
    have hc:∀(j:Nat) (W:World),CallsIn (Fence.wide.inRound (w.heap.size+5)) j prog 348 #[.string x] W λe w'=>e=.returned (.bool true)/\Below W.heap.size W w'/\W.drawn<=w'.drawn:=λj W=>by
     rw[<-hv];exact CallsIn.inRound _ (EG.2 (Lb x W))
    gi_wp2_with (refine⟨trivial,?_⟩;gi_at_call 348;refine(hc _ _).mono ?_;rintro e w' ⟨rfl,hB,hD⟩)
    exact⟨none,rfl,_,(hp.grow hB hD).b5,.inl ⟨rfl,hv,hrr _ (hp.grow hB hD)⟩⟩
   |false=>
    have hc:∀(j:Nat) (W:World),CallsIn (Fence.wide.inRound (w.heap.size+5)) j prog 348 #[.string x] W λe w'=>e=.returned (.bool false)/\Below W.heap.size W w'/\W.drawn<=w'.drawn:=λj W=>by
     rw[<-hv];exact CallsIn.inRound _ (EG.2 (Lb x W))
    have hc2:∀(j:Nat),CallsIn (Fence.wide.inRound (w.heap.size+5)) j prog 348 #[.string x] Wb λe w'=>e=.returned (.bool false)/\kT w rest {r with state:=.busy} w'/\w'.cell? ⟨w.heap.size,0,none⟩=some (.bool false)/\w'.frozen? ⟨w.heap.size,0,none⟩=false:=λj=>
     (hc j Wb).mono λe w' ⟨h1,hB,hD⟩=>⟨h1,hp.grow hB hD,(wS (hp.grow hB hD).b0).1,(wS (hp.grow hB hD).b0).2⟩
    gi_wp2_with (refine⟨trivial,?_⟩;gi_at_call 348;refine(hc2 _).mono ?_;rintro e w' ⟨rfl,hB,hB2,hB3⟩)
    exact⟨some .ret,rfl,_,hB.Dx.b5,.inr ⟨rfl,hv,_,rfl,rfl,hB.Dx.put _⟩⟩
 refine(zeQ 3 (by omega) w s r hs hY _ hN).mono ?_;clear hY hN hold k0 k1 k2 k3 k4 k5 kb;rintro e W2 ⟨hv,hO⟩;refine⟨hv,?_⟩;have hend:∀(W3:World) (q:Loop) (rest:Str),kT w rest q W3->∀t:Bool,(Below w.heap.size w ((W3.setCell ⟨w.heap.size,0,none⟩ (.bool t)).putObj (w.heap.size+4) (.deferred none))/\w.drawn<=((W3.setCell ⟨w.heap.size,0,none⟩ (.bool t)).putObj (w.heap.size+4) (.deferred none)).drawn)/\((W3.setCell ⟨w.heap.size,0,none⟩ (.bool t)).putObj (w.heap.size+4) (.deferred none)).cell? ⟨w.heap.size,0,none⟩=some (.bool t)/\(W3.setCell ⟨w.heap.size,0,none⟩ (.bool t)).heap[w.heap.size+4]? =some (.deferred (some [])):=λW3 q rest h t=>
  ⟨⟨Below.put (h.below.setCell (p:=⟨w.heap.size,0,none⟩) (by simp) _) _ (by omega),h.dr⟩,(World.cell?_of_block (World.putObj_heap_other (by show w.heap.size≠_;omega))).trans (wS (SI h.b0 _)).1,(x6 _ (by omega)).trans h.b4⟩
 rcases hO with⟨ht,rest,h⟩|⟨ht,rest,q,q1,q2,h⟩
 ·refine⟨r,h.b5,by rw[hr];simp,?_⟩;rw[show r.pending=none by rw[hr]];have hp:kT w rest {r with state:=.exhausted,pending:=none} (W2.putObj (w.heap.size+4+1) (.loop {r with state:=.exhausted,pending:=none})):=h.put _;generalize W2.putObj (w.heap.size+4+1) _=W3 at hp⊢;obtain⟨e1,e2⟩:=wS hp.b0;obtain⟨f1,f2,f3⟩:=hend W3 _ rest hp true;clear hp h hr hs0 hend
  gi_wp2
  refine⟨by simp,.inl ⟨_,_,rfl,run_takeDeferred f3,?_⟩⟩;exact⟨_,by simp[results,Tryz.f569,go_sem,f2];rfl,by rw[ht],f1⟩
 ·refine⟨q,h.b5,by rw[q1];simp,?_⟩;rw[q2];have hp:kT w rest {q with state:=.exhausted,pending:=some .ret} (W2.putObj (w.heap.size+4+1) (.loop {q with state:=.exhausted,pending:=some .ret})):=h.put _;generalize W2.putObj (w.heap.size+4+1) _=W3 at hp⊢;have f1:Below w.heap.size w (W3.putObj (w.heap.size+4) (.deferred none))/\w.drawn<=(W3.putObj (w.heap.size+4) (.deferred none)).drawn:=⟨Below.put hp.below (.deferred none) (l:=w.heap.size+4) (by omega),hp.dr⟩;have f2:(W3.putObj (w.heap.size+4) (.deferred none)).cell? ⟨w.heap.size,0,none⟩=some (.bool false):=(World.cell?_of_block (World.putObj_heap_other (by show w.heap.size≠_;omega))).trans (wS hp.b0).1;have f3:=hp.b4;clear hp h hr hs0 hend
  gi_wp2
  refine⟨by simp,.inl ⟨_,_,rfl,run_takeDeferred f3,?_⟩⟩;exact⟨_,by simp[results,Tryz.f569,go_sem,f2];rfl,by rw[ht],f1⟩
theorem zfe (s:Str)(hl:(bs s).length<=40):C0 569 [str s] (bool (iG [] (bs s))):=Ct.grow (xs:=[.string s]) (λw=>zfg s hl w)
end Go.Proofs.YtobcmagefgdgdaaGreatDoor
end
namespace Go.Proofs.YtobcmagefgdgdaaGreatDoor
open Go.AI Go.G Tryz
attribute [simp] ntmps525 results525
theorem YJ (s:Str):C0 525 [str s] (bool (j8 s)):=by
 refine Ct.B func525 ?_;simp;have hsz:=iA s;refine bM (λh1=>?_) (λh1=>?_)<;>simp only[h1]<;>simp[hsz]
 ·have hz:(bs s).length<=40:=by have:=lS h1;omega
  refine bM (λh2=>?_) (λh2=>?_)<;>simp only[h2]<;>simp
  ·have e:bs s=[42]:=by rw[lS h2];rfl
   exact aA (by simp[j8,e])
  have e:¬bs s=[42]:=by
   intro e;exact pG h2 (DY e)
  refine CI.p (Vn s ⟨#[42,46]⟩) ?_;simp;have e2:bs (EM s ⟨#[42,46]⟩)=if mJ (bs s)then(bs s).drop 2 else bs s:=by
   unfold EM mJ;rw[show bs ⟨#[42,46]⟩=[42,46]from rfl];simp only[jI,gZ];split
   ·rw[AD,hsz,bX]
   ·rfl
  refine CI.p (zfe (EM s ⟨#[42,46]⟩) (by rw[e2];split;rw[AY];omega;exact hz)) ?_;simp;rw[e2];exact aA (by simp[<-zgV,YK,hz,e])
 ·have hz:¬((bs s).length<=40):=by have:=pG h1;omega
  exact aA (by simp[j8,hz])
attribute [simp] ntmps523 results523 ntmps442 results442 ntmps524 results524 ntmps446 results446 ntmps464 results464 ntmps417 results417 ntmps507 results507 ntmps414 results414 ntmps347 results347 ntmps443 results443 ntmps349 results349 ntmps445 results445 ntmps444 results444 ntmps350 results350 ntmps527 results527 ntmps528 results528 ntmps450 results450 ntmps448 results448 ntmps447 results447 ntmps351 results351 ntmps449 results449 ntmps529 results529 ntmps451 results451 ntmps352 results352
theorem zgF (l:List Weight)(kf:D)(p:Weight->Bool)(hf:∀x∈l,bN prog (.d kf) [st (wC x)] (bool (p x)))(hl:l.length<=9223372036854775807):C0 523 [aB (l.map wC),.d kf] (int (iZ p l)):=by
 refine Ct.B func523 ?_;simp;refine aH.inv mixed rfl (ι:={k:Nat//k<=(l).length/\(l.take k).all (λx=>!p x)=true}) (λk=>[(0,aB (l.map wC)),(1,.d kf),(7,int l.length),(8,int k.1)]) (λk=>[]) 64 (λk=>(l).length-k.1) ⟨0,by omega,by simp⟩ [] (by constructor<;>simp) ?_;rintro⟨k,hk1,hi⟩ B hB;refine CI.n ?_;simp;rcases bC hk1 with⟨r,hk,hx,hr,hm,ht,hd,hw,h⟩|rfl
 ·simp[h,hr,hw];refine CI.ff (hf r hm) rfl rfl rfl ?_;simp;refine bQ (λhp=>?_) (λhp=>?_)<;>simp only[hp]<;>simp
  ·exact aA (by simp[yR hi hr hp])
  ·refine hB _ ⟨k+1,by omega,by simp[ht,hi,hp]⟩ [] ?_ (by simp;omega);constructor<;>simp[hw,ht,hp]
 ·simp;rw[bX]at hi;exact aA (by simp[yQ (λx hx=>by have:=dP.1 hi x hx;simpa using this)])
theorem ZZ (l:List Weight)(kf:D)(p:Weight->Bool)(hf:∀x∈l,bN prog (.d kf) [st (wC x)] (bool (p x)))(hl:l.length<=9223372036854775807):C0 442 [aB (l.map wC),.d kf] (bool (l.any p)):=by
 refine Ct.B func442 ?_;simp;refine CI.p (zgF l kf p hf hl) ?_;simp;rw[DR];exact aA
theorem zgH (l:List cH)(kf:D)(p:cH->Bool)(hf:∀x∈l,bN prog (.d kf) [st (dJ x)] (bool (p x)))(hl:l.length<=9223372036854775807):C0 524 [aB (l.map dJ),.d kf] (int (iZ p l)):=by
 refine Ct.B func524 ?_;simp;refine aH.inv mixed rfl (ι:={k:Nat//k<=(l).length/\(l.take k).all (λx=>!p x)=true}) (λk=>[(0,aB (l.map dJ)),(1,.d kf),(7,int l.length),(8,int k.1)]) (λk=>[]) 64 (λk=>(l).length-k.1) ⟨0,by omega,by simp⟩ [] (by constructor<;>simp) ?_;rintro⟨k,hk1,hi⟩ B hB;refine CI.n ?_;simp;rcases bC hk1 with⟨r,hk,hx,hr,hm,ht,hd,hw,h⟩|rfl
 ·simp[h,hr,hw];refine CI.ff (hf r hm) rfl rfl rfl ?_;simp;refine bQ (λhp=>?_) (λhp=>?_)<;>simp only[hp]<;>simp
  ·exact aA (by simp[yR hi hr hp])
  ·refine hB _ ⟨k+1,by omega,by simp[ht,hi,hp]⟩ [] ?_ (by simp;omega);constructor<;>simp[hw,ht,hp]
 ·simp;rw[bX]at hi;exact aA (by simp[yQ (λx hx=>by have:=dP.1 hi x hx;simpa using this)])
theorem Z0 (l:List cH)(kf:D)(p:cH->Bool)(hf:∀x∈l,bN prog (.d kf) [st (dJ x)] (bool (p x)))(hl:l.length<=9223372036854775807):C0 446 [aB (l.map dJ),.d kf] (bool (l.any p)):=by
 refine Ct.B func446 ?_;simp;refine CI.p (zgH l kf p hf hl) ?_;simp;rw[DR];exact aA
theorem Q1 (l:List aC)(kf:D)(p:aC->Bool)(hf:∀x∈l,bN prog (.d kf) [st (aF x)] (bool (p x)))(hl:l.length<=9223372036854775807):C0 464 [aB (l.map aF),.d kf] (int (iZ p l)):=by
 refine Ct.B func464 ?_;simp;refine aH.inv mixed rfl (ι:={k:Nat//k<=(l).length/\(l.take k).all (λx=>!p x)=true}) (λk=>[(0,aB (l.map aF)),(1,.d kf),(7,int l.length),(8,int k.1)]) (λk=>[]) 64 (λk=>(l).length-k.1) ⟨0,by omega,by simp⟩ [] (by constructor<;>simp) ?_;rintro⟨k,hk1,hi⟩ B hB;refine CI.n ?_;simp;rcases bC hk1 with⟨r,hk,hx,hr,hm,ht,hd,hw,h⟩|rfl
 ·simp[h,hr,hw];refine CI.ff (hf r hm) rfl rfl rfl ?_;simp;refine bQ (λhp=>?_) (λhp=>?_)<;>simp only[hp]<;>simp
  ·exact aA (by simp[yR hi hr hp])
  ·refine hB _ ⟨k+1,by omega,by simp[ht,hi,hp]⟩ [] ?_ (by simp;omega);constructor<;>simp[hw,ht,hp]
 ·simp;rw[bX]at hi;exact aA (by simp[yQ (λx hx=>by have:=dP.1 hi x hx;simpa using this)])
theorem Se (l:List aC)(kf:D)(p:aC->Bool)(hf:∀x∈l,bN prog (.d kf) [st (aF x)] (bool (p x)))(hl:l.length<=9223372036854775807):C0 417 [aB (l.map aF),.d kf] (bool (l.any p)):=by
 refine Ct.B func417 ?_;simp;refine CI.p (Q1 l kf p hf hl) ?_;simp;rw[DR];exact aA
theorem zgJ (l:List Key)(kf:D)(p:Key->Bool)(hf:∀x∈l,bN prog (.d kf) [st (aQ x)] (bool (p x)))(hl:l.length<=9223372036854775807):C0 507 [aB (l.map aQ),.d kf] (int (iZ p l)):=by
 refine Ct.B func507 ?_;simp;refine aH.inv mixed rfl (ι:={k:Nat//k<=(l).length/\(l.take k).all (λx=>!p x)=true}) (λk=>[(0,aB (l.map aQ)),(1,.d kf),(7,int l.length),(8,int k.1)]) (λk=>[]) 64 (λk=>(l).length-k.1) ⟨0,by omega,by simp⟩ [] (by constructor<;>simp) ?_;rintro⟨k,hk1,hi⟩ B hB;refine CI.n ?_;simp;rcases bC hk1 with⟨r,hk,hx,hr,hm,ht,hd,hw,h⟩|rfl
 ·simp[h,hr,hw];refine CI.ff (hf r hm) rfl rfl rfl ?_;simp;refine bQ (λhp=>?_) (λhp=>?_)<;>simp only[hp]<;>simp
  ·exact aA (by simp[yR hi hr hp])
  ·refine hB _ ⟨k+1,by omega,by simp[ht,hi,hp]⟩ [] ?_ (by simp;omega);constructor<;>simp[hw,ht,hp]
 ·simp;rw[bX]at hi;exact aA (by simp[yQ (λx hx=>by have:=dP.1 hi x hx;simpa using this)])
theorem S7 (l:List Key)(kf:D)(p:Key->Bool)(hf:∀x∈l,bN prog (.d kf) [st (aQ x)] (bool (p x)))(hl:l.length<=9223372036854775807):C0 414 [aB (l.map aQ),.d kf] (bool (l.any p)):=by
 refine Ct.B func414 ?_;simp;refine CI.p (zgJ l kf p hf hl) ?_;simp;rw[DR];exact aA
theorem within (n m:Int):C0 347 [int n,int m] (bool (bG n m)):=by
 refine Ct.B func347 ?_;simp
 repeat' first
  | (refine bM (λh=>?_) (λh=>?_)<;>simp only[h]<;>simp[h])
  | (refine bQ (λh=>?_) (λh=>?_)<;>simp only[h]<;>simp[h])
  | (refine⟨(show jG _ _ from by decide+kernel),?_⟩)
  |fail
 all_goals exact aA (by simp[*,bG])
theorem Zw (w:Weight):C0 443 [st (wC w)] (bool (!bG w.w 100)):=by
 refine Ct.B func443 ?_;simp;refine CI.p (within w.w 100) ?_;simp;exact aA
theorem Zt (r:aC):C0 349 [st (aF r)] (bool (fO r)):=by
 refine Ct.B func349 ?_;simp;refine CI.p (within r.bR 2147483647) ?_;simp;refine cV (λh1 zz=>?_) (λh1 zz=>?_)<;>simp only[zz]<;>simp
 ·exact aA (by simp[fO,h1])
 refine CI.p (within r.port 65535) ?_;simp;refine cV (λh2 zz=>?_) (λh2 zz=>?_)<;>simp only[zz]<;>simp
 ·exact aA (by simp[fO,h2])
 refine cV (λh3 zz=>?_) (λh3 zz=>?_)<;>simp only[zz]<;>simp
 ·have hz:¬r.rules.length<=8:=by omega
  exact aA (by simp[fO,hz])
 refine aX (λh4 zz=>?_) (λh4 zz=>?_)<;>simp only[zz]<;>simp
 ·have hz:¬r.bH.length<=8:=by omega
  exact aA (by simp[fO,hz])
 have hz3:r.rules.length<=8:=by omega
 have hz4:r.bH.length<=8:=by omega
 refine aH.inv mixed rfl (ι:={k:Nat//k<=(r.bH).length/\(r.bH.take k).all (λh=>bG h 2147483647)=true}) (λk=>[(1,.ptr 64 0),(30,aB (r.bH.map kP)),(31,int r.bH.length),(32,int k.1)]) (λk=>[(64,.cells ((aF r).map .d) 174)]) 65 (λk=>(r.bH).length-k.1) ⟨0,by omega,by simp⟩ [] (by constructor<;>simp) ?_;rintro⟨k,hk1,hi⟩ B hB;refine CI.n ?_;simp;rcases bC hk1 with⟨y,hk,hx,hr,hm,ht,hd,hw,h⟩|rfl
 ·simp[h,hr,hw];refine CI.p (within y 2147483647) ?_;simp;refine aX (λh5 zz=>?_) (λh5 zz=>?_)<;>simp only[zz]<;>simp
  ·have e:r.bH.all (λh=>bG h 2147483647)=false:=by
    rw[oE];exact⟨y,hm,by simp[h5]⟩
   exact aA (by simp[fO,e])
  ·refine hB _ ⟨k+1,by omega,by simp[ht,hi,h5]⟩ [] ?_ (by simp;omega);constructor<;>simp[hw,ht,h5]
 ·simp;rw[bX]at hi;have hh:=hi;refine aH.inv mixed rfl (ι:={k:Nat//k<=(r.rules).length/\(r.rules.take k).all nA=true}) (λk=>[(1,.ptr 64 0),(41,aB (r.rules.map dJ)),(42,int r.rules.length),(43,int k.1)]) (λk=>[(64,.cells ((aF r).map .d) 174)]) 65 (λk=>(r.rules).length-k.1) ⟨0,by omega,by simp⟩ [] (by constructor<;>simp) ?_;rintro⟨k,hk1,hi⟩ B hB;refine CI.n ?_;simp;rcases bC hk1 with⟨x,hk,hx,hr,hm,ht,hd,hw,h⟩|rfl
  ·simp[h,hr,hw];refine cV (λh6 zz=>?_) (λh6 zz=>?_)<;>simp only[zz]<;>simp
   ·have hz:¬x.split.length<=4:=by omega
    have e:r.rules.all nA=false:=by
     rw[oE];exact⟨x,hm,by simp[nA,hz]⟩
    exact aA (by simp[fO,e])
   have hz:x.split.length<=4:=by omega
   refine CI.p (ZZ x.split (dE 443) (λw=>!bG w.w 100) (λw _=>bN.of (Zw w) call443 rfl rfl) (by omega)) ?_;simp;refine aX (λh7 zz=>?_) (λh7 zz=>?_)<;>simp only[zz]<;>simp
   ·have e:r.rules.all nA=false:=by
     rw[oE];refine⟨x,hm,?_⟩;simp[nA,hz];simpa using h7
    exact aA (by simp[fO,e])
   ·have e:nA x=true:=by
     simp[nA,hz];simpa using h7
    refine hB _ ⟨k+1,by omega,by simp[ht,hi,e]⟩ [] ?_ (by simp;omega);constructor<;>simp[hw,ht,e]
  ·simp;rw[bX]at hi;exact aA (by simp[fO,hi,hh,h1,h2,hz3,hz4])
theorem Ly (k:Int):C0 445 [int k] (.agg [bool (j4 k),bool (iH k),bool (jC k),bool (j5 k)]):=by
 refine Ct.B func445 ?_;simp
 repeat' first
  | (refine bM (λh=>?_) (λh=>?_)<;>simp only[h]<;>simp[h])
  | (refine bQ (λh=>?_) (λh=>?_)<;>simp only[h]<;>simp[h])
  | (refine⟨(show jG _ _ from by decide+kernel),?_⟩)
  |fail
 all_goals exact aA (by simp[*,j4,iH,jC,j5])
theorem zkZ (a b c d x y z t:Bool):C0 444 [.agg [bool a,bool b,bool c,bool d],.agg [bool x,bool y,bool z,bool t]] (.agg [bool (a&&x),bool (b&&y),bool (c&&z),bool (d&&t)]):=by
 refine Ct.B func444 ?_;simp;cases a<;>cases b<;>cases c<;>cases d<;>(simp[ntmps127,results127])<;>exact aA
theorem zav (r:aC):C0 350 [st (aF r)] (bool (gK r)):=by
 refine Ct.B func350 ?_;simp;refine CI.p (Ly r.kind) ?_;simp;refine CI.p (zkZ (!decide (r.port=0)) (!decide (r.to=⟨#[]⟩)) (decide (0<r.rules.length)) (decide (0<r.bH.length)) (j4 r.kind) (iH r.kind) (jC r.kind) (j5 r.kind)) ?_;simp;refine dr ?_;have e1:decide (r.rules.length=0)= !decide (0<r.rules.length):=by cases r.rules<;>simp
 have e2:decide (r.bH.length=0)= !decide (0<r.bH.length):=by cases r.bH<;>simp
 have e3:decide (bs r.to=[])=decide (r.to=⟨#[]⟩):=by
  rw[tQ,dA,dA,A5];rfl
 have e:gK r=((decide (r.port=0)||j4 r.kind)&&((decide (r.to=⟨#[]⟩)||iH r.kind)&&((!decide (0<r.rules.length)||jC r.kind)&&(!decide (0<r.bH.length)||j5 r.kind)))):=by
  rw[gK,e1,e2,e3,Bool.and_assoc,Bool.and_assoc]
 rw[e];exact aA
theorem zbZ (w:Weight):C0 527 [st (wC w)] (bool (!fI w.fT)):=by
 refine Ct.B func527 ?_;simp;refine CI.p (H6 w.fT) ?_;simp;exact aA
theorem Uk (w:Weight):C0 528 [st (wC w)] (bool (decide (0<w.w))):=by
 refine Ct.B func528 ?_;simp;exact aA
theorem Uj (x:cH)(hl:x.split.length<=4):C0 450 [st (dJ x)] (bool (zH x)):=by
 refine Ct.B func450 ?_;simp;refine CI.p (ZZ x.split (dE 528) (λw=>decide (0<w.w)) (λw _=>bN.of (Uk w) call528 rfl rfl) (by omega)) ?_;simp;exact aA (by simp[zH])
theorem zbT (x:cH)(hl:x.split.length<=4):C0 448 [st (dJ x)] (bool (jS x)):=by
 refine Ct.B func448 ?_;simp;refine CI.p (YJ x.host) ?_;simp;refine bM (λh1=>?_) (λh1=>?_)<;>simp only[h1]<;>simp
 ·refine CI.p (WC x.pre) ?_;simp;refine bM (λh2=>?_) (λh2=>?_)<;>simp only[h2]<;>simp
  ·refine CI.p (ZZ x.split (dE 527) (λw=>!fI w.fT) (λw _=>bN.of (zbZ w) call527 rfl rfl) (by omega)) ?_;simp;exact aA (by simp[jS,h1,h2,Ai])
  ·exact aA (by simp[jS,h1,h2])
 ·exact aA (by simp[jS,h1])
theorem La (x:cH)(hl:x.split.length<=4):C0 447 [st (dJ x)] (bool (!jS x)):=by
 refine Ct.B func447 ?_;simp;refine CI.p (zbT x hl) ?_;simp;exact aA
theorem zfh (r:aC)(hl:r.rules.length<=8/\∀x∈r.rules,x.split.length<=4):C0 351 [st (aF r)] (bool (mS r)):=by
 refine Ct.B func351 ?_;simp;refine CI.p (Ly r.kind) ?_;simp;refine cV (λh1 zz=>?_) (λh1 zz=>?_)<;>simp only[zz]<;>simp
 ·refine CI.p (H6 r.to) ?_;simp;refine aX (λh2 zz=>?_) (λh2 zz=>?_)<;>simp only[zz]<;>simp
  ·exact aA (by simp[mS,h1,h2])
  refine CI.p (Z0 r.rules (dE 447) (λx=>!jS x) (λx hx=>bN.of (La x (hl.2 x hx)) call447 rfl rfl) (by omega)) ?_;simp;exact aA (by simp[mS,h1,h2,Ai])
 ·refine CI.p (Z0 r.rules (dE 447) (λx=>!jS x) (λx hx=>bN.of (La x (hl.2 x hx)) call447 rfl rfl) (by omega)) ?_;simp;exact aA (by simp[mS,h1,Ai])
theorem zao (x y:cH):C0 449 [st (dJ y),.d (.bE (dJ x))] (bool (sW x y)):=by
 refine Ct.B func449 ?_;simp;refine bM (λh1=>?_) (λh1=>?_)<;>simp only[h1]<;>simp
 ·exact aA (by simp[sW,h1])
 ·exact aA (by simp[sW,h1])
theorem zgK (l:List Int)(v:Int)(hl:l.length<=9223372036854775807):C0 529 [aB (l.map kP),int v] (int (iZ (λx=>decide (v=x)) l)):=by
 refine Ct.B func529 ?_;simp;refine aH.inv mixed rfl (ι:={k:Nat//k<=(l).length/\(l.take k).all (λx=>!decide (v=x))=true}) (λk=>[(0,aB (l.map kP)),(1,int v),(7,int l.length),(8,int k.1)]) (λk=>[]) 64 (λk=>(l).length-k.1) ⟨0,by omega,by simp⟩ [] (by constructor<;>simp) ?_;rintro⟨k,hk1,hi⟩ B hB;refine CI.n ?_;simp;rcases bC hk1 with⟨r,hk,hx,hr,hm,ht,hd,hw,h⟩|rfl
 ·simp[h,hr,hw];refine bQ (λhp=>?_) (λhp=>?_)<;>simp only[hp]<;>simp
  ·exact aA (by simp[yR (p:=λx=>decide (v=x)) hi hr (by simp[hp])])
  ·refine hB _ ⟨k+1,by omega,by simp[ht,hi,hp]⟩ [] ?_ (by simp;omega);constructor<;>simp[hw,ht,hp]
 ·simp;rw[bX]at hi;exact aA (by simp[yQ (p:=λx=>decide (v=x)) (λx hx=>by have:=dP.1 hi x hx;simpa using this)])
theorem zg2 (l:List Int)(v:Int)(hl:l.length<=9223372036854775807):C0 451 [aB (l.map kP),int v] (bool (l.any λx=>decide (v=x))):=by
 refine Ct.B func451 ?_;simp;refine CI.p (zgK l v hl) ?_;simp;rw[DR];exact aA
theorem Zx (r:aC)(hl:r.rules.length<=8/\r.bH.length<=8/\∀x∈r.rules,x.split.length<=4):C0 352 [st (aF r)] (bool (mN r)):=by
 refine Ct.B func352 ?_;simp;obtain⟨hl1,hl2,hl3⟩:=hl;refine aH.inv mixed rfl (ι:={k:Nat//k<=(r.rules).length/\((r.rules.take k).all zH=true/\oA sW (r.rules.take k) (r.rules.drop k)=oA sW [] r.rules)}) (λk=>[(1,.ptr 64 0),(9,aB (r.rules.map dJ)),(10,int r.rules.length),(11,int k.1)]) (λk=>[(64,.cells ((aF r).map .d) 174)]) 65 (λk=>(r.rules).length-k.1) ⟨0,by omega,by simp⟩ [] (by constructor<;>simp) ?_;rintro⟨k,hk1,hi⟩ B hB;refine CI.run 5 400 rfl ?_;simp;rcases bC hk1 with⟨x,hk,hx,hr,hm,ht,hd,hw,h⟩|rfl
 ·simp[h,hr,hw];refine CI.s (tm:=[(1,.ptr 64 0),(9,aB (r.rules.map dJ)),(10,int r.rules.length),(11,int k),(3,int k),(4,.d (.bE (dJ x))),(5,.d (.fn (.func 449) [] [.bE (dJ x)]))]) (mm:=[(64,.cells ((aF r).map .d) 174)]) (nx:=65) [] [321] (by constructor<;>simp) ?_;obtain⟨hi1,hi2⟩:=hi;rw[hd,oA]at hi2;refine CI.n ?_;simp;refine CI.p (Uj x (hl3 x hm)) ?_;simp;refine cV (λh1 zz=>?_) (λh1 zz=>?_)<;>simp only[zz]<;>simp
  ·have e:r.rules.all zH=false:=by
    rw[oE];exact⟨x,hm,by simp[h1]⟩
   exact aA (by simp[mN,e])
  refine⟨by omega,?_⟩;refine CI.p (Z0 (r.rules.take k) (.fn (.func 449) [] [.bE (dJ x)]) (sW x) (λy _=>bN.nZ (zao x y) call449 rfl rfl) (by simp;omega)) ?_;simp;refine aX (λh2 zz=>?_) (λh2 zz=>?_)<;>simp only[zz]<;>simp
  ·have e:oA sW [] r.rules=false:=by rw[<-hi2,h2];rfl
   exact aA (by simp[mN,e])
  ·refine hB _ ⟨k+1,by omega,by simp[ht,hi1,h1],by rw[ht,<-hi2,h2];rfl⟩ [] ?_ (by simp;omega);constructor<;>simp[hw]
 ·simp;rw[bX,yC]at hi;obtain⟨hi1,hi2⟩:=hi;simp only[oA]at hi2;refine aH.inv mixed rfl (ι:={k:Nat//k<=(r.bH).length/\(oA (λa b:Int=>decide (a=b)) (r.bH.take k) (r.bH.drop k)=oA (λa b=>decide (a=b)) [] r.bH)}) (λk=>[(1,.ptr 64 0),(30,aB (r.bH.map kP)),(31,int r.bH.length),(32,int k.1)]) (λk=>[(64,.cells ((aF r).map .d) 174)]) 65 (λk=>(r.bH).length-k.1) ⟨0,by omega,by simp⟩ [] (by constructor<;>simp) ?_;rintro⟨k,hk1,hi⟩ B hB;refine CI.n ?_;simp;rcases bC hk1 with⟨y,hk,hx,hr,hm,ht,hd,hw,h⟩|rfl
  ·simp[h,hr,hw];rw[hd,oA]at hi;refine⟨by omega,?_⟩;refine CI.p (zg2 (r.bH.take k) y (by simp;omega)) ?_;simp;refine aX (λh2 zz=>?_) (λh2 zz=>?_)<;>simp only[zz]<;>simp
   ·have e:oA (λa b:Int=>decide (a=b)) [] r.bH=false:=by rw[<-hi,h2];rfl
    exact aA (by simp[mN,e])
   ·refine hB _ ⟨k+1,by omega,by rw[ht,<-hi,h2];rfl⟩ [] ?_ (by simp;omega);constructor<;>simp[hw]
  ·simp;rw[bX,yC]at hi;simp only[oA]at hi;exact aA (by simp[mN,hi1,<-hi2,<-hi])
attribute [simp] ntmps258 results258 ntmps178 results178 ntmps179 results179 ntmps180 results180 ntmps113 results113
theorem KE {r:aC}(h:fO r=true):r.rules.length<=8/\r.bH.length<=8/\∀x∈r.rules,x.split.length<=4:=by
 simp only[fO,bL,dA,dP,nA]at h;exact⟨h.1.1.1.2,h.1.1.2,λx hx=>(h.2 x hx).1⟩
theorem CZ (r:aC):C0 258 [st (aF r)] (int (cQ r)):=by
 refine Ct.B func258 ?_;simp;refine CI.p (within r.kind 3) ?_;simp;refine aX (λh1 zz=>?_) (λh1 zz=>?_)<;>simp only[zz]<;>simp
 ·exact aA (by simp[cQ,h1])
 refine CI.p (H6 r.name) ?_;simp;refine aX (λh2 zz=>?_) (λh2 zz=>?_)<;>simp only[zz]<;>simp
 ·exact aA (by simp[cQ,h1,h2])
 refine CI.p (Zt r) ?_;simp;refine aX (λh3 zz=>?_) (λh3 zz=>?_)<;>simp only[zz]<;>simp
 ·exact aA (by simp[cQ,h1,h2,h3])
 have hb:=KE h3;refine CI.p (zav r) ?_;simp;refine aX (λh4 zz=>?_) (λh4 zz=>?_)<;>simp only[zz]<;>simp
 ·exact aA (by simp[cQ,h1,h2,h3,h4])
 refine CI.p (zfh r ⟨hb.1,hb.2.2⟩) ?_;simp;refine aX (λh5 zz=>?_) (λh5 zz=>?_)<;>simp only[zz]<;>simp
 ·exact aA (by simp[cQ,h1,h2,h3,h4,h5])
 refine CI.p (Zx r hb) ?_;simp;refine aX (λh6 zz=>?_) (λh6 zz=>?_)<;>simp only[zz]<;>simp
 ·exact aA (by simp[cQ,h1,h2,h3,h4,h5,h6])
 ·exact aA (by simp[cQ,h1,h2,h3,h4,h5,h6])
theorem pM {n m:Int}:bG n m=false↔n<0\/m<n:=by
 simp[bG,<-Bool.not_eq_true];omega
theorem xE {n m:Int}:bG n m=true↔0<=n/\n<=m:=by simp[bG]
theorem zjS (r:aC):C0 178 [st (aF r)] (bool (!fO r)):=by
 refine Ct.B func178 ?_;simp;refine cV (λh1 zz=>?_) (λh1 zz=>?_)<;>simp only[zz]<;>simp
 ·exact aA (by simp[fO,pM.2 (.inl h1)])
 refine cV (λh2 zz=>?_) (λh2 zz=>?_)<;>simp only[zz]<;>simp
 ·exact aA (by simp[fO,pM.2 (.inr h2)])
 have r1:=xE.2 ⟨vT.1 h1,vT.1 h2⟩;refine cV (λh3 zz=>?_) (λh3 zz=>?_)<;>simp only[zz]<;>simp
 ·exact aA (by simp[fO,pM.2 (.inl h3)])
 refine cV (λh4 zz=>?_) (λh4 zz=>?_)<;>simp only[zz]<;>simp
 ·exact aA (by simp[fO,pM.2 (.inr h4)])
 have r2:=xE.2 ⟨vT.1 h3,vT.1 h4⟩;refine cV (λh5 zz=>?_) (λh5 zz=>?_)<;>simp only[zz]<;>simp
 ·have hz:¬r.rules.length<=8:=by omega
  exact aA (by simp[fO,hz])
 refine aX (λh6 zz=>?_) (λh6 zz=>?_)<;>simp only[zz]<;>simp
 ·have hz:¬r.bH.length<=8:=by omega
  exact aA (by simp[fO,hz])
 have hz5:r.rules.length<=8:=by omega
 have hz6:r.bH.length<=8:=by omega
 refine aH.inv mixed rfl (ι:={k:Nat//k<=(r.bH).length/\(r.bH.take k).all (λh=>bG h 2147483647)=true}) (λk=>[(1,.ptr 64 0),(3,int k.1)]) (λk=>[(64,.cells ((aF r).map .d) 174)]) 65 (λk=>(r.bH).length-k.1) ⟨0,by omega,by simp⟩ [] (by constructor<;>simp) ?_;rintro⟨k,hk1,hi⟩ B hB;refine CI.n ?_;simp;rcases bC hk1 with⟨y,hk,hx,hr,hm,ht,hd,hw,h⟩|rfl
 ·simp[h,hr,hw];have ef:bG y 2147483647=false->(r.bH.all λh=>bG h 2147483647)=false:=λe=>by
   rw[oE];exact⟨y,hm,by simp[e]⟩
  refine cV (λh7 zz=>?_) (λh7 zz=>?_)<;>simp only[zz]<;>simp[hr]
  ·exact aA (by simp[fO,ef (pM.2 (.inl h7))])
  refine aX (λh8 zz=>?_) (λh8 zz=>?_)<;>simp only[zz]<;>simp
  ·exact aA (by simp[fO,ef (pM.2 (.inr h8))])
  ·refine hB _ ⟨k+1,by omega,by simp[ht,hi,xE.2 ⟨vT.1 h7,vT.1 h8⟩]⟩ [] ?_ (by simp;omega);constructor<;>simp[hw,ht,xE.2 ⟨vT.1 h7,vT.1 h8⟩]
 ·simp;rw[bX]at hi;have hh:=hi;refine aH.inv mixed rfl (ι:={k:Nat//k<=(r.rules).length/\(r.rules.take k).all nA=true}) (λk=>[(1,.ptr 64 0),(4,int k.1)]) (λk=>[(64,.cells ((aF r).map .d) 174)]) 65 (λk=>(r.rules).length-k.1) ⟨0,by omega,by simp⟩ [] (by constructor<;>simp) ?_;rintro⟨k,hk1,hi⟩ B hB;refine CI.n ?_;simp;rcases bC hk1 with⟨x,hk,hx,hr,hm,ht,hd,hw,h⟩|rfl
  ·simp[h,hr,hw];have ef:nA x=false->r.rules.all nA=false:=λe=>by
    rw[oE];exact⟨x,hm,by simp[e]⟩
   refine aX (λh9 zz=>?_) (λh9 zz=>?_)<;>simp only[zz]<;>simp[hr]
   ·have hz:¬x.split.length<=4:=by omega
    have e1:nA x=false:=by simp[nA,hz]
    exact aA (by simp[fO,ef e1])
   have hz9:x.split.length<=4:=by omega
   refine aH.inv mixed rfl (ι:={kj:Nat//kj<=(x.split).length/\(x.split.take kj).all (λw=>bG w.w 100)=true}) (λkj=>[(1,.ptr 64 0),(4,int k),(5,int kj.1)]) (λkj=>[(64,.cells ((aF r).map .d) 174)]) 65 (λkj=>(x.split).length-kj.1) ⟨0,by omega,by simp⟩ [] (by constructor<;>simp[hr]) ?_;rintro⟨kj,hk1j,hij⟩ Bj hBj;refine CI.n ?_;simp[hr];rcases bC hk1j with⟨w,hkj,hxj,hrj,hmj,htj,hdj,hwj,hj⟩|rfl
   ·simp[hj,hrj,hwj,hr];have eg:bG w.w 100=false->nA x=false:=λe=>by
     have:(x.split.all λw=>bG w.w 100)=false:=by
      rw[oE];exact⟨w,hmj,by simp[e]⟩
     simp only[nA,this,zF]
    refine cV (λh10 zz=>?_) (λh10 zz=>?_)<;>simp only[zz]<;>simp[hr,hrj]
    ·exact aA (by simp[fO,ef (eg (pM.2 (.inl h10)))])
    refine aX (λh11 zz=>?_) (λh11 zz=>?_)<;>simp only[zz]<;>simp
    ·exact aA (by simp[fO,ef (eg (pM.2 (.inr h11)))])
    ·refine hBj _ ⟨kj+1,by omega,by simp[htj,hij,xE.2 ⟨vT.1 h10,vT.1 h11⟩]⟩ [] ?_ (by simp;omega);constructor<;>simp[hwj,htj,xE.2 ⟨vT.1 h10,vT.1 h11⟩]
   ·simp[hw];rw[bX]at hij;have e1:nA x=true:=by simp only[nA,hij,hz9,F7,Bool.and_true]
    refine hB _ ⟨k+1,by omega,by simp[ht,hi,e1]⟩ [] ?_ (by simp;omega);constructor<;>simp[hw,ht,e1]
  ·simp;rw[bX]at hi;exact aA (by simp[fO,hi,hh,r1,r2,hz5,hz6])
theorem Ce {k:Int}(h:0<=k/\k<=3):decide (k.tmod 2=0)=iH k:=by
 have:k=0\/k=1\/k=2\/k=3:=by omega
 rcases this with rfl|rfl|rfl|rfl<;>decide
theorem P5 (r:aC)(hk:0<=r.kind/\r.kind<=3)(hl:r.rules.length<=8/\∀x∈r.rules,x.split.length<=4):C0 179 [st (aF r)] (bool (mS r)):=by
 refine Ct.B func179 ?_;simp;obtain⟨hl1,hl2⟩:=hl;rw[Ce hk];refine cV (λh1 zz=>?_) (λh1 zz=>?_)<;>simp only[zz]<;>simp
 ·refine CI.p (DK r.to) ?_;simp;refine aX (λh2 zz=>?_) (λh2 zz=>?_)<;>simp only[zz]<;>simp
  ·exact aA (by simp[mS,h1,h2])
  refine aH.inv mixed rfl (ι:={k:Nat//k<=(r.rules).length/\(r.rules.take k).all jS=true}) (λk=>[(1,.ptr 64 0),(3,int k.1)]) (λk=>[(64,.cells ((aF r).map .d) 174)]) 65 (λk=>(r.rules).length-k.1) ⟨0,by omega,by simp⟩ [] (by constructor<;>simp) ?_;rintro⟨k,hk1,hi⟩ B hB;refine CI.n ?_;simp;rcases bC hk1 with⟨x,hk,hx,hr,hm,ht,hd,hw,h⟩|rfl
  ·simp[h,hr,hw];have ef:jS x=false->mS r=false:=λe=>by
    have:r.rules.all jS=false:=by rw[oE];exact⟨x,hm,by simp[e]⟩
    simp only[mS,this,zF]
   refine CI.p (Q2 x.host) ?_;simp;refine cV (λh3 zz=>?_) (λh3 zz=>?_)<;>simp only[zz]<;>simp
   ·exact aA (by simp[ef (by simp only[jS,h3,A4])])
   simp[hr];refine CI.p (PJ x.pre) ?_;simp;refine aX (λh4 zz=>?_) (λh4 zz=>?_)<;>simp only[zz]<;>simp
   ·exact aA (by simp[ef (by simp only[jS,h4,zF,A4])])
   have hx:=hl2 x hm;refine aH.inv mixed rfl (ι:={kj:Nat//kj<=(x.split).length/\(x.split.take kj).all (λw=>fI w.fT)=true}) (λkj=>[(1,.ptr 64 0),(3,int k),(4,int kj.1)]) (λkj=>[(64,.cells ((aF r).map .d) 174)]) 65 (λkj=>(x.split).length-kj.1) ⟨0,by omega,by simp⟩ [] (by constructor<;>simp[hr]) ?_;rintro⟨kj,hk1j,hij⟩ Bj hBj;refine CI.n ?_;simp[hr];rcases bC hk1j with⟨w,hkj,hxj,hrj,hmj,htj,hdj,hwj,hj⟩|rfl
   ·simp[hj,hrj,hwj,hr];refine CI.p (DK w.fT) ?_;simp;refine aX (λh5 zz=>?_) (λh5 zz=>?_)<;>simp only[zz]<;>simp
    ·have e1:(x.split.all λw=>fI w.fT)=false:=by
      rw[oE];exact⟨w,hmj,by simp[h5]⟩
     exact aA (by simp[ef (by simp only[jS,e1,zF])])
    ·refine hBj _ ⟨kj+1,by omega,by simp[htj,hij,h5]⟩ [] ?_ (by simp;omega);constructor<;>simp[hwj,htj,h5]
   ·simp[hw];rw[bX]at hij;have e1:jS x=true:=by simp only[jS,hij,h3,h4,Bool.and_true]
    refine hB _ ⟨k+1,by omega,by simp[ht,hi,e1]⟩ [] ?_ (by simp;omega);constructor<;>simp[hw,ht,e1]
  ·simp;rw[bX]at hi;exact aA (by simp[mS,hi,h2])
 ·refine aH.inv mixed rfl (ι:={k:Nat//k<=(r.rules).length/\(r.rules.take k).all jS=true}) (λk=>[(1,.ptr 64 0),(3,int k.1)]) (λk=>[(64,.cells ((aF r).map .d) 174)]) 65 (λk=>(r.rules).length-k.1) ⟨0,by omega,by simp⟩ [] (by constructor<;>simp) ?_;rintro⟨k,hk1,hi⟩ B hB;refine CI.n ?_;simp;rcases bC hk1 with⟨x,hk,hx,hr,hm,ht,hd,hw,h⟩|rfl
  ·simp[h,hr,hw];have ef:jS x=false->mS r=false:=λe=>by
    have:r.rules.all jS=false:=by rw[oE];exact⟨x,hm,by simp[e]⟩
    simp only[mS,this,zF]
   refine CI.p (Q2 x.host) ?_;simp;refine cV (λh3 zz=>?_) (λh3 zz=>?_)<;>simp only[zz]<;>simp
   ·exact aA (by simp[ef (by simp only[jS,h3,A4])])
   simp[hr];refine CI.p (PJ x.pre) ?_;simp;refine aX (λh4 zz=>?_) (λh4 zz=>?_)<;>simp only[zz]<;>simp
   ·exact aA (by simp[ef (by simp only[jS,h4,zF,A4])])
   have hx:=hl2 x hm;refine aH.inv mixed rfl (ι:={kj:Nat//kj<=(x.split).length/\(x.split.take kj).all (λw=>fI w.fT)=true}) (λkj=>[(1,.ptr 64 0),(3,int k),(4,int kj.1)]) (λkj=>[(64,.cells ((aF r).map .d) 174)]) 65 (λkj=>(x.split).length-kj.1) ⟨0,by omega,by simp⟩ [] (by constructor<;>simp[hr]) ?_;rintro⟨kj,hk1j,hij⟩ Bj hBj;refine CI.n ?_;simp[hr];rcases bC hk1j with⟨w,hkj,hxj,hrj,hmj,htj,hdj,hwj,hj⟩|rfl
   ·simp[hj,hrj,hwj,hr];refine CI.p (DK w.fT) ?_;simp;refine aX (λh5 zz=>?_) (λh5 zz=>?_)<;>simp only[zz]<;>simp
    ·have e1:(x.split.all λw=>fI w.fT)=false:=by
      rw[oE];exact⟨w,hmj,by simp[h5]⟩
     exact aA (by simp[ef (by simp only[jS,e1,zF])])
    ·refine hBj _ ⟨kj+1,by omega,by simp[htj,hij,h5]⟩ [] ?_ (by simp;omega);constructor<;>simp[hwj,htj,h5]
   ·simp[hw];rw[bX]at hij;have e1:jS x=true:=by simp only[jS,hij,h3,h4,Bool.and_true]
    refine hB _ ⟨k+1,by omega,by simp[ht,hi,e1]⟩ [] ?_ (by simp;omega);constructor<;>simp[hw,ht,e1]
  ·simp;rw[bX]at hi;exact aA (by simp[mS,hi,h1])
def v7 (l:List Weight):Int:=(l.map (·.w)).sum
theorem US :∀{l:List Weight},l.all (λw=>bG w.w 100)=true->0<=v7 l/\v7 l<=100*l.length
 |[],_=>by simp[v7]
 |w::l,h=>by
  rw[yE,bL,xE]at h;have:=US h.2;simp only[v7,kE,List.sum_cons,jI]at this⊢;omega
theorem UR :∀{l:List Weight},l.all (λw=>bG w.w 100)=true->(v7 l=0↔(l.any λw=>decide (0<w.w))=false)
 |[],_=>by simp[v7]
 |w::l,h=>by
  rw[yE,bL,xE]at h;have h1:=US h.2;have h2:=UR h.2;rw[List.any_cons,M4,<-h2,JH];simp only[v7,kE,List.sum_cons]at h1⊢;omega
@[simp] theorem sumW_nil :v7 []=0:=rfl
theorem Cv (l:List Weight)(w:Weight):v7 (l++[w])=v7 l+w.w:=by simp[v7]
theorem Zb {x:cH}(h:nA x=true):x.split.length<=4/\x.split.all (λw=>bG w.w 100)=true:=by
 simpa[nA]using h
theorem Zs {r:aC}(h:fO r=true):∀x∈r.rules,nA x=true:=by
 simp only[fO,bL,dP]at h;exact h.2
theorem NG (r:aC)(hs:fO r=true):C0 180 [st (aF r)] (bool (!mN r)):=by
 refine Ct.B func180 ?_;simp;have hb:=KE hs;have hsp:=Zs hs;obtain⟨hl1,hl2,hl3⟩:=hb;refine aH.inv mixed rfl (ι:={k:Nat//k<=(r.rules).length/\((r.rules.take k).all zH=true/\oA sW (r.rules.take k) (r.rules.drop k)=oA sW [] r.rules)}) (λk=>[(1,.ptr 64 0),(3,int k.1)]) (λk=>[(64,.cells ((aF r).map .d) 174)]) 65 (λk=>(r.rules).length-k.1) ⟨0,by omega,by simp⟩ [] (by constructor<;>simp) ?_;rintro⟨k,hk1,hi⟩ B hB;refine CI.n ?_;simp;rcases bC hk1 with⟨x,hk,hx,hr,hm,ht,hd,hw,h⟩|rfl
 ·simp[h,hr,hw];obtain⟨hi1,hi2⟩:=hi;rw[hd,oA]at hi2;obtain⟨hx,hx2⟩:=Zb (hsp x hm);refine aH.V (x.split) (λkj=>[(1,.ptr 64 0),(3,int k),(4,int (v7 (x.split.take kj.1))),(5,int kj.1)]) (λkj=>[(64,.cells ((aF r).map .d) 174)]) 65 (λkj hk1j Bj hBj=>?_) (h0:=by constructor<;>simp[hr]);simp[hr];rcases bC hk1j with⟨w,hkj,hxj,hrj,hmj,htj,hdj,hwj,hj⟩|rfl
  ·simp[hj,hrj,hwj,hr];have hq:(x.split.take (kj+1)).all (λw=>bG w.w 100)=true:=by
    rw[dP]at hx2⊢;exact λw hw=>hx2 w (pY hw)
   have hq2:=US hq;rw[htj,Cv]at hq2;have hwr:=wrap_i64 (n:=v7 (x.split.take kj)+w.w) (by omega) (by simp at hq2;omega);exact hBj hkj (by constructor<;>simp[hwj,htj,hwr,Cv])
  ·simp;refine aX (λh1 zz=>?_) (λh1 zz=>?_)<;>simp only[zz]<;>simp
   ·have e1:zH x=false:=(UR hx2).1 h1;have e:r.rules.all zH=false:=by rw[oE];exact⟨x,hm,by simp[e1]⟩
    exact aA (by simp[mN,e])
   have h1':zH x=true:=by
    cases hh:zH x
    ·exact absurd ((UR hx2).2 hh) h1
    ·rfl
   refine aH.inv mixed rfl (ι:={j:Nat//j<=k/\(r.rules.take j).any (sW x)=false}) (λkj=>[(1,.ptr 64 0),(3,int k),(6,int kj.1)]) (λkj=>[(64,.cells ((aF r).map .d) 174)]) 65 (λkj=>k-kj.1) ⟨0,by omega,by simp⟩ [] (by constructor<;>simp) ?_;rintro⟨j,hj,hij⟩ Bj hBj;refine CI.n ?_;simp;refine bQ (λhjk=>?_) (λhjk=>?_)
   ·have hjk':j<k:=by have:=lS hjk;omega
    have hrj:r.rules[j]? =some r.rules[j]:=bO (by omega);have htj:r.rules.take (j+1)=r.rules.take j++[r.rules[j]]:=by rw[jH,hrj];rfl
    have hwj:IntKind.wrap .i64 ((j:Int)+1)=j+1:=wz _;have hmj:j<k->r.rules[j]∈r.rules.take k:=λ_=>by
     rw[List.mem_take_iff_getElem];exact⟨j,by omega,rfl⟩
    generalize r.rules[j]=y at hrj htj hmj;simp only[hjk];simp[hr,hrj,hwj];refine cV (λh3 zz=>?_) (λh3 zz=>?_)<;>simp only[zz]<;>simp[hr,hrj,hwj]
    ·refine dr ?_;refine aX (λh4 zz=>?_) (λh4 zz=>?_)<;>simp only[zz]<;>simp[hr,hrj,hwj]
     ·have e1:(r.rules.take k).any (sW x)=true:=by
       rw[CO];exact⟨y,hmj hjk',by simp[sW,h3,h4]⟩
      have e:oA sW [] r.rules=false:=by rw[<-hi2,e1];rfl
      exact aA (by simp[mN,e])
     ·refine hBj _ ⟨j+1,by omega,by rw[htj];simp[hij,sW,h4]⟩ [] ?_ (by simp;omega);constructor<;>simp[hwj]
    ·refine dr ?_;refine hBj _ ⟨j+1,by omega,by rw[htj];simp[hij,sW,h3]⟩ [] ?_ (by simp;omega);constructor<;>simp[hwj]
   ·have hjk':j=k:=by have:=pG hjk;omega
    rw[hjk']at hij;simp only[hjk];simp[hw];refine hB _ ⟨k+1,by omega,by simp[ht,hi1,h1'],by rw[ht,<-hi2,hij];rfl⟩ [] ?_ (by simp;omega);constructor<;>simp[hw]
 ·simp;rw[bX,yC]at hi;obtain⟨hi1,hi2⟩:=hi;simp only[oA]at hi2;refine aH.inv mixed rfl (ι:={k:Nat//k<=(r.bH).length/\(oA (λa b:Int=>decide (a=b)) (r.bH.take k) (r.bH.drop k)=oA (λa b=>decide (a=b)) [] r.bH)}) (λk=>[(1,.ptr 64 0),(7,int k.1)]) (λk=>[(64,.cells ((aF r).map .d) 174)]) 65 (λk=>(r.bH).length-k.1) ⟨0,by omega,by simp⟩ [] (by constructor<;>simp) ?_;rintro⟨k,hk1,hi⟩ B hB;refine CI.n ?_;simp;rcases bC hk1 with⟨x,hk,hx,hr,hm,ht,hd,hw,h⟩|rfl
  ·simp[h,hr,hw];rw[hd,oA]at hi;refine aH.inv mixed rfl (ι:={j:Nat//j<=k/\((r.bH.take j).any λy=>decide (x=y))=false}) (λkj=>[(1,.ptr 64 0),(7,int k),(8,int kj.1)]) (λkj=>[(64,.cells ((aF r).map .d) 174)]) 65 (λkj=>k-kj.1) ⟨0,by omega,by simp⟩ [] (by constructor<;>simp) ?_;rintro⟨j,hj,hij⟩ Bj hBj;refine CI.n ?_;simp;refine bQ (λhjk=>?_) (λhjk=>?_)
   ·have hjk':j<k:=by have:=lS hjk;omega
    have hrj:r.bH[j]? =some r.bH[j]:=bO (by omega);have htj:r.bH.take (j+1)=r.bH.take j++[r.bH[j]]:=by rw[jH,hrj];rfl
    have hwj:IntKind.wrap .i64 ((j:Int)+1)=j+1:=wz _;have hmj:j<k->r.bH[j]∈r.bH.take k:=λ_=>by
     rw[List.mem_take_iff_getElem];exact⟨j,by omega,rfl⟩
    generalize r.bH[j]=y at hrj htj hmj;simp only[hjk];simp[hr,hrj,hwj];refine dr ?_;refine aX (λh4 zz=>?_) (λh4 zz=>?_)<;>simp only[zz]<;>simp[hr,hrj,hwj]
    ·have e1:((r.bH.take k).any λy=>decide (x=y))=true:=by
      rw[CO];exact⟨y,hmj hjk',by simp[h4]⟩
     have e:oA (λa b:Int=>decide (a=b)) [] r.bH=false:=by rw[<-hi,e1];rfl
     exact aA (by simp[mN,e])
    ·refine hBj _ ⟨j+1,by omega,by rw[htj];simp only[TV,hij,List.any_cons,List.any_nil,h4,F8,Bool.or_false]⟩ [] ?_ (by simp;omega);constructor<;>simp[hwj]
   ·have hjk':j=k:=by have:=pG hjk;omega
    rw[hjk']at hij;simp only[hjk];simp[hw];refine hB _ ⟨k+1,by omega,by rw[ht,<-hi,hij];rfl⟩ [] ?_ (by simp;omega);constructor<;>simp[hw]
  ·simp;rw[bX,yC]at hi;simp only[oA]at hi;exact aA (by simp[mN,hi1,<-hi2,<-hi])
theorem zjG (s:Str):(bs s=[])=(s=⟨#[]⟩):=by rw[A5];rfl
theorem G0 (r:aC):C0 113 [st (aF r)] (int (cQ r)):=by
 refine Ct.B func113 ?_;simp;have ht0:=zjG r.to;refine cV (λh1 zz=>?_) (λh1 zz=>?_)<;>simp only[zz]<;>simp
 ·exact aA (by simp[cQ,pM.2 (.inl h1)])
 refine bQ (λh1'=>?_) (λh1'=>?_)<;>simp only[h1']<;>simp<;>(try simp only[nT,nF,dT,dF]at h1')
 ·exact aA (by simp[cQ,pM.2 (.inr h1')])
 have hk0:bG r.kind 3=true:=xE.2 ⟨vT.1 h1,vT.1 h1'⟩;have hk:=xE.1 hk0;refine CI.p (DK r.name) ?_;simp;refine aX (λh2 zz=>?_) (λh2 zz=>?_)<;>simp only[zz]<;>simp
 ·exact aA (by simp[cQ,hk0,h2])
 refine CI.p (zjS r) ?_;simp;refine aX (λh3 zz=>?_) (λh3 zz=>?_)<;>simp only[zz]<;>simp
 ·exact aA (by simp[cQ,hk0,h2,h3])
 have hb:=KE h3;have lL:gK r=true->∀a b:Bool,mS r=a->mN r=b->cQ r=if a=false then 5 else if b=false then 2 else 0:=λhs a b h5 h6=>by
  simp[cQ,hk0,h2,h3,hs,h5,h6]
 have bad:gK r=false->cQ r=2:=λhs=>by simp[cQ,hk0,h2,h3,hs]
 have hq:r.kind=0\/r.kind=1\/r.kind=2\/r.kind=3:=by omega
 rcases hq with hq|hq|hq|hq
 ·have hmt:(r.kind).tmod 2=0:=by rw[hq];rfl
  simp[hq];refine cV (λeR zz=>?_) (λeR zz=>?_)<;>simp only[zz]<;>simp
  ·have qR:¬(r.rules.length=0):=by omega
   exact aA (by simp[bad (by simp[gK,j4,iH,jC,j5,hq,qR])])
  have qR:r.rules.length=0:=by omega
  refine aX (λeH zz=>?_) (λeH zz=>?_)<;>simp only[zz]<;>simp
  ·have qH:¬(r.bH.length=0):=by omega
   exact aA (by simp[bad (by simp[gK,j4,iH,jC,j5,hq,qH])])
  have qH:r.bH.length=0:=by omega
  have hs:gK r=true:=by simp[gK,j4,iH,jC,j5,hq,qR,qH]
  refine CI.p (P5 r hk ⟨hb.1,hb.2.2⟩) ?_ (ha:=by simp[hq]);simp[hq];refine aX (λh5 zz=>?_) (λh5 zz=>?_)<;>simp only[zz]<;>simp
  ·exact aA (by simp[lL hs false (mN r) h5 rfl])
  refine CI.p (NG r h3) ?_ (ha:=by simp[hq]);simp[hq];refine aX (λh6 zz=>?_) (λh6 zz=>?_)<;>simp only[zz]<;>simp
  ·exact aA (by simp[lL hs true false h5 h6])
  ·exact aA (by simp[lL hs true true h5 h6])
 ·have hmt:(r.kind).tmod 2=1:=by rw[hq];rfl
  simp[hq];refine cV (λeP zz=>?_) (λeP zz=>?_)<;>simp only[zz]<;>simp
  ·have qP:¬(r.port=0):=eP;exact aA (by simp[bad (by simp[gK,j4,iH,jC,j5,hq,qP])])
  have qP:r.port=0:=eP;refine cV (λeT zz=>?_) (λeT zz=>?_)<;>simp only[zz]<;>simp
  ·have qT:¬(bs r.to=[]):=by rw[ht0];exact eT
   exact aA (by simp[bad (by simp[gK,j4,iH,jC,j5,hq,qT])])
  have qT:bs r.to=[]:=by rw[ht0];exact eT
  refine aX (λeH zz=>?_) (λeH zz=>?_)<;>simp only[zz]<;>simp
  ·have qH:¬(r.bH.length=0):=by omega
   exact aA (by simp[bad (by simp[gK,j4,iH,jC,j5,hq,qH])])
  have qH:r.bH.length=0:=by omega
  have hs:gK r=true:=by simp[gK,j4,iH,jC,j5,hq,qP,qT,qH]
  refine CI.p (P5 r hk ⟨hb.1,hb.2.2⟩) ?_ (ha:=by simp[hq]);simp[hq];refine aX (λh5 zz=>?_) (λh5 zz=>?_)<;>simp only[zz]<;>simp
  ·exact aA (by simp[lL hs false (mN r) h5 rfl])
  refine CI.p (NG r h3) ?_ (ha:=by simp[hq]);simp[hq];refine aX (λh6 zz=>?_) (λh6 zz=>?_)<;>simp only[zz]<;>simp
  ·exact aA (by simp[lL hs true false h5 h6])
  ·exact aA (by simp[lL hs true true h5 h6])
 ·have hmt:(r.kind).tmod 2=0:=by rw[hq];rfl
  simp[hq];refine cV (λeP zz=>?_) (λeP zz=>?_)<;>simp only[zz]<;>simp
  ·have qP:¬(r.port=0):=eP;exact aA (by simp[bad (by simp[gK,j4,iH,jC,j5,hq,qP])])
  have qP:r.port=0:=eP;refine cV (λeR zz=>?_) (λeR zz=>?_)<;>simp only[zz]<;>simp
  ·have qR:¬(r.rules.length=0):=by omega
   exact aA (by simp[bad (by simp[gK,j4,iH,jC,j5,hq,qR])])
  have qR:r.rules.length=0:=by omega
  refine aX (λeH zz=>?_) (λeH zz=>?_)<;>simp only[zz]<;>simp
  ·have qH:¬(r.bH.length=0):=by omega
   exact aA (by simp[bad (by simp[gK,j4,iH,jC,j5,hq,qH])])
  have qH:r.bH.length=0:=by omega
  have hs:gK r=true:=by simp[gK,j4,iH,jC,j5,hq,qP,qR,qH]
  refine CI.p (P5 r hk ⟨hb.1,hb.2.2⟩) ?_ (ha:=by simp[hq]);simp[hq];refine aX (λh5 zz=>?_) (λh5 zz=>?_)<;>simp only[zz]<;>simp
  ·exact aA (by simp[lL hs false (mN r) h5 rfl])
  refine CI.p (NG r h3) ?_ (ha:=by simp[hq]);simp[hq];refine aX (λh6 zz=>?_) (λh6 zz=>?_)<;>simp only[zz]<;>simp
  ·exact aA (by simp[lL hs true false h5 h6])
  ·exact aA (by simp[lL hs true true h5 h6])
 ·have hmt:(r.kind).tmod 2=1:=by rw[hq];rfl
  simp[hq];refine cV (λeP zz=>?_) (λeP zz=>?_)<;>simp only[zz]<;>simp
  ·have qP:¬(r.port=0):=eP;exact aA (by simp[bad (by simp[gK,j4,iH,jC,j5,hq,qP])])
  have qP:r.port=0:=eP;refine cV (λeT zz=>?_) (λeT zz=>?_)<;>simp only[zz]<;>simp
  ·have qT:¬(bs r.to=[]):=by rw[ht0];exact eT
   exact aA (by simp[bad (by simp[gK,j4,iH,jC,j5,hq,qT])])
  have qT:bs r.to=[]:=by rw[ht0];exact eT
  refine cV (λeR zz=>?_) (λeR zz=>?_)<;>simp only[zz]<;>simp
  ·have qR:¬(r.rules.length=0):=by omega
   exact aA (by simp[bad (by simp[gK,j4,iH,jC,j5,hq,qR])])
  have qR:r.rules.length=0:=by omega
  have hs:gK r=true:=by simp[gK,j4,iH,jC,j5,hq,qP,qT,qR]
  refine CI.p (P5 r hk ⟨hb.1,hb.2.2⟩) ?_ (ha:=by simp[hq]);simp[hq];refine aX (λh5 zz=>?_) (λh5 zz=>?_)<;>simp only[zz]<;>simp
  ·exact aA (by simp[lL hs false (mN r) h5 rfl])
  refine CI.p (NG r h3) ?_ (ha:=by simp[hq]);simp[hq];refine aX (λh6 zz=>?_) (λh6 zz=>?_)<;>simp only[zz]<;>simp
  ·exact aA (by simp[lL hs true false h5 h6])
  ·exact aA (by simp[lL hs true true h5 h6])
end Go.Proofs.YtobcmagefgdgdaaGreatDoor
