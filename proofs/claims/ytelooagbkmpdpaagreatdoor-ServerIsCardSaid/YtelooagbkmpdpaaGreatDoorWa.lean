/-
  LAYERS 1 to 3, walked
-/
import Derived.Test.YtelooagbkmpdpaaGreatDoorTy
import Derived.Test.YtelooagbkmpdpaaGreatDoorPl
import Derived.Test.YtelooagbkmpdpaaGreatDoorFd
set_option linter.unusedSimpArgs false
set_option linter.unusedVariables false
set_option maxRecDepth 100000
set_option maxHeartbeats 8000000
namespace Go.Proofs.YtelooagbkmpdpaaGreatDoor
open Go.AI Go.G
theorem mixed :Tryz.prog.follows .mixedOrders=true:=by kernel_rfl
attribute [simp] Tryz.ntmps177 Tryz.results177
theorem K3 (c:UInt8):Ct Tryz.prog 177 [byte c] [] [] (bool (nY c)) []:=by
 refine Ct.B Tryz.func177 ?_;simp
 repeat' first
  | (refine aM (λh=>?_) (λh=>?_)<;>simp only[h]<;>simp[h])
  | (refine aE (λh=>?_) (λh=>?_)<;>simp only[h]<;>simp[h])
  | (refine⟨(show gH _ _ from by decide+kernel),?_⟩)
  |fail
 all_goals exact aA (by simp[*,nY]) rfl
attribute [simp] Tryz.ntmps178 Tryz.results178
theorem JL (c:UInt8):Ct Tryz.prog 178 [byte c] [] [] (bool (kP c)) []:=by
 refine Ct.B Tryz.func178 ?_;simp;refine CI.p (K3 c) ?_;simp
 repeat' first
  | (refine aM (λh=>?_) (λh=>?_)<;>simp only[h]<;>simp[h])
  | (refine aE (λh=>?_) (λh=>?_)<;>simp only[h]<;>simp[h])
  | (refine⟨(show gH _ _ from by decide+kernel),?_⟩)
  |fail
 all_goals exact aA (by simp[*,kP]) rfl
attribute [simp] Tryz.ntmps131 Tryz.results131
theorem tA (s:cE):Ct Tryz.prog 131 [str s] [] [] (bool (cP s)) []:=by
 refine Ct.B Tryz.func131 ?_;simp;have hsz:=iX s;refine aM (λh1=>?_) (λh1=>?_)<;>simp only[h1]<;>simp
 ·have hz:(bs s).length=0:=by have:=jI h1;omega
  first|exact aA (by simp[cP,fO,hz]) rfl|exact aB (by simp[cP,fO,hz])
 refine aM (λh2=>?_) (λh2=>?_)<;>simp only[h2]<;>simp
 ·have hz:¬((bs s).length<=12):=by have:=jI h2;omega
  first|exact aA (by simp[cP,fO,hz]) rfl|exact aB (by simp[cP,fO,hz])
 obtain⟨c,l,hs⟩:∃c l,bs s=c::l:=by
  have:=kY h1;cases hb:bs s with
  |nil=>rw[hb]at hsz;simp only[j6]at hsz;omega
  |cons c l=>exact⟨c,l,rfl⟩
 simp[pW,hs];refine CI.p (K3 c) ?_;simp;refine aE (λh3=>?_) (λh3=>?_)<;>simp only[h3]<;>simp
 ·have h3':nY c=false:=by simpa using h3
  first|exact aA (by simp[cP,fO,hs,h3']) rfl|exact aB (by simp[cP,fO,hs,h3'])
 have h3':nY c=true:=by simpa using h3
 have hle:(bs s).length<=12:=by have:=kY h2;omega
 have h1':1<=(bs s).length:=by rw[hs];simp
 refine aJ.inv mixed rfl (ι:={k:Nat//k<=((bs s)).length/\((bs s).take k).all kP=true}) (λk=>[(0,str s),(3,int k.1)]) (λk=>[]) 64 (λk=>((bs s)).length-k.1) ⟨0,by omega,by simp⟩ [] (by constructor<;>simp[hsz]) ?_;rintro⟨k,hk1,hi⟩ B hB;refine CI.n ?_;simp[hsz];refine aE (λh=>?_) (λh=>?_)
 ·have hk:k<((bs s)).length:=by simpa using h
  obtain⟨b,hx,hr,hm,ht,hd,hw⟩:=bB hk;simp only[h];simp[hr,hw,pW];refine CI.p (JL b) ?_;simp;refine aE (λh4=>?_) (λh4=>?_)<;>simp only[h4]<;>simp
  ·have h4':(bs s).all kP=false:=by
    have:kP b=false:=by simpa using h4
    rw[gY];exact⟨b,hm,by simp[this]⟩
   first|exact aA (by simp[cP,fO,h4']) rfl|exact aB (by simp[cP,fO,h4'])
  ·have h4':kP b=true:=by simpa using h4
   refine hB _ ⟨k+1,by omega,by simp[ht,hi,h4']⟩ [] ?_ (by simp;omega);constructor<;>simp[hw,ht,h4']
 ·obtain rfl:k=((bs s)).length:=by simp at h;omega
  simp only[h];simp;rw[bK]at hi;have e:cP s=true:=by
   simp only[cP,fO,hi,h1',hle,decide_true,pF,Bool.and_true];rw[hs];exact h3'
  first|exact aA (by simp[e]) rfl|exact aB (by simp[e])
attribute [simp] Tryz.ntmps180 Tryz.results180
theorem JI (s:cE):Ct Tryz.prog 180 [str s] [] [] (bool (jB s)) []:=by
 refine Ct.B Tryz.func180 ?_;simp;have hsz:=iX s;refine aM (λh1=>?_) (λh1=>?_)<;>simp only[h1]<;>simp
 ·have hz:(bs s).length=0:=by have:=jI h1;omega
  first|exact aA (by simp[jB,hz]) rfl|exact aB (by simp[jB,hz])
 refine aM (λh2=>?_) (λh2=>?_)<;>simp only[h2]<;>simp
 ·have hz:¬((bs s).length<=40):=by have:=jI h2;omega
  first|exact aA (by simp[jB,hz]) rfl|exact aB (by simp[jB,hz])
 obtain⟨c,l,hs⟩:∃c l,bs s=c::l:=by
  have:=kY h1;cases hb:bs s with
  |nil=>rw[hb]at hsz;simp only[j6]at hsz;omega
  |cons c l=>exact⟨c,l,rfl⟩
 simp[pW,hs];refine aE (λh3=>?_) (λh3=>?_)<;>simp only[h3]<;>simp
 ·have h3':¬(c.toNat=47):=by simp at h3;omega
  first|exact aA (by simp[jB,hs,h3']) rfl|exact aB (by simp[jB,hs,h3'])
 have h3':c.toNat=47:=by simp at h3;omega
 have hle:(bs s).length<=40:=by have:=kY h2;omega
 have h1':1<=(bs s).length:=by rw[hs];simp
 refine aJ.inv mixed rfl (ι:={k:Nat//k<=((bs s)).length/\((bs s).take k).all j8=true}) (λk=>[(0,str s),(3,int k.1)]) (λk=>[]) 64 (λk=>((bs s)).length-k.1) ⟨0,by omega,by simp⟩ [] (by constructor<;>simp[hsz]) ?_;rintro⟨k,hk1,hi⟩ B hB;refine CI.n ?_;simp[hsz];refine aE (λh=>?_) (λh=>?_)
 ·have hk:k<((bs s)).length:=by simpa using h
  obtain⟨b,hx,hr,hm,ht,hd,hw⟩:=bB hk;simp only[h];simp[hr,hw,pW];refine CI.p (JL b) ?_;simp;refine aM (λh4=>?_) (λh4=>?_)<;>simp only[h4]<;>simp[pW,hr]
  ·refine aE (λh5=>?_) (λh5=>?_)<;>simp only[h5]<;>simp
   ·have h4':(bs s).all j8=false:=by
     have:j8 b=false:=by simp[j8]at h4 h5⊢;exact⟨h4,by omega⟩
     rw[gY];exact⟨b,hm,by simp[this]⟩
    first|exact aA (by simp[jB,h4']) rfl|exact aB (by simp[jB,h4'])
   ·have h4':j8 b=true:=by simp[j8]at h4 h5⊢;exact .inr (by omega)
    refine hB _ ⟨k+1,by omega,by simp[ht,hi,h4']⟩ [] ?_ (by simp;omega);constructor<;>simp[hw,ht,h4']
  ·have h4':j8 b=true:=by simp[j8]at h4⊢;exact .inl h4
   refine hB _ ⟨k+1,by omega,by simp[ht,hi,h4']⟩ [] ?_ (by simp;omega);constructor<;>simp[hw,ht,h4']
 ·obtain rfl:k=((bs s)).length:=by simp at h;omega
  simp only[h];simp;rw[bK]at hi;have e:jB s=true:=by
   simp only[jB,hi,h1',hle,decide_true,pF,Bool.and_true];rw[hs];simpa using h3'
  first|exact aA (by simp[e]) rfl|exact aB (by simp[e])
attribute [simp] Tryz.ntmps232 Tryz.results232
theorem QT (s:cE):Ct Tryz.prog 232 [str s] [] [] (bool (lT (bs s))) []:=by
 refine Ct.B Tryz.func232 ?_;simp;have hsz:=iX s;refine aM (λh1=>?_) (λh1=>?_)<;>simp only[h1]<;>simp
 ·have hz:2<=(bs s).length:=by have:=jI h1;omega
  refine⟨by omega,?_⟩;simp[uP,rG];first|exact aA (by simp[lT,hz]) rfl|exact aB (by simp[lT,hz])
 ·have hz:¬(2<=(bs s).length):=by have:=kY h1;omega
  first|exact aA (by simp[lT,hz]) rfl|exact aB (by simp[lT,hz])
attribute [simp] Tryz.ntmps234 Tryz.results234
theorem Cu (a b:cE)(hl:(bs a).length<=9223372036854775807\/(bs b).length<=9223372036854775807):Ct Tryz.prog 234 [str a,str b] [] [] (int (kI a b)) []:=by
 refine Ct.B Tryz.func234 ?_;simp;have hsa:=iX a;have hsb:=iX b;refine aJ.inv mixed rfl (ι:={k:Nat//k<=(bs a).length/\k<=(bs b).length/\(bs a).take k=(bs b).take k}) (λk=>[(0,str a),(1,str b),(5,int k.1)]) (λk=>[]) 64 (λk=>(bs a).length-k.1) ⟨0,by omega,by omega,by simp⟩ [] (by constructor<;>simp) ?_;rintro⟨k,hk1,hk2,hi⟩ B hB;refine CI.n ?_;simp[hsa,hsb];refine aM (λh1=>?_) (λh1=>?_)<;>simp only[h1]<;>simp[hsa,hsb]
 ·have hka:k<(bs a).length:=by have:=jI h1;omega
  have hra:(bs a)[k]? =some (bs a)[k]:=bL hka;have hda:(bs a).drop k=(bs a)[k]::(bs a).drop (k+1):=qF hka;have hta:(bs a).take (k+1)=(bs a).take k++[(bs a)[k]]:=by rw[eW,hra];rfl
  generalize(bs a)[k]=x at hra hda hta;refine aE (λh2=>?_) (λh2=>?_)
  ·have hkb:k<(bs b).length:=by have:=jI h2;omega
   have hrb:(bs b)[k]? =some (bs b)[k]:=bL hkb;have hdb:(bs b).drop k=(bs b)[k]::(bs b).drop (k+1):=qF hkb;have htb:(bs b).take (k+1)=(bs b).take k++[(bs b)[k]]:=by rw[eW,hrb];rfl
   generalize(bs b)[k]=y at hrb hdb htb;have e:=BL k hi hk1 hk2;rw[hda,hdb]at e;simp only[Lib.compareBytes]at e;have hw:IntKind.wrap .i64 ((k:Int)+1)=k+1:=wrap_i64 (by omega) (by omega);simp only[h2];simp[pW,hra,hrb];refine⟨by decide+kernel,?_⟩;refine aE (λh3=>?_) (λh3=>?_)<;>simp only[h3]<;>simp[pW,hra,hrb]
   ·have h3':x<y:=by simpa[uG]using h3
    rw[bA h3']at e;first|exact aA (by simp[kI,e]) rfl|exact aB (by simp[kI,e])
   have h3':¬x<y:=by simpa[uG]using h3
   rw[aR h3']at e;refine⟨by decide+kernel,?_⟩;refine aE (λh4=>?_) (λh4=>?_)<;>simp only[h4]<;>simp[pW,hra,hrb]
   ·have h4':y<x:=by simpa[uG]using h4
    rw[bA h4']at e;first|exact aA (by simp[kI,e]) rfl|exact aB (by simp[kI,e])
   have h4':¬y<x:=by simpa[uG]using h4
   have hxy:x=y:=by
    simp only[uG]at h3' h4';exact UInt8.toNat_inj.1 (by omega)
   refine hB _ ⟨k+1,by omega,by omega,by rw[hta,htb,hi,hxy]⟩ [] ?_ (by simp;omega);constructor<;>simp[hw]
  ·have hkb:k=(bs b).length:=by have:=kY h2;omega
   have e:=BL k hi hk1 hk2;rw[hda,hkb,sQ]at e;simp only[Lib.compareBytes]at e;have h3:¬(bs a).length<(bs b).length:=by omega
   have h4:(bs b).length<(bs a).length:=by omega
   simp only[h2];simp[hsa,hsb,h3,h4];first|exact aA (by simp[kI,e]) rfl|exact aB (by simp[kI,e])
 ·have hka:k=(bs a).length:=by have:=kY h1;omega
  have e:=BL k hi hk1 hk2;rw[hka,sQ]at e;by_cases h3:(bs a).length<(bs b).length
  ·have hdb:(bs b).drop (bs a).length=(bs b)[(bs a).length]::(bs b).drop ((bs a).length+1):=qF h3;rw[hdb]at e;simp only[Lib.compareBytes]at e;simp[h3];first|exact aA (by simp[kI,e]) rfl|exact aB (by simp[kI,e])
  ·have h4:(bs b).length=(bs a).length:=by omega
   rw[<-h4,sQ]at e;simp only[Lib.compareBytes]at e;have h5:¬(bs b).length<(bs a).length:=by omega
   simp[h3,h5,hsa,hsb];first|exact aA (by simp[kI,e]) rfl|exact aB (by simp[kI,e])
attribute [simp] Tryz.ntmps233 Tryz.results233
theorem D3 (s:cE)(hl:(bs s).length<=1000):Ct Tryz.prog 233 [str s] [] [] (bool (eI [] (bs s))) []:=by
 refine Ct.B Tryz.func233 ?_;simp;have hsz:=iX s;refine aJ.inv mixed rfl (ι:={p:Nat×Nat//(p.1<=(bs s).length/\p.2<=p.1/\eI (((bs s).drop p.2).take (p.1-p.2)) ((bs s).drop p.1)=eI [] (bs s))\/(p.1=(bs s).length+1/\p.2<=p.1/\eI [] (bs s)=true)}) (λk=>[(0,str s),(3,int k.1.2),(4,int k.1.1)]) (λk=>[]) 64 (λk=>(bs s).length+1-k.1.1) ⟨(0,0),.inl (by simp)⟩ [] (by constructor<;>simp) ?_;rintro⟨⟨k,f⟩,hi⟩ B hB;refine CI.n ?_;simp[hsz];refine aE (λh1=>?_) (λh1=>?_)
 ·have hk:k<=(bs s).length:=by have:=jI h1;omega
  have hi1:k<=(bs s).length/\f<=k/\eI (((bs s).drop f).take (k-f)) ((bs s).drop k)=eI [] (bs s):=by
   rcases hi with hi|⟨hi,_⟩
   ·exact hi
   ·simp only at hi;omega
  obtain⟨_,hf,hi1⟩:=hi1;have hw:IntKind.wrap .i64 ((k:Int)+1)=k+1:=wrap_i64 (by omega) (by omega);have hpc:bs (s.extract f k)=((bs s).drop f).take (k-f):=by rw[rG,List.drop_take]
  simp only[h1];simp[hsz];refine aM (λh2=>?_) (λh2=>?_)<;>simp only[h2]<;>simp[hsz]
  ·have hkl:k=(bs s).length:=by have:=jI h2;omega
   refine⟨by omega,?_⟩;refine CI.p (tA (s.extract f k)) ?_;simp;rw[hkl,sQ]at hi1;rw[show cP (s.extract f k)=eI [] (bs s) by rw[<-hi1,cP,hpc,hkl];rfl];refine aE (λh3=>?_) (λh3=>?_)<;>simp only[h3]<;>simp
   ·have h3':eI [] (bs s)=false:=by simpa using h3
    first|exact aA (by simp[h3']) rfl|exact aB (by simp[h3'])
   ·have h3':eI [] (bs s)=true:=by simpa using h3
    refine hB _ ⟨(k+1,k+1),.inr ⟨by simp;omega,by simp,h3'⟩⟩ [] ?_ (by simp;omega);constructor<;>simp[hw]
  ·have hkl:k<(bs s).length:=by have:=kY h2;omega
   have hr:(bs s)[k]? =some (bs s)[k]:=bL hkl;have hd:(bs s).drop k=(bs s)[k]::(bs s).drop (k+1):=qF hkl;have ht:((bs s).drop f).take (k+1-f)=((bs s).drop f).take (k-f)++[(bs s)[k]]:=by
    rw[show k+1-f=(k-f)+1 by omega,eW,sP,show f+(k-f)=k by omega,hr];rfl
   generalize(bs s)[k]=c at hr hd ht;rw[hd,eI]at hi1;simp[pW,hr];refine aE (λh3=>?_) (λh3=>?_)<;>simp only[h3]<;>simp[hsz]
   ·have h3':c=46:=UInt8.toNat_inj.1 (by have:=jI h3;simp at this⊢;omega);refine⟨by omega,?_⟩;refine CI.p (tA (s.extract f k)) ?_;simp;rw[bA h3']at hi1;refine aE (λh4=>?_) (λh4=>?_)<;>simp only[h4]<;>simp
    ·have h4':eI [] (bs s)=false:=by
      rw[<-hi1];simp[cP,hpc]at h4;simp[h4]
     first|exact aA (by simp[h4']) rfl|exact aB (by simp[h4'])
    ·have h4':cP (s.extract f k)=true:=by simpa using h4
     rw[cP,hpc]at h4';rw[h4',pF]at hi1;refine hB _ ⟨(k+1,k+1),.inl ⟨by simp;omega,by simp,by simpa using hi1⟩⟩ [] ?_ (by simp;omega);constructor<;>simp[hw]
   ·have h3':¬c=46:=by
     intro e;subst e;simp at h3
    rw[aR h3']at hi1;refine hB _ ⟨(k+1,f),.inl ⟨by simp;omega,by simp;omega,by simp only;rw[ht];exact hi1⟩⟩ [] ?_ (by simp;omega);constructor<;>simp[hw]
 ·have hi1:eI [] (bs s)=true:=by
   have:=kY h1;rcases hi with⟨hi,_⟩|⟨_,_,hi⟩
   ·simp only at hi;omega
   ·exact hi
  simp only[h1];simp;first|exact aA (by simp[hi1]) rfl|exact aB (by simp[hi1])
attribute [simp] Tryz.ntmps179 Tryz.results179
theorem L2 (s:cE):Ct Tryz.prog 179 [str s] [] [] (bool (kF s)) []:=by
 refine Ct.B Tryz.func179 ?_;simp;have hsz:=iX s;refine aE (λh1=>?_) (λh1=>?_)<;>simp only[h1]<;>simp[hsz]
 ·have hz:¬((bs s).length<=40):=by have:=jI h1;omega
  first|exact aA (by simp[kF,hz]) rfl|exact aB (by simp[kF,hz])
 have hz:(bs s).length<=40:=by have:=kY h1;omega
 refine aM (λh2=>?_) (λh2=>?_)<;>simp only[h2]<;>simp
 ·have e:bs s=[42]:=by rw[jI h2];rfl
  first|exact aA (by simp[kF,e]) rfl|exact aB (by simp[kF,e])
 have e:¬bs s=[42]:=by
  intro e;exact kY h2 (xW e)
 refine CI.p (QT s) ?_;simp;refine aM (λh3=>?_) (λh3=>?_)<;>simp only[h3]<;>simp
 ·have h3':2<=(bs s).length:=by simp[lT]at h3;exact h3.1
  refine⟨by omega,?_⟩;have e2:bs (s.extract 2 s.size)=(bs s).drop 2:=by rw[rG,hsz,bK]
  refine CI.p (D3 (s.extract 2 s.size) (by rw[e2,vX];omega)) ?_;simp;rw[e2];refine aM (λh4=>?_) (λh4=>?_)<;>simp only[h4]<;>simp
  ·first|exact aA (by simp[kF,hz,h3,h4]) rfl|exact aB (by simp[kF,hz,h3,h4])
  refine CI.p (D3 s (by omega)) ?_;simp;first|exact aA (by simp[kF,hz,h3,h4,e]) rfl|exact aB (by simp[kF,hz,h3,h4,e])
 refine CI.p (D3 s (by omega)) ?_;simp;first|exact aA (by simp[kF,hz,h3,e]) rfl|exact aB (by simp[kF,hz,h3,e])
theorem QP (a b:cE):Ct Tryz.prog 260 [str a,str b] [] [] (int (kI a b)) []:=Ct.pure (xs:=[.string a,.string b]) (λw=>Tryz.strings_Compare a b w)
attribute [simp] Tryz.ntmps246 Tryz.results246
theorem Cv (a b:cE):Ct Tryz.prog 246 [str a,str b] [] [] (int (kI a b)) []:=by
 refine Ct.B Tryz.func246 ?_;simp;refine CI.p (QP a b) ?_;simp;first|exact aA (by simp) rfl|exact aB (by simp)
attribute [simp] Tryz.ntmps219 Tryz.results219
theorem K4 (c:Int):Ct Tryz.prog 219 [.d (.v (.int .i32 c))] [] [] (bool (wV c)) []:=by
 refine Ct.B Tryz.func219 ?_;simp
 repeat' first
  | (refine aM (λh=>?_) (λh=>?_)<;>simp only[h]<;>simp[h])
  | (refine aE (λh=>?_) (λh=>?_)<;>simp only[h]<;>simp[h])
  | (refine⟨(show gH _ _ from by decide+kernel),?_⟩)
  |fail
 all_goals exact aA (by simp[*,wV]) rfl
attribute [simp] Tryz.ntmps218 Tryz.results218
theorem zJ (c:Int):Ct Tryz.prog 218 [.d (.v (.int .i32 c))] [] [] (bool (wO c)) []:=by
 refine Ct.B Tryz.func218 ?_;simp;refine CI.p (K4 c) ?_;simp
 repeat' first
  | (refine aM (λh=>?_) (λh=>?_)<;>simp only[h]<;>simp[h])
  | (refine aE (λh=>?_) (λh=>?_)<;>simp only[h]<;>simp[h])
  | (refine⟨(show gH _ _ from by decide+kernel),?_⟩)
  |fail
 all_goals exact aA (by simp[*,wO]) rfl
attribute [simp] Tryz.ntmps282 Tryz.results282
theorem hasPrefix (s p:cE):Ct Tryz.prog 282 [str s,str p] [] [] (bool (decide ((bs p).length<=(bs s).length)&&decide ((bs s).take (bs p).length=bs p))) []:=by
 refine Ct.B Tryz.func282 ?_;simp;have hs:=iX s;have hp:=iX p;refine aM (λh1=>?_) (λh1=>?_)<;>simp only[h1]<;>simp[hs,hp]
 ·have h1':(bs p).length<=(bs s).length:=by have:=jI h1;omega
  refine⟨by omega,?_⟩;first|exact aA (by simp[h1',uP,rG]) rfl|exact aB (by simp[h1',uP,rG])
 ·have h1':¬(bs p).length<=(bs s).length:=by have:=kY h1;omega
  first|exact aA (by simp[h1']) rfl|exact aB (by simp[h1'])
attribute [simp] Tryz.ntmps169 Tryz.results169
theorem wR (s:cE):Ct Tryz.prog 169 [str s] [] [] (bool (cP s)) []:=by
 refine Ct.B Tryz.func169 ?_;simp;have hsz:=iX s;refine aE (λh1=>?_) (λh1=>?_)<;>simp only[h1]<;>simp[hsz]
 ·have hz:¬((bs s).length<=12):=by have:=jI h1;omega
  first|exact aA (by simp[cP,fO,hz]) rfl|exact aB (by simp[cP,fO,hz])
 have hz:(bs s).length<=12:=by have:=kY h1;omega
 refine aJ.inv mixed rfl (ι:={k:Nat//k<=(bs s).length/\((bs s).take k).all kP=true/\(1<=k->nY ((bs s).headD 0)=true)}) (λk=>[(0,str s),(9,.own 64)]) (λk=>[(64,.iter s k.1)]) 65 (λk=>(bs s).length-k.1) ⟨0,by omega,by simp,by omega⟩ [] (by constructor<;>simp) ?_;rintro⟨k,hk1,hi,hl⟩ B hB;by_cases hk:k<(bs s).length
 ·have hr:(bs s)[k]? =some (bs s)[k]:=bL hk;have hm:(bs s)[k]∈(bs s):=mD hk;have ht:(bs s).take (k+1)=(bs s).take k++[(bs s)[k]]:=by rw[eW,hr];rfl
  have h0:k=0->(bs s).headD 0=(bs s)[k]:=by
   intro e;simp only[e,List.headD_eq_head?_getD,List.head?_eq_getElem?];rw[bL (by omega)];rfl
  generalize(bs s)[k]=c at hr hm ht h0;by_cases hc:c.toNat<128
  ·refine CI.n ?_;simp[hsz,hk,NR hr hc];refine CI.p (zJ c.toNat) ?_;simp;refine aM (λh2=>?_) (λh2=>?_)<;>simp only[h2]<;>simp
   ·have h2':(bs s).all kP=false:=by
     rw[gY];exact⟨c,hm,by simpa using h2⟩
    first|exact aA (by simp[cP,fO,h2']) rfl|exact aB (by simp[cP,fO,h2'])
   have h2':kP c=true:=by simpa using h2
   refine aM (λh3=>?_) (λh3=>?_)<;>simp only[h3]<;>simp
   ·have hk0:k=0:=by have:=jI h3;omega
    refine CI.p (K4 c.toNat) ?_;simp;refine aE (λh4=>?_) (λh4=>?_)<;>simp only[h4]<;>simp
    ·have h4':nY c=false:=by simpa using h4
     have h5:(bs s).head?.getD 0=c:=by rw[<-List.headD_eq_head?_getD];exact h0 hk0
     first|exact aA (by simp[cP,fO,h5,h4']) rfl|exact aB (by simp[cP,fO,h5,h4'])
    ·have h4':nY c=true:=by simpa using h4
     refine hB _ ⟨k+1,by omega,by simp[ht,hi,h2'],λ_=>by rw[h0 hk0];exact h4'⟩ [] ?_ (by simp;omega);constructor<;>simp
   ·have hk0:1<=k:=by have:=kY h3;omega
    refine hB _ ⟨k+1,by omega,by simp[ht,hi,h2'],λ_=>hl hk0⟩ [] ?_ (by simp;omega);constructor<;>simp
  ·have hu:=NS hr (by omega);have hv:kP c=false:=by
    cases hv:kP c
    ·rfl
    ·exact absurd (JM hv) hc
   have h2':(bs s).all kP=false:=by
    rw[gY];exact⟨c,hm,by simp[hv]⟩
   refine CI.n ?_;simp[hsz,hk];refine CI.p (zJ (Utf8.decode s k).1) ?_;simp;rw[JH hu];simp;first|exact aA (by simp[cP,fO,h2']) rfl|exact aB (by simp[cP,fO,h2'])
 ·have hkl:k=(bs s).length:=by omega
  rw[hkl,bK]at hi;refine CI.n ?_;simp[hsz,hk,hkl];cases hb:bs s with
  |nil=>
   have e:s=⟨#[]⟩:=xW (by rw[hb];rfl);subst e;first|exact aA (by simp[cP,fO,hb]) rfl|exact aB (by simp[cP,fO,hb])
  |cons a l=>
   have hne:¬s=⟨#[]⟩:=by
    intro e;subst e;cases hb
   have e:cP s=true:=by
    have h5:=hl (by rw[hkl,hb];simp);have h6:1<=(bs s).length:=by rw[hb];simp
    simp only[cP,fO,hi,hz,h5,h6,decide_true,pF]
   first|exact aA (by simp[e,hne]) rfl|exact aB (by simp[e,hne])
attribute [simp] Tryz.ntmps273 Tryz.results273
theorem ZL (s p:cE):Ct Tryz.prog 273 [str s,str p] [] [] (bool (decide ((bs p).length<=(bs s).length)&&decide ((bs s).take (bs p).length=bs p))) []:=by
 refine Ct.B Tryz.func273 ?_;simp;refine CI.p (hasPrefix s p) ?_;simp;first|exact aA (by simp) rfl|exact aB (by simp)
def qI (s p:cE):cE:=if(decide ((bs p).length<=(bs s).length)&&decide ((bs s).take (bs p).length=bs p))=true then s.extract (bs p).length s.size else s
attribute [simp] Tryz.ntmps281 Tryz.results281
theorem trimPrefix (s p:cE):Ct Tryz.prog 281 [str s,str p] [] [] (str (qI s p)) []:=by
 refine Ct.B Tryz.func281 ?_;simp;have hs:=iX s;have hp:=iX p;refine CI.p (hasPrefix s p) ?_;simp;generalize hq:(decide ((bs p).length<=(bs s).length)&&decide ((bs s).take (bs p).length=bs p))=q;refine aE (λh1=>?_) (λh1=>?_)<;>simp only[h1]<;>simp[hs,hp]
 ·have h1':(bs p).length<=(bs s).length:=by
   rw[h1,bN]at hq;exact jI hq.1
  refine⟨by omega,?_⟩;first|exact aA (by simp[qI,hq,h1,hs]) rfl|exact aB (by simp[qI,hq,h1,hs])
 ·first|exact aA (by simp[qI,hq,h1]) rfl|exact aB (by simp[qI,hq,h1])
attribute [simp] Tryz.ntmps272 Tryz.results272
theorem P7 (s p:cE):Ct Tryz.prog 272 [str s,str p] [] [] (str (qI s p)) []:=by
 refine Ct.B Tryz.func272 ?_;simp;refine CI.p (trimPrefix s p) ?_;simp;first|exact aA (by simp) rfl|exact aB (by simp)
attribute [simp] Tryz.ntmps253 Tryz.results253
theorem U3 (s:cE):Ct Tryz.prog 253 [str s] [] [] (bool (jB s)) []:=by
 refine Ct.B Tryz.func253 ?_;simp;have hsz:=iX s;refine aJ.inv mixed rfl (ι:={k:Nat//k<=(bs s).length/\((bs s).take k).all j8=true}) (λk=>[(0,str s),(6,.own 64)]) (λk=>[(64,.iter s k.1)]) 65 (λk=>(bs s).length-k.1) ⟨0,by omega,by simp⟩ [] (by constructor<;>simp) ?_;rintro⟨k,hk1,hi⟩ B hB;by_cases hk:k<(bs s).length
 ·have hr:(bs s)[k]? =some (bs s)[k]:=bL hk;have hm:(bs s)[k]∈(bs s):=mD hk;have ht:(bs s).take (k+1)=(bs s).take k++[(bs s)[k]]:=by rw[eW,hr];rfl
  generalize(bs s)[k]=c at hr hm ht;by_cases hc:c.toNat<128
  ·refine CI.n ?_;simp[hsz,hk,NR hr hc];refine CI.p (zJ c.toNat) ?_;simp;refine aM (λh2=>?_) (λh2=>?_)<;>simp only[h2]<;>simp
   ·refine aE (λh3=>?_) (λh3=>?_)<;>simp only[h3]<;>simp
    ·have h2':(bs s).all j8=false:=by
      rw[gY];exact⟨c,hm,by simp[j8]at h2 h3⊢;exact⟨h2,by omega⟩⟩
     first|exact aA (by simp[jB,h2']) rfl|exact aB (by simp[jB,h2'])
    ·have h2':j8 c=true:=by simp[j8]at h2 h3⊢;exact .inr (by omega)
     refine hB _ ⟨k+1,by omega,by simp[ht,hi,h2']⟩ [] ?_ (by simp;omega);constructor<;>simp
   ·have h2':j8 c=true:=by simp[j8]at h2⊢;exact .inl h2
    refine hB _ ⟨k+1,by omega,by simp[ht,hi,h2']⟩ [] ?_ (by simp;omega);constructor<;>simp
  ·have hu:=NS hr (by omega);have hv:j8 c=false:=by
    cases hv:kP c
    ·simp[j8,hv];omega
    ·exact absurd (JM hv) hc
   have h2':(bs s).all j8=false:=by
    rw[gY];exact⟨c,hm,by simp[hv]⟩
   have hn:¬((Utf8.decode s k).1:Int)=47:=by omega
   refine CI.n ?_;simp[hsz,hk];refine CI.p (zJ (Utf8.decode s k).1) ?_;simp;rw[JH hu];simp[hn];first|exact aA (by simp[jB,h2']) rfl|exact aB (by simp[jB,h2'])
 ·have hkl:k=(bs s).length:=by omega
  rw[hkl,bK]at hi;refine CI.n ?_;simp[hsz,hk,hkl];refine aM (λh1=>?_) (λh1=>?_)<;>simp only[h1]<;>simp
  ·refine CI.p (ZL s ⟨#[47]⟩) ?_;simp;have hz:(bs s).length<=40:=by have:=jI h1;omega
   have e:jB s=(decide ((bs ⟨#[47]⟩).length<=(bs s).length)&&decide ((bs s).take (bs ⟨#[47]⟩).length=bs ⟨#[47]⟩)):=by
    rw[show bs ⟨#[47]⟩=[47]from rfl];simp only[jB,hi,hz];cases hb:bs s with
    |nil=>rfl
    |cons a l=>simp[<-UInt8.toNat_inj]
   first|exact aA (by simp[e]) rfl|exact aB (by simp[e])
  ·have hz:¬((bs s).length<=40):=by have:=kY h1;omega
   first|exact aA (by simp[jB,hz]) rfl|exact aB (by simp[jB,hz])
end Go.Proofs.YtelooagbkmpdpaaGreatDoor
section
open Go.RowKit Go.Shelf
namespace Go.Proofs.YtelooagbkmpdpaaGreatDoor
open Go.AI Go.G
attribute [local go_sem] Oper.semAt_some
theorem Q7 (s p:cE)(n:Int)(w:World):Calls Tryz.prog 285 #[.string s,.string p,.int .i64 n] w λe w'=>e=.returned (.func (.func 286) #[] #[.pointer (some ⟨w.heap.size+1,0,none⟩),.pointer (some ⟨w.heap.size,0,none⟩),.pointer (some ⟨w.heap.size+2,0,none⟩)])/\w'=((w.alloc (.cells #[.string s] 9)).alloc (.cells #[.string p] 9)).alloc (.cells #[.int .i64 n] 3):=by
 go_enter Tryz.func285,Tryz.ntmps285
 go_wp2
 go_ret
 exact⟨rfl,rfl⟩
theorem Gy (s p:cE)(w:World):Calls Tryz.prog 280 #[.string s,.string p] w λe w'=>e=.returned (.func (.func 286) #[] #[.pointer (some ⟨w.heap.size+1,0,none⟩),.pointer (some ⟨w.heap.size,0,none⟩),.pointer (some ⟨w.heap.size+2,0,none⟩)])/\w'=((w.alloc (.cells #[.string s] 9)).alloc (.cells #[.string p] 9)).alloc (.cells #[.int .i64 0] 3):=by
 go_enter Tryz.func280,Tryz.ntmps280
 go_wp2_with (go_at_call 285;refine(Q7 _ _ _ _).mono ?_;rintro e w' ⟨rfl,rfl⟩)
 go_ret
 exact⟨rfl,rfl⟩
structure fE (w:World)(rest:cE)(lp:Loop)(W:World):Prop where
 b0:W.heap[w.heap.size]? =some (.cells #[.bool false] 4 (0,0))
 b1:W.heap[w.heap.size+1]? =some (.cells #[.string rest] 9 (0,0))
 b2:W.heap[w.heap.size+2]? =some (.cells #[.string ⟨#[46]⟩] 9 (0,0))
 b3:W.heap[w.heap.size+3]? =some (.cells #[.int .i64 0] 3 (0,0))
 b4:W.heap[w.heap.size+4]? =some (.deferred (some []))
 b5:W.heap[w.heap.size+5]? =some (.loop lp)
 below:Below w.heap.size w W
 dr:w.drawn<=W.drawn
theorem nL {W:World}{B:Nat}{v:Value}{t:TypeId}(h:W.heap[B]? =some (.cells #[v] t (0,0))):W.cell? ⟨B,0,none⟩=some v/\W.frozen? ⟨B,0,none⟩=false:=by
 constructor<;>simp[World.cell?,World.frozen?,h]
theorem BV {W:World}{B:Nat}{v:Value}{t:TypeId}(h:W.heap[B]? =some (.cells #[v] t (0,0)))(x:Value):(W.setCell ⟨B,0,none⟩ x).heap[B]? =some (.cells #[x] t (0,0)):=by
 obtain⟨hlt,hk⟩:=e7.1 h;show(W.heap.modify B _)[B]? =_;rw[iV (by rw[Array.size_modify];exact hlt),Array.getElem_modify_self,hk];rfl
theorem oD {W:World}{B k:Nat}(x:Value)(h:k≠B):(W.setCell ⟨B,0,none⟩ x).heap[k]? =W.heap[k]? :=Below.heap_setCell W ⟨B,0,none⟩ x k h
section
variable {w W W' : World} {rest : cE} {lp : Loop}
theorem fE.lt (h:fE w rest lp W):w.heap.size+5<W.heap.size:=(e7.1 h.b5).1
theorem fE.grow (h:fE w rest lp W)(hb:Below W.heap.size W W')(hd:W.drawn<=W'.drawn):fE w rest lp W':=by
 have:=h.lt;exact⟨(hb.block _ (by omega)).trans h.b0,(hb.block _ (by omega)).trans h.b1,(hb.block _ (by omega)).trans h.b2,(hb.block _ (by omega)).trans h.b3,(hb.block _ (by omega)).trans h.b4,(hb.block _ (by omega)).trans h.b5,h.below.trans (hb.mono h.below.size),cD h.dr hd⟩
theorem fE.HM (h:fE w rest lp W)(r:cE):fE w r lp (W.setCell ⟨w.heap.size+1,0,none⟩ (.string r)):=
 ⟨(oD _ (by omega)).trans h.b0,BV h.b1 _,(oD _ (by omega)).trans h.b2,(oD _ (by omega)).trans h.b3,(oD _ (by omega)).trans h.b4,(oD _ (by omega)).trans h.b5,h.below.setCell (p:=⟨w.heap.size+1,0,none⟩) (by simp) _,h.dr⟩
theorem fE.HN (h:fE w rest lp W):fE w rest lp (W.setCell ⟨w.heap.size,0,none⟩ (.bool false)):=
 ⟨BV h.b0 _,(oD _ (by omega)).trans h.b1,(oD _ (by omega)).trans h.b2,(oD _ (by omega)).trans h.b3,(oD _ (by omega)).trans h.b4,(oD _ (by omega)).trans h.b5,h.below.setCell (p:=⟨w.heap.size,0,none⟩) (by simp) _,h.dr⟩
theorem Below.put {B l:Nat}{w W:World}(h:Below B w W)(o:Obj)(hl:B<=l):Below B w (W.putObj l o):=
 ⟨h.os,h.tape,h.output,by simpa using h.size,λk hk=>(World.putObj_heap_other (by omega)).trans (h.block k hk)⟩
theorem fE.put (h:fE w rest lp W)(lq:Loop):fE w rest lq (W.putObj (w.heap.size+5) (.loop lq)):=
 ⟨(World.putObj_heap_other (by omega)).trans h.b0,(World.putObj_heap_other (by omega)).trans h.b1,(World.putObj_heap_other (by omega)).trans h.b2,(World.putObj_heap_other (by omega)).trans h.b3,(World.putObj_heap_other (by omega)).trans h.b4,World.putObj_heap_same h.lt,Below.put h.below _ (by omega),h.dr⟩
end
end Go.Proofs.YtelooagbkmpdpaaGreatDoor
end
section
namespace Go.G
open Go.AI
theorem KK :∀(l p:List UInt8) (i:Int),Lib.indexByte l 46=i->(i<0->eI p l=fO (p++l))/\(0<=i->eI p l=(fO (p++l.take i.toNat)&&eI [] (l.drop (i.toNat+1))))
 |[],p,i,h=>by
  simp[Lib.indexByte]at h;subst h;simp[eI]
 |c::l,p,i,h=>by
  simp only[Lib.indexByte]at h;by_cases hc:c=46
  ·subst hc;simp at h;subst h;simp[eI]
  ·have hc':(c==46)=false:=by simpa using hc
   have ih:=KK l (p++[c]) (Lib.indexByte l 46) rfl;have h1:=Lib.indexByte_ge l 46;simp only[hc']at h;by_cases h2:Lib.indexByte l 46<0
   ·have e:Lib.indexByte l 46= -1:=by omega
    rw[e]at h;have:i= -1:=by simpa using h.symm
    subst this;exact⟨λ_=>by rw[eI,aR hc,ih.1 h2];simp,λh=>by omega⟩
   ·obtain⟨k,hk⟩:∃k:Nat,Lib.indexByte l 46=k:=⟨(Lib.indexByte l 46).toNat,by omega⟩;rw[hk]at h ih;have e:i=((k+1:Nat):Int):=by
     have:¬(k:Int)<0:=by omega
     simp[this]at h;omega
    subst e;refine⟨λh=>by omega,λ_=>?_⟩;rw[eI,aR hc,ih.2 (by omega)];simp
end Go.G
open Go.RowKit Go.Shelf
namespace Go.Proofs.YtelooagbkmpdpaaGreatDoor
open Go.AI Go.G
attribute [local go_sem] Oper.semAt_some
theorem Dz {σ σ':Names}{I I':Nat->Prop}{w w':World}{nm:Nat}{m':Mem}(hp:cB σ I w (aP []) nm σ' I' w' m'):Below w.heap.size w w':=
 ⟨hp.os,hp.tape,hp.output.eq,hp.size,λk hk=>hp.frame k hk (by rintro⟨b,_,_,hb,_⟩;simp[aP]at hb)⟩
theorem KN (s:cE)(w:World):Calls Tryz.prog 169 #[.string s] w λe w'=>e=.returned (.bool (cP s))/\Below w.heap.size w w'/\w.drawn<=w'.drawn:=by
 refine(wR s (λ_=>none) (λn=>n<w.heap.size) w [.string s] (λ_ h=>h) rfl (λi c x h1 h2=>?_) ⟨λb k hb=>by simp[aP]at hb,λb b' k k' x x' n hb=>by simp[aP]at hb⟩ (λ_ _=>rfl)).mono ?_
 ·match i with
  |0=>simp at h1 h2;subst h1;subst h2;exact .d (.v _)
  |i+1=>simp at h1
 ·rintro e w' ⟨v,σ',I',rfl,hp,hv⟩;cases hv with
  |d hd=>cases hd with
   |v=>exact⟨rfl,Dz hp,hp.output.drawn⟩
def DZ (H:Nat)(W:World):Nat:=match W.cell? ⟨H+1,0,none⟩with
 |some (.string s)=>s.size
 |_=>0
theorem KE {w W:World}{rest:cE}{r:Loop}(h:fE w rest r W):DZ w.heap.size W=rest.size:=by
 simp[DZ,(nL h.b1).1]
def O7 (w:World)(rest:cE)(r:Loop)(x:cE)(e:Ending)(W':World):Prop:=(e=.returned (.bool true)/\cP x=true/\fE w rest r W')\/(e=.returned (.bool false)/\cP x=false/\∃q:Loop,q.state=.done/\q.pending=some .ret/\fE w rest q W')
abbrev He (w:World)(r:Loop)(t:Bool)(W:World):Prop:=(t=true/\∃rest,fE w rest r W)\/(t=false/\∃rest,∃q:Loop,q.state=.done/\q.pending=some .ret/\fE w rest q W)
set_option maxRecDepth 100000 in
set_option maxHeartbeats 2000000 in
theorem W5 (m:Nat)(hm:1<=m)(w:World)(s:cE)(r:Loop)(hs:(bs s).length<=40)
  (hY:∀W rest x,fE w rest r W->YieldAt Fence.wide (m-1) Tryz.prog (w.heap.size+5) #[.string x] W (O7 w rest r x))
  (W:World) (h:fE w s r W):
  CallsIn Fence.wide m Tryz.prog 286 #[.func (.yield (w.heap.size+5)) #[] #[],.pointer (some ⟨w.heap.size+2,0,none⟩),.pointer (some ⟨w.heap.size+1,0,none⟩),.pointer (some ⟨w.heap.size+3,0,none⟩)] W λe W'=>(∃v,e=.returned v)/\He w r (eI [] (bs s)) W':=by
 refine callsIn_of_wp Tryz.func286 rfl trivial ?_ rfl;simp only[Tryz.ntmps286,vU,jL,j6,Nat.reduceAdd,Nat.reduceSub,Array.replicate_succ,Array.replicate_zero,List.push_toArray,List.append_toArray,uI,yK];have c2:=(nL h.b2).1
 gi_wp2
 gi_loopw [7] (λ_ wr=>∃rest,fE w rest r wr/\eI [] (bs rest)=eI [] (bs s)/\(bs rest).length<=40) (λ_ wr=>DZ w.heap.size wr)
 case atStart=>exact⟨s,h,rfl,hs⟩
 case round=>
  obtain⟨rest,hr,hg,hl⟩:=hrel;clear c2;have d1:=(nL hr.b1).1;have d2:=(nL hr.b2).1;have d3:=(nL hr.b3).1;have hsp:=KK (bs rest) [] _ rfl;have hge:=Lib.indexByte_ge (bs rest) 46;have hsz:=iX rest;unfold bs at hsp hge;by_cases hi:Lib.indexByte rest.data.toList 46<0
  ·obtain⟨f1,t1,a1,b1,hy1,hR1⟩:=hY wr rest rest hr
   gi_wp2_with (refine⟨trivial,?_⟩;gi_at_call 288;refine(sK.2 (Tryz.strings_Index_one rest 46 _)).mono ?_;rintro e w' ⟨rfl,rfl⟩)
   refine hR1.mono ?_;have e1:eI [] (bs s)=cP rest:=by rw[<-hg];exact hsp.1 hi
   rintro e W3 (⟨rfl,hn,h3⟩|⟨rfl,hn,q,hq1,hq2,hq⟩)
   ·gi_wp2
    go_end0
    exact⟨⟨_,rfl⟩,.inl ⟨e1.trans hn,rest,h3⟩⟩
   ·gi_wp2
    go_end0
    exact⟨⟨_,rfl⟩,.inr ⟨e1.trans hn,rest,q,hq1,hq2,hq⟩⟩
  ·obtain⟨k,hk⟩:∃k:Nat,Lib.indexByte rest.data.toList 46=k:=⟨(Lib.indexByte rest.data.toList 46).toNat,by omega⟩;have hkl:k<rest.size:=by
    rw[hsz];exact(cJ.1 (Lib.indexByte_some hk).1).1
   have hidx:∀(j:Nat) (w:World),CallsIn Fence.wide j Tryz.prog 288 #[.string rest,.string ⟨#[46]⟩] w λe w'=>e=.returned (.int .i64 k)/\w'=w:=by
    intro j w;rw[<-hk];exact sK.2 (Tryz.strings_Index_one rest 46 _)
   have H1:=hsp.2 (by omega);rw[hk]at H1;have H2:eI [] (bs s)=(cP (rest.extract 0 k)&&eI [] (bs (rest.extract (k+1) rest.size))):=by
    rw[<-hg];refine H1.trans ?_;rw[rG,cP,rG,hsz,bK];simp[bs]
   have H3:(bs (rest.extract (k+1) rest.size)).length<=40:=by rw[rG,hsz,bK,vX];omega
   have H4:(rest.extract (k+1) rest.size).size<rest.size:=by simp;omega
   have H5:rest.size<=40:=by omega
   clear H1 hsp hge hsz hk hi;obtain⟨f1,t1,a1,b1,hy1,hR1⟩:=hY wr rest (rest.extract 0 k) hr
   gi_wp2_with (refine⟨trivial,?_⟩;gi_at_call 288;refine(hidx _ _).mono ?_;rintro e w' ⟨rfl,rfl⟩)
   refine hR1.mono ?_;clear d1 d2 d3;rintro e W3 (⟨rfl,hn,h3⟩|⟨rfl,hn,q,hq1,hq2,hq⟩)
   ·obtain⟨d1,d4⟩:=nL h3.b1;have d2:=(nL h3.b2).1
    gi_wp2
    go_roundw
    case rel=>exact⟨rest.extract (k+1) rest.size,h3.HM _,by rw[H2,hn];rfl,H3⟩
    case measure=>rw[KE (h3.HM _),KE hr];exact H4
   ·gi_wp2
    refine bodyPost_ret (results_none rfl _ _ _) rfl ?_;exact⟨⟨_,rfl⟩,.inr ⟨by rw[H2,hn];rfl,rest,q,hq1,hq2,hq⟩⟩
set_option maxRecDepth 100000 in
set_option maxHeartbeats 2000000 in
theorem XE (s:cE)(hs:(bs s).length<=40)(w:World):Calls Tryz.prog 271 #[.string s] w λe w'=>e=.returned (.bool (eI [] (bs s)))/\Below w.heap.size w w'/\w.drawn<=w'.drawn:=by
 refine(sK (n:=4)).1 ?_;refine callsIn_of_wp_marks Tryz.func271 rfl trivial ?_ rfl;simp only[Tryz.ntmps271,vU,jL,j6,Nat.reduceAdd,Nat.reduceSub,Array.replicate_succ,Array.replicate_zero,List.push_toArray,List.append_toArray,uI,yK]
 gi_wp2_with (refine⟨trivial,?_⟩;gi_at_call 280;refine(sK.2 (Gy _ _ _)).mono ?_;rintro e w' ⟨rfl,rfl⟩)
 obtain⟨W0,hW0⟩:∃W0,(((w.alloc (.cells #[.bool false] 4)).alloc (.cells #[.string s] 9)).alloc (.cells #[.string ⟨#[46]⟩] 9)).alloc (.cells #[.int .i64 0] 3)=W0:=⟨_,rfl⟩;have hs0:W0.heap.size=w.heap.size+4:=by rw[<-hW0];simp
 have k0:W0.heap[w.heap.size]? =some (.cells #[.bool false] 4 (0,0)):=by
  rw[<-hW0];exact(((Below.heap_alloc _ _ _ (by simp;omega)).trans (Below.heap_alloc _ _ _ (by simp;omega))).trans (Below.heap_alloc _ _ _ (by simp))).trans (World.alloc_heap_new w _)
 have k1:W0.heap[w.heap.size+1]? =some (.cells #[.string s] 9 (0,0)):=by
  rw[<-hW0];refine((Below.heap_alloc _ _ _ (by simp)).trans (Below.heap_alloc _ _ _ (by simp))).trans ?_;have:=World.alloc_heap_new (w.alloc (.cells #[.bool false] 4)) (.cells #[.string s] 9);rwa[uE]at this
 have k2:W0.heap[w.heap.size+2]? =some (.cells #[.string ⟨#[46]⟩] 9 (0,0)):=by
  rw[<-hW0];refine(Below.heap_alloc _ _ _ (by simp)).trans ?_;have:=World.alloc_heap_new ((w.alloc (.cells #[.bool false] 4)).alloc (.cells #[.string s] 9)) (.cells #[.string ⟨#[46]⟩] 9);rwa[uE,uE]at this
 have k3:W0.heap[w.heap.size+3]? =some (.cells #[.int .i64 0] 3 (0,0)):=by
  rw[<-hW0];have:=World.alloc_heap_new (((w.alloc (.cells #[.bool false] 4)).alloc (.cells #[.string s] 9)).alloc (.cells #[.string ⟨#[46]⟩] 9)) (.cells #[.int .i64 0] 3);rwa[uE,uE,uE]at this
 have kb:Below w.heap.size w W0:=by
  rw[<-hW0];exact((((Below.refl _ w).alloc (aY _) _).alloc (by simp) _).alloc (by simp;omega) _).alloc (by simp;omega) _
 have kd:w.drawn<=W0.drawn:=by rw[<-hW0];exact aY _
 rw[hW0];clear hW0;refine II rfl (by omega) rfl trivial (enters_of Tryz.func286 (by kernel_rfl) rfl) ?_;rintro fn hfn r hr;rw[hs0]at hr⊢;have k5:((W0.alloc (.deferred (some []))).alloc (.loop r)).heap[w.heap.size+5]? =some (.loop r):=by
  have:=World.alloc_heap_new (W0.alloc (.deferred (some []))) (.loop r);rwa[uE,hs0]at this
 have hold:∀k,k<w.heap.size+4->((W0.alloc (.deferred (some []))).alloc (.loop r)).heap[k]? =W0.heap[k]? :=λk hk=>
  (Below.heap_alloc _ _ k (by simp;omega)).trans (Below.heap_alloc _ _ k (by omega))
 have k4:((W0.alloc (.deferred (some []))).alloc (.loop r)).heap[w.heap.size+4]? =some (.deferred (some [])):=by
  refine(Below.heap_alloc _ _ _ (by simp;omega)).trans ?_;have:=World.alloc_heap_new W0 (.deferred (some []));rwa[hs0]at this
 have hN:fE w s r ((W0.alloc (.deferred (some []))).alloc (.loop r)):=
  ⟨(hold _ (by omega)).trans k0,(hold _ (by omega)).trans k1,(hold _ (by omega)).trans k2,(hold _ (by omega)).trans k3,k4,k5,(kb.alloc (by omega) _).alloc (by simp;omega) _,kd⟩
 have hY:∀W rest x,fE w rest r W->YieldAt Fence.wide (4-1-1) Tryz.prog (w.heap.size+5) #[.string x] W (O7 w rest r x):=by
  intro W rest x h;have hp:=h.put {r with state:=.busy};refine TL h.b5 (by rw[hr]) (by rw[hr];rfl) trivial {tmps:=#[.string s,undef,.pointer (some ⟨w.heap.size,0,none⟩),.string x,.string s,.func (.func 286) #[] #[.pointer (some ⟨w.heap.size+1+1,0,none⟩),.pointer (some ⟨w.heap.size+1,0,none⟩),.pointer (some ⟨w.heap.size+1+2,0,none⟩)],.string x,undef,undef,undef],defers:=[]} W h.b5 ?_ ?_
  ·intro K hK;rw[hr]
   gi_wp2
   exact hK
  ·generalize hWb:W.putObj (w.heap.size+5) (.loop {r with state:=.busy})=Wb at hp;have hbd:=cI Loop.body hr;have hrr:∀W3,fE w rest {r with state:=.busy} W3->fE w rest r (W3.putObj (w.heap.size+5) (.loop {{r with state:=.busy}with state:=if(none:Option Code).isNone then .ready else .done,pending:=none})):=λW3 h3=>by
    have:=h3.put r;rw[hr]at this⊢;exact this
   dsimp only at hbd;rw[hbd];clear hbd hr hs0 k0 k1 k2 k3 k4 k5 kb hold hN hWb h;cases hv:cP x with
   |true=>
    have hc:∀(j:Nat) (W:World),CallsIn (Fence.wide.inRound (w.heap.size+5)) j Tryz.prog 169 #[.string x] W λe w'=>e=.returned (.bool true)/\Below W.heap.size W w'/\W.drawn<=w'.drawn:=λj W=>by
     rw[<-hv];exact CallsIn.inRound _ (sK.2 (KN x W))
    gi_wp2_with (refine⟨trivial,?_⟩;gi_at_call 169;refine(hc _ _).mono ?_;rintro e w' ⟨rfl,hB,hD⟩)
    exact⟨none,rfl,_,(hp.grow hB hD).b5,.inl ⟨rfl,hv,hrr _ (hp.grow hB hD)⟩⟩
   |false=>
    have hc:∀(j:Nat) (W:World),CallsIn (Fence.wide.inRound (w.heap.size+5)) j Tryz.prog 169 #[.string x] W λe w'=>e=.returned (.bool false)/\Below W.heap.size W w'/\W.drawn<=w'.drawn:=λj W=>by
     rw[<-hv];exact CallsIn.inRound _ (sK.2 (KN x W))
    have hc2:∀(j:Nat),CallsIn (Fence.wide.inRound (w.heap.size+5)) j Tryz.prog 169 #[.string x] Wb λe w'=>e=.returned (.bool false)/\fE w rest {r with state:=.busy} w'/\w'.cell? ⟨w.heap.size,0,none⟩=some (.bool false)/\w'.frozen? ⟨w.heap.size,0,none⟩=false:=λj=>
     (hc j Wb).mono λe w' ⟨h1,hB,hD⟩=>⟨h1,hp.grow hB hD,(nL (hp.grow hB hD).b0).1,(nL (hp.grow hB hD).b0).2⟩
    gi_wp2_with (refine⟨trivial,?_⟩;gi_at_call 169;refine(hc2 _).mono ?_;rintro e w' ⟨rfl,hB,hB2,hB3⟩)
    exact⟨some .ret,rfl,_,hB.HN.b5,.inr ⟨rfl,hv,_,rfl,rfl,hB.HN.put _⟩⟩
 refine(W5 3 (by omega) w s r hs hY _ hN).mono ?_;clear hY hN hold k0 k1 k2 k3 k4 k5 kb;rintro e W2 ⟨hv,hO⟩;refine⟨hv,?_⟩;have hend:∀(W3:World) (q:Loop) (rest:cE),fE w rest q W3->∀t:Bool,(Below w.heap.size w ((W3.setCell ⟨w.heap.size,0,none⟩ (.bool t)).putObj (w.heap.size+4) (.deferred none))/\w.drawn<=((W3.setCell ⟨w.heap.size,0,none⟩ (.bool t)).putObj (w.heap.size+4) (.deferred none)).drawn)/\((W3.setCell ⟨w.heap.size,0,none⟩ (.bool t)).putObj (w.heap.size+4) (.deferred none)).cell? ⟨w.heap.size,0,none⟩=some (.bool t)/\(W3.setCell ⟨w.heap.size,0,none⟩ (.bool t)).heap[w.heap.size+4]? =some (.deferred (some [])):=λW3 q rest h t=>
  ⟨⟨Below.put (h.below.setCell (p:=⟨w.heap.size,0,none⟩) (by simp) _) _ (by omega),h.dr⟩,(World.cell?_of_block (World.putObj_heap_other (by show w.heap.size≠_;omega))).trans (nL (BV h.b0 _)).1,(oD _ (by omega)).trans h.b4⟩
 rcases hO with⟨ht,rest,h⟩|⟨ht,rest,q,q1,q2,h⟩
 ·refine⟨r,h.b5,by rw[hr];simp,?_⟩;rw[show r.pending=none by rw[hr]];have hp:fE w rest {r with state:=.exhausted,pending:=none} (W2.putObj (w.heap.size+4+1) (.loop {r with state:=.exhausted,pending:=none})):=h.put _;generalize W2.putObj (w.heap.size+4+1) _=W3 at hp⊢;obtain⟨e1,e2⟩:=nL hp.b0;obtain⟨f1,f2,f3⟩:=hend W3 _ rest hp true;clear hp h hr hs0 hend
  gi_wp2
  refine⟨by simp,.inl ⟨_,_,rfl,run_takeDeferred f3,?_⟩⟩;exact⟨_,by simp[results,Tryz.f271,go_sem,f2];rfl,by rw[ht],f1⟩
 ·refine⟨q,h.b5,by rw[q1];simp,?_⟩;rw[q2];have hp:fE w rest {q with state:=.exhausted,pending:=some .ret} (W2.putObj (w.heap.size+4+1) (.loop {q with state:=.exhausted,pending:=some .ret})):=h.put _;generalize W2.putObj (w.heap.size+4+1) _=W3 at hp⊢;have f1:Below w.heap.size w (W3.putObj (w.heap.size+4) (.deferred none))/\w.drawn<=(W3.putObj (w.heap.size+4) (.deferred none)).drawn:=⟨Below.put hp.below (.deferred none) (l:=w.heap.size+4) (by omega),hp.dr⟩;have f2:(W3.putObj (w.heap.size+4) (.deferred none)).cell? ⟨w.heap.size,0,none⟩=some (.bool false):=(World.cell?_of_block (World.putObj_heap_other (by show w.heap.size≠_;omega))).trans (nL hp.b0).1;have f3:=hp.b4;clear hp h hr hs0 hend
  gi_wp2
  refine⟨by simp,.inl ⟨_,_,rfl,run_takeDeferred f3,?_⟩⟩;exact⟨_,by simp[results,Tryz.f271,go_sem,f2];rfl,by rw[ht],f1⟩
theorem XD (s:cE)(hl:(bs s).length<=40):Ct Tryz.prog 271 [str s] [] [] (bool (eI [] (bs s))) []:=Ct.grow (xs:=[.string s]) (λw=>XE s hl w)
end Go.Proofs.YtelooagbkmpdpaaGreatDoor
end
namespace Go.Proofs.YtelooagbkmpdpaaGreatDoor
open Go.AI Go.G
attribute [simp] Tryz.ntmps252 Tryz.results252
theorem ZG (s:cE):Ct Tryz.prog 252 [str s] [] [] (bool (kF s)) []:=by
 refine Ct.B Tryz.func252 ?_;simp;have hsz:=iX s;refine aM (λh1=>?_) (λh1=>?_)<;>simp only[h1]<;>simp[hsz]
 ·have hz:(bs s).length<=40:=by have:=jI h1;omega
  refine aM (λh2=>?_) (λh2=>?_)<;>simp only[h2]<;>simp
  ·have e:bs s=[42]:=by rw[jI h2];rfl
   first|exact aA (by simp[kF,e]) rfl|exact aB (by simp[kF,e])
  have e:¬bs s=[42]:=by
   intro e;exact kY h2 (xW e)
  refine CI.p (P7 s ⟨#[42,46]⟩) ?_;simp;have e2:bs (qI s ⟨#[42,46]⟩)=if lT (bs s)then(bs s).drop 2 else bs s:=by
   unfold qI lT;rw[show bs ⟨#[42,46]⟩=[42,46]from rfl];simp only[jL,j6];split
   ·rw[rG,hsz,bK]
   ·rfl
  refine CI.p (XD (qI s ⟨#[42,46]⟩) (by rw[e2];split;rw[vX];omega;exact hz)) ?_;simp;rw[e2];first|exact aA (by simp[<-L3,AZ,hz,e]) rfl|exact aB (by simp[<-L3,AZ,hz,e])
 ·have hz:¬((bs s).length<=40):=by have:=kY h1;omega
  first|exact aA (by simp[kF,hz]) rfl|exact aB (by simp[kF,hz])
attribute [simp] Tryz.ntmps250 Tryz.results250
theorem Y6 (l:List Weight)(kf:D)(p:Weight->Bool)(hf:∀x∈l,bP Tryz.prog (.d kf) [st (wC x)] (bool (p x)))(hl:l.length<=9223372036854775807):Ct Tryz.prog 250 [aD (l.map wC),.d kf] [] [] (int (fC p l)) []:=by
 refine Ct.B Tryz.func250 ?_;simp;refine aJ.inv mixed rfl (ι:={k:Nat//k<=(l).length/\(l.take k).all (λx=>!p x)=true}) (λk=>[(0,aD (l.map wC)),(1,.d kf),(7,int l.length),(8,int k.1)]) (λk=>[]) 64 (λk=>(l).length-k.1) ⟨0,by omega,by simp⟩ [] (by constructor<;>simp) ?_;rintro⟨k,hk1,hi⟩ B hB;refine CI.n ?_;simp;refine aE (λh=>?_) (λh=>?_)
 ·have hk:k<(l).length:=by simpa using h
  obtain⟨r,hx,hr,hm,ht,hd,hw⟩:=bB hk;simp only[h];simp[hr,hw];refine CI.ff (hf r hm) rfl rfl rfl ?_;simp;refine aE (λhp=>?_) (λhp=>?_)<;>simp only[hp]<;>simp
  ·first|exact aA (by simp[l7 hi hr hp]) rfl|exact aB (by simp[l7 hi hr hp])
  ·refine hB _ ⟨k+1,by omega,by simp[ht,hi,hp]⟩ [] ?_ (by simp;omega);constructor<;>simp[hw,ht,hp]
 ·obtain rfl:k=(l).length:=by simp at h;omega
  simp only[h];simp;rw[bK]at hi;first|exact aA (by simp[l6 (λx hx=>by have:=cS.1 hi x hx;simpa using this)]) rfl|exact aB (by simp[l6 (λx hx=>by have:=cS.1 hi x hx;simpa using this)])
attribute [simp] Tryz.ntmps220 Tryz.results220
theorem F6 (l:List Weight)(kf:D)(p:Weight->Bool)(hf:∀x∈l,bP Tryz.prog (.d kf) [st (wC x)] (bool (p x)))(hl:l.length<=9223372036854775807):Ct Tryz.prog 220 [aD (l.map wC),.d kf] [] [] (bool (l.any p)) []:=by
 refine Ct.B Tryz.func220 ?_;simp;refine CI.p (Y6 l kf p hf hl) ?_;simp;rw[tH];first|exact aA (by simp) rfl|exact aB (by simp)
attribute [simp] Tryz.ntmps251 Tryz.results251
theorem Y7 (l:List gF)(kf:D)(p:gF->Bool)(hf:∀x∈l,bP Tryz.prog (.d kf) [st (dZ x)] (bool (p x)))(hl:l.length<=9223372036854775807):Ct Tryz.prog 251 [aD (l.map dZ),.d kf] [] [] (int (fC p l)) []:=by
 refine Ct.B Tryz.func251 ?_;simp;refine aJ.inv mixed rfl (ι:={k:Nat//k<=(l).length/\(l.take k).all (λx=>!p x)=true}) (λk=>[(0,aD (l.map dZ)),(1,.d kf),(7,int l.length),(8,int k.1)]) (λk=>[]) 64 (λk=>(l).length-k.1) ⟨0,by omega,by simp⟩ [] (by constructor<;>simp) ?_;rintro⟨k,hk1,hi⟩ B hB;refine CI.n ?_;simp;refine aE (λh=>?_) (λh=>?_)
 ·have hk:k<(l).length:=by simpa using h
  obtain⟨r,hx,hr,hm,ht,hd,hw⟩:=bB hk;simp only[h];simp[hr,hw];refine CI.ff (hf r hm) rfl rfl rfl ?_;simp;refine aE (λhp=>?_) (λhp=>?_)<;>simp only[hp]<;>simp
  ·first|exact aA (by simp[l7 hi hr hp]) rfl|exact aB (by simp[l7 hi hr hp])
  ·refine hB _ ⟨k+1,by omega,by simp[ht,hi,hp]⟩ [] ?_ (by simp;omega);constructor<;>simp[hw,ht,hp]
 ·obtain rfl:k=(l).length:=by simp at h;omega
  simp only[h];simp;rw[bK]at hi;first|exact aA (by simp[l6 (λx hx=>by have:=cS.1 hi x hx;simpa using this)]) rfl|exact aB (by simp[l6 (λx hx=>by have:=cS.1 hi x hx;simpa using this)])
attribute [simp] Tryz.ntmps224 Tryz.results224
theorem F7 (l:List gF)(kf:D)(p:gF->Bool)(hf:∀x∈l,bP Tryz.prog (.d kf) [st (dZ x)] (bool (p x)))(hl:l.length<=9223372036854775807):Ct Tryz.prog 224 [aD (l.map dZ),.d kf] [] [] (bool (l.any p)) []:=by
 refine Ct.B Tryz.func224 ?_;simp;refine CI.p (Y7 l kf p hf hl) ?_;simp;rw[tH];first|exact aA (by simp) rfl|exact aB (by simp)
attribute [simp] Tryz.ntmps174 Tryz.results174
theorem EY (l:List aC)(kf:D)(p:aC->Bool)(hf:∀x∈l,bP Tryz.prog (.d kf) [st (aF x)] (bool (p x)))(hl:l.length<=9223372036854775807):Ct Tryz.prog 174 [aD (l.map aF),.d kf] [] [] (int (fC p l)) []:=by
 refine Ct.B Tryz.func174 ?_;simp;refine aJ.inv mixed rfl (ι:={k:Nat//k<=(l).length/\(l.take k).all (λx=>!p x)=true}) (λk=>[(0,aD (l.map aF)),(1,.d kf),(7,int l.length),(8,int k.1)]) (λk=>[]) 64 (λk=>(l).length-k.1) ⟨0,by omega,by simp⟩ [] (by constructor<;>simp) ?_;rintro⟨k,hk1,hi⟩ B hB;refine CI.n ?_;simp;refine aE (λh=>?_) (λh=>?_)
 ·have hk:k<(l).length:=by simpa using h
  obtain⟨r,hx,hr,hm,ht,hd,hw⟩:=bB hk;simp only[h];simp[hr,hw];refine CI.ff (hf r hm) rfl rfl rfl ?_;simp;refine aE (λhp=>?_) (λhp=>?_)<;>simp only[hp]<;>simp
  ·first|exact aA (by simp[l7 hi hr hp]) rfl|exact aB (by simp[l7 hi hr hp])
  ·refine hB _ ⟨k+1,by omega,by simp[ht,hi,hp]⟩ [] ?_ (by simp;omega);constructor<;>simp[hw,ht,hp]
 ·obtain rfl:k=(l).length:=by simp at h;omega
  simp only[h];simp;rw[bK]at hi;first|exact aA (by simp[l6 (λx hx=>by have:=cS.1 hi x hx;simpa using this)]) rfl|exact aB (by simp[l6 (λx hx=>by have:=cS.1 hi x hx;simpa using this)])
attribute [simp] Tryz.ntmps123 Tryz.results123
theorem OK (l:List aC)(kf:D)(p:aC->Bool)(hf:∀x∈l,bP Tryz.prog (.d kf) [st (aF x)] (bool (p x)))(hl:l.length<=9223372036854775807):Ct Tryz.prog 123 [aD (l.map aF),.d kf] [] [] (bool (l.any p)) []:=by
 refine Ct.B Tryz.func123 ?_;simp;refine CI.p (EY l kf p hf hl) ?_;simp;rw[tH];first|exact aA (by simp) rfl|exact aB (by simp)
attribute [simp] Tryz.ntmps166 Tryz.results166
theorem Y9 (l:List Key)(kf:D)(p:Key->Bool)(hf:∀x∈l,bP Tryz.prog (.d kf) [st (aK x)] (bool (p x)))(hl:l.length<=9223372036854775807):Ct Tryz.prog 166 [aD (l.map aK),.d kf] [] [] (int (fC p l)) []:=by
 refine Ct.B Tryz.func166 ?_;simp;refine aJ.inv mixed rfl (ι:={k:Nat//k<=(l).length/\(l.take k).all (λx=>!p x)=true}) (λk=>[(0,aD (l.map aK)),(1,.d kf),(7,int l.length),(8,int k.1)]) (λk=>[]) 64 (λk=>(l).length-k.1) ⟨0,by omega,by simp⟩ [] (by constructor<;>simp) ?_;rintro⟨k,hk1,hi⟩ B hB;refine CI.n ?_;simp;refine aE (λh=>?_) (λh=>?_)
 ·have hk:k<(l).length:=by simpa using h
  obtain⟨r,hx,hr,hm,ht,hd,hw⟩:=bB hk;simp only[h];simp[hr,hw];refine CI.ff (hf r hm) rfl rfl rfl ?_;simp;refine aE (λhp=>?_) (λhp=>?_)<;>simp only[hp]<;>simp
  ·first|exact aA (by simp[l7 hi hr hp]) rfl|exact aB (by simp[l7 hi hr hp])
  ·refine hB _ ⟨k+1,by omega,by simp[ht,hi,hp]⟩ [] ?_ (by simp;omega);constructor<;>simp[hw,ht,hp]
 ·obtain rfl:k=(l).length:=by simp at h;omega
  simp only[h];simp;rw[bK]at hi;first|exact aA (by simp[l6 (λx hx=>by have:=cS.1 hi x hx;simpa using this)]) rfl|exact aB (by simp[l6 (λx hx=>by have:=cS.1 hi x hx;simpa using this)])
attribute [simp] Tryz.ntmps119 Tryz.results119
theorem B5 (l:List Key)(kf:D)(p:Key->Bool)(hf:∀x∈l,bP Tryz.prog (.d kf) [st (aK x)] (bool (p x)))(hl:l.length<=9223372036854775807):Ct Tryz.prog 119 [aD (l.map aK),.d kf] [] [] (bool (l.any p)) []:=by
 refine Ct.B Tryz.func119 ?_;simp;refine CI.p (Y9 l kf p hf hl) ?_;simp;rw[tH];first|exact aA (by simp) rfl|exact aB (by simp)
attribute [simp] Tryz.ntmps168 Tryz.results168
theorem within (n m:Int):Ct Tryz.prog 168 [int n,int m] [] [] (bool (aV n m)) []:=by
 refine Ct.B Tryz.func168 ?_;simp
 repeat' first
  | (refine aM (λh=>?_) (λh=>?_)<;>simp only[h]<;>simp[h])
  | (refine aE (λh=>?_) (λh=>?_)<;>simp only[h]<;>simp[h])
  | (refine⟨(show gH _ _ from by decide+kernel),?_⟩)
  |fail
 all_goals exact aA (by simp[*,aV]) rfl
attribute [simp] Tryz.ntmps221 Tryz.results221
theorem RI (w:Weight):Ct Tryz.prog 221 [st (wC w)] [] [] (bool (!aV w.w 100)) []:=by
 refine Ct.B Tryz.func221 ?_;simp;refine CI.p (within w.w 100) ?_;simp;first|exact aA (by simp) rfl|exact aB (by simp)
attribute [simp] Tryz.ntmps170 Tryz.results170
theorem RG (r:aC):Ct Tryz.prog 170 [st (aF r)] [] [] (bool (cT r)) []:=by
 refine Ct.B Tryz.func170 ?_;simp;refine CI.p (within r.bZ 2147483647) ?_;simp;refine aM (λh1=>?_) (λh1=>?_)<;>simp only[h1]<;>simp<;>(try simp only[nT,nF,dT,dF]at h1)
 ·first|exact aA (by simp[cT,h1]) rfl|exact aB (by simp[cT,h1])
 refine CI.p (within r.port 65535) ?_;simp;refine aM (λh2=>?_) (λh2=>?_)<;>simp only[h2]<;>simp<;>(try simp only[nT,nF,dT,dF]at h2)
 ·first|exact aA (by simp[cT,h2]) rfl|exact aB (by simp[cT,h2])
 refine aM (λh3=>?_) (λh3=>?_)<;>simp only[h3]<;>simp<;>(try simp only[nT,nF,dT,dF]at h3)
 ·have hz:¬r.rules.length<=8:=by omega
  first|exact aA (by simp[cT,hz]) rfl|exact aB (by simp[cT,hz])
 refine aE (λh4=>?_) (λh4=>?_)<;>simp only[h4]<;>simp<;>(try simp only[nT,nF,dT,dF]at h4)
 ·have hz:¬r.bE.length<=8:=by omega
  first|exact aA (by simp[cT,hz]) rfl|exact aB (by simp[cT,hz])
 have hz3:r.rules.length<=8:=by omega
 have hz4:r.bE.length<=8:=by omega
 refine aJ.inv mixed rfl (ι:={k:Nat//k<=(r.bE).length/\(r.bE.take k).all (λh=>aV h 2147483647)=true}) (λk=>[(1,.ptr 64 0),(30,aD (r.bE.map kR)),(31,int r.bE.length),(32,int k.1)]) (λk=>[(64,.cells ((aF r).map .d) 82)]) 65 (λk=>(r.bE).length-k.1) ⟨0,by omega,by simp⟩ [] (by constructor<;>simp) ?_;rintro⟨k,hk1,hi⟩ B hB;refine CI.n ?_;simp;refine aE (λh=>?_) (λh=>?_)
 ·have hk:k<(r.bE).length:=by simpa using h
  obtain⟨y,hx,hr,hm,ht,hd,hw⟩:=bB hk;simp only[h];simp[hr,hw];refine CI.p (within y 2147483647) ?_;simp;refine aE (λh5=>?_) (λh5=>?_)<;>simp only[h5]<;>simp<;>(try simp only[nT,nF,dT,dF]at h5)
  ·have e:r.bE.all (λh=>aV h 2147483647)=false:=by
    rw[gY];exact⟨y,hm,by simp[h5]⟩
   first|exact aA (by simp[cT,e]) rfl|exact aB (by simp[cT,e])
  ·refine hB _ ⟨k+1,by omega,by simp[ht,hi,h5]⟩ [] ?_ (by simp;omega);constructor<;>simp[hw,ht,h5]
 ·obtain rfl:k=(r.bE).length:=by simp at h;omega
  simp only[h];simp;rw[bK]at hi;have hh:=hi;refine aJ.inv mixed rfl (ι:={k:Nat//k<=(r.rules).length/\(r.rules.take k).all iI=true}) (λk=>[(1,.ptr 64 0),(41,aD (r.rules.map dZ)),(42,int r.rules.length),(43,int k.1)]) (λk=>[(64,.cells ((aF r).map .d) 82)]) 65 (λk=>(r.rules).length-k.1) ⟨0,by omega,by simp⟩ [] (by constructor<;>simp) ?_;rintro⟨k,hk1,hi⟩ B hB;refine CI.n ?_;simp;refine aE (λh=>?_) (λh=>?_)
  ·have hk:k<(r.rules).length:=by simpa using h
   obtain⟨x,hx,hr,hm,ht,hd,hw⟩:=bB hk;simp only[h];simp[hr,hw];refine aM (λh6=>?_) (λh6=>?_)<;>simp only[h6]<;>simp<;>(try simp only[nT,nF,dT,dF]at h6)
   ·have hz:¬x.split.length<=4:=by omega
    have e:r.rules.all iI=false:=by
     rw[gY];exact⟨x,hm,by simp[iI,hz]⟩
    first|exact aA (by simp[cT,e]) rfl|exact aB (by simp[cT,e])
   have hz:x.split.length<=4:=by omega
   refine CI.p (F6 x.split (jY 221) (λw=>!aV w.w 100) (λw _=>bP.of (RI w) Tryz.call221 rfl rfl) (by omega)) ?_;simp;refine aE (λh7=>?_) (λh7=>?_)<;>simp only[h7]<;>simp<;>(try simp only[nT,nF,dT,dF]at h7)
   ·have e:r.rules.all iI=false:=by
     rw[gY];refine⟨x,hm,?_⟩;simp[iI,hz];simpa using h7
    first|exact aA (by simp[cT,e]) rfl|exact aB (by simp[cT,e])
   ·have e:iI x=true:=by
     simp[iI,hz];simpa using h7
    refine hB _ ⟨k+1,by omega,by simp[ht,hi,e]⟩ [] ?_ (by simp;omega);constructor<;>simp[hw,ht,e]
  ·obtain rfl:k=(r.rules).length:=by simp at h;omega
   simp only[h];simp;rw[bK]at hi;first|exact aA (by simp[cT,hi,hh,h1,h2,hz3,hz4]) rfl|exact aB (by simp[cT,hi,hh,h1,h2,hz3,hz4])
attribute [simp] Tryz.ntmps223 Tryz.results223
theorem KZ (k:Int):Ct Tryz.prog 223 [int k] [] [] (.agg [bool (e9 k),bool (eB k),bool (eJ k),bool (fA k)]) []:=by
 refine Ct.B Tryz.func223 ?_;simp
 repeat' first
  | (refine aM (λh=>?_) (λh=>?_)<;>simp only[h]<;>simp[h])
  | (refine aE (λh=>?_) (λh=>?_)<;>simp only[h]<;>simp[h])
  | (refine⟨(show gH _ _ from by decide+kernel),?_⟩)
  |fail
 all_goals exact aA (by simp[*,e9,eB,eJ,fA]) rfl
attribute [simp] Tryz.ntmps222 Tryz.results222
theorem Gc (a b c d x y z t:Bool):Ct Tryz.prog 222 [.agg [bool a,bool b,bool c,bool d],.agg [bool x,bool y,bool z,bool t]] [] [] (.agg [bool (a&&x),bool (b&&y),bool (c&&z),bool (d&&t)]) []:=by
 refine Ct.B Tryz.func222 ?_;simp;cases a<;>cases b<;>cases c<;>cases d<;>(simp[Tryz.ntmps127,Tryz.results127])<;>exact aA (by simp) rfl
attribute [simp] Tryz.ntmps171 Tryz.results171
theorem RN (r:aC):Ct Tryz.prog 171 [st (aF r)] [] [] (bool (dK r)) []:=by
 refine Ct.B Tryz.func171 ?_;simp;refine CI.p (KZ r.kind) ?_;simp;refine CI.p (Gc (!decide (r.port=0)) (!decide (r.to=⟨#[]⟩)) (decide (0<r.rules.length)) (decide (0<r.bE.length)) (e9 r.kind) (eB r.kind) (eJ r.kind) (fA r.kind)) ?_;simp;refine⟨by decide+kernel,?_⟩;have e1:decide (r.rules.length=0)= !decide (0<r.rules.length):=by cases r.rules<;>simp
 have e2:decide (r.bE.length=0)= !decide (0<r.bE.length):=by cases r.bE<;>simp
 have e3:decide (bs r.to=[])=decide (r.to=⟨#[]⟩):=by
  rw[pH,dO,dO,uP];rfl
 have e:dK r=((decide (r.port=0)||e9 r.kind)&&((decide (r.to=⟨#[]⟩)||eB r.kind)&&((!decide (0<r.rules.length)||eJ r.kind)&&(!decide (0<r.bE.length)||fA r.kind)))):=by
  rw[dK,e1,e2,e3,Bool.and_assoc,Bool.and_assoc]
 rw[e];first|exact aA (by simp) rfl|exact aB (by simp)
attribute [simp] Tryz.ntmps254 Tryz.results254
theorem TE (w:Weight):Ct Tryz.prog 254 [st (wC w)] [] [] (bool (!cP w.jF)) []:=by
 refine Ct.B Tryz.func254 ?_;simp;refine CI.p (wR w.jF) ?_;simp;first|exact aA (by simp) rfl|exact aB (by simp)
attribute [simp] Tryz.ntmps255 Tryz.results255
theorem PO (w:Weight):Ct Tryz.prog 255 [st (wC w)] [] [] (bool (decide (0<w.w))) []:=by
 refine Ct.B Tryz.func255 ?_;simp;first|exact aA (by simp) rfl|exact aB (by simp)
attribute [simp] Tryz.ntmps228 Tryz.results228
theorem PN (x:gF)(hl:x.split.length<=4):Ct Tryz.prog 228 [st (dZ x)] [] [] (bool (oM x)) []:=by
 refine Ct.B Tryz.func228 ?_;simp;refine CI.p (F6 x.split (jY 255) (λw=>decide (0<w.w)) (λw _=>bP.of (PO w) Tryz.call255 rfl rfl) (by omega)) ?_;simp;first|exact aA (by simp[oM]) rfl|exact aB (by simp[oM])
attribute [simp] Tryz.ntmps226 Tryz.results226
theorem TC (x:gF)(hl:x.split.length<=4):Ct Tryz.prog 226 [st (dZ x)] [] [] (bool (eG x)) []:=by
 refine Ct.B Tryz.func226 ?_;simp;refine CI.p (ZG x.host) ?_;simp;refine aM (λh1=>?_) (λh1=>?_)<;>simp only[h1]<;>simp<;>(try simp only[nT,nF,dT,dF]at h1)
 ·refine CI.p (U3 x.pre) ?_;simp;refine aM (λh2=>?_) (λh2=>?_)<;>simp only[h2]<;>simp<;>(try simp only[nT,nF,dT,dF]at h2)
  ·refine CI.p (F6 x.split (jY 254) (λw=>!cP w.jF) (λw _=>bP.of (TE w) Tryz.call254 rfl rfl) (by omega)) ?_;simp;first|exact aA (by simp[eG,h1,h2,yN]) rfl|exact aB (by simp[eG,h1,h2,yN])
  ·first|exact aA (by simp[eG,h1,h2]) rfl|exact aB (by simp[eG,h1,h2])
 ·first|exact aA (by simp[eG,h1]) rfl|exact aB (by simp[eG,h1])
attribute [simp] Tryz.ntmps225 Tryz.results225
theorem KM (x:gF)(hl:x.split.length<=4):Ct Tryz.prog 225 [st (dZ x)] [] [] (bool (!eG x)) []:=by
 refine Ct.B Tryz.func225 ?_;simp;refine CI.p (TC x hl) ?_;simp;first|exact aA (by simp) rfl|exact aB (by simp)
attribute [simp] Tryz.ntmps172 Tryz.results172
theorem XG (r:aC)(hl:r.rules.length<=8/\∀x∈r.rules,x.split.length<=4):Ct Tryz.prog 172 [st (aF r)] [] [] (bool (hZ r)) []:=by
 refine Ct.B Tryz.func172 ?_;simp;refine CI.p (KZ r.kind) ?_;simp;refine aM (λh1=>?_) (λh1=>?_)<;>simp only[h1]<;>simp<;>(try simp only[nT,nF,dT,dF]at h1)
 ·refine CI.p (wR r.to) ?_;simp;refine aE (λh2=>?_) (λh2=>?_)<;>simp only[h2]<;>simp<;>(try simp only[nT,nF,dT,dF]at h2)
  ·first|exact aA (by simp[hZ,h1,h2]) rfl|exact aB (by simp[hZ,h1,h2])
  refine CI.p (F7 r.rules (jY 225) (λx=>!eG x) (λx hx=>bP.of (KM x (hl.2 x hx)) Tryz.call225 rfl rfl) (by omega)) ?_;simp;first|exact aA (by simp[hZ,h1,h2,yN]) rfl|exact aB (by simp[hZ,h1,h2,yN])
 ·refine CI.p (F7 r.rules (jY 225) (λx=>!eG x) (λx hx=>bP.of (KM x (hl.2 x hx)) Tryz.call225 rfl rfl) (by omega)) ?_;simp;first|exact aA (by simp[hZ,h1,yN]) rfl|exact aB (by simp[hZ,h1,yN])
attribute [simp] Tryz.ntmps227 Tryz.results227
theorem RL (x y:gF):Ct Tryz.prog 227 [st (dZ y),.d (.aT (dZ x))] [] [] (bool (kO x y)) []:=by
 refine Ct.B Tryz.func227 ?_;simp;refine aM (λh1=>?_) (λh1=>?_)<;>simp only[h1]<;>simp<;>(try simp only[nT,nF,dT,dF]at h1)
 ·first|exact aA (by simp[kO,h1]) rfl|exact aB (by simp[kO,h1])
 ·first|exact aA (by simp[kO,h1]) rfl|exact aB (by simp[kO,h1])
attribute [simp] Tryz.ntmps256 Tryz.results256
theorem ZA (l:List Int)(v:Int)(hl:l.length<=9223372036854775807):Ct Tryz.prog 256 [aD (l.map kR),int v] [] [] (int (fC (λx=>decide (v=x)) l)) []:=by
 refine Ct.B Tryz.func256 ?_;simp;refine aJ.inv mixed rfl (ι:={k:Nat//k<=(l).length/\(l.take k).all (λx=>!decide (v=x))=true}) (λk=>[(0,aD (l.map kR)),(1,int v),(7,int l.length),(8,int k.1)]) (λk=>[]) 64 (λk=>(l).length-k.1) ⟨0,by omega,by simp⟩ [] (by constructor<;>simp) ?_;rintro⟨k,hk1,hi⟩ B hB;refine CI.n ?_;simp;refine aE (λh=>?_) (λh=>?_)
 ·have hk:k<(l).length:=by simpa using h
  obtain⟨r,hx,hr,hm,ht,hd,hw⟩:=bB hk;simp only[h];simp[hr,hw];refine aE (λhp=>?_) (λhp=>?_)<;>simp only[hp]<;>simp<;>(try simp only[nT,nF,dT,dF]at hp)
  ·first|exact aA (by simp[l7 (p:=λx=>decide (v=x)) hi hr (by simp[hp])]) rfl|exact aB (by simp[l7 (p:=λx=>decide (v=x)) hi hr (by simp[hp])])
  ·refine hB _ ⟨k+1,by omega,by simp[ht,hi,hp]⟩ [] ?_ (by simp;omega);constructor<;>simp[hw,ht,hp]
 ·obtain rfl:k=(l).length:=by simp at h;omega
  simp only[h];simp;rw[bK]at hi;first|exact aA (by simp[l6 (p:=λx=>decide (v=x)) (λx hx=>by have:=cS.1 hi x hx;simpa using this)]) rfl|exact aB (by simp[l6 (p:=λx=>decide (v=x)) (λx hx=>by have:=cS.1 hi x hx;simpa using this)])
attribute [simp] Tryz.ntmps229 Tryz.results229
theorem ZK (l:List Int)(v:Int)(hl:l.length<=9223372036854775807):Ct Tryz.prog 229 [aD (l.map kR),int v] [] [] (bool (l.any λx=>decide (v=x))) []:=by
 refine Ct.B Tryz.func229 ?_;simp;refine CI.p (ZA l v hl) ?_;simp;rw[tH];first|exact aA (by simp) rfl|exact aB (by simp)
attribute [simp] Tryz.ntmps173 Tryz.results173
theorem RJ (r:aC)(hl:r.rules.length<=8/\r.bE.length<=8/\∀x∈r.rules,x.split.length<=4):Ct Tryz.prog 173 [st (aF r)] [] [] (bool (fI r)) []:=by
 refine Ct.B Tryz.func173 ?_;simp;obtain⟨hl1,hl2,hl3⟩:=hl;refine aJ.inv mixed rfl (ι:={k:Nat//k<=(r.rules).length/\((r.rules.take k).all oM=true/\iE kO (r.rules.take k) (r.rules.drop k)=iE kO [] r.rules)}) (λk=>[(1,.ptr 64 0),(9,aD (r.rules.map dZ)),(10,int r.rules.length),(11,int k.1)]) (λk=>[(64,.cells ((aF r).map .d) 82)]) 65 (λk=>(r.rules).length-k.1) ⟨0,by omega,by simp⟩ [] (by constructor<;>simp) ?_;rintro⟨k,hk1,hi⟩ B hB;refine CI.run 5 400 rfl ?_;simp;refine aE (λh=>?_) (λh=>?_)
 ·have hk:k<(r.rules).length:=by simpa using h
  obtain⟨x,hx,hr,hm,ht,hd,hw⟩:=bB hk;simp only[h];simp[hr,hw];refine CI.s (tm:=[(1,.ptr 64 0),(9,aD (r.rules.map dZ)),(10,int r.rules.length),(11,int k),(3,int k),(4,.d (.aT (dZ x))),(5,.d (.fn (.func 227) [] [.aT (dZ x)]))]) (mm:=[(64,.cells ((aF r).map .d) 82)]) (nx:=65) [] [321] (by constructor<;>simp) ?_;obtain⟨hi1,hi2⟩:=hi;rw[hd,iE]at hi2;refine CI.n ?_;simp;refine CI.p (PN x (hl3 x hm)) ?_;simp;refine aM (λh1=>?_) (λh1=>?_)<;>simp only[h1]<;>simp<;>(try simp only[nT,nF,dT,dF]at h1)
  ·have e:r.rules.all oM=false:=by
    rw[gY];exact⟨x,hm,by simp[h1]⟩
   first|exact aA (by simp[fI,e]) rfl|exact aB (by simp[fI,e])
  refine⟨by omega,?_⟩;refine CI.p (F7 (r.rules.take k) (.fn (.func 227) [] [.aT (dZ x)]) (kO x) (λy _=>bP.j2 (RL x y) Tryz.call227 rfl rfl) (by simp;omega)) ?_;simp;refine aE (λh2=>?_) (λh2=>?_)<;>simp only[h2]<;>simp<;>(try simp only[nT,nF,dT,dF]at h2)
  ·have e:iE kO [] r.rules=false:=by rw[<-hi2,h2];rfl
   first|exact aA (by simp[fI,e]) rfl|exact aB (by simp[fI,e])
  ·refine hB _ ⟨k+1,by omega,by simp[ht,hi1,h1],by rw[ht,<-hi2,h2];rfl⟩ [] ?_ (by simp;omega);constructor<;>simp[hw]
 ·obtain rfl:k=(r.rules).length:=by simp at h;omega
  simp only[h];simp;rw[bK,sQ]at hi;obtain⟨hi1,hi2⟩:=hi;simp only[iE]at hi2;refine aJ.inv mixed rfl (ι:={k:Nat//k<=(r.bE).length/\(iE (λa b:Int=>decide (a=b)) (r.bE.take k) (r.bE.drop k)=iE (λa b=>decide (a=b)) [] r.bE)}) (λk=>[(1,.ptr 64 0),(30,aD (r.bE.map kR)),(31,int r.bE.length),(32,int k.1)]) (λk=>[(64,.cells ((aF r).map .d) 82)]) 65 (λk=>(r.bE).length-k.1) ⟨0,by omega,by simp⟩ [] (by constructor<;>simp) ?_;rintro⟨k,hk1,hi⟩ B hB;refine CI.n ?_;simp;refine aE (λh=>?_) (λh=>?_)
  ·have hk:k<(r.bE).length:=by simpa using h
   obtain⟨y,hx,hr,hm,ht,hd,hw⟩:=bB hk;simp only[h];simp[hr,hw];rw[hd,iE]at hi;refine⟨by omega,?_⟩;refine CI.p (ZK (r.bE.take k) y (by simp;omega)) ?_;simp;refine aE (λh2=>?_) (λh2=>?_)<;>simp only[h2]<;>simp<;>(try simp only[nT,nF,dT,dF]at h2)
   ·have e:iE (λa b:Int=>decide (a=b)) [] r.bE=false:=by rw[<-hi,h2];rfl
    first|exact aA (by simp[fI,e]) rfl|exact aB (by simp[fI,e])
   ·refine hB _ ⟨k+1,by omega,by rw[ht,<-hi,h2];rfl⟩ [] ?_ (by simp;omega);constructor<;>simp[hw]
  ·obtain rfl:k=(r.bE).length:=by simp at h;omega
   simp only[h];simp;rw[bK,sQ]at hi;simp only[iE]at hi;first|exact aA (by simp[fI,hi1,<-hi2,<-hi]) rfl|exact aB (by simp[fI,hi1,<-hi2,<-hi])
theorem wI {r:aC}(h:cT r=true):r.rules.length<=8/\r.bE.length<=8/\∀x∈r.rules,x.split.length<=4:=by
 simp only[cT,bN,dO,cS,iI]at h;exact⟨h.1.1.1.2,h.1.1.2,λx hx=>(h.2 x hx).1⟩
attribute [simp] Tryz.ntmps122 Tryz.results122
theorem DB (r:aC):Ct Tryz.prog 122 [st (aF r)] [] [] (int (cU r)) []:=by
 refine Ct.B Tryz.func122 ?_;simp;refine CI.p (within r.kind 3) ?_;simp;refine aE (λh1=>?_) (λh1=>?_)<;>simp only[h1]<;>simp<;>(try simp only[nT,nF,dT,dF]at h1)
 ·first|exact aA (by simp[cU,h1]) rfl|exact aB (by simp[cU,h1])
 refine CI.p (wR r.name) ?_;simp;refine aE (λh2=>?_) (λh2=>?_)<;>simp only[h2]<;>simp<;>(try simp only[nT,nF,dT,dF]at h2)
 ·first|exact aA (by simp[cU,h1,h2]) rfl|exact aB (by simp[cU,h1,h2])
 refine CI.p (RG r) ?_;simp;refine aE (λh3=>?_) (λh3=>?_)<;>simp only[h3]<;>simp<;>(try simp only[nT,nF,dT,dF]at h3)
 ·first|exact aA (by simp[cU,h1,h2,h3]) rfl|exact aB (by simp[cU,h1,h2,h3])
 have hb:=wI h3;refine CI.p (RN r) ?_;simp;refine aE (λh4=>?_) (λh4=>?_)<;>simp only[h4]<;>simp<;>(try simp only[nT,nF,dT,dF]at h4)
 ·first|exact aA (by simp[cU,h1,h2,h3,h4]) rfl|exact aB (by simp[cU,h1,h2,h3,h4])
 refine CI.p (XG r ⟨hb.1,hb.2.2⟩) ?_;simp;refine aE (λh5=>?_) (λh5=>?_)<;>simp only[h5]<;>simp<;>(try simp only[nT,nF,dT,dF]at h5)
 ·first|exact aA (by simp[cU,h1,h2,h3,h4,h5]) rfl|exact aB (by simp[cU,h1,h2,h3,h4,h5])
 refine CI.p (RJ r hb) ?_;simp;refine aE (λh6=>?_) (λh6=>?_)<;>simp only[h6]<;>simp<;>(try simp only[nT,nF,dT,dF]at h6)
 ·first|exact aA (by simp[cU,h1,h2,h3,h4,h5,h6]) rfl|exact aB (by simp[cU,h1,h2,h3,h4,h5,h6])
 ·first|exact aA (by simp[cU,h1,h2,h3,h4,h5,h6]) rfl|exact aB (by simp[cU,h1,h2,h3,h4,h5,h6])
theorem jN {n m:Int}:aV n m=false↔n<0\/m<n:=by
 simp[aV,<-Bool.not_eq_true];omega
theorem nU {n m:Int}:aV n m=true↔0<=n/\n<=m:=by simp[aV]
attribute [simp] Tryz.ntmps132 Tryz.results132
theorem Dy (r:aC):Ct Tryz.prog 132 [st (aF r)] [] [] (bool (!cT r)) []:=by
 refine Ct.B Tryz.func132 ?_;simp;refine aM (λh1=>?_) (λh1=>?_)<;>simp only[h1]<;>simp<;>(try simp only[nT,nF,dT,dF]at h1)
 ·first|exact aA (by simp[cT,jN.2 (.inl h1)]) rfl|exact aB (by simp[cT,jN.2 (.inl h1)])
 refine aM (λh2=>?_) (λh2=>?_)<;>simp only[h2]<;>simp<;>(try simp only[nT,nF,dT,dF]at h2)
 ·first|exact aA (by simp[cT,jN.2 (.inr h2)]) rfl|exact aB (by simp[cT,jN.2 (.inr h2)])
 have r1:=nU.2 ⟨nQ.1 h1,nQ.1 h2⟩;refine aM (λh3=>?_) (λh3=>?_)<;>simp only[h3]<;>simp<;>(try simp only[nT,nF,dT,dF]at h3)
 ·first|exact aA (by simp[cT,jN.2 (.inl h3)]) rfl|exact aB (by simp[cT,jN.2 (.inl h3)])
 refine aM (λh4=>?_) (λh4=>?_)<;>simp only[h4]<;>simp<;>(try simp only[nT,nF,dT,dF]at h4)
 ·first|exact aA (by simp[cT,jN.2 (.inr h4)]) rfl|exact aB (by simp[cT,jN.2 (.inr h4)])
 have r2:=nU.2 ⟨nQ.1 h3,nQ.1 h4⟩;refine aM (λh5=>?_) (λh5=>?_)<;>simp only[h5]<;>simp<;>(try simp only[nT,nF,dT,dF]at h5)
 ·have hz:¬r.rules.length<=8:=by omega
  first|exact aA (by simp[cT,hz]) rfl|exact aB (by simp[cT,hz])
 refine aE (λh6=>?_) (λh6=>?_)<;>simp only[h6]<;>simp<;>(try simp only[nT,nF,dT,dF]at h6)
 ·have hz:¬r.bE.length<=8:=by omega
  first|exact aA (by simp[cT,hz]) rfl|exact aB (by simp[cT,hz])
 have hz5:r.rules.length<=8:=by omega
 have hz6:r.bE.length<=8:=by omega
 refine aJ.inv mixed rfl (ι:={k:Nat//k<=(r.bE).length/\(r.bE.take k).all (λh=>aV h 2147483647)=true}) (λk=>[(1,.ptr 64 0),(3,int k.1)]) (λk=>[(64,.cells ((aF r).map .d) 82)]) 65 (λk=>(r.bE).length-k.1) ⟨0,by omega,by simp⟩ [] (by constructor<;>simp) ?_;rintro⟨k,hk1,hi⟩ B hB;refine CI.n ?_;simp;refine aE (λh=>?_) (λh=>?_)
 ·have hk:k<(r.bE).length:=by simpa using h
  obtain⟨y,hx,hr,hm,ht,hd,hw⟩:=bB hk;simp only[h];simp[hr,hw];have ef:aV y 2147483647=false->(r.bE.all λh=>aV h 2147483647)=false:=λe=>by
   rw[gY];exact⟨y,hm,by simp[e]⟩
  refine aM (λh7=>?_) (λh7=>?_)<;>simp only[h7]<;>simp[hr]<;>(try simp only[nT,nF,dT,dF]at h7)
  ·first|exact aA (by simp[cT,ef (jN.2 (.inl h7))]) rfl|exact aB (by simp[cT,ef (jN.2 (.inl h7))])
  refine aE (λh8=>?_) (λh8=>?_)<;>simp only[h8]<;>simp<;>(try simp only[nT,nF,dT,dF]at h8)
  ·first|exact aA (by simp[cT,ef (jN.2 (.inr h8))]) rfl|exact aB (by simp[cT,ef (jN.2 (.inr h8))])
  ·refine hB _ ⟨k+1,by omega,by simp[ht,hi,nU.2 ⟨nQ.1 h7,nQ.1 h8⟩]⟩ [] ?_ (by simp;omega);constructor<;>simp[hw,ht,nU.2 ⟨nQ.1 h7,nQ.1 h8⟩]
 ·obtain rfl:k=(r.bE).length:=by simp at h;omega
  simp only[h];simp;rw[bK]at hi;have hh:=hi;refine aJ.inv mixed rfl (ι:={k:Nat//k<=(r.rules).length/\(r.rules.take k).all iI=true}) (λk=>[(1,.ptr 64 0),(4,int k.1)]) (λk=>[(64,.cells ((aF r).map .d) 82)]) 65 (λk=>(r.rules).length-k.1) ⟨0,by omega,by simp⟩ [] (by constructor<;>simp) ?_;rintro⟨k,hk1,hi⟩ B hB;refine CI.n ?_;simp;refine aE (λh=>?_) (λh=>?_)
  ·have hk:k<(r.rules).length:=by simpa using h
   obtain⟨x,hx,hr,hm,ht,hd,hw⟩:=bB hk;simp only[h];simp[hr,hw];have ef:iI x=false->r.rules.all iI=false:=λe=>by
    rw[gY];exact⟨x,hm,by simp[e]⟩
   refine aE (λh9=>?_) (λh9=>?_)<;>simp only[h9]<;>simp[hr]<;>(try simp only[nT,nF,dT,dF]at h9)
   ·have hz:¬x.split.length<=4:=by omega
    have e1:iI x=false:=by simp[iI,hz]
    first|exact aA (by simp[cT,ef e1]) rfl|exact aB (by simp[cT,ef e1])
   have hz9:x.split.length<=4:=by omega
   refine aJ.inv mixed rfl (ι:={kj:Nat//kj<=(x.split).length/\(x.split.take kj).all (λw=>aV w.w 100)=true}) (λkj=>[(1,.ptr 64 0),(4,int k),(5,int kj.1)]) (λkj=>[(64,.cells ((aF r).map .d) 82)]) 65 (λkj=>(x.split).length-kj.1) ⟨0,by omega,by simp⟩ [] (by constructor<;>simp[hr]) ?_;rintro⟨kj,hk1j,hij⟩ Bj hBj;refine CI.n ?_;simp[hr];refine aE (λhj=>?_) (λhj=>?_)
   ·have hkj:kj<(x.split).length:=by simpa using hj
    obtain⟨w,hxj,hrj,hmj,htj,hdj,hwj⟩:=bB hkj;simp only[hj];simp[hrj,hwj,hr];have eg:aV w.w 100=false->iI x=false:=λe=>by
     have:(x.split.all λw=>aV w.w 100)=false:=by
      rw[gY];exact⟨w,hmj,by simp[e]⟩
     simp only[iI,this,pI]
    refine aM (λh10=>?_) (λh10=>?_)<;>simp only[h10]<;>simp[hr,hrj]<;>(try simp only[nT,nF,dT,dF]at h10)
    ·first|exact aA (by simp[cT,ef (eg (jN.2 (.inl h10)))]) rfl|exact aB (by simp[cT,ef (eg (jN.2 (.inl h10)))])
    refine aE (λh11=>?_) (λh11=>?_)<;>simp only[h11]<;>simp<;>(try simp only[nT,nF,dT,dF]at h11)
    ·first|exact aA (by simp[cT,ef (eg (jN.2 (.inr h11)))]) rfl|exact aB (by simp[cT,ef (eg (jN.2 (.inr h11)))])
    ·refine hBj _ ⟨kj+1,by omega,by simp[htj,hij,nU.2 ⟨nQ.1 h10,nQ.1 h11⟩]⟩ [] ?_ (by simp;omega);constructor<;>simp[hwj,htj,nU.2 ⟨nQ.1 h10,nQ.1 h11⟩]
   ·obtain rfl:kj=(x.split).length:=by simp at hj;omega
    simp only[hj];simp[hw];rw[bK]at hij;have e1:iI x=true:=by simp only[iI,hij,hz9,decide_true,Bool.and_true]
    refine hB _ ⟨k+1,by omega,by simp[ht,hi,e1]⟩ [] ?_ (by simp;omega);constructor<;>simp[hw,ht,e1]
  ·obtain rfl:k=(r.rules).length:=by simp at h;omega
   simp only[h];simp;rw[bK]at hi;first|exact aA (by simp[cT,hi,hh,r1,r2,hz5,hz6]) rfl|exact aB (by simp[cT,hi,hh,r1,r2,hz5,hz6])
theorem G4 {k:Int}(h:0<=k/\k<=3):decide (k.tmod 2=0)=eB k:=by
 have:k=0\/k=1\/k=2\/k=3:=by omega
 rcases this with rfl|rfl|rfl|rfl<;>decide
attribute [simp] Tryz.ntmps133 Tryz.results133
theorem zX (r:aC)(hk:0<=r.kind/\r.kind<=3)(hl:r.rules.length<=8/\∀x∈r.rules,x.split.length<=4):Ct Tryz.prog 133 [st (aF r)] [] [] (bool (hZ r)) []:=by
 refine Ct.B Tryz.func133 ?_;simp;obtain⟨hl1,hl2⟩:=hl;rw[G4 hk];refine aM (λh1=>?_) (λh1=>?_)<;>simp only[h1]<;>simp<;>(try simp only[nT,nF,dT,dF]at h1)
 ·refine CI.p (tA r.to) ?_;simp;refine aE (λh2=>?_) (λh2=>?_)<;>simp only[h2]<;>simp<;>(try simp only[nT,nF,dT,dF]at h2)
  ·first|exact aA (by simp[hZ,h1,h2]) rfl|exact aB (by simp[hZ,h1,h2])
  refine aJ.inv mixed rfl (ι:={k:Nat//k<=(r.rules).length/\(r.rules.take k).all eG=true}) (λk=>[(1,.ptr 64 0),(3,int k.1)]) (λk=>[(64,.cells ((aF r).map .d) 82)]) 65 (λk=>(r.rules).length-k.1) ⟨0,by omega,by simp⟩ [] (by constructor<;>simp) ?_;rintro⟨k,hk1,hi⟩ B hB;refine CI.n ?_;simp;refine aE (λh=>?_) (λh=>?_)
  ·have hk:k<(r.rules).length:=by simpa using h
   obtain⟨x,hx,hr,hm,ht,hd,hw⟩:=bB hk;simp only[h];simp[hr,hw];have ef:eG x=false->hZ r=false:=λe=>by
    have:r.rules.all eG=false:=by rw[gY];exact⟨x,hm,by simp[e]⟩
    simp only[hZ,this,pI]
   refine CI.p (L2 x.host) ?_;simp;refine aM (λh3=>?_) (λh3=>?_)<;>simp only[h3]<;>simp<;>(try simp only[nT,nF,dT,dF]at h3)
   ·first|exact aA (by simp[ef (by simp only[eG,h3,rM])]) rfl|exact aB (by simp[ef (by simp only[eG,h3,rM])])
   simp[hr];refine CI.p (JI x.pre) ?_;simp;refine aE (λh4=>?_) (λh4=>?_)<;>simp only[h4]<;>simp<;>(try simp only[nT,nF,dT,dF]at h4)
   ·first|exact aA (by simp[ef (by simp only[eG,h4,pI,rM])]) rfl|exact aB (by simp[ef (by simp only[eG,h4,pI,rM])])
   have hx:=hl2 x hm;refine aJ.inv mixed rfl (ι:={kj:Nat//kj<=(x.split).length/\(x.split.take kj).all (λw=>cP w.jF)=true}) (λkj=>[(1,.ptr 64 0),(3,int k),(4,int kj.1)]) (λkj=>[(64,.cells ((aF r).map .d) 82)]) 65 (λkj=>(x.split).length-kj.1) ⟨0,by omega,by simp⟩ [] (by constructor<;>simp[hr]) ?_;rintro⟨kj,hk1j,hij⟩ Bj hBj;refine CI.n ?_;simp[hr];refine aE (λhj=>?_) (λhj=>?_)
   ·have hkj:kj<(x.split).length:=by simpa using hj
    obtain⟨w,hxj,hrj,hmj,htj,hdj,hwj⟩:=bB hkj;simp only[hj];simp[hrj,hwj,hr];refine CI.p (tA w.jF) ?_;simp;refine aE (λh5=>?_) (λh5=>?_)<;>simp only[h5]<;>simp<;>(try simp only[nT,nF,dT,dF]at h5)
    ·have e1:(x.split.all λw=>cP w.jF)=false:=by
      rw[gY];exact⟨w,hmj,by simp[h5]⟩
     first|exact aA (by simp[ef (by simp only[eG,e1,pI])]) rfl|exact aB (by simp[ef (by simp only[eG,e1,pI])])
    ·refine hBj _ ⟨kj+1,by omega,by simp[htj,hij,h5]⟩ [] ?_ (by simp;omega);constructor<;>simp[hwj,htj,h5]
   ·obtain rfl:kj=(x.split).length:=by simp at hj;omega
    simp only[hj];simp[hw];rw[bK]at hij;have e1:eG x=true:=by simp only[eG,hij,h3,h4,Bool.and_true]
    refine hB _ ⟨k+1,by omega,by simp[ht,hi,e1]⟩ [] ?_ (by simp;omega);constructor<;>simp[hw,ht,e1]
  ·obtain rfl:k=(r.rules).length:=by simp at h;omega
   simp only[h];simp;rw[bK]at hi;first|exact aA (by simp[hZ,hi,h2]) rfl|exact aB (by simp[hZ,hi,h2])
 ·refine aJ.inv mixed rfl (ι:={k:Nat//k<=(r.rules).length/\(r.rules.take k).all eG=true}) (λk=>[(1,.ptr 64 0),(3,int k.1)]) (λk=>[(64,.cells ((aF r).map .d) 82)]) 65 (λk=>(r.rules).length-k.1) ⟨0,by omega,by simp⟩ [] (by constructor<;>simp) ?_;rintro⟨k,hk1,hi⟩ B hB;refine CI.n ?_;simp;refine aE (λh=>?_) (λh=>?_)
  ·have hk:k<(r.rules).length:=by simpa using h
   obtain⟨x,hx,hr,hm,ht,hd,hw⟩:=bB hk;simp only[h];simp[hr,hw];have ef:eG x=false->hZ r=false:=λe=>by
    have:r.rules.all eG=false:=by rw[gY];exact⟨x,hm,by simp[e]⟩
    simp only[hZ,this,pI]
   refine CI.p (L2 x.host) ?_;simp;refine aM (λh3=>?_) (λh3=>?_)<;>simp only[h3]<;>simp<;>(try simp only[nT,nF,dT,dF]at h3)
   ·first|exact aA (by simp[ef (by simp only[eG,h3,rM])]) rfl|exact aB (by simp[ef (by simp only[eG,h3,rM])])
   simp[hr];refine CI.p (JI x.pre) ?_;simp;refine aE (λh4=>?_) (λh4=>?_)<;>simp only[h4]<;>simp<;>(try simp only[nT,nF,dT,dF]at h4)
   ·first|exact aA (by simp[ef (by simp only[eG,h4,pI,rM])]) rfl|exact aB (by simp[ef (by simp only[eG,h4,pI,rM])])
   have hx:=hl2 x hm;refine aJ.inv mixed rfl (ι:={kj:Nat//kj<=(x.split).length/\(x.split.take kj).all (λw=>cP w.jF)=true}) (λkj=>[(1,.ptr 64 0),(3,int k),(4,int kj.1)]) (λkj=>[(64,.cells ((aF r).map .d) 82)]) 65 (λkj=>(x.split).length-kj.1) ⟨0,by omega,by simp⟩ [] (by constructor<;>simp[hr]) ?_;rintro⟨kj,hk1j,hij⟩ Bj hBj;refine CI.n ?_;simp[hr];refine aE (λhj=>?_) (λhj=>?_)
   ·have hkj:kj<(x.split).length:=by simpa using hj
    obtain⟨w,hxj,hrj,hmj,htj,hdj,hwj⟩:=bB hkj;simp only[hj];simp[hrj,hwj,hr];refine CI.p (tA w.jF) ?_;simp;refine aE (λh5=>?_) (λh5=>?_)<;>simp only[h5]<;>simp<;>(try simp only[nT,nF,dT,dF]at h5)
    ·have e1:(x.split.all λw=>cP w.jF)=false:=by
      rw[gY];exact⟨w,hmj,by simp[h5]⟩
     first|exact aA (by simp[ef (by simp only[eG,e1,pI])]) rfl|exact aB (by simp[ef (by simp only[eG,e1,pI])])
    ·refine hBj _ ⟨kj+1,by omega,by simp[htj,hij,h5]⟩ [] ?_ (by simp;omega);constructor<;>simp[hwj,htj,h5]
   ·obtain rfl:kj=(x.split).length:=by simp at hj;omega
    simp only[hj];simp[hw];rw[bK]at hij;have e1:eG x=true:=by simp only[eG,hij,h3,h4,Bool.and_true]
    refine hB _ ⟨k+1,by omega,by simp[ht,hi,e1]⟩ [] ?_ (by simp;omega);constructor<;>simp[hw,ht,e1]
  ·obtain rfl:k=(r.rules).length:=by simp at h;omega
   simp only[h];simp;rw[bK]at hi;first|exact aA (by simp[hZ,hi,h1]) rfl|exact aB (by simp[hZ,hi,h1])
def mG (l:List Weight):Int:=(l.map (·.w)).sum
theorem C2 :∀{l:List Weight},l.all (λw=>aV w.w 100)=true->0<=mG l/\mG l<=100*l.length
 |[],_=>by simp[mG]
 |w::l,h=>by
  rw[oL,bN,nU]at h;have:=C2 h.2;simp only[mG,fM,List.sum_cons,jL]at this⊢;omega
theorem C1 :∀{l:List Weight},l.all (λw=>aV w.w 100)=true->(mG l=0↔(l.any λw=>decide (0<w.w))=false)
 |[],_=>by simp[mG]
 |w::l,h=>by
  rw[oL,bN,nU]at h;have h1:=C2 h.2;have h2:=C1 h.2;rw[List.any_cons,Bool.or_eq_false_iff,<-h2,decide_eq_false_iff_not];simp only[mG,fM,List.sum_cons]at h1⊢;omega
@[simp] theorem sumW_nil :mG []=0:=rfl
theorem HB (l:List Weight)(w:Weight):mG (l++[w])=mG l+w.w:=by simp[mG]
theorem Q6 {x:gF}(h:iI x=true):x.split.length<=4/\x.split.all (λw=>aV w.w 100)=true:=by
 simpa[iI]using h
theorem RF {r:aC}(h:cT r=true):∀x∈r.rules,iI x=true:=by
 simp only[cT,bN,cS]at h;exact h.2
attribute [simp] Tryz.ntmps134 Tryz.results134
theorem yU (r:aC)(hs:cT r=true):Ct Tryz.prog 134 [st (aF r)] [] [] (bool (!fI r)) []:=by
 refine Ct.B Tryz.func134 ?_;simp;have hb:=wI hs;have hsp:=RF hs;obtain⟨hl1,hl2,hl3⟩:=hb;refine aJ.inv mixed rfl (ι:={k:Nat//k<=(r.rules).length/\((r.rules.take k).all oM=true/\iE kO (r.rules.take k) (r.rules.drop k)=iE kO [] r.rules)}) (λk=>[(1,.ptr 64 0),(3,int k.1)]) (λk=>[(64,.cells ((aF r).map .d) 82)]) 65 (λk=>(r.rules).length-k.1) ⟨0,by omega,by simp⟩ [] (by constructor<;>simp) ?_;rintro⟨k,hk1,hi⟩ B hB;refine CI.n ?_;simp;refine aE (λh=>?_) (λh=>?_)
 ·have hk:k<(r.rules).length:=by simpa using h
  obtain⟨x,hx,hr,hm,ht,hd,hw⟩:=bB hk;simp only[h];simp[hr,hw];obtain⟨hi1,hi2⟩:=hi;rw[hd,iE]at hi2;obtain⟨hx,hx2⟩:=Q6 (hsp x hm);refine aJ.V (x.split) (λkj=>[(1,.ptr 64 0),(3,int k),(4,int (mG (x.split.take kj.1))),(5,int kj.1)]) (λkj=>[(64,.cells ((aF r).map .d) 82)]) 65 (λkj hk1j Bj hBj=>?_) (h0:=by constructor<;>simp[hr]);simp[hr];refine aE (λhj=>?_) (λhj=>?_)
  ·have hkj:kj<(x.split).length:=by simpa using hj
   obtain⟨w,hxj,hrj,hmj,htj,hdj,hwj⟩:=bB hkj;simp only[hj];simp[hrj,hwj,hr];have hq:(x.split.take (kj+1)).all (λw=>aV w.w 100)=true:=by
    rw[cS]at hx2⊢;exact λw hw=>hx2 w (rL hw)
   have hq2:=C2 hq;rw[htj,HB]at hq2;have hwr:IntKind.wrap .i64 (mG (x.split.take kj)+w.w)=mG (x.split.take kj)+w.w:=wrap_i64 (by omega) (by simp at hq2;omega);exact hBj hkj (by constructor<;>simp[hwj,htj,hwr,HB])
  ·obtain rfl:kj=(x.split).length:=by simp at hj;omega
   simp only[hj];simp;refine aE (λh1=>?_) (λh1=>?_)<;>simp only[h1]<;>simp<;>(try simp only[nT,nF,dT,dF]at h1)
   ·have e1:oM x=false:=(C1 hx2).1 h1;have e:r.rules.all oM=false:=by rw[gY];exact⟨x,hm,by simp[e1]⟩
    first|exact aA (by simp[fI,e]) rfl|exact aB (by simp[fI,e])
   have h1':oM x=true:=by
    cases hh:oM x
    ·exact absurd ((C1 hx2).2 hh) h1
    ·rfl
   refine aJ.inv mixed rfl (ι:={j:Nat//j<=k/\(r.rules.take j).any (kO x)=false}) (λkj=>[(1,.ptr 64 0),(3,int k),(6,int kj.1)]) (λkj=>[(64,.cells ((aF r).map .d) 82)]) 65 (λkj=>k-kj.1) ⟨0,by omega,by simp⟩ [] (by constructor<;>simp) ?_;rintro⟨j,hj,hij⟩ Bj hBj;refine CI.n ?_;simp;refine aE (λhjk=>?_) (λhjk=>?_)
   ·have hjk':j<k:=by have:=jI hjk;omega
    have hrj:r.rules[j]? =some r.rules[j]:=bL (by omega);have htj:r.rules.take (j+1)=r.rules.take j++[r.rules[j]]:=by rw[eW,hrj];rfl
    have hwj:IntKind.wrap .i64 ((j:Int)+1)=j+1:=wrap_i64 (by omega) (by omega);have hmj:j<k->r.rules[j]∈r.rules.take k:=λ_=>by
     rw[List.mem_take_iff_getElem];exact⟨j,by omega,rfl⟩
    generalize r.rules[j]=y at hrj htj hmj;simp only[hjk];simp[hr,hrj,hwj];refine aM (λh3=>?_) (λh3=>?_)<;>simp only[h3]<;>simp[hr,hrj,hwj]<;>(try simp only[nT,nF,dT,dF]at h3)
    ·refine⟨by decide+kernel,?_⟩;refine aE (λh4=>?_) (λh4=>?_)<;>simp only[h4]<;>simp[hr,hrj,hwj]<;>(try simp only[nT,nF,dT,dF]at h4)
     ·have e1:(r.rules.take k).any (kO x)=true:=by
       rw[yM];exact⟨y,hmj hjk',by simp[kO,h3,h4]⟩
      have e:iE kO [] r.rules=false:=by rw[<-hi2,e1];rfl
      first|exact aA (by simp[fI,e]) rfl|exact aB (by simp[fI,e])
     ·refine hBj _ ⟨j+1,by omega,by rw[htj];simp[hij,kO,h4]⟩ [] ?_ (by simp;omega);constructor<;>simp[hwj]
    ·refine⟨by decide+kernel,?_⟩;refine hBj _ ⟨j+1,by omega,by rw[htj];simp[hij,kO,h3]⟩ [] ?_ (by simp;omega);constructor<;>simp[hwj]
   ·have hjk':j=k:=by have:=kY hjk;omega
    rw[hjk']at hij;simp only[hjk];simp[hw];refine hB _ ⟨k+1,by omega,by simp[ht,hi1,h1'],by rw[ht,<-hi2,hij];rfl⟩ [] ?_ (by simp;omega);constructor<;>simp[hw]
 ·obtain rfl:k=(r.rules).length:=by simp at h;omega
  simp only[h];simp;rw[bK,sQ]at hi;obtain⟨hi1,hi2⟩:=hi;simp only[iE]at hi2;refine aJ.inv mixed rfl (ι:={k:Nat//k<=(r.bE).length/\(iE (λa b:Int=>decide (a=b)) (r.bE.take k) (r.bE.drop k)=iE (λa b=>decide (a=b)) [] r.bE)}) (λk=>[(1,.ptr 64 0),(7,int k.1)]) (λk=>[(64,.cells ((aF r).map .d) 82)]) 65 (λk=>(r.bE).length-k.1) ⟨0,by omega,by simp⟩ [] (by constructor<;>simp) ?_;rintro⟨k,hk1,hi⟩ B hB;refine CI.n ?_;simp;refine aE (λh=>?_) (λh=>?_)
  ·have hk:k<(r.bE).length:=by simpa using h
   obtain⟨x,hx,hr,hm,ht,hd,hw⟩:=bB hk;simp only[h];simp[hr,hw];rw[hd,iE]at hi;refine aJ.inv mixed rfl (ι:={j:Nat//j<=k/\((r.bE.take j).any λy=>decide (x=y))=false}) (λkj=>[(1,.ptr 64 0),(7,int k),(8,int kj.1)]) (λkj=>[(64,.cells ((aF r).map .d) 82)]) 65 (λkj=>k-kj.1) ⟨0,by omega,by simp⟩ [] (by constructor<;>simp) ?_;rintro⟨j,hj,hij⟩ Bj hBj;refine CI.n ?_;simp;refine aE (λhjk=>?_) (λhjk=>?_)
   ·have hjk':j<k:=by have:=jI hjk;omega
    have hrj:r.bE[j]? =some r.bE[j]:=bL (by omega);have htj:r.bE.take (j+1)=r.bE.take j++[r.bE[j]]:=by rw[eW,hrj];rfl
    have hwj:IntKind.wrap .i64 ((j:Int)+1)=j+1:=wrap_i64 (by omega) (by omega);have hmj:j<k->r.bE[j]∈r.bE.take k:=λ_=>by
     rw[List.mem_take_iff_getElem];exact⟨j,by omega,rfl⟩
    generalize r.bE[j]=y at hrj htj hmj;simp only[hjk];simp[hr,hrj,hwj];refine⟨by decide+kernel,?_⟩;refine aE (λh4=>?_) (λh4=>?_)<;>simp only[h4]<;>simp[hr,hrj,hwj]<;>(try simp only[nT,nF,dT,dF]at h4)
    ·have e1:((r.bE.take k).any λy=>decide (x=y))=true:=by
      rw[yM];exact⟨y,hmj hjk',by simp[h4]⟩
     have e:iE (λa b:Int=>decide (a=b)) [] r.bE=false:=by rw[<-hi,e1];rfl
     first|exact aA (by simp[fI,e]) rfl|exact aB (by simp[fI,e])
    ·refine hBj _ ⟨j+1,by omega,by rw[htj];simp only[List.any_append,hij,List.any_cons,List.any_nil,h4,decide_false,Bool.or_false]⟩ [] ?_ (by simp;omega);constructor<;>simp[hwj]
   ·have hjk':j=k:=by have:=kY hjk;omega
    rw[hjk']at hij;simp only[hjk];simp[hw];refine hB _ ⟨k+1,by omega,by rw[ht,<-hi,hij];rfl⟩ [] ?_ (by simp;omega);constructor<;>simp[hw]
  ·obtain rfl:k=(r.bE).length:=by simp at h;omega
   simp only[h];simp;rw[bK,sQ]at hi;simp only[iE]at hi;first|exact aA (by simp[fI,hi1,<-hi2,<-hi]) rfl|exact aB (by simp[fI,hi1,<-hi2,<-hi])
theorem Dw (s:cE):(bs s=[])=(s=⟨#[]⟩):=by rw[uP];rfl
attribute [simp] Tryz.ntmps83 Tryz.results83
theorem HV (r:aC):Ct Tryz.prog 83 [st (aF r)] [] [] (int (cU r)) []:=by
 refine Ct.B Tryz.func83 ?_;simp;have ht0:=Dw r.to;refine aM (λh1=>?_) (λh1=>?_)<;>simp only[h1]<;>simp<;>(try simp only[nT,nF,dT,dF]at h1)
 ·first|exact aA (by simp[cU,jN.2 (.inl h1)]) rfl|exact aB (by simp[cU,jN.2 (.inl h1)])
 refine aE (λh1'=>?_) (λh1'=>?_)<;>simp only[h1']<;>simp<;>(try simp only[nT,nF,dT,dF]at h1')
 ·first|exact aA (by simp[cU,jN.2 (.inr h1')]) rfl|exact aB (by simp[cU,jN.2 (.inr h1')])
 have hk0:aV r.kind 3=true:=nU.2 ⟨nQ.1 h1,nQ.1 h1'⟩;have hk:=nU.1 hk0;refine CI.p (tA r.name) ?_;simp;refine aE (λh2=>?_) (λh2=>?_)<;>simp only[h2]<;>simp<;>(try simp only[nT,nF,dT,dF]at h2)
 ·first|exact aA (by simp[cU,hk0,h2]) rfl|exact aB (by simp[cU,hk0,h2])
 refine CI.p (Dy r) ?_;simp;refine aE (λh3=>?_) (λh3=>?_)<;>simp only[h3]<;>simp<;>(try simp only[nT,nF,dT,dF]at h3)
 ·first|exact aA (by simp[cU,hk0,h2,h3]) rfl|exact aB (by simp[cU,hk0,h2,h3])
 have hb:=wI h3;have fQ:dK r=true->∀a b:Bool,hZ r=a->fI r=b->cU r=if a=false then 5 else if b=false then 2 else 0:=λhs a b h5 h6=>by
  simp[cU,hk0,h2,h3,hs,h5,h6]
 have bad:dK r=false->cU r=2:=λhs=>by simp[cU,hk0,h2,h3,hs]
 have hq:r.kind=0\/r.kind=1\/r.kind=2\/r.kind=3:=by omega
 rcases hq with hq|hq|hq|hq
 ·have hmt:(r.kind).tmod 2=0:=by rw[hq];rfl
  simp[hq];refine aM (λeR=>?_) (λeR=>?_)<;>simp only[eR]<;>simp<;>(try simp only[nT,nF,dT,dF]at eR)
  ·have qR:¬(r.rules.length=0):=by omega
   first|exact aA (by simp[bad (by simp[dK,e9,eB,eJ,fA,hq,qR])]) rfl|exact aB (by simp[bad (by simp[dK,e9,eB,eJ,fA,hq,qR])])
  have qR:r.rules.length=0:=by omega
  refine aE (λeH=>?_) (λeH=>?_)<;>simp only[eH]<;>simp<;>(try simp only[nT,nF,dT,dF]at eH)
  ·have qH:¬(r.bE.length=0):=by omega
   first|exact aA (by simp[bad (by simp[dK,e9,eB,eJ,fA,hq,qH])]) rfl|exact aB (by simp[bad (by simp[dK,e9,eB,eJ,fA,hq,qH])])
  have qH:r.bE.length=0:=by omega
  have hs:dK r=true:=by simp[dK,e9,eB,eJ,fA,hq,qR,qH]
  refine CI.p (zX r hk ⟨hb.1,hb.2.2⟩) ?_ (ha:=by simp[hq]);simp[hq];refine aE (λh5=>?_) (λh5=>?_)<;>simp only[h5]<;>simp<;>(try simp only[nT,nF,dT,dF]at h5)
  ·first|exact aA (by simp[fQ hs false (fI r) h5 rfl]) rfl|exact aB (by simp[fQ hs false (fI r) h5 rfl])
  refine CI.p (yU r h3) ?_ (ha:=by simp[hq]);simp[hq];refine aE (λh6=>?_) (λh6=>?_)<;>simp only[h6]<;>simp<;>(try simp only[nT,nF,dT,dF]at h6)
  ·first|exact aA (by simp[fQ hs true false h5 h6]) rfl|exact aB (by simp[fQ hs true false h5 h6])
  ·first|exact aA (by simp[fQ hs true true h5 h6]) rfl|exact aB (by simp[fQ hs true true h5 h6])
 ·have hmt:(r.kind).tmod 2=1:=by rw[hq];rfl
  simp[hq];refine aM (λeP=>?_) (λeP=>?_)<;>simp only[eP]<;>simp<;>(try simp only[nT,nF,dT,dF]at eP)
  ·have qP:¬(r.port=0):=eP;first|exact aA (by simp[bad (by simp[dK,e9,eB,eJ,fA,hq,qP])]) rfl|exact aB (by simp[bad (by simp[dK,e9,eB,eJ,fA,hq,qP])])
  have qP:r.port=0:=eP;refine aM (λeT=>?_) (λeT=>?_)<;>simp only[eT]<;>simp<;>(try simp only[nT,nF,dT,dF]at eT)
  ·have qT:¬(bs r.to=[]):=by rw[ht0];exact eT
   first|exact aA (by simp[bad (by simp[dK,e9,eB,eJ,fA,hq,qT])]) rfl|exact aB (by simp[bad (by simp[dK,e9,eB,eJ,fA,hq,qT])])
  have qT:bs r.to=[]:=by rw[ht0];exact eT
  refine aE (λeH=>?_) (λeH=>?_)<;>simp only[eH]<;>simp<;>(try simp only[nT,nF,dT,dF]at eH)
  ·have qH:¬(r.bE.length=0):=by omega
   first|exact aA (by simp[bad (by simp[dK,e9,eB,eJ,fA,hq,qH])]) rfl|exact aB (by simp[bad (by simp[dK,e9,eB,eJ,fA,hq,qH])])
  have qH:r.bE.length=0:=by omega
  have hs:dK r=true:=by simp[dK,e9,eB,eJ,fA,hq,qP,qT,qH]
  refine CI.p (zX r hk ⟨hb.1,hb.2.2⟩) ?_ (ha:=by simp[hq]);simp[hq];refine aE (λh5=>?_) (λh5=>?_)<;>simp only[h5]<;>simp<;>(try simp only[nT,nF,dT,dF]at h5)
  ·first|exact aA (by simp[fQ hs false (fI r) h5 rfl]) rfl|exact aB (by simp[fQ hs false (fI r) h5 rfl])
  refine CI.p (yU r h3) ?_ (ha:=by simp[hq]);simp[hq];refine aE (λh6=>?_) (λh6=>?_)<;>simp only[h6]<;>simp<;>(try simp only[nT,nF,dT,dF]at h6)
  ·first|exact aA (by simp[fQ hs true false h5 h6]) rfl|exact aB (by simp[fQ hs true false h5 h6])
  ·first|exact aA (by simp[fQ hs true true h5 h6]) rfl|exact aB (by simp[fQ hs true true h5 h6])
 ·have hmt:(r.kind).tmod 2=0:=by rw[hq];rfl
  simp[hq];refine aM (λeP=>?_) (λeP=>?_)<;>simp only[eP]<;>simp<;>(try simp only[nT,nF,dT,dF]at eP)
  ·have qP:¬(r.port=0):=eP;first|exact aA (by simp[bad (by simp[dK,e9,eB,eJ,fA,hq,qP])]) rfl|exact aB (by simp[bad (by simp[dK,e9,eB,eJ,fA,hq,qP])])
  have qP:r.port=0:=eP;refine aM (λeR=>?_) (λeR=>?_)<;>simp only[eR]<;>simp<;>(try simp only[nT,nF,dT,dF]at eR)
  ·have qR:¬(r.rules.length=0):=by omega
   first|exact aA (by simp[bad (by simp[dK,e9,eB,eJ,fA,hq,qR])]) rfl|exact aB (by simp[bad (by simp[dK,e9,eB,eJ,fA,hq,qR])])
  have qR:r.rules.length=0:=by omega
  refine aE (λeH=>?_) (λeH=>?_)<;>simp only[eH]<;>simp<;>(try simp only[nT,nF,dT,dF]at eH)
  ·have qH:¬(r.bE.length=0):=by omega
   first|exact aA (by simp[bad (by simp[dK,e9,eB,eJ,fA,hq,qH])]) rfl|exact aB (by simp[bad (by simp[dK,e9,eB,eJ,fA,hq,qH])])
  have qH:r.bE.length=0:=by omega
  have hs:dK r=true:=by simp[dK,e9,eB,eJ,fA,hq,qP,qR,qH]
  refine CI.p (zX r hk ⟨hb.1,hb.2.2⟩) ?_ (ha:=by simp[hq]);simp[hq];refine aE (λh5=>?_) (λh5=>?_)<;>simp only[h5]<;>simp<;>(try simp only[nT,nF,dT,dF]at h5)
  ·first|exact aA (by simp[fQ hs false (fI r) h5 rfl]) rfl|exact aB (by simp[fQ hs false (fI r) h5 rfl])
  refine CI.p (yU r h3) ?_ (ha:=by simp[hq]);simp[hq];refine aE (λh6=>?_) (λh6=>?_)<;>simp only[h6]<;>simp<;>(try simp only[nT,nF,dT,dF]at h6)
  ·first|exact aA (by simp[fQ hs true false h5 h6]) rfl|exact aB (by simp[fQ hs true false h5 h6])
  ·first|exact aA (by simp[fQ hs true true h5 h6]) rfl|exact aB (by simp[fQ hs true true h5 h6])
 ·have hmt:(r.kind).tmod 2=1:=by rw[hq];rfl
  simp[hq];refine aM (λeP=>?_) (λeP=>?_)<;>simp only[eP]<;>simp<;>(try simp only[nT,nF,dT,dF]at eP)
  ·have qP:¬(r.port=0):=eP;first|exact aA (by simp[bad (by simp[dK,e9,eB,eJ,fA,hq,qP])]) rfl|exact aB (by simp[bad (by simp[dK,e9,eB,eJ,fA,hq,qP])])
  have qP:r.port=0:=eP;refine aM (λeT=>?_) (λeT=>?_)<;>simp only[eT]<;>simp<;>(try simp only[nT,nF,dT,dF]at eT)
  ·have qT:¬(bs r.to=[]):=by rw[ht0];exact eT
   first|exact aA (by simp[bad (by simp[dK,e9,eB,eJ,fA,hq,qT])]) rfl|exact aB (by simp[bad (by simp[dK,e9,eB,eJ,fA,hq,qT])])
  have qT:bs r.to=[]:=by rw[ht0];exact eT
  refine aM (λeR=>?_) (λeR=>?_)<;>simp only[eR]<;>simp<;>(try simp only[nT,nF,dT,dF]at eR)
  ·have qR:¬(r.rules.length=0):=by omega
   first|exact aA (by simp[bad (by simp[dK,e9,eB,eJ,fA,hq,qR])]) rfl|exact aB (by simp[bad (by simp[dK,e9,eB,eJ,fA,hq,qR])])
  have qR:r.rules.length=0:=by omega
  have hs:dK r=true:=by simp[dK,e9,eB,eJ,fA,hq,qP,qT,qR]
  refine CI.p (zX r hk ⟨hb.1,hb.2.2⟩) ?_ (ha:=by simp[hq]);simp[hq];refine aE (λh5=>?_) (λh5=>?_)<;>simp only[h5]<;>simp<;>(try simp only[nT,nF,dT,dF]at h5)
  ·first|exact aA (by simp[fQ hs false (fI r) h5 rfl]) rfl|exact aB (by simp[fQ hs false (fI r) h5 rfl])
  refine CI.p (yU r h3) ?_ (ha:=by simp[hq]);simp[hq];refine aE (λh6=>?_) (λh6=>?_)<;>simp only[h6]<;>simp<;>(try simp only[nT,nF,dT,dF]at h6)
  ·first|exact aA (by simp[fQ hs true false h5 h6]) rfl|exact aB (by simp[fQ hs true false h5 h6])
  ·first|exact aA (by simp[fQ hs true true h5 h6]) rfl|exact aB (by simp[fQ hs true true h5 h6])
end Go.Proofs.YtelooagbkmpdpaaGreatDoor
