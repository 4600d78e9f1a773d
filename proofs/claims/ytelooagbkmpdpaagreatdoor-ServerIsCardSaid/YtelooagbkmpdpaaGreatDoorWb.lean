/-
  LAYERS 3 to 14, walked
-/
import Derived.Test.YtelooagbkmpdpaaGreatDoorWa
set_option linter.unusedSimpArgs false
set_option linter.unusedVariables false
set_option maxRecDepth 100000
set_option maxHeartbeats 8000000
namespace Go.Proofs.YtelooagbkmpdpaaGreatDoor
open Go.AI Go.G
attribute [simp] Tryz.ntmps141 Tryz.results141
theorem fW (r:aC):Ct Tryz.prog 141 [st (aF r)] [] [] (st (aK r.key)) []:=by
 refine Ct.B Tryz.func141 ?_;simp;first|exact aA (by simp[aC.key]) rfl|exact aB (by simp[aC.key])
attribute [simp] Tryz.ntmps86 Tryz.results86
theorem l5 (r:aC):Ct Tryz.prog 86 [st (aF r)] [] [] (st (aK r.key)) []:=by
 refine Ct.B Tryz.func86 ?_;simp;first|exact aA (by simp[aC.key]) rfl|exact aB (by simp[aC.key])
attribute [simp] Tryz.ntmps181 Tryz.results181
theorem NZ (a b:Key)(hl:(bs a.name).length<=9223372036854775807\/(bs b.name).length<=9223372036854775807):Ct Tryz.prog 181 [st (aK a),st (aK b)] [] [] (int (bR a b)) []:=by
 refine Ct.B Tryz.func181 ?_;simp;refine aE (λh1=>?_) (λh1=>?_)<;>simp only[h1]<;>simp<;>(try simp only[nT,nF,dT,dF]at h1)
 ·first|exact aA (by simp[bR,h1]) rfl|exact aB (by simp[bR,h1])
 refine aE (λh2=>?_) (λh2=>?_)<;>simp only[h2]<;>simp<;>(try simp only[nT,nF,dT,dF]at h2)
 ·first|exact aA (by simp[bR,h1,h2]) rfl|exact aB (by simp[bR,h1,h2])
 refine CI.p (Cu a.name b.name hl) ?_;simp;first|exact aA (by simp[bR,h1,h2]) rfl|exact aB (by simp[bR,h1,h2])
attribute [simp] Tryz.ntmps242 Tryz.results242
theorem I4 (l:List Key)(k_:Key)(hl:l.length<=10000)(hk:(bs k_.name).length<=9223372036854775807):Ct Tryz.prog 242 [aD (l.map aK),st (aK k_)] [] [] (aD ((jO l k_).map aK)) []:=by
 refine Ct.B Tryz.func242 ?_;simp;refine aJ.gK 5 2 86 rfl ?_;refine aJ.inv mixed rfl (ι:={p:Nat×Bool×List Key//p.1<=l.length/\p.2.2++jP k_ p.2.1 (l.drop p.1)=jO l k_/\p.2.2.length<=2*p.1}) (λk=>[(0,aD (l.map aK)),(3,.ptr 64 0),(5,.own 65),(6,bool k.1.2.1),(7,int k.1.1)]) (λk=>[(64,.cells ((aK k_).map .d) 86),(65,.grow 2 (k.1.2.2.map aK) 86)]) 66 (λk=>l.length-k.1.1) ⟨(0,false,[]),by omega,by simp[jO],by simp⟩ [] (by constructor<;>simp) ?_;rintro⟨⟨i,done,out⟩,hi1,hi2,hi3⟩ B hB;simp only at hi1 hi2 hi3;refine CI.n ?_;simp;refine aE (λh=>?_) (λh=>?_)
 ·have hk':i<l.length:=by simpa using h
  have hr:l[i]? =some l[i]:=bL hk';have hd:l.drop i=l[i]::l.drop (i+1):=qF hk';have hw:IntKind.wrap .i64 ((i:Int)+1)=i+1:=wrap_i64 (by omega) (by omega);generalize l[i]=x at hr hd;rw[hd,jP]at hi2;simp only[h];simp[hr,hw];refine CI.p (NZ x k_ (.inr hk)) ?_;simp;refine⟨by decide+kernel,?_⟩;refine aM (λh1=>?_) (λh1=>?_)<;>simp only[h1]<;>simp<;>(try simp only[nT,nF,dT,dF]at h1)
  ·cases done with
   |false=>
    simp;refine⟨by omega,?_⟩;refine aE (λh2=>?_) (λh2=>?_)<;>simp only[h2]<;>simp[hr]<;>(try simp only[nT,nF,dT,dF]at h2)
    ·refine⟨by omega,?_⟩;simp only[h1,h2,dY,true_and,j5]at hi2;refine hB _ ⟨(i+1,true,out++[k_]++[x]),by omega,by simpa using hi2,by simp;omega⟩ [] ?_ (by simp;omega);constructor<;>simp[hw]
    ·simp only[h1,h2,dY,true_and]at hi2;refine hB _ ⟨(i+1,true,out++[k_]),by omega,by simpa using hi2,by simp;omega⟩ [] ?_ (by simp;omega);constructor<;>simp[hw]
   |true=>
    simp;refine aE (λh2=>?_) (λh2=>?_)<;>simp only[h2]<;>simp[hr]<;>(try simp only[nT,nF,dT,dF]at h2)
    ·refine⟨by omega,?_⟩;simp only[h1,h2,j5]at hi2;refine hB _ ⟨(i+1,true,out++[x]),by omega,by simpa using hi2,by simp;omega⟩ [] ?_ (by simp;omega);constructor<;>simp[hw]
    ·simp only[h1,h2]at hi2;refine hB _ ⟨(i+1,true,out),by omega,by simpa using hi2,by simp;omega⟩ [] ?_ (by simp;omega);constructor<;>simp[hw]
  ·have h2:¬bR x k_=0:=by omega
   simp[h2,hr];refine⟨by omega,?_⟩;simp only[h1,h2,j5,false_and]at hi2;refine hB _ ⟨(i+1,done,out++[x]),by omega,by simpa using hi2,by simp;omega⟩ [] ?_ (by simp;omega);constructor<;>simp[hw]
 ·have hil:i=l.length:=by simp at h;omega
  rw[hil,sQ,jP]at hi2;simp only[h];cases done with
  |false=>
   simp;refine⟨by omega,?_⟩;first|exact aA (by simp[<-hi2]) rfl|exact aB (by simp[<-hi2])
  |true=>
   simp;first|exact aA (by simp[<-hi2]) rfl|exact aB (by simp[<-hi2])
attribute [simp] Tryz.ntmps197 Tryz.results197
theorem IN (r:aC):Ct Tryz.prog 197 [st (aF r)] [] [] (aD ((bJ r).map aK)) []:=by
 refine Ct.B Tryz.func197 ?_;simp;refine CI.p (HV r) ?_;simp;refine aE (λh1=>?_) (λh1=>?_)<;>simp only[h1]<;>simp<;>(try simp only[nT,nF,dT,dF]at h1)
 ·first|exact aA (by simp[bJ,h1]) rfl|exact aB (by simp[bJ,h1])
 obtain⟨hk0,hn,hs,hsh,hnm,hsg⟩:=sX h1;have hk:=nU.1 hk0;have hb:=wI hs;rw[G4 hk];have hsp:∀x∈r.rules,∀w∈x.split,(bs w.jF).length<=12:=by
  intro x hx w hw;simp only[hZ,bN,cS,eG]at hnm;exact zY ((hnm.2 x hx).2 w hw)
 refine aE (λh2=>?_) (λh2=>?_)<;>simp only[h2]<;>simp<;>(try simp only[nT,nF,dT,dF]at h2)
 ·have h0:iZ r=[⟨r.kind+1,r.to⟩]:=by simp[iZ,h2]
  have hwk:IntKind.wrap .i64 (r.kind+1)=r.kind+1:=wrap_i64 (by omega) (by omega);refine aJ.U mixed (r.rules) (λk=>[(1,.ptr 64 0),(3,aD ((kA r k.1).map aK)),(4,int k.1)]) (λk=>[(64,.cells ((aF r).map .d) 82)]) 65 [1216] (by constructor<;>simp[zG,h0,hwk]) ?_;rintro⟨k,hk1⟩ B hB;refine CI.n ?_;simp[zG,h0,hwk];refine aE (λh=>?_) (λh=>?_)
  ·have hk:k<(r.rules).length:=by simpa using h
   obtain⟨x,hx,hr,hm,ht,hd,hw⟩:=bB hk;simp only[h];simp[hr,hw];have h7:=hb.2.2 x hm;refine aJ.V (x.split) (λkj=>[(1,.ptr 64 0),(3,aD (((x.split.take kj.1).foldl j9 (kA r k)).map aK)),(4,int k),(5,int kj.1)]) (λkj=>[(64,.cells ((aF r).map .d) 82)]) 65 (λkj hk1j Bj hBj=>?_) (h0:=by constructor<;>simp[hr]);simp[hr];refine aE (λhj=>?_) (λhj=>?_)
   ·have hkj:kj<(x.split).length:=by simpa using hj
    obtain⟨w,hxj,hrj,hmj,htj,hdj,hwj⟩:=bB hkj;simp only[hj];simp[hrj,hwj,hr];have hlen:((x.split.take kj).foldl j9 (kA r k)).length<=10000:=by
     have h5:=A6 (x.split.take kj) (kA r k);have h6:=DJ k hb.1 hb.2.2;have h8:(x.split.take kj).length<=4:=cD (by simp;omega) h7;omega
    refine aE (λh4=>?_) (λh4=>?_)<;>simp only[h4]<;>simp[hr,hrj]<;>(try simp only[nT,nF,dT,dF]at h4)
    ·refine CI.p (I4 ((x.split.take kj).foldl j9 (kA r k)) ⟨2,w.jF⟩ hlen (by have:=hsp x hm w hmj;simp only;omega)) ?_ (ha:=by simp[hr,hrj]);simp[hr,hrj];exact hBj hkj (by constructor<;>simp[hwj,htj,mY,j9,h4,hwj])
    ·exact hBj hkj (by constructor<;>simp[hwj,htj,mY,j9,h4,hwj])
   ·obtain rfl:kj=(x.split).length:=by simp at hj;omega
    simp only[hj];simp[hw];refine hB _ ⟨k+1,by omega⟩ [] ?_ (by simp;omega);constructor<;>simp[hw,ht,IT ht]
  ·obtain rfl:k=(r.rules).length:=by simp at h;omega
   simp only[h];simp;first|exact aA (by simp[wL h1]) rfl|exact aB (by simp[wL h1])
 ·have h0:iZ r=[]:=by simp[iZ,h2]
  refine aJ.V (r.rules) (λk=>[(1,.ptr 64 0),(3,aD ((kA r k.1).map aK)),(4,int k.1)]) (λk=>[(64,.cells ((aF r).map .d) 82)]) 65 (λk hk1 B hB=>?_) (h0:=by constructor<;>simp[zG,h0]);simp[zG,h0];refine aE (λh=>?_) (λh=>?_)
  ·have hk:k<(r.rules).length:=by simpa using h
   obtain⟨x,hx,hr,hm,ht,hd,hw⟩:=bB hk;simp only[h];simp[hr,hw];have h7:=hb.2.2 x hm;refine aJ.V (x.split) (λkj=>[(1,.ptr 64 0),(3,aD (((x.split.take kj.1).foldl j9 (kA r k)).map aK)),(4,int k),(5,int kj.1)]) (λkj=>[(64,.cells ((aF r).map .d) 82)]) 65 (λkj hk1j Bj hBj=>?_) (h0:=by constructor<;>simp[hr]);simp[hr];refine aE (λhj=>?_) (λhj=>?_)
   ·have hkj:kj<(x.split).length:=by simpa using hj
    obtain⟨w,hxj,hrj,hmj,htj,hdj,hwj⟩:=bB hkj;simp only[hj];simp[hrj,hwj,hr];have hlen:((x.split.take kj).foldl j9 (kA r k)).length<=10000:=by
     have h5:=A6 (x.split.take kj) (kA r k);have h6:=DJ k hb.1 hb.2.2;have h8:(x.split.take kj).length<=4:=cD (by simp;omega) h7;omega
    refine aE (λh4=>?_) (λh4=>?_)<;>simp only[h4]<;>simp[hr,hrj]<;>(try simp only[nT,nF,dT,dF]at h4)
    ·refine CI.p (I4 ((x.split.take kj).foldl j9 (kA r k)) ⟨2,w.jF⟩ hlen (by have:=hsp x hm w hmj;simp only;omega)) ?_ (ha:=by simp[hr,hrj]);simp[hr,hrj];exact hBj hkj (by constructor<;>simp[hwj,htj,mY,j9,h4,hwj])
    ·exact hBj hkj (by constructor<;>simp[hwj,htj,mY,j9,h4,hwj])
   ·obtain rfl:kj=(x.split).length:=by simp at hj;omega
    simp only[hj];simp[hw];exact hB hk (by constructor<;>simp[hw,ht,IT ht])
  ·obtain rfl:k=(r.rules).length:=by simp at h;omega
   simp only[h];simp;first|exact aA (by simp[wL h1]) rfl|exact aB (by simp[wL h1])
attribute [simp] Tryz.ntmps102 Tryz.results102
theorem EO (a b:List Key)(hl:a.length<=9223372036854775807):Ct Tryz.prog 102 [aD (a.map aK),aD (b.map aK)] [] [] (bool (decide (a=b))) []:=by
 refine Ct.B Tryz.func102 ?_;simp;refine aE (λh1=>?_) (λh1=>?_)<;>simp only[h1]<;>simp<;>(try simp only[nT,nF,dT,dF]at h1)
 ·have e:¬a=b:=λe=>h1 (by rw[e]);first|exact aA (by simp[e]) rfl|exact aB (by simp[e])
 have hab:a.length=b.length:=by omega
 refine aJ.inv mixed rfl (ι:={k:Nat//k<=(a).length/\a.take k=b.take k}) (λk=>[(0,aD (a.map aK)),(1,aD (b.map aK)),(5,int k.1)]) (λk=>[]) 64 (λk=>(a).length-k.1) ⟨0,by omega,by simp⟩ [] (by constructor<;>simp) ?_;rintro⟨k,hk1,hi⟩ B hB;refine CI.n ?_;simp;refine aE (λh=>?_) (λh=>?_)
 ·have hk:k<(a).length:=by simpa using h
  obtain⟨x,hx,hr,hm,ht,hd,hw⟩:=bB hk;simp only[h];simp[hr,hw];have hrb:b[k]? =some b[k]:=bL (by omega);have htb:b.take (k+1)=b.take k++[b[k]]:=by rw[eW,hrb];rfl
  have hne:x≠b[k]->a≠b:=by
   intro h2 e;subst e;rw[hr]at hrb;cases hrb;exact h2 rfl
  generalize b[k]=y at hrb htb hne;have hxy:(decide (x.kind=y.kind)&&decide (x.name=y.name))=decide (x=y):=by
   obtain⟨p,q⟩:=x;obtain⟨u,v⟩:=y;simp[Key.mk.injEq]
  simp[hrb];refine⟨by decide+kernel,?_⟩;refine aE (λh2=>?_) (λh2=>?_)<;>simp only[h2]<;>simp[hr,hrb]<;>(try simp only[nT,nF,dT,dF]at h2)
  ·have h3:¬x=y:=by
    rw[<-vZ,hxy]at h2;simpa using h2
   first|exact aA (by simp[hne h3]) rfl|exact aB (by simp[hne h3])
  ·have h3:x=y:=by
    rw[<-vZ,hxy]at h2;simpa using h2
   refine hB _ ⟨k+1,by omega,by rw[ht,htb,hi,h3]⟩ [] ?_ (by simp;omega);constructor<;>simp[hw]
 ·obtain rfl:k=(a).length:=by simp at h;omega
  simp only[h];simp;have e:a=b:=by
   rw[bK,hab,bK]at hi;exact hi
  first|exact aA (by simp[e]) rfl|exact aB (by simp[e])
attribute [simp] Tryz.ntmps66 Tryz.results66
theorem Ax (r:aC)(hl:r.rules.length<=9223372036854775807):Ct Tryz.prog 66 [st (aF r)] [] [] (bool (mS r)) []:=by
 refine Ct.B Tryz.func66 ?_;simp;refine aJ.inv mixed rfl (ι:={k:Nat//k<=(r.rules).length/\(r.rules.take k).all oA=true}) (λk=>[(1,.ptr 64 0),(3,int k.1)]) (λk=>[(64,.cells ((aF r).map .d) 82)]) 65 (λk=>(r.rules).length-k.1) ⟨0,by omega,by simp⟩ [] (by constructor<;>simp) ?_;rintro⟨k,hk1,hi⟩ B hB;refine CI.n ?_;simp;refine aE (λh=>?_) (λh=>?_)
 ·have hk:k<(r.rules).length:=by simpa using h
  obtain⟨x,hx,hr,hm,ht,hd,hw⟩:=bB hk;simp only[h];simp[hr,hw];have ef:oA x=false->mS r=false:=λe=>by
   have:r.rules.all oA=false:=by rw[gY];exact⟨x,hm,by simp[e]⟩
   simp only[mS,this,rM]
  have s1:=iX x.host;have s2:=iX x.pre;refine aM (λh1=>?_) (λh1=>?_)<;>simp only[h1]<;>simp[hr]<;>(try simp only[nT,nF,dT,dF]at h1)
  ·first|exact aA (by simp[ef (by simp[oA];omega)]) rfl|exact aB (by simp[ef (by simp[oA];omega)])
  refine aM (λh2=>?_) (λh2=>?_)<;>simp only[h2]<;>simp[hr]<;>(try simp only[nT,nF,dT,dF]at h2)
  ·first|exact aA (by simp[ef (by simp[oA];omega)]) rfl|exact aB (by simp[ef (by simp[oA];omega)])
  refine aE (λh3=>?_) (λh3=>?_)<;>simp only[h3]<;>simp[hr]<;>(try simp only[nT,nF,dT,dF]at h3)
  ·first|exact aA (by simp[ef (by simp[oA];omega)]) rfl|exact aB (by simp[ef (by simp[oA];omega)])
  ·have e:oA x=true:=by simp[oA];omega
   refine hB _ ⟨k+1,by omega,by simp[ht,hi,e]⟩ [] ?_ (by simp;omega);constructor<;>simp[hw,ht,e]
 ·obtain rfl:k=(r.rules).length:=by simp at h;omega
  simp only[h];simp;rw[bK]at hi;have s3:=iX r.name;have s4:=iX r.to;refine aM (λg1=>?_) (λg1=>?_)<;>simp only[g1]<;>simp<;>(try simp only[nT,nF,dT,dF]at g1)
  ·have a1:r.rules.length<=20:=by omega
   refine aM (λg2=>?_) (λg2=>?_)<;>simp only[g2]<;>simp<;>(try simp only[nT,nF,dT,dF]at g2)
   ·have a2:r.bE.length<=20:=by omega
    refine aM (λg3=>?_) (λg3=>?_)<;>simp only[g3]<;>simp<;>(try simp only[nT,nF,dT,dF]at g3)
    ·have a3:(bs r.name).length<=100:=by omega
     by_cases g4:(bs r.to).length<=100
     ·exact aA (by simp[mS,hi,a1,a2,a3,g4,s4];try omega) rfl
     ·exact aA (by simp[mS,hi,a1,a2,a3,g4,s4];try omega) rfl
    ·have a3:¬(bs r.name).length<=100:=by omega
     first|exact aA (by simp[mS,a3]) rfl|exact aB (by simp[mS,a3])
   ·have a2:¬r.bE.length<=20:=by omega
    first|exact aA (by simp[mS,a2]) rfl|exact aB (by simp[mS,a2])
  ·have a1:¬r.rules.length<=20:=by omega
   first|exact aA (by simp[mS,a1]) rfl|exact aB (by simp[mS,a1])
attribute [simp] Tryz.ntmps203 Tryz.results203
theorem TB (a b:List gF)(hl:a.length<=9223372036854775807/\∀x∈a,x.split.length<=9223372036854775807):Ct Tryz.prog 203 [aD (a.map dZ),aD (b.map dZ)] [] [] (bool (decide (a=b))) []:=by
 refine Ct.B Tryz.func203 ?_;simp;obtain⟨hl1,hl2⟩:=hl;refine aE (λh1=>?_) (λh1=>?_)<;>simp only[h1]<;>simp<;>(try simp only[nT,nF,dT,dF]at h1)
 ·have e:¬a=b:=λe=>h1 (by rw[e]);first|exact aA (by simp[e]) rfl|exact aB (by simp[e])
 have hab:a.length=b.length:=by omega
 refine aJ.inv mixed rfl (ι:={k:Nat//k<=(a).length/\a.take k=b.take k}) (λk=>[(0,aD (a.map dZ)),(1,aD (b.map dZ)),(5,int k.1)]) (λk=>[]) 64 (λk=>(a).length-k.1) ⟨0,by omega,by simp⟩ [] (by constructor<;>simp) ?_;rintro⟨k,hk1,hi⟩ B hB;refine CI.n ?_;simp;refine aE (λh=>?_) (λh=>?_)
 ·have hk:k<(a).length:=by simpa using h
  obtain⟨x,hx,hr,hm,ht,hd,hw⟩:=bB hk;simp only[h];simp[hr,hw];have hrb:b[k]? =some b[k]:=bL (by omega);have htb:b.take (k+1)=b.take k++[b[k]]:=by rw[eW,hrb];rfl
  have hne:x≠b[k]->a≠b:=by
   intro h2 e;subst e;rw[hr]at hrb;cases hrb;exact h2 rfl
  generalize b[k]=y at hrb htb hne;simp[hrb];refine aM (λh2=>?_) (λh2=>?_)<;>simp only[h2]<;>simp[hr,hrb]<;>(try simp only[nT,nF,dT,dF]at h2)
  ·refine⟨by decide+kernel,?_⟩;first|exact aA (by simp[hne (λe=>h2 (by rw[e]))]) rfl|exact aB (by simp[hne (λe=>h2 (by rw[e]))])
  refine aM (λh3=>?_) (λh3=>?_)<;>simp only[h3]<;>simp[hr,hrb]<;>(try simp only[nT,nF,dT,dF]at h3)
  ·refine⟨by decide+kernel,?_⟩;first|exact aA (by simp[hne (λe=>h3 (by rw[e]))]) rfl|exact aB (by simp[hne (λe=>h3 (by rw[e]))])
  refine⟨by decide+kernel,?_⟩;refine aE (λh4=>?_) (λh4=>?_)<;>simp only[h4]<;>simp[hr,hrb]<;>(try simp only[nT,nF,dT,dF]at h4)
  ·first|exact aA (by simp[hne (λe=>h4 (by rw[e]))]) rfl|exact aB (by simp[hne (λe=>h4 (by rw[e]))])
  have h4':x.split.length=y.split.length:=by omega
  have h5:=hl2 x hm;refine aJ.inv mixed rfl (ι:={kj:Nat//kj<=(x.split).length/\x.split.take kj=y.split.take kj}) (λkj=>[(0,aD (a.map dZ)),(1,aD (b.map dZ)),(5,int k),(6,int kj.1)]) (λkj=>[]) 64 (λkj=>(x.split).length-kj.1) ⟨0,by omega,by simp⟩ [] (by constructor<;>simp[hr]) ?_;rintro⟨kj,hk1j,hij⟩ Bj hBj;refine CI.n ?_;simp[hr];refine aE (λhj=>?_) (λhj=>?_)
  ·have hkj:kj<(x.split).length:=by simpa using hj
   obtain⟨w,hxj,hrj,hmj,htj,hdj,hwj⟩:=bB hkj;simp only[hj];simp[hrj,hwj,hr,hrb];have hrc:y.split[kj]? =some y.split[kj]:=bL (by omega);have htc:y.split.take (kj+1)=y.split.take kj++[y.split[kj]]:=by rw[eW,hrc];rfl
   have hnc:w≠y.split[kj]->x≠y:=by
    intro h2 e;subst e;rw[hrj]at hrc;cases hrc;exact h2 rfl
   generalize y.split[kj]=v at hrc htc hnc;have hwv:(decide (w.jF=v.jF)&&decide (w.w=v.w))=decide (w=v):=by
    obtain⟨p,q⟩:=w;obtain⟨u,t⟩:=v;simp[Weight.mk.injEq]
   simp[hrc,hr,hrb,hrj];refine⟨by decide+kernel,?_⟩;refine aE (λh6=>?_) (λh6=>?_)<;>simp only[h6]<;>simp[hr,hrb,hrj,hrc]<;>(try simp only[nT,nF,dT,dF]at h6)
   ·have h7:¬w=v:=by
     rw[<-vZ,hwv]at h6;simpa using h6
    first|exact aA (by simp[hne (hnc h7)]) rfl|exact aB (by simp[hne (hnc h7)])
   ·have h7:w=v:=by
     rw[<-vZ,hwv]at h6;simpa using h6
    refine hBj _ ⟨kj+1,by omega,by rw[htj,htc,hij,h7]⟩ [] ?_ (by simp;omega);constructor<;>simp[hwj]
  ·obtain rfl:kj=(x.split).length:=by simp at hj;omega
   simp only[hj];simp[hw];have e:x=y:=by
    rw[bK,h4',bK]at hij;obtain⟨p,q,t⟩:=x;obtain⟨p',q',t'⟩:=y;simp only at h2 h3 hij;rw[h2,h3,hij]
   refine hB _ ⟨k+1,by omega,by rw[ht,htb,hi,e]⟩ [] ?_ (by simp;omega);constructor<;>simp[hw]
 ·obtain rfl:k=(a).length:=by simp at h;omega
  simp only[h];simp;have e:a=b:=by
   rw[bK,hab,bK]at hi;exact hi
  first|exact aA (by simp[e]) rfl|exact aB (by simp[e])
attribute [simp] Tryz.ntmps151 Tryz.results151
theorem Gd (a b:aC)(hl:qB a):Ct Tryz.prog 151 [st (aF a),st (aF b)] [] [] (bool (dX a b)) []:=by
 refine Ct.B Tryz.func151 ?_;simp;refine aM (λh1=>?_) (λh1=>?_)<;>simp only[h1]<;>simp<;>(try simp only[nT,nF,dT,dF]at h1)
 ·first|exact aA (by simp[dX,h1]) rfl|exact aB (by simp[dX,h1])
 refine aM (λh2=>?_) (λh2=>?_)<;>simp only[h2]<;>simp<;>(try simp only[nT,nF,dT,dF]at h2)
 ·first|exact aA (by simp[dX,h2]) rfl|exact aB (by simp[dX,h2])
 refine aM (λh3=>?_) (λh3=>?_)<;>simp only[h3]<;>simp<;>(try simp only[nT,nF,dT,dF]at h3)
 ·first|exact aA (by simp[dX,h3]) rfl|exact aB (by simp[dX,h3])
 refine aM (λh4=>?_) (λh4=>?_)<;>simp only[h4]<;>simp<;>(try simp only[nT,nF,dT,dF]at h4)
 ·first|exact aA (by simp[dX,h4]) rfl|exact aB (by simp[dX,h4])
 refine aE (λh5=>?_) (λh5=>?_)<;>simp only[h5]<;>simp<;>(try simp only[nT,nF,dT,dF]at h5)
 ·have e:¬a.bE=b.bE:=λe=>h5 (by rw[e]);first|exact aA (by simp[dX,e]) rfl|exact aB (by simp[dX,e])
 have hab:a.bE.length=b.bE.length:=by omega
 have hh:=hl.bE;refine aJ.inv mixed rfl (ι:={k:Nat//k<=(a.bE).length/\a.bE.take k=b.bE.take k}) (λk=>[(2,.ptr 64 0),(3,.ptr 65 0),(5,int k.1)]) (λk=>[(64,.cells ((aF a).map .d) 82),(65,.cells ((aF b).map .d) 82)]) 66 (λk=>(a.bE).length-k.1) ⟨0,by omega,by simp⟩ [] (by constructor<;>simp) ?_;rintro⟨k,hk1,hi⟩ B hB;refine CI.n ?_;simp;refine aE (λh=>?_) (λh=>?_)
 ·have hk:k<(a.bE).length:=by simpa using h
  obtain⟨x,hx,hr,hm,ht,hd,hw⟩:=bB hk;simp only[h];simp[hr,hw];have hrb:b.bE[k]? =some b.bE[k]:=bL (by omega);have htb:b.bE.take (k+1)=b.bE.take k++[b.bE[k]]:=by rw[eW,hrb];rfl
  have hne:x≠b.bE[k]->a.bE≠b.bE:=by
   intro h2 e;exact h2 (kJ (by rw[<-hr,<-hrb,e]))
  generalize b.bE[k]=y at hrb htb hne;simp[hrb];refine⟨by decide+kernel,?_⟩;refine aE (λh6=>?_) (λh6=>?_)<;>simp only[h6]<;>simp[hr,hrb]<;>(try simp only[nT,nF,dT,dF]at h6)
  ·have e:¬a.bE=b.bE:=hne h6;first|exact aA (by simp[dX,e]) rfl|exact aB (by simp[dX,e])
  ·have h6':x=y:=by omega
   refine hB _ ⟨k+1,by omega,by rw[ht,htb,hi,h6']⟩ [] ?_ (by simp;omega);constructor<;>simp[hw]
 ·obtain rfl:k=(a.bE).length:=by simp at h;omega
  simp only[h];simp;have e:a.bE=b.bE:=by
   rw[bK,hab,bK]at hi;exact hi
  refine CI.p (TB a.rules b.rules ⟨hl.rules,hl.split⟩) ?_;simp;first|exact aA (by simp[dX,h1,h2,h3,h4,e]) rfl|exact aB (by simp[dX,h1,h2,h3,h4,e])
attribute [simp] Tryz.ntmps109 Tryz.results109
theorem DC (a b:aC)(hl:qB a):Ct Tryz.prog 109 [st (aF a),st (aF b)] [] [] (bool (decide (a=b))) []:=by
 refine Ct.B Tryz.func109 ?_;simp;refine CI.p (Gd a b hl) ?_;simp;rw[<-OS];refine aM (λh1=>?_) (λh1=>?_)<;>simp only[h1]<;>simp<;>(try simp only[nT,nF,dT,dF]at h1)
 ·first|exact aA (by simp[h1]) rfl|exact aB (by simp[h1])
 ·first|exact aA (by simp[h1]) rfl|exact aB (by simp[h1])
attribute [simp] Tryz.ntmps101 Tryz.results101
theorem OR (a b:List aC)(hl:gG a):Ct Tryz.prog 101 [aD (a.map aF),aD (b.map aF)] [] [] (bool (decide (a=b))) []:=by
 refine Ct.B Tryz.func101 ?_;simp;refine aE (λh1=>?_) (λh1=>?_)<;>simp only[h1]<;>simp<;>(try simp only[nT,nF,dT,dF]at h1)
 ·have e:¬a=b:=λe=>h1 (by rw[e]);first|exact aA (by simp[e]) rfl|exact aB (by simp[e])
 have hab:a.length=b.length:=by omega
 have hh:=hl.len;refine aJ.inv mixed rfl (ι:={k:Nat//k<=(a).length/\a.take k=b.take k}) (λk=>[(0,aD (a.map aF)),(1,aD (b.map aF)),(5,int k.1)]) (λk=>[]) 64 (λk=>(a).length-k.1) ⟨0,by omega,by simp⟩ [] (by constructor<;>simp) ?_;rintro⟨k,hk1,hi⟩ B hB;refine CI.n ?_;simp;refine aE (λh=>?_) (λh=>?_)
 ·have hk:k<(a).length:=by simpa using h
  obtain⟨x,hx,hr,hm,ht,hd,hw⟩:=bB hk;simp only[h];simp[hr,hw];have hrb:b[k]? =some b[k]:=bL (by omega);have htb:b.take (k+1)=b.take k++[b[k]]:=by rw[eW,hrb];rfl
  have hne:x≠b[k]->a≠b:=by
   intro h2 e;subst e;rw[hr]at hrb;cases hrb;exact h2 rfl
  generalize b[k]=y at hrb htb hne;simp[hrb];refine CI.p (DC x y (hl.all x hm)) ?_;simp;refine⟨by decide+kernel,?_⟩;refine aE (λh2=>?_) (λh2=>?_)<;>simp only[h2]<;>simp<;>(try simp only[nT,nF,dT,dF]at h2)
  ·first|exact aA (by simp[hne h2]) rfl|exact aB (by simp[hne h2])
  ·refine hB _ ⟨k+1,by omega,by rw[ht,htb,hi,h2]⟩ [] ?_ (by simp;omega);constructor<;>simp[hw]
 ·obtain rfl:k=(a).length:=by simp at h;omega
  simp only[h];simp;have e:a=b:=by
   rw[bK,hab,bK]at hi;exact hi
  first|exact aA (by simp[e]) rfl|exact aB (by simp[e])
attribute [simp] Tryz.ntmps28 Tryz.results28
theorem FK (l:List aC)(hl:gG l):Ct Tryz.prog 28 [aD (l.map aF)] [] [] (bool (oZ l)) []:=by
 refine Ct.B Tryz.func28 ?_;simp;have hh:=hl.len;refine aJ.inv mixed rfl (ι:={k:Nat//k<=(l).length/\(l.take k).all mS=true}) (λk=>[(0,aD (l.map aF)),(3,int k.1)]) (λk=>[]) 64 (λk=>(l).length-k.1) ⟨0,by omega,by simp⟩ [] (by constructor<;>simp) ?_;rintro⟨k,hk1,hi⟩ B hB;refine CI.n ?_;simp;refine aE (λh=>?_) (λh=>?_)
 ·have hk:k<(l).length:=by simpa using h
  obtain⟨x,hx,hr,hm,ht,hd,hw⟩:=bB hk;simp only[h];simp[hr,hw];refine CI.p (Ax x (hl.all x hm).rules) ?_;simp;refine aE (λh1=>?_) (λh1=>?_)<;>simp only[h1]<;>simp<;>(try simp only[nT,nF,dT,dF]at h1)
  ·have e:l.all mS=false:=by rw[gY];exact⟨x,hm,by simp[h1]⟩
   first|exact aA (by simp[oZ,e]) rfl|exact aB (by simp[oZ,e])
  ·refine hB _ ⟨k+1,by omega,by simp[ht,hi,h1]⟩ [] ?_ (by simp;omega);constructor<;>simp[hw,ht,h1]
 ·obtain rfl:k=(l).length:=by simp at h;omega
  simp only[h];simp;rw[bK]at hi;exact aA (by simp[oZ,hi];try omega) rfl
attribute [simp] Tryz.ntmps136 Tryz.results136
theorem vD (l:List aC)(k_:Key)(hl:l.length<=9223372036854775807):Ct Tryz.prog 136 [aD (l.map aF),st (aK k_)] [] [] (MN l k_) []:=by
 refine Ct.B Tryz.func136 ?_;simp;refine aJ.inv mixed rfl (ι:={k:Nat//k<=(l).length/\(l.take k).all (λr=>!decide (r.key=k_))=true}) (λk=>[(0,aD (l.map aF)),(3,.ptr 64 0),(4,.ptr 65 0),(6,int k.1)]) (λk=>[(64,.cells ((aK k_).map .d) 86),(65,.cells [.d (iD 0),.d (sD ⟨#[]⟩),.d (iD 0),.d (iD 0),.d (sD ⟨#[]⟩),.d (.v (.slice none 0 0)),.d (.v (.slice none 0 0))] 82)]) 66 (λk=>(l).length-k.1) ⟨0,by omega,by simp⟩ [] (by constructor<;>simp) ?_;rintro⟨k,hk1,hi⟩ B hB;refine CI.n ?_;simp;refine aE (λh=>?_) (λh=>?_)
 ·have hk:k<(l).length:=by simpa using h
  obtain⟨x,hx,hr,hm,ht,hd,hw⟩:=bB hk;simp only[h];simp[hr,hw];refine CI.p (l5 x) ?_;simp;rw[q9];refine⟨by decide+kernel,?_⟩;refine aE (λh1=>?_) (λh1=>?_)<;>simp only[h1]<;>simp[hr]<;>(try simp only[nT,nF,dT,dF]at h1)
  ·have e:aQ l k_=some x:=xL hi hr (by simpa using h1);first|exact aA (by simp[e]) rfl|exact aB (by simp[e])
  ·refine hB _ ⟨k+1,by omega,by simp[ht,hi,h1]⟩ [] ?_ (by simp;omega);constructor<;>simp[hw,ht,h1]
 ·obtain rfl:k=(l).length:=by simp at h;omega
  simp only[h];simp;rw[bK]at hi;have e:aQ l k_=none:=BA hi;first|exact aA (by simp[e,kK]) rfl|exact aB (by simp[e,kK])
attribute [simp] Tryz.ntmps137 Tryz.results137
theorem JK (l:List aC)(k_:Key)(c:Int)(hl:l.length<=1000000)(hn:nB k_.name):Ct Tryz.prog 137 [aD (l.map aF),st (aK k_),int c] [] [] (.own 64) [(64,.grow 7 ((kC l k_ c).map aF) 82)]:=by
 refine Ct.B Tryz.func137 ?_;simp;refine aJ.gK 7 7 82 rfl ?_;refine aJ.V (l) (λk=>[(0,aD (l.map aF)),(2,int c),(4,.ptr 64 0),(7,.own 65),(8,int k.1)]) (λk=>[(64,.cells ((aK k_).map .d) 86),(65,.grow 7 ((kC (l.take k.1) k_ c).map aF) 82)]) 66 (λk hk1 B hB=>?_);simp;refine aE (λh=>?_) (λh=>?_)
 ·have hk:k<(l).length:=by simpa using h
  obtain⟨x,hx,hr,hm,ht,hd,hw⟩:=bB hk;simp only[h];simp[hr,hw];have hlen:(kC (l.take k) k_ c).length<=1000000:=cD (eE _ _) (by simp;omega);refine CI.p (l5 x) ?_;simp;refine CI.p (NZ x.key k_ (.inr hn)) ?_;simp;refine⟨by decide+kernel,?_⟩;refine aE (λh1=>?_) (λh1=>?_)<;>simp only[h1]<;>simp[hr]<;>(try simp only[nT,nF,dT,dF]at h1)
  ·refine⟨by omega,?_⟩;exact hB hk (by constructor<;>simp[hw,ht,jM,h1])
  ·exact hB hk (by constructor<;>simp[hw,ht,jM,h1])
 ·obtain rfl:k=(l).length:=by simp at h;omega
  simp only[h];simp;exact Ap 65 (by simp) rfl
attribute [simp] Tryz.ntmps85 Tryz.results85
theorem CU (l:List aC)(r:aC)(hl:l.length<=1000000)(hn:nB r.name):Ct Tryz.prog 85 [aD (l.map aF),st (aF r)] [] [] (aD ((hC l r).map aF)) []:=by
 refine Ct.B Tryz.func85 ?_;simp;have hlen:∀c,(kC l r.key c).length<=1000000:=λc=>cD (eE _ _) hl;have h1:=hlen 1;have h2:=hlen (-1);refine CI.p (l5 r) ?_;simp;refine CI.cc [] (JK l r.key (-1) hl hn) ?_;simp;refine⟨by omega,?_⟩;refine CI.cc [] (JK l r.key 1 hl hn) ?_;simp;refine⟨by omega,?_⟩;first|exact aA (by simp) rfl|exact aB (by simp)
attribute [simp] Tryz.ntmps182 Tryz.results182
theorem PJ (l:List aC)(k_:Key)(hl:l.length<=1000000):Ct Tryz.prog 182 [aD (l.map aF),st (aK k_)] [] [] (aD ((gZ l k_).map aF)) []:=by
 refine Ct.B Tryz.func182 ?_;simp;refine aJ.gK 5 7 82 rfl ?_;refine aJ.V (l) (λk=>[(0,aD (l.map aF)),(3,.ptr 64 0),(5,.own 65),(6,int k.1)]) (λk=>[(64,.cells ((aK k_).map .d) 86),(65,.grow 7 ((gZ (l.take k.1) k_).map aF) 82)]) 66 (λk hk1 B hB=>?_);simp;refine aE (λh=>?_) (λh=>?_)
 ·have hk:k<(l).length:=by simpa using h
  obtain⟨x,hx,hr,hm,ht,hd,hw⟩:=bB hk;simp only[h];simp[hr,hw];have hlen:(gZ (l.take k) k_).length<=1000000:=cD (eE _ _) (by simp;omega);refine CI.p (l5 x) ?_;simp;rw[EP];refine⟨by decide+kernel,?_⟩;refine aE (λh1=>?_) (λh1=>?_)<;>simp only[h1]<;>simp[hr]<;>(try simp only[nT,nF,dT,dF]at h1)
  ·refine⟨by omega,?_⟩;exact hB hk (by constructor<;>simp[hw,ht,jM,h1])
  ·exact hB hk (by constructor<;>simp[hw,ht,jM,h1])
 ·obtain rfl:k=(l).length:=by simp at h;omega
  simp only[h];simp;first|exact aA (by simp) rfl|exact aB (by simp)
attribute [simp] Tryz.ntmps138 Tryz.results138
theorem U4 (l aL:List aC)(gone:List Key)(hl:l.length+aL.length<=1000000)(hg:gone.length<=9223372036854775807)(hn:∀r∈aL,nB r.name):Ct Tryz.prog 138 [aD (l.map aF),aD (aL.map aF),aD (gone.map aK)] [] [] (aD ((jQ l aL gone).map aF)) []:=by
 refine Ct.B Tryz.func138 ?_;simp;refine aJ.V (gone) (λk=>[(0,aD (((gone.take k.1).foldl gZ l).map aF)),(1,aD (aL.map aF)),(2,aD (gone.map aK)),(7,int k.1)]) (λk=>[]) 64 (λk hk1 B hB=>?_);simp;refine aE (λh=>?_) (λh=>?_)
 ·have hk:k<(gone).length:=by simpa using h
  obtain⟨x,hx,hr,hm,ht,hd,hw⟩:=bB hk;simp only[h];simp[hr,hw];have h1:=vE (gone.take k) l;refine CI.p (PJ ((gone.take k).foldl gZ l) x (by omega)) ?_;simp;exact hB hk (by constructor<;>simp[hw,ht,mY])
 ·obtain rfl:k=(gone).length:=by simp at h;omega
  simp only[h];simp;have h1:=vE gone l;refine aJ.V (aL) (λk=>[(0,aD (((aL.take k.1).foldl hC (gone.foldl gZ l)).map aF)),(1,aD (aL.map aF)),(8,int k.1)]) (λk=>[]) 64 (λk hk1 B hB=>?_);simp;refine aE (λh=>?_) (λh=>?_)
  ·have hk:k<(aL).length:=by simpa using h
   obtain⟨x,hx,hr,hm,ht,hd,hw⟩:=bB hk;simp only[h];simp[hr,hw];have h2:=xI (aL.take k) (gone.foldl gZ l);have h3:(aL.take k).length<=aL.length:=by simp;omega
   refine CI.p (CU ((aL.take k).foldl hC (gone.foldl gZ l)) x (by omega) (hn x hm)) ?_;simp;exact hB hk (by constructor<;>simp[hw,ht,mY])
  ·obtain rfl:k=(aL).length:=by simp at h;omega
   simp only[h];simp;first|exact aA (by simp[jQ]) rfl|exact aB (by simp[jQ])
attribute [simp] Tryz.ntmps148 Tryz.results148
theorem A0 (l:List Key)(k_:Key)(hl:l.length<=9223372036854775807):Ct Tryz.prog 148 [aD (l.map aK),st (aK k_)] [] [] (bool (decide (k_∈l))) []:=by
 refine Ct.B Tryz.func148 ?_;simp;refine aJ.inv mixed rfl (ι:={k:Nat//k<=(l).length/\k_∉l.take k}) (λk=>[(0,aD (l.map aK)),(3,.ptr 64 0),(5,int k.1)]) (λk=>[(64,.cells ((aK k_).map .d) 86)]) 65 (λk=>(l).length-k.1) ⟨0,by omega,by simp⟩ [] (by constructor<;>simp) ?_;rintro⟨k,hk1,hi⟩ B hB;refine CI.n ?_;simp;refine aE (λh=>?_) (λh=>?_)
 ·have hk:k<(l).length:=by simpa using h
  obtain⟨x,hx,hr,hm,ht,hd,hw⟩:=bB hk;simp only[h];simp[hr,hw];rw[q9];refine⟨by decide+kernel,?_⟩;refine aE (λh1=>?_) (λh1=>?_)<;>simp only[h1]<;>simp[hr]<;>(try simp only[nT,nF,dT,dF]at h1)
  ·have e:k_∈l:=by rw[<-h1];exact hm
   first|exact aA (by simp[e]) rfl|exact aB (by simp[e])
  ·refine hB _ ⟨k+1,by omega,by rw[ht];simp[hi];exact λe=>h1 e.symm⟩ [] ?_ (by simp;omega);constructor<;>simp[hw]
 ·obtain rfl:k=(l).length:=by simp at h;omega
  simp only[h];simp;rw[bK]at hi;first|exact aA (by simp[hi]) rfl|exact aB (by simp[hi])
attribute [simp] Tryz.ntmps149 Tryz.results149
theorem TX (l:List aC)(k_:Key)(hl:l.length<=1000000):Ct Tryz.prog 149 [aD (l.map aF),st (aK k_)] [] [] (aD ((qO l k_).map aK)) []:=by
 refine Ct.B Tryz.func149 ?_;simp;refine aJ.gK 5 2 86 rfl ?_;refine aJ.V (l) (λk=>[(0,aD (l.map aF)),(3,.ptr 64 0),(5,.own 65),(6,int k.1)]) (λk=>[(64,.cells ((aK k_).map .d) 86),(65,.grow 2 ((qO (l.take k.1) k_).map aK) 86)]) 66 (λk hk1 B hB=>?_);simp;refine aE (λh=>?_) (λh=>?_)
 ·have hk:k<(l).length:=by simpa using h
  obtain⟨x,hx,hr,hm,ht,hd,hw⟩:=bB hk;simp only[h];simp[hr,hw];have hlen:((l.take k).filter λr=>decide (k_∈bJ r)).length<=1000000:=cD (eE _ _) (by simp;omega);refine CI.p (IN x) ?_;simp;refine CI.p (A0 (bJ x) k_ (IQ x)) ?_;simp;refine⟨by decide+kernel,?_⟩;refine aE (λh1=>?_) (λh1=>?_)<;>simp only[h1]<;>simp[hr]<;>(try simp only[nT,nF,dT,dF]at h1)
  ·refine CI.p (l5 x) ?_;simp;refine⟨by omega,?_⟩;exact hB hk (by constructor<;>simp[hw,ht,jM,h1])
  ·exact hB hk (by constructor<;>simp[hw,ht,jM,h1])
 ·obtain rfl:k=(l).length:=by simp at h;omega
  simp only[h];simp;first|exact aA (by simp) rfl|exact aB (by simp)
attribute [simp] Tryz.ntmps6 Tryz.results6
theorem M6 (f:G.Frame)(hl:eD f):Ct Tryz.prog 6 [st (bU f)] [] [] (bool (mT f)) []:=by
 refine Ct.B Tryz.func6 ?_;simp;have hh:=hl.aI;refine aJ.inv mixed rfl (ι:={k:Nat//k<=(f.aI).length/\((f.aI.take k).all λm=>decide ((bs m.k.name).length<=100))=true}) (λk=>[(1,.ptr 64 0),(3,int k.1)]) (λk=>[(64,.cells ((bU f).map .d) 31)]) 65 (λk=>(f.aI).length-k.1) ⟨0,by omega,by simp⟩ [] (by constructor<;>simp) ?_;rintro⟨k,hk1,hi⟩ B hB;refine CI.n ?_;simp;refine aE (λh=>?_) (λh=>?_)
 ·have hk:k<(f.aI).length:=by simpa using h
  obtain⟨x,hx,hr,hm,ht,hd,hw⟩:=bB hk;simp only[h];simp[hr,hw];have s1:=iX x.k.name;refine aE (λh1=>?_) (λh1=>?_)<;>simp only[h1]<;>simp[hr,s1]<;>(try simp only[nT,nF,dT,dF]at h1)
  ·have e:(f.aI.all λm=>decide ((bs m.k.name).length<=100))=false:=by
    rw[gY];exact⟨x,hm,by simp;omega⟩
   first|exact aA (by simp[mT,e]) rfl|exact aB (by simp[mT,e])
  ·have e:(bs x.k.name).length<=100:=by omega
   refine hB _ ⟨k+1,by omega,by simp[ht,hi,e]⟩ [] ?_ (by simp;omega);constructor<;>simp[hw,ht,e]
 ·obtain rfl:k=(f.aI).length:=by simp at h;omega
  simp only[h];simp;rw[bK]at hi;refine CI.p (FK f.aL hl.aL) ?_;simp;refine aM (λh1=>?_) (λh1=>?_)<;>simp only[h1]<;>simp<;>(try simp only[nT,nF,dT,dF]at h1)
  ·refine aM (λh2=>?_) (λh2=>?_)<;>simp only[h2]<;>simp<;>(try simp only[nT,nF,dT,dF]at h2)
   ·have a2:f.gone.length<=80:=by omega
    refine aM (λh3=>?_) (λh3=>?_)<;>simp only[h3]<;>simp<;>(try simp only[nT,nF,dT,dF]at h3)
    ·have a3:f.aI.length<=80:=by omega
     exact aA (by simp[mT,hi,h1,a2,a3];try omega) rfl
    ·have a3:¬f.aI.length<=80:=by omega
     first|exact aA (by simp[mT,a3]) rfl|exact aB (by simp[mT,a3])
   ·have a2:¬f.gone.length<=80:=by omega
    first|exact aA (by simp[mT,a2]) rfl|exact aB (by simp[mT,a2])
  ·first|exact aA (by simp[mT,h1]) rfl|exact aB (by simp[mT,h1])
theorem Aa {a b:G.Frame}(h1:a.type=b.type)(h2:a.cA=b.cA)(h3:a.kind=b.kind)(h4:a.eY=b.eY)(h5:a.cK=b.cK)(h6:a.err=b.err)(h7:a.aI=b.aI):decide (a=b)=(decide (a.aL=b.aL)&&decide (a.gone=b.gone)&&decide (a.held=b.held)):=by
 obtain⟨a1,a2,a3,a4,a5,a6,a7,a8,a9,a10⟩:=a;obtain⟨b1,b2,b3,b4,b5,b6,b7,b8,b9,b10⟩:=b;simp only at h1 h2 h3 h4 h5 h6 h7;subst h1 h2 h3 h4 h5 h6 h7;rw[pH];simp[and_assoc]
attribute [simp] Tryz.ntmps50 Tryz.results50
theorem HZ (a b:G.Frame)(hl:eD a):Ct Tryz.prog 50 [st (bU a),st (bU b)] [] [] (bool (decide (a=b))) []:=by
 refine Ct.B Tryz.func50 ?_;simp;refine aM (λh1=>?_) (λh1=>?_)<;>simp only[h1]<;>simp<;>(try simp only[nT,nF,dT,dF]at h1)
 ·have e:¬a=b:=λe=>h1 (by rw[e]);first|exact aA (by simp[e]) rfl|exact aB (by simp[e])
 refine aM (λh2=>?_) (λh2=>?_)<;>simp only[h2]<;>simp<;>(try simp only[nT,nF,dT,dF]at h2)
 ·have e:¬a=b:=λe=>h2 (by rw[e]);first|exact aA (by simp[e]) rfl|exact aB (by simp[e])
 refine aM (λh3=>?_) (λh3=>?_)<;>simp only[h3]<;>simp<;>(try simp only[nT,nF,dT,dF]at h3)
 ·have e:¬a=b:=λe=>h3 (by rw[e]);first|exact aA (by simp[e]) rfl|exact aB (by simp[e])
 refine aM (λh4=>?_) (λh4=>?_)<;>simp only[h4]<;>simp<;>(try simp only[nT,nF,dT,dF]at h4)
 ·have e:¬a=b:=λe=>h4 (by rw[e]);first|exact aA (by simp[e]) rfl|exact aB (by simp[e])
 refine aM (λh5=>?_) (λh5=>?_)<;>simp only[h5]<;>simp<;>(try simp only[nT,nF,dT,dF]at h5)
 ·have e:¬a=b:=λe=>h5 (by rw[e]);first|exact aA (by simp[e]) rfl|exact aB (by simp[e])
 refine aM (λh6=>?_) (λh6=>?_)<;>simp only[h6]<;>simp<;>(try simp only[nT,nF,dT,dF]at h6)
 ·have e:¬a=b:=λe=>h6 (by rw[e]);first|exact aA (by simp[e]) rfl|exact aB (by simp[e])
 refine aE (λh7=>?_) (λh7=>?_)<;>simp only[h7]<;>simp<;>(try simp only[nT,nF,dT,dF]at h7)
 ·have e:¬a=b:=λe=>h7 (by rw[e]);first|exact aA (by simp[e]) rfl|exact aB (by simp[e])
 have hab:a.aI.length=b.aI.length:=by omega
 have hh:=hl.aI;refine aJ.inv mixed rfl (ι:={k:Nat//k<=(a.aI).length/\a.aI.take k=b.aI.take k}) (λk=>[(2,.ptr 64 0),(3,.ptr 65 0),(5,int k.1)]) (λk=>[(64,.cells ((bU a).map .d) 31),(65,.cells ((bU b).map .d) 31)]) 66 (λk=>(a.aI).length-k.1) ⟨0,by omega,by simp⟩ [] (by constructor<;>simp) ?_;rintro⟨k,hk1,hi⟩ B hB;refine CI.n ?_;simp;refine aE (λh=>?_) (λh=>?_)
 ·have hk:k<(a.aI).length:=by simpa using h
  obtain⟨x,hx,hr,hm,ht,hd,hw⟩:=bB hk;simp only[h];simp[hr,hw];have hrb:b.aI[k]? =some b.aI[k]:=bL (by omega);have htb:b.aI.take (k+1)=b.aI.take k++[b.aI[k]]:=by rw[eW,hrb];rfl
  have hne:x≠b.aI[k]->¬a=b:=by
   intro h2 e;subst e;rw[hr]at hrb;cases hrb;exact h2 rfl
  generalize b.aI[k]=y at hrb htb hne;simp[hrb];refine⟨by decide+kernel,?_⟩;refine aE (λh8=>?_) (λh8=>?_)<;>simp only[h8]<;>simp[hr,hrb]<;>(try simp only[nT,nF,dT,dF]at h8)
  ·have e:¬a=b:=hne (λe=>by subst e;simp at h8);first|exact aA (by simp[e]) rfl|exact aB (by simp[e])
  ·have e:x=y:=by
    have:=K1 x y;rw[pH]at this;simp at h8 this;exact this.1 (by simpa[and_assoc]using h8)
   refine hB _ ⟨k+1,by omega,by rw[ht,htb,hi,e]⟩ [] ?_ (by simp;omega);constructor<;>simp[hw]
 ·obtain rfl:k=(a.aI).length:=by simp at h;omega
  simp only[h];simp;have e:a.aI=b.aI:=by
   rw[bK,hab,bK]at hi;exact hi
  rw[Aa h1 h2 h3 h4 h5 h6 e];refine CI.p (OR a.aL b.aL hl.aL) ?_;simp;refine aM (λh8=>?_) (λh8=>?_)<;>simp only[h8]<;>simp<;>(try simp only[nT,nF,dT,dF]at h8)
  ·refine CI.p (EO a.gone b.gone hl.gone) ?_;simp;refine aM (λh9=>?_) (λh9=>?_)<;>simp only[h9]<;>simp<;>(try simp only[nT,nF,dT,dF]at h9)
   ·refine CI.p (EO a.held b.held hl.held) ?_;simp;first|exact aA (by simp[h8,h9]) rfl|exact aB (by simp[h8,h9])
   ·first|exact aA (by simp[h9]) rfl|exact aB (by simp[h9])
  ·first|exact aA (by simp[h8]) rfl|exact aB (by simp[h8])
attribute [simp] Tryz.ntmps29 Tryz.results29
theorem Au (v:View)(hl:yD v):Ct Tryz.prog 29 [st (iH v)] [] [] (bool (oY v)) []:=by
 refine Ct.B Tryz.func29 ?_;simp;refine CI.p (FK v.aI hl.aI) ?_;simp;refine aM (λh1=>?_) (λh1=>?_)<;>simp only[h1]<;>simp<;>(try simp only[nT,nF,dT,dF]at h1)
 ·refine aM (λh2=>?_) (λh2=>?_)<;>simp only[h2]<;>simp<;>(try simp only[nT,nF,dT,dF]at h2)
  ·have h2':v.held.length<=80:=by omega
   refine CI.p (M6 v.push hl.push) ?_;simp;first|exact aA (by simp[oY,h1,h2']) rfl|exact aB (by simp[oY,h1,h2'])
  ·have h2':¬v.held.length<=80:=by omega
   first|exact aA (by simp[oY,h2']) rfl|exact aB (by simp[oY,h2'])
 ·first|exact aA (by simp[oY,h1]) rfl|exact aB (by simp[oY,h1])
attribute [simp] Tryz.ntmps47 Tryz.results47
theorem HO (v:View)(f:G.Frame):Ct Tryz.prog 47 [st (iH v),st (bU f)] [] [] (st (iH (lU v f))) []:=by
 refine Ct.B Tryz.func47 ?_;simp;first|exact aA (by simp[lU]) rfl|exact aB (by simp[lU])
attribute [simp] Tryz.ntmps39 Tryz.results39
theorem NJ (v:View)(t:Int)(h:List Key):Ct Tryz.prog 39 [st (iH v),int t,aD (h.map aK)] [] [] (st (iH (gT v t h))) []:=by
 refine Ct.B Tryz.func39 ?_;simp;refine aE (λh1=>?_) (λh1=>?_)<;>simp only[h1]<;>simp<;>(try simp only[nT,nF,dT,dF]at h1)
 ·first|exact aA (by simp[gT,h1]) rfl|exact aB (by simp[gT,h1])
 ·first|exact aA (by simp[gT,h1]) rfl|exact aB (by simp[gT,h1])
attribute [simp] Tryz.ntmps88 Tryz.results88
theorem Fx (v:View)(f:G.Frame)(hl:v.aI.length+v.push.aL.length<=1000000)(hg:v.push.gone.length<=9223372036854775807)(hn:∀r∈v.push.aL,nB r.name):Ct Tryz.prog 88 [st (iH v),st (bU f)] [] [] (.bC [st (iH (dG v f)),int (gE v f)]) []:=by
 refine Ct.B Tryz.func88 ?_;simp;refine aE (λh1=>?_) (λh1=>?_)<;>simp only[h1]<;>simp<;>(try simp only[nT,nF,dT,dF]at h1)
 ·first|exact aA (by simp[dG,gE,h1]) rfl|exact aB (by simp[dG,gE,h1])
 refine aM (λh2=>?_) (λh2=>?_)<;>simp only[h2]<;>simp<;>(try simp only[nT,nF,dT,dF]at h2)
 ·first|exact aA (by simp[dG,gE,iN,h1,h2]) rfl|exact aB (by simp[dG,gE,iN,h1,h2])
 refine aM (λh3=>?_) (λh3=>?_)<;>simp only[h3]<;>simp<;>(try simp only[nT,nF,dT,dF]at h3)
 ·first|exact aA (by simp[dG,gE,iN,h1,h3]) rfl|exact aB (by simp[dG,gE,iN,h1,h3])
 refine aM (λh4=>?_) (λh4=>?_)<;>simp only[h4]<;>simp<;>(try simp only[nT,nF,dT,dF]at h4)
 ·first|exact aA (by simp[dG,gE,iN,h1,h4]) rfl|exact aB (by simp[dG,gE,iN,h1,h4])
 refine aE (λh5=>?_) (λh5=>?_)<;>simp only[h5]<;>simp<;>(try simp only[nT,nF,dT,dF]at h5)
 ·first|exact aA (by simp[dG,gE,iN,h1,h5]) rfl|exact aB (by simp[dG,gE,iN,h1,h5])
 have hfit:iN v f=true:=by simp[iN,h2,h3,h4,h5]
 refine CI.p (NJ ⟨v.aI,v.held,v.cK,cV,false⟩ f.cK f.held) ?_ (ha:=by simp[cV]);simp[cV];refine aE (λh6=>?_) (λh6=>?_)<;>simp only[h6]<;>simp<;>(try simp only[nT,nF,dT,dF]at h6)
 ·refine CI.p (U4 v.aI v.push.aL v.push.gone hl hg hn) ?_;simp;first|exact aA (by simp[dG,gE,h1,hfit,h6,cV]) rfl|exact aB (by simp[dG,gE,h1,hfit,h6,cV])
 ·first|exact aA (by simp[dG,gE,h1,hfit,h6,cV]) rfl|exact aB (by simp[dG,gE,h1,hfit,h6,cV])
attribute [simp] Tryz.ntmps48 Tryz.results48
theorem SU (a b:View)(hl:yD a):Ct Tryz.prog 48 [st (iH a),st (iH b)] [] [] (bool (decide (a=b))) []:=by
 refine Ct.B Tryz.func48 ?_;simp;refine CI.p (OR a.aI b.aI hl.aI) ?_;simp;refine aM (λh1=>?_) (λh1=>?_)<;>simp only[h1]<;>simp<;>(try simp only[nT,nF,dT,dF]at h1)
 ·refine CI.p (EO a.held b.held hl.held) ?_;simp;refine aM (λh2=>?_) (λh2=>?_)<;>simp only[h2]<;>simp<;>(try simp only[nT,nF,dT,dF]at h2)
  ·refine aM (λh3=>?_) (λh3=>?_)<;>simp only[h3]<;>simp<;>(try simp only[nT,nF,dT,dF]at h3)
   ·refine CI.p (HZ a.push b.push hl.push) ?_;simp;refine aM (λh4=>?_) (λh4=>?_)<;>simp only[h4]<;>simp<;>(try simp only[nT,nF,dT,dF]at h4)
    ·have e:decide (a=b)=decide (a.open_=b.open_):=by
      obtain⟨a1,a2,a3,a4,a5⟩:=a;obtain⟨b1,b2,b3,b4,b5⟩:=b;simp only at h1 h2 h3 h4;subst h1 h2 h3 h4;rw[pH];simp
     first|exact aA (by simp[e]) rfl|exact aB (by simp[e])
    ·have e:¬a=b:=λe=>h4 (by rw[e]);first|exact aA (by simp[e]) rfl|exact aB (by simp[e])
   ·have e:¬a=b:=λe=>h3 (by rw[e]);first|exact aA (by simp[e]) rfl|exact aB (by simp[e])
  ·have e:¬a=b:=λe=>h2 (by rw[e]);first|exact aA (by simp[e]) rfl|exact aB (by simp[e])
 ·have e:¬a=b:=λe=>h1 (by rw[e]);first|exact aA (by simp[e]) rfl|exact aB (by simp[e])
attribute [simp] Tryz.ntmps259 Tryz.results259
theorem LY (a:Int):Ct Tryz.prog 259 [int a] [] [] (bool false) []:=by
 refine Ct.B Tryz.func259 ?_;simp;first|exact aA (by simp) rfl|exact aB (by simp)
attribute [simp] Tryz.ntmps245 Tryz.results245
theorem Co (a b:Int):Ct Tryz.prog 245 [int a,int b] [] [] (int (if a<b then-1 else if b<a then 1 else 0)) []:=by
 refine Ct.B Tryz.func245 ?_;simp;refine CI.p (LY a) ?_;simp;refine CI.p (LY b) ?_;simp;refine aE (λh1=>?_) (λh1=>?_)<;>simp only[h1]<;>simp<;>(try simp only[nT,nF,dT,dF]at h1)
 ·first|exact aA (by simp[h1]) rfl|exact aB (by simp[h1])
 refine aE (λh2=>?_) (λh2=>?_)<;>simp only[h2]<;>simp<;>(try simp only[nT,nF,dT,dF]at h2)
 ·first|exact aA (by simp[h1,h2]) rfl|exact aB (by simp[h1,h2])
 ·first|exact aA (by simp[h1,h2]) rfl|exact aB (by simp[h1,h2])
def s6 (l:List Int):Int:=(l.find? λx=>!decide (x=0)).getD 0
attribute [simp] Tryz.ntmps244 Tryz.results244
theorem VB (l:List Int)(hl:l.length<=9223372036854775807):Ct Tryz.prog 244 [.own 0] [(0,.grow 1 (l.map kR) 3)] [] (int (s6 l)) []:=by
 refine Ct.B Tryz.func244 ?_;simp;refine aJ.inv mixed rfl (ι:={k:Nat//k<=(l).length/\(l.take k).all (λx=>!!decide (x=0))=true}) (λk=>[(3,int 0),(6,.own 0),(7,int l.length),(8,int k.1)]) (λk=>[(0,.grow 1 (l.map kR) 3)]) 64 (λk=>(l).length-k.1) ⟨0,by omega,by simp⟩ [] (by constructor<;>simp) ?_;rintro⟨k,hk1,hi⟩ B hB;refine CI.n ?_;simp;refine aE (λh=>?_) (λh=>?_)
 ·have hk:k<(l).length:=by simpa using h
  obtain⟨x,hx,hr,hm,ht,hd,hw⟩:=bB hk;simp only[h];simp[hr,hw,hk];refine aE (λh1=>?_) (λh1=>?_)<;>simp only[h1]<;>simp[hx]<;>(try simp only[nT,nF,dT,dF]at h1)
  ·rw[hx]at h1;have e:s6 l=x:=by simp[s6,xL hi hr (by simpa using h1)]
   first| (refine⟨[],?_,?_,?_,?_,?_,?_,?_⟩<;>simp[bF,bI,e,hx];done)| (refine⟨by decide+kernel,?_⟩;refine⟨[],?_,?_,?_,?_,?_,?_,?_⟩<;>simp[bF,bI,e,hx])
  ·rw[hx]at h1;refine hB _ ⟨k+1,by omega,by rw[ht,List.all_append,hi];simp[h1]⟩ [] ?_ (by simp;omega);constructor<;>simp[hw]
 ·obtain rfl:k=(l).length:=by simp at h;omega
  simp only[h];simp;rw[bK]at hi;have e:s6 l=0:=by simp[s6,BA hi]
  first| (refine⟨[],?_,?_,?_,?_,?_,?_,?_⟩<;>simp[bF,bI,e];done)| (refine⟨by decide+kernel,?_⟩;refine⟨[],?_,?_,?_,?_,?_,?_,?_⟩<;>simp[bF,bI,e])
attribute [simp] Tryz.ntmps207 Tryz.results207
theorem FX (a b:Key):Ct Tryz.prog 207 [st (aK a),st (aK b)] [] [] (int (bR a b)) []:=by
 refine Ct.B Tryz.func207 ?_;simp;refine CI.p (Co a.kind b.kind) ?_;simp;refine CI.p (Cv a.name b.name) ?_;simp;refine CI.cc [896] (VB [if a.kind<b.kind then-1 else if b.kind<a.kind then 1 else 0,kI a.name b.name] (by simp)) ?_;simp;refine⟨by decide+kernel,?_⟩;have e:s6 [if a.kind<b.kind then-1 else if b.kind<a.kind then 1 else 0,kI a.name b.name]=bR a b:=by
  unfold s6 bR;by_cases h1:a.kind<b.kind
  ·simp[h1]
  ·by_cases h2:b.kind<a.kind
   ·simp[h1,h2]
   ·by_cases h3:kI a.name b.name=0<;>simp[h1,h2,h3]
 first|exact aA (by simp[e]) rfl|exact aB (by simp[e])
attribute [simp] Tryz.ntmps243 Tryz.results243
theorem LX (k_:Key)(r:aC):Ct Tryz.prog 243 [st (aF r),.d (.aT (aK k_))] [] [] (bool (decide (r.key=k_))) []:=by
 refine Ct.B Tryz.func243 ?_;simp;refine CI.p (fW r) ?_;simp;rw[q9];refine⟨by decide+kernel,?_⟩;first|exact aA (by simp) rfl|exact aB (by simp)
attribute [simp] Tryz.ntmps204 Tryz.results204
theorem EU (k_:Key):Ct Tryz.prog 204 [st (aK k_)] [] [] (.d (.fn (.func 243) [] [.aT (aK k_)])) []:=by
 refine Ct.B Tryz.func204 ?_;simp;first|exact aA (by simp) rfl|exact aB (by simp)
attribute [simp] Tryz.ntmps153 Tryz.results153
theorem MG (l:List aC)(k_:Key)(hl:l.length<=9223372036854775807):Ct Tryz.prog 153 [aD (l.map aF),st (aK k_)] [] [] (MN l k_) []:=by
 refine Ct.B Tryz.func153 ?_;simp;refine CI.p (EU k_) ?_;simp;refine CI.p (EY l (.fn (.func 243) [] [.aT (aK k_)]) (λr=>decide (r.key=k_)) (λr hr=>bP.j2 (by exact LX k_ r) Tryz.call243 rfl rfl) hl) ?_;simp;rcases BB (λr:aC=>decide (r.key=k_)) l with⟨h1,h2⟩|⟨i,x,h1,h2,h3,h4⟩
 ·have e:aQ l k_=none:=h2;simp[h1];first|exact aA (by simp[e,kK]) rfl|exact aB (by simp[e,kK])
 ·have e:aQ l k_=some x:=h4;have hx:l[i]=x:=by rw[bL h2]at h3;exact kJ h3
  simp[h1,h2,h3,hx];first|exact aA (by simp[e]) rfl|exact aB (by simp[e])
attribute [simp] Tryz.ntmps184 Tryz.results184
theorem FI (l:List aC)(kf:D)(p:aC->Bool)(hf:∀x∈l,bP Tryz.prog (.d kf) [st (aF x)] (bool (p x)))(hl:l.length<=1000000):Ct Tryz.prog 184 [aD (l.map aF),.d kf] [] [] (aD ((l.filter p).map aF)) []:=by
 refine Ct.B Tryz.func184 ?_;simp;refine aJ.gK 5 7 82 rfl ?_;refine aJ.V (l) (λk=>[(0,aD (l.map aF)),(1,.d kf),(5,.own 64),(8,aD (l.map aF)),(9,int l.length),(10,int k.1)]) (λk=>[(64,.grow 7 (((l.take k.1).filter p).map aF) 82)]) 65 (λk hk1 B hB=>?_);simp;refine aE (λh=>?_) (λh=>?_)
 ·have hk:k<(l).length:=by simpa using h
  obtain⟨x,hx,hr,hm,ht,hd,hw⟩:=bB hk;simp only[h];simp[hr,hw];have hlen:((l.take k).filter p).length<=1000000:=cD (eE _ _) (by simp;omega);refine CI.ff (hf x hm) rfl rfl rfl ?_;simp;refine aE (λh1=>?_) (λh1=>?_)<;>simp only[h1]<;>simp[hr]<;>(try simp only[nT,nF,dT,dF]at h1)
  ·refine⟨by omega,?_⟩;exact hB hk (by constructor<;>simp[hw,ht,jM,h1])
  ·exact hB hk (by constructor<;>simp[hw,ht,jM,h1])
 ·obtain rfl:k=(l).length:=by simp at h;omega
  simp only[h];simp;first|exact aA (by simp) rfl|exact aB (by simp)
attribute [simp] Tryz.ntmps206 Tryz.results206
theorem PM (k_:Key)(c:Int)(r:aC):Ct Tryz.prog 206 [st (aF r),.d (.aT (aK k_)),.d (.aT [iD c])] [] [] (bool (decide (bR r.key k_=c))) []:=by
 refine Ct.B Tryz.func206 ?_;simp;refine CI.p (fW r) ?_;simp;refine CI.p (FX r.key k_) ?_;simp;refine⟨by decide+kernel,?_⟩;first|exact aA (by simp) rfl|exact aB (by simp)
attribute [simp] Tryz.ntmps205 Tryz.results205
theorem GQ (l:List aC)(k_:Key)(c:Int)(hl:l.length<=1000000):Ct Tryz.prog 205 [int c,.d (.aT [lD (l.map aF)]),.d (.aT (aK k_))] [] [] (aD ((kC l k_ c).map aF)) []:=by
 refine Ct.BS Tryz.func205 mixed 1 400 ?_;simp;refine CI.s (tm:=[(1,.d (.aT [lD (l.map aF)])),(2,.d (.aT (aK k_))),(3,.d (.aT [iD c]))]) (mm:=[]) (nx:=65) [] [64] (by constructor<;>simp) ?_;refine CI.n ?_;simp;refine CI.p (FI l (.fn (.func 206) [] [.aT (aK k_),.aT [iD c]]) (λr=>decide (bR r.key k_=c)) (λr hr=>bP.j2 (by exact PM k_ c r) Tryz.call206 rfl rfl) hl) ?_;simp;first|exact aA (by simp) rfl|exact aB (by simp)
abbrev CP :List D:=[iD 0,sD ⟨#[]⟩,iD 0,iD 0,sD ⟨#[]⟩,.v (.slice none 0 0),.v (.slice none 0 0)]
attribute [simp] Tryz.ntmps247 Tryz.results247
theorem ZU (n:Int)(h0:0<n)(h1:n<=2000000):Ct Tryz.prog 247 [.d (.v (.slice none 0 0)),int n] [] [] (.sl 64 7 0 0) [(64,.grow 7 (List.replicate n.toNat CP) 82)]:=by
 refine Ct.B Tryz.func247 ?_;simp;have g1:¬n<0:=by omega
 have g2:IntKind.wrap .i64 n=n:=wrap_i64 (by omega) (by omega);simp[g1,g2,h0];refine⟨⟨by omega,by omega⟩,by omega,?_⟩;first| (refine⟨[(64,1216)],?_,?_,?_,?_,?_,?_,?_⟩<;>simp[bF,bI,CP];done)| (refine⟨by decide+kernel,?_⟩;refine⟨[(64,1216)],?_,?_,?_,?_,?_,?_,?_⟩<;>simp[bF,bI,CP])
attribute [simp] Tryz.ntmps208 Tryz.results208
theorem Cn (a b c:List aC)(h0:0<a.length+b.length+c.length)(h1:a.length+b.length+c.length<=2000000):Ct Tryz.prog 208 [.own 0] [(0,.grow 1 [[lD (a.map aF)],[lD (b.map aF)],[lD (c.map aF)]] 26)] [] (.own 64) [(64,.grow 7 ((a++b++c).map aF) 82)]:=by
 refine Ct.B Tryz.func208 ?_;simp;have w1:IntKind.wrap .i64 (a.length:Int)=a.length:=wrap_i64 (by omega) (by omega);have w2:IntKind.wrap .i64 ((a.length:Int)+b.length)=a.length+b.length:=wrap_i64 (by omega) (by omega);have w3:IntKind.wrap .i64 ((a.length:Int)+b.length+c.length)=a.length+b.length+c.length:=wrap_i64 (by omega) (by omega);have v1:¬((a.length:Int)<0):=by omega
 have v2:¬((a.length:Int)+b.length<0):=by omega
 have v3:¬((a.length:Int)+b.length+c.length<0):=by omega
 refine aJ.un ?_;simp[w1,v1];refine aJ.un ?_;simp[w2,v2];refine aJ.un ?_;simp[w3,v3];refine aJ.un ?_;simp;refine CI.cc [] (ZU ((a.length:Int)+b.length+c.length) (by omega) (by omega)) ?_;simp;refine aJ.un ?_;simp;refine⟨by omega,?_⟩;refine aJ.un ?_;simp;refine⟨by omega,?_⟩;refine aJ.un ?_;simp;refine⟨by omega,?_⟩;refine aJ.un ?_;simp;first| (refine⟨[(64,4992)],?_,?_,?_,?_,?_,?_,?_⟩<;>simp[bF,bI];done)| (refine⟨by decide+kernel,?_⟩;refine⟨[(64,4992)],?_,?_,?_,?_,?_,?_,?_⟩<;>simp[bF,bI])
attribute [simp] Tryz.ntmps155 Tryz.results155
theorem GO (l:List aC)(r:aC)(hl:l.length<=1000000):Ct Tryz.prog 155 [aD (l.map aF),st (aF r)] [] [] (aD ((hC l r).map aF)) []:=by
 refine Ct.BS Tryz.func155 mixed 2 400 ?_;simp;refine CI.pS (fW r) Tryz.call141 2 ?_;simp;refine CI.s (tm:=[(2,.d (.aT [lD (l.map aF)])),(3,.ptr 64 0),(5,.d (.aT (aK r.key)))]) (mm:=[(64,.cells ((aF r).map .d) 82)]) (nx:=65) [(64,128)] [64,384] (by constructor<;>simp) ?_;refine CI.n ?_;simp;refine CI.ff (bP.j2 (args:=[int (-1)]) (by exact GQ l r.key (-1) hl) Tryz.call205 rfl rfl) rfl rfl rfl ?_;simp;refine CI.ff (bP.j2 (args:=[int 1]) (by exact GQ l r.key 1 hl) Tryz.call205 rfl rfl) rfl rfl rfl ?_;simp;have h1:=GP l r;simp only[hC,oK,jL,j6]at h1;refine CI.cc [577] (Cn (kC l r.key (-1)) [r] (kC l r.key 1) (by simp;omega) (by simp only[jL,j6];omega)) ?_;simp;first|exact aA (by simp) rfl|exact aB (by simp)
attribute [simp] Tryz.ntmps152 Tryz.results152
theorem BO :Ct Tryz.prog 152 [aD []] [] [] (aD []) []:=by
 refine Ct.B Tryz.func152 ?_;simp;refine⟨?_,?_⟩
 ·first|exact aA (by simp) rfl|exact aB (by simp)
 ·first|exact aA (by simp) rfl|exact aB (by simp)
theorem BN (x:aC)(l:List aC)(hl:l.length<=1000000):Ct Tryz.prog 152 [aD ((x::l).map aF)] [] [] (.own 64) [(64,.grow 7 ((x::l).map aF) 82)]:=by
 refine Ct.B Tryz.func152 ?_;simp;refine⟨by omega,?_⟩;first| (refine⟨[(64,384)],?_,?_,?_,?_,?_,?_,?_⟩<;>simp[bF,bI];done)| (refine⟨by decide+kernel,?_⟩;refine⟨[(64,384)],?_,?_,?_,?_,?_,?_,?_⟩<;>simp[bF,bI])
attribute [simp] Tryz.ntmps174 Tryz.results174
theorem ZD (l:List aC)(kf:D)(p:aC->Bool)(hf:∀x∈l,bP Tryz.prog (.d kf) [st (aF x)] (bool (p x)))(hl:l.length<=9223372036854775807):Ct Tryz.prog 174 [.own 0,.d kf] [(0,.grow 7 (l.map aF) 82)] [] (int (fC p l)) []:=by
 refine Ct.B Tryz.func174 ?_;simp;refine aJ.inv mixed rfl (ι:={k:Nat//k<=(l).length/\(l.take k).all (λx=>!p x)=true}) (λk=>[(0,.own 0),(1,.d kf),(7,int l.length),(8,int k.1)]) (λk=>[(0,.grow 7 (l.map aF) 82)]) 64 (λk=>(l).length-k.1) ⟨0,by omega,by simp⟩ [] (by constructor<;>simp) ?_;rintro⟨k,hk1,hi⟩ B hB;refine CI.n ?_;simp;refine aE (λh=>?_) (λh=>?_)
 ·have hk:k<(l).length:=by simpa using h
  obtain⟨r,hx,hr,hm,ht,hd,hw⟩:=bB hk;simp only[h];simp[hr,hw,hk];refine CI.ff (hf r hm) rfl rfl rfl ?_ (ha:=by simp[hx]);simp[hx];refine aE (λhp=>?_) (λhp=>?_)<;>simp only[hp]<;>simp
  ·have e:=l7 hi hr hp;first| (refine⟨[],?_,?_,?_,?_,?_,?_,?_⟩<;>simp[bF,bI,e];done)| (refine⟨by decide+kernel,?_⟩;refine⟨[],?_,?_,?_,?_,?_,?_,?_⟩<;>simp[bF,bI,e])
  ·refine hB _ ⟨k+1,by omega,by simp[ht,hi,hp]⟩ [] ?_ (by simp;omega);constructor<;>simp[hw,ht,hp]
 ·obtain rfl:k=(l).length:=by simp at h;omega
  simp only[h];simp;rw[bK]at hi;have e:fC p l= -1:=l6 (λx hx=>by have:=cS.1 hi x hx;simpa using this);first| (refine⟨[],?_,?_,?_,?_,?_,?_,?_⟩<;>simp[bF,bI,e];done)| (refine⟨by decide+kernel,?_⟩;refine⟨[],?_,?_,?_,?_,?_,?_,?_⟩<;>simp[bF,bI,e])
attribute [simp] Tryz.ntmps189 Tryz.results189
theorem BI (kf:D):Ct Tryz.prog 189 [aD [],.d kf] [] [] (aD []) []:=by
 refine Ct.B Tryz.func189 ?_;simp;refine CI.p (EY [] kf (λ_=>false) (λx hx=>by simp at hx) (by simp)) ?_;simp;simp[fC];first|exact aA (by simp) rfl|exact aB (by simp)
theorem BJ (l:List aC)(kf:D)(p:aC->Bool)(hf:∀x∈l,bP Tryz.prog (.d kf) [st (aF x)] (bool (p x)))(hl:l.length<=1000000):Ct Tryz.prog 189 [.own 0,.d kf] [] [(0,.grow 7 (l.map aF) 82)] (aD ((l.filter λx=>!p x).map aF)) []:=by
 refine Ct.B Tryz.func189 ?_;simp;refine CI.cc [0] (ZD l kf p hf (by omega)) ?_;simp;rcases BB p l with⟨h1,h2⟩|⟨i,x,h1,h2,h3,h4⟩
 ·have e:(l.filter λx=>!p x)=l:=by
   rw[List.filter_eq_self];intro a ha;have:=CG.1 h2 a ha;simpa using this
  simp[h1];first| (refine⟨[],?_,?_,?_,?_,?_,?_,?_⟩<;>simp[bF,bI,e];done)| (refine⟨by decide+kernel,?_⟩;refine⟨[],?_,?_,?_,?_,?_,?_,?_⟩<;>simp[bF,bI,e])
 ·have hne:¬(i:Int)= -1:=by omega
  have hwi:IntKind.wrap .i64 ((i:Int)+1)=i+1:=wrap_i64 (by omega) (by omega);simp[h1,hne,hwi];have d0:=kX.start (x:=x) h1 h2;refine aJ.inv mixed rfl (ι:={q:Nat×Nat×List aC//kX p l q.1 q.2.1 q.2.2}) (λk=>[(0,.own 0),(1,.d kf),(5,int k.1.2.1),(6,int k.1.1)]) (λk=>[(0,.grow 7 (k.1.2.2.map aF) 82)]) 64 (λk=>l.length-k.1.1) ⟨(i+1,i,l),d0⟩ [] (by constructor<;>simp) ?_;rintro⟨⟨j,i,cur⟩,hd⟩ B hB;clear h1 h2 h3 h4 hne hwi d0;have hlen:=hd.len;have hlt:=hd.lt;have hle:=hd.le;simp only at hlen hlt hle;have w1:IntKind.wrap .i64 ((j:Int)+1)=j+1:=wrap_i64 (by omega) (by omega);have w2:IntKind.wrap .i64 ((i:Int)+1)=i+1:=wrap_i64 (by omega) (by omega);refine CI.n ?_;simp[hlen];refine aE (λh=>?_) (λh=>?_)<;>simp only[h]<;>simp<;>(try simp only[nT,nF,dT,dF]at h)
  ·have hj:j<l.length:=by omega
   have hv:l[j]? =some l[j]:=bL hj;have hm:l[j]∈l:=mD hj;generalize l[j]=v at hv hm;have hg:=hd.get hv;have hjc:j<cur.length:=by omega
   have hgx:cur[j]=v:=by rw[bL hjc]at hg;exact kJ hg
   simp[hjc,hgx];refine CI.ff (hf v hm) rfl rfl rfl ?_;simp;have hic:i<cur.length:=by omega
   refine aE (λh2=>?_) (λh2=>?_)<;>simp only[h2]<;>simp[hic]
   ·have hp:p v=false:=by simpa using h2
    refine hB _ ⟨(j+1,i+1,cur.set i v),hd.jW hv hp⟩ [] ?_ (by simp;omega);constructor<;>simp[w1,w2,List.map_set]
   ·have hp:p v=true:=by simpa using h2
    refine hB _ ⟨(j+1,i,cur),hd.del hv hp⟩ [] ?_ (by simp;omega);constructor<;>simp[w1]
  ·have hj:j=l.length:=by omega
   subst hj;have e:cur.take i=l.filter (λx=>!p x):=hd.done;simp[hlen];have e2:List.take i (List.map aF cur)=List.map aF (List.filter (λx=>!p x) l):=by rw[<-sL,e]
   have e3:(List.filter (λx=>!p x) l).length=i:=by rw[<-e,sN];omega
   refine⟨by omega,by omega,by omega,?_⟩;rw[e2];first| (refine⟨[],?_,?_,?_,?_,?_,?_,?_⟩<;>simp[bF,bI,e3,yG,show i<=i+(l.length-i+(l.length-(i+(l.length-i))))from by omega];done)| (refine⟨by decide+kernel,?_⟩;refine⟨[],?_,?_,?_,?_,?_,?_,?_⟩<;>simp[bF,bI,e3,yG,show i<=i+(l.length-i+(l.length-(i+(l.length-i))))from by omega])
attribute [simp] Tryz.ntmps154 Tryz.results154
theorem PK (l:List aC)(k_:Key)(hl:l.length<=1000000):Ct Tryz.prog 154 [aD (l.map aF),st (aK k_)] [] [] (aD ((gZ l k_).map aF)) []:=by
 refine Ct.B Tryz.func154 ?_;simp;cases l with
 |nil=>
  refine CI.p BO ?_;simp;refine CI.p (EU k_) ?_;simp;refine CI.p (BI (.fn (.func 243) [] [.aT (aK k_)])) ?_;simp;first|exact aA (by simp) rfl|exact aB (by simp)
 |cons x l=>
  refine CI.cc [] (BN x l (by simp at hl;omega)) ?_;simp;refine CI.p (EU k_) ?_;simp;refine CI.cc [256] (BJ (x::l) (.fn (.func 243) [] [.aT (aK k_)]) (λr=>decide (r.key=k_)) (λr hr=>bP.j2 (by exact LX k_ r) Tryz.call243 rfl rfl) hl) ?_;simp;first|exact aA (by simp) rfl|exact aB (by simp)
attribute [simp] Tryz.ntmps112 Tryz.results112
theorem JJ (l aL:List aC)(gone:List Key)(hl:l.length+aL.length<=1000000)(hg:gone.length<=9223372036854775807):Ct Tryz.prog 112 [aD (l.map aF),aD (aL.map aF),aD (gone.map aK)] [] [] (aD ((jQ l aL gone).map aF)) []:=by
 refine Ct.B Tryz.func112 ?_;simp;refine aJ.V (gone) (λk=>[(0,aD (((gone.take k.1).foldl gZ l).map aF)),(1,aD (aL.map aF)),(11,aD (gone.map aK)),(12,int gone.length),(13,int k.1)]) (λk=>[]) 64 (λk hk1 B hB=>?_);simp;refine aE (λh=>?_) (λh=>?_)
 ·have hk:k<(gone).length:=by simpa using h
  obtain⟨x,hx,hr,hm,ht,hd,hw⟩:=bB hk;simp only[h];simp[hr,hw];have h1:=vE (gone.take k) l;refine CI.p (PK ((gone.take k).foldl gZ l) x (by omega)) ?_;simp;exact hB hk (by constructor<;>simp[hw,ht,mY])
 ·obtain rfl:k=(gone).length:=by simp at h;omega
  simp only[h];simp;have h1:=vE gone l;refine aJ.V (aL) (λk=>[(0,aD (((aL.take k.1).foldl hC (gone.foldl gZ l)).map aF)),(21,aD (aL.map aF)),(22,int aL.length),(23,int k.1)]) (λk=>[]) 64 (λk hk1 B hB=>?_);simp;refine aE (λh=>?_) (λh=>?_)
  ·have hk:k<(aL).length:=by simpa using h
   obtain⟨x,hx,hr,hm,ht,hd,hw⟩:=bB hk;simp only[h];simp[hr,hw];have h2:=xI (aL.take k) (gone.foldl gZ l);have h3:(aL.take k).length<=aL.length:=by simp;omega
   refine CI.p (GO ((aL.take k).foldl hC (gone.foldl gZ l)) x (by omega)) ?_;simp;exact hB hk (by constructor<;>simp[hw,ht,mY])
  ·obtain rfl:k=(aL).length:=by simp at h;omega
   simp only[h];simp;first|exact aA (by simp[jQ]) rfl|exact aB (by simp[jQ])
attribute [simp] Tryz.ntmps241 Tryz.results241
theorem ZE (l:List Key)(k_:Key)(hl:l.length<=9223372036854775807):Ct Tryz.prog 241 [aD (l.map aK),st (aK k_)] [] [] (int (fC (λx=>decide (k_=x)) l)) []:=by
 refine Ct.B Tryz.func241 ?_;simp;refine aJ.inv mixed rfl (ι:={k:Nat//k<=(l).length/\(l.take k).all (λx=>!decide (k_=x))=true}) (λk=>[(0,aD (l.map aK)),(3,.ptr 64 0),(6,aD (l.map aK)),(7,int l.length),(8,int k.1)]) (λk=>[(64,.cells ((aK k_).map .d) 86)]) 65 (λk=>(l).length-k.1) ⟨0,by omega,by simp⟩ [] (by constructor<;>simp) ?_;rintro⟨k,hk1,hi⟩ B hB;refine CI.n ?_;simp;refine aE (λh=>?_) (λh=>?_)
 ·have hk:k<(l).length:=by simpa using h
  obtain⟨r,hx,hr,hm,ht,hd,hw⟩:=bB hk;simp only[h];simp[hr,hw];rw[q9];refine⟨by decide+kernel,?_⟩;refine aE (λh1=>?_) (λh1=>?_)<;>simp only[h1]<;>simp[hr]<;>(try simp only[nT,nF,dT,dF]at h1)
  ·have e:=l7 hi hr (by simpa using h1);first|exact aA (by simp[e]) rfl|exact aB (by simp[e])
  ·refine hB _ ⟨k+1,by omega,by simp[ht,hi,h1]⟩ [] ?_ (by simp;omega);constructor<;>simp[hw,ht,h1]
 ·obtain rfl:k=(l).length:=by simp at h;omega
  simp only[h];simp;rw[bK]at hi;have e:fC (λx=>decide (k_=x)) l= -1:=l6 (λx hx=>by have:=cS.1 hi x hx;simpa using this);first|exact aA (by simp[e]) rfl|exact aB (by simp[e])
attribute [simp] Tryz.ntmps195 Tryz.results195
theorem L8 (l:List Key)(k_:Key)(hl:l.length<=9223372036854775807):Ct Tryz.prog 195 [aD (l.map aK),st (aK k_)] [] [] (bool (decide (k_∈l))) []:=by
 refine Ct.B Tryz.func195 ?_;simp;refine CI.p (ZE l k_ hl) ?_;simp;rw[tH];have e:(l.any λx=>decide (k_=x))=decide (k_∈l):=by rw[pH];simp
 first|exact aA (by simp[e]) rfl|exact aB (by simp[e])
end Go.Proofs.YtelooagbkmpdpaaGreatDoor
