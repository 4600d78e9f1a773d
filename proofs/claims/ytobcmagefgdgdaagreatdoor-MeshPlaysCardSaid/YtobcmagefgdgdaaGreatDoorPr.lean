/- THE REFERENCE, plainly -/
import Derived.Test.YtobcmagefgdgdaaGreatDoorPt
set_option linter.unusedSimpArgs false
set_option linter.unusedVariables false
set_option maxRecDepth 100000
set_option maxHeartbeats 8000000
namespace Go.G
open Go.AI
theorem zcn {r:aC}{q:Key}(h:q∈cD r):0<=r.kind/\r.kind<=2:=by
 unfold cD at h;split at h
 ·rename_i hs;obtain⟨h1,_,_,h4,_,_⟩:=xC hs;have hb:=lI.1 h1;rw[LM]at h;have hasc:i7 (nG r):=by unfold nG;split<;>simp[i7]
  rw[(BW _ hasc).2]at h;rcases h with h|h
  ·unfold nG at h;split at h
   ·rename_i hm;simp only[iH,sO,dA]at hm;omega
   ·simp at h
  ·obtain⟨w,hw,rfl⟩:=fU.1 h;obtain⟨x,hx,_⟩:=List.mem_flatMap.1 (mX.1 hw).1;have hne:¬r.rules.length=0:=by grind
   simp only[gK,jC,bL,sO,dA]at h4;omega
 ·simp at h
theorem Y0 (l:List aC):∀(m:List aC) (out:List Key),∀x∈out,x∈m.foldl (nD l) out
 |[],_,_,h=>h
 |r::m,out,x,h=>by
  refine Y0 l m _ x ?_;unfold nD;split
  ·exact LN l _ _ x h
  ·exact h
theorem Pd (l:List aC):∀(m out:List Key) (q:Key),q∈m->(bI l q).isSome=true->q∈m.foldl (lH l) out
 |[],_,_,h,_=>by simp at h
 |p::m,out,q,h,hs=>by
  rw[pH];rcases kD.1 h with e|e
  ·subst e;refine LN l m _ q ?_;unfold lH;by_cases hq:q∈out
   ·rw[aT (λe=>e.2 hq)];exact hq
   ·rw[aZ ⟨hs,hq⟩];simp
  ·exact Pd l m _ q e hs
theorem Ft (l:List aC){r:aC}{q:Key}(hq:q∈cD r)(hs:(bI l q).isSome=true):∀(m:List aC) (out:List Key),r∈m->r.key∈out->q∈m.foldl (nD l) out
 |[],_,h,_=>by simp at h
 |x::m,out,h,hk=>by
  rw[pH];rcases kD.1 h with e|e
  ·subst e;refine Y0 l m _ q ?_;unfold nD;rw[aZ hk];exact Pd l _ _ q hq hs
  ·exact Ft l hq hs m _ e (by
    unfold nD;split
    ·exact LN l _ _ _ hk
    ·exact hk)
theorem Gl {l:List aC}{k:Key}:∀(n d:Nat),k∈jZ l n->k∈jZ l (n+d)
 |n,0,h=>h
 |n,d+1,h=>Y0 l l _ k (Gl n d h)
theorem zcz {l:List aC}{k:Key}(h:uM l k):0<=k.kind/\k.kind<=3/\k∈jZ l k.kind.toNat:=by
 induction h with
 |root h h0=>
  rename_i r;have e:r.key.kind=0:=h0;rw[e];exact⟨by omega,by omega,fU.2 ⟨r,mX.2 ⟨h,by simpa using h0⟩,rfl⟩⟩
 |step h hr hq hs ih=>
  rename_i k r q;obtain⟨i1,i2,i3⟩:=ih;have hk:=YV hr;have rk:r.kind=k.kind:=jW Key.kind hk;have a:=zco hq;have b:=zcn hq;refine⟨by omega,by omega,?_⟩;have e:q.kind.toNat=k.kind.toNat+1:=by omega
  rw[e];exact Ft l hq hs l _ (BU hr) (by rw[hk];exact i3)
theorem O5 {l:List aC}(ha:fA l):VY l=gW l:=by
 have key:∀k,k∈jZ l 4↔k∈sY l:=λk=>⟨Gj ha 4 k,λh=>by
  obtain⟨h1,h2,h3⟩:=zcz (zcv.1 h);have:=Gl _ (4-k.kind.toNat) h3
  rwa[show k.kind.toNat+(4-k.kind.toNat)=4 by omega]at this⟩
 refine List.filter_congr λr _=>?_;exact EF.2 (key r.key)
def lN (l:List aC)(n:Int)(keys:List Key)(all:Bool):List aC:=l.filter λr=>decide (r.kind=n)&&(all||decide (r.key∈keys))
def wO (hv:List aC)(n:Int)(held:List Key)(k:Key):Bool:=decide (n=0)|| (!decide (k∈held)&&decide ((yK hv k).length=0))
def qN (hv:List aC)(l:List Key)(n:Int)(held:List Key):List Key:=l.filter λk=>decide (k.kind=n)&&wO hv n held k
theorem Sy (n:Int)(keys:List Key)(all:Bool):lN [] n keys all=[]:=rfl
theorem zle (l:List aC)(x:aC)(n:Int)(keys:List Key)(all:Bool):lN (l++[x]) n keys all=lN l n keys all++if(decide (x.kind=n)&&(all||decide (x.key∈keys)))=true then [x]else []:=by
 unfold lN
 grind
theorem Ol (hv:List aC)(n:Int)(held:List Key):qN hv [] n held=[]:=rfl
theorem zhk (hv:List aC)(l:List Key)(x:Key)(n:Int)(held:List Key):qN hv (l++[x]) n held=qN hv l n held++if(decide (x.kind=n)&&wO hv n held x)=true then [x]else []:=by
 unfold qN
 grind
theorem zih (hv want:List aC)(held:List Key)(n:Int):(qV hv want held).early n=⟨n,lN (iN hv want) n ((gW want).map aC.key) false,[]⟩:=by
 simp only[dW.early,qV,uD,lN,List.filter_filter]
 grind
theorem zf4 (hv want:List aC)(held:List Key)(n:Int):(qV hv want held).late n=⟨n,lN (iN hv want) n [] true,[]⟩:=by
 simp[dW.late,qV,uD,lN]
theorem ziy (hv want:List aC)(held:List Key):(qV hv want held).doors 0=⟨0,lN (iN hv want) 0 [] true,qN hv (kA hv want) 0 held⟩:=by
 simp[dW.doors,qV,uD,qK,lN,qN,wO]
theorem YX (hv want:List aC)(held:List Key){n:Int}(h:n≠0):(qV hv want held).free n=⟨n,[],qN hv (kA hv want) n held⟩:=by
 simp only[dW.free,qV,qK,List.filter_filter];congr 1
 refine List.filter_congr λk _=>?_;simp only[dW.zX,wO,F8,Bool.false_or,Bool.not_or]
 grind
def u7 (s:Step)(r:Option Step):Option Step:=if s.aD.length+s.gone.length=0 then r else some s
theorem zeU (hv want:List aC)(held:List Key):tB hv want held=
  u7 ⟨3,lN (iN hv want) 3 ((gW want).map aC.key) false,[]⟩ (u7 ⟨2,lN (iN hv want) 2 ((gW want).map aC.key) false,[]⟩ (u7 ⟨1,lN (iN hv want) 1 ((gW want).map aC.key) false,[]⟩
  (u7 ⟨0,lN (iN hv want) 0 [] true,qN hv (kA hv want) 0 held⟩
  (u7 ⟨3,lN (iN hv want) 3 [] true,[]⟩ (u7 ⟨2,lN (iN hv want) 2 [] true,[]⟩ (u7 ⟨1,lN (iN hv want) 1 [] true,[]⟩
  (u7 ⟨1,[],qN hv (kA hv want) 1 held⟩ (u7 ⟨2,[],qN hv (kA hv want) 2 held⟩ (u7 ⟨3,[],qN hv (kA hv want) 3 held⟩ none))))))))):=by
 have key:∀(s:Step) (l:List Step),(s::l).find? (λs=>!s.none)=u7 s (l.find? λs=>!s.none):=λs l=>by
  unfold u7;rw[wZ];by_cases h:s.aD.length+s.gone.length=0
  ·have e:(!s.none)=false:=by unfold Step.none;rw[oC h];rfl
   rw[aZ h,e]
  ·have e:(!s.none)=true:=by unfold Step.none;rw[TJ h];rfl
   rw[aT h,e]
 unfold tB dW.steps;simp only[key,zih,zf4,ziy,YX hv want held (n:=1) (by decide),YX hv want held (n:=2) (by decide),YX hv want held (n:=3) (by decide)];rfl
theorem zS {s:Step}{r:Option Step}(h:0<s.aD.length+s.gone.length):u7 s r=some s:=aT (by omega)
theorem zT {s:Step}{r:Option Step}(h:s.aD.length+s.gone.length=0):u7 s r=r:=aZ h
def yO (l:List dB):Int:=((l.getLast?).map dB.id).getD 0
@[simp] theorem lastI_nil :yO []=0:=rfl
theorem VL (next a:Int)(x:dB)(r:List dB):eM next a (x::r)=(!decide (x.id<=a)&& !decide (next<x.id)&& !decide (x.pins<0)&& !decide (10000<x.pins)&& !(decide (x.pins=0)&& !decide (r=[]))&&eM next x.id r):=by
 rw[eM]
 grind
theorem X3 (l:List dB)(x:dB):yO (l++[x])=x.id:=by simp[yO]
theorem Dn {next:Int}{l:List dB}{k:Nat}{x:dB}(h:eM next 0 l=eM next (yO (l.take k)) (l.drop k))(hd:l.drop k=x::l.drop (k+1))(ht:l.take (k+1)=l.take k++[x])
  (h1:¬x.id<=yO (l.take k)) (h2:¬next<x.id) (h3:¬x.pins<0) (h4:¬10000<x.pins) (h5:¬(x.pins=0/\k+1<l.length)):eM next 0 l=eM next (yO (l.take (k+1))) (l.drop (k+1)):=by
 have hb:(decide (x.pins=0)&& !decide (l.drop (k+1)=[]))=false:=by
  simp_all
 rw[h,hd,VL,ht,X3,hb];simp[h1,h2,h3,h4]
theorem Zr {next:Int}{l:List dB}{k:Nat}{x:dB}(h:eM next 0 l=eM next (yO (l.take k)) (l.drop k))(hd:l.drop k=x::l.drop (k+1))
  (hb:x.id<=yO (l.take k)\/next<x.id\/x.pins<0\/10000<x.pins\/(x.pins=0/\k+1<l.length)):eM next 0 l=false:=by
 rw[h,hd,VL];rcases hb with q|q|q|q|⟨q,q2⟩
 ·simp[q]
 ·simp[q]
 ·simp[q]
 ·simp[q]
 ·have:¬l.drop (k+1)=[]:=λe=>by have:=JU.1 e;omega
  rw[oC q,TJ this];simp
def vW (p:cM)(i:Nat)(x:dB):cM:=⟨p.next,p.aR.take i++(if 0<x.pins\/i+1=p.aR.length then [x]else [])++p.aR.drop (i+1)⟩
theorem zdo {p:cM}{s:dB}(hs:p.aR.getLast? =some s)(hn:¬s.pins=10000):u6 p=(vW p (p.aR.length-1) {s with pins:=s.pins+1},s.id,0):=by
 unfold u6;rw[hs];simp only;rw[aT hn];obtain⟨i,hi⟩:=List.getLast?_eq_some_iff.1 hs;unfold vW;simp_all
theorem zcf {p:cM}{id:Int}{k:Nat}{s:dB}(hs:p.aR[k]? =some s)(hp:kX p id=k)(h0:¬s.pins=0)(h1:0<=s.pins):qD p id=(vW p k {s with pins:=s.pins-1},0):=by
 have hk:=(cE.1 hs).1;unfold qD;rw[hp,aT (by omega),M1,hs];simp only;rw[aT h0];unfold vW;by_cases c:¬(k:Int)=(p.aR.length:Int)-1/\s.pins-1=0
 ·grind
 ·rw[aT c,aZ (by simp only;omega),List.set_eq_take_append_cons_drop,aZ hk];simp
theorem PI {s p:Str}:lJ s p=true↔(bs s).take (bs p).length=bs p:=by
 unfold lJ
 grind
theorem zaK {s p:Str}(h:(bs p).length<=(bs s).length):zK s p=decide ((bs s).drop ((bs s).length-(bs p).length)=bs p):=by
 unfold zK;simp[h]
theorem Ri :bs ⟨#[42]⟩=[42]:=rfl
theorem zjF :bs ⟨#[42,46]⟩=[42,46]:=rfl
theorem Da (s:Str):mJ (bs s)=lJ s ⟨#[42,46]⟩:=by
 unfold mJ lJ;rw[zjF];rfl
theorem zgU {h:Str}(hh:j8 h=true):bs h≠[]:=by
 intro e;unfold j8 at hh;rw[e]at hh;simp[iG,lW]at hh
theorem Ia {h:Str}:lJ h ⟨#[42]⟩=decide ((bs h).head? =some 42):=by
 rw[tQ,PI,Ri];cases e:bs h with
 |nil=>simp
 |cons a l=>simp
theorem zfc {l:List UInt8}(h:l.head? =some 42):iG [] l=false:=by
 have key:∀(l p:List UInt8),p.head? =some 42->iG p l=false:=by
  intro l;induction l with
  |nil=>
   intro p hp
   match p,hp with
   |a::p,hp=>simp at hp;subst hp;simp[iG,lW,vE]
  |cons c r ih=>
   intro p hp;unfold iG;by_cases hc:c=46
   ·simp only[hc]
    match p,hp with
    |a::p,hp=>simp at hp;subst hp;simp[lW,vE]
   ·simp_all
 match l,h with
 |a::r,h=>
  simp at h;subst h;unfold iG
  grind
theorem Nu {p:Str}(hh:j8 p=true)(h1:¬p=⟨#[42]⟩):lJ p ⟨#[42]⟩=mJ (bs p):=by
 rw[Ia,tQ,dA];constructor
 ·intro h;unfold j8 at hh;rw[zfc h]at hh;have:¬bs p=[42]:=λe=>h1 (DY e);simp[this]at hh;exact hh.2.1
 ·intro h;simp only[mJ,dA]at h
  match e:bs p,h with
  |[],h=>simp at h
  |[_],h=>simp at h
  |a::b::r,h=>simp at h;simp[h.1]
theorem ziQ {p:Str}(h:lJ p ⟨#[42]⟩=true):bs (rL p ⟨#[42]⟩)=(bs p).drop 1:=by
 unfold rL;rw[aZ h,LP,Ri];rfl
def XK (p h:Str):Bool:=
 if j8 p=false then false else if j8 h=false then false else if(bs h).head? =some 42 then false
 else if p=⟨#[42]⟩then true else if p=h then true else if mJ (bs p)=false then false
 else decide ((bs p).length-1<(bs h).length)&&decide ((bs h).drop ((bs h).length-((bs p).length-1))=(bs p).drop 1)
theorem zfG (p h:Str):XK p h=rF p h:=by
 unfold XK rF;cases h1:j8 p with
 |false=>simp
 |true=>
 cases h2:j8 h with
 |false=>simp
 |true=>
 rw[Ia (h:=h)];by_cases h3:(bs h).head? =some 42
 ·simp[h3]
 by_cases h4:p=⟨#[42]⟩
 ·simp[h4]
 by_cases h5:p=h
 ·simp_all
 rw[Nu h1 h4];cases h6:mJ (bs p)with
 |false=>simp
 |true=>
  have h7:=Nu h1 h4;rw[h6]at h7;have e:=ziQ h7;simp only[h3,h4,h5,e,F8,M5,Bool.or_false,uP,iO,A1,EJ,AY];by_cases h8:(bs p).length-1<(bs h).length
  ·rw[zaK (by rw[e,AY];omega),e,AY]
  ·simp[h8]
def UA (p s:Str):Bool:=
 if kL p=false then false else if kL s=false then false else if(bs s).length<(bs p).length then false else if¬(bs s).take (bs p).length=bs p then false
 else if(bs p).getLast? =some 47 then true else if(bs s).length=(bs p).length then true else decide ((bs s)[(bs p).length]? =some 47)
theorem zaJ {p:Str}:zK p ⟨#[47]⟩=decide ((bs p).getLast? =some 47):=by
 unfold zK;rw[tQ];rcases List.eq_nil_or_concat (bs p)with e|⟨l,a,e⟩
 ·simp[e]
 ·rw[e];simp
theorem Vh (p s:Str):UA p s=rQ p s:=by
 unfold UA rQ;cases h1:kL p with
 |false=>simp
 |true=>
 cases h2:kL s with
 |false=>simp
 |true=>
 by_cases h3:(bs s).length<(bs p).length
 ·have:lJ s p=false:=by simp[lJ];omega
  simp[h3,this]
 by_cases h4:(bs s).take (bs p).length=bs p
 ·have h5:lJ s p=true:=PI.2 h4;have e:bs (rL s p)=(bs s).drop (bs p).length:=by unfold rL;rw[aZ h5,LP]
  have e2:lJ (rL s p) ⟨#[47]⟩=decide ((bs s)[(bs p).length]? =some 47):=by
   rw[tQ,PI,e,show bs ⟨#[47]⟩=[47]from rfl,dA];by_cases hl:(bs p).length<(bs s).length
   ·rw[tP hl,bO hl];simp only[List.length_singleton,List.take_succ_cons,List.take_zero,List.cons.injEq,and_true,pX]
   ·rw[TR (by omega),JP (by omega)];simp
  have e3:(rL s p=⟨#[]⟩)↔(bs s).length=(bs p).length:=by
   rw[A5,e,show bs ⟨#[]⟩=[]from rfl,JU];omega
  rw[zaJ,e2,h5];simp only[h3,h4,e3,EC,M5,Bool.or_self,A1,EJ];by_cases h6:(bs p).getLast? =some 47
  ·simp[h6]
  by_cases h7:(bs s).length=(bs p).length
  ·simp[h7]
  ·simp[h7]
 ·have:lJ s p=false:=by rw[TX];intro h;exact h4 (PI.1 h)
  simp[h4,this]
def yL (s:Str):Int:=if s=⟨#[42]⟩then 0 else if mJ (bs s)=true then(bs s).length else 1000000000000
def XC (a b:Str):Int:=if yL b<yL a then 1 else if yL a<yL b then-1 else 0
theorem zfb {a b:Str}(ha:(bs a).length<=1000000)(hb:(bs b).length<=1000000):XC a b=tY a b:=by
 unfold XC tY FX yL pZ;rw[Da,Da]
 grind
def ZV (a b:cH):Bool:=if 0<tY a.host b.host then true else if tY a.host b.host=0 then decide ((bs b.pre).length<(bs a.pre).length)else false
theorem Qt (a b:Int):(FX a b= -1/\a<b)\/(FX a b=0/\a=b)\/(FX a b=1/\b<a):=by
 unfold FX;omega
theorem zj8 (a b:cH):ZV a b=pU a b:=by
 unfold ZV pU tY;rcases Qt (pZ a.host) (pZ b.host)with⟨e,_⟩|⟨e,_⟩|⟨e,_⟩<;>rw[e]<;>simp
theorem ZU (a b:cH):pU a b=true↔pZ b.host<pZ a.host\/(pZ b.host=pZ a.host/\(bs b.pre).length<(bs a.pre).length):=by
 unfold pU tY;rcases Qt (pZ a.host) (pZ b.host)with⟨e,h⟩|⟨e,h⟩|⟨e,h⟩<;>rw[e]<;>simp<;>omega
def RI (m:List cH):Option cH:=m.find? λr=>m.all λq=>!pU q r
def OU (l:List cH)(may:cH->Bool):cH×Bool:=match RI (l.filter may)with|some r=>(r,true)|none=>(oR,false)
structure JE (m:List cH)(x:cH):Prop where
 sp:∃a b,m=a++x::b/\∀q∈a,pU x q=true
 no:∀q∈m,pU q x=false
theorem JE.first {m:List cH}{x:cH}(h:JE m x):RI m=some x:=by
 obtain⟨⟨a,b,e,ha⟩,hn⟩:=h;have h0:∀q∈a,¬((m.all λq'=>!pU q' q)=true):=by
  simp_all
 have h1:(m.all λq'=>!pU q' x)=true:=dP.2 λq hq=>by rw[hn q hq];rfl
 have e2:∀(p:cH->Bool),(∀q∈a,¬p q=true)->p x=true->m.find? p=some x:=by
  grind
 exact e2 _ h0 h1
theorem SN {a b:cH}:pU a b=false↔¬(pZ b.host<pZ a.host\/(pZ b.host=pZ a.host/\(bs b.pre).length<(bs a.pre).length)):=by
 rw[<-ZU,Bool.not_eq_true]
theorem JE.snoc {m:List cH}{x y:cH}(h:JE m x):JE (m++[y]) (if pU y x=true then y else x):=by
 obtain⟨⟨a,b,e,ha⟩,hn⟩:=h;by_cases hb:pU y x=true
 ·rw[aZ hb];have hb':=(ZU y x).1 hb;refine⟨⟨m,[],by simp,λq hq=>?_⟩,λq hq=>?_⟩
  ·have:=SN.1 (hn q hq);rw[ZU];omega
  ·rw[SN];rcases gU.1 hq with hq|hq
   ·have:=SN.1 (hn q hq);omega
   ·simp_all
 ·rw[aT hb];refine⟨⟨a,b++[y],by rw[e];simp,ha⟩,λq hq=>?_⟩
  grind
theorem zjU (may:cH->Bool)(l:List cH):(l.filter may=[]/\l.foldl (lM may) (oR,false)=(oR,false))\/∃x,JE (l.filter may) x/\l.foldl (lM may) (oR,false)=(x,true):=by
 rw[<-List.reverse_reverse l];induction l.reverse with
 |nil=>left;exact⟨rfl,rfl⟩
 |cons y r ih=>
  rw[List.reverse_cons];generalize r.reverse=l at ih⊢;rw[qY,nL];cases hy:may y with
  |false=>
   have e:lM may (l.foldl (lM may) (oR,false)) y=l.foldl (lM may) (oR,false):=by simp[lM,hy]
   simp_all
  |true=>
   rw[show [y].filter may=[y] by simp[hy]];right;rcases ih with⟨h1,h2⟩|⟨x,h1,h2⟩
   ·refine⟨y,?_,?_⟩
    ·rw[h1];exact⟨⟨[],[],rfl,by simp⟩,λq hq=>by obtain rfl:=yA.1 (by simpa using hq);rw[SN];omega⟩
    ·rw[pH,h2];simp[lM,hy]
   ·refine⟨_,h1.snoc (y:=y),?_⟩;rw[pH,h2];by_cases hb:pU y x=true
    ·simp[lM,hy,hb]
    ·simp[lM,hb]
theorem Fp (l:List cH)(host path:Str):OU l (λr=>rF r.host host&&rQ r.pre path)=tT l host path:=by
 unfold tT OU;rcases zjU (λr=>rF r.host host&&rQ r.pre path) l with⟨h1,h2⟩|⟨x,h1,h2⟩
 ·rw[h1,h2];rfl
 ·rw[h1.first,h2]
theorem zjj (w:Weight)(l:List Weight)(n:Int):vN (w::l) n=if n-lT w<0 then(w.fT,true)else vN l (n-lT w):=rfl
def DZ (port:Int)(r:aC):Bool:=decide (r.kind=0)&&decide (r.port=port)
structure F5 (l:List Weight)(n0:Int)(k:Nat):Prop where
 e:vN l n0=vN (l.drop k) (n0-l7 (l.take k))
theorem zjo (l:List Weight)(n0:Int):F5 l n0 0:=⟨by simp[l7]⟩
theorem F5.step {l:List Weight}{n0:Int}{k:Nat}{w:Weight}(h:F5 l n0 k)(hd:l.drop k=w::l.drop (k+1))(ht:l7 (l.take (k+1))=l7 (l.take k)+lT w):
  (n0<l7 (l.take (k+1))->vN l n0=(w.fT,true))/\(¬n0<l7 (l.take (k+1))->F5 l n0 (k+1)):=by
 have e:=h.e;rw[hd,zjj]at e;refine⟨λh1=>?_,λh1=>⟨?_⟩⟩;all_goals grind
theorem F5.last {l:List Weight}{n0:Int}(h:F5 l n0 l.length):vN l n0=(⟨#[]⟩,false):=by
 have:=h.e;rw[yC]at this;exact this
def pO (l:List cH)(ho pa:Str):List cH:=l.filter λr=>rF r.host ho&&rQ r.pre pa
theorem Lz (ho pa:Str):pO [] ho pa=[]:=rfl
theorem zfC (l:List cH)(x:cH)(ho pa:Str):pO (l++[x]) ho pa=if(rF x.host ho&&rQ x.pre pa)=true then pO l ho pa++[x]else pO l ho pa:=by
 unfold pO;rw[nL]
 grind
theorem Ma (l:List cH)(ho pa:Str):(pO l ho pa).length<=l.length:=gJ _ _
theorem zfD {l:List cH}{ho pa:Str}{r:cH}(h:r∈pO l ho pa):r∈l:=(mX.1 h).1
def vX (m:List cH)(x:cH):Bool:=m.all λq=>!pU q x
theorem Br (x:cH):vX [] x=true:=rfl
theorem Vi (m:List cH)(y x:cH):vX (m++[y]) x=(vX m x&& !pU y x):=by simp[vX]
theorem zbQ {l:List cH}{ho pa:Str}{k:Nat}{x:cH}(h:((pO l ho pa).take k).all (λr=>!vX (pO l ho pa) r)=true)(hr:(pO l ho pa)[k]? =some x)(hx:vX (pO l ho pa) x=true):tT l ho pa=(x,true):=by
 rw[<-Fp];have:RI (l.filter λr=>rF r.host ho&&rQ r.pre pa)=some x:=FO (p:=vX (pO l ho pa)) h hr hx;unfold OU;rw[this]
theorem zbV {l:List cH}{ho pa:Str}(h:(pO l ho pa).all (λr=>!vX (pO l ho pa) r)=true):tT l ho pa=(oR,false):=by
 rw[<-Fp];have:RI (l.filter λr=>rF r.host ho&&rQ r.pre pa)=none:=IM (p:=vX (pO l ho pa)) h;unfold OU;rw[this]
theorem Ar {n:Node}(h:dI n.side=true)(mx lost:Int):dI (fP mx lost n).1.side=true:=by
 unfold fP;split
 ·exact h
 ·exact ziT _ _
theorem Au {n:Node}(h:dI n.side=true)(mx:Int)(p:aW)(lost:Int):dI (iK mx p lost n).1.side=true:=by
 unfold iK;dsimp only;split
 ·exact h
 ·refine Ar ?_ _ _;exact h
theorem GH {n:Node}(h:dI n.side=true)(w:Int)(l:dM):dI (nP n w l).side=true:=by
 unfold nP;split<;>exact h
theorem Tt {n:Node}(h:dI n.side=true)(mx:Int)(p:aW)(lost:Int)(s:cB):dI (gY mx p lost n s).1.side=true:=by
 unfold gY;dsimp only;split
 ·exact GH h _ _
 split
 ·exact zaq _ _
 ·split
  ·exact GH h _ _
  ·refine Au ?_ _ _ _;exact GH h _ _
theorem Tr {n:Node}(h:dI n.side=true)(mx:Int)(p:aW)(lost:Int)(s:cB):dI (fW mx p lost n s).1.side=true:=by
 unfold fW;split
 ·exact Tt h _ _ _ _
 split
 ·exact GH h _ _
 split
 ·exact GH h _ _
 split
 ·exact GH h _ _
 split
 ·exact Ar h _ _
 split
 ·exact h
 split
 ·exact(zdt n.gF h s.n).1
 ·exact h
theorem As (mx:Int)(p:aW):∀(l:List Node) (lost e:Int),(∀n∈l,dI n.side=true)->∀n∈(fX mx p l lost e).1,dI n.side=true
 |[],_,_,_=>by simp[fX]
 |m::l,lost,e,h=>by
  unfold fX;intro n hn;rcases kD.1 hn with q|q
  ·subst q;exact Au (h m (by simp)) _ _ _
  ·exact As mx p l _ _ (λn hn=>h n (by simp[hn])) n q
theorem Aq :∀(l:List Node) (lost k:Int),(∀n∈l,dI n.side=true)->∀n∈(gQ l lost k).1,dI n.side=true
 |[],_,_,_=>by simp[gQ]
 |m::l,lost,k,h=>by
  unfold gQ;intro n hn;rcases kD.1 hn with q|q
  ·subst q;exact h m (by simp)
  ·exact Aq l _ _ (λn hn=>h n (by simp[hn])) n q
theorem Tq {M:cX}(h:∀n∈M.ns,dI n.side=true)(s:cB):∀n∈(eX M s).1.ns,dI n.side=true:=by
 unfold eX;split
 ·exact h
 split
 ·exact h
 split
 ·unfold mZ;dsimp only;split
  ·exact h
  ·exact As _ _ _ _ _ h
 split
 ·exact Aq _ _ _ h
 split
 ·exact h
 ·rename_i n hn;split
  ·exact h
  ·intro m hm;rcases GC hm with q|q
   ·exact h m q
   ·subst q;exact Tr (h n (DI hn).1) _ _ _ _
theorem Av :∀(l:List cB) {M:cX},(∀n∈M.ns,dI n.side=true)->∀n∈(gO M l).1.ns,dI n.side=true
 |[],_,h=>h
 |s::l,_,h=>Av l (Tq h s)
theorem Ts (c:bT):∀n∈(gA c).ns,dI n.side=true:=by
 intro n hn;rw[(List.mem_replicate.1 hn).2];exact Ej _ _
theorem He (mx:Int)(p:aW)(x:Node):∀(l:List Node) (lost e:Int),fX mx p (l++[x]) lost e=((fX mx p l lost e).1++[(iK mx p (fX mx p l lost e).2.1 x).1],(iK mx p (fX mx p l lost e).2.1 x).2.1,if(fX mx p l lost e).2.2=0 then(iK mx p (fX mx p l lost e).2.1 x).2.2 else(fX mx p l lost e).2.2)
 |[],_,_=>rfl
 |m::l,lost,e=>by
  rw[yD,fX,He mx p x l,fX];rfl
theorem Cg (x:Node):∀(l:List Node) (lost k:Int),gQ (l++[x]) lost k=((gQ l lost k).1++[{x with dn:=(fM x.dn (gQ l lost k).2.1 (eO x.bF)).1}],(fM x.dn (gQ l lost k).2.1 (eO x.bF)).2,(gQ l lost k).2.2+(eO x.bF).length)
 |[],_,_=>rfl
 |m::l,lost,k=>by
  rw[yD,gQ,Cg x l,gQ];rfl
theorem Lj {α:Type}{a b:List α}{k:Nat}{x:α}(hl:a.length=k)(hk:b[k]? =some x):(a++b.drop k)[k]? =some x:=by grind
theorem Li {α:Type}{a b:List α}{k:Nat}(hl:a.length=k)(hk:k<b.length)(y:α):(a++b.drop k).set k y=a++[y]++b.drop (k+1):=by
 have e:(b.drop k).set 0 y=y::b.drop (k+1):=by rw[tP hk];rfl
 rw[List.set_append_right _ _ (by omega),hl,Nat.sub_self,e];simp
theorem Cf :∀(l:List Node) (lost k:Int),(∀n∈l,cF n)->k<=(gQ l lost k).2.2/\(gQ l lost k).2.2<=k+l.length
 |[],_,k,_=>by simp[gQ]
 |n::l,lost,k,h=>by
  have r:=OX (h n (by simp));have q:=Cf l (fM n.dn lost (eO n.bF)).2 (k+(eO n.bF).length) (λm hm=>h m (by simp[hm]));unfold gQ;simp only[jI];omega
theorem Du {c:bT}{p:aW}{ns:List Node}{lost:Int}{x:Node}(hm:x∈ns)(h:(sE x&&nC x.bF p)=false):fL ⟨c,p,ns,lost⟩=false:=by
 unfold fL
 grind
theorem zjI (mx:Int)(p:aW)(lost:Int)(n:Node)(s:cB):(gY mx p lost n s).2.2=cG (gY mx p lost n s).2.2.e:=by
 unfold gY;dsimp only
 repeat' split
 all_goals rfl
end Go.G
