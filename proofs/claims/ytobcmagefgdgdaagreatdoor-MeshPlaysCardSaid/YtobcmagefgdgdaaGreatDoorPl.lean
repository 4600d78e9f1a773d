/- LAYERS 1 to 14, plainly -/
import Derived.Test.YtobcmagefgdgdaaGreatDoorFc
import Derived.Lib.Bytealg
import Derived.Laws.RangeAny
import Derived.Sort.Statements
set_option linter.unusedSimpArgs false
set_option linter.unusedVariables false
set_option maxRecDepth 100000
set_option maxHeartbeats 8000000
namespace Go.G
abbrev Str :=ByteArray
structure Key where
 kind:Int
 name:Str
 deriving DecidableEq
structure Weight where
 fT:Str
 w:Int
 deriving DecidableEq
structure cH where
 host:Str
 pre:Str
 split:List Weight
 deriving DecidableEq
structure aC where
 kind:Int
 name:Str
 bR:Int
 port:Int
 to:Str
 rules:List cH
 bH:List Int
 deriving DecidableEq
structure Mark where
 k:Key
 bR:Int
 deriving DecidableEq
structure Frame where
 type:Int
 aM:Int
 kind:Int
 cN:Int
 turn:Int
 aD:List aC
 gone:List Key
 err:Int
 aP:List Mark
 held:List Key
 deriving DecidableEq
structure View where
 aP:List aC
 held:List Key
 turn:Int
 push:Frame
 open_:Bool
 deriving DecidableEq
def aC.key (r:aC):Key:=⟨r.kind,r.name⟩
open Go.AI
abbrev iD (n:Int):D:=.v (.int .i64 n)
abbrev sD (s:Str):D:=.v (.string s)
abbrev bD (b:Bool):D:=.v (.bool b)
abbrev int (n:Int):AV:=.d (iD n)
abbrev str (s:Str):AV:=.d (sD s)
abbrev bool (b:Bool):AV:=.d (bD b)
abbrev lD (es:List (List D)):D:=.ro false es
abbrev aB (es:List (List D)):AV:=.d (lD es)
@[simp] def kP (n:Int):List D:=[iD n]
@[simp] def wC (w:Weight):List D:=[sD w.fT,iD w.w]
@[simp] def dJ (r:cH):List D:=[sD r.host,sD r.pre,lD (r.split.map wC)]
@[simp] def aF (r:aC):List D:=[iD r.kind,sD r.name,iD r.bR,iD r.port,sD r.to,lD (r.rules.map dJ),lD (r.bH.map kP)]
@[simp] def aQ (k:Key):List D:=[iD k.kind,sD k.name]
@[simp] def jD (m:Mark):List D:=[iD m.k.kind,sD m.k.name,iD m.bR]
@[simp] def cA (f:Frame):List D:=[iD f.type,iD f.aM,iD f.kind,iD f.cN,iD f.turn,lD (f.aD.map aF),lD (f.gone.map aQ),iD f.err,lD (f.aP.map jD),lD (f.held.map aQ)]
@[simp] def q7 (v:View):List D:=[lD (v.aP.map aF),lD (v.held.map aQ),iD v.turn]++cA v.push++[bD v.open_]
@[simp] theorem lenAll_int (l:List Int):iY (l.map kP) 1=True:=tZ (f:=kP) (n:=1) (λ_=>rfl) l
@[simp] theorem lenAll_w (l:List Weight):iY (l.map wC) 2=True:=tZ (f:=wC) (n:=2) (λ_=>rfl) l
@[simp] theorem lenAll_rule (l:List cH):iY (l.map dJ) 3=True:=tZ (f:=dJ) (n:=3) (λ_=>rfl) l
@[simp] theorem lenAll_res (l:List aC):iY (l.map aF) 7=True:=tZ (f:=aF) (n:=7) (λ_=>rfl) l
@[simp] theorem lenAll_key (l:List Key):iY (l.map aQ) 2=True:=tZ (f:=aQ) (n:=2) (λ_=>rfl) l
@[simp] theorem lenAll_mark (l:List Mark):iY (l.map jD) 3=True:=tZ (f:=jD) (n:=3) (λ_=>rfl) l
@[simp] theorem lenAll_byte (l:List UInt8):iY (l.map aV) 1=True:=tZ (f:=aV) (n:=1) (λ_=>rfl) l
abbrev st (cs:List D):AV:=.agg (cs.map .d)
theorem aA {mm:Nat->Option aY}{r res:AV}(h:eQ (fG (λ_=>false) mm 8 r) (res.bU (gf [])):=by simp)(hn:fH (aI [] []) res=true:=by rfl):∃g,y4 mm r [] res [] g:=
 ⟨[],by simpa using h,by simp,by simp,by simp,by simp,hn,by simp⟩
theorem aK {ops:Array Oper}{ft:List (List Nat×List Nat)}{mm:Nat->Option aY}{r res:AV}(h:eQ (fG (λ_=>false) mm 8 r) (res.bU (gf [])):=by simp)(hd:jG ops ft:=by decide+kernel)(hn:fH (aI [] []) res=true:=by rfl):jG ops ft/\∃g,y4 mm r [] res [] g:=
 ⟨hd,aA h hn⟩
def bs (s:Str):List UInt8:=s.data.toList
theorem iA (s:Str):s.size=(bs s).length:=by rfl
theorem wN (s:Str)(i:Nat):s[i]? =(bs s)[i]? :=by
 simp only[bs,zG];by_cases h:i<s.size
 ·rw[getElem?_pos s i h,getElem?_pos s.data i h];rfl
 ·simp_all
theorem DY {a b:Str}(h:bs a=bs b):a=b:=by
 cases a;cases b;simp[bs]at h;cases h;rfl
theorem AD (s:Str)(i j:Nat):bs (s.extract i j)=((bs s).take j).drop i:=by
 simp[bs];rw[List.drop_take]
@[simp] theorem bs_mk (l:List UInt8):bs ⟨l.toArray⟩=l:=rfl
abbrev byte (c:UInt8):AV:=.d (.v (.int .u8 c.toNat))
def vE (c:UInt8):Bool:=decide ((97:Int)<=c.toNat)&&decide ((c.toNat:Int)<=122)
def rE (c:UInt8):Bool:=vE c|| (decide ((48:Int)<=c.toNat)&&decide ((c.toNat:Int)<=57))||decide ((c.toNat:Int)=45)
def lW (l:List UInt8):Bool:=decide (1<=l.length)&&decide (l.length<=12)&&vE (l.headD 0)&&l.all rE
def fI (s:Str):Bool:=lW (bs s)
theorem A5 (a b:Str):(a=b)=(bs a=bs b):=propext ⟨λh=>by rw[h],DY⟩
def p9 (c:UInt8):Bool:=rE c||decide ((c.toNat:Int)=47)
def kL (s:Str):Bool:=decide (1<=(bs s).length)&&decide ((bs s).length<=40)&&decide (((bs s).headD 0).toNat=47)&&(bs s).all p9
def mJ (l:List UInt8):Bool:=decide (2<=l.length)&&decide (l.take 2=[42,46])
def iG :List UInt8->List UInt8->Bool
 |p,[]=>lW p
 |p,c::r=>if c=46 then lW p&&iG [] r else iG (p++[c]) r
def j8 (s:Str):Bool:=decide ((bs s).length<=40)&&(decide (bs s=[42])|| (mJ (bs s)&&iG [] ((bs s).drop 2))||iG [] (bs s))
def YK (s:Str):Bool:=decide ((bs s).length<=40)&&(decide (bs s=[42])||iG [] (if mJ (bs s)then(bs s).drop 2 else bs s))
theorem Yl {l:List UInt8}(h:mJ l=true):iG [] l=false:=by
 match l,h with
 |[],h=>simp[mJ]at h
 |[_],h=>simp[mJ]at h
 |a::b::r,h=>
  simp[mJ]at h;obtain⟨rfl,rfl⟩:=h;simp[iG,lW,vE]
theorem zgV (s:Str):YK s=j8 s:=by
 unfold YK j8;cases h:mJ (bs s)
 ·simp
 ·simp[Yl h]
def qU (a b:Str):Int:=Lib.compareBytes (bs a) (bs b)
theorem RZ :∀(k:Nat) {a b:List UInt8},a.take k=b.take k->k<=a.length->k<=b.length->Lib.compareBytes a b=Lib.compareBytes (a.drop k) (b.drop k)
 |0,_,_,_,_,_=>by simp
 |k+1,[],_,_,h,_=>by simp at h
 |k+1,_::_,[],_,_,h=>by simp at h
 |k+1,x::a,y::b,h,h1,h2=>by
  simp at h;obtain⟨rfl,h⟩:=h;have:=RZ k h (by simpa using h1) (by simpa using h2);simp[Lib.compareBytes,this,UInt8.lt_irrefl]
theorem Rt {s:Str}{k:Nat}{c:UInt8}(h:(bs s)[k]? =some c):∃hk:k<s.size,s[k]'hk=c:=by
 rw[<-wN]at h
 grind
theorem Qf {s:Str}{k:Nat}{c:UInt8}(h:(bs s)[k]? =some c)(hc:c.toNat<128):Utf8.decode s k=(c.toNat,1):=by
 obtain⟨hk,rfl⟩:=Rt h;exact decode_ascii s k hk hc
theorem Qg {s:Str}{k:Nat}{c:UInt8}(h:(bs s)[k]? =some c)(hc:128<=c.toNat):128<=(Utf8.decode s k).1:=by
 obtain⟨hk,rfl⟩:=Rt h;exact(decode_high s k hk hc).1
theorem Ie {c:UInt8}(h:rE c=true):c.toNat<128:=by
 simp[rE,vE]at h;omega
def K1 (c:Int):Bool:=decide (97<=c)&&decide (c<=122)
def KR (c:Int):Bool:=K1 c|| (decide (48<=c)&&decide (c<=57))||decide (c=45)
@[simp] theorem plainI_is (c:UInt8):KR c.toNat=rE c:=rfl
@[simp] theorem lowI_is (c:UInt8):K1 c.toNat=vE c:=rfl
theorem Hr {n:Nat}(h:128<=n):KR n=false:=by simp[KR,K1];omega
def bG (n m:Int):Bool:=decide (0<=n)&&decide (n<=m)
def nA (x:cH):Bool:=decide (x.split.length<=4)&&x.split.all λw=>bG w.w 100
def fO (r:aC):Bool:=bG r.bR 2147483647&&bG r.port 65535&&decide (r.rules.length<=8)&&decide (r.bH.length<=8)&&(r.bH.all λh=>bG h 2147483647)&&r.rules.all nA
def j4 (k:Int):Bool:=decide (k=0)
def iH (k:Int):Bool:=decide (k=0)||decide (k=2)
def jC (k:Int):Bool:=decide (k=1)
def j5 (k:Int):Bool:=decide (k=3)
def gK (r:aC):Bool:=(decide (r.port=0)||j4 r.kind)&&(decide (bs r.to=[])||iH r.kind)&&(decide (r.rules.length=0)||jC r.kind)&&(decide (r.bH.length=0)||j5 r.kind)
def jS (x:cH):Bool:=j8 x.host&&kL x.pre&&x.split.all λw=>fI w.fT
def mS (r:aC):Bool:=(!iH r.kind||fI r.to)&&r.rules.all jS
def zH (x:cH):Bool:=x.split.any λw=>decide (0<w.w)
def sW (x y:cH):Bool:=decide (x.host=y.host)&&decide (x.pre=y.pre)
def oA {α:Type}(q:α->α->Bool):List α->List α->Bool
 |_,[]=>true
 |p,x::l=>!(p.any (q x))&&oA q (p++[x]) l
def mN (r:aC):Bool:=r.rules.all zH&&oA sW [] r.rules&&oA (λa b=>decide (a=b)) [] r.bH
def cQ (r:aC):Int:=
 if bG r.kind 3=false then 4 else if fI r.name=false then 5 else if fO r=false then 3 else if gK r=false then 2 else if mS r=false then 5 else if mN r=false then 2 else 0
def iZ {α:Type}(p:α->Bool)(l:List α):Int:=match l.findIdx? p with
 |some i=>i
 |none=> -1
theorem yQ {α:Type}{p:α->Bool}{l:List α}(h:∀x∈l,p x=false):iZ p l= -1:=by
 have:l.findIdx? p=none:=by rw[List.findIdx?_eq_none_iff];exact h
 simp[iZ,this]
theorem Pn {α:Type}{p:α->Bool}:∀{l:List α} {k:Nat} {x:α},(l.take k).all (λx=>!p x)=true->l[k]? =some x->p x=true->l.findIdx? p=some k
 |[],k,x,_,h,_=>by simp at h
 |a::l,0,x,_,h,hp=>by
  simp at h;subst h;simp[JR,hp]
 |a::l,k+1,x,h1,h2,hp=>by
  simp at h1 h2;have:=Pn (l:=l) (k:=k) (by simpa using h1.2) h2 hp;simp[JR,h1.1,this]
theorem yR {α:Type}{p:α->Bool}{l:List α}{k:Nat}{x:α}(h1:(l.take k).all (λx=>!p x)=true)(h2:l[k]? =some x)(hp:p x=true):iZ p l=k:=by
 simp[iZ,Pn h1 h2 hp]
theorem DR {α:Type}(p:α->Bool)(l:List α):decide (0<=iZ p l)=l.any p:=by
 rw[tQ,dA];unfold iZ;cases h:l.findIdx? p with
 |none=>
  rw[List.findIdx?_eq_none_iff]at h;simp only[CO];constructor
  ·intro h;simp at h
  ·rintro⟨x,hx,hp⟩;rw[h x hx]at hp;cases hp
 |some i=>
  rw[List.findIdx?_eq_some_iff_getElem]at h;obtain⟨hi,hp,_⟩:=h;simp only[CO];exact⟨λ_=>⟨_,mF hi,hp⟩,λ_=>by simp⟩
def cT (a b:Key):Int:=if a.kind<b.kind then-1 else if b.kind<a.kind then 1 else qU a.name b.name
def nQ (k:Key):Bool->List Key->List Key
 |done,[]=>if done then []else [k]
 |done,x::l=>(if 0<=cT x k/\done=false then [k]else [])++(if cT x k=0 then []else [x])++nQ k (done||decide (0<=cT x k)) l
def iW (l:List Key)(k:Key):List Key:=nQ k false l
theorem Qp :∀(a b:List UInt8),Lib.compareBytes a b= -1\/Lib.compareBytes a b=0\/Lib.compareBytes a b=1
 |[],[]=>by simp[Lib.compareBytes]
 |[],_::_=>by simp[Lib.compareBytes]
 |_::_,[]=>by simp[Lib.compareBytes]
 |a::l,b::m=>by
  simp only[Lib.compareBytes];split
  ·simp
  ·split
   ·simp
   ·exact Qp l m
theorem Qn :∀{a b:List UInt8},Lib.compareBytes a b=0↔a=b
 |[],[]=>by simp[Lib.compareBytes]
 |[],_::_=>by simp[Lib.compareBytes]
 |_::_,[]=>by simp[Lib.compareBytes]
 |a::l,b::m=>by
  simp only[Lib.compareBytes,List.cons.injEq];split
  ·rename_i h;simp;intro e;subst e;exact absurd h (UInt8.lt_irrefl _)
  ·split
   ·rename_i h;simp;intro e;subst e;exact absurd h (UInt8.lt_irrefl _)
   ·rename_i h1 h2;rw[Qn];have:a=b:=by
     simp only[GB]at h1 h2;exact JI.1 (by omega)
    simp[this]
theorem zi5 {a b:Str}:qU a b=0↔a=b:=by rw[qU,Qn,<-A5]
theorem FV {a b:Key}:cT a b=0↔a=b:=by
 obtain⟨x,s⟩:=a;obtain⟨y,t⟩:=b;simp only[cT,Key.mk.injEq];split
 ·omega
 ·split
  ·omega
  ·rw[zi5];have:x=y:=by omega
   simp[this]
theorem DW (a b:Key):cT a b= -1\/cT a b=0\/cT a b=1:=by
 unfold cT;split
 ·simp
 ·split
  ·simp
  ·exact Qp _ _
theorem Ni {p:Prop} [Decidable p](y:Key):(if p then []else [y]).length<=1:=by split<;>simp
theorem V4 (k:Key):∀(l:List Key),(nQ k true l).length<=l.length
 |[]=>by simp[nQ]
 |y::l=>by
  have h1:=V4 k l;have h2:=Ni (p:=cT y k=0) y;simp only[nQ,bZ,jI,Bool.true_or,EJ,and_false,iO,gZ];omega
theorem O8 (k:Key):∀(d:Bool) (l:List Key),(nQ k d l).length<=l.length+1
 |true,l=>Nat.le_succ_of_le (V4 k l)
 |false,[]=>by simp[nQ]
 |false,x::l=>by
  have h1:=O8 k false l;have h2:=V4 k l;have h3:=Ni (p:=cT x k=0) x;simp only[nQ,bZ,jI,Bool.false_or,and_true];by_cases hc:0<=cT x k
  ·simp only[hc,F7,fK,jI,gZ];omega
  ·simp only[hc,F8,iO,gZ];omega
def qE (out:List Key)(w:Weight):List Key:=if 0<w.w then iW out ⟨2,w.fT⟩else out
def nG (r:aC):List Key:=if iH r.kind then [⟨r.kind+1,r.to⟩]else []
def cD (r:aC):List Key:=if cQ r=0 then(r.rules.flatMap (·.split)).foldl qE (nG r)else []
theorem zcp (out:List Key)(w:Weight):(qE out w).length<=out.length+1:=by
 unfold qE;split
 ·exact O8 _ _ _
 ·omega
theorem xC {r:aC}(h:cQ r=0):bG r.kind 3=true/\fI r.name=true/\fO r=true/\gK r=true/\mS r=true/\mN r=true:=by
 unfold cQ at h
 (repeat' split at h)<;>simp_all
theorem DJ {s:Str}(h:fI s=true):(bs s).length<=12:=by
 simp[fI,lW]at h;exact h.1.1.2
theorem RE :∀(l:List Weight) (o:List Key),(l.foldl qE o).length<=o.length+l.length
 |[],o=>by simp
 |w::l,o=>by
  have h1:=RE l (qE o w);have h2:=zcp o w;simp only[pH,jI];omega
theorem Y2 :∀{l:List cH},(∀x∈l,x.split.length<=4)->(l.flatMap (·.split)).length<=4*l.length
 |[],_=>by simp
 |x::l,h=>by
  have h1:=Y2 (l:=l) (λy hy=>h y (by simp[hy]));have h2:=h x (by simp);simp only[TP,bZ,jI];omega
def qF (r:aC)(k:Nat):List Key:=((r.rules.take k).flatMap (·.split)).foldl qE (nG r)
theorem O3 (r:aC):qF r 0=nG r:=by simp[qF]
theorem Gf {r:aC}{k:Nat}{x:cH}(h:r.rules.take (k+1)=r.rules.take k++[x]):qF r (k+1)=x.split.foldl qE (qF r k):=by
 simp[qF,h]
theorem zcq (r:aC):(nG r).length<=1:=by unfold nG;split<;>simp
theorem VW {r:aC}(k:Nat)(h1:r.rules.length<=8)(h:∀x∈r.rules,x.split.length<=4):(qF r k).length<=33:=by
 have h2:=RE ((r.rules.take k).flatMap (·.split)) (nG r);have h3:=zcq r;have h4:=Y2 (l:=r.rules.take k) (λx hx=>h x (pY hx));have h5:(r.rules.take k).length<=8:=dH (by simp;omega) h1;unfold qF;omega
theorem KP {r:aC}(h:cQ r=0):cD r=qF r r.rules.length:=by simp[cD,qF,h]
def xX (x:cH):Bool:=decide (x.split.length<=20)&&decide ((bs x.host).length<=100)&&decide ((bs x.pre).length<=100)
def yW (r:aC):Bool:=r.rules.all xX&&decide (r.rules.length<=20)&&decide (r.bH.length<=20)&&decide ((bs r.name).length<=100)&&decide ((bs r.to).length<=100)
abbrev nB (s:Str):Prop:=(bs s).length<=9223372036854775807
structure y2 (r:aC):Prop where
 name:nB r.name
 to:nB r.to
 rules:r.rules.length<=9223372036854775807
 split:∀x∈r.rules,x.split.length<=9223372036854775807
 bH:r.bH.length<=9223372036854775807
structure cL (l:List aC):Prop where
 len:l.length<=9223372036854775807
 all:∀r∈l,y2 r
def fV :aC:=⟨0,⟨#[]⟩,0,0,⟨#[]⟩,[],[]⟩
def jF (a b:aC):Bool:=decide (a.kind=b.kind)&&decide (a.name=b.name)&&decide (a.port=b.port)&&decide (a.to=b.to)&&decide (a.bH=b.bH)&&decide (a.rules=b.rules)
theorem Sm (a b:aC):(jF a b&&decide (a.bR=b.bR))=decide (a=b):=by
 rw[tQ];obtain⟨a1,a2,a3,a4,a5,a6,a7⟩:=a;obtain⟨b1,b2,b3,b4,b5,b6,b7⟩:=b;simp[jF];constructor
 ·rintro⟨⟨⟨⟨⟨⟨h1,h2⟩,h3⟩,h4⟩,h5⟩,h6⟩,h7⟩;exact⟨h1,h2,h7,h3,h4,h6,h5⟩
 ·rintro⟨h1,h2,h7,h3,h4,h6,h5⟩;exact⟨⟨⟨⟨⟨⟨h1,h2⟩,h3⟩,h4⟩,h5⟩,h6⟩,h7⟩
def FP (l:List aC):Bool:=l.all yW&&decide (l.length<=80)
def bI (l:List aC)(k:Key):Option aC:=l.find? λr=>decide (r.key=k)
abbrev Oy (l:List aC)(k:Key):AV:=.aU [st (aF ((bI l k).getD fV)),bool (bI l k).isSome]
abbrev qJ (l:List aC)(k:Key)(c:Int):List aC:=l.filter λr=>decide (cT r.key k=c)
abbrev nN (l:List aC)(r:aC):List aC:=qJ l r.key (-1)++[r]++qJ l r.key 1
abbrev nM (l:List aC)(k:Key):List aC:=l.filter λr=>!decide (r.key=k)
def iC (l aD:List aC)(gone:List Key):List aC:=aD.foldl nN (gone.foldl nM l)
abbrev yK (l:List aC)(k:Key):List Key:=(l.filter λr=>decide (k∈cD r)).map aC.key
theorem BQ (a b:Key):(decide (a.kind=b.kind)&&decide (a.name=b.name))=decide (a=b):=by
 obtain⟨p,q⟩:=a;obtain⟨u,v⟩:=b;simp[Key.mk.injEq]
theorem Bd (l:List aC)(r:aC):(nN l r).length<=l.length+1:=by
 have h:∀l:List aC,(qJ l r.key (-1)).length+(qJ l r.key 1).length<=l.length:=by
  intro l;induction l with
  |nil=>simp
  |cons a l ih=>
   simp only[qJ,List.filter_cons]at ih⊢;by_cases h1:cT a.key r.key= -1
   ·have h2:¬cT a.key r.key=1:=by omega
    simp[h1]at ih⊢;omega
   ·by_cases h2:cT a.key r.key=1
    ·simp[h2]at ih⊢;omega
    ·simp[h1,h2]at ih⊢;omega
 have:=h l;simp only[nN,bZ,jI,gZ];omega
theorem Ua (l:List aC)(k:Key):(nM l k).length<=l.length:=gJ _ _
theorem IJ :∀(g:List Key) (l:List aC),(g.foldl nM l).length<=l.length
 |[],l=>by simp
 |k::g,l=>dH (IJ g _) (Ua l k)
theorem LL :∀(a l:List aC),(a.foldl nN l).length<=l.length+a.length
 |[],l=>by simp
 |r::a,l=>by
  have h1:=LL a (nN l r);have h2:=Bd l r;simp only[pH,jI];omega
theorem IM {α:Type}{p:α->Bool}{l:List α}(h:l.all (λx=>!p x)=true):l.find? p=none:=by
 rw[MX];intro x hx;have:=dP.1 h x hx;simpa using this
theorem FO {α:Type}{p:α->Bool}:∀{l:List α} {k:Nat} {x:α},(l.take k).all (λx=>!p x)=true->l[k]? =some x->p x=true->l.find? p=some x
 |[],k,x,_,h,_=>by simp at h
 |a::l,0,x,_,h,hp=>by simp at h;subst h;simp[wZ,hp]
 |a::l,k+1,x,h1,h2,hp=>by
  simp at h1 h2;have:=FO (l:=l) (k:=k) (by simpa using h1.2) h2 hp;simp[wZ,h1.1,this]
theorem zhV (c:Nat){mm:Nat->Option aY}{sz:Nat}{es fs:List (List D)}{T:TypeId}(hc:mm c=some (.grow sz es T))(he:es=fs):∃g,y4 mm (.own c) [] (.own 64) [(64,.grow sz fs T)] g:=by
 subst he;have e:gf [(64,c)] 64=c:=by simp[gf,lK]
 refine⟨[(64,c)],?_,?_,by simp,by simp,?_,?_,by simp⟩
 ·simp[e,eQ,AV.bU]
 ·simp[e,hc,aY.bU]
 ·simp[aI,aJ,lK,bB]
 ·simp[fH,aI,lK]
theorem X9 (a b:Key):(!decide (a.kind=b.kind)|| !decide (a.name=b.name))= !decide (a=b):=by rw[<-BQ,JW]
theorem zP (r:aC):(cD r).length<=33:=by
 by_cases h:cQ r=0
 ·rw[KP h];have hs:=(xC h).2.2.1;simp only[fO,bL,dA,dP]at hs;refine VW _ hs.1.1.1.2 (λx hx=>?_);have:=hs.2 x hx;simp only[nA,bL,dA]at this;exact this.1
 ·simp[cD,h]
theorem Ge (r:aC):(cD r).length<=9223372036854775807:=dH (zP r) (by omega)
@[simp] theorem lenAll_keyc {α:Type}(g:α->Key)(l:List α):iY (l.map (aQ∘g)) 2=True:=tZ (f:=aQ∘g) (n:=2) (λ_=>rfl) l
structure fJ (f:Frame):Prop where
 aD:cL f.aD
 gone:f.gone.length<=9223372036854775807
 aP:f.aP.length<=9223372036854775807
 held:f.held.length<=9223372036854775807
structure Aa (v:View):Prop where
 aP:cL v.aP
 held:v.held.length<=9223372036854775807
 push:fJ v.push
def eV :Frame:=⟨0,0,0,0,0,[],[],0,[],[]⟩
def rW (v:View)(f:Frame):View:={v with push:=f,open_:=true}
def lZ (v:View)(t:Int)(h:List Key):View:=if v.turn<t then{v with turn:=t,held:=h}else v
def mU (v:View)(f:Frame):Bool:=decide (f.type=2)&&decide (f.aM=v.push.aM)&&decide (f.kind=v.push.kind)&&decide (f.cN=v.push.cN)
def gC (v:View)(f:Frame):View:=
 if v.open_=false then v else if mU v f=false then v
 else{lZ ⟨v.aP,v.held,v.turn,eV,false⟩ f.turn f.held with aP:=if f.err=0 then iC v.aP v.push.aD v.push.gone else v.aP}
def pV (v:View)(f:Frame):Int:=if v.open_=false then 15 else if mU v f=false then 11 else f.err
theorem Me (a b:Mark):(decide (a.k.kind=b.k.kind)&&decide (a.k.name=b.k.name)&&decide (a.bR=b.bR))=decide (a=b):=by
 obtain⟨⟨p,q⟩,r⟩:=a;obtain⟨⟨u,v⟩,w⟩:=b;simp[Mark.mk.injEq,Key.mk.injEq]
@[simp] theorem drain_have (v:View)(t:Int)(h:List Key):(lZ v t h).aP=v.aP:=by unfold lZ;split<;>rfl
@[simp] theorem ziw (v:View)(t:Int)(h:List Key):(lZ v t h).push=v.push:=by unfold lZ;split<;>rfl
@[simp] theorem drain_open (v:View)(t:Int)(h:List Key):(lZ v t h).open_=v.open_:=by unfold lZ;split<;>rfl
theorem IP {α:Type}(p:α->Bool)(l:List α):(iZ p l= -1/\l.find? p=none)\/∃(i:Nat) (x:α),iZ p l=i/\i<l.length/\l[i]? =some x/\l.find? p=some x:=by
 induction l with
 |nil=>left;simp[iZ]
 |cons a l ih=>
  by_cases h:p a=true
  ·right;exact⟨0,a,by simp[iZ,JR,h],by simp,by simp,by simp[h]⟩
  ·have h':p a=false:=by simpa using h
   rcases ih with⟨h1,h2⟩|⟨i,x,h1,h2,h3,h4⟩
   ·left;refine⟨?_,by simp[h',h2]⟩;unfold iZ at h1⊢;simp only[JR,h'];cases hf:l.findIdx? p with
    |none=>simp
    |some j=>rw[hf]at h1;simp at h1<;>omega
   ·right;refine⟨i+1,x,?_,by simp;omega,by simpa using h3,by simp[h',h4]⟩;unfold iZ at h1⊢;simp only[JR,h'];cases hf:l.findIdx? p with
    |none=>rw[hf]at h1;simp at h1<;>omega
    |some j=>rw[hf]at h1;simp at h1⊢;omega
variable {α : Type}
structure pW (p:α->Bool)(l:List α)(j i:Nat)(cur:List α):Prop where
 len:cur.length=l.length
 lt:i<j
 le:j<=l.length
 pre:cur.take i=(l.take j).filter λx=>!p x
 CV:cur.drop j=l.drop j
theorem pW.start {p:α->Bool}{l:List α}{i:Nat}{x:α}(h:iZ p l=i)(hi:i<l.length):pW p l (i+1) i l:=by
 have key:∀(l:List α) (i:Nat),iZ p l=i->i<l.length->l.take i=(l.take (i+1)).filter λx=>!p x:=by
  intro l;induction l with
  |nil=>intro i h hi;simp at hi
  |cons a l ih=>
   intro i h hi;unfold iZ at h;by_cases ha:p a=true
   ·simp only[JR,ha,fK]at h;have:i=0:=by omega
    subst this;simp[ha]
   ·have ha':p a=false:=by simpa using ha
    simp only[JR,ha']at h;cases hf:l.findIdx? p with
    |none=>rw[hf]at h;simp at h<;>omega
    |some q=>
     rw[hf]at h;have e:i=q+1:=by grind
     subst e;have:=ih q (by simp[iZ,hf]) (by simpa using hi);simp[ha',this]
 exact⟨rfl,by omega,by omega,key l i h hi,rfl⟩
theorem pW.get {p:α->Bool}{l:List α}{j i:Nat}{cur:List α}(h:pW p l j i cur){v:α}(hv:l[j]? =some v):cur[j]? =some v:=by
 have h1:(cur.drop j)[0]? =(l.drop j)[0]? :=by rw[h.CV]
 simpa[hv]using h1
theorem pW.del {p:α->Bool}{l:List α}{j i:Nat}{cur:List α}(h:pW p l j i cur){v:α}(hv:l[j]? =some v)(hp:p v=true):pW p l (j+1) i cur:=by
 have hj:j<l.length:=(cE.1 hv).1;refine⟨h.len,by have:=h.lt;omega,by omega,?_,?_⟩
 ·rw[h.pre,jH,hv];simp[hp]
 ·have:=jW (List.drop 1) h.CV
  rwa[AZ,AZ]at this
theorem pW.keep {p:α->Bool}{l:List α}{j i:Nat}{cur:List α}(h:pW p l j i cur){v:α}(hv:l[j]? =some v)(hp:p v=false):pW p l (j+1) (i+1) (cur.set i v):=by
 have hj:j<l.length:=(cE.1 hv).1;have hlt:=h.lt;have hlen:=h.len;refine⟨by simp[hlen],by omega,by omega,?_,?_⟩
 ·rw[jH (l:=l),hv];have:(cur.set i v).take (i+1)=cur.take i++[v]:=by
   rw[jH];have h1:(cur.set i v)[i]? =some v:=by grind
   rw[h1,List.take_set_of_le (bY i)];rfl
  rw[this,h.pre];simp[hp]
 ·rw[List.drop_set_of_lt (by omega)];have:=jW (List.drop 1) h.CV
  rwa[AZ,AZ]at this
theorem pW.done {p:α->Bool}{l:List α}{i:Nat}{cur:List α}(h:pW p l l.length i cur):cur.take i=l.filter λx=>!p x:=by
 rw[h.pre,bX]
end Go.G
namespace Go.G
open Go.AI Go.Sort
def ltOf (cf:Key->Key->Int)(x y:Key):Bool:=decide (cf x y<0)
theorem compare_swap :∀(a b:List UInt8),Lib.compareBytes b a= -Lib.compareBytes a b
 |[],[]=>by simp[Lib.compareBytes]
 |[],_::_=>by simp[Lib.compareBytes]
 |_::_,[]=>by simp[Lib.compareBytes]
 |a::l,b::m=>by
  simp only[Lib.compareBytes,GB];by_cases h1:a.toNat<b.toNat
  ·have h2:¬b.toNat<a.toNat:=by omega
   simp[h1,h2]
  ·by_cases h2:b.toNat<a.toNat
   ·simp[h1,h2]
   ·simp[h1,h2];exact compare_swap l m
theorem Qo :∀{a b c:List UInt8},Lib.compareBytes a b= -1->Lib.compareBytes b c= -1->Lib.compareBytes a c= -1
 |[],[],_,h,_=>by simp[Lib.compareBytes]at h
 |[],_::_,[],_,h=>by simp[Lib.compareBytes]at h
 |[],_::_,_::_,_,_=>by simp[Lib.compareBytes]
 |_::_,[],_,h,_=>by simp[Lib.compareBytes]at h
 |_::_,_::_,[],_,h=>by simp[Lib.compareBytes]at h
 |a::l,b::m,c::n,h1,h2=>by
  simp only[Lib.compareBytes,GB]at h1 h2⊢;by_cases p1:a.toNat<b.toNat
  ·by_cases p2:b.toNat<c.toNat
   ·simp[show a.toNat<c.toNat by omega]
   ·by_cases p3:c.toNat<b.toNat
    ·simp[p2,p3]at h2
    ·simp[show a.toNat<c.toNat by omega]
  ·by_cases p1':b.toNat<a.toNat
   ·simp[p1,p1']at h1
   ·by_cases p2:b.toNat<c.toNat
    ·simp[show a.toNat<c.toNat by omega]
    ·by_cases p3:c.toNat<b.toNat
     ·simp[p2,p3]at h2
     ·have q1:¬a.toNat<c.toNat:=by omega
      have q2:¬c.toNat<a.toNat:=by omega
      simp only[p1,p1',p2,p3,q1,q2,iO]at h1 h2⊢;exact Qo h1 h2
theorem LX (a b:Key):cT b a= -cT a b:=by
 unfold cT;by_cases h1:a.kind<b.kind
 ·omega
 ·by_cases h2:b.kind<a.kind
  ·simp[h1,h2]
  ·simp[h1,h2];exact compare_swap _ _
theorem CB {a b c:Key}(h1:cT a b= -1)(h2:cT b c= -1):cT a c= -1:=by
 unfold cT at*;by_cases p1:a.kind<b.kind
 ·omega
 ·by_cases p1':b.kind<a.kind
  ·omega
  ·by_cases p2:b.kind<c.kind
   ·omega
   ·by_cases p3:c.kind<b.kind
    ·omega
    ·have q1:¬a.kind<c.kind:=by omega
     have q2:¬c.kind<a.kind:=by omega
     simp only[p1,p1',p2,p3,q1,q2]at h1 h2⊢;exact Qo h1 h2
theorem CD (a:Key):cT a a=0:=FV.2 rfl
theorem zi7 (a b:Key):(cT a b<0)↔cT a b= -1:=by
 have:=DW a b;omega
theorem K0 (a b:Key):ltOf cT a b=decide (cT a b= -1):=by
 unfold ltOf;rw[tQ];simp[zi7]
theorem zfJ {a b:Key}(h1:ltOf cT a b=false)(h2:ltOf cT b a=false):a=b:=by
 rw[K0]at h1 h2;have e:=LX a b;have r:=DW a b;simp at h1 h2;exact FV.1 (by omega)
theorem NV :SWO (ltOf cT) where
 irrefl x:=by rw[K0,CD];simp
 trans x y z h1 h2:=by
  rw[K0]at*;simp at*;exact CB h1 h2
 ntrans x y z h1 h2:=by
  cases h:ltOf cT x z
  ·rfl
  ·exfalso;rw[K0]at*;simp at*;rcases DW y x with a|a|a
   ·have:=CB a h;exact h2 this
   ·have e:=FV.1 a;subst e;exact h2 h
   ·have:=LX y x;omega
def uT (l:List Key):List Key:=l.mergeSort λx y=>!(ltOf cT) y x
theorem KD (l:List Key):(uT l).length=l.length:=List.length_mergeSort l
theorem Ln {l:List Key}{k:Key}:k∈uT l↔k∈l:=List.mem_mergeSort
theorem zfY (l:List Key):(uT l).Pairwise λx y=>(!(ltOf cT) y x)=true:=by
 refine List.pairwise_mergeSort (le:=λx y=>!(ltOf cT) y x) ?_ ?_ l
 ·intro a b c h1 h2;simp at*;exact NV.ntrans _ _ _ h2 h1
 ·intro a b;cases h:ltOf cT b a
  ·simp
  ·cases h2:ltOf cT a b
   ·simp
   ·have:=NV.trans _ _ _ h h2;rw[NV.irrefl]at this;cases this
def i7 (l:List Key):Prop:=l.Pairwise λx y=>cT x y= -1
theorem SV :∀{a b:List Key},i7 a->i7 b->(∀k,k∈a↔k∈b)->a=b
 |[],[],_,_,_=>rfl
 |[],y::b,_,_,h=>by have:=(h y).2 (by simp);simp at this
 |x::a,[],_,_,h=>by have:=(h x).1 (by simp);simp at this
 |x::a,y::b,ha,hb,h=>by
  obtain⟨hx,ha'⟩:=zA.1 ha;obtain⟨hy,hb'⟩:=zA.1 hb;have irr:∀z:Key,¬cT z z= -1:=λz=>by rw[CD];decide
  have e:x=y:=by
   rcases kD.1 ((h x).1 (by simp))with e|e
   ·exact e
   ·rcases kD.1 ((h y).2 (by simp))with e'|e'
    ·exact e'.symm
    ·exact absurd (CB (hx y e') (hy x e)) (irr x)
  subst e;congr 1
  refine SV ha' hb' λk=>?_;constructor
  ·intro hk;rcases kD.1 ((h k).1 (by simp[hk]))with e|e
   ·subst e;exact absurd (hx _ hk) (irr _)
   ·exact e
  ·intro hk;rcases kD.1 ((h k).2 (by simp[hk]))with e|e
   ·subst e;exact absurd (hy _ hk) (irr _)
   ·exact e
def qS (p:Option Key):List Key->List Key
 |[]=>[]
 |x::l=>(if p=some x then []else [x])++qS (some x) l
def oM (l:List Key):List Key:=qS none l
def FD (p:Option Key)(l:List Key):Option Key:=match l.getLast? with
 |some x=>some x
 |none=>p
theorem Qs (x:Key):∀(l:List Key) (p:Option Key),qS p (l++[x])=qS p l++(if FD p l=some x then []else [x])
 |[],p=>by by_cases h:p=some x<;>simp[qS,FD,h]
 |y::l,p=>by
  simp only[yD,qS];rw[Qs x l (some y)];have:FD (some y) l=FD p (y::l):=by
   unfold FD;rw[List.getLast?_cons];cases l.getLast? <;>simp
  rw[this];simp
theorem Lx {k:Key}:∀{l:List Key} {p:Option Key},k∈qS p l->k∈l
 |[],p,h=>by simp[qS]at h
 |x::l,p,h=>by
  simp only[qS,gU]at h;rcases h with h|h
  ·split at h<;>simp at h;subst h;simp
  ·simp[Lx h]
theorem Lw {k:Key}:∀{l:List Key} {p:Option Key},k∈l->k∈qS p l\/p=some k
 |[],p,h=>by simp at h
 |x::l,p,h=>by
  simp only[qS,gU];rcases kD.1 h with e|e
  ·subst e;by_cases hp:p=some k
   ·exact .inr hp
   ·simp[hp]
  ·rcases Lw (p:=some x) e with h|h
   ·exact .inl (.inr h)
   ·by_cases hp:p=some x
    ·exact .inr (by rw[hp,h])
    ·have:x=k:=mW h;exact .inl (.inl (by rw[this]at hp;simp[hp,this]))
theorem Lv {k:Key}{l:List Key}:k∈oM l↔k∈l:=
 ⟨Lx,λh=>(Lw (p:=none) h).resolve_right (by simp)⟩
theorem Sa :∀{l:List Key} {p:Option Key},l.Pairwise (λx y=>(!(ltOf cT) y x)=true)->i7 (qS p l)/\∀q,p=some q->(∀x∈l,(!(ltOf cT) x q)=true)->∀x∈qS p l,cT q x= -1
 |[],p,_=>⟨by simp[qS,i7],λq _ _ x h=>by simp[qS]at h⟩
 |x::l,p,h=>by
  obtain⟨hx,hl⟩:=zA.1 h;obtain⟨h1,h2⟩:=Sa (p:=some x) hl;have h3:=h2 x rfl hx;refine⟨?_,λq hq hlq y hy=>?_⟩
  ·simp only[qS];split
   ·simpa using h1
   ·exact zA.2 ⟨h3,h1⟩
  ·simp only[qS,gU]at hy;have lt:∀z,(!(ltOf cT) z q)=true->z≠q->cT q z= -1:=λz hz hne=>by
    rw[K0]at hz;simp at hz;rcases DW q z with a|a|a
    ·exact a
    ·exact absurd (FV.1 a).symm hne
    ·have:=LX q z;omega
   rcases hy with hy|hy
   ·split at hy
    ·simp at hy
    ·rename_i hne;simp at hy;subst hy;exact lt _ (hlq _ (by simp)) (λe=>hne (by rw[hq,e]))
   ·by_cases e:x=q
    ·rw[<-e];exact h3 y hy
    ·exact CB (lt x (hlq x (by simp)) e) (h3 y hy)
theorem Sb (l:List Key):i7 (oM (uT l)):=(Sa (zfY l)).1
theorem V3 (k:Key):∀{l:List Key},i7 l->(∀x∈l,cT k x= -1)->nQ k true l=l
 |[],_,_=>by simp[nQ]
 |x::l,h,hk=>by
  obtain⟨_,hl⟩:=zA.1 h;have h0:¬cT x k=0:=by
   intro e;have:=hk x (by simp);rw[FV.1 e,CD]at this;omega
  have:=V3 k hl (λy hy=>hk y (by simp[hy]));simp[nQ,h0,this]
theorem Gs (k:Key):∀{l:List Key},i7 l->i7 (iW l k)/\∀x,x∈iW l k↔x=k\/x∈l
 |[],_=>by simp[iW,nQ,i7]
 |x::l,h=>by
  obtain⟨hx,hl⟩:=zA.1 h;obtain⟨h1,h2⟩:=Gs k hl;rcases DW x k with a|a|a
  ·have e:iW (x::l) k=x::iW l k:=by simp[iW,nQ,a]
   rw[e];refine⟨zA.2 ⟨λy hy=>?_,h1⟩,λy=>?_⟩
   ·rcases(h2 y).1 hy with e|e
    ·rw[e];exact a
    ·exact hx y e
   ·simp only[kD,h2];constructor
    ·rintro(h|h|h)<;>simp[h]
    ·rintro(h|h|h)<;>simp[h]
  ·have e:=FV.1 a;subst e;have:nQ x true l=l:=V3 x hl hx;have e:iW (x::l) x=x::l:=by simp[iW,nQ,CD,this]
   rw[e];exact⟨h,λy=>by simp⟩
  ·have b:cT k x= -1:=by have:=LX x k;omega
   have:nQ k true l=l:=V3 k hl (λy hy=>CB b (hx y hy));have e:iW (x::l) k=k::x::l:=by simp[iW,nQ,a,this]
   rw[e];refine⟨zA.2 ⟨λy hy=>?_,h⟩,λy=>by simp⟩;rcases kD.1 hy with e|e
   ·rw[e];exact b
   ·exact CB b (hx y e)
theorem BW :∀(l:List Key) {o:List Key},i7 o->i7 (l.foldl iW o)/\∀x,x∈l.foldl iW o↔x∈o\/x∈l
 |[],o,h=>⟨h,λx=>by simp⟩
 |k::l,o,h=>by
  obtain⟨h1,h2⟩:=Gs k h;obtain⟨h3,h4⟩:=BW l h1;refine⟨h3,λx=>?_⟩;rw[pH,h4,h2];simp only[kD];constructor
  ·rintro((h|h)|h)<;>simp[h]
  ·rintro(h|h|h)<;>simp[h]
theorem Qr (l:List Key):oM (uT l)=l.foldl iW []:=by
 obtain⟨h1,h2⟩:=BW l (o:=[]) (by simp[i7]);refine SV (Sb l) h1 λk=>?_;rw[Lv,Ln,h2];simp
theorem ziY {l m:List Key}(hm:i7 m)(h:∀k,k∈m↔k∈l):oM (uT l)=m:=
 SV (Sb l) hm λk=>by rw[Lv,Ln,h]
end Go.G
namespace Go.G
abbrev toKey (w:Weight):Key:=⟨2,w.fT⟩
theorem LM :∀(l:List Weight) (o:List Key),l.foldl qE o=((l.filter λw=>decide (0<w.w)).map toKey).foldl iW o
 |[],o=>rfl
 |w::l,o=>by
  rw[pH,LM l];by_cases h:0<w.w<;>simp[qE,h]
def tW (r:aC)(k:Nat):List Key:=(if bs r.to=[]then []else [⟨r.kind+1,r.to⟩])++(((r.rules.take k).flatMap (·.split)).filter λw=>decide (0<w.w)).map toKey
theorem Im {r:aC}(h:cQ r=0):oM (uT (tW r r.rules.length))=cD r:=by
 obtain⟨_,_,_,h4,h5,_⟩:=xC h;have e0:(if bs r.to=[]then([]:List Key)else [⟨r.kind+1,r.to⟩])=nG r:=by
  unfold nG;by_cases ht:iH r.kind=true
  ·have hn:fI r.to=true:=by simp[mS,ht]at h5;exact h5.1
   have:¬bs r.to=[]:=by intro e;simp[fI,lW,e]at hn
   rw[aT this,aZ ht]
  ·have:bs r.to=[]:=by simp[gK,ht]at h4;exact h4.1.1.2
   rw[aZ this,aT ht]
 have e1:cD r=(((r.rules.flatMap (·.split)).filter λw=>decide (0<w.w)).map toKey).foldl iW (nG r):=by
  rw[cD,aZ h,LM]
 have h0:i7 (nG r):=by unfold nG;split<;>simp[i7]
 obtain⟨h1,h2⟩:=BW (((r.rules.flatMap (λx:cH=>x.split)).filter λw:Weight=>decide (0<w.w)).map toKey) h0;rw[e1];refine ziY h1 λk=>?_;rw[h2,tW,e0,bX,gU]
def iF (l:List aC)(k:Key):Bool:=!(bI l k).isSome
def sB (l all:List aC):List Key:=(l.flatMap cD).filter (iF all)
def xK (l:List aC):List Key:=(sB l l).foldl iW []
theorem Il (r:aC):tW r 0=if bs r.to=[]then []else [⟨r.kind+1,r.to⟩]:=by simp[tW]
theorem zdN {r:aC}{k:Nat}{x:cH}(h:r.rules.take (k+1)=r.rules.take k++[x]):tW r (k+1)=tW r k++(x.split.filter λw=>decide (0<w.w)).map toKey:=by
 simp[tW,h]
theorem Io {r:aC}(k:Nat)(h1:r.rules.length<=8)(h:∀x∈r.rules,x.split.length<=4):(tW r k).length<=33:=by
 have h4:=Y2 (l:=r.rules.take k) (λx hx=>h x (pY hx));have h5:(r.rules.take k).length<=8:=dH (by simp;omega) h1;have h6:=gJ (λw:Weight=>decide (0<w.w)) ((r.rules.take k).flatMap (·.split));simp only[tW,zD];split<;>simp<;>omega
structure sK (l:List Key)(j i:Nat)(cur:List Key):Prop where
 len:cur.length=l.length
 lt:i<j
 le:j<=l.length
 pre:cur.take i=oM (l.take j)
 CV:cur.drop (j-1)=l.drop (j-1)
theorem zf9 {l:List Key}{j:Nat}{q:Key}(h0:0<j)(hq:l[j-1]? =some q):FD none (l.take j)=some q:=by
 unfold FD
 grind
theorem R2 {l:List Key}{j:Nat}{v q:Key}(h0:0<j)(hq:l[j-1]? =some q)(hv:l[j]? =some v):oM (l.take (j+1))=oM (l.take j)++(if q=v then []else [v]):=by
 rw[jH,hv];show qS none (l.take j++[v])=_;rw[Qs,zf9 h0 hq];simp[oM]
theorem sK.get {l:List Key}{j i:Nat}{cur:List Key}(h:sK l j i cur){v:Key}(hv:l[j]? =some v):cur[j]? =some v:=by
 have h1:(cur.drop (j-1))[1]? =(l.drop (j-1))[1]? :=by rw[h.CV]
 have:=h.lt
 grind
theorem sK.get' {l:List Key}{j i:Nat}{cur:List Key}(h:sK l j i cur){v:Key}(hv:l[j-1]? =some v):cur[j-1]? =some v:=by
 have h1:(cur.drop (j-1))[0]? =(l.drop (j-1))[0]? :=by rw[h.CV]
 simp_all
theorem sK.start {l:List Key}{j:Nat}{q:Key}(h0:0<j)(hp:oM (l.take j)=l.take j)(h1:l[j-1]? =some q)(h2:l[j]? =some q):sK l (j+1) j l:=
 ⟨rfl,by omega,by have:=(cE.1 h2).1;omega,by rw[R2 h0 h1 h2,hp];simp,rfl⟩
theorem sK.same {l:List Key}{j i:Nat}{cur:List Key}(h:sK l j i cur){v:Key}(hv:l[j]? =some v)(hq:l[j-1]? =some v):sK l (j+1) i cur:=by
 have hj:j<l.length:=(cE.1 hv).1;have:=h.lt;refine⟨h.len,by omega,by omega,by rw[R2 (by omega) hq hv,h.pre];simp,?_⟩;have:=jW (List.drop 1) h.CV;rw[AZ,AZ,show j-1+1=j by omega]at this;simpa using this
theorem sK.keep {l:List Key}{j i:Nat}{cur:List Key}(h:sK l j i cur){v q:Key}(hv:l[j]? =some v)(hq:l[j-1]? =some q)(hne:¬q=v):sK l (j+1) (i+1) (cur.set i v):=by
 have hj:j<l.length:=(cE.1 hv).1;have hlt:=h.lt;have hlen:=h.len;refine⟨by simp[hlen],by omega,by omega,?_,?_⟩
 ·rw[R2 (by omega) hq hv,aT hne,<-h.pre];have h1:(cur.set i v)[i]? =some v:=by grind
  rw[jH,h1,List.take_set_of_le (bY i)];rfl
 ·rw[List.drop_set_of_lt (by omega)];have:=jW (List.drop 1) h.CV;rw[AZ,AZ,show j-1+1=j by omega]at this;simpa using this
theorem sK.done {l:List Key}{i:Nat}{cur:List Key}(h:sK l l.length i cur):cur.take i=oM l:=by
 rw[h.pre,bX]
theorem zi0 (l:List Key):oM (l.take (0+1))=l.take (0+1):=by cases l<;>simp[oM,qS]
theorem ziZ {l:List Key}(h:(l.length:Int)<2):oM l=l:=by
 match l,h with
 |[],_=>rfl
 |[_],_=>rfl
 |_::_::_,h=>simp at h;omega
theorem Vv {r:aC}(h:gK r=true)(ht:¬bs r.to=[]):r.rules=[]:=by
 simp only[gK,bL,sO,dA]at h;have h2:=h.1.1.2.resolve_left ht;simp only[iH,sO,dA]at h2;rcases h.1.2 with h3|h3
 ·simp_all
 ·simp only[jC,dA]at h3;omega
theorem YV {l:List aC}{k:Key}{r:aC}(h:bI l k=some r):r.key=k:=by
 have:=List.find?_some h;simpa using this
theorem BU {l:List aC}{k:Key}{r:aC}(h:bI l k=some r):r∈l:=List.mem_of_find?_eq_some h
theorem YW (a b:List aC)(k:Key):bI (a++b) k=match bI a k with|some r=>some r|none=>bI b k:=by
 unfold bI
 grind
theorem Oq (l:List aC){k q:Key}{c:Int}(h:cT k q=c):bI (qJ l q c) k=bI l k:=by
 induction l with
 |nil=>rfl
 |cons a l ih=>
  unfold bI qJ at*
  grind
theorem YU (l:List aC){k q:Key}{c:Int}(h:¬cT k q=c):bI (qJ l q c) k=none:=by
 unfold bI qJ
 grind
theorem zht (l:List aC)(r:aC)(k:Key):bI (nN l r) k=if r.key=k then some r else bI l k:=by
 rw[YW,YW];rcases DW k r.key with h|h|h
 ·have hne:¬r.key=k:=by intro e;rw[<-e,CD]at h;omega
  rw[Oq l h,YU l (c:=1) (by omega),aT hne];have:bI [r] k=none:=by simp[bI,hne]
  rw[this];cases bI l k<;>rfl
 ·have e:=FV.1 h;subst e;rw[YU l (c:= -1) (by omega),aZ rfl];simp[bI]
 ·have hne:¬r.key=k:=by intro e;rw[<-e,CD]at h;omega
  rw[YU l (c:= -1) (by omega),Oq l h,aT hne];have:bI [r] k=none:=by simp[bI,hne]
  rw[this]
theorem zhs (l:List aC)(q k:Key):bI (nM l q) k=if q=k then none else bI l k:=by
 induction l with
 |nil=>simp[bI]
 |cons a l ih=>
  unfold bI nM at*
  grind
def fA (l:List aC):Prop:=i7 (l.map aC.key)
theorem D1 {l:List aC}(h:fA l){r:aC}(hr:r∈l):bI l r.key=some r:=by
 induction l with
 |nil=>simp at hr
 |cons a l ih=>
  obtain⟨h1,h2⟩:=zA.1 h;rcases kD.1 hr with e|e
  ·subst e;simp[bI]
  ·have hne:¬a.key=r.key:=by
    intro e';have:=h1 r.key (fU.2 ⟨r,e,rfl⟩);rw[e',CD]at this;omega
   have:=ih h2 e;unfold bI at*;simp[hne,this]
theorem Ry {l:List Key}(h:i7 l):l.Nodup:=by
 refine h.imp ?_;intro a b hab e;rw[e,CD]at hab;omega
theorem XT :∀{a b:List Key},a.Nodup->(∀x∈a,x∈b)->a.length<=b.length
 |[],b,_,_=>by simp
 |x::a,b,hn,hs=>by
  obtain⟨h1,h2⟩:=List.nodup_cons.1 hn;have hx:x∈b:=hs x (by simp);have:=XT (a:=a) (b:=b.erase x) h2 (λy hy=>by
   refine(List.mem_erase_of_ne ?_).2 (hs y (by simp[hy]));rintro rfl;exact h1 hy)
  rw[List.length_erase_of_mem hx]at this;have:0<b.length:=List.length_pos_of_mem hx;simp;omega
open Go.AI
structure aW where
 cap:Int
 bA:List (List aC)
 deriving DecidableEq
@[simp] def oX (l:List aC):List D:=[lD (l.map aF)]
@[simp] def eW (s:aW):List D:=[iD s.cap,lD (s.bA.map oX)]
@[simp] theorem lenAll_rs (l:List (List aC)):iY (l.map oX) 1=True:=tZ (f:=oX) (n:=1) (λ_=>rfl) l
structure vR (s:aW):Prop where
 len:s.bA.length<=9223372036854775807
 all:∀l∈s.bA,cL l
def n9 (n:Int):Int:=max 0 (min n 64)
def fZ (n:Int):aW:=⟨n9 n,[[]]⟩
def dQ (s:aW):List aC:=s.bA.getLastD []
def fN (s:aW):aW:=if s.bA=[]then fZ s.cap else⟨n9 s.cap,s.bA⟩
def qW (s:aW)(i:Int):Option (List aC):=if 0<=i then(fN s).bA[i.toNat]? else none
def rK (s:aW)(k:Key)(v:Int):Option aC:=match bI ((qW s v).getD []) k with
 |some r=>if r.bR=v then some r else none
 |none=>none
def vQ (m:Mark):aC:=⟨m.k.kind,m.k.name,m.bR,0,⟨#[]⟩,[],[]⟩
def ofM (s:aW)(m:Mark):aC:=(rK s m.k m.bR).getD (vQ m)
def pQ (s:aW)(l:List Mark):List aC:=(l.map (ofM s)).foldl nN []
def vD (l:List aC):List Mark:=l.map λr=>⟨r.key,r.bR⟩
@[simp] theorem marksV_nil :vD []=[]:=rfl
theorem Md (a b:List aC):vD (a++b)=vD a++vD b:=by simp[vD]
@[simp] theorem marksV_one (r:aC):vD [r]=[⟨r.key,r.bR⟩]:=rfl
@[simp] theorem marksV_length (l:List aC):(vD l).length=l.length:=by simp[vD]
def kI (now next:List aC)(v:Int):List aC:=next.map λr=>{r with bR:=match bI now r.key with
 |some o=>if jF o r then o.bR else v
 |none=>v}
def mV (l:List aC):Int:=match l.find? λr=>!decide (cQ r=0)with
 |some r=>cQ r
 |none=>0
def D2 :List aC->Bool
 |[]=>true
 |[_]=>true
 |a::b::l=>decide (cT a.key b.key= -1)&&D2 (b::l)
def DB (l:List aC):List Int:=(l.filter λr=>decide (r.kind=0)).map aC.port
def eB (l:List aC):Int:=if 64<l.length then 3 else if mV l=0 then(if D2 l=false then 2 else if(DB l).Nodup then 0 else 13)else mV l
def iN (a b:List aC):List aC:=b.filter λr=>!decide (bI a r.key=some r)
def kA (a b:List aC):List Key:=(a.map aC.key).filter λk=>!(bI b k).isSome
theorem Sj {v:View}{f:Frame}(h1:v.open_=true)(h2:mU v f=true):gC v f=lZ ⟨if f.err=0 then iC v.aP v.push.aD v.push.gone else v.aP,v.held,v.turn,eV,false⟩ f.turn f.held:=by
 unfold gC lZ
 grind
theorem zhE {v:View}{f:Frame}(h:f.type=2):(!decide (f.aM=v.push.aM)|| (!decide (f.kind=v.push.kind)|| !decide (f.cN=v.push.cN)))= !mU v f:=by
 simp only[mU,h,F7,uP,JW,Bool.or_assoc]
theorem Jy (s:aW)(m:Mark):(ofM s m).key=m.k:=by
 unfold ofM rK;split
 ·rename_i r h;split
  ·simp[YV h]
  ·rfl
 ·rfl
theorem zeE (s:aW)(m:Mark):(ofM s m).bR=m.bR:=by
 unfold ofM rK;split
 ·rename_i r h;split
  ·simp_all
  ·rfl
 ·rfl
theorem K9 (s:aW)(l:List Mark):(pQ s l).length<=l.length:=by
 have:=LL (l.map (ofM s)) [];simpa[pQ]using this
theorem SY :∀(l:List aC),D2 l=true↔fA l
 |[]=>by simp[D2,fA,i7]
 |[_]=>by simp[D2,fA,i7]
 |a::b::l=>by
  have ih:=SY (b::l);simp only[D2,bL,dA,ih];unfold fA i7;constructor
  ·rintro⟨h1,h2⟩;refine zA.2 ⟨λx hx=>?_,h2⟩;obtain⟨h3,_⟩:=zA.1 h2;rcases kD.1 hx with e|e
   ·rw[e];exact h1
   ·exact CB h1 (h3 x e)
  ·intro h;obtain⟨h1,h2⟩:=zA.1 h;exact⟨h1 _ (by simp),h2⟩
theorem xA {l:List aC}(h:eB l=0):fA l:=by
 unfold eB at h;rw[<-SY]
 grind
theorem zh0 {l:List aC}(h:FP l=true):l.length<=80:=by
 simp only[FP,bL,dA]at h;exact h.2
theorem Lm {l:List aC}{r x:aC}(h:x∈nN l r):x=r\/x∈l:=by
 simp only[nN,qJ,gU,mX,yA]at h;rcases h with(h|h)|h
 ·exact .inr h.1
 ·exact .inl h
 ·exact .inr h.1
theorem XJ :∀{a l:List aC} {x:aC},x∈a.foldl nN l->x∈l\/x∈a
 |[],l,x,h=>.inl h
 |r::a,l,x,h=>by
  rcases XJ (a:=a) h with h|h
  ·rcases Lm h with h|h
   ·exact .inr (by simp[h])
   ·exact .inl h
  ·exact .inr (by simp[h])
theorem Ls :∀{g:List Key} {l:List aC} {x:aC},x∈g.foldl nM l->x∈l
 |[],l,x,h=>h
 |k::g,l,x,h=>(mX.1 (Ls (g:=g) h)).1
theorem Lp {l a:List aC}{g:List Key}{x:aC}(h:x∈iC l a g):x∈l\/x∈a:=by
 rcases XJ h with h|h
 ·exact .inl (Ls h)
 ·exact .inr h
theorem WE (l a:List aC)(g:List Key):(iC l a g).length<=l.length+a.length:=by
 have h1:=LL a (g.foldl nM l);have h2:=IJ g l;unfold iC;omega
theorem zd3 {l a:List aC}{g:List Key}(h1:cL l)(h2:cL a)(h:l.length+a.length<=1000000):cL (iC l a g):=
 ⟨by have:=WE l a g;omega,λr hr=>(Lp hr).elim (h1.all r) (h2.all r)⟩
theorem zkY {v:View}{f:Frame}(h:v.open_=false):gC v f=v:=by simp[gC,h]
theorem zkX {v:View}{f:Frame}(h:mU v f=false):gC v f=v:=by by_cases h1:v.open_=true<;>simp[gC,h1,h]
theorem zkW (v:View)(f:Frame):(gC v f).push=v.push\/(gC v f).push=eV:=by
 by_cases h1:v.open_=true
 ·by_cases h2:mU v f=true
  ·rw[Sj h1 h2];simp
  ·have h2:mU v f=false:=by simpa using h2
   rw[zkX h2];simp
 ·have h1:v.open_=false:=by simpa using h1
  rw[zkY h1];simp

def rG (k:Key):List Value:=[.int .i64 k.kind,.string k.name]
theorem YA {a b:Key}(h:rG a=rG b):a=b:=by
 obtain⟨x,s⟩:=a;obtain⟨y,t⟩:=b;simp[rG]at h;rw[h.1,h.2]
noncomputable def o8 (S:List Key):List Value->Option (List D):=λv=>open Classical in if∃k,k∈S/\v=rG k then some [bD true]else none
theorem XO (S:List Key)(k:Key):o8 S (rG k)=if k∈S then some [bD true]else none:=by
 unfold o8;by_cases h:k∈S
 ·rw[aZ ⟨k,h,rfl⟩,aZ h]
 ·rw[aT,aT h];rintro⟨k',h1,h2⟩;rw[YA h2]at h;exact h h1
theorem H9 :(λ_=>none)=o8 []:=by
 funext v;simp[o8]
theorem Uu (S:List Key)(k:Key):oS (o8 S) (rG k) [bD true]=o8 (S++[k]):=by
 funext v
 unfold oS;by_cases h:v=rG k
 ·subst h;rw[aZ rfl,XO,aZ (by simp)]
 ·rw[aT h];unfold o8;by_cases h2:∃q,q∈S/\v=rG q
  ·simp_all
  ·grind
@[simp] theorem updL_lookS' (S:List Key)(a:Int)(s:Str):oS (o8 S) [.int .i64 a,.string s] [D.v (Value.bool true)]=o8 (S++[⟨a,s⟩]):=Uu S ⟨a,s⟩
theorem FA {S:List Key}{k:Key}(h:k∈S):o8 S [.int .i64 k.kind,.string k.name]=some [bD true]:=by
 have:=XO S k;rwa[aZ h]at this
theorem H8 {S:List Key}{k:Key}(h:k∉S):o8 S [.int .i64 k.kind,.string k.name]=none:=by
 have:=XO S k;rwa[aT h]at this
@[simp] theorem take_len_map {α β:Type}(f:α->β)(l:List α):List.take l.length (List.map f l)=List.map f l:=by rw[<-zB,bX]
noncomputable def vF (S:List Int):List Value->Option (List D):=λv=>open Classical in if∃n,n∈S/\v=[.int .i64 n]then some [bD true]else none
theorem QJ (S:List Int)(n:Int):vF S [.int .i64 n]=if n∈S then some [bD true]else none:=by
 unfold vF;simp_all
theorem K3 :(λ_=>none)=vF []:=by
 funext v;simp[vF]
@[simp] theorem updL_lookP (S:List Int)(n:Int):oS (vF S) [.int .i64 n] [D.v (Value.bool true)]=vF (S++[n]):=by
  funext v
  unfold oS;by_cases h:v=[.int .i64 n]
  ·subst h;rw[aZ rfl,QJ,aZ (by simp)]
  ·rw[aT h];unfold vF;by_cases h2:∃q,q∈S/\v=[Value.int .i64 q]
   ·simp_all
   ·grind
theorem mem_keys {l:List aC}{k:Key}:k∈l.map aC.key↔(bI l k).isSome=true:=by
 unfold bI;rw[List.find?_isSome];simp
@[simp] theorem missP_nil (l:List aC):sB [] l=[]:=rfl
theorem Lk (a:List aC)(x:aC)(l:List aC):sB (a++[x]) l=sB a l++(cD x).filter (iF l):=by
 simp[sB]
theorem KZ :∀(a l:List aC),(sB a l).length<=33*a.length
 |[],l=>by simp
 |r::a,l=>by
  have h1:=KZ a l;have h2:=zP r;have h3:=gJ (iF l) (cD r);simp only[sB,TP,nL,bZ,jI]at*;omega
theorem zft (l:List aC):oM (uT (sB l l))=xK l:=Qr _
theorem IL {l:List aC}{k:Nat}{x:aC}(h:(l.take k).all (λr=>decide (cQ r=0))=true)(hr:l[k]? =some x)(hx:¬cQ x=0):mV l=cQ x:=by
 unfold mV;rw[FO (k:=k) (x:=x) (by simpa using h) hr (by simpa using hx)]
theorem RH {l:List aC}(h:l.all (λr=>decide (cQ r=0))=true):mV l=0:=by
 unfold mV;rw[IM (by simpa using h)]
theorem Rx (a:List aC)(x:aC)(h:fA a)(hl:∀y,a.getLast? =some y->cT y.key x.key= -1):fA (a++[x]):=by
 unfold fA i7 at*;rw[CJ,MS];refine⟨h,by simp,λy hy z hz=>?_⟩;simp at hz;subst hz;rcases List.eq_nil_or_concat a with e|⟨b,w,e⟩
 ·simp_all
 ·subst e;have hw:=hl w (by simp);simp only[List.concat_eq_append,CJ,kE,zC,gU,yA]at hy h;rcases hy with hy|hy
  ·have:=(MS.1 h).2.2 y hy w.key (by simp);exact CB this hw
  ·rw[hy];exact hw
theorem Rz {l:List aC}{m:Nat}{y x:aC}(h:fA l)(hy:l[m]? =some y)(hx:l[m+1]? =some x):cT y.key x.key= -1:=by
 unfold fA i7 at h;rw[MR]at h
 grind
theorem Cr {l:List aC}(h:¬64<l.length)(h2:¬mV l=0):eB l=mV l:=by simp[eB,h,h2]
theorem Cs {l:List aC}(h:¬64<l.length)(h2:mV l=0)(h3:¬fA l):eB l=2:=by
 have:D2 l=false:=by
  cases hb:D2 l
  ·rfl
  ·exact absurd ((SY l).1 hb) h3
 simp[eB,h,h2,this]
theorem UQ {l:List aC}(h:¬64<l.length)(h2:mV l=0)(h3:fA l):eB l=if(DB l).Nodup then 0 else 13:=by
 simp[eB,h,h2,(SY l).2 h3]
theorem Kk {α:Type}{a:List α}{x:α}:(a++[x]).Nodup↔a.Nodup/\x∉a:=by grind
@[simp] theorem ascR_nil :fA []=True:=eq_true (by simp[fA,i7])
theorem X1 {α:Type}{l:List α}{m:Nat}{y:α}(h:l[m]? =some y):(l.take (m+1)).getLast? =some y:=by grind
theorem zde {S:List Int}{n:Int}(h:n∈S):vF S [.int .i64 n]=some [bD true]:=by rw[QJ,aZ h]
theorem zdd {S:List Int}{n:Int}(h:n∉S):vF S [.int .i64 n]=none:=by rw[QJ,aT h]
theorem ZO (n:Int):n9 (n9 n)=n9 n:=by unfold n9;omega
theorem ZN (n:Int):(if 0<(if 64<n then 64 else n)then(if 64<n then(64:Int)else n)else 0)=n9 n:=by
 unfold n9;by_cases h:64<n
 ·simp[h];omega
 ·by_cases h2:0<n
  ·simp[h,h2];omega
  ·simp[h,h2];omega
theorem Cl {s:aW}(h:s.bA=[]):fN s=fZ s.cap:=by simp[fN,h]
theorem UH {s:aW}(h:¬s.bA=[]):fN s=⟨n9 s.cap,s.bA⟩:=by simp[fN,h]
abbrev Rv (s:aW)(i:Int):AV:=.aU [aB (((qW s i).getD []).map aF),bool (qW s i).isSome]
abbrev Pp (s:aW)(k:Key)(v:Int):AV:=.aU [st (aF ((rK s k v).getD fV)),bool (rK s k v).isSome]
theorem Rr {s:aW}{i:Int}(h:i<0):qW s i=none:=by simp[qW];omega
theorem Ru {s:aW}{i:Int}(h:((fN s).bA.length:Int)<=i):qW s i=none:=by
 unfold qW;split
 ·exact JP (by omega)
 ·rfl
theorem Rs {s:aW}{i:Int}(h0:¬i<0)(h:¬((fN s).bA.length:Int)<=i):∃l,(∃hh:i.toNat<(fN s).bA.length,(fN s).bA[i.toNat]=l)/\(fN s).bA[i.toNat]? =some l/\qW s i=some l:=by
 refine⟨(fN s).bA[i.toNat]'(by omega),⟨by omega,rfl⟩,bO _,?_⟩;unfold qW;rw[aZ (by omega)];exact bO _
theorem zdY {s:aW}(h:vR s):vR (fN s):=by
 unfold fN;split
 ·exact⟨by simp[fZ],λl hl=>by simp[fZ]at hl;subst hl;exact⟨by simp,by simp⟩⟩
 ·exact⟨h.len,h.all⟩
theorem Jm {s:aW}(h:vR s)(i:Int):cL ((qW s i).getD []):=by
 unfold qW;split
 ·cases hg:(fN s).bA[i.toNat]? with
  |none=>exact⟨by simp,by simp⟩
  |some l=>exact(zdY h).all l (gT hg)
 ·exact⟨by simp,by simp⟩
theorem zhT {s:aW}{k:Key}{v:Int}(h:bI ((qW s v).getD []) k=none):rK s k v=none:=by simp[rK,h]
theorem zhS {s:aW}{k:Key}{v:Int}{r:aC}(h:bI ((qW s v).getD []) k=some r):rK s k v=if r.bR=v then some r else none:=by simp[rK,h]
theorem zhR {s:aW}(h:vR s){m:Mark}(hm:nB m.k.name):nB (ofM s m).name:=by
 have:=Jy s m;have e:(ofM s m).name=m.k.name:=jW Key.name this;rw[e];exact hm
theorem QR (s:aW):pQ s []=[]:=rfl
theorem X4 (s:aW)(l:List Mark)(m:Mark):pQ s (l++[m])=nN (pQ s l) (ofM s m):=by simp[pQ,qY]
noncomputable def lK (S:List aC):List Value->Option (List D):=λv=>open Classical in if h:∃k,v=rG k then(bI S h.choose).map λr=>[lD ((cD r).map aQ)]else none
theorem QK (S:List aC)(k:Key):lK S (rG k)=(bI S k).map λr=>[lD ((cD r).map aQ)]:=by
 unfold lK;have h:∃q,rG k=rG q:=⟨k,rfl⟩;rw[dif_pos h,<-YA h.choose_spec]
theorem Mn {S:List aC}{k:Key}{r:aC}(h:bI S k=some r):lK S [.int .i64 k.kind,.string k.name]=some [lD ((cD r).map aQ)]:=by
 have:=QK S k;rw[h]at this;exact this
theorem zfL {S:List aC}{k:Key}(h:bI S k=none):lK S [.int .i64 k.kind,.string k.name]=none:=by
 have:=QK S k;rw[h]at this;exact this
theorem Mm :(λ_=>none)=lK []:=by
 funext v
 unfold lK;split<;>simp[bI]
theorem Oo (S:List aC)(x:aC)(k:Key):bI (S++[x]) k=match bI S k with|some r=>some r|none=>if x.key=k then some x else none:=by
 rw[YW];cases bI S k with
 |some r=>rfl
 |none=>by_cases h:x.key=k<;>simp[bI]
theorem Uw {S:List aC}{x:aC}(h:bI S x.key=none):oS (lK S) [.int .i64 x.key.kind,.string x.key.name] [lD ((cD x).map aQ)]=lK (S++[x]):=by
 funext v
 unfold oS;by_cases hv:v=[.int .i64 x.key.kind,.string x.key.name]
 ·subst hv;rw[aZ rfl];have:bI (S++[x]) x.key=some x:=by rw[Oo,h];simp
  rw[Mn this]
 ·rw[aT hv];by_cases hk:∃k,v=rG k
  ·obtain⟨k,rfl⟩:=hk;rw[QK,QK,Oo];cases hg:bI S k with
   |some r=>rfl
   |none=>
    have:¬x.key=k:=by rintro rfl;exact hv rfl
    simp[this]
  ·unfold lK;rw[dif_neg hk,dif_neg hk]
theorem zkF {l:List aC}{k:Nat}{x:aC}(h:fA l)(hr:l[k]? =some x):bI (l.take k) x.key=none:=by
 unfold bI;rw[MX];intro y hy;simp;intro e;obtain⟨i,hi⟩:=CM hy;have hik:i<k:=by
  grind
 rw[List.getElem?_take,aZ hik]at hi;unfold fA i7 at h;rw[MR]at h;obtain⟨h1,e1⟩:=cE.1 hi;obtain⟨h2,e2⟩:=cE.1 hr;have:=h i k (by simpa using h1) (by simpa using h2) hik;simp only[List.getElem_map,e1,e2,e,CD]at this;omega
def iI (l:List aC):Nat->List Key->Key->List Key
 |0,out,_=>out
 |n+1,out,k=>match bI l k with
  |none=>out
  |some r=>if k∈out then out else(cD r).foldl (iI l n) (out++[k])
def uA (l:List aC)(out:List Key):Nat:=((l.map aC.key).filter λk=>decide (k∉out)).length
theorem IK {f:List Key->Key->List Key}(h:∀o k x,x∈o->x∈f o k):∀(l:List Key) (o:List Key) (x:Key),x∈o->x∈l.foldl f o
 |[],_,_,hx=>hx
 |k::l,o,x,hx=>IK h l _ x (h o k x hx)
theorem EL (l:List aC):∀(n:Nat) (out:List Key) (k x:Key),x∈out->x∈iI l n out k
 |0,_,_,_,h=>h
 |n+1,out,k,x,h=>by
  unfold iI;split
  ·exact h
  ·split
   ·exact h
   ·exact IK (EL l n) _ _ _ (by simp[h])
theorem XW {l:List aC}{a b:List Key}(h:∀x,x∈a->x∈b):uA l b<=uA l a:=by
 unfold uA;induction l with
 |nil=>simp
 |cons r l ih=>
  grind
theorem Mw {l:List aC}{out:List Key}{k:Key}(hk:k∈l.map aC.key)(ho:k∉out):uA l (out++[k])<uA l out:=by
 unfold uA;induction l with
 |nil=>simp at hk
 |cons r l ih=>
  have hle:=XW (l:=l) (a:=out) (b:=out++[k]) (λx hx=>by simp[hx]);unfold uA at hle
  grind
theorem Mx (l:List aC)(out:List Key):uA l out<=l.length:=by
 have:=gJ (λk=>decide (k∉out)) (l.map aC.key);simpa[uA]using this
def tU (l:List aC):List Key:=(l.filter λr=>decide (r.kind=0)).map aC.key
def sY (l:List aC):List Key:=(tU l).foldl (iI l (l.length+1)) []
def gW (l:List aC):List aC:=l.filter λr=>decide (r.key∈sY l)
def xZ (r:aC):Bool:=decide (r.kind=3)&&decide (r.bH.length=0)
def mO (l:List aC):Int:=if(gW l).any λr=>(cD r).any (iF l)then 6 else if(gW l).any xZ then 7 else 0
theorem OV (a:List aC)(x:aC):tU (a++[x])=tU a++(if x.kind=0 then [x.key]else []):=by
 by_cases h:x.kind=0<;>simp[tU,h]
def jM (cap:Int)(n:Nat)(now next:List aC):Int:=
 if eB next=0 then(if cap<next.length then 8 else if¬(xK next).length=0 then 6 else if¬mO next=0 then 7 else if now=next then 9 else if 100000<=n then 8 else 0)else eB next
def u0 (s:aW)(aD:List aC)(gone:List Key):List aC:=kI (dQ s) (iC (dQ s) aD gone) s.bA.length
def oZ (s:aW)(aD:List aC)(gone:List Key):Int:=jM s.cap s.bA.length (dQ s) (u0 s aD gone)
def oY (s:aW)(aD:List aC)(gone:List Key):aW:=if oZ s aD gone=0 then⟨s.cap,s.bA++[u0 s aD gone]⟩else s
def G3 :aW->List (List aC)->Bool
 |_,[]=>true
 |t,l::r=>decide (oZ t (iN (dQ t) l) (kA (dQ t) l)=0)&&decide (u0 t (iN (dQ t) l) (kA (dQ t) l)=l)&&G3 ⟨t.cap,t.bA++[l]⟩ r
def gN (s:aW):Bool:=decide (s.cap=n9 s.cap)&&decide (1<=s.bA.length)&&decide (s.bA.length<=100000)&&decide (s.bA.headD []=[])&&G3 (fZ s.cap) (s.bA.drop 1)
theorem Qz {cap:Int}{n:Nat}{now next:List aC}(h:jM cap n now next=0):eB next=0:=by
 unfold jM at h;split at h
 ·assumption
 ·exact h
noncomputable def tC (S:List aC):List Value->Option (List D):=λv=>open Classical in if h:∃k,v=rG k then(bI S h.choose).map aF else none
theorem QI (S:List aC)(k:Key):tC S (rG k)=(bI S k).map aF:=by
 unfold tC;have h:∃q,rG k=rG q:=⟨k,rfl⟩;rw[dif_pos h,<-YA h.choose_spec]
theorem XP {S:List aC}{k:Key}{r:aC}(h:bI S k=some r):tC S [.int .i64 k.kind,.string k.name]=some (aF r):=by
 have:=QI S k;rw[h]at this;exact this
theorem Mk {S:List aC}{k:Key}(h:bI S k=none):tC S [.int .i64 k.kind,.string k.name]=none:=by
 have:=QI S k;rw[h]at this;exact this
theorem Ml :(λ_=>none)=tC []:=by
 funext v
 unfold tC;split<;>simp[bI]
theorem Ow (x:aC)(S:List aC)(k:Key):bI (x::S) k=if x.key=k then some x else bI S k:=by
 by_cases h:x.key=k<;>simp[bI,h]
theorem Uv (S:List aC)(x:aC):oS (tC S) [.int .i64 x.key.kind,.string x.key.name] (aF x)=tC (x::S):=by
 funext v
 unfold oS;by_cases hv:v=[.int .i64 x.key.kind,.string x.key.name]
 ·subst hv;rw[aZ rfl];have:bI (x::S) x.key=some x:=by rw[Ow];simp
  rw[XP this]
 ·rw[aT hv];by_cases hk:∃k,v=rG k
  ·obtain⟨k,rfl⟩:=hk;have:¬x.key=k:=by rintro rfl;exact hv rfl
   rw[QI,QI,Ow,aT this]
  ·unfold tC;rw[dif_neg hk,dif_neg hk]
noncomputable abbrev DS (S:List aC):D:=.mp true [.int,.str] true (tC S)
end Go.G
