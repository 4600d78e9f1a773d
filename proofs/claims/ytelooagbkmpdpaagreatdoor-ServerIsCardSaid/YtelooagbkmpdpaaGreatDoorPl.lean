/-
  LAYERS 1 to 14, plainly
-/
import Derived.Test.YtelooagbkmpdpaaGreatDoorFc
import Derived.Lib.Bytealg
import Derived.Laws.RangeAny
import Derived.Sort.Statements
set_option linter.unusedSimpArgs false
set_option linter.unusedVariables false
set_option maxRecDepth 100000
set_option maxHeartbeats 8000000
namespace Go.G
abbrev cE :=ByteArray
structure Key where
 kind:Int
 name:cE
 deriving DecidableEq
structure Weight where
 jF:cE
 w:Int
 deriving DecidableEq
structure gF where
 host:cE
 pre:cE
 split:List Weight
 deriving DecidableEq
structure aC where
 kind:Int
 name:cE
 bZ:Int
 port:Int
 to:cE
 rules:List gF
 bE:List Int
 deriving DecidableEq
structure Mark where
 k:Key
 bZ:Int
 deriving DecidableEq
structure Frame where
 type:Int
 cA:Int
 kind:Int
 eY:Int
 cK:Int
 aL:List aC
 gone:List Key
 err:Int
 aI:List Mark
 held:List Key
 deriving DecidableEq
structure View where
 aI:List aC
 held:List Key
 cK:Int
 push:Frame
 open_:Bool
 deriving DecidableEq
def aC.key (r:aC):Key:=⟨r.kind,r.name⟩
open Go.AI
abbrev iD (n:Int):D:=.v (.int .i64 n)
abbrev sD (s:cE):D:=.v (.string s)
abbrev bD (b:Bool):D:=.v (.bool b)
abbrev int (n:Int):AV:=.d (iD n)
abbrev str (s:cE):AV:=.d (sD s)
abbrev bool (b:Bool):AV:=.d (bD b)
abbrev lD (es:List (List D)):D:=.ro false es
abbrev aD (es:List (List D)):AV:=.d (lD es)
@[simp] def kR (n:Int):List D:=[iD n]
@[simp] def wC (w:Weight):List D:=[sD w.jF,iD w.w]
@[simp] def dZ (r:gF):List D:=[sD r.host,sD r.pre,lD (r.split.map wC)]
@[simp] def aF (r:aC):List D:=[iD r.kind,sD r.name,iD r.bZ,iD r.port,sD r.to,lD (r.rules.map dZ),lD (r.bE.map kR)]
@[simp] def aK (k:Key):List D:=[iD k.kind,sD k.name]
@[simp] def eN (m:Mark):List D:=[iD m.k.kind,sD m.k.name,iD m.bZ]
@[simp] def bU (f:Frame):List D:=[iD f.type,iD f.cA,iD f.kind,iD f.eY,iD f.cK,lD (f.aL.map aF),lD (f.gone.map aK),iD f.err,lD (f.aI.map eN),lD (f.held.map aK)]
@[simp] def iH (v:View):List D:=[lD (v.aI.map aF),lD (v.held.map aK),iD v.cK]++bU v.push++[bD v.open_]
@[simp] theorem lenAll_int (l:List Int):gL (l.map kR) 1=True:=r5 (f:=kR) (n:=1) (λ_=>rfl) l
@[simp] theorem lenAll_rule (l:List gF):gL (l.map dZ) 3=True:=r5 (f:=dZ) (n:=3) (λ_=>rfl) l
@[simp] theorem lenAll_res (l:List aC):gL (l.map aF) 7=True:=r5 (f:=aF) (n:=7) (λ_=>rfl) l
@[simp] theorem lenAll_key (l:List Key):gL (l.map aK) 2=True:=r5 (f:=aK) (n:=2) (λ_=>rfl) l
@[simp] theorem lenAll_mark (l:List Mark):gL (l.map eN) 3=True:=r5 (f:=eN) (n:=3) (λ_=>rfl) l
abbrev st (cs:List D):AV:=.agg (cs.map .d)
theorem aA {mm:Nat->Option aN}{r res:AV}(h:cG (cX (λ_=>false) mm 8 r) (res.aW (gf [])))(hn:cY (bF [] []) res=true):∃g,qC mm r [] res [] g:=
 ⟨[],by simpa using h,by simp,by simp,by simp,by simp,hn,by simp⟩
theorem aB {ops:Array Oper}{ft:List (List Nat×List Nat)}{mm:Nat->Option aN}{r res:AV}(h:cG (cX (λ_=>false) mm 8 r) (res.aW (gf [])))(hd:gH ops ft:=by decide+kernel)(hn:cY (bF [] []) res=true:=by rfl):gH ops ft/\∃g,qC mm r [] res [] g:=
 ⟨hd,aA h hn⟩
def bs (s:cE):List UInt8:=s.data.toList
theorem iX (s:cE):s.size=(bs s).length:=by rfl
theorem pW (s:cE)(i:Nat):s[i]? =(bs s)[i]? :=by
 simp only[bs,uK];by_cases h:i<s.size
 ·rw[getElem?_pos s i h,getElem?_pos s.data i h];rfl
 ·simp_all
theorem xW {a b:cE}(h:bs a=bs b):a=b:=by
 cases a;cases b;simp[bs]at h;cases h;rfl
theorem rG (s:cE)(i j:Nat):bs (s.extract i j)=((bs s).take j).drop i:=by
 simp[bs];rw[List.drop_take]
@[simp] theorem bs_mk (l:List UInt8):bs ⟨l.toArray⟩=l:=rfl
abbrev byte (c:UInt8):AV:=.d (.v (.int .u8 c.toNat))
def nY (c:UInt8):Bool:=decide ((97:Int)<=c.toNat)&&decide ((c.toNat:Int)<=122)
def kP (c:UInt8):Bool:=nY c|| (decide ((48:Int)<=c.toNat)&&decide ((c.toNat:Int)<=57))||decide ((c.toNat:Int)=45)
def fO (l:List UInt8):Bool:=decide (1<=l.length)&&decide (l.length<=12)&&nY (l.headD 0)&&l.all kP
def cP (s:cE):Bool:=fO (bs s)
theorem uP (a b:cE):(a=b)=(bs a=bs b):=propext ⟨λh=>by rw[h],xW⟩
def j8 (c:UInt8):Bool:=kP c||decide ((c.toNat:Int)=47)
def jB (s:cE):Bool:=decide (1<=(bs s).length)&&decide ((bs s).length<=40)&&decide (((bs s).headD 0).toNat=47)&&(bs s).all j8
def lT (l:List UInt8):Bool:=decide (2<=l.length)&&decide (l.take 2=[42,46])
def eI :List UInt8->List UInt8->Bool
 |p,[]=>fO p
 |p,c::r=>if c=46 then fO p&&eI [] r else eI (p++[c]) r
def kF (s:cE):Bool:=decide ((bs s).length<=40)&&(decide (bs s=[42])|| (lT (bs s)&&eI [] ((bs s).drop 2))||eI [] (bs s))
def AZ (s:cE):Bool:=decide ((bs s).length<=40)&&(decide (bs s=[42])||eI [] (if lT (bs s)then(bs s).drop 2 else bs s))
theorem QU {l:List UInt8}(h:lT l=true):eI [] l=false:=by
 match l,h with
 |[],h=>simp[lT]at h
 |[_],h=>simp[lT]at h
 |a::b::r,h=>
  simp[lT]at h;obtain⟨rfl,rfl⟩:=h;simp[eI,fO,nY]
theorem L3 (s:cE):AZ s=kF s:=by
 unfold AZ kF;cases h:lT (bs s)
 ·simp
 ·simp[QU h]
def kI (a b:cE):Int:=Lib.compareBytes (bs a) (bs b)
theorem BL :∀(k:Nat) {a b:List UInt8},a.take k=b.take k->k<=a.length->k<=b.length->Lib.compareBytes a b=Lib.compareBytes (a.drop k) (b.drop k)
 |0,_,_,_,_,_=>by simp
 |k+1,[],_,_,h,_=>by simp at h
 |k+1,_::_,[],_,_,h=>by simp at h
 |k+1,x::a,y::b,h,h1,h2=>by
  simp at h;obtain⟨rfl,h⟩:=h;have:=BL k h (by simpa using h1) (by simpa using h2);simp[Lib.compareBytes,this,UInt8.lt_irrefl]
theorem OD {s:cE}{k:Nat}{c:UInt8}(h:(bs s)[k]? =some c):∃hk:k<s.size,s[k]'hk=c:=by
 rw[<-pW]at h
 grind
theorem NR {s:cE}{k:Nat}{c:UInt8}(h:(bs s)[k]? =some c)(hc:c.toNat<128):Utf8.decode s k=(c.toNat,1):=by
 obtain⟨hk,rfl⟩:=OD h;exact decode_ascii s k hk hc
theorem NS {s:cE}{k:Nat}{c:UInt8}(h:(bs s)[k]? =some c)(hc:128<=c.toNat):128<=(Utf8.decode s k).1:=by
 obtain⟨hk,rfl⟩:=OD h;exact(decode_high s k hk hc).1
theorem JM {c:UInt8}(h:kP c=true):c.toNat<128:=by
 simp[kP,nY]at h;omega
def wV (c:Int):Bool:=decide (97<=c)&&decide (c<=122)
def wO (c:Int):Bool:=wV c|| (decide (48<=c)&&decide (c<=57))||decide (c=45)
@[simp] theorem plainI_is (c:UInt8):wO c.toNat=kP c:=rfl
@[simp] theorem lowI_is (c:UInt8):wV c.toNat=nY c:=rfl
theorem JH {n:Nat}(h:128<=n):wO n=false:=by simp[wO,wV];omega
def aV (n m:Int):Bool:=decide (0<=n)&&decide (n<=m)
def iI (x:gF):Bool:=decide (x.split.length<=4)&&x.split.all λw=>aV w.w 100
def cT (r:aC):Bool:=aV r.bZ 2147483647&&aV r.port 65535&&decide (r.rules.length<=8)&&decide (r.bE.length<=8)&&(r.bE.all λh=>aV h 2147483647)&&r.rules.all iI
def e9 (k:Int):Bool:=decide (k=0)
def eB (k:Int):Bool:=decide (k=0)||decide (k=2)
def eJ (k:Int):Bool:=decide (k=1)
def fA (k:Int):Bool:=decide (k=3)
def dK (r:aC):Bool:=(decide (r.port=0)||e9 r.kind)&&(decide (bs r.to=[])||eB r.kind)&&(decide (r.rules.length=0)||eJ r.kind)&&(decide (r.bE.length=0)||fA r.kind)
def eG (x:gF):Bool:=kF x.host&&jB x.pre&&x.split.all λw=>cP w.jF
def hZ (r:aC):Bool:=(!eB r.kind||cP r.to)&&r.rules.all eG
def oM (x:gF):Bool:=x.split.any λw=>decide (0<w.w)
def kO (x y:gF):Bool:=decide (x.host=y.host)&&decide (x.pre=y.pre)
def iE {α:Type}(q:α->α->Bool):List α->List α->Bool
 |_,[]=>true
 |p,x::l=>!(p.any (q x))&&iE q (p++[x]) l
def fI (r:aC):Bool:=r.rules.all oM&&iE kO [] r.rules&&iE (λa b=>decide (a=b)) [] r.bE
def cU (r:aC):Int:=
 if aV r.kind 3=false then 4 else if cP r.name=false then 5 else if cT r=false then 3 else if dK r=false then 2 else if hZ r=false then 5 else if fI r=false then 2 else 0
def fC {α:Type}(p:α->Bool)(l:List α):Int:=match l.findIdx? p with
 |some i=>i
 |none=> -1
theorem l6 {α:Type}{p:α->Bool}{l:List α}(h:∀x∈l,p x=false):fC p l= -1:=by
 have:l.findIdx? p=none:=by rw[List.findIdx?_eq_none_iff];exact h
 simp[fC,this]
theorem M3 {α:Type}{p:α->Bool}:∀{l:List α} {k:Nat} {x:α},(l.take k).all (λx=>!p x)=true->l[k]? =some x->p x=true->l.findIdx? p=some k
 |[],k,x,_,h,_=>by simp at h
 |a::l,0,x,_,h,hp=>by
  simp at h;subst h;simp[vY,hp]
 |a::l,k+1,x,h1,h2,hp=>by
  simp at h1 h2;have:=M3 (l:=l) (k:=k) (by simpa using h1.2) h2 hp;simp[vY,h1.1,this]
theorem l7 {α:Type}{p:α->Bool}{l:List α}{k:Nat}{x:α}(h1:(l.take k).all (λx=>!p x)=true)(h2:l[k]? =some x)(hp:p x=true):fC p l=k:=by
 simp[fC,M3 h1 h2 hp]
theorem tH {α:Type}(p:α->Bool)(l:List α):decide (0<=fC p l)=l.any p:=by
 rw[pH,dO];unfold fC;cases h:l.findIdx? p with
 |none=>
  rw[List.findIdx?_eq_none_iff]at h;simp only[yM];constructor
  ·intro h;simp at h
  ·rintro⟨x,hx,hp⟩;rw[h x hx]at hp;cases hp
 |some i=>
  rw[List.findIdx?_eq_some_iff_getElem]at h;obtain⟨hi,hp,_⟩:=h;simp only[yM];exact⟨λ_=>⟨_,mD hi,hp⟩,λ_=>by simp⟩
def bR (a b:Key):Int:=if a.kind<b.kind then-1 else if b.kind<a.kind then 1 else kI a.name b.name
def jP (k:Key):Bool->List Key->List Key
 |done,[]=>if done then []else [k]
 |done,x::l=>(if 0<=bR x k/\done=false then [k]else [])++(if bR x k=0 then []else [x])++jP k (done||decide (0<=bR x k)) l
def jO (l:List Key)(k:Key):List Key:=jP k false l
theorem NX :∀(a b:List UInt8),Lib.compareBytes a b= -1\/Lib.compareBytes a b=0\/Lib.compareBytes a b=1
 |[],[]=>by simp[Lib.compareBytes]
 |[],_::_=>by simp[Lib.compareBytes]
 |_::_,[]=>by simp[Lib.compareBytes]
 |a::l,b::m=>by
  simp only[Lib.compareBytes];split
  ·simp
  ·split
   ·simp
   ·exact NX l m
theorem NV :∀{a b:List UInt8},Lib.compareBytes a b=0↔a=b
 |[],[]=>by simp[Lib.compareBytes]
 |[],_::_=>by simp[Lib.compareBytes]
 |_::_,[]=>by simp[Lib.compareBytes]
 |a::l,b::m=>by
  simp only[Lib.compareBytes,List.cons.injEq];split
  ·rename_i h;simp;intro e;subst e;exact absurd h (UInt8.lt_irrefl _)
  ·split
   ·rename_i h;simp;intro e;subst e;exact absurd h (UInt8.lt_irrefl _)
   ·rename_i h1 h2;rw[NV];have:a=b:=by
     simp only[uG]at h1 h2;exact UInt8.toNat_inj.1 (by omega)
    simp[this]
theorem Cw {a b:cE}:kI a b=0↔a=b:=by rw[kI,NV,<-uP]
theorem tS {a b:Key}:bR a b=0↔a=b:=by
 obtain⟨x,s⟩:=a;obtain⟨y,t⟩:=b;simp only[bR,Key.mk.injEq];split
 ·omega
 ·split
  ·omega
  ·rw[Cw];have:x=y:=by omega
   simp[this]
theorem tT (a b:Key):bR a b= -1\/bR a b=0\/bR a b=1:=by
 unfold bR;split
 ·simp
 ·split
  ·simp
  ·exact NX _ _
theorem LR {p:Prop} [Decidable p](y:Key):(if p then []else [y]).length<=1:=by split<;>simp
theorem DN (k:Key):∀(l:List Key),(jP k true l).length<=l.length
 |[]=>by simp[jP]
 |y::l=>by
  have h1:=DN k l;have h2:=LR (p:=bR y k=0) y;simp only[jP,oK,jL,Bool.true_or,Bool.true_eq_false,and_false,j5,j6];omega
theorem I6 (k:Key):∀(d:Bool) (l:List Key),(jP k d l).length<=l.length+1
 |true,l=>Nat.le_succ_of_le (DN k l)
 |false,[]=>by simp[jP]
 |false,x::l=>by
  have h1:=I6 k false l;have h2:=DN k l;have h3:=LR (p:=bR x k=0) x;simp only[jP,oK,jL,Bool.false_or,and_true];by_cases hc:0<=bR x k
  ·simp only[hc,decide_true,dY,jL,j6];omega
  ·simp only[hc,decide_false,j5,j6];omega
def j9 (out:List Key)(w:Weight):List Key:=if 0<w.w then jO out ⟨2,w.jF⟩else out
def iZ (r:aC):List Key:=if eB r.kind then [⟨r.kind+1,r.to⟩]else []
def bJ (r:aC):List Key:=if cU r=0 then(r.rules.flatMap (·.split)).foldl j9 (iZ r)else []
theorem TV (out:List Key)(w:Weight):(j9 out w).length<=out.length+1:=by
 unfold j9;split
 ·exact I6 _ _ _
 ·omega
theorem sX {r:aC}(h:cU r=0):aV r.kind 3=true/\cP r.name=true/\cT r=true/\dK r=true/\hZ r=true/\fI r=true:=by
 unfold cU at h
 (repeat' split at h)<;>simp_all
theorem zY {s:cE}(h:cP s=true):(bs s).length<=12:=by
 simp[cP,fO]at h;exact h.1.1.2
theorem A6 :∀(l:List Weight) (o:List Key),(l.foldl j9 o).length<=o.length+l.length
 |[],o=>by simp
 |w::l,o=>by
  have h1:=A6 l (j9 o w);have h2:=TV o w;simp only[iG,jL];omega
theorem FG :∀{l:List gF},(∀x∈l,x.split.length<=4)->(l.flatMap (·.split)).length<=4*l.length
 |[],_=>by simp
 |x::l,h=>by
  have h1:=FG (l:=l) (λy hy=>h y (by simp[hy]));have h2:=h x (by simp);simp only[List.flatMap_cons,oK,jL];omega
def kA (r:aC)(k:Nat):List Key:=((r.rules.take k).flatMap (·.split)).foldl j9 (iZ r)
theorem zG (r:aC):kA r 0=iZ r:=by simp[kA]
theorem IT {r:aC}{k:Nat}{x:gF}(h:r.rules.take (k+1)=r.rules.take k++[x]):kA r (k+1)=x.split.foldl j9 (kA r k):=by
 simp[kA,h]
theorem TW (r:aC):(iZ r).length<=1:=by unfold iZ;split<;>simp
theorem DJ {r:aC}(k:Nat)(h1:r.rules.length<=8)(h:∀x∈r.rules,x.split.length<=4):(kA r k).length<=33:=by
 have h2:=A6 ((r.rules.take k).flatMap (·.split)) (iZ r);have h3:=TW r;have h4:=FG (l:=r.rules.take k) (λx hx=>h x (rL hx));have h5:(r.rules.take k).length<=8:=cD (by simp;omega) h1;unfold kA;omega
theorem wL {r:aC}(h:cU r=0):bJ r=kA r r.rules.length:=by simp[bJ,kA,h]
def oA (x:gF):Bool:=decide (x.split.length<=20)&&decide ((bs x.host).length<=100)&&decide ((bs x.pre).length<=100)
def mS (r:aC):Bool:=r.rules.all oA&&decide (r.rules.length<=20)&&decide (r.bE.length<=20)&&decide ((bs r.name).length<=100)&&decide ((bs r.to).length<=100)
abbrev nB (s:cE):Prop:=(bs s).length<=9223372036854775807
structure qB (r:aC):Prop where
 name:nB r.name
 to:nB r.to
 rules:r.rules.length<=9223372036854775807
 split:∀x∈r.rules,x.split.length<=9223372036854775807
 bE:r.bE.length<=9223372036854775807
structure gG (l:List aC):Prop where
 len:l.length<=9223372036854775807
 all:∀r∈l,qB r
def kK :aC:=⟨0,⟨#[]⟩,0,0,⟨#[]⟩,[],[]⟩
def dX (a b:aC):Bool:=decide (a.kind=b.kind)&&decide (a.name=b.name)&&decide (a.port=b.port)&&decide (a.to=b.to)&&decide (a.bE=b.bE)&&decide (a.rules=b.rules)
theorem OS (a b:aC):(dX a b&&decide (a.bZ=b.bZ))=decide (a=b):=by
 rw[pH];obtain⟨a1,a2,a3,a4,a5,a6,a7⟩:=a;obtain⟨b1,b2,b3,b4,b5,b6,b7⟩:=b;simp[dX];constructor
 ·rintro⟨⟨⟨⟨⟨⟨h1,h2⟩,h3⟩,h4⟩,h5⟩,h6⟩,h7⟩;exact⟨h1,h2,h7,h3,h4,h6,h5⟩
 ·rintro⟨h1,h2,h7,h3,h4,h6,h5⟩;exact⟨⟨⟨⟨⟨⟨h1,h2⟩,h3⟩,h4⟩,h5⟩,h6⟩,h7⟩
def oZ (l:List aC):Bool:=l.all mS&&decide (l.length<=80)
def aQ (l:List aC)(k:Key):Option aC:=l.find? λr=>decide (r.key=k)
abbrev MN (l:List aC)(k:Key):AV:=.bC [st (aF ((aQ l k).getD kK)),bool (aQ l k).isSome]
abbrev kC (l:List aC)(k:Key)(c:Int):List aC:=l.filter λr=>decide (bR r.key k=c)
abbrev hC (l:List aC)(r:aC):List aC:=kC l r.key (-1)++[r]++kC l r.key 1
abbrev gZ (l:List aC)(k:Key):List aC:=l.filter λr=>!decide (r.key=k)
def jQ (l aL:List aC)(gone:List Key):List aC:=aL.foldl hC (gone.foldl gZ l)
abbrev qO (l:List aC)(k:Key):List Key:=(l.filter λr=>decide (k∈bJ r)).map aC.key
theorem q9 (a b:Key):(decide (a.kind=b.kind)&&decide (a.name=b.name))=decide (a=b):=by
 obtain⟨p,q⟩:=a;obtain⟨u,v⟩:=b;simp[Key.mk.injEq]
theorem GP (l:List aC)(r:aC):(hC l r).length<=l.length+1:=by
 have h:∀l:List aC,(kC l r.key (-1)).length+(kC l r.key 1).length<=l.length:=by
  intro l;induction l with
  |nil=>simp
  |cons a l ih=>
   simp only[kC,List.filter_cons]at ih⊢;by_cases h1:bR a.key r.key= -1
   ·have h2:¬bR a.key r.key=1:=by omega
    simp[h1]at ih⊢;omega
   ·by_cases h2:bR a.key r.key=1
    ·simp[h2]at ih⊢;omega
    ·simp[h1,h2]at ih⊢;omega
 have:=h l;simp only[hC,oK,jL,j6];omega
theorem PL (l:List aC)(k:Key):(gZ l k).length<=l.length:=eE _ _
theorem vE :∀(g:List Key) (l:List aC),(g.foldl gZ l).length<=l.length
 |[],l=>by simp
 |k::g,l=>cD (vE g _) (PL l k)
theorem xI :∀(a l:List aC),(a.foldl hC l).length<=l.length+a.length
 |[],l=>by simp
 |r::a,l=>by
  have h1:=xI a (hC l r);have h2:=GP l r;simp only[iG,jL];omega
theorem BA {α:Type}{p:α->Bool}{l:List α}(h:l.all (λx=>!p x)=true):l.find? p=none:=by
 rw[CG];intro x hx;have:=cS.1 h x hx;simpa using this
theorem xL {α:Type}{p:α->Bool}:∀{l:List α} {k:Nat} {x:α},(l.take k).all (λx=>!p x)=true->l[k]? =some x->p x=true->l.find? p=some x
 |[],k,x,_,h,_=>by simp at h
 |a::l,0,x,_,h,hp=>by simp at h;subst h;simp[nP,hp]
 |a::l,k+1,x,h1,h2,hp=>by
  simp at h1 h2;have:=xL (l:=l) (k:=k) (by simpa using h1.2) h2 hp;simp[nP,h1.1,this]
theorem Ap (c:Nat){mm:Nat->Option aN}{sz:Nat}{es fs:List (List D)}{T:TypeId}(hc:mm c=some (.grow sz es T))(he:es=fs):∃g,qC mm (.own c) [] (.own 64) [(64,.grow sz fs T)] g:=by
 subst he;have e:gf [(64,c)] 64=c:=by simp[gf,fP]
 refine⟨[(64,c)],?_,?_,by simp,by simp,?_,?_,by simp⟩
 ·simp[e,cG,AV.aW]
 ·simp[e,hc,aN.aW]
 ·simp[bF,bI,fP,aP]
 ·simp[cY,bF,fP]
theorem EP (a b:Key):(!decide (a.kind=b.kind)|| !decide (a.name=b.name))= !decide (a=b):=by rw[<-q9,vZ]
theorem nV (r:aC):(bJ r).length<=33:=by
 by_cases h:cU r=0
 ·rw[wL h];have hs:=(sX h).2.2.1;simp only[cT,bN,dO,cS]at hs;refine DJ _ hs.1.1.1.2 (λx hx=>?_);have:=hs.2 x hx;simp only[iI,bN,dO]at this;exact this.1
 ·simp[bJ,h]
theorem IQ (r:aC):(bJ r).length<=9223372036854775807:=cD (nV r) (by omega)
@[simp] theorem lenAll_keyc {α:Type}(g:α->Key)(l:List α):gL (l.map (aK∘g)) 2=True:=r5 (f:=aK∘g) (n:=2) (λ_=>rfl) l
structure eD (f:Frame):Prop where
 aL:gG f.aL
 gone:f.gone.length<=9223372036854775807
 aI:f.aI.length<=9223372036854775807
 held:f.held.length<=9223372036854775807
structure yD (v:View):Prop where
 aI:gG v.aI
 held:v.held.length<=9223372036854775807
 push:eD v.push
def cV :Frame:=⟨0,0,0,0,0,[],[],0,[],[]⟩
def mT (f:Frame):Bool:=(f.aI.all λm=>decide ((bs m.k.name).length<=100))&&oZ f.aL&&decide (f.gone.length<=80)&&decide (f.aI.length<=80)&&decide (f.held.length<=80)
def oY (v:View):Bool:=oZ v.aI&&decide (v.held.length<=80)&&mT v.push
def lU (v:View)(f:Frame):View:={v with push:=f,open_:=true}
def gT (v:View)(t:Int)(h:List Key):View:=if v.cK<t then{v with cK:=t,held:=h}else v
def iN (v:View)(f:Frame):Bool:=decide (f.type=2)&&decide (f.cA=v.push.cA)&&decide (f.kind=v.push.kind)&&decide (f.eY=v.push.eY)
def dG (v:View)(f:Frame):View:=
 if v.open_=false then v else if iN v f=false then v
 else{gT ⟨v.aI,v.held,v.cK,cV,false⟩ f.cK f.held with aI:=if f.err=0 then jQ v.aI v.push.aL v.push.gone else v.aI}
def gE (v:View)(f:Frame):Int:=if v.open_=false then 15 else if iN v f=false then 11 else f.err
theorem K1 (a b:Mark):(decide (a.k.kind=b.k.kind)&&decide (a.k.name=b.k.name)&&decide (a.bZ=b.bZ))=decide (a=b):=by
 obtain⟨⟨p,q⟩,r⟩:=a;obtain⟨⟨u,v⟩,w⟩:=b;simp[Mark.mk.injEq,Key.mk.injEq]
@[simp] theorem drain_have (v:View)(t:Int)(h:List Key):(gT v t h).aI=v.aI:=by unfold gT;split<;>rfl
@[simp] theorem By (v:View)(t:Int)(h:List Key):(gT v t h).push=v.push:=by unfold gT;split<;>rfl
@[simp] theorem drain_open (v:View)(t:Int)(h:List Key):(gT v t h).open_=v.open_:=by unfold gT;split<;>rfl
theorem BB {α:Type}(p:α->Bool)(l:List α):(fC p l= -1/\l.find? p=none)\/∃(i:Nat) (x:α),fC p l=i/\i<l.length/\l[i]? =some x/\l.find? p=some x:=by
 induction l with
 |nil=>left;simp[fC]
 |cons a l ih=>
  by_cases h:p a=true
  ·right;exact⟨0,a,by simp[fC,vY,h],by simp,by simp,by simp[h]⟩
  ·have h':p a=false:=by simpa using h
   rcases ih with⟨h1,h2⟩|⟨i,x,h1,h2,h3,h4⟩
   ·left;refine⟨?_,by simp[h',h2]⟩;unfold fC at h1⊢;simp only[vY,h'];cases hf:l.findIdx? p with
    |none=>simp
    |some j=>rw[hf]at h1;simp at h1<;>omega
   ·right;refine⟨i+1,x,?_,by simp;omega,by simpa using h3,by simp[h',h4]⟩;unfold fC at h1⊢;simp only[vY,h'];cases hf:l.findIdx? p with
    |none=>rw[hf]at h1;simp at h1<;>omega
    |some j=>rw[hf]at h1;simp at h1⊢;omega
variable {α : Type}
structure kX (p:α->Bool)(l:List α)(j i:Nat)(cur:List α):Prop where
 len:cur.length=l.length
 lt:i<j
 le:j<=l.length
 pre:cur.take i=(l.take j).filter λx=>!p x
 rR:cur.drop j=l.drop j
theorem kX.start {p:α->Bool}{l:List α}{i:Nat}{x:α}(h:fC p l=i)(hi:i<l.length):kX p l (i+1) i l:=by
 have key:∀(l:List α) (i:Nat),fC p l=i->i<l.length->l.take i=(l.take (i+1)).filter λx=>!p x:=by
  intro l;induction l with
  |nil=>intro i h hi;simp at hi
  |cons a l ih=>
   intro i h hi;unfold fC at h;by_cases ha:p a=true
   ·simp only[vY,ha,dY]at h;have:i=0:=by omega
    subst this;simp[ha]
   ·have ha':p a=false:=by simpa using ha
    simp only[vY,ha']at h;cases hf:l.findIdx? p with
    |none=>rw[hf]at h;simp at h<;>omega
    |some q=>
     rw[hf]at h;have e:i=q+1:=by grind
     subst e;have:=ih q (by simp[fC,hf]) (by simpa using hi);simp[ha',this]
 exact⟨rfl,by omega,by omega,key l i h hi,rfl⟩
theorem kX.get {p:α->Bool}{l:List α}{j i:Nat}{cur:List α}(h:kX p l j i cur){v:α}(hv:l[j]? =some v):cur[j]? =some v:=by
 have h1:(cur.drop j)[0]? =(l.drop j)[0]? :=by rw[h.rR]
 simpa[hv]using h1
theorem kX.del {p:α->Bool}{l:List α}{j i:Nat}{cur:List α}(h:kX p l j i cur){v:α}(hv:l[j]? =some v)(hp:p v=true):kX p l (j+1) i cur:=by
 have hj:j<l.length:=(cJ.1 hv).1;refine⟨h.len,by have:=h.lt;omega,by omega,?_,?_⟩
 ·rw[h.pre,eW,hv];simp[hp]
 ·have:=cI (List.drop 1) h.rR
  rwa[qG,qG]at this
theorem kX.jW {p:α->Bool}{l:List α}{j i:Nat}{cur:List α}(h:kX p l j i cur){v:α}(hv:l[j]? =some v)(hp:p v=false):kX p l (j+1) (i+1) (cur.set i v):=by
 have hj:j<l.length:=(cJ.1 hv).1;have hlt:=h.lt;have hlen:=h.len;refine⟨by simp[hlen],by omega,by omega,?_,?_⟩
 ·rw[eW (l:=l),hv];have:(cur.set i v).take (i+1)=cur.take i++[v]:=by
   rw[eW];have h1:(cur.set i v)[i]? =some v:=by grind
   rw[h1,List.take_set_of_le (aY i)];rfl
  rw[this,h.pre];simp[hp]
 ·rw[List.drop_set_of_lt (by omega)];have:=cI (List.drop 1) h.rR
  rwa[qG,qG]at this
theorem kX.done {p:α->Bool}{l:List α}{i:Nat}{cur:List α}(h:kX p l l.length i cur):cur.take i=l.filter λx=>!p x:=by
 rw[h.pre,bK]
end Go.G
namespace Go.G
open Go.AI Go.Sort
def ltOf (cf:Key->Key->Int)(x y:Key):Bool:=decide (cf x y<0)
theorem compare_swap :∀(a b:List UInt8),Lib.compareBytes b a= -Lib.compareBytes a b
 |[],[]=>by simp[Lib.compareBytes]
 |[],_::_=>by simp[Lib.compareBytes]
 |_::_,[]=>by simp[Lib.compareBytes]
 |a::l,b::m=>by
  simp only[Lib.compareBytes,uG];by_cases h1:a.toNat<b.toNat
  ·have h2:¬b.toNat<a.toNat:=by omega
   simp[h1,h2]
  ·by_cases h2:b.toNat<a.toNat
   ·simp[h1,h2]
   ·simp[h1,h2];exact compare_swap l m
theorem NW :∀{a b c:List UInt8},Lib.compareBytes a b= -1->Lib.compareBytes b c= -1->Lib.compareBytes a c= -1
 |[],[],_,h,_=>by simp[Lib.compareBytes]at h
 |[],_::_,[],_,h=>by simp[Lib.compareBytes]at h
 |[],_::_,_::_,_,_=>by simp[Lib.compareBytes]
 |_::_,[],_,h,_=>by simp[Lib.compareBytes]at h
 |_::_,_::_,[],_,h=>by simp[Lib.compareBytes]at h
 |a::l,b::m,c::n,h1,h2=>by
  simp only[Lib.compareBytes,uG]at h1 h2⊢;by_cases p1:a.toNat<b.toNat
  ·by_cases p2:b.toNat<c.toNat
   ·simp[show a.toNat<c.toNat by omega]
   ·by_cases p3:c.toNat<b.toNat
    ·simp[p2,p3]at h2
    ·simp[show a.toNat<c.toNat by omega]
  ·by_cases p1':b.toNat<a.toNat
   ·simp[p1,p1']at h1
   ·by_cases p2:b.toNat<c.toNat
    ·simp[show a.toNat<c.toNat by omega]
    ·by_cases p3:c.toNat<b.toNat
     ·simp[p2,p3]at h2
     ·have q1:¬a.toNat<c.toNat:=by omega
      have q2:¬c.toNat<a.toNat:=by omega
      simp only[p1,p1',p2,p3,q1,q2,j5]at h1 h2⊢;exact NW h1 h2
theorem xU (a b:Key):bR b a= -bR a b:=by
 unfold bR;by_cases h1:a.kind<b.kind
 ·omega
 ·by_cases h2:b.kind<a.kind
  ·simp[h1,h2]
  ·simp[h1,h2];exact compare_swap _ _
theorem rE {a b c:Key}(h1:bR a b= -1)(h2:bR b c= -1):bR a c= -1:=by
 unfold bR at*;by_cases p1:a.kind<b.kind
 ·omega
 ·by_cases p1':b.kind<a.kind
  ·omega
  ·by_cases p2:b.kind<c.kind
   ·omega
   ·by_cases p3:c.kind<b.kind
    ·omega
    ·have q1:¬a.kind<c.kind:=by omega
     have q2:¬c.kind<a.kind:=by omega
     simp only[p1,p1',p2,p3,q1,q2]at h1 h2⊢;exact NW h1 h2
theorem sF (a:Key):bR a a=0:=tS.2 rfl
theorem Cy (a b:Key):(bR a b<0)↔bR a b= -1:=by
 have:=tT a b;omega
theorem wU (a b:Key):ltOf bR a b=decide (bR a b= -1):=by
 unfold ltOf;rw[pH];simp[Cy]
theorem XX {a b:Key}(h1:ltOf bR a b=false)(h2:ltOf bR b a=false):a=b:=by
 rw[wU]at h1 h2;have e:=xU a b;have r:=tT a b;simp at h1 h2;exact tS.1 (by omega)
theorem yW :SWO (ltOf bR) where
 irrefl x:=by rw[wU,sF];simp
 trans x y z h1 h2:=by
  rw[wU]at*;simp at*;exact rE h1 h2
 ntrans x y z h1 h2:=by
  cases h:ltOf bR x z
  ·rfl
  ·exfalso;rw[wU]at*;simp at*;rcases tT y x with a|a|a
   ·have:=rE a h;exact h2 this
   ·have e:=tS.1 a;subst e;exact h2 h
   ·have:=xU y x;omega
def nA (l:List Key):List Key:=l.mergeSort λx y=>!(ltOf bR) y x
theorem y6 (l:List Key):(nA l).length=l.length:=List.length_mergeSort l
theorem KS {l:List Key}{k:Key}:k∈nA l↔k∈l:=List.mem_mergeSort
theorem X4 (l:List Key):(nA l).Pairwise λx y=>(!(ltOf bR) y x)=true:=by
 refine List.pairwise_mergeSort (le:=λx y=>!(ltOf bR) y x) ?_ ?_ l
 ·intro a b c h1 h2;simp at*;exact yW.ntrans _ _ _ h2 h1
 ·intro a b;cases h:ltOf bR b a
  ·simp
  ·cases h2:ltOf bR a b
   ·simp
   ·have:=yW.trans _ _ _ h h2;rw[yW.irrefl]at this;cases this
def fL (l:List Key):Prop:=l.Pairwise λx y=>bR x y= -1
theorem B0 :∀{a b:List Key},fL a->fL b->(∀k,k∈a↔k∈b)->a=b
 |[],[],_,_,_=>rfl
 |[],y::b,_,_,h=>by have:=(h y).2 (by simp);simp at this
 |x::a,[],_,_,h=>by have:=(h x).1 (by simp);simp at this
 |x::a,y::b,ha,hb,h=>by
  obtain⟨hx,ha'⟩:=pE.1 ha;obtain⟨hy,hb'⟩:=pE.1 hb;have irr:∀z:Key,¬bR z z= -1:=λz=>by rw[sF];decide
  have e:x=y:=by
   rcases iF.1 ((h x).1 (by simp))with e|e
   ·exact e
   ·rcases iF.1 ((h y).2 (by simp))with e'|e'
    ·exact e'.symm
    ·exact absurd (rE (hx y e') (hy x e)) (irr x)
  subst e;congr 1
  refine B0 ha' hb' λk=>?_;constructor
  ·intro hk;rcases iF.1 ((h k).1 (by simp[hk]))with e|e
   ·subst e;exact absurd (hx _ hk) (irr _)
   ·exact e
  ·intro hk;rcases iF.1 ((h k).2 (by simp[hk]))with e|e
   ·subst e;exact absurd (hy _ hk) (irr _)
   ·exact e
def kH (p:Option Key):List Key->List Key
 |[]=>[]
 |x::l=>(if p=some x then []else [x])++kH (some x) l
def iO (l:List Key):List Key:=kH none l
def tC (p:Option Key)(l:List Key):Option Key:=match l.getLast? with
 |some x=>some x
 |none=>p
theorem NY (x:Key):∀(l:List Key) (p:Option Key),kH p (l++[x])=kH p l++(if tC p l=some x then []else [x])
 |[],p=>by by_cases h:p=some x<;>simp[kH,tC,h]
 |y::l,p=>by
  simp only[yK,kH];rw[NY x l (some y)];have:tC (some y) l=tC p (y::l):=by
   unfold tC;rw[List.getLast?_cons];cases l.getLast? <;>simp
  rw[this];simp
theorem KY {k:Key}:∀{l:List Key} {p:Option Key},k∈kH p l->k∈l
 |[],p,h=>by simp[kH]at h
 |x::l,p,h=>by
  simp only[kH,fZ]at h;rcases h with h|h
  ·split at h<;>simp at h;subst h;simp
  ·simp[KY h]
theorem KX {k:Key}:∀{l:List Key} {p:Option Key},k∈l->k∈kH p l\/p=some k
 |[],p,h=>by simp at h
 |x::l,p,h=>by
  simp only[kH,fZ];rcases iF.1 h with e|e
  ·subst e;by_cases hp:p=some k
   ·exact .inr hp
   ·simp[hp]
  ·rcases KX (p:=some x) e with h|h
   ·exact .inl (.inr h)
   ·by_cases hp:p=some x
    ·exact .inr (by rw[hp,h])
    ·have:x=k:=kJ h;exact .inl (.inl (by rw[this]at hp;simp[hp,this]))
theorem KW {k:Key}{l:List Key}:k∈iO l↔k∈l:=
 ⟨KY,λh=>(KX (p:=none) h).resolve_right (by simp)⟩
theorem OH :∀{l:List Key} {p:Option Key},l.Pairwise (λx y=>(!(ltOf bR) y x)=true)->fL (kH p l)/\∀q,p=some q->(∀x∈l,(!(ltOf bR) x q)=true)->∀x∈kH p l,bR q x= -1
 |[],p,_=>⟨by simp[kH,fL],λq _ _ x h=>by simp[kH]at h⟩
 |x::l,p,h=>by
  obtain⟨hx,hl⟩:=pE.1 h;obtain⟨h1,h2⟩:=OH (p:=some x) hl;have h3:=h2 x rfl hx;refine⟨?_,λq hq hlq y hy=>?_⟩
  ·simp only[kH];split
   ·simpa using h1
   ·exact pE.2 ⟨h3,h1⟩
  ·simp only[kH,fZ]at hy;have lt:∀z,(!(ltOf bR) z q)=true->z≠q->bR q z= -1:=λz hz hne=>by
    rw[wU]at hz;simp at hz;rcases tT q z with a|a|a
    ·exact a
    ·exact absurd (tS.1 a).symm hne
    ·have:=xU q z;omega
   rcases hy with hy|hy
   ·split at hy
    ·simp at hy
    ·rename_i hne;simp at hy;subst hy;exact lt _ (hlq _ (by simp)) (λe=>hne (by rw[hq,e]))
   ·by_cases e:x=q
    ·rw[<-e];exact h3 y hy
    ·exact rE (lt x (hlq x (by simp)) e) (h3 y hy)
theorem OI (l:List Key):fL (iO (nA l)):=(OH (X4 l)).1
theorem DM (k:Key):∀{l:List Key},fL l->(∀x∈l,bR k x= -1)->jP k true l=l
 |[],_,_=>by simp[jP]
 |x::l,h,hk=>by
  obtain⟨_,hl⟩:=pE.1 h;have h0:¬bR x k=0:=by
   intro e;have:=hk x (by simp);rw[tS.1 e,sF]at this;omega
  have:=DM k hl (λy hy=>hk y (by simp[hy]));simp[jP,h0,this]
theorem I5 (k:Key):∀{l:List Key},fL l->fL (jO l k)/\∀x,x∈jO l k↔x=k\/x∈l
 |[],_=>by simp[jO,jP,fL]
 |x::l,h=>by
  obtain⟨hx,hl⟩:=pE.1 h;obtain⟨h1,h2⟩:=I5 k hl;rcases tT x k with a|a|a
  ·have e:jO (x::l) k=x::jO l k:=by simp[jO,jP,a]
   rw[e];refine⟨pE.2 ⟨λy hy=>?_,h1⟩,λy=>?_⟩
   ·rcases(h2 y).1 hy with e|e
    ·rw[e];exact a
    ·exact hx y e
   ·simp only[iF,h2];constructor
    ·rintro(h|h|h)<;>simp[h]
    ·rintro(h|h|h)<;>simp[h]
  ·have e:=tS.1 a;subst e;have:jP x true l=l:=DM x hl hx;have e:jO (x::l) x=x::l:=by simp[jO,jP,sF,this]
   rw[e];exact⟨h,λy=>by simp⟩
  ·have b:bR k x= -1:=by have:=xU x k;omega
   have:jP k true l=l:=DM k hl (λy hy=>rE b (hx y hy));have e:jO (x::l) k=k::x::l:=by simp[jO,jP,a,this]
   rw[e];refine⟨pE.2 ⟨λy hy=>?_,h⟩,λy=>by simp⟩;rcases iF.1 hy with e|e
   ·rw[e];exact b
   ·exact rE b (hx y e)
theorem xJ :∀(l:List Key) {o:List Key},fL o->fL (l.foldl jO o)/\∀x,x∈l.foldl jO o↔x∈o\/x∈l
 |[],o,h=>⟨h,λx=>by simp⟩
 |k::l,o,h=>by
  obtain⟨h1,h2⟩:=I5 k h;obtain⟨h3,h4⟩:=xJ l h1;refine⟨h3,λx=>?_⟩;rw[iG,h4,h2];simp only[iF];constructor
  ·rintro((h|h)|h)<;>simp[h]
  ·rintro(h|h|h)<;>simp[h]
theorem Cq (l:List Key):iO (nA l)=l.foldl jO []:=by
 obtain⟨h1,h2⟩:=xJ l (o:=[]) (by simp[fL]);refine B0 (OI l) h1 λk=>?_;rw[KW,KS,h2];simp
theorem Cp {l m:List Key}(hm:fL m)(h:∀k,k∈m↔k∈l):iO (nA l)=m:=
 B0 (OI l) hm λk=>by rw[KW,KS,h]
end Go.G
namespace Go.G
abbrev toKey (w:Weight):Key:=⟨2,w.jF⟩
theorem A5 :∀(l:List Weight) (o:List Key),l.foldl j9 o=((l.filter λw=>decide (0<w.w)).map toKey).foldl jO o
 |[],o=>rfl
 |w::l,o=>by
  rw[iG,A5 l];by_cases h:0<w.w<;>simp[j9,h]
def lX (r:aC)(k:Nat):List Key:=(if bs r.to=[]then []else [⟨r.kind+1,r.to⟩])++(((r.rules.take k).flatMap (·.split)).filter λw=>decide (0<w.w)).map toKey
theorem JR {r:aC}(h:cU r=0):iO (nA (lX r r.rules.length))=bJ r:=by
 obtain⟨_,_,_,h4,h5,_⟩:=sX h;have e0:(if bs r.to=[]then([]:List Key)else [⟨r.kind+1,r.to⟩])=iZ r:=by
  unfold iZ;by_cases ht:eB r.kind=true
  ·have hn:cP r.to=true:=by simp[hZ,ht]at h5;exact h5.1
   have:¬bs r.to=[]:=by intro e;simp[cP,fO,e]at hn
   rw[aR this,bA ht]
  ·have:bs r.to=[]:=by simp[dK,ht]at h4;exact h4.1.1.2
   rw[bA this,aR ht]
 have e1:bJ r=(((r.rules.flatMap (·.split)).filter λw=>decide (0<w.w)).map toKey).foldl jO (iZ r):=by
  rw[bJ,bA h,A5]
 have h0:fL (iZ r):=by unfold iZ;split<;>simp[fL]
 obtain⟨h1,h2⟩:=xJ (((r.rules.flatMap (λx:gF=>x.split)).filter λw:Weight=>decide (0<w.w)).map toKey) h0;rw[e1];refine Cp h1 λk=>?_;rw[h2,lX,e0,bK,fZ]
def kD (l:List aC)(k:Key):Bool:=!(aQ l k).isSome
def nW (l all:List aC):List Key:=(l.flatMap bJ).filter (kD all)
def u3 (l:List aC):List Key:=(nW l l).foldl jO []
theorem JQ (r:aC):lX r 0=if bs r.to=[]then []else [⟨r.kind+1,r.to⟩]:=by simp[lX]
theorem U8 {r:aC}{k:Nat}{x:gF}(h:r.rules.take (k+1)=r.rules.take k++[x]):lX r (k+1)=lX r k++(x.split.filter λw=>decide (0<w.w)).map toKey:=by
 simp[lX,h]
theorem JS {r:aC}(k:Nat)(h1:r.rules.length<=8)(h:∀x∈r.rules,x.split.length<=4):(lX r k).length<=33:=by
 have h4:=FG (l:=r.rules.take k) (λx hx=>h x (rL hx));have h5:(r.rules.take k).length<=8:=cD (by simp;omega) h1;have h6:=eE (λw:Weight=>decide (0<w.w)) ((r.rules.take k).flatMap (·.split));simp only[lX,vW];split<;>simp<;>omega
structure lE (l:List Key)(j i:Nat)(cur:List Key):Prop where
 len:cur.length=l.length
 lt:i<j
 le:j<=l.length
 pre:cur.take i=iO (l.take j)
 rR:cur.drop (j-1)=l.drop (j-1)
theorem YG {l:List Key}{j:Nat}{q:Key}(h0:0<j)(hq:l[j-1]? =some q):tC none (l.take j)=some q:=by
 unfold tC
 grind
theorem BM {l:List Key}{j:Nat}{v q:Key}(h0:0<j)(hq:l[j-1]? =some q)(hv:l[j]? =some v):iO (l.take (j+1))=iO (l.take j)++(if q=v then []else [v]):=by
 rw[eW,hv];show kH none (l.take j++[v])=_;rw[NY,YG h0 hq];simp[iO]
theorem lE.get {l:List Key}{j i:Nat}{cur:List Key}(h:lE l j i cur){v:Key}(hv:l[j]? =some v):cur[j]? =some v:=by
 have h1:(cur.drop (j-1))[1]? =(l.drop (j-1))[1]? :=by rw[h.rR]
 have:=h.lt
 grind
theorem lE.get' {l:List Key}{j i:Nat}{cur:List Key}(h:lE l j i cur){v:Key}(hv:l[j-1]? =some v):cur[j-1]? =some v:=by
 have h1:(cur.drop (j-1))[0]? =(l.drop (j-1))[0]? :=by rw[h.rR]
 simp_all
theorem lE.start {l:List Key}{j:Nat}{q:Key}(h0:0<j)(hp:iO (l.take j)=l.take j)(h1:l[j-1]? =some q)(h2:l[j]? =some q):lE l (j+1) j l:=
 ⟨rfl,by omega,by have:=(cJ.1 h2).1;omega,by rw[BM h0 h1 h2,hp];simp,rfl⟩
theorem lE.same {l:List Key}{j i:Nat}{cur:List Key}(h:lE l j i cur){v:Key}(hv:l[j]? =some v)(hq:l[j-1]? =some v):lE l (j+1) i cur:=by
 have hj:j<l.length:=(cJ.1 hv).1;have:=h.lt;refine⟨h.len,by omega,by omega,by rw[BM (by omega) hq hv,h.pre];simp,?_⟩;have:=cI (List.drop 1) h.rR;rw[qG,qG,show j-1+1=j by omega]at this;simpa using this
theorem lE.jW {l:List Key}{j i:Nat}{cur:List Key}(h:lE l j i cur){v q:Key}(hv:l[j]? =some v)(hq:l[j-1]? =some q)(hne:¬q=v):lE l (j+1) (i+1) (cur.set i v):=by
 have hj:j<l.length:=(cJ.1 hv).1;have hlt:=h.lt;have hlen:=h.len;refine⟨by simp[hlen],by omega,by omega,?_,?_⟩
 ·rw[BM (by omega) hq hv,aR hne,<-h.pre];have h1:(cur.set i v)[i]? =some v:=by grind
  rw[eW,h1,List.take_set_of_le (aY i)];rfl
 ·rw[List.drop_set_of_lt (by omega)];have:=cI (List.drop 1) h.rR;rw[qG,qG,show j-1+1=j by omega]at this;simpa using this
theorem lE.done {l:List Key}{i:Nat}{cur:List Key}(h:lE l l.length i cur):cur.take i=iO l:=by
 rw[h.pre,bK]
theorem Cs (l:List Key):iO (l.take (0+1))=l.take (0+1):=by cases l<;>simp[iO,kH]
theorem Cr {l:List Key}(h:(l.length:Int)<2):iO l=l:=by
 match l,h with
 |[],_=>rfl
 |[_],_=>rfl
 |_::_::_,h=>simp at h;omega
theorem QC {r:aC}(h:dK r=true)(ht:¬bs r.to=[]):r.rules=[]:=by
 simp only[dK,bN,pG,dO]at h;have h2:=h.1.1.2.resolve_left ht;simp only[eB,pG,dO]at h2;rcases h.1.2 with h3|h3
 ·simp_all
 ·simp only[eJ,dO]at h3;omega
theorem E9 {l:List aC}{k:Key}{r:aC}(h:aQ l k=some r):r.key=k:=by
 have:=List.find?_some h;simpa using this
theorem tK {l:List aC}{k:Key}{r:aC}(h:aQ l k=some r):r∈l:=List.mem_of_find?_eq_some h
theorem FA (a b:List aC)(k:Key):aQ (a++b) k=match aQ a k with|some r=>some r|none=>aQ b k:=by
 unfold aQ
 grind
theorem MJ (l:List aC){k q:Key}{c:Int}(h:bR k q=c):aQ (kC l q c) k=aQ l k:=by
 induction l with
 |nil=>rfl
 |cons a l ih=>
  unfold aQ kC at*
  grind
theorem E8 (l:List aC){k q:Key}{c:Int}(h:¬bR k q=c):aQ (kC l q c) k=none:=by
 unfold aQ kC
 grind
theorem Z3 (l:List aC)(r:aC)(k:Key):aQ (hC l r) k=if r.key=k then some r else aQ l k:=by
 rw[FA,FA];rcases tT k r.key with h|h|h
 ·have hne:¬r.key=k:=by intro e;rw[<-e,sF]at h;omega
  rw[MJ l h,E8 l (c:=1) (by omega),aR hne];have:aQ [r] k=none:=by simp[aQ,hne]
  rw[this];cases aQ l k<;>rfl
 ·have e:=tS.1 h;subst e;rw[E8 l (c:= -1) (by omega),bA rfl];simp[aQ]
 ·have hne:¬r.key=k:=by intro e;rw[<-e,sF]at h;omega
  rw[E8 l (c:= -1) (by omega),MJ l h,aR hne];have:aQ [r] k=none:=by simp[aQ,hne]
  rw[this]
theorem Z0 (l:List aC)(q k:Key):aQ (gZ l q) k=if q=k then none else aQ l k:=by
 induction l with
 |nil=>simp[aQ]
 |cons a l ih=>
  unfold aQ gZ at*
  grind
def cZ (l:List aC):Prop:=fL (l.map aC.key)
theorem tU {l:List aC}(h:cZ l){r:aC}(hr:r∈l):aQ l r.key=some r:=by
 induction l with
 |nil=>simp at hr
 |cons a l ih=>
  obtain⟨h1,h2⟩:=pE.1 h;rcases iF.1 hr with e|e
  ·subst e;simp[aQ]
  ·have hne:¬a.key=r.key:=by
    intro e';have:=h1 r.key (dV.2 ⟨r,e,rfl⟩);rw[e',sF]at this;omega
   have:=ih h2 e;unfold aQ at*;simp[hne,this]
open Go.AI
structure aZ where
 cap:Int
 aU:List (List aC)
 deriving DecidableEq
@[simp] def zB (l:List aC):List D:=[lD (l.map aF)]
@[simp] def dI (s:aZ):List D:=[iD s.cap,lD (s.aU.map zB)]
@[simp] theorem lenAll_rs (l:List (List aC)):gL (l.map zB) 1=True:=r5 (f:=zB) (n:=1) (λ_=>rfl) l
structure iS (s:aZ):Prop where
 len:s.aU.length<=9223372036854775807
 all:∀l∈s.aU,gG l
def k9 (n:Int):Int:=max 0 (min n 64)
def dU (n:Int):aZ:=⟨k9 n,[[]]⟩
def cM (s:aZ):List aC:=s.aU.getLastD []
def cO (s:aZ):aZ:=if s.aU=[]then dU s.cap else⟨k9 s.cap,s.aU⟩
def j4 (s:aZ)(i:Int):Option (List aC):=if 0<=i then(cO s).aU[i.toNat]? else none
def kT (s:aZ)(k:Key)(v:Int):Option aC:=match aQ ((j4 s v).getD []) k with
 |some r=>if r.bZ=v then some r else none
 |none=>none
def mU (m:Mark):aC:=⟨m.k.kind,m.k.name,m.bZ,0,⟨#[]⟩,[],[]⟩
def ofM (s:aZ)(m:Mark):aC:=(kT s m.k m.bZ).getD (mU m)
def jU (s:aZ)(l:List Mark):List aC:=(l.map (ofM s)).foldl hC []
def nE (l:List aC):List Mark:=l.map λr=>⟨r.key,r.bZ⟩
@[simp] theorem marksV_nil :nE []=[]:=rfl
theorem K0 (a b:List aC):nE (a++b)=nE a++nE b:=by simp[nE]
@[simp] theorem marksV_one (r:aC):nE [r]=[⟨r.key,r.bZ⟩]:=rfl
@[simp] theorem marksV_length (l:List aC):(nE l).length=l.length:=by simp[nE]
def kN (now next:List aC)(v:Int):List aC:=next.map λr=>{r with bZ:=match aQ now r.key with
 |some o=>if dX o r then o.bZ else v
 |none=>v}
def jD (l:List aC):Int:=match l.find? λr=>!decide (cU r=0)with
 |some r=>cU r
 |none=>0
def sG :List aC->Bool
 |[]=>true
 |[_]=>true
 |a::b::l=>decide (bR a.key b.key= -1)&&sG (b::l)
def DQ (l:List aC):List Int:=(l.filter λr=>decide (r.kind=0)).map aC.port
def gQ (l:List aC):Int:=if 64<l.length then 3 else if jD l=0 then(if sG l=false then 2 else if(DQ l).Nodup then 0 else 13)else jD l
def dR (a b:List aC):List aC:=b.filter λr=>!decide (aQ a r.key=some r)
def eQ (a b:List aC):List Key:=(a.map aC.key).filter λk=>!(aQ b k).isSome
theorem OO {v:View}{f:Frame}(h1:v.open_=true)(h2:iN v f=true):dG v f=gT ⟨if f.err=0 then jQ v.aI v.push.aL v.push.gone else v.aI,v.held,v.cK,cV,false⟩ f.cK f.held:=by
 unfold dG gT
 grind
theorem Ae {v:View}{f:Frame}(h:f.type=2):(!decide (f.cA=v.push.cA)|| (!decide (f.kind=v.push.kind)|| !decide (f.eY=v.push.eY)))= !iN v f:=by
 simp only[iN,h,decide_true,pF,vZ,Bool.or_assoc]
theorem KB (s:aZ)(m:Mark):(ofM s m).key=m.k:=by
 unfold ofM kT;split
 ·rename_i r h;split
  ·simp[E9 h]
  ·rfl
 ·rfl
theorem WR (s:aZ)(m:Mark):(ofM s m).bZ=m.bZ:=by
 unfold ofM kT;split
 ·rename_i r h;split
  ·simp_all
  ·rfl
 ·rfl
theorem w8 (s:aZ)(l:List Mark):(jU s l).length<=l.length:=by
 have:=xI (l.map (ofM s)) [];simpa[jU]using this
theorem B3 :∀(l:List aC),sG l=true↔cZ l
 |[]=>by simp[sG,cZ,fL]
 |[_]=>by simp[sG,cZ,fL]
 |a::b::l=>by
  have ih:=B3 (b::l);simp only[sG,bN,dO,ih];unfold cZ fL;constructor
  ·rintro⟨h1,h2⟩;refine pE.2 ⟨λx hx=>?_,h2⟩;obtain⟨h3,_⟩:=pE.1 h2;rcases iF.1 hx with e|e
   ·rw[e];exact h1
   ·exact rE h1 (h3 x e)
  ·intro h;obtain⟨h1,h2⟩:=pE.1 h;exact⟨h1 _ (by simp),h2⟩
theorem C0 {l:List aC}(h:gQ l=0):cZ l:=by
 unfold gQ at h;rw[<-B3]
 grind
structure O9 (f:Frame):Prop where
 aL:f.aL.length<=80
 gone:f.gone.length<=80
 aI:f.aI.length<=80
 held:f.held.length<=80
structure Hf (v:View):Prop where
 aI:v.aI.length<=80
 held:v.held.length<=80
 push:O9 v.push
theorem FL {l:List aC}(h:oZ l=true):l.length<=80:=by
 simp only[oZ,bN,dO]at h;exact h.2
theorem M7 {f:Frame}(h:mT f=true):O9 f:=by
 simp only[mT,bN,dO]at h;exact⟨FL h.1.1.1.2,h.1.1.2,h.1.2,h.2⟩
theorem Av {v:View}(h:oY v=true):Hf v:=by
 simp only[oY,bN,dO]at h;exact⟨FL h.1.1,h.1.2,M7 h.2⟩
theorem KQ {l:List aC}{r x:aC}(h:x∈hC l r):x=r\/x∈l:=by
 simp only[hC,kC,fZ,jK,uJ]at h;rcases h with(h|h)|h
 ·exact .inr h.1
 ·exact .inl h
 ·exact .inr h.1
theorem D7 :∀{a l:List aC} {x:aC},x∈a.foldl hC l->x∈l\/x∈a
 |[],l,x,h=>.inl h
 |r::a,l,x,h=>by
  rcases D7 (a:=a) h with h|h
  ·rcases KQ h with h|h
   ·exact .inr (by simp[h])
   ·exact .inl h
  ·exact .inr (by simp[h])
theorem KT :∀{g:List Key} {l:List aC} {x:aC},x∈g.foldl gZ l->x∈l
 |[],l,x,h=>h
 |k::g,l,x,h=>(jK.1 (KT (g:=g) h)).1
theorem XP {l a:List aC}{g:List Key}{x:aC}(h:x∈jQ l a g):x∈l\/x∈a:=by
 rcases D7 h with h|h
 ·exact .inl (KT h)
 ·exact .inr h
theorem U5 (l a:List aC)(g:List Key):(jQ l a g).length<=l.length+a.length:=by
 have h1:=xI a (g.foldl gZ l);have h2:=vE g l;unfold jQ;omega
theorem Gb {v:View}{f:Frame}(h:v.open_=false):dG v f=v:=by simp[dG,h]
theorem Ga {v:View}{f:Frame}(h:iN v f=false):dG v f=v:=by by_cases h1:v.open_=true<;>simp[dG,h1,h]
theorem Fz (v:View)(f:Frame):(dG v f).push=v.push\/(dG v f).push=cV:=by
 by_cases h1:v.open_=true
 ·by_cases h2:iN v f=true
  ·rw[OO h1 h2];simp
  ·have h2:iN v f=false:=by simpa using h2
   rw[Ga h2];simp
 ·have h1:v.open_=false:=by simpa using h1
  rw[Gb h1];simp

def gC (k:Key):List Value:=[.int .i64 k.kind,.string k.name]
theorem AR {a b:Key}(h:gC a=gC b):a=b:=by
 obtain⟨x,s⟩:=a;obtain⟨y,t⟩:=b;simp[gC]at h;rw[h.1,h.2]
noncomputable def gB (S:List Key):List Value->Option (List D):=λv=>open Classical in if∃k,k∈S/\v=gC k then some [bD true]else none
theorem EA (S:List Key)(k:Key):gB S (gC k)=if k∈S then some [bD true]else none:=by
 unfold gB;by_cases h:k∈S
 ·rw[bA ⟨k,h,rfl⟩,bA h]
 ·rw[aR,aR h];rintro⟨k',h1,h2⟩;rw[AR h2]at h;exact h h1
theorem r4 :(λ_=>none)=gB []:=by
 funext v;simp[gB]
theorem PY (S:List Key)(k:Key):iW (gB S) (gC k) [bD true]=gB (S++[k]):=by
 funext v
 unfold iW;by_cases h:v=gC k
 ·subst h;rw[bA rfl,EA,bA (by simp)]
 ·rw[aR h];unfold gB;by_cases h2:∃q,q∈S/\v=gC q
  ·simp_all
  ·grind
@[simp] theorem updL_lookS' (S:List Key)(a:Int)(s:cE):iW (gB S) [.int .i64 a,.string s] [D.v (Value.bool true)]=gB (S++[⟨a,s⟩]):=PY S ⟨a,s⟩
theorem oS {S:List Key}{k:Key}(h:k∈S):gB S [.int .i64 k.kind,.string k.name]=some [bD true]:=by
 have:=EA S k;rwa[bA h]at this
theorem qW {S:List Key}{k:Key}(h:k∉S):gB S [.int .i64 k.kind,.string k.name]=none:=by
 have:=EA S k;rwa[aR h]at this
@[simp] theorem take_len_map {α β:Type}(f:α->β)(l:List α):List.take l.length (List.map f l)=List.map f l:=by rw[<-sL,bK]
noncomputable def pP (S:List Int):List Value->Option (List D):=λv=>open Classical in if∃n,n∈S/\v=[.int .i64 n]then some [bD true]else none
theorem EC (S:List Int)(n:Int):pP S [.int .i64 n]=if n∈S then some [bD true]else none:=by
 unfold pP;simp_all
theorem K8 :(λ_=>none)=pP []:=by
 funext v;simp[pP]
@[simp] theorem updL_lookP (S:List Int)(n:Int):iW (pP S) [.int .i64 n] [D.v (Value.bool true)]=pP (S++[n]):=by
  funext v
  unfold iW;by_cases h:v=[.int .i64 n]
  ·subst h;rw[bA rfl,EC,bA (by simp)]
  ·rw[aR h];unfold pP;by_cases h2:∃q,q∈S/\v=[Value.int .i64 q]
   ·simp_all
   ·grind
theorem mem_keys {l:List aC}{k:Key}:k∈l.map aC.key↔(aQ l k).isSome=true:=by
 unfold aQ;rw[List.find?_isSome];simp
@[simp] theorem missP_nil (l:List aC):nW [] l=[]:=rfl
theorem XO (a:List aC)(x:aC)(l:List aC):nW (a++[x]) l=nW a l++(bJ x).filter (kD l):=by
 simp[nW]
theorem z7 :∀(a l:List aC),(nW a l).length<=33*a.length
 |[],l=>by simp
 |r::a,l=>by
  have h1:=z7 a l;have h2:=nV r;have h3:=eE (kD l) (bJ r);simp only[nW,List.flatMap_cons,jM,oK,jL]at*;omega
theorem XN (l:List aC):iO (nA (nW l l))=u3 l:=Cq _
theorem A9 {l:List aC}{k:Nat}{x:aC}(h:(l.take k).all (λr=>decide (cU r=0))=true)(hr:l[k]? =some x)(hx:¬cU x=0):jD l=cU x:=by
 unfold jD;rw[xL (k:=k) (x:=x) (by simpa using h) hr (by simpa using hx)]
theorem FH {l:List aC}(h:l.all (λr=>decide (cU r=0))=true):jD l=0:=by
 unfold jD;rw[BA (by simpa using h)]
theorem Fl (a:List aC)(x:aC)(h:cZ a)(hl:∀y,a.getLast? =some y->bR y.key x.key= -1):cZ (a++[x]):=by
 unfold cZ fL at*;rw[sM,List.pairwise_append];refine⟨h,by simp,λy hy z hz=>?_⟩;simp at hz;subst hz;rcases List.eq_nil_or_concat a with e|⟨b,w,e⟩
 ·simp_all
 ·subst e;have hw:=hl w (by simp);simp only[List.concat_eq_append,sM,fM,qE,fZ,uJ]at hy h;rcases hy with hy|hy
  ·have:=(List.pairwise_append.1 h).2.2 y hy w.key (by simp);exact rE this hw
  ·rw[hy];exact hw
theorem Fm {l:List aC}{m:Nat}{y x:aC}(h:cZ l)(hy:l[m]? =some y)(hx:l[m+1]? =some x):bR y.key x.key= -1:=by
 unfold cZ fL at h;rw[List.pairwise_iff_getElem]at h
 grind
theorem QL {l:List aC}(h:¬64<l.length)(h2:¬jD l=0):gQ l=jD l:=by simp[gQ,h,h2]
theorem QM {l:List aC}(h:¬64<l.length)(h2:jD l=0)(h3:¬cZ l):gQ l=2:=by
 have:sG l=false:=by
  cases hb:sG l
  ·rfl
  ·exact absurd ((B3 l).1 hb) h3
 simp[gQ,h,h2,this]
theorem G9 {l:List aC}(h:¬64<l.length)(h2:jD l=0)(h3:cZ l):gQ l=if(DQ l).Nodup then 0 else 13:=by
 simp[gQ,h,h2,(B3 l).2 h3]
theorem KD {α:Type}{a:List α}{x:α}:(a++[x]).Nodup↔a.Nodup/\x∉a:=by grind
@[simp] theorem ascR_nil :cZ []=True:=eq_true (by simp[cZ,fL])
theorem LI {α:Type}{l:List α}{m:Nat}{y:α}(h:l[m]? =some y):(l.take (m+1)).getLast? =some y:=by grind
theorem UZ {S:List Int}{n:Int}(h:n∈S):pP S [.int .i64 n]=some [bD true]:=by rw[EC,bA h]
theorem UY {S:List Int}{n:Int}(h:n∉S):pP S [.int .i64 n]=none:=by rw[EC,aR h]
theorem FZ (n:Int):k9 (k9 n)=k9 n:=by unfold k9;omega
theorem N5 (n:Int):(if 0<(if 64<n then 64 else n)then(if 64<n then(64:Int)else n)else 0)=k9 n:=by
 unfold k9;by_cases h:64<n
 ·simp[h];omega
 ·by_cases h2:0<n
  ·simp[h,h2];omega
  ·simp[h,h2];omega
theorem G7 {s:aZ}(h:s.aU=[]):cO s=dU s.cap:=by simp[cO,h]
theorem CW {s:aZ}(h:¬s.aU=[]):cO s=⟨k9 s.cap,s.aU⟩:=by simp[cO,h]
abbrev OF (s:aZ)(i:Int):AV:=.bC [aD (((j4 s i).getD []).map aF),bool (j4 s i).isSome]
abbrev M5 (s:aZ)(k:Key)(v:Int):AV:=.bC [st (aF ((kT s k v).getD kK)),bool (kT s k v).isSome]
theorem OB {s:aZ}{i:Int}(h:i<0):j4 s i=none:=by simp[j4];omega
theorem OE {s:aZ}{i:Int}(h:((cO s).aU.length:Int)<=i):j4 s i=none:=by
 unfold j4;split
 ·exact CF (by omega)
 ·rfl
theorem OC {s:aZ}{i:Int}(h0:¬i<0)(h:¬((cO s).aU.length:Int)<=i):∃l,(∃hh:i.toNat<(cO s).aU.length,(cO s).aU[i.toNat]=l)/\(cO s).aU[i.toNat]? =some l/\j4 s i=some l:=by
 refine⟨(cO s).aU[i.toNat]'(by omega),⟨by omega,rfl⟩,bL _,?_⟩;unfold j4;rw[bA (by omega)];exact bL _
theorem VK {s:aZ}(h:iS s):iS (cO s):=by
 unfold cO;split
 ·exact⟨by simp[dU],λl hl=>by simp[dU]at hl;subst hl;exact⟨by simp,by simp⟩⟩
 ·exact⟨h.len,h.all⟩
theorem J5 {s:aZ}(h:iS s)(i:Int):gG ((j4 s i).getD []):=by
 unfold j4;split
 ·cases hg:(cO s).aU[i.toNat]? with
  |none=>exact⟨by simp,by simp⟩
  |some l=>exact(VK h).all l (gI hg)
 ·exact⟨by simp,by simp⟩
theorem An {s:aZ}{k:Key}{v:Int}(h:aQ ((j4 s v).getD []) k=none):kT s k v=none:=by simp[kT,h]
theorem Am {s:aZ}{k:Key}{v:Int}{r:aC}(h:aQ ((j4 s v).getD []) k=some r):kT s k v=if r.bZ=v then some r else none:=by simp[kT,h]
theorem Al {s:aZ}(h:iS s){m:Mark}(hm:nB m.k.name):nB (ofM s m).name:=by
 have:=KB s m;have e:(ofM s m).name=m.k.name:=cI Key.name this;rw[e];exact hm
theorem AN (s:aZ):jU s []=[]:=rfl
theorem EM (s:aZ)(l:List Mark)(m:Mark):jU s (l++[m])=hC (jU s l) (ofM s m):=by simp[jU,mY]
def n9 (n:Nat)(s:aZ):Bool:=s.aU.all oZ&&decide (s.aU.length<=n)
theorem Aw {n:Nat}{s:aZ}(h:n9 n s=true):(∀l∈s.aU,l.length<=80)/\s.aU.length<=n:=by
 simp only[n9,bN,cS,dO]at h;exact⟨λl hl=>FL (h.1 l hl),h.2⟩
noncomputable def fP (S:List aC):List Value->Option (List D):=λv=>open Classical in if h:∃k,v=gC k then(aQ S h.choose).map λr=>[lD ((bJ r).map aK)]else none
theorem AH (S:List aC)(k:Key):fP S (gC k)=(aQ S k).map λr=>[lD ((bJ r).map aK)]:=by
 unfold fP;have h:∃q,gC k=gC q:=⟨k,rfl⟩;rw[dif_pos h,<-AR h.choose_spec]
theorem LA {S:List aC}{k:Key}{r:aC}(h:aQ S k=some r):fP S [.int .i64 k.kind,.string k.name]=some [lD ((bJ r).map aK)]:=by
 have:=AH S k;rw[h]at this;exact this
theorem XY {S:List aC}{k:Key}(h:aQ S k=none):fP S [.int .i64 k.kind,.string k.name]=none:=by
 have:=AH S k;rw[h]at this;exact this
theorem K9 :(λ_=>none)=fP []:=by
 funext v
 unfold fP;split<;>simp[aQ]
theorem MH (S:List aC)(x:aC)(k:Key):aQ (S++[x]) k=match aQ S k with|some r=>some r|none=>if x.key=k then some x else none:=by
 rw[FA];cases aQ S k with
 |some r=>rfl
 |none=>by_cases h:x.key=k<;>simp[aQ]
theorem P0 {S:List aC}{x:aC}(h:aQ S x.key=none):iW (fP S) [.int .i64 x.key.kind,.string x.key.name] [lD ((bJ x).map aK)]=fP (S++[x]):=by
 funext v
 unfold iW;by_cases hv:v=[.int .i64 x.key.kind,.string x.key.name]
 ·subst hv;rw[bA rfl];have:aQ (S++[x]) x.key=some x:=by rw[MH,h];simp
  rw[LA this]
 ·rw[aR hv];by_cases hk:∃k,v=gC k
  ·obtain⟨k,rfl⟩:=hk;rw[AH,AH,MH];cases hg:aQ S k with
   |some r=>rfl
   |none=>
    have:¬x.key=k:=by rintro rfl;exact hv rfl
    simp[this]
  ·unfold fP;rw[dif_neg hk,dif_neg hk]
theorem Fo {l:List aC}{k:Nat}{x:aC}(h:cZ l)(hr:l[k]? =some x):aQ (l.take k) x.key=none:=by
 unfold aQ;rw[CG];intro y hy;simp;intro e;obtain⟨i,hi⟩:=sO hy;have hik:i<k:=by
  grind
 rw[List.getElem?_take,bA hik]at hi;unfold cZ fL at h;rw[List.pairwise_iff_getElem]at h;obtain⟨h1,e1⟩:=cJ.1 hi;obtain⟨h2,e2⟩:=cJ.1 hr;have:=h i k (by simpa using h1) (by simpa using h2) hik;simp only[List.getElem_map,e1,e2,e,sF]at this;omega
def dW (l:List aC):Nat->List Key->Key->List Key
 |0,out,_=>out
 |n+1,out,k=>match aQ l k with
  |none=>out
  |some r=>if k∈out then out else(bJ r).foldl (dW l n) (out++[k])
def jS (l:List aC)(out:List Key):Nat:=((l.map aC.key).filter λk=>decide (k∉out)).length
theorem oX {f:List Key->Key->List Key}(h:∀o k x,x∈o->x∈f o k):∀(l:List Key) (o:List Key) (x:Key),x∈o->x∈l.foldl f o
 |[],_,_,hx=>hx
 |k::l,o,x,hx=>oX h l _ x (h o k x hx)
theorem sS (l:List aC):∀(n:Nat) (out:List Key) (k x:Key),x∈out->x∈dW l n out k
 |0,_,_,_,h=>h
 |n+1,out,k,x,h=>by
  unfold dW;split
  ·exact h
  ·split
   ·exact h
   ·exact oX (sS l n) _ _ _ (by simp[h])
theorem wY {l:List aC}{a b:List Key}(h:∀x,x∈a->x∈b):jS l b<=jS l a:=by
 unfold jS;induction l with
 |nil=>simp
 |cons r l ih=>
  grind
theorem AJ {l:List aC}{out:List Key}{k:Key}(hk:k∈l.map aC.key)(ho:k∉out):jS l (out++[k])<jS l out:=by
 unfold jS;induction l with
 |nil=>simp at hk
 |cons r l ih=>
  have hle:=wY (l:=l) (a:=out) (b:=out++[k]) (λx hx=>by simp[hx]);unfold jS at hle
  grind
theorem AK (l:List aC)(out:List Key):jS l out<=l.length:=by
 have:=eE (λk=>decide (k∉out)) (l.map aC.key);simpa[jS]using this
def iJ (l:List aC):List Key:=(l.filter λr=>decide (r.kind=0)).map aC.key
def k6 (l:List aC):List Key:=(iJ l).foldl (dW l (l.length+1)) []
def iK (l:List aC):List aC:=l.filter λr=>decide (r.key∈k6 l)
def tQ (r:aC):Bool:=decide (r.kind=3)&&decide (r.bE.length=0)
def nS (l:List aC):Int:=if(iK l).any λr=>(bJ r).any (kD l)then 6 else if(iK l).any tQ then 7 else 0
theorem uY (a:List aC)(x:aC):iJ (a++[x])=iJ a++(if x.kind=0 then [x.key]else []):=by
 by_cases h:x.kind=0<;>simp[iJ,h]
def iP (cap:Int)(n:Nat)(now next:List aC):Int:=
 if gQ next=0 then(if cap<next.length then 8 else if¬(u3 next).length=0 then 6 else if¬nS next=0 then 7 else if now=next then 9 else if 100000<=n then 8 else 0)else gQ next
def lW (s:aZ)(aL:List aC)(gone:List Key):List aC:=kN (cM s) (jQ (cM s) aL gone) s.aU.length
def mL (s:aZ)(aL:List aC)(gone:List Key):Int:=iP s.cap s.aU.length (cM s) (lW s aL gone)
def wM (s:aZ)(aL:List aC)(gone:List Key):aZ:=if mL s aL gone=0 then⟨s.cap,s.aU++[lW s aL gone]⟩else s
def uV :aZ->List (List aC)->Bool
 |_,[]=>true
 |t,l::r=>decide (mL t (dR (cM t) l) (eQ (cM t) l)=0)&&decide (lW t (dR (cM t) l) (eQ (cM t) l)=l)&&uV ⟨t.cap,t.aU++[l]⟩ r
def pL (s:aZ):Bool:=decide (s.cap=k9 s.cap)&&decide (1<=s.aU.length)&&decide (s.aU.length<=100000)&&decide (s.aU.headD []=[])&&uV (dU s.cap) (s.aU.drop 1)
theorem N3 {cap:Int}{n:Nat}{now next:List aC}(h:iP cap n now next=0):gQ next=0:=by
 unfold iP at h;split at h
 ·assumption
 ·exact h
theorem Ge {o r:aC}(h:dX o r=true):{r with bZ:=o.bZ}=o:=by
 obtain⟨a1,a2,a3,a4,a5,a6,a7⟩:=o;obtain⟨b1,b2,b3,b4,b5,b6,b7⟩:=r;simp[dX]at h;obtain⟨⟨⟨⟨⟨h1,h2⟩,h3⟩,h4⟩,h5⟩,h6⟩:=h;subst h1 h2 h3 h4 h5 h6;rfl
noncomputable def lL (S:List aC):List Value->Option (List D):=λv=>open Classical in if h:∃k,v=gC k then(aQ S h.choose).map aF else none
theorem AG (S:List aC)(k:Key):lL S (gC k)=(aQ S k).map aF:=by
 unfold lL;have h:∃q,gC k=gC q:=⟨k,rfl⟩;rw[dif_pos h,<-AR h.choose_spec]
theorem EB {S:List aC}{k:Key}{r:aC}(h:aQ S k=some r):lL S [.int .i64 k.kind,.string k.name]=some (aF r):=by
 have:=AG S k;rw[h]at this;exact this
theorem K6 {S:List aC}{k:Key}(h:aQ S k=none):lL S [.int .i64 k.kind,.string k.name]=none:=by
 have:=AG S k;rw[h]at this;exact this
theorem K7 :(λ_=>none)=lL []:=by
 funext v
 unfold lL;split<;>simp[aQ]
theorem MM (x:aC)(S:List aC)(k:Key):aQ (x::S) k=if x.key=k then some x else aQ S k:=by
 by_cases h:x.key=k<;>simp[aQ,h]
theorem PZ (S:List aC)(x:aC):iW (lL S) [.int .i64 x.key.kind,.string x.key.name] (aF x)=lL (x::S):=by
 funext v
 unfold iW;by_cases hv:v=[.int .i64 x.key.kind,.string x.key.name]
 ·subst hv;rw[bA rfl];have:aQ (x::S) x.key=some x:=by rw[MM];simp
  rw[EB this]
 ·rw[aR hv];by_cases hk:∃k,v=gC k
  ·obtain⟨k,rfl⟩:=hk;have:¬x.key=k:=by rintro rfl;exact hv rfl
   rw[AG,AG,MM,aR this]
  ·unfold lL;rw[dif_neg hk,dif_neg hk]
noncomputable abbrev sB (S:List aC):D:=.mp true [.int,.str] true (lL S)
end Go.G
