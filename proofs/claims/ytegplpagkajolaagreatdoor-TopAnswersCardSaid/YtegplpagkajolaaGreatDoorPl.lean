/-
  LAYERS 1 to 14: the plain functions that the code computes, how their data lies in cells, and plain laws of them.
-/
import Derived.Test.YtegplpagkajolaaGreatDoorFc
import Derived.Lib.Bytealg
import Derived.Laws.RangeAny
import Derived.Sort.Statements
set_option linter.unusedSimpArgs false
set_option linter.unusedVariables false
set_option maxRecDepth 100000
set_option maxHeartbeats 8000000
namespace Go.G
abbrev cH :=ByteArray
structure Key where
 kind:Int
 name:cH
 deriving DecidableEq
structure Weight where
 gI:cH
 w:Int
 deriving DecidableEq
structure gB where
 host:cH
 pre:cH
 split:List Weight
 deriving DecidableEq
structure aA where
 kind:Int
 name:cH
 cS:Int
 port:Int
 to:cH
 rules:List gB
 cT:List Int
 deriving DecidableEq
structure Mark where
 k:Key
 cS:Int
 deriving DecidableEq
structure Frame where
 type:Int
 aF:Int
 kind:Int
 cY:Int
 aL:Int
 aD:List aA
 gone:List Key
 err:Int
 bF:List Mark
 held:List Key
 deriving DecidableEq
structure View where
 bF:List aA
 held:List Key
 aL:Int
 push:Frame
 open_:Bool
 deriving DecidableEq
def aA.key (r:aA):Key:=⟨r.kind,r.name⟩
open Go.AI
abbrev iD (n:Int):D:=.v (.int .i64 n)
abbrev sD (s:cH):D:=.v (.string s)
abbrev bD (b:Bool):D:=.v (.bool b)
abbrev int (n:Int):AV:=.d (iD n)
abbrev str (s:cH):AV:=.d (sD s)
abbrev bool (b:Bool):AV:=.d (bD b)
abbrev lD (es:List (List D)):D:=.ro false es
abbrev aC (es:List (List D)):AV:=.d (lD es)
@[simp] def lP (n:Int):List D:=[iD n]
@[simp] def wC (w:Weight):List D:=[sD w.gI,iD w.w]
@[simp] def fR (r:gB):List D:=[sD r.host,sD r.pre,lD (r.split.map wC)]
@[simp] def aK (r:aA):List D:=[iD r.kind,sD r.name,iD r.cS,iD r.port,sD r.to,lD (r.rules.map fR),lD (r.cT.map lP)]
@[simp] def bP (k:Key):List D:=[iD k.kind,sD k.name]
@[simp] def nU (m:Mark):List D:=[iD m.k.kind,sD m.k.name,iD m.cS]
@[simp] def fY (f:Frame):List D:=[iD f.type,iD f.aF,iD f.kind,iD f.cY,iD f.aL,lD (f.aD.map aK),lD (f.gone.map bP),iD f.err,lD (f.bF.map nU),lD (f.held.map bP)]
@[simp] def DT (v:View):List D:=[lD (v.bF.map aK),lD (v.held.map bP),iD v.aL]++fY v.push++[bD v.open_]
@[simp] theorem lenAll_int (l:List Int):jV (l.map lP) 1=True:=vG (f:=lP) (n:=1) (fun _=>rfl) l
@[simp] theorem lenAll_w (l:List Weight):jV (l.map wC) 2=True:=vG (f:=wC) (n:=2) (fun _=>rfl) l
@[simp] theorem lenAll_rule (l:List gB):jV (l.map fR) 3=True:=vG (f:=fR) (n:=3) (fun _=>rfl) l
@[simp] theorem lenAll_res (l:List aA):jV (l.map aK) 7=True:=vG (f:=aK) (n:=7) (fun _=>rfl) l
@[simp] theorem lenAll_key (l:List Key):jV (l.map bP) 2=True:=vG (f:=bP) (n:=2) (fun _=>rfl) l
@[simp] theorem lenAll_mark (l:List Mark):jV (l.map nU) 3=True:=vG (f:=nU) (n:=3) (fun _=>rfl) l
@[simp] theorem lenAll_byte (l:List UInt8):jV (l.map bU) 1=True:=vG (f:=bU) (n:=1) (fun _=>rfl) l
abbrev st (cs:List D):AV:=.agg (cs.map .d)
theorem aB {mm:Nat->Option bC}{r res:AV}(h:eJ (fO (fun _=>false) mm 8 r) (res.cF (gf [])))(hn:fX (aV [] []) res=true):∃g,BJ mm r [] res [] g:=
 ⟨[],by simpa using h,by simp,by simp,by simp,by simp,hn,by simp⟩
theorem cK {ops:Array Oper}{ft:List (List Nat×List Nat)}{mm:Nat->Option bC}{r res:AV}(h:eJ (fO (fun _=>false) mm 8 r) (res.cF (gf [])))(hd:nY ops ft:=by decide+kernel)(hn:fX (aV [] []) res=true:=by rfl):nY ops ft/\∃g,BJ mm r [] res [] g:=
 ⟨hd,aB h hn⟩
def bs (s:cH):List UInt8:=s.data.toList
theorem mD (s:cH):s.size=(bs s).length:=by show s.data.size=_;rw[bs,KY]
theorem zgS (s:cH)(i:Nat):s[i]? =(bs s)[i]? :=by
 simp only[bs,yX];by_cases h:i<s.size
 ·rw[getElem?_pos s i h,getElem?_pos s.data i h];rfl
 ·rw[getElem?_neg s i h,getElem?_neg s.data i h]
theorem JR {a b:cH}(h:bs a=bs b):a=b:=by
 cases a;cases b;simp[bs]at h;cases h;rfl
theorem JS (s:cH)(i j:Nat):bs (s.extract i j)=((bs s).take j).drop i:=by
 simp[bs,List.extract_eq_take_drop];rw[List.drop_take]
@[simp] theorem bs_mk (l:List UInt8):bs ⟨l.toArray⟩=l:=rfl
def EU (c:UInt8):Bool:=decide ((97:Int)<=c.toNat)&&decide ((c.toNat:Int)<=122)
def xZ (c:UInt8):Bool:=EU c|| (decide ((48:Int)<=c.toNat)&&decide ((c.toNat:Int)<=57))||decide ((c.toNat:Int)=45)
def r8 (l:List UInt8):Bool:=decide (1<=l.length)&&decide (l.length<=12)&&EU (l.headD 0)&&l.all xZ
def kH (s:cH):Bool:=r8 (bs s)
theorem OP (a b:cH):(a=b)=(bs a=bs b):=propext ⟨fun h=>by rw[h],JR⟩
def y7 (c:UInt8):Bool:=xZ c||decide ((c.toNat:Int)=47)
def xY (s:cH):Bool:=decide (1<=(bs s).length)&&decide ((bs s).length<=40)&&decide (((bs s).headD 0).toNat=47)&&(bs s).all y7
def B8 (l:List UInt8):Bool:=decide (2<=l.length)&&decide (l.take 2=[42,46])
def oV :List UInt8->List UInt8->Bool
 |p,[]=>r8 p
 |p,c::r=>if c=46 then r8 p&&oV [] r else oV (p++[c]) r
def zM (s:cH):Bool:=decide ((bs s).length<=40)&&(decide (bs s=[42])|| (B8 (bs s)&&oV [] ((bs s).drop 2))||oV [] (bs s))
def YN (s:cH):Bool:=decide ((bs s).length<=40)&&(decide (bs s=[42])||oV [] (if B8 (bs s)then(bs s).drop 2 else bs s))
theorem Zd {l:List UInt8}(h:B8 l=true):oV [] l=false:=by
 match l,h with
 |[],h=>simp[B8]at h
 |[_],h=>simp[B8]at h
 |a::b::r,h=>
  simp[B8]at h;obtain⟨rfl,rfl⟩:=h;simp[oV,r8,EU]
theorem zgq (s:cH):YN s=zM s:=by
 unfold YN zM;cases h:B8 (bs s)
 ·simp
 ·simp[Zd h]
def C0 (a b:cH):Int:=Lib.compareBytes (bs a) (bs b)
theorem Sn {s:cH}{k:Nat}{c:UInt8}(h:(bs s)[k]? =some c):∃hk:k<s.size,s[k]'hk=c:=by
 rw[<-zgS]at h;by_cases hk:k<s.size
 ·rw[getElem?_pos s k hk]at h;cases h;exact⟨hk,rfl⟩
 ·rw[getElem?_neg s k hk]at h;cases h
theorem Qz {s:cH}{k:Nat}{c:UInt8}(h:(bs s)[k]? =some c)(hc:c.toNat<128):Utf8.decode s k=(c.toNat,1):=by
 obtain⟨hk,rfl⟩:=Sn h;exact decode_ascii s k hk hc
theorem Rc {s:cH}{k:Nat}{c:UInt8}(h:(bs s)[k]? =some c)(hc:128<=c.toNat):128<=(Utf8.decode s k).1:=by
 obtain⟨hk,rfl⟩:=Sn h;exact(decode_high s k hk hc).1
theorem Ip {c:UInt8}(h:xZ c=true):c.toNat<128:=by
 simp[xZ,EU]at h;omega
def MD (c:Int):Bool:=decide (97<=c)&&decide (c<=122)
def L0 (c:Int):Bool:=MD c|| (decide (48<=c)&&decide (c<=57))||decide (c=45)
@[simp] theorem plainI_is (c:UInt8):L0 c.toNat=xZ c:=rfl
@[simp] theorem lowI_is (c:UInt8):MD c.toNat=EU c:=rfl
theorem Ic {n:Nat}(h:128<=n):L0 n=false:=by simp[L0,MD];omega
def cG (n m:Int):Bool:=decide (0<=n)&&decide (n<=m)
def xQ (x:gB):Bool:=decide (x.split.length<=4)&&x.split.all fun w=>cG w.w 100
def pE (r:aA):Bool:=cG r.cS 2147483647&&cG r.port 65535&&decide (r.rules.length<=8)&&decide (r.cT.length<=8)&&(r.cT.all fun h=>cG h 2147483647)&&r.rules.all xQ
def IZ (k:Int):Bool:=decide (k=0)
def tH (k:Int):Bool:=decide (k=0)||decide (k=2)
def ET (k:Int):Bool:=decide (k=1)
def I1 (k:Int):Bool:=decide (k=3)
def y8 (r:aA):Bool:=(decide (r.port=0)||IZ r.kind)&&(decide (bs r.to=[])||tH r.kind)&&(decide (r.rules.length=0)||ET r.kind)&&(decide (r.cT.length=0)||I1 r.kind)
def CE (x:gB):Bool:=zM x.host&&xY x.pre&&x.split.all fun w=>kH w.gI
def wN (r:aA):Bool:=(!tH r.kind||kH r.to)&&r.rules.all CE
def FJ (x:gB):Bool:=x.split.any fun w=>decide (0<w.w)
def D6 (x y:gB):Bool:=decide (x.host=y.host)&&decide (x.pre=y.pre)
def w8 {α:Type}(q:α->α->Bool):List α->List α->Bool
 |_,[]=>true
 |p,x::l=>!(p.any (q x))&&w8 q (p++[x]) l
def CA (r:aA):Bool:=r.rules.all FJ&&w8 D6 [] r.rules&&w8 (fun a b=>decide (a=b)) [] r.cT
def eL (r:aA):Int:=
 if cG r.kind 3=false then 4 else if kH r.name=false then 5 else if pE r=false then 3 else if y8 r=false then 2 else if wN r=false then 5 else if CA r=false then 2 else 0
def jH {α:Type}(p:α->Bool)(l:List α):Int:=match l.findIdx? p with
 |some i=>i
 |none=> -1
theorem yD {α:Type}{p:α->Bool}{l:List α}(h:∀x∈l,p x=false):jH p l= -1:=by
 have:l.findIdx? p=none:=by rw[List.findIdx?_eq_none_iff];exact h
 simp[jH,this]
theorem Qf {α:Type}{p:α->Bool}:∀{l:List α} {k:Nat} {x:α},(l.take k).all (fun x=>!p x)=true->l[k]? =some x->p x=true->l.findIdx? p=some k
 |[],k,x,_,h,_=>by simp at h
 |a::l,0,x,_,h,hp=>by
  simp at h;subst h;simp[KQ,hp]
 |a::l,k+1,x,h1,h2,hp=>by
  simp at h1 h2;have:=Qf (l:=l) (k:=k) (by simpa using h1.2) h2 hp;simp[KQ,h1.1,this]
theorem yE {α:Type}{p:α->Bool}{l:List α}{k:Nat}{x:α}(h1:(l.take k).all (fun x=>!p x)=true)(h2:l[k]? =some x)(hp:p x=true):jH p l=k:=by
 simp[jH,Qf h1 h2 hp]
theorem CU {α:Type}(p:α->Bool)(l:List α):decide (0<=jH p l)=l.any p:=by
 rw[DP,cP];unfold jH;cases h:l.findIdx? p with
 |none=>
  rw[List.findIdx?_eq_none_iff]at h;simp only[xK];constructor
  ·intro h;simp at h
  ·rintro⟨x,hx,hp⟩;rw[h x hx]at hp;cases hp
 |some i=>
  rw[List.findIdx?_eq_some_iff_getElem]at h;obtain⟨hi,hp,_⟩:=h;simp only[xK];exact⟨fun _=>⟨_,lU hi,hp⟩,fun _=>by simp⟩
def dY (a b:Key):Int:=if a.kind<b.kind then-1 else if b.kind<a.kind then 1 else C0 a.name b.name
def sB (k:Key):Bool->List Key->List Key
 |done,[]=>if done then []else [k]
 |done,x::l=>(if 0<=dY x k/\done=false then [k]else [])++(if dY x k=0 then []else [x])++sB k (done||decide (0<=dY x k)) l
def pQ (l:List Key)(k:Key):List Key:=sB k false l
theorem Rm :∀(a b:List UInt8),Lib.compareBytes a b= -1\/Lib.compareBytes a b=0\/Lib.compareBytes a b=1
 |[],[]=>by simp[Lib.compareBytes]
 |[],_::_=>by simp[Lib.compareBytes]
 |_::_,[]=>by simp[Lib.compareBytes]
 |a::l,b::m=>by
  simp only[Lib.compareBytes];split
  ·simp
  ·split
   ·simp
   ·exact Rm l m
theorem Rk :∀{a b:List UInt8},Lib.compareBytes a b=0↔a=b
 |[],[]=>by simp[Lib.compareBytes]
 |[],_::_=>by simp[Lib.compareBytes]
 |_::_,[]=>by simp[Lib.compareBytes]
 |a::l,b::m=>by
  simp only[Lib.compareBytes,List.cons.injEq];split
  ·rename_i h;simp;intro e;subst e;exact absurd h (UInt8.lt_irrefl _)
  ·split
   ·rename_i h;simp;intro e;subst e;exact absurd h (UInt8.lt_irrefl _)
   ·rename_i h1 h2;rw[Rk];have:a=b:=by
     simp only[UInt8.lt_iff_toNat_lt]at h1 h2;exact UInt8.toNat_inj.1 (by omega)
    simp[this]
theorem ziq {a b:cH}:C0 a b=0↔a=b:=by rw[C0,Rk,<-OP]
theorem G2 {a b:Key}:dY a b=0↔a=b:=by
 obtain⟨x,s⟩:=a;obtain⟨y,t⟩:=b;simp only[dY,Key.mk.injEq];split
 ·rename_i h;simp;intro e;omega
 ·split
  ·rename_i h;simp;intro e;omega
  ·rw[ziq];have:x=y:=by omega
   simp[this]
theorem G3 (a b:Key):dY a b= -1\/dY a b=0\/dY a b=1:=by
 unfold dY;split
 ·simp
 ·split
  ·simp
  ·exact Rm _ _
theorem Nu {p:Prop} [Decidable p](y:Key):(if p then []else [y]).length<=1:=by split<;>simp
theorem WD (k:Key):∀(l:List Key),(sB k true l).length<=l.length
 |[]=>by simp[sB]
 |y::l=>by
  have h1:=WD k l;have h2:=Nu (p:=dY y k=0) y;simp only[sB,dQ,kE,Bool.true_or,Bool.true_eq_false,and_false,gY,l7];omega
theorem He (k:Key):∀(d:Bool) (l:List Key),(sB k d l).length<=l.length+1
 |true,l=>Nat.le_succ_of_le (WD k l)
 |false,[]=>by simp[sB]
 |false,x::l=>by
  have h1:=He k false l;have h2:=WD k l;have h3:=Nu (p:=dY x k=0) x;simp only[sB,dQ,kE,HM,and_true];by_cases hc:0<=dY x k
  ·simp only[hc,yT,eA,kE,l7];omega
  ·simp only[hc,DH,gY,l7];omega
def EE (out:List Key)(w:Weight):List Key:=if 0<w.w then pQ out ⟨2,w.gI⟩else out
def wJ (r:aA):List Key:=if tH r.kind then [⟨r.kind+1,r.to⟩]else []
def eT (r:aA):List Key:=if eL r=0 then(r.rules.flatMap (·.split)).foldl EE (wJ r)else []
theorem zcn (out:List Key)(w:Weight):(EE out w).length<=out.length+1:=by
 unfold EE;split
 ·exact He _ _ _
 ·omega
theorem zA {r:aA}(h:eL r=0):cG r.kind 3=true/\kH r.name=true/\pE r=true/\y8 r=true/\wN r=true/\CA r=true:=by
 unfold eL at h
 (repeat' split at h)<;>simp_all
theorem Lm {s:cH}(h:kH s=true):(bs s).length<=12:=by
 simp[kH,r8]at h;exact h.1.1.2
theorem Py :∀(l:List Weight) (o:List Key),(l.foldl EE o).length<=o.length+l.length
 |[],o=>by simp
 |w::l,o=>by
  have h1:=Py l (EE o w);have h2:=zcn o w;simp only[rR,kE];omega
theorem Y8 :∀{l:List gB},(∀x∈l,x.split.length<=4)->(l.flatMap (·.split)).length<=4*l.length
 |[],_=>by simp
 |x::l,h=>by
  have h1:=Y8 (l:=l) (fun y hy=>h y (by simp[hy]));have h2:=h x (by simp);simp only[UD,dQ,kE];omega
def PJ (r:aA)(k:Nat):List Key:=((r.rules.take k).flatMap (·.split)).foldl EE (wJ r)
theorem zcq (r:aA):(wJ r).length<=1:=by unfold wJ;split<;>simp
theorem zcp {r:aA}(k:Nat)(h1:r.rules.length<=8)(h:∀x∈r.rules,x.split.length<=4):(PJ r k).length<=33:=by
 have h2:=Py ((r.rules.take k).flatMap (·.split)) (wJ r);have h3:=zcq r;have h4:=Y8 (l:=r.rules.take k) (fun x hx=>h x (rP hx));have h5:(r.rules.take k).length<=8:=fV (by simp;omega) h1;unfold PJ;omega
theorem zco {r:aA}(h:eL r=0):eT r=PJ r r.rules.length:=by simp[eT,PJ,h]
def yH (x:gB):Bool:=decide (x.split.length<=20)&&decide ((bs x.host).length<=100)&&decide ((bs x.pre).length<=100)
def zR (r:aA):Bool:=r.rules.all yH&&decide (r.rules.length<=20)&&decide (r.cT.length<=20)&&decide ((bs r.name).length<=100)&&decide ((bs r.to).length<=100)
abbrev nB (s:cH):Prop:=(bs s).length<=9223372036854775807
structure zX (r:aA):Prop where
 name:nB r.name
 to:nB r.to
 rules:r.rules.length<=9223372036854775807
 split:∀x∈r.rules,x.split.length<=9223372036854775807
 cT:r.cT.length<=9223372036854775807
structure dK (l:List aA):Prop where
 len:l.length<=9223372036854775807
 all:∀r∈l,zX r
def jE :aA:=⟨0,⟨#[]⟩,0,0,⟨#[]⟩,[],[]⟩
def j5 (a b:aA):Bool:=decide (a.kind=b.kind)&&decide (a.name=b.name)&&decide (a.port=b.port)&&decide (a.to=b.to)&&decide (a.cT=b.cT)&&decide (a.rules=b.rules)
theorem Te (a b:aA):(j5 a b&&decide (a.cS=b.cS))=decide (a=b):=by
 rw[DP];obtain⟨a1,a2,a3,a4,a5,a6,a7⟩:=a;obtain⟨b1,b2,b3,b4,b5,b6,b7⟩:=b;simp[j5];constructor
 ·rintro⟨⟨⟨⟨⟨⟨h1,h2⟩,h3⟩,h4⟩,h5⟩,h6⟩,h7⟩;exact⟨h1,h2,h7,h3,h4,h6,h5⟩
 ·rintro⟨h1,h2,h7,h3,h4,h6,h5⟩;exact⟨⟨⟨⟨⟨⟨h1,h2⟩,h3⟩,h4⟩,h5⟩,h6⟩,h7⟩
def yI (l:List aA):Bool:=l.all zR&&decide (l.length<=80)
def aS (l:List aA)(k:Key):Option aA:=l.find? fun r=>decide (r.key=k)
abbrev Pp (l:List aA)(k:Key):AV:=.bI [st (aK ((aS l k).getD jE)),bool (aS l k).isSome]
abbrev tE (l:List aA)(k:Key)(c:Int):List aA:=l.filter fun r=>decide (dY r.key k=c)
abbrev nN (l:List aA)(r:aA):List aA:=tE l r.key (-1)++[r]++tE l r.key 1
abbrev tW (l:List aA)(k:Key):List aA:=l.filter fun r=>!decide (r.key=k)
def cD (l aD:List aA)(gone:List Key):List aA:=aD.foldl nN (gone.foldl tW l)
abbrev uA (l:List aA)(k:Key):List Key:=(l.filter fun r=>decide (k∈eT r)).map aA.key
theorem JA (a b:Key):(decide (a.kind=b.kind)&&decide (a.name=b.name))=decide (a=b):=by
 obtain⟨p,q⟩:=a;obtain⟨u,v⟩:=b;simp[Key.mk.injEq]
theorem Bk (l:List aA)(r:aA):(nN l r).length<=l.length+1:=by
 have h:∀l:List aA,(tE l r.key (-1)).length+(tE l r.key 1).length<=l.length:=by
  intro l;induction l with
  |nil=>simp
  |cons a l ih=>
   simp only[tE,yW]at ih⊢;by_cases h1:dY a.key r.key= -1
   ·have h2:¬dY a.key r.key=1:=by omega
    simp[h1]at ih⊢;omega
   ·by_cases h2:dY a.key r.key=1
    ·simp[h2]at ih⊢;omega
    ·simp[h1,h2]at ih⊢;omega
 have:=h l;simp only[nN,dQ,kE,l7];omega
theorem Ui (l:List aA)(k:Key):(tW l k).length<=l.length:=kS _ _
theorem R8 :∀(g:List Key) (l:List aA),(g.foldl tW l).length<=l.length
 |[],l=>by simp
 |k::g,l=>fV (R8 g _) (Ui l k)
theorem R9 :∀(a l:List aA),(a.foldl nN l).length<=l.length+a.length
 |[],l=>by simp
 |r::a,l=>by
  have h1:=R9 a (nN l r);have h2:=Bk l r;simp only[rR,kE];omega
theorem ZC {α:Type}{p:α->Bool}{l:List α}(h:l.all (fun x=>!p x)=true):l.find? p=none:=by
 rw[xJ];intro x hx;have:=eF.1 h x hx;simpa using this
theorem SC {α:Type}{p:α->Bool}:∀{l:List α} {k:Nat} {x:α},(l.take k).all (fun x=>!p x)=true->l[k]? =some x->p x=true->l.find? p=some x
 |[],k,x,_,h,_=>by simp at h
 |a::l,0,x,_,h,hp=>by simp at h;subst h;simp[oL,hp]
 |a::l,k+1,x,h1,h2,hp=>by
  simp at h1 h2;have:=SC (l:=l) (k:=k) (by simpa using h1.2) h2 hp;simp[oL,h1.1,this]
theorem Nt (a b:Key):(!decide (a.kind=b.kind)|| !decide (a.name=b.name))= !decide (a=b):=by rw[<-JA,Bool.not_and]
theorem IH (r:aA):(eT r).length<=33:=by
 by_cases h:eL r=0
 ·rw[zco h];have hs:=(zA h).2.2.1;simp only[pE,bN,cP,eF]at hs;refine zcp _ hs.1.1.1.2 (fun x hx=>?_);have:=hs.2 x hx;simp only[xQ,bN,cP]at this;exact this.1
 ·simp[eT,h]
theorem zcm (r:aA):(eT r).length<=9223372036854775807:=fV (IH r) (by omega)
@[simp] theorem lenAll_keyc {α:Type}(g:α->Key)(l:List α):jV (l.map (bP∘g)) 2=True:=vG (f:=bP∘g) (n:=2) (fun _=>rfl) l
structure jB (f:Frame):Prop where
 aD:dK f.aD
 gone:f.gone.length<=9223372036854775807
 bF:f.bF.length<=9223372036854775807
 held:f.held.length<=9223372036854775807
structure Tx (v:View):Prop where
 bF:dK v.bF
 held:v.held.length<=9223372036854775807
 push:jB v.push
def fQ :Frame:=⟨0,0,0,0,0,[],[],0,[],[]⟩
def lK (v:View)(f:Frame):View:={v with push:=f,open_:=true}
def eE (v:View)(t:Int)(h:List Key):View:=if v.aL<t then{v with aL:=t,held:=h}else v
def pZ (v:View)(f:Frame):Bool:=decide (f.type=2)&&decide (f.aF=v.push.aF)&&decide (f.kind=v.push.kind)&&decide (f.cY=v.push.cY)
def j4 (v:View)(f:Frame):View:=
 if v.open_=false then v else if pZ v f=false then v
 else{eE ⟨v.bF,v.held,v.aL,fQ,false⟩ f.aL f.held with bF:=if f.err=0 then cD v.bF v.push.aD v.push.gone else v.bF}
def G6 (v:View)(f:Frame):Int:=if v.open_=false then 15 else if pZ v f=false then 11 else f.err
theorem zfp (a b:Mark):(decide (a.k.kind=b.k.kind)&&decide (a.k.name=b.k.name)&&decide (a.cS=b.cS))=decide (a=b):=by
 obtain⟨⟨p,q⟩,r⟩:=a;obtain⟨⟨u,v⟩,w⟩:=b;simp[Mark.mk.injEq,Key.mk.injEq]
@[simp] theorem drain_have (v:View)(t:Int)(h:List Key):(eE v t h).bF=v.bF:=by unfold eE;split<;>rfl
@[simp] theorem zhS (v:View)(t:Int)(h:List Key):(eE v t h).push=v.push:=by unfold eE;split<;>rfl
@[simp] theorem drain_open (v:View)(t:Int)(h:List Key):(eE v t h).open_=v.open_:=by unfold eE;split<;>rfl
theorem JM {α:Type}(p:α->Bool)(l:List α):(jH p l= -1/\l.find? p=none)\/∃(i:Nat) (x:α),jH p l=i/\i<l.length/\l[i]? =some x/\l.find? p=some x:=by
 induction l with
 |nil=>left;simp[jH]
 |cons a l ih=>
  by_cases h:p a=true
  ·right;exact⟨0,a,by simp[jH,KQ,h],by simp,by simp,by simp[h]⟩
  ·have h':p a=false:=by simpa using h
   rcases ih with⟨h1,h2⟩|⟨i,x,h1,h2,h3,h4⟩
   ·left;refine⟨?_,by simp[h',h2]⟩;unfold jH at h1⊢;simp only[KQ,h'];cases hf:l.findIdx? p with
    |none=>simp
    |some j=>rw[hf]at h1;simp at h1<;>omega
   ·right;refine⟨i+1,x,?_,by simp;omega,by simpa using h3,by simp[h',h4]⟩;unfold jH at h1⊢;simp only[KQ,h'];cases hf:l.findIdx? p with
    |none=>rw[hf]at h1;simp at h1<;>omega
    |some j=>rw[hf]at h1;simp at h1⊢;omega
variable {α : Type}
structure p9 (p:α->Bool)(l:List α)(j i:Nat)(cur:List α):Prop where
 len:cur.length=l.length
 lt:i<j
 le:j<=l.length
 pre:cur.take i=(l.take j).filter fun x=>!p x
 DW:cur.drop j=l.drop j
theorem p9.start {p:α->Bool}{l:List α}{i:Nat}{x:α}(h:jH p l=i)(hi:i<l.length):p9 p l (i+1) i l:=by
 have key:∀(l:List α) (i:Nat),jH p l=i->i<l.length->l.take i=(l.take (i+1)).filter fun x=>!p x:=by
  intro l;induction l with
  |nil=>intro i h hi;simp at hi
  |cons a l ih=>
   intro i h hi;unfold jH at h;by_cases ha:p a=true
   ·simp only[KQ,ha,eA]at h;have:i=0:=by omega
    subst this;simp[ha]
   ·have ha':p a=false:=by simpa using ha
    simp only[KQ,ha']at h;cases hf:l.findIdx? p with
    |none=>rw[hf]at h;simp at h<;>omega
    |some q=>
     rw[hf]at h;have e:i=q+1:=by simp at h;omega
     subst e;have:=ih q (by simp[jH,hf]) (by simpa using hi);simp[ha',this]
 exact⟨rfl,by omega,by omega,key l i h hi,rfl⟩
theorem p9.get {p:α->Bool}{l:List α}{j i:Nat}{cur:List α}(h:p9 p l j i cur){v:α}(hv:l[j]? =some v):cur[j]? =some v:=by
 have h1:(cur.drop j)[0]? =(l.drop j)[0]? :=by rw[h.DW]
 simpa[hv]using h1
theorem p9.del {p:α->Bool}{l:List α}{j i:Nat}{cur:List α}(h:p9 p l j i cur){v:α}(hv:l[j]? =some v)(hp:p v=true):p9 p l (j+1) i cur:=by
 have hj:j<l.length:=(cC.1 hv).1;refine⟨h.len,by have:=h.lt;omega,by omega,?_,?_⟩
 ·rw[h.pre,nZ,hv];simp[hp]
 ·have:=dH (List.drop 1) h.DW
  rwa[AD,AD]at this
theorem p9.keep {p:α->Bool}{l:List α}{j i:Nat}{cur:List α}(h:p9 p l j i cur){v:α}(hv:l[j]? =some v)(hp:p v=false):p9 p l (j+1) (i+1) (cur.set i v):=by
 have hj:j<l.length:=(cC.1 hv).1;have hlt:=h.lt;have hlen:=h.len;refine⟨by simp[hlen],by omega,by omega,?_,?_⟩
 ·rw[nZ (l:=l),hv];have:(cur.set i v).take (i+1)=cur.take i++[v]:=by
   rw[nZ];have h1:(cur.set i v)[i]? =some v:=by simp[show i<cur.length by omega]
   rw[h1,List.take_set_of_le (cM i)];rfl
  rw[this,h.pre];simp[hp]
 ·rw[List.drop_set_of_lt (by omega)];have:=dH (List.drop 1) h.DW
  rwa[AD,AD]at this
theorem p9.done {p:α->Bool}{l:List α}{i:Nat}{cur:List α}(h:p9 p l l.length i cur):cur.take i=l.filter fun x=>!p x:=by
 rw[h.pre,fA]
end Go.G
namespace Go.G
open Go.AI Go.Sort
def ltOf (cf:Key->Key->Int)(x y:Key):Bool:=decide (cf x y<0)
theorem compare_swap :∀(a b:List UInt8),Lib.compareBytes b a= -Lib.compareBytes a b
 |[],[]=>by simp[Lib.compareBytes]
 |[],_::_=>by simp[Lib.compareBytes]
 |_::_,[]=>by simp[Lib.compareBytes]
 |a::l,b::m=>by
  simp only[Lib.compareBytes,UInt8.lt_iff_toNat_lt];by_cases h1:a.toNat<b.toNat
  ·have h2:¬b.toNat<a.toNat:=by omega
   simp[h1,h2]
  ·by_cases h2:b.toNat<a.toNat
   ·simp[h1,h2]
   ·simp[h1,h2];exact compare_swap l m
theorem Rl :∀{a b c:List UInt8},Lib.compareBytes a b= -1->Lib.compareBytes b c= -1->Lib.compareBytes a c= -1
 |[],[],_,h,_=>by simp[Lib.compareBytes]at h
 |[],_::_,[],_,h=>by simp[Lib.compareBytes]at h
 |[],_::_,_::_,_,_=>by simp[Lib.compareBytes]
 |_::_,[],_,h,_=>by simp[Lib.compareBytes]at h
 |_::_,_::_,[],_,h=>by simp[Lib.compareBytes]at h
 |a::l,b::m,c::n,h1,h2=>by
  simp only[Lib.compareBytes,UInt8.lt_iff_toNat_lt]at h1 h2⊢;by_cases p1:a.toNat<b.toNat
  ·by_cases p2:b.toNat<c.toNat
   ·simp[show a.toNat<c.toNat by omega]
   ·by_cases p3:c.toNat<b.toNat
    ·simp[p2,p3]at h2
    ·simp[show a.toNat<c.toNat by omega]
  ·by_cases p1':b.toNat<a.toNat
   ·simp[p1,p1']at h1
   ·by_cases p2:b.toNat<c.toNat
    ·simp[show a.toNat<c.toNat by omega]
    ·by_cases p3:c.toNat<b.toNat
     ·simp[p2,p3]at h2
     ·have q1:¬a.toNat<c.toNat:=by omega
      have q2:¬c.toNat<a.toNat:=by omega
      simp only[p1,p1',p2,p3,q1,q2,gY]at h1 h2⊢;exact Rl h1 h2
theorem M8 (a b:Key):dY b a= -dY a b:=by
 unfold dY;by_cases h1:a.kind<b.kind
 ·have h2:¬b.kind<a.kind:=by omega
  simp[h1,h2]
 ·by_cases h2:b.kind<a.kind
  ·simp[h1,h2]
  ·simp[h1,h2,C0];exact compare_swap _ _
theorem C1 {a b c:Key}(h1:dY a b= -1)(h2:dY b c= -1):dY a c= -1:=by
 unfold dY at*;by_cases p1:a.kind<b.kind
 ·by_cases p2:b.kind<c.kind
  ·simp[show a.kind<c.kind by omega]
  ·by_cases p3:c.kind<b.kind
   ·simp[p2,p3]at h2
   ·simp[show a.kind<c.kind by omega]
 ·by_cases p1':b.kind<a.kind
  ·simp[p1,p1']at h1
  ·by_cases p2:b.kind<c.kind
   ·simp[show a.kind<c.kind by omega]
   ·by_cases p3:c.kind<b.kind
    ·simp[p2,p3]at h2
    ·have q1:¬a.kind<c.kind:=by omega
     have q2:¬c.kind<a.kind:=by omega
     simp only[p1,p1',p2,p3,q1,q2,gY]at h1 h2⊢;exact Rl h1 h2
theorem C2 (a:Key):dY a a=0:=G2.2 rfl
theorem zis (a b:Key):(dY a b<0)↔dY a b= -1:=by
 have:=G3 a b;omega
theorem MC (a b:Key):ltOf dY a b=decide (dY a b= -1):=by
 unfold ltOf;rw[DP];simp[zis]
theorem zfr {a b:Key}(h1:ltOf dY a b=false)(h2:ltOf dY b a=false):a=b:=by
 rw[MC]at h1 h2;have e:=M8 a b;have r:=G3 a b;simp at h1 h2;exact G2.1 (by omega)
theorem OO :SWO (ltOf dY) where
 irrefl x:=by rw[MC,C2];simp
 trans x y z h1 h2:=by
  rw[MC]at*;simp at*;exact C1 h1 h2
 ntrans x y z h1 h2:=by
  cases h:ltOf dY x z
  ·rfl
  ·exfalso;rw[MC]at*;simp at*;rcases G3 y x with a|a|a
   ·have:=C1 a h;exact h2 this
   ·have e:=G2.1 a;subst e;exact h2 h
   ·have:=M8 y x;omega
def uX (l:List Key):List Key:=l.mergeSort fun x y=>!(ltOf dY) y x
theorem LH (l:List Key):(uX l).length=l.length:=List.length_mergeSort l
theorem Ma {l:List Key}{k:Key}:k∈uX l↔k∈l:=List.mem_mergeSort
theorem zfA (l:List Key):(uX l).Pairwise fun x y=>(!(ltOf dY) y x)=true:=by
 refine List.pairwise_mergeSort (le:=fun x y=>!(ltOf dY) y x) ?_ ?_ l
 ·intro a b c h1 h2;simp only[pN]at*;exact OO.ntrans _ _ _ h2 h1
 ·intro a b;cases h:ltOf dY b a
  ·simp
  ·cases h2:ltOf dY a b
   ·simp
   ·have:=OO.trans _ _ _ h h2;rw[OO.irrefl]at this;cases this
def jC (l:List Key):Prop:=l.Pairwise fun x y=>dY x y= -1
theorem NF :∀{a b:List Key},jC a->jC b->(∀k,k∈a↔k∈b)->a=b
 |[],[],_,_,_=>rfl
 |[],y::b,_,_,h=>by have:=(h y).2 (by simp);simp at this
 |x::a,[],_,_,h=>by have:=(h x).1 (by simp);simp at this
 |x::a,y::b,ha,hb,h=>by
  obtain⟨hx,ha'⟩:=AA.1 ha;obtain⟨hy,hb'⟩:=AA.1 hb;have irr:∀z:Key,¬dY z z= -1:=fun z=>by rw[C2];decide
  have e:x=y:=by
   rcases kN.1 ((h x).1 (by simp))with e|e
   ·exact e
   ·rcases kN.1 ((h y).2 (by simp))with e'|e'
    ·exact e'.symm
    ·exact absurd (C1 (hx y e') (hy x e)) (irr x)
  subst e;congr 1
  refine NF ha' hb' fun k=>?_;constructor
  ·intro hk;rcases kN.1 ((h k).1 (by simp[hk]))with e|e
   ·subst e;exact absurd (hx _ hk) (irr _)
   ·exact e
  ·intro hk;rcases kN.1 ((h k).2 (by simp[hk]))with e|e
   ·subst e;exact absurd (hy _ hk) (irr _)
   ·exact e
def qQ (p:Option Key):List Key->List Key
 |[]=>[]
 |x::l=>(if p=some x then []else [x])++qQ (some x) l
def oZ (l:List Key):List Key:=qQ none l
def GJ (p:Option Key)(l:List Key):Option Key:=match l.getLast? with
 |some x=>some x
 |none=>p
theorem Ro (x:Key):∀(l:List Key) (p:Option Key),qQ p (l++[x])=qQ p l++(if GJ p l=some x then []else [x])
 |[],p=>by by_cases h:p=some x<;>simp[qQ,GJ,h]
 |y::l,p=>by
  simp only[BY,qQ];rw[Ro x l (some y)];have:GJ (some y) l=GJ p (y::l):=by
   unfold GJ;rw[List.getLast?_cons];cases l.getLast? <;>simp
  rw[this];simp
theorem Mh {k:Key}:∀{l:List Key} {p:Option Key},k∈qQ p l->k∈l
 |[],p,h=>by simp[qQ]at h
 |x::l,p,h=>by
  simp only[qQ,dN]at h;rcases h with h|h
  ·split at h<;>simp at h;subst h;simp
  ·simp[Mh h]
theorem Mf {k:Key}:∀{l:List Key} {p:Option Key},k∈l->k∈qQ p l\/p=some k
 |[],p,h=>by simp at h
 |x::l,p,h=>by
  simp only[qQ,dN];rcases kN.1 h with e|e
  ·subst e;by_cases hp:p=some k
   ·exact .inr hp
   ·simp[hp]
  ·rcases Mf (p:=some x) e with h|h
   ·exact .inl (.inr h)
   ·by_cases hp:p=some x
    ·exact .inr (by rw[hp,h])
    ·have:x=k:=lT h;exact .inl (.inl (by rw[this]at hp;simp[hp,this]))
theorem Me {k:Key}{l:List Key}:k∈oZ l↔k∈l:=
 ⟨Mh,fun h=>(Mf (p:=none) h).resolve_right (by simp)⟩
theorem Sq :∀{l:List Key} {p:Option Key},l.Pairwise (fun x y=>(!(ltOf dY) y x)=true)->jC (qQ p l)/\∀q,p=some q->(∀x∈l,(!(ltOf dY) x q)=true)->∀x∈qQ p l,dY q x= -1
 |[],p,_=>⟨by simp[qQ,jC],fun q _ _ x h=>by simp[qQ]at h⟩
 |x::l,p,h=>by
  obtain⟨hx,hl⟩:=AA.1 h;obtain⟨h1,h2⟩:=Sq (p:=some x) hl;have h3:=h2 x rfl hx;refine⟨?_,fun q hq hlq y hy=>?_⟩
  ·simp only[qQ];split
   ·simpa using h1
   ·exact AA.2 ⟨h3,h1⟩
  ·simp only[qQ,dN]at hy;have lt:∀z,(!(ltOf dY) z q)=true->z≠q->dY q z= -1:=fun z hz hne=>by
    rw[MC]at hz;simp at hz;rcases G3 q z with a|a|a
    ·exact a
    ·exact absurd (G2.1 a).symm hne
    ·have:=M8 q z;omega
   rcases hy with hy|hy
   ·split at hy
    ·simp at hy
    ·rename_i hne;simp at hy;subst hy;exact lt _ (hlq _ (by simp)) (fun e=>hne (by rw[hq,e]))
   ·by_cases e:x=q
    ·rw[<-e];exact h3 y hy
    ·exact C1 (lt x (hlq x (by simp)) e) (h3 y hy)
theorem Sr (l:List Key):jC (oZ (uX l)):=(Sq (zfA l)).1
theorem WC (k:Key):∀{l:List Key},jC l->(∀x∈l,dY k x= -1)->sB k true l=l
 |[],_,_=>by simp[sB]
 |x::l,h,hk=>by
  obtain⟨_,hl⟩:=AA.1 h;have h0:¬dY x k=0:=by
   intro e;have:=hk x (by simp);rw[G2.1 e,C2]at this;omega
  have:=WC k hl (fun y hy=>hk y (by simp[hy]));simp[sB,h0,this]
theorem Hd (k:Key):∀{l:List Key},jC l->jC (pQ l k)/\∀x,x∈pQ l k↔x=k\/x∈l
 |[],_=>by simp[pQ,sB,jC]
 |x::l,h=>by
  obtain⟨hx,hl⟩:=AA.1 h;obtain⟨h1,h2⟩:=Hd k hl;rcases G3 x k with a|a|a
  ·have e:pQ (x::l) k=x::pQ l k:=by simp[pQ,sB,a]
   rw[e];refine⟨AA.2 ⟨fun y hy=>?_,h1⟩,fun y=>?_⟩
   ·rcases(h2 y).1 hy with e|e
    ·rw[e];exact a
    ·exact hx y e
   ·simp only[kN,h2];constructor
    ·rintro(h|h|h)<;>simp[h]
    ·rintro(h|h|h)<;>simp[h]
  ·have e:=G2.1 a;subst e;have:sB x true l=l:=WC x hl hx;have e:pQ (x::l) x=x::l:=by simp[pQ,sB,C2,this]
   rw[e];exact⟨h,fun y=>by simp⟩
  ·have b:dY k x= -1:=by have:=M8 x k;omega
   have:sB k true l=l:=WC k hl (fun y hy=>C1 b (hx y hy));have e:pQ (x::l) k=k::x::l:=by simp[pQ,sB,a,this]
   rw[e];refine⟨AA.2 ⟨fun y hy=>?_,h⟩,fun y=>by simp⟩;rcases kN.1 hy with e|e
   ·rw[e];exact b
   ·exact C1 b (hx y e)
theorem zQ :∀(l:List Key) {o:List Key},jC o->jC (l.foldl pQ o)/\∀x,x∈l.foldl pQ o↔x∈o\/x∈l
 |[],o,h=>⟨h,fun x=>by simp⟩
 |k::l,o,h=>by
  obtain⟨h1,h2⟩:=Hd k h;obtain⟨h3,h4⟩:=zQ l h1;refine⟨h3,fun x=>?_⟩;rw[rR,h4,h2];simp only[kN];constructor
  ·rintro((h|h)|h)<;>simp[h]
  ·rintro(h|h|h)<;>simp[h]
theorem ZU (l:List Key):oZ (uX l)=l.foldl pQ []:=by
 obtain⟨h1,h2⟩:=zQ l (o:=[]) (by simp[jC]);refine NF (Sr l) h1 fun k=>?_;rw[Me,Ma,h2];simp
theorem zik {l m:List Key}(hm:jC m)(h:∀k,k∈m↔k∈l):oZ (uX l)=m:=
 NF (Sr l) hm fun k=>by rw[Me,Ma,h]
end Go.G
namespace Go.G
abbrev toKey (w:Weight):Key:=⟨2,w.gI⟩
theorem Y7 :∀(l:List Weight) (o:List Key),l.foldl EE o=((l.filter fun w=>decide (0<w.w)).map toKey).foldl pQ o
 |[],o=>rfl
 |w::l,o=>by
  rw[rR,Y7 l];by_cases h:0<w.w<;>simp[EE,h]
def pT (r:aA)(k:Nat):List Key:=(if bs r.to=[]then []else [⟨r.kind+1,r.to⟩])++(((r.rules.take k).flatMap (·.split)).filter fun w=>decide (0<w.w)).map toKey
theorem WU {r:aA}(h:eL r=0):oZ (uX (pT r r.rules.length))=eT r:=by
 obtain⟨_,_,_,h4,h5,_⟩:=zA h;have e0:(if bs r.to=[]then([]:List Key)else [⟨r.kind+1,r.to⟩])=wJ r:=by
  unfold wJ;by_cases ht:tH r.kind=true
  ·have hn:kH r.to=true:=by simp[wN,ht]at h5;exact h5.1
   have:¬bs r.to=[]:=by intro e;simp[kH,r8,e]at hn
   rw[aH this,aU ht]
  ·have:bs r.to=[]:=by simp[y8,ht]at h4;exact h4.1.1.2
   rw[aU this,aH ht]
 have e1:eT r=(((r.rules.flatMap (·.split)).filter fun w=>decide (0<w.w)).map toKey).foldl pQ (wJ r):=by
  rw[eT,aU h,Y7]
 have h0:jC (wJ r):=by unfold wJ;split<;>simp[jC]
 obtain⟨h1,h2⟩:=zQ (((r.rules.flatMap (fun x:gB=>x.split)).filter fun w:Weight=>decide (0<w.w)).map toKey) h0;rw[e1];refine zik h1 fun k=>?_;rw[h2,pT,e0,fA,dN]
def lY (l:List aA)(k:Key):Bool:=!(aS l k).isSome
def uB (l all:List aA):List Key:=(l.flatMap eT).filter (lY all)
def wO (l:List aA):List Key:=(uB l l).foldl pQ []
theorem Ix (r:aA):pT r 0=if bs r.to=[]then []else [⟨r.kind+1,r.to⟩]:=by simp[pT]
theorem zdv {r:aA}{k:Nat}{x:gB}(h:r.rules.take (k+1)=r.rules.take k++[x]):pT r (k+1)=pT r k++(x.split.filter fun w=>decide (0<w.w)).map toKey:=by
 simp[pT,h,List.flatMap_append,v7]
theorem Iy {r:aA}(k:Nat)(h1:r.rules.length<=8)(h:∀x∈r.rules,x.split.length<=4):(pT r k).length<=33:=by
 have h4:=Y8 (l:=r.rules.take k) (fun x hx=>h x (rP hx));have h5:(r.rules.take k).length<=8:=fV (by simp;omega) h1;have h6:=kS (fun w:Weight=>decide (0<w.w)) ((r.rules.take k).flatMap (·.split));simp only[pT,dQ,vZ];split<;>simp<;>omega
structure sR (l:List Key)(j i:Nat)(cur:List Key):Prop where
 len:cur.length=l.length
 lt:i<j
 le:j<=l.length
 pre:cur.take i=oZ (l.take j)
 DW:cur.drop (j-1)=l.drop (j-1)
theorem zfM {l:List Key}{j:Nat}{q:Key}(h0:0<j)(hq:l[j-1]? =some q):GJ none (l.take j)=some q:=by
 unfold GJ;have hj:j-1<l.length:=(cC.1 hq).1;have:(l.take j).getLast? =some q:=by
  rw[HJ,yV,HK];rw[aU (by omega),show min j l.length-1=j-1 by omega];exact hq
 rw[this]
theorem SS {l:List Key}{j:Nat}{v q:Key}(h0:0<j)(hq:l[j-1]? =some q)(hv:l[j]? =some v):oZ (l.take (j+1))=oZ (l.take j)++(if q=v then []else [v]):=by
 rw[nZ,hv];show qQ none (l.take j++[v])=_;rw[Ro,zfM h0 hq];simp[oZ]
theorem sR.get {l:List Key}{j i:Nat}{cur:List Key}(h:sR l j i cur){v:Key}(hv:l[j]? =some v):cur[j]? =some v:=by
 have h1:(cur.drop (j-1))[1]? =(l.drop (j-1))[1]? :=by rw[h.DW]
 have:=h.lt;rw[rQ,rQ,show j-1+1=j by omega]at h1;rw[h1,hv]
theorem sR.get' {l:List Key}{j i:Nat}{cur:List Key}(h:sR l j i cur){v:Key}(hv:l[j-1]? =some v):cur[j-1]? =some v:=by
 have h1:(cur.drop (j-1))[0]? =(l.drop (j-1))[0]? :=by rw[h.DW]
 rw[rQ,rQ]at h1;simpa[hv]using h1
theorem sR.start {l:List Key}{j:Nat}{q:Key}(h0:0<j)(hp:oZ (l.take j)=l.take j)(h1:l[j-1]? =some q)(h2:l[j]? =some q):sR l (j+1) j l:=
 ⟨rfl,by omega,by have:=(cC.1 h2).1;omega,by rw[SS h0 h1 h2,hp];simp,rfl⟩
theorem sR.same {l:List Key}{j i:Nat}{cur:List Key}(h:sR l j i cur){v:Key}(hv:l[j]? =some v)(hq:l[j-1]? =some v):sR l (j+1) i cur:=by
 have hj:j<l.length:=(cC.1 hv).1;have:=h.lt;refine⟨h.len,by omega,by omega,by rw[SS (by omega) hq hv,h.pre];simp,?_⟩;have:=dH (List.drop 1) h.DW;rw[AD,AD,show j-1+1=j by omega]at this;simpa using this
theorem sR.keep {l:List Key}{j i:Nat}{cur:List Key}(h:sR l j i cur){v q:Key}(hv:l[j]? =some v)(hq:l[j-1]? =some q)(hne:¬q=v):sR l (j+1) (i+1) (cur.set i v):=by
 have hj:j<l.length:=(cC.1 hv).1;have hlt:=h.lt;have hlen:=h.len;refine⟨by simp[hlen],by omega,by omega,?_,?_⟩
 ·rw[SS (by omega) hq hv,aH hne,<-h.pre];have h1:(cur.set i v)[i]? =some v:=by simp[show i<cur.length by omega]
  rw[nZ,h1,List.take_set_of_le (cM i)];rfl
 ·rw[List.drop_set_of_lt (by omega)];have:=dH (List.drop 1) h.DW;rw[AD,AD,show j-1+1=j by omega]at this;simpa using this
theorem sR.done {l:List Key}{i:Nat}{cur:List Key}(h:sR l l.length i cur):cur.take i=oZ l:=by
 rw[h.pre,fA]
theorem zim (l:List Key):oZ (l.take (0+1))=l.take (0+1):=by cases l<;>simp[oZ,qQ]
theorem zil {l:List Key}(h:(l.length:Int)<2):oZ l=l:=by
 match l,h with
 |[],_=>rfl
 |[_],_=>rfl
 |_::_::_,h=>simp at h;omega
theorem Ws {r:aA}(h:y8 r=true)(ht:¬bs r.to=[]):r.rules=[]:=by
 simp only[y8,bN,rT,cP]at h;have h2:=h.1.1.2.resolve_left ht;simp only[tH,rT,cP]at h2;rcases h.1.2 with h3|h3
 ·exact jL h3
 ·simp only[ET,cP]at h3;omega
theorem kK {l:List aA}{k:Key}{r:aA}(h:aS l k=some r):r.key=k:=by
 have:=KR h;simpa using this
theorem gV {l:List aA}{k:Key}{r:aA}(h:aS l k=some r):r∈l:=N6 h
theorem Y3 (a b:List aA)(k:Key):aS (a++b) k=match aS a k with|some r=>some r|none=>aS b k:=by
 unfold aS;rw[List.find?_append];cases a.find? _<;>rfl
theorem Pf (l:List aA){k q:Key}{c:Int}(h:dY k q=c):aS (tE l q c) k=aS l k:=by
 induction l with
 |nil=>rfl
 |cons a l ih=>
  unfold aS tE at*;by_cases h1:a.key=k
  ·have h2:dY a.key q=c:=by rw[h1];exact h
   simp[h1,h]
  ·by_cases h2:dY a.key q=c
   ·simp only[yW,h2,yT,eA,oL,h1,DH];exact ih
   ·simp only[yW,h2,DH,oL,h1];exact ih
theorem Y2 (l:List aA){k q:Key}{c:Int}(h:¬dY k q=c):aS (tE l q c) k=none:=by
 unfold aS tE;rw[xJ];intro x hx;simp only[jD,cP]at hx⊢;intro e;rw[e]at hx;exact h hx.2
theorem zgV (l:List aA)(r:aA)(k:Key):aS (nN l r) k=if r.key=k then some r else aS l k:=by
 unfold nN;rw[Y3,Y3];rcases G3 k r.key with h|h|h
 ·have hne:¬r.key=k:=by intro e;rw[<-e,C2]at h;omega
  rw[Pf l h,Y2 l (c:=1) (by omega),aH hne];have:aS [r] k=none:=by simp[aS,hne]
  rw[this];cases aS l k<;>rfl
 ·have e:=G2.1 h;subst e;rw[Y2 l (c:= -1) (by omega),aU rfl];simp[aS]
 ·have hne:¬r.key=k:=by intro e;rw[<-e,C2]at h;omega
  rw[Y2 l (c:= -1) (by omega),Pf l h,aH hne];have:aS [r] k=none:=by simp[aS,hne]
  rw[this]
theorem zgU (l:List aA)(q k:Key):aS (tW l q) k=if q=k then none else aS l k:=by
 induction l with
 |nil=>simp[aS]
 |cons a l ih=>
  unfold aS tW at*;by_cases h:q=k
  ·rw[aU h]at ih⊢;by_cases h1:a.key=q
   ·simpa[yW,h1]using ih
   ·simp only[yW,h1,DH,OA,eA,oL];have:¬a.key=k:=by rw[<-h];exact h1
    simpa[this]using ih
  ·rw[aH h]at ih⊢;by_cases h1:a.key=q
   ·have:¬a.key=k:=by rw[h1];exact h
    simp[yW,h1,oL,h]at ih⊢;exact ih
   ·by_cases h2:a.key=k
    ·simp[yW,h1,h2,tT h,oL]
    ·simp only[yW,h1,DH,OA,eA,oL,h2];exact ih
def cW (l:List aA):Prop:=jC (l.map aA.key)
theorem jJ {l:List aA}(h:cW l){r:aA}(hr:r∈l):aS l r.key=some r:=by
 induction l with
 |nil=>simp at hr
 |cons a l ih=>
  obtain⟨h1,h2⟩:=AA.1 h;rcases kN.1 hr with e|e
  ·subst e;simp[aS]
  ·have hne:¬a.key=r.key:=by
    intro e';have:=h1 r.key (eR.2 ⟨r,e,rfl⟩);rw[e',C2]at this;omega
   have:=ih h2 e;unfold aS at*;simp[oL,hne,this]
theorem Ul {l:List aA}{r:aA}(h:∀x∈l,dY x.key r.key= -1):nN l r=l++[r]:=by
 unfold nN tE;have e1:(l.filter fun x=>decide (dY x.key r.key= -1))=l:=HL.2 (by simpa using h);have e2:(l.filter fun x=>decide (dY x.key r.key=1))=[]:=KS.2 (by intro x hx;have:=h x hx;simp;omega);rw[e1,e2];simp
theorem Px :∀(c l:List aA),cW (l++c)->c.foldl nN l=l++c
 |[],l,_=>by simp
 |r::c,l,h=>by
  have h1:∀x∈l,dY x.key r.key= -1:=by
   intro x hx;unfold cW jC at h;rw[BV,KH]at h;exact h.2.2 _ (eR.2 ⟨x,hx,rfl⟩) _ (by simp)
  rw[rR,Ul h1,Px c (l++[r]) (by simpa using h)];simp
theorem Ad {l:List Key}(h:jC l):l.Nodup:=by
 unfold jC at h;refine h.imp ?_;intro a b hab e;rw[e,C2]at hab;omega
theorem Q9 :∀{a b:List Key},a.Nodup->(∀x∈a,x∈b)->a.length<=b.length
 |[],b,_,_=>by simp
 |x::a,b,hn,hs=>by
  obtain⟨h1,h2⟩:=List.nodup_cons.1 hn;have hx:x∈b:=hs x (by simp);have:=Q9 (a:=a) (b:=b.erase x) h2 (fun y hy=>by
   refine(List.mem_erase_of_ne ?_).2 (hs y (by simp[hy]));rintro rfl;exact h1 hy)
  rw[List.length_erase_of_mem hx]at this;have:0<b.length:=List.length_pos_of_mem hx;simp;omega
theorem zfj {l:List aA}{k:Key}:k∈wO l↔(∃r∈l,k∈eT r)/\(aS l k).isSome=false:=by
 unfold wO;rw[(zQ _ (by simp[jC])).2,uB];simp[jD,KJ,lY]
open Go.AI
structure aT where
 cap:Int
 bV:List (List aA)
 deriving DecidableEq
@[simp] def r9 (l:List aA):List D:=[lD (l.map aK)]
@[simp] def jT (s:aT):List D:=[iD s.cap,lD (s.bV.map r9)]
@[simp] theorem lenAll_rs (l:List (List aA)):jV (l.map r9) 1=True:=vG (f:=r9) (n:=1) (fun _=>rfl) l
structure DA (s:aT):Prop where
 len:s.bV.length<=9223372036854775807
 all:∀l∈s.bV,dK l
def nX (n:Int):Int:=max 0 (min n 64)
def iA (n:Int):aT:=⟨nX n,[[]]⟩
def fW (s:aT):List aA:=s.bV.getLastD []
def gZ (s:aT):aT:=if s.bV=[]then iA s.cap else⟨nX s.cap,s.bV⟩
def qS (s:aT)(i:Int):Option (List aA):=if 0<=i then(gZ s).bV[i.toNat]? else none
def wU (s:aT)(k:Key)(v:Int):Option aA:=match aS ((qS s v).getD []) k with
 |some r=>if r.cS=v then some r else none
 |none=>none
def C4 (m:Mark):aA:=⟨m.k.kind,m.k.name,m.cS,0,⟨#[]⟩,[],[]⟩
def ofM (s:aT)(m:Mark):aA:=(wU s m.k m.cS).getD (C4 m)
def qL (s:aT)(l:List Mark):List aA:=(l.map (ofM s)).foldl nN []
def qK (l:List aA):List Mark:=l.map fun r=>⟨r.key,r.cS⟩
@[simp] theorem marksV_nil :qK []=[]:=rfl
theorem zfn (a b:List aA):qK (a++b)=qK a++qK b:=by simp[qK]
@[simp] theorem marksV_one (r:aA):qK [r]=[⟨r.key,r.cS⟩]:=rfl
@[simp] theorem marksV_length (l:List aA):(qK l).length=l.length:=by simp[qK]
def l9 (now next:List aA)(v:Int):List aA:=next.map fun r=>{r with cS:=match aS now r.key with
 |some o=>if j5 o r then o.cS else v
 |none=>v}
def oF (l:List aA):Int:=match l.find? fun r=>!decide (eL r=0)with
 |some r=>eL r
 |none=>0
def E5 :List aA->Bool
 |[]=>true
 |[_]=>true
 |a::b::l=>decide (dY a.key b.key= -1)&&E5 (b::l)
def u7 (l:List aA):List Int:=(l.filter fun r=>decide (r.kind=0)).map aA.port
def fF (l:List aA):Int:=if 64<l.length then 3 else if oF l=0 then(if E5 l=false then 2 else if(u7 l).Nodup then 0 else 13)else oF l
def mN (a b:List aA):List aA:=b.filter fun r=>!decide (aS a r.key=some r)
def oG (a b:List aA):List Key:=(a.map aA.key).filter fun k=>!(aS b k).isSome
theorem Aj {v:View}{f:Frame}(h1:v.open_=true)(h2:pZ v f=true):j4 v f=eE ⟨if f.err=0 then cD v.bF v.push.aD v.push.gone else v.bF,v.held,v.aL,fQ,false⟩ f.aL f.held:=by
 unfold j4 eE;rw[h1,h2];by_cases h:v.aL<f.aL<;>by_cases h3:f.err=0<;>simp[h,h3]
theorem zg5 {v:View}{f:Frame}(h:f.type=2):(!decide (f.aF=v.push.aF)|| (!decide (f.kind=v.push.kind)|| !decide (f.cY=v.push.cY)))= !pZ v f:=by
 simp only[pZ,h,yT,tU,Bool.not_and,Bool.or_assoc]
theorem zen (s:aT)(m:Mark):(ofM s m).key=m.k:=by
 unfold ofM wU;split
 ·rename_i r h;split
  ·simp[kK h]
  ·rfl
 ·rfl
theorem zel (s:aT)(m:Mark):(ofM s m).cS=m.cS:=by
 unfold ofM wU;split
 ·rename_i r h;split
  ·rename_i e;simpa using e
  ·rfl
 ·rfl
theorem X8 (s:aT)(l:List Mark):(qL s l).length<=l.length:=by
 have:=R9 (l.map (ofM s)) [];simpa[qL]using this
theorem TF :∀(l:List aA),E5 l=true↔cW l
 |[]=>by simp[E5,cW,jC]
 |[_]=>by simp[E5,cW,jC]
 |a::b::l=>by
  have ih:=TF (b::l);simp only[E5,bN,cP,ih];unfold cW jC;constructor
  ·rintro⟨h1,h2⟩;refine AA.2 ⟨fun x hx=>?_,h2⟩;obtain⟨h3,_⟩:=AA.1 h2;rcases kN.1 hx with e|e
   ·rw[e];exact h1
   ·exact C1 h1 (h3 x e)
  ·intro h;obtain⟨h1,h2⟩:=AA.1 h;exact⟨h1 _ (by simp),h2⟩
theorem iC {l:List aA}(h:fF l=0):cW l:=by
 unfold fF at h;rw[<-TF];split at h
 ·simp at h
 ·split at h
  ·split at h
   ·simp at h
   ·rename_i h3;simpa using h3
  ·rename_i h2;exact absurd h h2
theorem Qi {l:List aA}(h:yI l=true):l.length<=80:=by
 simp only[yI,bN,cP]at h;exact h.2
theorem Lz {l:List aA}{r x:aA}(h:x∈nN l r):x=r\/x∈l:=by
 simp only[nN,tE,dN,jD,fI]at h;rcases h with(h|h)|h
 ·exact .inr h.1
 ·exact .inl h
 ·exact .inr h.1
theorem XN :∀{a l:List aA} {x:aA},x∈a.foldl nN l->x∈l\/x∈a
 |[],l,x,h=>.inl h
 |r::a,l,x,h=>by
  rcases XN (a:=a) h with h|h
  ·rcases Lz h with h|h
   ·exact .inr (by simp[h])
   ·exact .inl h
  ·exact .inr (by simp[h])
theorem Mb :∀{g:List Key} {l:List aA} {x:aA},x∈g.foldl tW l->x∈l
 |[],l,x,h=>h
 |k::g,l,x,h=>(jD.1 (Mb (g:=g) h)).1
theorem QX {l a:List aA}{g:List Key}{x:aA}(h:x∈cD l a g):x∈l\/x∈a:=by
 rcases XN h with h|h
 ·exact .inl (Mb h)
 ·exact .inr h
theorem Im (l a:List aA)(g:List Key):(cD l a g).length<=l.length+a.length:=by
 have h1:=R9 a (g.foldl tW l);have h2:=R8 g l;unfold cD;omega
theorem zdJ {l a:List aA}{g:List Key}(h1:dK l)(h2:dK a)(h:l.length+a.length<=1000000):dK (cD l a g):=
 ⟨by have:=Im l a g;omega,fun r hr=>(QX hr).elim (h1.all r) (h2.all r)⟩
theorem zkl {v:View}{f:Frame}(h:v.open_=false):j4 v f=v:=by simp[j4,h]
theorem zkk {v:View}{f:Frame}(h:pZ v f=false):j4 v f=v:=by by_cases h1:v.open_=true<;>simp[j4,h1,h]
theorem zki (v:View)(f:Frame):(j4 v f).push=v.push\/(j4 v f).push=fQ:=by
 by_cases h1:v.open_=true
 ·by_cases h2:pZ v f=true
  ·rw[Aj h1 h2];simp
  ·have h2:pZ v f=false:=by simpa using h2
   rw[zkk h2];simp
 ·have h1:v.open_=false:=by simpa using h1
  rw[zkl h1];simp

def rI (k:Key):List Value:=[.int .i64 k.kind,.string k.name]
theorem YC {a b:Key}(h:rI a=rI b):a=b:=by
 obtain⟨x,s⟩:=a;obtain⟨y,t⟩:=b;simp[rI]at h;rw[h.1,h.2]
noncomputable def pI (S:List Key):List Value->Option (List D):=fun v=>open Classical in if∃k,k∈S/\v=rI k then some [bD true]else none
theorem XS (S:List Key)(k:Key):pI S (rI k)=if k∈S then some [bD true]else none:=by
 unfold pI;by_cases h:k∈S
 ·rw[aU ⟨k,h,rfl⟩,aU h]
 ·rw[aH,aH h];rintro⟨k',h1,h2⟩;rw[YC h2]at h;exact h h1
theorem I5 :(fun _=>none)=pI []:=by
 funext v;simp[pI]
theorem Vc (S:List Key)(k:Key):pC (pI S) (rI k) [bD true]=pI (S++[k]):=by
 funext v
 unfold pC;by_cases h:v=rI k
 ·subst h;rw[aU rfl,XS,aU (by simp)]
 ·rw[aH h];unfold pI;by_cases h2:∃q,q∈S/\v=rI q
  ·obtain⟨q,h3,h4⟩:=h2;rw[aU ⟨q,h3,h4⟩,aU ⟨q,by simp[h3],h4⟩]
  ·rw[aH h2,aH];rintro⟨q,h3,h4⟩;rcases dN.1 h3 with h5|h5
   ·exact h2 ⟨q,h5,h4⟩
   ·simp at h5;subst h5;exact h h4
@[simp] theorem updL_lookS' (S:List Key)(a:Int)(s:cH):pC (pI S) [.int .i64 a,.string s] [D.v (Value.bool true)]=pI (S++[⟨a,s⟩]):=Vc S ⟨a,s⟩
theorem GG {S:List Key}{k:Key}(h:k∈S):pI S [.int .i64 k.kind,.string k.name]=some [bD true]:=by
 have:=XS S k;rwa[aU h]at this
theorem I4 {S:List Key}{k:Key}(h:k∉S):pI S [.int .i64 k.kind,.string k.name]=none:=by
 have:=XS S k;rwa[aH h]at this
@[simp] theorem take_len_map {α β:Type}(f:α->β)(l:List α):List.take l.length (List.map f l)=List.map f l:=by rw[<-DM,fA]
noncomputable def vF (S:List Int):List Value->Option (List D):=fun v=>open Classical in if∃n,n∈S/\v=[.int .i64 n]then some [bD true]else none
theorem Q7 (S:List Int)(n:Int):vF S [.int .i64 n]=if n∈S then some [bD true]else none:=by
 unfold vF;by_cases h:n∈S
 ·rw[aU ⟨n,h,rfl⟩,aU h]
 ·rw[aH,aH h];rintro⟨k',h1,h2⟩;simp at h2;rw[h2]at h;exact h h1
theorem MF :(fun _=>none)=vF []:=by
 funext v;simp[vF]
@[simp] theorem updL_lookP (S:List Int)(n:Int):pC (vF S) [.int .i64 n] [D.v (Value.bool true)]=vF (S++[n]):=by
  funext v
  unfold pC;by_cases h:v=[.int .i64 n]
  ·subst h;rw[aU rfl,Q7,aU (by simp)]
  ·rw[aH h];unfold vF;by_cases h2:∃q,q∈S/\v=[Value.int .i64 q]
   ·obtain⟨q,h3,h4⟩:=h2;rw[aU ⟨q,h3,h4⟩,aU ⟨q,by simp[h3],h4⟩]
   ·rw[aH h2,aH];rintro⟨q,h3,h4⟩;rcases dN.1 h3 with h5|h5
    ·exact h2 ⟨q,h5,h4⟩
    ·simp at h5;subst h5;exact h h4
theorem mem_keys {l:List aA}{k:Key}:k∈l.map aA.key↔(aS l k).isSome=true:=by
 unfold aS;rw[List.find?_isSome];simp
@[simp] theorem missP_nil (l:List aA):uB [] l=[]:=rfl
theorem ze4 (a:List aA)(x:aA)(l:List aA):uB (a++[x]) l=uB a l++(eT x).filter (lY l):=by
 simp[uB,List.flatMap_append,v7]
theorem QT :∀(a l:List aA),(uB a l).length<=33*a.length
 |[],l=>by simp
 |r::a,l=>by
  have h1:=QT a l;have h2:=IH r;have h3:=kS (lY l) (eT r);simp only[uB,UD,v7,dQ,kE]at*;omega
theorem ze3 (l:List aA):oZ (uX (uB l l))=wO l:=ZU _
theorem ZA {l:List aA}{k:Nat}{x:aA}(h:(l.take k).all (fun r=>decide (eL r=0))=true)(hr:l[k]? =some x)(hx:¬eL x=0):oF l=eL x:=by
 unfold oF;rw[SC (k:=k) (x:=x) (by simpa using h) hr (by simpa using hx)]
theorem Qc {l:List aA}(h:l.all (fun r=>decide (eL r=0))=true):oF l=0:=by
 unfold oF;rw[ZC (by simpa using h)]
theorem zjY (a:List aA)(x:aA)(h:cW a)(hl:∀y,a.getLast? =some y->dY y.key x.key= -1):cW (a++[x]):=by
 unfold cW jC at*;rw[BV,KH];refine⟨h,by simp,fun y hy z hz=>?_⟩;simp at hz;subst hz;rcases List.eq_nil_or_concat a with e|⟨b,w,e⟩
 ·subst e;simp at hy
 ·subst e;have hw:=hl w (by simp);simp only[List.concat_eq_append,BV,iU,AB,dN,fI]at hy h;rcases hy with hy|hy
  ·have:=(KH.1 h).2.2 y hy w.key (by simp);exact C1 this hw
  ·rw[hy];exact hw
theorem zjZ {l:List aA}{m:Nat}{y x:aA}(h:cW l)(hy:l[m]? =some y)(hx:l[m+1]? =some x):dY y.key x.key= -1:=by
 unfold cW jC at h;rw[UA]at h;obtain⟨h1,e1⟩:=cC.1 hy;obtain⟨h2,e2⟩:=cC.1 hx;have:=h m (m+1) (by simpa using h1) (by simpa using h2) (by omega);simpa[e1,e2]using this
theorem Xq {l:List aA}(h:¬64<l.length)(h2:¬oF l=0):fF l=oF l:=by simp[fF,h,h2]
theorem Xr {l:List aA}(h:¬64<l.length)(h2:oF l=0)(h3:¬cW l):fF l=2:=by
 have:E5 l=false:=by
  cases hb:E5 l
  ·rfl
  ·exact absurd ((TF l).1 hb) h3
 simp[fF,h,h2,this]
theorem U7 {l:List aA}(h:¬64<l.length)(h2:oF l=0)(h3:cW l):fF l=if(u7 l).Nodup then 0 else 13:=by
 simp[fF,h,h2,(TF l).2 h3]
theorem Kp {α:Type}{a:List α}{x:α}:(a++[x]).Nodup↔a.Nodup/\x∉a:=by
 rw[UB];simp;intro _;exact⟨fun h hx=>h x hx rfl,fun h y hy e=>h (e▸hy)⟩
@[simp] theorem ascR_nil :cW []=True:=eq_true (by simp[cW,jC])
theorem Ng {α:Type}{l:List α}{m:Nat}{y:α}(h:l[m]? =some y):(l.take (m+1)).getLast? =some y:=by
 have hj:=(cC.1 h).1;rw[HJ,yV,HK,aU (by omega),show min (m+1) l.length-1=m by omega];exact h
theorem zc6 {S:List Int}{n:Int}(h:n∈S):vF S [.int .i64 n]=some [bD true]:=by rw[Q7,aU h]
theorem zc5 {S:List Int}{n:Int}(h:n∉S):vF S [.int .i64 n]=none:=by rw[Q7,aH h]
theorem Z1 (n:Int):nX (nX n)=nX n:=by unfold nX;omega
theorem Sf (n:Int):(if 0<(if 64<n then 64 else n)then(if 64<n then(64:Int)else n)else 0)=nX n:=by
 unfold nX;by_cases h:64<n
 ·simp[h];omega
 ·by_cases h2:0<n
  ·simp[h,h2];omega
  ·simp[h,h2];omega
theorem Xe {s:aT}(h:s.bV=[]):gZ s=iA s.cap:=by simp[gZ,h]
theorem UZ {s:aT}(h:¬s.bV=[]):gZ s=⟨nX s.cap,s.bV⟩:=by simp[gZ,h]
abbrev atA (s:aT)(i:Int):AV:=.bI [aC (((qS s i).getD []).map aK),bool (qS s i).isSome]
abbrev zhj (s:aT)(k:Key)(v:Int):AV:=.bI [st (aK ((wU s k v).getD jE)),bool (wU s k v).isSome]
theorem zjy {s:aT}{i:Int}(h:i<0):qS s i=none:=by simp[qS];omega
theorem zjA {s:aT}{i:Int}(h:((gZ s).bV.length:Int)<=i):qS s i=none:=by
 unfold qS;split
 ·exact BW (by omega)
 ·rfl
theorem zjz {s:aT}{i:Int}(h0:¬i<0)(h:¬((gZ s).bV.length:Int)<=i):∃l,(∃hh:i.toNat<(gZ s).bV.length,(gZ s).bV[i.toNat]=l)/\(gZ s).bV[i.toNat]? =some l/\qS s i=some l:=by
 refine⟨(gZ s).bV[i.toNat]'(by omega),⟨by omega,rfl⟩,cI _,?_⟩;unfold qS;rw[aU (by omega)];exact cI _
theorem zdE {s:aT}(h:DA s):DA (gZ s):=by
 unfold gZ;split
 ·exact⟨by simp[iA],fun l hl=>by simp[iA]at hl;subst hl;exact⟨by simp,by simp⟩⟩
 ·exact⟨h.len,h.all⟩
theorem zec {s:aT}(h:DA s)(i:Int):dK ((qS s i).getD []):=by
 unfold qS;split
 ·cases hg:(gZ s).bV[i.toNat]? with
  |none=>exact⟨by simp,by simp⟩
  |some l=>exact(zdE h).all l (eH hg)
 ·exact⟨by simp,by simp⟩
theorem zhi {s:aT}{k:Key}{v:Int}(h:aS ((qS s v).getD []) k=none):wU s k v=none:=by simp[wU,h]
theorem zhh {s:aT}{k:Key}{v:Int}{r:aA}(h:aS ((qS s v).getD []) k=some r):wU s k v=if r.cS=v then some r else none:=by simp[wU,h]
theorem Nl (s:aT):qL s []=[]:=rfl
theorem zfP (s:aT)(l:List Mark)(m:Mark):qL s (l++[m])=nN (qL s l) (ofM s m):=by simp[qL,KP]
noncomputable def lO (S:List aA):List Value->Option (List D):=fun v=>open Classical in if h:∃k,v=rI k then(aS S h.choose).map fun r=>[lD ((eT r).map bP)]else none
theorem Q8 (S:List aA)(k:Key):lO S (rI k)=(aS S k).map fun r=>[lD ((eT r).map bP)]:=by
 unfold lO;have h:∃q,rI k=rI q:=⟨k,rfl⟩;rw[dif_pos h,<-YC h.choose_spec]
theorem Ms {S:List aA}{k:Key}{r:aA}(h:aS S k=some r):lO S [.int .i64 k.kind,.string k.name]=some [lD ((eT r).map bP)]:=by
 have:=Q8 S k;rw[h]at this;exact this
theorem zfs {S:List aA}{k:Key}(h:aS S k=none):lO S [.int .i64 k.kind,.string k.name]=none:=by
 have:=Q8 S k;rw[h]at this;exact this
theorem Mr :(fun _=>none)=lO []:=by
 funext v
 unfold lO;split<;>simp[aS]
theorem Pe (S:List aA)(x:aA)(k:Key):aS (S++[x]) k=match aS S k with|some r=>some r|none=>if x.key=k then some x else none:=by
 rw[Y3];cases aS S k with
 |some r=>rfl
 |none=>by_cases h:x.key=k<;>simp[aS,h]
theorem Ve {S:List aA}{x:aA}(h:aS S x.key=none):pC (lO S) [.int .i64 x.key.kind,.string x.key.name] [lD ((eT x).map bP)]=lO (S++[x]):=by
 funext v
 unfold pC;by_cases hv:v=[.int .i64 x.key.kind,.string x.key.name]
 ·subst hv;rw[aU rfl];have:aS (S++[x]) x.key=some x:=by rw[Pe,h];simp
  rw[Ms this]
 ·rw[aH hv];by_cases hk:∃k,v=rI k
  ·obtain⟨k,rfl⟩:=hk;rw[Q8,Q8,Pe];cases hg:aS S k with
   |some r=>rfl
   |none=>
    have:¬x.key=k:=by rintro rfl;exact hv rfl
    simp[this]
  ·unfold lO;rw[dif_neg hk,dif_neg hk]
theorem zj0 {l:List aA}{k:Nat}{x:aA}(h:cW l)(hr:l[k]? =some x):aS (l.take k) x.key=none:=by
 unfold aS;rw[xJ];intro y hy;simp only[cP];intro e;obtain⟨i,hi⟩:=DN hy;have hik:i<k:=by
  have:=(cC.1 hi).1;simp at this;omega
 rw[HK,aU hik]at hi;unfold cW jC at h;rw[UA]at h;obtain⟨h1,e1⟩:=cC.1 hi;obtain⟨h2,e2⟩:=cC.1 hr;have:=h i k (by simpa using h1) (by simpa using h2) hik;simp only[List.getElem_map,e1,e2,e,C2]at this;omega
def iV (l:List aA):Nat->List Key->Key->List Key
 |0,out,_=>out
 |n+1,out,k=>match aS l k with
  |none=>out
  |some r=>if k∈out then out else(eT r).foldl (iV l n) (out++[k])
def uD (l:List aA)(out:List Key):Nat:=((l.map aA.key).filter fun k=>decide (k∉out)).length
theorem JJ {f:List Key->Key->List Key}(h:∀o k x,x∈o->x∈f o k):∀(l:List Key) (o:List Key) (x:Key),x∈o->x∈l.foldl f o
 |[],_,_,hx=>hx
 |k::l,o,x,hx=>JJ h l _ x (h o k x hx)
theorem FK (l:List aA):∀(n:Nat) (out:List Key) (k x:Key),x∈out->x∈iV l n out k
 |0,_,_,_,h=>h
 |n+1,out,k,x,h=>by
  unfold iV;split
  ·exact h
  ·split
   ·exact h
   ·exact JJ (FK l n) _ _ _ (by simp[h])
theorem XY {l:List aA}{a b:List Key}(h:∀x,x∈a->x∈b):uD l b<=uD l a:=by
 unfold uD;induction l with
 |nil=>simp
 |cons r l ih=>
  simp only[iU,yW];by_cases hb:r.key∈b
  ·by_cases ha:r.key∈a
   ·simpa[ha,hb]using ih
   ·simp only[hb,ha,not_true,not_false_iff,yT,DH,eA,kE];simp only[oM,gY];omega
  ·have ha:r.key∉a:=fun h'=>hb (h _ h');simpa[ha,hb]using ih
theorem Nc {l:List aA}{out:List Key}{k:Key}(hk:k∈l.map aA.key)(ho:k∉out):uD l (out++[k])<uD l out:=by
 unfold uD;induction l with
 |nil=>simp at hk
 |cons r l ih=>
  have hle:=XY (l:=l) (a:=out) (b:=out++[k]) (fun x hx=>by simp[hx]);unfold uD at hle;simp only[iU,yW];by_cases hr:r.key=k
  ·have h1:r.key∈out++[k]:=by simp[hr]
   have h2:r.key∉out:=by rw[hr];exact ho
   simp only[h1,h2,not_true,not_false_iff,yT,DH,eA,kE];simp only[oM,gY];omega
  ·have hk':k∈l.map aA.key:=by
    simp only[iU,kN]at hk;exact hk.resolve_left (fun e=>hr e.symm)
   have:=ih hk';by_cases h2:r.key∈out
   ·have h1:r.key∈out++[k]:=by simp[h2]
    simpa[h1,h2]using this
   ·have h1:r.key∉out++[k]:=by simp[h2,hr]
    simpa[h1,h2]using this
theorem Nd (l:List aA)(out:List Key):uD l out<=l.length:=by
 have:=kS (fun k=>decide (k∉out)) (l.map aA.key);simpa[uD]using this
def CG (l:List aA):List Key:=(l.filter fun r=>decide (r.kind=0)).map aA.key
def wK (l:List aA):List Key:=(CG l).foldl (iV l (l.length+1)) []
def dO (l:List aA):List aA:=l.filter fun r=>decide (r.key∈wK l)
def yJ (r:aA):Bool:=decide (r.kind=3)&&decide (r.cT.length=0)
def iX (l:List aA):Int:=if(dO l).any fun r=>(eT r).any (lY l)then 6 else if(dO l).any yJ then 7 else 0
theorem Gl (a:List aA)(x:aA):CG (a++[x])=CG a++(if x.kind=0 then [x.key]else []):=by
 by_cases h:x.kind=0<;>simp[CG,v7,h]
def nI (cap:Int)(n:Nat)(now next:List aA):Int:=
 if fF next=0 then(if cap<next.length then 8 else if¬(wO next).length=0 then 6 else if¬iX next=0 then 7 else if now=next then 9 else if 100000<=n then 8 else 0)else fF next
def u6 (s:aT)(aD:List aA)(gone:List Key):List aA:=l9 (fW s) (cD (fW s) aD gone) s.bV.length
def rF (s:aT)(aD:List aA)(gone:List Key):Int:=nI s.cap s.bV.length (fW s) (u6 s aD gone)
def tC (s:aT)(aD:List aA)(gone:List Key):aT:=if rF s aD gone=0 then⟨s.cap,s.bV++[u6 s aD gone]⟩else s
def D5 :aT->List (List aA)->Bool
 |_,[]=>true
 |t,l::r=>decide (rF t (mN (fW t) l) (oG (fW t) l)=0)&&decide (u6 t (mN (fW t) l) (oG (fW t) l)=l)&&D5 ⟨t.cap,t.bV++[l]⟩ r
def fN (s:aT):Bool:=decide (s.cap=nX s.cap)&&decide (1<=s.bV.length)&&decide (s.bV.length<=100000)&&decide (s.bV.headD []=[])&&D5 (iA s.cap) (s.bV.drop 1)
structure HD (h:List (List aA)):Prop where
 p8:∀l∈h,cW l
 cS:∀l∈h,∀r∈l,∃(j:Nat) (m:List aA),r.cS=j/\h[j]? =some m/\aS m r.key=some r
theorem ZZ {cap:Int}{n:Nat}{now next:List aA}(h:nI cap n now next=0):fF next=0:=by
 unfold nI at h;split at h
 ·assumption
 ·exact h
theorem Tg {o r:aA}(h:j5 o r=true):{r with cS:=o.cS}=o:=by
 obtain⟨a1,a2,a3,a4,a5,a6,a7⟩:=o;obtain⟨b1,b2,b3,b4,b5,b6,b7⟩:=r;simp[j5]at h;obtain⟨⟨⟨⟨⟨h1,h2⟩,h3⟩,h4⟩,h5⟩,h6⟩:=h;subst h1 h2 h3 h4 h5 h6;rfl
theorem zfh {now next:List aA}{v:Int}{r:aA}(h:r∈l9 now next v):r.cS=v\/r∈now:=by
 simp only[l9,eR]at h;obtain⟨q,_,rfl⟩:=h;split
 ·rename_i o ho;split
  ·rename_i ha;right;rw[Tg ha];exact gV ho
  ·exact .inl rfl
 ·exact .inl rfl
theorem ziF {h:List (List aA)}(hc:HD h){now next:List aA}(hnow:now=[]\/now∈h)(ht:fF (l9 now next h.length)=0):HD (h++[l9 now next h.length]):=by
 have ha:=iC ht;refine⟨fun l hl=>?_,fun l hl r hr=>?_⟩
 ·rcases dN.1 hl with h1|h1
  ·exact hc.p8 l h1
  ·simp at h1;rw[h1];exact ha
 ·have old:∀l∈h,∀r∈l,∃(j:Nat) (m:List aA),r.cS=j/\(h++[l9 now next h.length])[j]? =some m/\aS m r.key=some r:=by
   intro l hl r hr;obtain⟨j,m,h1,h2,h3⟩:=hc.cS l hl r hr;exact⟨j,m,h1,by rw[jY (cC.1 h2).1];exact h2,h3⟩
  rcases dN.1 hl with h1|h1
  ·exact old l h1 r hr
  ·simp at h1;subst h1;rcases zfh hr with h2|h2
   ·exact⟨h.length,_,h2,by simp,jJ ha hr⟩
   ·rcases hnow with e|e
    ·rw[e]at h2;simp at h2
    ·exact old now e r h2
theorem Nh {s:aT}:fW s=[]\/fW s∈s.bV:=by
 unfold fW;rw[Ar];cases h:s.bV.getLast? with
 |none=>exact .inl rfl
 |some l=>exact .inr (BU h)
theorem Ft :∀(r:List (List aA)) (t:aT),HD t.bV->D5 t r=true->HD (t.bV++r)
 |[],t,hc,_=>by simpa using hc
 |l::r,t,hc,h=>by
  simp only[D5,bN,cP]at h;obtain⟨⟨h1,h2⟩,h3⟩:=h;have hn:HD (t.bV++[l]):=by
   have:=ziF hc (next:=cD (fW t) (mN (fW t) l) (oG (fW t) l)) Nh (ZZ h1)
   rwa[show l9 (fW t) (cD (fW t) (mN (fW t) l) (oG (fW t) l)) t.bV.length=l from h2]at this
  have:=Ft r ⟨t.cap,t.bV++[l]⟩ hn h3;simpa using this
theorem zbo {s:aT}(h:fN s=true):HD s.bV/\¬s.bV=[]:=by
 simp only[fN,bN,cP]at h;obtain⟨⟨⟨⟨_,h1⟩,_⟩,h2⟩,h3⟩:=h;cases hh:s.bV with
 |nil=>rw[hh]at h1;simp at h1
 |cons a t=>
  rw[hh]at h2 h3;simp only[List.headD_cons]at h2;subst h2;refine⟨?_,by simp⟩;have h0:HD (iA s.cap).bV:=⟨fun l hl=>by simp[iA]at hl;subst hl;simp,fun l hl r hr=>by simp[iA]at hl;subst hl;simp at hr⟩;have:=Ft _ _ h0 h3;simpa[iA]using this
noncomputable def tI (S:List aA):List Value->Option (List D):=fun v=>open Classical in if h:∃k,v=rI k then(aS S h.choose).map aK else none
theorem Q6 (S:List aA)(k:Key):tI S (rI k)=(aS S k).map aK:=by
 unfold tI;have h:∃q,rI k=rI q:=⟨k,rfl⟩;rw[dif_pos h,<-YC h.choose_spec]
theorem XT {S:List aA}{k:Key}{r:aA}(h:aS S k=some r):tI S [.int .i64 k.kind,.string k.name]=some (aK r):=by
 have:=Q6 S k;rw[h]at this;exact this
theorem Mp {S:List aA}{k:Key}(h:aS S k=none):tI S [.int .i64 k.kind,.string k.name]=none:=by
 have:=Q6 S k;rw[h]at this;exact this
theorem Mq :(fun _=>none)=tI []:=by
 funext v
 unfold tI;split<;>simp[aS]
theorem Pm (x:aA)(S:List aA)(k:Key):aS (x::S) k=if x.key=k then some x else aS S k:=by
 by_cases h:x.key=k<;>simp[aS,h]
theorem Vd (S:List aA)(x:aA):pC (tI S) [.int .i64 x.key.kind,.string x.key.name] (aK x)=tI (x::S):=by
 funext v
 unfold pC;by_cases hv:v=[.int .i64 x.key.kind,.string x.key.name]
 ·subst hv;rw[aU rfl];have:aS (x::S) x.key=some x:=by rw[Pm];simp
  rw[XT this]
 ·rw[aH hv];by_cases hk:∃k,v=rI k
  ·obtain⟨k,rfl⟩:=hk;have:¬x.key=k:=by rintro rfl;exact hv rfl
   rw[Q6,Q6,Pm,aH this]
  ·unfold tI;rw[dif_neg hk,dif_neg hk]
noncomputable abbrev EZ (S:List aA):D:=.mp true [.int,.str] true (tI S)
end Go.G
