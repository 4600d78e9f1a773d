/-
  LAYERS 1 to 14: the plain functions that the code computes, how their data lies in cells, and plain laws of them.
-/
import Derived.Test.YtjoaclgkjhncjaaGreatDoorFc
import Derived.Lib.Bytealg
import Derived.Laws.RangeAny
import Derived.Sort.Statements
set_option linter.unusedSimpArgs false
set_option linter.unusedVariables false
namespace Go.G
abbrev Str :=ByteArray
structure Key where
 kind:Int
 name:Str
 deriving DecidableEq
structure Weight where
 cluster:Str
 w:Int
 deriving DecidableEq
structure Rule where
 host:Str
 pre:Str
 split:List Weight
 deriving DecidableEq
structure Res where
 kind:Int
 name:Str
 ver:Int
 port:Int
 to:Str
 rules:List Rule
 hosts:List Int
 deriving DecidableEq
structure Mark where
 k:Key
 ver:Int
 deriving DecidableEq
structure Frame where
 type:Int
 epoch:Int
 kind:Int
 nonce:Int
 turn:Int
 adds:List Res
 gone:List Key
 err:Int
 have_:List Mark
 held:List Key
 deriving DecidableEq
structure View where
 have_:List Res
 held:List Key
 turn:Int
 push:Frame
 open_:Bool
 deriving DecidableEq
def Res.key (r:Res):Key:=⟨r.kind,r.name⟩
open Go.AI
abbrev iD (n:Int):D:=.v (.int .i64 n)
abbrev sD (s:Str):D:=.v (.string s)
abbrev bD (b:Bool):D:=.v (.bool b)
abbrev int (n:Int):AV:=.d (iD n)
abbrev str (s:Str):AV:=.d (sD s)
abbrev bool (b:Bool):AV:=.d (bD b)
abbrev lD (es:List (List D)):D:=.ro false es
abbrev lst (es:List (List D)):AV:=.d (lD es)
@[simp] def intC (n:Int):List D:=[iD n]
@[simp] def wC (w:Weight):List D:=[sD w.cluster,iD w.w]
@[simp] def zbk (r:Rule):List D:=[sD r.host,sD r.pre,lD (r.split.map wC)]
@[simp] def resC (r:Res):List D:=[iD r.kind,sD r.name,iD r.ver,iD r.port,sD r.to,lD (r.rules.map zbk),lD (r.hosts.map intC)]
@[simp] def keyC (k:Key):List D:=[iD k.kind,sD k.name]
@[simp] def zfq (m:Mark):List D:=[iD m.k.kind,sD m.k.name,iD m.ver]
@[simp] def zam (f:Frame):List D:=[iD f.type,iD f.epoch,iD f.kind,iD f.nonce,iD f.turn,lD (f.adds.map resC),lD (f.gone.map keyC),iD f.err,lD (f.have_.map zfq),lD (f.held.map keyC)]
@[simp] def zvb (v:View):List D:=[lD (v.have_.map resC),lD (v.held.map keyC),iD v.turn]++zam v.push++[bD v.open_]
@[simp] theorem lenAll_int (l:List Int):zb2 (l.map intC) 1=True:=zbv (f:=intC) (n:=1) (fun _=>rfl) l
@[simp] theorem lenAll_w (l:List Weight):zb2 (l.map wC) 2=True:=zbv (f:=wC) (n:=2) (fun _=>rfl) l
@[simp] theorem lenAll_rule (l:List Rule):zb2 (l.map zbk) 3=True:=zbv (f:=zbk) (n:=3) (fun _=>rfl) l
@[simp] theorem lenAll_res (l:List Res):zb2 (l.map resC) 7=True:=zbv (f:=resC) (n:=7) (fun _=>rfl) l
@[simp] theorem lenAll_key (l:List Key):zb2 (l.map keyC) 2=True:=zbv (f:=keyC) (n:=2) (fun _=>rfl) l
@[simp] theorem lenAll_mark (l:List Mark):zb2 (l.map zfq) 3=True:=zbv (f:=zfq) (n:=3) (fun _=>rfl) l
@[simp] theorem lenAll_byte (l:List UInt8):zb2 (l.map byteC) 1=True:=zbv (f:=byteC) (n:=1) (fun _=>rfl) l
abbrev st (cs:List D):AV:=.agg (cs.map .d)
theorem fin0 {mm:Nat→Option Blk}{r res:AV}(h:leA (prA (fun _=>false) mm 8 r) (res.ren (gf [])))(hn:inA (nmF [] []) res=true):∃g,FinOk mm r [] res [] g:=
 ⟨[],by simpa using h,by simp,by simp,by simp,by simp,hn,by simp⟩
theorem zaa {ops:Array Oper}{ft:List (List Nat×List Nat)}{mm:Nat→Option Blk}{r res:AV}(h:leA (prA (fun _=>false) mm 8 r) (res.ren (gf [])))(hd:zba ops ft:=by decide+kernel)(hn:inA (nmF [] []) res=true:=by rfl):zba ops ft∧∃g,FinOk mm r [] res [] g:=
 ⟨hd,fin0 h hn⟩
def bs (s:Str):List UInt8:=s.data.toList
theorem zbq (s:Str):s.size=(bs s).length:=by show s.data.size=_;rw[bs,Array.length_toList]
theorem qwq (s:Str)(i:Nat):s[i]? =(bs s)[i]? :=by
 simp only[bs,Array.getElem?_toList];by_cases h:i<s.size
 ·rw[getElem?_pos s i h,getElem?_pos s.data i h];rfl
 ·rw[getElem?_neg s i h,getElem?_neg s.data i h]
theorem zsq {a b:Str}(h:bs a=bs b):a=b:=by
 cases a;cases b;simp[bs]at h;cases h;rfl
theorem zeo (s:Str)(i j:Nat):bs (s.extract i j)=((bs s).take j).drop i:=by
 simp[bs,List.extract_eq_take_drop];rw[List.drop_take]
@[simp] theorem bs_mk (l:List UInt8):bs ⟨l.toArray⟩=l:=rfl
def lowB (c:UInt8):Bool:=decide ((97:Int)≤c.toNat)&&decide ((c.toNat:Int)≤122)
def zn8 (c:UInt8):Bool:=lowB c|| (decide ((48:Int)≤c.toNat)&&decide ((c.toNat:Int)≤57))||decide ((c.toNat:Int)=45)
def zha (l:List UInt8):Bool:=decide (1≤l.length)&&decide (l.length≤12)&&lowB (l.headD 0)&&l.all zn8
def zda (s:Str):Bool:=zha (bs s)
theorem zvi (a b:Str):(a=b)=(bs a=bs b):=propext ⟨fun h=>by rw[h],zsq⟩
def slB (c:UInt8):Bool:=zn8 c||decide ((c.toNat:Int)=47)
def zkh (s:Str):Bool:=decide (1≤(bs s).length)&&decide ((bs s).length≤40)&&decide (((bs s).headD 0).toNat=47)&&(bs s).all slB
def zta (l:List UInt8):Bool:=decide (2≤l.length)&&decide (l.take 2=[42,46])
def zdi :List UInt8→List UInt8→Bool
 |p,[]=>zha p
 |p,c::r=>if c=46 then zha p&&zdi [] r else zdi (p++[c]) r
def zm0 (s:Str):Bool:=decide ((bs s).length≤40)&&(decide (bs s=[42])|| (zta (bs s)&&zdi [] ((bs s).drop 2))||zdi [] (bs s))
def qm4 (s:Str):Bool:=decide ((bs s).length≤40)&&(decide (bs s=[42])||zdi [] (if zta (bs s)then(bs s).drop 2 else bs s))
theorem qde {l:List UInt8}(h:zta l=true):zdi [] l=false:=by
 match l,h with
 |[],h=>simp[zta]at h
 |[_],h=>simp[zta]at h
 |a::b::r,h=>
  simp[zta]at h;obtain⟨rfl,rfl⟩:=h;simp[zdi,zha,lowB]
theorem qb4 (s:Str):qm4 s=zm0 s:=by
 unfold qm4 zm0;cases h:zta (bs s)
 ·simp
 ·simp[qde h]
def cmpS (a b:Str):Int:=Lib.compareBytes (bs a) (bs b)
theorem qxd {s:Str}{k:Nat}{c:UInt8}(h:(bs s)[k]? =some c):∃hk:k<s.size,s[k]'hk=c:=by
 rw[←qwq]at h;by_cases hk:k<s.size
 ·rw[getElem?_pos s k hk]at h;cases h;exact⟨hk,rfl⟩
 ·rw[getElem?_neg s k hk]at h;cases h
theorem zx0 {s:Str}{k:Nat}{c:UInt8}(h:(bs s)[k]? =some c)(hc:c.toNat<128):Utf8.decode s k=(c.toNat,1):=by
 obtain⟨hk,rfl⟩:=qxd h;exact decode_ascii s k hk hc
theorem zx1 {s:Str}{k:Nat}{c:UInt8}(h:(bs s)[k]? =some c)(hc:128≤c.toNat):128≤(Utf8.decode s k).1:=by
 obtain⟨hk,rfl⟩:=qxd h;exact(decode_high s k hk hc).1
theorem qhp {c:UInt8}(h:zn8 c=true):c.toNat<128:=by
 simp[zn8,lowB]at h;omega
def lowI (c:Int):Bool:=decide (97≤c)&&decide (c≤122)
def zwg (c:Int):Bool:=lowI c|| (decide (48≤c)&&decide (c≤57))||decide (c=45)
@[simp] theorem plainI_is (c:UInt8):zwg c.toNat=zn8 c:=rfl
@[simp] theorem lowI_is (c:UInt8):lowI c.toNat=lowB c:=rfl
theorem zwf {n:Nat}(h:128≤n):zwg n=false:=by simp[zwg,lowI];omega
def rngB (n m:Int):Bool:=decide (0≤n)&&decide (n≤m)
def zh8 (x:Rule):Bool:=decide (x.split.length≤4)&&x.split.all fun w=>rngB w.w 100
def zco (r:Res):Bool:=rngB r.ver 2147483647&&rngB r.port 65535&&decide (r.rules.length≤8)&&decide (r.hosts.length≤8)&&(r.hosts.all fun h=>rngB h 2147483647)&&r.rules.all zh8
def mayP (k:Int):Bool:=decide (k=0)
def mayT (k:Int):Bool:=decide (k=0)||decide (k=2)
def mayR (k:Int):Bool:=decide (k=1)
def mayH (k:Int):Bool:=decide (k=3)
def zgx (r:Res):Bool:=(decide (r.port=0)||mayP r.kind)&&(decide (bs r.to=[])||mayT r.kind)&&(decide (r.rules.length=0)||mayR r.kind)&&(decide (r.hosts.length=0)||mayH r.kind)
def zn7 (x:Rule):Bool:=zm0 x.host&&zkh x.pre&&x.split.all fun w=>zda w.cluster
def zib (r:Res):Bool:=(!mayT r.kind||zda r.to)&&r.rules.all zn7
def zmg (x:Rule):Bool:=x.split.any fun w=>decide (0<w.w)
def zq2 (x y:Rule):Bool:=decide (x.host=y.host)&&decide (x.pre=y.pre)
def zhq {α:Type}(q:α→α→Bool):List α→List α→Bool
 |_,[]=>true
 |p,x::l=>!(p.any (q x))&&zhq q (p++[x]) l
def zf0 (r:Res):Bool:=r.rules.all zmg&&zhq zq2 [] r.rules&&zhq (fun a b=>decide (a=b)) [] r.hosts
def zbd (r:Res):Int:=
 if rngB r.kind 3=false then 4 else if zda r.name=false then 5 else if zco r=false then 3 else if zgx r=false then 2 else if zib r=false then 5 else if zf0 r=false then 2 else 0
def idxF {α:Type}(p:α→Bool)(l:List α):Int:=match l.findIdx? p with
 |some i=>i
 |none=> -1
theorem zbi {α:Type}{p:α→Bool}{l:List α}(h:∀x∈l,p x=false):idxF p l= -1:=by
 have:l.findIdx? p=none:=by rw[List.findIdx?_eq_none_iff];exact h
 simp[idxF,this]
theorem zsj {α:Type}{p:α→Bool}:∀{l:List α} {k:Nat} {x:α},(l.take k).all (fun x=>!p x)=true→l[k]? =some x→p x=true→l.findIdx? p=some k
 |[],k,x,_,h,_=>by simp at h
 |a::l,0,x,_,h,hp=>by
  simp at h;subst h;simp[List.findIdx?_cons,hp]
 |a::l,k+1,x,h1,h2,hp=>by
  simp at h1 h2;have:=zsj (l:=l) (k:=k) (by simpa using h1.2) h2 hp;simp[List.findIdx?_cons,h1.1,this]
theorem zc2 {α:Type}{p:α→Bool}{l:List α}{k:Nat}{x:α}(h1:(l.take k).all (fun x=>!p x)=true)(h2:l[k]? =some x)(hp:p x=true):idxF p l=k:=by
 simp[idxF,zsj h1 h2 hp]
theorem zgp {α:Type}(p:α→Bool)(l:List α):decide (0≤idxF p l)=l.any p:=by
 rw[Bool.eq_iff_iff,decide_eq_true_eq];unfold idxF;cases h:l.findIdx? p with
 |none=>
  rw[List.findIdx?_eq_none_iff]at h;simp only[List.any_eq_true];constructor
  ·intro h;simp at h
  ·rintro⟨x,hx,hp⟩;rw[h x hx]at hp;cases hp
 |some i=>
  rw[List.findIdx?_eq_some_iff_getElem]at h;obtain⟨hi,hp,_⟩:=h;simp only[List.any_eq_true];exact⟨fun _=>⟨_,List.getElem_mem hi,hp⟩,fun _=>by simp⟩
def cmpK (a b:Key):Int:=if a.kind<b.kind then-1 else if b.kind<a.kind then 1 else cmpS a.name b.name
def putG (k:Key):Bool→List Key→List Key
 |done,[]=>if done then []else [k]
 |done,x::l=>(if 0≤cmpK x k∧done=false then [k]else [])++(if cmpK x k=0 then []else [x])++putG k (done||decide (0≤cmpK x k)) l
def putK (l:List Key)(k:Key):List Key:=putG k false l
theorem zl5 :∀(a b:List UInt8),Lib.compareBytes a b= -1∨Lib.compareBytes a b=0∨Lib.compareBytes a b=1
 |[],[]=>by simp[Lib.compareBytes]
 |[],_::_=>by simp[Lib.compareBytes]
 |_::_,[]=>by simp[Lib.compareBytes]
 |a::l,b::m=>by
  simp only[Lib.compareBytes];split
  ·simp
  ·split
   ·simp
   ·exact zl5 l m
theorem znx :∀{a b:List UInt8},Lib.compareBytes a b=0↔a=b
 |[],[]=>by simp[Lib.compareBytes]
 |[],_::_=>by simp[Lib.compareBytes]
 |_::_,[]=>by simp[Lib.compareBytes]
 |a::l,b::m=>by
  simp only[Lib.compareBytes,List.cons.injEq];split
  ·rename_i h;simp;intro e;subst e;exact absurd h (UInt8.lt_irrefl _)
  ·split
   ·rename_i h;simp;intro e;subst e;exact absurd h (UInt8.lt_irrefl _)
   ·rename_i h1 h2;rw[znx];have:a=b:=by
     simp only[UInt8.lt_iff_toNat_lt]at h1 h2;exact UInt8.toNat_inj.1 (by omega)
    simp[this]
theorem qj3 {a b:Str}:cmpS a b=0↔a=b:=by rw[cmpS,znx,←zvi]
theorem cmpK_zero {a b:Key}:cmpK a b=0↔a=b:=by
 obtain⟨x,s⟩:=a;obtain⟨y,t⟩:=b;simp only[cmpK,Key.mk.injEq];split
 ·rename_i h;simp;intro e;omega
 ·split
  ·rename_i h;simp;intro e;omega
  ·rw[qj3];have:x=y:=by omega
   simp[this]
theorem zen (a b:Key):cmpK a b= -1∨cmpK a b=0∨cmpK a b=1:=by
 unfold cmpK;split
 ·simp
 ·split
  ·simp
  ·exact zl5 _ _
theorem qix {p:Prop} [Decidable p](y:Key):(if p then []else [y]).length≤1:=by split<;>simp
theorem zp0 (k:Key):∀(l:List Key),(putG k true l).length≤l.length
 |[]=>by simp[putG]
 |y::l=>by
  have h1:=zp0 k l;have h2:=qix (p:=cmpK y k=0) y;simp only[putG,List.length_append,List.length_cons,Bool.true_or,Bool.true_eq_false,and_false,if_false,List.length_nil];omega
theorem zp1 (k:Key):∀(d:Bool) (l:List Key),(putG k d l).length≤l.length+1
 |true,l=>Nat.le_succ_of_le (zp0 k l)
 |false,[]=>by simp[putG]
 |false,x::l=>by
  have h1:=zp1 k false l;have h2:=zp0 k l;have h3:=qix (p:=cmpK x k=0) x;simp only[putG,List.length_append,List.length_cons,Bool.false_or,and_true];by_cases hc:0≤cmpK x k
  ·simp only[hc,decide_true,if_true,List.length_cons,List.length_nil];omega
  ·simp only[hc,decide_false,if_false,List.length_nil];omega
def zgl (out:List Key)(w:Weight):List Key:=if 0<w.w then putK out ⟨2,w.cluster⟩else out
def zq8 (r:Res):List Key:=if mayT r.kind then [⟨r.kind+1,r.to⟩]else []
def zbs (r:Res):List Key:=if zbd r=0 then(r.rules.flatMap (·.split)).foldl zgl (zq8 r)else []
theorem zpy (out:List Key)(w:Weight):(zgl out w).length≤out.length+1:=by
 unfold zgl;split
 ·exact zp1 _ _ _
 ·omega
theorem zg8 {r:Res}(h:zbd r=0):rngB r.kind 3=true∧zda r.name=true∧zco r=true∧zgx r=true∧zib r=true∧zf0 r=true:=by
 unfold zbd at h
 (repeat' split at h)<;>simp_all
theorem qib {s:Str}(h:zda s=true):(bs s).length≤12:=by
 simp[zda,zha]at h;exact h.1.1.2
theorem qcc :∀(l:List Weight) (o:List Key),(l.foldl zgl o).length≤o.length+l.length
 |[],o=>by simp
 |w::l,o=>by
  have h1:=qcc l (zgl o w);have h2:=zpy o w;simp only[List.foldl_cons,List.length_cons];omega
theorem zuk :∀{l:List Rule},(∀x∈l,x.split.length≤4)→(l.flatMap (·.split)).length≤4*l.length
 |[],_=>by simp
 |x::l,h=>by
  have h1:=zuk (l:=l) (fun y hy=>h y (by simp[hy]));have h2:=h x (by simp);simp only[List.flatMap_cons,List.length_append,List.length_cons];omega
def qbd (r:Res)(k:Nat):List Key:=((r.rules.take k).flatMap (·.split)).foldl zgl (zq8 r)
theorem qg8 (r:Res):(zq8 r).length≤1:=by unfold zq8;split<;>simp
theorem qdq {r:Res}(k:Nat)(h1:r.rules.length≤8)(h:∀x∈r.rules,x.split.length≤4):(qbd r k).length≤33:=by
 have h2:=qcc ((r.rules.take k).flatMap (·.split)) (zq8 r);have h3:=qg8 r;have h4:=zuk (l:=r.rules.take k) (fun x hx=>h x (List.mem_of_mem_take hx));have h5:(r.rules.take k).length≤8:=Nat.le_trans (by simp;omega) h1;unfold qbd;omega
theorem qls {r:Res}(h:zbd r=0):zbs r=qbd r r.rules.length:=by simp[zbs,qbd,h]
def zfg (x:Rule):Bool:=decide (x.split.length≤20)&&decide ((bs x.host).length≤100)&&decide ((bs x.pre).length≤100)
def zgq (r:Res):Bool:=r.rules.all zfg&&decide (r.rules.length≤20)&&decide (r.hosts.length≤20)&&decide ((bs r.name).length≤100)&&decide ((bs r.to).length≤100)
abbrev nB (s:Str):Prop:=(bs s).length≤9223372036854775807
structure OkRes (r:Res):Prop where
 name:nB r.name
 to:nB r.to
 rules:r.rules.length≤9223372036854775807
 split:∀x∈r.rules,x.split.length≤9223372036854775807
 hosts:r.hosts.length≤9223372036854775807
structure OkRs (l:List Res):Prop where
 len:l.length≤9223372036854775807
 all:∀r∈l,OkRes r
def zRes :Res:=⟨0,⟨#[]⟩,0,0,⟨#[]⟩,[],[]⟩
def za9 (a b:Res):Bool:=decide (a.kind=b.kind)&&decide (a.name=b.name)&&decide (a.port=b.port)&&decide (a.to=b.to)&&decide (a.hosts=b.hosts)&&decide (a.rules=b.rules)
theorem zst (a b:Res):(za9 a b&&decide (a.ver=b.ver))=decide (a=b):=by
 rw[Bool.eq_iff_iff];obtain⟨a1,a2,a3,a4,a5,a6,a7⟩:=a;obtain⟨b1,b2,b3,b4,b5,b6,b7⟩:=b;simp[za9];constructor
 ·rintro⟨⟨⟨⟨⟨⟨h1,h2⟩,h3⟩,h4⟩,h5⟩,h6⟩,h7⟩;exact⟨h1,h2,h7,h3,h4,h6,h5⟩
 ·rintro⟨h1,h2,h7,h3,h4,h6,h5⟩;exact⟨⟨⟨⟨⟨⟨h1,h2⟩,h3⟩,h4⟩,h5⟩,h6⟩,h7⟩
def fewL (l:List Res):Bool:=l.all zgq&&decide (l.length≤80)
def getR (l:List Res)(k:Key):Option Res:=l.find? fun r=>decide (r.key=k)
abbrev getA (l:List Res)(k:Key):AV:=.tup [st (resC ((getR l k).getD zRes)),bool (getR l k).isSome]
abbrev zju (l:List Res)(k:Key)(c:Int):List Res:=l.filter fun r=>decide (cmpK r.key k=c)
abbrev zfk (l:List Res)(r:Res):List Res:=zju l r.key (-1)++[r]++zju l r.key 1
abbrev zcq (l:List Res)(k:Key):List Res:=l.filter fun r=>!decide (r.key=k)
def zak (l adds:List Res)(gone:List Key):List Res:=adds.foldl zfk (gone.foldl zcq l)
abbrev zmu (l:List Res)(k:Key):List Key:=(l.filter fun r=>decide (k∈zbs r)).map Res.key
theorem zsa (a b:Key):(decide (a.kind=b.kind)&&decide (a.name=b.name))=decide (a=b):=by
 obtain⟨p,q⟩:=a;obtain⟨u,v⟩:=b;simp[Key.mk.injEq]
theorem zu7 (l:List Res)(r:Res):(zfk l r).length≤l.length+1:=by
 have h:∀l:List Res,(zju l r.key (-1)).length+(zju l r.key 1).length≤l.length:=by
  intro l;induction l with
  |nil=>simp
  |cons a l ih=>
   simp only[zju,List.filter_cons]at ih⊢;by_cases h1:cmpK a.key r.key= -1
   ·have h2:¬cmpK a.key r.key=1:=by omega
    simp[h1]at ih⊢;omega
   ·by_cases h2:cmpK a.key r.key=1
    ·simp[h2]at ih⊢;omega
    ·simp[h1,h2]at ih⊢;omega
 have:=h l;simp only[zfk,List.length_append,List.length_cons,List.length_nil];omega
theorem zyp (l:List Res)(k:Key):(zcq l k).length≤l.length:=List.length_filter_le _ _
theorem zdx :∀(g:List Key) (l:List Res),(g.foldl zcq l).length≤l.length
 |[],l=>by simp
 |k::g,l=>Nat.le_trans (zdx g _) (zyp l k)
theorem zft :∀(a l:List Res),(a.foldl zfk l).length≤l.length+a.length
 |[],l=>by simp
 |r::a,l=>by
  have h1:=zft a (zfk l r);have h2:=zu7 l r;simp only[List.foldl_cons,List.length_cons];omega
theorem zqm {α:Type}{p:α→Bool}{l:List α}(h:l.all (fun x=>!p x)=true):l.find? p=none:=by
 rw[List.find?_eq_none];intro x hx;have:=List.all_eq_true.1 h x hx;simpa using this
theorem zum {α:Type}{p:α→Bool}:∀{l:List α} {k:Nat} {x:α},(l.take k).all (fun x=>!p x)=true→l[k]? =some x→p x=true→l.find? p=some x
 |[],k,x,_,h,_=>by simp at h
 |a::l,0,x,_,h,hp=>by simp at h;subst h;simp[List.find?_cons,hp]
 |a::l,k+1,x,h1,h2,hp=>by
  simp at h1 h2;have:=zum (l:=l) (k:=k) (by simpa using h1.2) h2 hp;simp[List.find?_cons,h1.1,this]
theorem qo5 (a b:Key):(!decide (a.kind=b.kind)|| !decide (a.name=b.name))= !decide (a=b):=by rw[←zsa,Bool.not_and]
theorem zhb (r:Res):(zbs r).length≤33:=by
 by_cases h:zbd r=0
 ·rw[qls h];have hs:=(zg8 h).2.2.1;simp only[zco,Bool.and_eq_true,decide_eq_true_eq,List.all_eq_true]at hs;refine qdq _ hs.1.1.1.2 (fun x hx=>?_);have:=hs.2 x hx;simp only[zh8,Bool.and_eq_true,decide_eq_true_eq]at this;exact this.1
 ·simp[zbs,h]
theorem qra (r:Res):(zbs r).length≤9223372036854775807:=Nat.le_trans (zhb r) (by omega)
@[simp] theorem lenAll_keyc {α:Type}(g:α→Key)(l:List α):zb2 (l.map (keyC∘g)) 2=True:=zbv (f:=keyC∘g) (n:=2) (fun _=>rfl) l
structure OkFrame (f:Frame):Prop where
 adds:OkRs f.adds
 gone:f.gone.length≤9223372036854775807
 have_:f.have_.length≤9223372036854775807
 held:f.held.length≤9223372036854775807
structure OkView (v:View):Prop where
 have_:OkRs v.have_
 held:v.held.length≤9223372036854775807
 push:OkFrame v.push
def zFrame :Frame:=⟨0,0,0,0,0,[],[],0,[],[]⟩
def zn5 (v:View)(f:Frame):View:={v with push:=f,open_:=true}
def zai (v:View)(t:Int)(h:List Key):View:=if v.turn<t then{v with turn:=t,held:=h}else v
def fitF (v:View)(f:Frame):Bool:=decide (f.type=2)&&decide (f.epoch=v.push.epoch)&&decide (f.kind=v.push.kind)&&decide (f.nonce=v.push.nonce)
def ansV (v:View)(f:Frame):View:=
 if v.open_=false then v else if fitF v f=false then v
 else{zai ⟨v.have_,v.held,v.turn,zFrame,false⟩ f.turn f.held with have_:=if f.err=0 then zak v.have_ v.push.adds v.push.gone else v.have_}
def ansE (v:View)(f:Frame):Int:=if v.open_=false then 15 else if fitF v f=false then 11 else f.err
theorem qsg (a b:Mark):(decide (a.k.kind=b.k.kind)&&decide (a.k.name=b.k.name)&&decide (a.ver=b.ver))=decide (a=b):=by
 obtain⟨⟨p,q⟩,r⟩:=a;obtain⟨⟨u,v⟩,w⟩:=b;simp[Mark.mk.injEq,Key.mk.injEq]
@[simp] theorem drain_have (v:View)(t:Int)(h:List Key):(zai v t h).have_=v.have_:=by unfold zai;split<;>rfl
@[simp] theorem qen (v:View)(t:Int)(h:List Key):(zai v t h).push=v.push:=by unfold zai;split<;>rfl
@[simp] theorem drain_open (v:View)(t:Int)(h:List Key):(zai v t h).open_=v.open_:=by unfold zai;split<;>rfl
theorem zjm {α:Type}(p:α→Bool)(l:List α):(idxF p l= -1∧l.find? p=none)∨∃(i:Nat) (x:α),idxF p l=i∧i<l.length∧l[i]? =some x∧l.find? p=some x:=by
 induction l with
 |nil=>left;simp[idxF]
 |cons a l ih=>
  by_cases h:p a=true
  ·right;exact⟨0,a,by simp[idxF,List.findIdx?_cons,h],by simp,by simp,by simp[h]⟩
  ·have h':p a=false:=by simpa using h
   rcases ih with⟨h1,h2⟩|⟨i,x,h1,h2,h3,h4⟩
   ·left;refine⟨?_,by simp[h',h2]⟩;unfold idxF at h1⊢;simp only[List.findIdx?_cons,h'];cases hf:l.findIdx? p with
    |none=>simp
    |some j=>rw[hf]at h1;simp at h1<;>omega
   ·right;refine⟨i+1,x,?_,by simp;omega,by simpa using h3,by simp[h',h4]⟩;unfold idxF at h1⊢;simp only[List.findIdx?_cons,h'];cases hf:l.findIdx? p with
    |none=>rw[hf]at h1;simp at h1<;>omega
    |some j=>rw[hf]at h1;simp at h1⊢;omega
variable {α : Type}
structure DelSt (p:α→Bool)(l:List α)(j i:Nat)(cur:List α):Prop where
 len:cur.length=l.length
 lt:i<j
 le:j≤l.length
 pre:cur.take i=(l.take j).filter fun x=>!p x
 suf:cur.drop j=l.drop j
theorem DelSt.start {p:α→Bool}{l:List α}{i:Nat}{x:α}(h:idxF p l=i)(hi:i<l.length):DelSt p l (i+1) i l:=by
 have key:∀(l:List α) (i:Nat),idxF p l=i→i<l.length→l.take i=(l.take (i+1)).filter fun x=>!p x:=by
  intro l;induction l with
  |nil=>intro i h hi;simp at hi
  |cons a l ih=>
   intro i h hi;unfold idxF at h;by_cases ha:p a=true
   ·simp only[List.findIdx?_cons,ha,if_true]at h;have:i=0:=by omega
    subst this;simp[ha]
   ·have ha':p a=false:=by simpa using ha
    simp only[List.findIdx?_cons,ha']at h;cases hf:l.findIdx? p with
    |none=>rw[hf]at h;simp at h<;>omega
    |some q=>
     rw[hf]at h;have e:i=q+1:=by simp at h;omega
     subst e;have:=ih q (by simp[idxF,hf]) (by simpa using hi);simp[ha',this]
 exact⟨rfl,by omega,by omega,key l i h hi,rfl⟩
theorem DelSt.get {p:α→Bool}{l:List α}{j i:Nat}{cur:List α}(h:DelSt p l j i cur){v:α}(hv:l[j]? =some v):cur[j]? =some v:=by
 have h1:(cur.drop j)[0]? =(l.drop j)[0]? :=by rw[h.suf]
 simpa[hv]using h1
theorem DelSt.del {p:α→Bool}{l:List α}{j i:Nat}{cur:List α}(h:DelSt p l j i cur){v:α}(hv:l[j]? =some v)(hp:p v=true):DelSt p l (j+1) i cur:=by
 have hj:j<l.length:=(List.getElem?_eq_some_iff.1 hv).1;refine⟨h.len,by have:=h.lt;omega,by omega,?_,?_⟩
 ·rw[h.pre,List.take_add_one,hv];simp[hp]
 ·have:=congrArg (List.drop 1) h.suf
  rwa[List.drop_drop,List.drop_drop]at this
theorem DelSt.keep {p:α→Bool}{l:List α}{j i:Nat}{cur:List α}(h:DelSt p l j i cur){v:α}(hv:l[j]? =some v)(hp:p v=false):DelSt p l (j+1) (i+1) (cur.set i v):=by
 have hj:j<l.length:=(List.getElem?_eq_some_iff.1 hv).1;have hlt:=h.lt;have hlen:=h.len;refine⟨by simp[hlen],by omega,by omega,?_,?_⟩
 ·rw[List.take_add_one (l:=l),hv];have:(cur.set i v).take (i+1)=cur.take i++[v]:=by
   rw[List.take_add_one];have h1:(cur.set i v)[i]? =some v:=by simp[show i<cur.length by omega]
   rw[h1,List.take_set_of_le (Nat.le_refl i)];rfl
  rw[this,h.pre];simp[hp]
 ·rw[List.drop_set_of_lt (by omega)];have:=congrArg (List.drop 1) h.suf
  rwa[List.drop_drop,List.drop_drop]at this
theorem DelSt.done {p:α→Bool}{l:List α}{i:Nat}{cur:List α}(h:DelSt p l l.length i cur):cur.take i=l.filter fun x=>!p x:=by
 rw[h.pre,List.take_length]
end Go.G
namespace Go.G
open Go.AI Go.Sort
def ltOf (cf:Key→Key→Int)(x y:Key):Bool:=decide (cf x y<0)
theorem zny :∀(a b:List UInt8),Lib.compareBytes b a= -Lib.compareBytes a b
 |[],[]=>by simp[Lib.compareBytes]
 |[],_::_=>by simp[Lib.compareBytes]
 |_::_,[]=>by simp[Lib.compareBytes]
 |a::l,b::m=>by
  simp only[Lib.compareBytes,UInt8.lt_iff_toNat_lt];by_cases h1:a.toNat<b.toNat
  ·have h2:¬b.toNat<a.toNat:=by omega
   simp[h1,h2]
  ·by_cases h2:b.toNat<a.toNat
   ·simp[h1,h2]
   ·simp[h1,h2];exact zny l m
theorem zl4 :∀{a b c:List UInt8},Lib.compareBytes a b= -1→Lib.compareBytes b c= -1→Lib.compareBytes a c= -1
 |[],[],_,h,_=>by simp[Lib.compareBytes]at h
 |[],_::_,[],_,h=>by simp[Lib.compareBytes]at h
 |[],_::_,_::_,_,_=>by simp[Lib.compareBytes]
 |_::_,[],_,h,_=>by simp[Lib.compareBytes]at h
 |_::_,_::_,[],_,h=>by simp[Lib.compareBytes]at h
 |a::l,b::m,c::n,h1,h2=>by
  simp only[Lib.compareBytes,UInt8.lt_iff_toNat_lt]at h1 h2⊢;by_cases p1:a.toNat<b.toNat
  ·by_cases p2:b.toNat<c.toNat
   ·simp[show a.toNat<c.toNat by omega]
   ·by_cases p3:c.toNat<b.toNat
    ·simp[p2,p3]at h2
    ·simp[show a.toNat<c.toNat by omega]
  ·by_cases p1':b.toNat<a.toNat
   ·simp[p1,p1']at h1
   ·by_cases p2:b.toNat<c.toNat
    ·simp[show a.toNat<c.toNat by omega]
    ·by_cases p3:c.toNat<b.toNat
     ·simp[p2,p3]at h2
     ·have q1:¬a.toNat<c.toNat:=by omega
      have q2:¬c.toNat<a.toNat:=by omega
      simp only[p1,p1',p2,p3,q1,q2,if_false]at h1 h2⊢;exact zl4 h1 h2
theorem zi5 (a b:Key):cmpK b a= -cmpK a b:=by
 unfold cmpK;by_cases h1:a.kind<b.kind
 ·have h2:¬b.kind<a.kind:=by omega
  simp[h1,h2]
 ·by_cases h2:b.kind<a.kind
  ·simp[h1,h2]
  ·simp[h1,h2,cmpS];exact zny _ _
theorem zdg {a b c:Key}(h1:cmpK a b= -1)(h2:cmpK b c= -1):cmpK a c= -1:=by
 unfold cmpK at*;by_cases p1:a.kind<b.kind
 ·by_cases p2:b.kind<c.kind
  ·simp[show a.kind<c.kind by omega]
  ·by_cases p3:c.kind<b.kind
   ·simp[p2,p3]at h2
   ·simp[show a.kind<c.kind by omega]
 ·by_cases p1':b.kind<a.kind
  ·simp[p1,p1']at h1
  ·by_cases p2:b.kind<c.kind
   ·simp[show a.kind<c.kind by omega]
   ·by_cases p3:c.kind<b.kind
    ·simp[p2,p3]at h2
    ·have q1:¬a.kind<c.kind:=by omega
     have q2:¬c.kind<a.kind:=by omega
     simp only[p1,p1',p2,p3,q1,q2,if_false]at h1 h2⊢;exact zl4 h1 h2
theorem zd8 (a:Key):cmpK a a=0:=cmpK_zero.2 rfl
theorem qnr (a b:Key):(cmpK a b<0)↔cmpK a b= -1:=by
 have:=zen a b;omega
theorem zw7 (a b:Key):ltOf cmpK a b=decide (cmpK a b= -1):=by
 unfold ltOf;rw[Bool.eq_iff_iff];simp[qnr]
theorem qsh {a b:Key}(h1:ltOf cmpK a b=false)(h2:ltOf cmpK b a=false):a=b:=by
 rw[zw7]at h1 h2;have e:=zi5 a b;have r:=zen a b;simp at h1 h2;exact cmpK_zero.1 (by omega)
theorem swoK :SWO (ltOf cmpK) where
 irrefl x:=by rw[zw7,zd8];simp
 trans x y z h1 h2:=by
  rw[zw7]at*;simp at*;exact zdg h1 h2
 ntrans x y z h1 h2:=by
  cases h:ltOf cmpK x z
  ·rfl
  ·exfalso;rw[zw7]at*;simp at*;rcases zen y x with a|a|a
   ·have:=zdg a h;exact h2 this
   ·have e:=cmpK_zero.1 a;subst e;exact h2 h
   ·have:=zi5 y x;omega
def zk2 (l:List Key):List Key:=l.mergeSort fun x y=>!(ltOf cmpK) y x
theorem zex (l:List Key):(zk2 l).length=l.length:=List.length_mergeSort l
theorem zw2 {l:List Key}{k:Key}:k∈zk2 l↔k∈l:=List.mem_mergeSort
theorem qmt (l:List Key):(zk2 l).Pairwise fun x y=>(!(ltOf cmpK) y x)=true:=by
 refine List.pairwise_mergeSort (le:=fun x y=>!(ltOf cmpK) y x) ?_ ?_ l
 ·intro a b c h1 h2;simp only[Bool.not_eq_true']at*;exact swoK.ntrans _ _ _ h2 h1
 ·intro a b;cases h:ltOf cmpK b a
  ·simp
  ·cases h2:ltOf cmpK a b
   ·simp
   ·have:=swoK.trans _ _ _ h h2;rw[swoK.irrefl]at this;cases this
def Asc (l:List Key):Prop:=l.Pairwise fun x y=>cmpK x y= -1
theorem zjp :∀{a b:List Key},Asc a→Asc b→(∀k,k∈a↔k∈b)→a=b
 |[],[],_,_,_=>rfl
 |[],y::b,_,_,h=>by have:=(h y).2 (by simp);simp at this
 |x::a,[],_,_,h=>by have:=(h x).1 (by simp);simp at this
 |x::a,y::b,ha,hb,h=>by
  obtain⟨hx,ha'⟩:=List.pairwise_cons.1 ha;obtain⟨hy,hb'⟩:=List.pairwise_cons.1 hb;have irr:∀z:Key,¬cmpK z z= -1:=fun z=>by rw[zd8];decide
  have e:x=y:=by
   rcases List.mem_cons.1 ((h x).1 (by simp))with e|e
   ·exact e
   ·rcases List.mem_cons.1 ((h y).2 (by simp))with e'|e'
    ·exact e'.symm
    ·exact absurd (zdg (hx y e') (hy x e)) (irr x)
  subst e;congr 1
  refine zjp ha' hb' fun k=>?_;constructor
  ·intro hk;rcases List.mem_cons.1 ((h k).1 (by simp[hk]))with e|e
   ·subst e;exact absurd (hx _ hk) (irr _)
   ·exact e
  ·intro hk;rcases List.mem_cons.1 ((h k).2 (by simp[hk]))with e|e
   ·subst e;exact absurd (hy _ hk) (irr _)
   ·exact e
def zh4 (p:Option Key):List Key→List Key
 |[]=>[]
 |x::l=>(if p=some x then []else [x])++zh4 (some x) l
def zgf (l:List Key):List Key:=zh4 none l
def zzt (p:Option Key)(l:List Key):Option Key:=match l.getLast? with
 |some x=>some x
 |none=>p
theorem zsn (x:Key):∀(l:List Key) (p:Option Key),zh4 p (l++[x])=zh4 p l++(if zzt p l=some x then []else [x])
 |[],p=>by by_cases h:p=some x<;>simp[zh4,zzt,h]
 |y::l,p=>by
  simp only[List.cons_append,zh4];rw[zsn x l (some y)];have:zzt (some y) l=zzt p (y::l):=by
   unfold zzt;rw[List.getLast?_cons];cases l.getLast? <;>simp
  rw[this];simp
theorem zw5 {k:Key}:∀{l:List Key} {p:Option Key},k∈zh4 p l→k∈l
 |[],p,h=>by simp[zh4]at h
 |x::l,p,h=>by
  simp only[zh4,List.mem_append]at h;rcases h with h|h
  ·split at h<;>simp at h;subst h;simp
  ·simp[zw5 h]
theorem zr7 {k:Key}:∀{l:List Key} {p:Option Key},k∈l→k∈zh4 p l∨p=some k
 |[],p,h=>by simp at h
 |x::l,p,h=>by
  simp only[zh4,List.mem_append];rcases List.mem_cons.1 h with e|e
  ·subst e;by_cases hp:p=some k
   ·exact .inr hp
   ·simp[hp]
  ·rcases zr7 (p:=some x) e with h|h
   ·exact .inl (.inr h)
   ·by_cases hp:p=some x
    ·exact .inr (by rw[hp,h])
    ·have:x=k:=Option.some.inj h;exact .inl (.inl (by rw[this]at hp;simp[hp,this]))
theorem zw4 {k:Key}{l:List Key}:k∈zgf l↔k∈l:=
 ⟨zw5,fun h=>(zr7 (p:=none) h).resolve_right (by simp)⟩
theorem zyh :∀{l:List Key} {p:Option Key},l.Pairwise (fun x y=>(!(ltOf cmpK) y x)=true)→Asc (zh4 p l)∧∀q,p=some q→(∀x∈l,(!(ltOf cmpK) x q)=true)→∀x∈zh4 p l,cmpK q x= -1
 |[],p,_=>⟨by simp[zh4,Asc],fun q _ _ x h=>by simp[zh4]at h⟩
 |x::l,p,h=>by
  obtain⟨hx,hl⟩:=List.pairwise_cons.1 h;obtain⟨h1,h2⟩:=zyh (p:=some x) hl;have h3:=h2 x rfl hx;refine⟨?_,fun q hq hlq y hy=>?_⟩
  ·simp only[zh4];split
   ·simpa using h1
   ·exact List.pairwise_cons.2 ⟨h3,h1⟩
  ·simp only[zh4,List.mem_append]at hy;have lt:∀z,(!(ltOf cmpK) z q)=true→z≠q→cmpK q z= -1:=fun z hz hne=>by
    rw[zw7]at hz;simp at hz;rcases zen q z with a|a|a
    ·exact a
    ·exact absurd (cmpK_zero.1 a).symm hne
    ·have:=zi5 q z;omega
   rcases hy with hy|hy
   ·split at hy
    ·simp at hy
    ·rename_i hne;simp at hy;subst hy;exact lt _ (hlq _ (by simp)) (fun e=>hne (by rw[hq,e]))
   ·by_cases e:x=q
    ·rw[←e];exact h3 y hy
    ·exact zdg (lt x (hlq x (by simp)) e) (h3 y hy)
theorem qcs (l:List Key):Asc (zgf (zk2 l)):=(zyh (qmt l)).1
theorem zhw (k:Key):∀{l:List Key},Asc l→(∀x∈l,cmpK k x= -1)→putG k true l=l
 |[],_,_=>by simp[putG]
 |x::l,h,hk=>by
  obtain⟨_,hl⟩:=List.pairwise_cons.1 h;have h0:¬cmpK x k=0:=by
   intro e;have:=hk x (by simp);rw[cmpK_zero.1 e,zd8]at this;omega
  have:=zhw k hl (fun y hy=>hk y (by simp[hy]));simp[putG,h0,this]
theorem zv8 (k:Key):∀{l:List Key},Asc l→Asc (putK l k)∧∀x,x∈putK l k↔x=k∨x∈l
 |[],_=>by simp[putK,putG,Asc]
 |x::l,h=>by
  obtain⟨hx,hl⟩:=List.pairwise_cons.1 h;obtain⟨h1,h2⟩:=zv8 k hl;rcases zen x k with a|a|a
  ·have e:putK (x::l) k=x::putK l k:=by simp[putK,putG,a]
   rw[e];refine⟨List.pairwise_cons.2 ⟨fun y hy=>?_,h1⟩,fun y=>?_⟩
   ·rcases(h2 y).1 hy with e|e
    ·rw[e];exact a
    ·exact hx y e
   ·simp only[List.mem_cons,h2];constructor
    ·rintro(h|h|h)<;>simp[h]
    ·rintro(h|h|h)<;>simp[h]
  ·have e:=cmpK_zero.1 a;subst e;have:putG x true l=l:=zhw x hl hx;have e:putK (x::l) x=x::l:=by simp[putK,putG,zd8,this]
   rw[e];exact⟨h,fun y=>by simp⟩
  ·have b:cmpK k x= -1:=by have:=zi5 x k;omega
   have:putG k true l=l:=zhw k hl (fun y hy=>zdg b (hx y hy));have e:putK (x::l) k=k::x::l:=by simp[putK,putG,a,this]
   rw[e];refine⟨List.pairwise_cons.2 ⟨fun y hy=>?_,h⟩,fun y=>by simp⟩;rcases List.mem_cons.1 hy with e|e
   ·rw[e];exact b
   ·exact zdg b (hx y e)
theorem zhl :∀(l:List Key) {o:List Key},Asc o→Asc (l.foldl putK o)∧∀x,x∈l.foldl putK o↔x∈o∨x∈l
 |[],o,h=>⟨h,fun x=>by simp⟩
 |k::l,o,h=>by
  obtain⟨h1,h2⟩:=zv8 k h;obtain⟨h3,h4⟩:=zhl l h1;refine⟨h3,fun x=>?_⟩;rw[List.foldl_cons,h4,h2];simp only[List.mem_cons];constructor
  ·rintro((h|h)|h)<;>simp[h]
  ·rintro(h|h|h)<;>simp[h]
theorem zx4 (l:List Key):zgf (zk2 l)=l.foldl putK []:=by
 obtain⟨h1,h2⟩:=zhl l (o:=[]) (by simp[Asc]);refine zjp (qcs l) h1 fun k=>?_;rw[zw4,zw2,h2];simp
theorem zx3 {l m:List Key}(hm:Asc m)(h:∀k,k∈m↔k∈l):zgf (zk2 l)=m:=
 zjp (qcs l) hm fun k=>by rw[zw4,zw2,h]
end Go.G
namespace Go.G
abbrev toKey (w:Weight):Key:=⟨2,w.cluster⟩
theorem zxs :∀(l:List Weight) (o:List Key),l.foldl zgl o=((l.filter fun w=>decide (0<w.w)).map toKey).foldl putK o
 |[],o=>rfl
 |w::l,o=>by
  rw[List.foldl_cons,zxs l];by_cases h:0<w.w<;>simp[zgl,h]
def outP (r:Res)(k:Nat):List Key:=(if bs r.to=[]then []else [⟨r.kind+1,r.to⟩])++(((r.rules.take k).flatMap (·.split)).filter fun w=>decide (0<w.w)).map toKey
theorem zwk {r:Res}(h:zbd r=0):zgf (zk2 (outP r r.rules.length))=zbs r:=by
 obtain⟨_,_,_,h4,h5,_⟩:=zg8 h;have e0:(if bs r.to=[]then([]:List Key)else [⟨r.kind+1,r.to⟩])=zq8 r:=by
  unfold zq8;by_cases ht:mayT r.kind=true
  ·have hn:zda r.to=true:=by simp[zib,ht]at h5;exact h5.1
   have:¬bs r.to=[]:=by intro e;simp[zda,zha,e]at hn
   rw[if_neg this,if_pos ht]
  ·have:bs r.to=[]:=by simp[zgx,ht]at h4;exact h4.1.1.2
   rw[if_pos this,if_neg ht]
 have e1:zbs r=(((r.rules.flatMap (·.split)).filter fun w=>decide (0<w.w)).map toKey).foldl putK (zq8 r):=by
  rw[zbs,if_pos h,zxs]
 have h0:Asc (zq8 r):=by unfold zq8;split<;>simp[Asc]
 obtain⟨h1,h2⟩:=zhl (((r.rules.flatMap (fun x:Rule=>x.split)).filter fun w:Weight=>decide (0<w.w)).map toKey) h0;rw[e1];refine zx3 h1 fun k=>?_;rw[h2,outP,e0,List.take_length,List.mem_append]
def noR (l:List Res)(k:Key):Bool:=!(getR l k).isSome
def zlk (l all:List Res):List Key:=(l.flatMap zbs).filter (noR all)
def zra (l:List Res):List Key:=(zlk l l).foldl putK []
theorem zwj (r:Res):outP r 0=if bs r.to=[]then []else [⟨r.kind+1,r.to⟩]:=by simp[outP]
theorem qhq {r:Res}{k:Nat}{x:Rule}(h:r.rules.take (k+1)=r.rules.take k++[x]):outP r (k+1)=outP r k++(x.split.filter fun w=>decide (0<w.w)).map toKey:=by
 simp[outP,h,List.flatMap_append,List.filter_append]
theorem qbj {r:Res}(k:Nat)(h1:r.rules.length≤8)(h:∀x∈r.rules,x.split.length≤4):(outP r k).length≤33:=by
 have h4:=zuk (l:=r.rules.take k) (fun x hx=>h x (List.mem_of_mem_take hx));have h5:(r.rules.take k).length≤8:=Nat.le_trans (by simp;omega) h1;have h6:=List.length_filter_le (fun w:Weight=>decide (0<w.w)) ((r.rules.take k).flatMap (·.split));simp only[outP,List.length_append,List.length_map];split<;>simp<;>omega
structure CompSt (l:List Key)(j i:Nat)(cur:List Key):Prop where
 len:cur.length=l.length
 lt:i<j
 le:j≤l.length
 pre:cur.take i=zgf (l.take j)
 suf:cur.drop (j-1)=l.drop (j-1)
theorem qd7 {l:List Key}{j:Nat}{q:Key}(h0:0<j)(hq:l[j-1]? =some q):zzt none (l.take j)=some q:=by
 unfold zzt;have hj:j-1<l.length:=(List.getElem?_eq_some_iff.1 hq).1;have:(l.take j).getLast? =some q:=by
  rw[List.getLast?_eq_getElem?,List.length_take,List.getElem?_take];rw[if_pos (by omega),show min j l.length-1=j-1 by omega];exact hq
 rw[this]
theorem zl7 {l:List Key}{j:Nat}{v q:Key}(h0:0<j)(hq:l[j-1]? =some q)(hv:l[j]? =some v):zgf (l.take (j+1))=zgf (l.take j)++(if q=v then []else [v]):=by
 rw[List.take_add_one,hv];show zh4 none (l.take j++[v])=_;rw[zsn,qd7 h0 hq];simp[zgf]
theorem CompSt.get {l:List Key}{j i:Nat}{cur:List Key}(h:CompSt l j i cur){v:Key}(hv:l[j]? =some v):cur[j]? =some v:=by
 have h1:(cur.drop (j-1))[1]? =(l.drop (j-1))[1]? :=by rw[h.suf]
 have:=h.lt;rw[List.getElem?_drop,List.getElem?_drop,show j-1+1=j by omega]at h1;rw[h1,hv]
theorem CompSt.get' {l:List Key}{j i:Nat}{cur:List Key}(h:CompSt l j i cur){v:Key}(hv:l[j-1]? =some v):cur[j-1]? =some v:=by
 have h1:(cur.drop (j-1))[0]? =(l.drop (j-1))[0]? :=by rw[h.suf]
 rw[List.getElem?_drop,List.getElem?_drop]at h1;simpa[hv]using h1
theorem CompSt.start {l:List Key}{j:Nat}{q:Key}(h0:0<j)(hp:zgf (l.take j)=l.take j)(h1:l[j-1]? =some q)(h2:l[j]? =some q):CompSt l (j+1) j l:=
 ⟨rfl,by omega,by have:=(List.getElem?_eq_some_iff.1 h2).1;omega,by rw[zl7 h0 h1 h2,hp];simp,rfl⟩
theorem CompSt.same {l:List Key}{j i:Nat}{cur:List Key}(h:CompSt l j i cur){v:Key}(hv:l[j]? =some v)(hq:l[j-1]? =some v):CompSt l (j+1) i cur:=by
 have hj:j<l.length:=(List.getElem?_eq_some_iff.1 hv).1;have:=h.lt;refine⟨h.len,by omega,by omega,by rw[zl7 (by omega) hq hv,h.pre];simp,?_⟩;have:=congrArg (List.drop 1) h.suf;rw[List.drop_drop,List.drop_drop,show j-1+1=j by omega]at this;simpa using this
theorem CompSt.keep {l:List Key}{j i:Nat}{cur:List Key}(h:CompSt l j i cur){v q:Key}(hv:l[j]? =some v)(hq:l[j-1]? =some q)(hne:¬q=v):CompSt l (j+1) (i+1) (cur.set i v):=by
 have hj:j<l.length:=(List.getElem?_eq_some_iff.1 hv).1;have hlt:=h.lt;have hlen:=h.len;refine⟨by simp[hlen],by omega,by omega,?_,?_⟩
 ·rw[zl7 (by omega) hq hv,if_neg hne,←h.pre];have h1:(cur.set i v)[i]? =some v:=by simp[show i<cur.length by omega]
  rw[List.take_add_one,h1,List.take_set_of_le (Nat.le_refl i)];rfl
 ·rw[List.drop_set_of_lt (by omega)];have:=congrArg (List.drop 1) h.suf;rw[List.drop_drop,List.drop_drop,show j-1+1=j by omega]at this;simpa using this
theorem CompSt.done {l:List Key}{i:Nat}{cur:List Key}(h:CompSt l l.length i cur):cur.take i=zgf l:=by
 rw[h.pre,List.take_length]
theorem qeq (l:List Key):zgf (l.take (0+1))=l.take (0+1):=by cases l<;>simp[zgf,zh4]
theorem qep {l:List Key}(h:(l.length:Int)<2):zgf l=l:=by
 match l,h with
 |[],_=>rfl
 |[_],_=>rfl
 |_::_::_,h=>simp at h;omega
theorem qkv {r:Res}(h:zgx r=true)(ht:¬bs r.to=[]):r.rules=[]:=by
 simp only[zgx,Bool.and_eq_true,Bool.or_eq_true,decide_eq_true_eq]at h;have h2:=h.1.1.2.resolve_left ht;simp only[mayT,Bool.or_eq_true,decide_eq_true_eq]at h2;rcases h.1.2 with h3|h3
 ·exact List.eq_nil_of_length_eq_zero h3
 ·simp only[mayR,decide_eq_true_eq]at h3;omega
theorem zfs {l:List Res}{k:Key}{r:Res}(h:getR l k=some r):r.key=k:=by
 have:=List.find?_some h;simpa using this
theorem zce {l:List Res}{k:Key}{r:Res}(h:getR l k=some r):r∈l:=List.mem_of_find?_eq_some h
theorem zkr (a b:List Res)(k:Key):getR (a++b) k=match getR a k with|some r=>some r|none=>getR b k:=by
 unfold getR;rw[List.find?_append];cases a.find? _<;>rfl
theorem zxo (l:List Res){k q:Key}{c:Int}(h:cmpK k q=c):getR (zju l q c) k=getR l k:=by
 induction l with
 |nil=>rfl
 |cons a l ih=>
  unfold getR zju at*;by_cases h1:a.key=k
  ·have h2:cmpK a.key q=c:=by rw[h1];exact h
   simp[h1,h]
  ·by_cases h2:cmpK a.key q=c
   ·simp only[List.filter_cons,h2,decide_true,if_true,List.find?_cons,h1,decide_false];exact ih
   ·simp only[List.filter_cons,h2,decide_false,List.find?_cons,h1];exact ih
theorem zm1 (l:List Res){k q:Key}{c:Int}(h:¬cmpK k q=c):getR (zju l q c) k=none:=by
 unfold getR zju;rw[List.find?_eq_none];intro x hx;simp only[List.mem_filter,decide_eq_true_eq]at hx⊢;intro e;rw[e]at hx;exact h hx.2
theorem qjd (l:List Res)(r:Res)(k:Key):getR (zfk l r) k=if r.key=k then some r else getR l k:=by
 unfold zfk;rw[zkr,zkr];rcases zen k r.key with h|h|h
 ·have hne:¬r.key=k:=by intro e;rw[←e,zd8]at h;omega
  rw[zxo l h,zm1 l (c:=1) (by omega),if_neg hne];have:getR [r] k=none:=by simp[getR,hne]
  rw[this];cases getR l k<;>rfl
 ·have e:=cmpK_zero.1 h;subst e;rw[zm1 l (c:= -1) (by omega),if_pos rfl];simp[getR]
 ·have hne:¬r.key=k:=by intro e;rw[←e,zd8]at h;omega
  rw[zm1 l (c:= -1) (by omega),zxo l h,if_neg hne];have:getR [r] k=none:=by simp[getR,hne]
  rw[this]
theorem zxm (l:List Res)(q k:Key):getR (zcq l q) k=if q=k then none else getR l k:=by
 induction l with
 |nil=>simp[getR]
 |cons a l ih=>
  unfold getR zcq at*;by_cases h:q=k
  ·rw[if_pos h]at ih⊢;by_cases h1:a.key=q
   ·simpa[List.filter_cons,h1]using ih
   ·simp only[List.filter_cons,h1,decide_false,Bool.not_false,if_true,List.find?_cons];have:¬a.key=k:=by rw[←h];exact h1
    simpa[this]using ih
  ·rw[if_neg h]at ih⊢;by_cases h1:a.key=q
   ·have:¬a.key=k:=by rw[h1];exact h
    simp[List.filter_cons,h1,List.find?_cons,h]at ih⊢;exact ih
   ·by_cases h2:a.key=k
    ·simp[List.filter_cons,h1,h2,Ne.symm h,List.find?_cons]
    ·simp only[List.filter_cons,h1,decide_false,Bool.not_false,if_true,List.find?_cons,h2];exact ih
def AscR (l:List Res):Prop:=Asc (l.map Res.key)
theorem zbz {l:List Res}(h:AscR l){r:Res}(hr:r∈l):getR l r.key=some r:=by
 induction l with
 |nil=>simp at hr
 |cons a l ih=>
  obtain⟨h1,h2⟩:=List.pairwise_cons.1 h;rcases List.mem_cons.1 hr with e|e
  ·subst e;simp[getR]
  ·have hne:¬a.key=r.key:=by
    intro e';have:=h1 r.key (List.mem_map.2 ⟨r,e,rfl⟩);rw[e',zd8]at this;omega
   have:=ih h2 e;unfold getR at*;simp[List.find?_cons,hne,this]
theorem qfh {l:List Res}{r:Res}(h:∀x∈l,cmpK x.key r.key= -1):zfk l r=l++[r]:=by
 unfold zfk zju;have e1:(l.filter fun x=>decide (cmpK x.key r.key= -1))=l:=List.filter_eq_self.2 (by simpa using h);have e2:(l.filter fun x=>decide (cmpK x.key r.key=1))=[]:=List.filter_eq_nil_iff.2 (by intro x hx;have:=h x hx;simp;omega);rw[e1,e2];simp
theorem zl2 :∀(c l:List Res),AscR (l++c)→c.foldl zfk l=l++c
 |[],l,_=>by simp
 |r::c,l,h=>by
  have h1:∀x∈l,cmpK x.key r.key= -1:=by
   intro x hx;unfold AscR Asc at h;rw[List.map_append,List.pairwise_append]at h;exact h.2.2 _ (List.mem_map.2 ⟨x,hx,rfl⟩) _ (by simp)
  rw[List.foldl_cons,qfh h1,zl2 c (l++[r]) (by simpa using h)];simp
theorem zyg {l:List Key}(h:Asc l):l.Nodup:=by
 unfold Asc at h;refine h.imp ?_;intro a b hab e;rw[e,zd8]at hab;omega
theorem zhz :∀{a b:List Key},a.Nodup→(∀x∈a,x∈b)→a.length≤b.length
 |[],b,_,_=>by simp
 |x::a,b,hn,hs=>by
  obtain⟨h1,h2⟩:=List.nodup_cons.1 hn;have hx:x∈b:=hs x (by simp);have:=zhz (a:=a) (b:=b.erase x) h2 (fun y hy=>by
   refine(List.mem_erase_of_ne ?_).2 (hs y (by simp[hy]));rintro rfl;exact h1 hy)
  rw[List.length_erase_of_mem hx]at this;have:0<b.length:=List.length_pos_of_mem hx;simp;omega
open Go.AI
structure Store where
 cap:Int
 hist:List (List Res)
 deriving DecidableEq
@[simp] def rsC (l:List Res):List D:=[lD (l.map resC)]
@[simp] def zbg (s:Store):List D:=[iD s.cap,lD (s.hist.map rsC)]
@[simp] theorem lenAll_rs (l:List (List Res)):zb2 (l.map rsC) 1=True:=zbv (f:=rsC) (n:=1) (fun _=>rfl) l
structure OkStore (s:Store):Prop where
 len:s.hist.length≤9223372036854775807
 all:∀l∈s.hist,OkRs l
def capN (n:Int):Int:=max 0 (min n 64)
def newS (n:Int):Store:=⟨capN n,[[]]⟩
def zbf (s:Store):List Res:=s.hist.getLastD []
def za5 (s:Store):Store:=if s.hist=[]then newS s.cap else⟨capN s.cap,s.hist⟩
def atS (s:Store)(i:Int):Option (List Res):=if 0≤i then(za5 s).hist[i.toNat]? else none
def zku (s:Store)(k:Key)(v:Int):Option Res:=match getR ((atS s v).getD []) k with
 |some r=>if r.ver=v then some r else none
 |none=>none
def zrh (m:Mark):Res:=⟨m.k.kind,m.k.name,m.ver,0,⟨#[]⟩,[],[]⟩
def ofM (s:Store)(m:Mark):Res:=(zku s m.k m.ver).getD (zrh m)
def zd6 (s:Store)(l:List Mark):List Res:=(l.map (ofM s)).foldl zfk []
def ze0 (l:List Res):List Mark:=l.map fun r=>⟨r.key,r.ver⟩
@[simp] theorem marksV_nil :ze0 []=[]:=rfl
theorem zt6 (a b:List Res):ze0 (a++b)=ze0 a++ze0 b:=by simp[ze0]
@[simp] theorem marksV_one (r:Res):ze0 [r]=[⟨r.key,r.ver⟩]:=rfl
@[simp] theorem marksV_length (l:List Res):(ze0 l).length=l.length:=by simp[ze0]
def zch (now next:List Res)(v:Int):List Res:=next.map fun r=>{r with ver:=match getR now r.key with
 |some o=>if za9 o r then o.ver else v
 |none=>v}
def zdb (l:List Res):Int:=match l.find? fun r=>!decide (zbd r=0)with
 |some r=>zbd r
 |none=>0
def ascB :List Res→Bool
 |[]=>true
 |[_]=>true
 |a::b::l=>decide (cmpK a.key b.key= -1)&&ascB (b::l)
def zwd (l:List Res):List Int:=(l.filter fun r=>decide (r.kind=0)).map Res.port
def tabE (l:List Res):Int:=if 64<l.length then 3 else if zdb l=0 then(if ascB l=false then 2 else if(zwd l).Nodup then 0 else 13)else zdb l
def zem (a b:List Res):List Res:=b.filter fun r=>!decide (getR a r.key=some r)
def zf9 (a b:List Res):List Key:=(a.map Res.key).filter fun k=>!(getR b k).isSome
theorem zqv {v:View}{f:Frame}(h1:v.open_=true)(h2:fitF v f=true):ansV v f=zai ⟨if f.err=0 then zak v.have_ v.push.adds v.push.gone else v.have_,v.held,v.turn,zFrame,false⟩ f.turn f.held:=by
 unfold ansV zai;rw[h1,h2];by_cases h:v.turn<f.turn<;>by_cases h3:f.err=0<;>simp[h,h3]
theorem qnc {v:View}{f:Frame}(h:f.type=2):(!decide (f.epoch=v.push.epoch)|| (!decide (f.kind=v.push.kind)|| !decide (f.nonce=v.push.nonce)))= !fitF v f:=by
 simp only[fitF,h,decide_true,Bool.true_and,Bool.not_and,Bool.or_assoc]
theorem qrx (s:Store)(m:Mark):(ofM s m).key=m.k:=by
 unfold ofM zku;split
 ·rename_i r h;split
  ·simp[zfs h]
  ·rfl
 ·rfl
theorem qrw (s:Store)(m:Mark):(ofM s m).ver=m.ver:=by
 unfold ofM zku;split
 ·rename_i r h;split
  ·rename_i e;simpa using e
  ·rfl
 ·rfl
theorem zqh (s:Store)(l:List Mark):(zd6 s l).length≤l.length:=by
 have:=zft (l.map (ofM s)) [];simpa[zd6]using this
theorem zo4 :∀(l:List Res),ascB l=true↔AscR l
 |[]=>by simp[ascB,AscR,Asc]
 |[_]=>by simp[ascB,AscR,Asc]
 |a::b::l=>by
  have ih:=zo4 (b::l);simp only[ascB,Bool.and_eq_true,decide_eq_true_eq,ih];unfold AscR Asc;constructor
  ·rintro⟨h1,h2⟩;refine List.pairwise_cons.2 ⟨fun x hx=>?_,h2⟩;obtain⟨h3,_⟩:=List.pairwise_cons.1 h2;rcases List.mem_cons.1 hx with e|e
   ·rw[e];exact h1
   ·exact zdg h1 (h3 x e)
  ·intro h;obtain⟨h1,h2⟩:=List.pairwise_cons.1 h;exact⟨h1 _ (by simp),h2⟩
theorem zcc {l:List Res}(h:tabE l=0):AscR l:=by
 unfold tabE at h;rw[←zo4];split at h
 ·simp at h
 ·split at h
  ·split at h
   ·simp at h
   ·rename_i h3;simpa using h3
  ·rename_i h2;exact absurd h h2
theorem qng {l:List Res}(h:fewL l=true):l.length≤80:=by
 simp only[fewL,Bool.and_eq_true,decide_eq_true_eq]at h;exact h.2
theorem zw1 {l:List Res}{r x:Res}(h:x∈zfk l r):x=r∨x∈l:=by
 simp only[zfk,zju,List.mem_append,List.mem_filter,List.mem_singleton]at h;rcases h with(h|h)|h
 ·exact .inr h.1
 ·exact .inl h
 ·exact .inr h.1
theorem zhx :∀{a l:List Res} {x:Res},x∈a.foldl zfk l→x∈l∨x∈a
 |[],l,x,h=>.inl h
 |r::a,l,x,h=>by
  rcases zhx (a:=a) h with h|h
  ·rcases zw1 h with h|h
   ·exact .inr (by simp[h])
   ·exact .inl h
  ·exact .inr (by simp[h])
theorem zic :∀{g:List Key} {l:List Res} {x:Res},x∈g.foldl zcq l→x∈l
 |[],l,x,h=>h
 |k::g,l,x,h=>(List.mem_filter.1 (zic (g:=g) h)).1
theorem ziz {l a:List Res}{g:List Key}{x:Res}(h:x∈zak l a g):x∈l∨x∈a:=by
 rcases zhx h with h|h
 ·exact .inl (zic h)
 ·exact .inr h
theorem zwi (l a:List Res)(g:List Key):(zak l a g).length≤l.length+a.length:=by
 have h1:=zft a (g.foldl zcq l);have h2:=zdx g l;unfold zak;omega
theorem ql5 {l a:List Res}{g:List Key}(h1:OkRs l)(h2:OkRs a)(h:l.length+a.length≤1000000):OkRs (zak l a g):=
 ⟨by have:=zwi l a g;omega,fun r hr=>(ziz hr).elim (h1.all r) (h2.all r)⟩
theorem qah {v:View}{f:Frame}(h:v.open_=false):ansV v f=v:=by simp[ansV,h]
theorem qe6 {v:View}{f:Frame}(h:fitF v f=false):ansV v f=v:=by by_cases h1:v.open_=true<;>simp[ansV,h1,h]
theorem qn9 (v:View)(f:Frame):(ansV v f).push=v.push∨(ansV v f).push=zFrame:=by
 by_cases h1:v.open_=true
 ·by_cases h2:fitF v f=true
  ·rw[zqv h1 h2];simp
  ·have h2:fitF v f=false:=by simpa using h2
   rw[qe6 h2];simp
 ·have h1:v.open_=false:=by simpa using h1
  rw[qah h1];simp

def zih (k:Key):List Value:=[.int .i64 k.kind,.string k.name]
theorem zqi {a b:Key}(h:zih a=zih b):a=b:=by
 obtain⟨x,s⟩:=a;obtain⟨y,t⟩:=b;simp[zih]at h;rw[h.1,h.2]
noncomputable def zg0 (S:List Key):List Value→Option (List D):=fun v=>open Classical in if∃k,k∈S∧v=zih k then some [bD true]else none
theorem zqc (S:List Key)(k:Key):zg0 S (zih k)=if k∈S then some [bD true]else none:=by
 unfold zg0;by_cases h:k∈S
 ·rw[if_pos ⟨k,h,rfl⟩,if_pos h]
 ·rw[if_neg,if_neg h];rintro⟨k',h1,h2⟩;rw[zqi h2]at h;exact h h1
theorem zhh :(fun _=>none)=zg0 []:=by
 funext v;simp[zg0]
theorem qc3 (S:List Key)(k:Key):updL (zg0 S) (zih k) [bD true]=zg0 (S++[k]):=by
 funext v
 unfold updL;by_cases h:v=zih k
 ·subst h;rw[if_pos rfl,zqc,if_pos (by simp)]
 ·rw[if_neg h];unfold zg0;by_cases h2:∃q,q∈S∧v=zih q
  ·obtain⟨q,h3,h4⟩:=h2;rw[if_pos ⟨q,h3,h4⟩,if_pos ⟨q,by simp[h3],h4⟩]
  ·rw[if_neg h2,if_neg];rintro⟨q,h3,h4⟩;rcases List.mem_append.1 h3 with h5|h5
   ·exact h2 ⟨q,h5,h4⟩
   ·simp at h5;subst h5;exact h h4
@[simp] theorem updL_lookS' (S:List Key)(a:Int)(s:Str):updL (zg0 S) [.int .i64 a,.string s] [D.v (Value.bool true)]=zg0 (S++[⟨a,s⟩]):=qc3 S ⟨a,s⟩
theorem zkj {S:List Key}{k:Key}(h:k∈S):zg0 S [.int .i64 k.kind,.string k.name]=some [bD true]:=by
 have:=zqc S k;rwa[if_pos h]at this
theorem zjj {S:List Key}{k:Key}(h:k∉S):zg0 S [.int .i64 k.kind,.string k.name]=none:=by
 have:=zqc S k;rwa[if_neg h]at this
@[simp] theorem take_len_map {α β:Type}(f:α→β)(l:List α):List.take l.length (List.map f l)=List.map f l:=by rw[←List.map_take,List.take_length]
noncomputable def zlp (S:List Int):List Value→Option (List D):=fun v=>open Classical in if∃n,n∈S∧v=[.int .i64 n]then some [bD true]else none
theorem zlo (S:List Int)(n:Int):zlp S [.int .i64 n]=if n∈S then some [bD true]else none:=by
 unfold zlp;by_cases h:n∈S
 ·rw[if_pos ⟨n,h,rfl⟩,if_pos h]
 ·rw[if_neg,if_neg h];rintro⟨k',h1,h2⟩;simp at h2;rw[h2]at h;exact h h1
theorem zi0 :(fun _=>none)=zlp []:=by
 funext v;simp[zlp]
@[simp] theorem updL_lookP (S:List Int)(n:Int):updL (zlp S) [.int .i64 n] [D.v (Value.bool true)]=zlp (S++[n]):=by
  funext v
  unfold updL;by_cases h:v=[.int .i64 n]
  ·subst h;rw[if_pos rfl,zlo,if_pos (by simp)]
  ·rw[if_neg h];unfold zlp;by_cases h2:∃q,q∈S∧v=[Value.int .i64 q]
   ·obtain⟨q,h3,h4⟩:=h2;rw[if_pos ⟨q,h3,h4⟩,if_pos ⟨q,by simp[h3],h4⟩]
   ·rw[if_neg h2,if_neg];rintro⟨q,h3,h4⟩;rcases List.mem_append.1 h3 with h5|h5
    ·exact h2 ⟨q,h5,h4⟩
    ·simp at h5;subst h5;exact h h4
theorem mem_keys {l:List Res}{k:Key}:k∈l.map Res.key↔(getR l k).isSome=true:=by
 unfold getR;rw[List.find?_isSome];simp
@[simp] theorem missP_nil (l:List Res):zlk [] l=[]:=rfl
theorem qd4 (a:List Res)(x:Res)(l:List Res):zlk (a++[x]) l=zlk a l++(zbs x).filter (noR l):=by
 simp[zlk,List.flatMap_append,List.filter_append]
theorem zlj :∀(a l:List Res),(zlk a l).length≤33*a.length
 |[],l=>by simp
 |r::a,l=>by
  have h1:=zlj a l;have h2:=zhb r;have h3:=List.length_filter_le (noR l) (zbs r);simp only[zlk,List.flatMap_cons,List.filter_append,List.length_append,List.length_cons]at*;omega
theorem qd3 (l:List Res):zgf (zk2 (zlk l l))=zra l:=zx4 _
theorem zul {l:List Res}{k:Nat}{x:Res}(h:(l.take k).all (fun r=>decide (zbd r=0))=true)(hr:l[k]? =some x)(hx:¬zbd x=0):zdb l=zbd x:=by
 unfold zdb;rw[zum (k:=k) (x:=x) (by simpa using h) hr (by simpa using hx)]
theorem zsi {l:List Res}(h:l.all (fun r=>decide (zbd r=0))=true):zdb l=0:=by
 unfold zdb;rw[zqm (by simpa using h)]
theorem qn6 (a:List Res)(x:Res)(h:AscR a)(hl:∀y,a.getLast? =some y→cmpK y.key x.key= -1):AscR (a++[x]):=by
 unfold AscR Asc at*;rw[List.map_append,List.pairwise_append];refine⟨h,by simp,fun y hy z hz=>?_⟩;simp at hz;subst hz;rcases List.eq_nil_or_concat a with e|⟨b,w,e⟩
 ·subst e;simp at hy
 ·subst e;have hw:=hl w (by simp);simp only[List.concat_eq_append,List.map_append,List.map_cons,List.map_nil,List.mem_append,List.mem_singleton]at hy h;rcases hy with hy|hy
  ·have:=(List.pairwise_append.1 h).2.2 y hy w.key (by simp);exact zdg this hw
  ·rw[hy];exact hw
theorem qxf {l:List Res}{m:Nat}{y x:Res}(h:AscR l)(hy:l[m]? =some y)(hx:l[m+1]? =some x):cmpK y.key x.key= -1:=by
 unfold AscR Asc at h;rw[List.pairwise_iff_getElem]at h;obtain⟨h1,e1⟩:=List.getElem?_eq_some_iff.1 hy;obtain⟨h2,e2⟩:=List.getElem?_eq_some_iff.1 hx;have:=h m (m+1) (by simpa using h1) (by simpa using h2) (by omega);simpa[e1,e2]using this
theorem qfp {l:List Res}(h:¬64<l.length)(h2:¬zdb l=0):tabE l=zdb l:=by simp[tabE,h,h2]
theorem qfq {l:List Res}(h:¬64<l.length)(h2:zdb l=0)(h3:¬AscR l):tabE l=2:=by
 have:ascB l=false:=by
  cases hb:ascB l
  ·rfl
  ·exact absurd ((zo4 l).1 hb) h3
 simp[tabE,h,h2,this]
theorem zml {l:List Res}(h:¬64<l.length)(h2:zdb l=0)(h3:AscR l):tabE l=if(zwd l).Nodup then 0 else 13:=by
 simp[tabE,h,h2,(zo4 l).2 h3]
theorem zr3 {α:Type}{a:List α}{x:α}:(a++[x]).Nodup↔a.Nodup∧x∉a:=by
 rw[List.nodup_append];simp;intro _;exact⟨fun h hx=>h x hx rfl,fun h y hy e=>h (e▸hy)⟩
@[simp] theorem ascR_nil :AscR []=True:=eq_true (by simp[AscR,Asc])
theorem zxf {α:Type}{l:List α}{m:Nat}{y:α}(h:l[m]? =some y):(l.take (m+1)).getLast? =some y:=by
 have hj:=(List.getElem?_eq_some_iff.1 h).1;rw[List.getLast?_eq_getElem?,List.length_take,List.getElem?_take,if_pos (by omega),show min (m+1) l.length-1=m by omega];exact h
theorem qri {S:List Int}{n:Int}(h:n∈S):zlp S [.int .i64 n]=some [bD true]:=by rw[zlo,if_pos h]
theorem qlx {S:List Int}{n:Int}(h:n∉S):zlp S [.int .i64 n]=none:=by rw[zlo,if_neg h]
theorem zl9 (n:Int):capN (capN n)=capN n:=by unfold capN;omega
theorem qcm (n:Int):(if 0<(if 64<n then 64 else n)then(if 64<n then(64:Int)else n)else 0)=capN n:=by
 unfold capN;by_cases h:64<n
 ·simp[h];omega
 ·by_cases h2:0<n
  ·simp[h,h2];omega
  ·simp[h,h2];omega
theorem qfk {s:Store}(h:s.hist=[]):za5 s=newS s.cap:=by simp[za5,h]
theorem zmi {s:Store}(h:¬s.hist=[]):za5 s=⟨capN s.cap,s.hist⟩:=by simp[za5,h]
abbrev atA (s:Store)(i:Int):AV:=.tup [lst (((atS s i).getD []).map resC),bool (atS s i).isSome]
abbrev qyg (s:Store)(k:Key)(v:Int):AV:=.tup [st (resC ((zku s k v).getD zRes)),bool (zku s k v).isSome]
theorem qxb {s:Store}{i:Int}(h:i<0):atS s i=none:=by simp[atS];omega
theorem qxe {s:Store}{i:Int}(h:((za5 s).hist.length:Int)≤i):atS s i=none:=by
 unfold atS;split
 ·exact List.getElem?_eq_none (by omega)
 ·rfl
theorem qxc {s:Store}{i:Int}(h0:¬i<0)(h:¬((za5 s).hist.length:Int)≤i):∃l,(∃hh:i.toNat<(za5 s).hist.length,(za5 s).hist[i.toNat]=l)∧(za5 s).hist[i.toNat]? =some l∧atS s i=some l:=by
 refine⟨(za5 s).hist[i.toNat]'(by omega),⟨by omega,rfl⟩,List.getElem?_eq_getElem _,?_⟩;unfold atS;rw[if_pos (by omega)];exact List.getElem?_eq_getElem _
theorem ql2 {s:Store}(h:OkStore s):OkStore (za5 s):=by
 unfold za5;split
 ·exact⟨by simp[newS],fun l hl=>by simp[newS]at hl;subst hl;exact⟨by simp,by simp⟩⟩
 ·exact⟨h.len,h.all⟩
theorem qx6 {s:Store}(h:OkStore s)(i:Int):OkRs ((atS s i).getD []):=by
 unfold atS;split
 ·cases hg:(za5 s).hist[i.toNat]? with
  |none=>exact⟨by simp,by simp⟩
  |some l=>exact(ql2 h).all l (List.mem_of_getElem? hg)
 ·exact⟨by simp,by simp⟩
theorem qek {s:Store}{k:Key}{v:Int}(h:getR ((atS s v).getD []) k=none):zku s k v=none:=by simp[zku,h]
theorem qej {s:Store}{k:Key}{v:Int}{r:Res}(h:getR ((atS s v).getD []) k=some r):zku s k v=if r.ver=v then some r else none:=by simp[zku,h]
theorem zxg (s:Store):zd6 s []=[]:=rfl
theorem qd8 (s:Store)(l:List Mark)(m:Mark):zd6 s (l++[m])=zfk (zd6 s l) (ofM s m):=by simp[zd6,List.foldl_append]
noncomputable def lookN (S:List Res):List Value→Option (List D):=fun v=>open Classical in if h:∃k,v=zih k then(getR S h.choose).map fun r=>[lD ((zbs r).map keyC)]else none
theorem zlq (S:List Res)(k:Key):lookN S (zih k)=(getR S k).map fun r=>[lD ((zbs r).map keyC)]:=by
 unfold lookN;have h:∃q,zih k=zih q:=⟨k,rfl⟩;rw[dif_pos h,←zqi h.choose_spec]
theorem qbv {S:List Res}{k:Key}{r:Res}(h:getR S k=some r):lookN S [.int .i64 k.kind,.string k.name]=some [lD ((zbs r).map keyC)]:=by
 have:=zlq S k;rw[h]at this;exact this
theorem qim {S:List Res}{k:Key}(h:getR S k=none):lookN S [.int .i64 k.kind,.string k.name]=none:=by
 have:=zlq S k;rw[h]at this;exact this
theorem zxb :(fun _=>none)=lookN []:=by
 funext v
 unfold lookN;split<;>simp[getR]
theorem zxn (S:List Res)(x:Res)(k:Key):getR (S++[x]) k=match getR S k with|some r=>some r|none=>if x.key=k then some x else none:=by
 rw[zkr];cases getR S k with
 |some r=>rfl
 |none=>by_cases h:x.key=k<;>simp[getR,h]
theorem qc5 {S:List Res}{x:Res}(h:getR S x.key=none):updL (lookN S) [.int .i64 x.key.kind,.string x.key.name] [lD ((zbs x).map keyC)]=lookN (S++[x]):=by
 funext v
 unfold updL;by_cases hv:v=[.int .i64 x.key.kind,.string x.key.name]
 ·subst hv;rw[if_pos rfl];have:getR (S++[x]) x.key=some x:=by rw[zxn,h];simp
  rw[qbv this]
 ·rw[if_neg hv];by_cases hk:∃k,v=zih k
  ·obtain⟨k,rfl⟩:=hk;rw[zlq,zlq,zxn];cases hg:getR S k with
   |some r=>rfl
   |none=>
    have:¬x.key=k:=by rintro rfl;exact hv rfl
    simp[this]
  ·unfold lookN;rw[dif_neg hk,dif_neg hk]
theorem qtw {l:List Res}{k:Nat}{x:Res}(h:AscR l)(hr:l[k]? =some x):getR (l.take k) x.key=none:=by
 unfold getR;rw[List.find?_eq_none];intro y hy;simp only[decide_eq_true_eq];intro e;obtain⟨i,hi⟩:=List.getElem?_of_mem hy;have hik:i<k:=by
  have:=(List.getElem?_eq_some_iff.1 hi).1;simp at this;omega
 rw[List.getElem?_take,if_pos hik]at hi;unfold AscR Asc at h;rw[List.pairwise_iff_getElem]at h;obtain⟨h1,e1⟩:=List.getElem?_eq_some_iff.1 hi;obtain⟨h2,e2⟩:=List.getElem?_eq_some_iff.1 hr;have:=h i k (by simpa using h1) (by simpa using h2) hik;simp only[List.getElem_map,e1,e2,e,zd8]at this;omega
def zbc (l:List Res):Nat→List Key→Key→List Key
 |0,out,_=>out
 |n+1,out,k=>match getR l k with
  |none=>out
  |some r=>if k∈out then out else(zbs r).foldl (zbc l n) (out++[k])
def zkk (l:List Res)(out:List Key):Nat:=((l.map Res.key).filter fun k=>decide (k∉out)).length
theorem zjl {f:List Key→Key→List Key}(h:∀o k x,x∈o→x∈f o k):∀(l:List Key) (o:List Key) (x:Key),x∈o→x∈l.foldl f o
 |[],_,_,hx=>hx
 |k::l,o,x,hx=>zjl h l _ x (h o k x hx)
theorem zfx (l:List Res):∀(n:Nat) (out:List Key) (k x:Key),x∈out→x∈zbc l n out k
 |0,_,_,_,h=>h
 |n+1,out,k,x,h=>by
  unfold zbc;split
  ·exact h
  ·split
   ·exact h
   ·exact zjl (zfx l n) _ _ _ (by simp[h])
theorem zzr {l:List Res}{a b:List Key}(h:∀x,x∈a→x∈b):zkk l b≤zkk l a:=by
 unfold zkk;induction l with
 |nil=>simp
 |cons r l ih=>
  simp only[List.map_cons,List.filter_cons];by_cases hb:r.key∈b
  ·by_cases ha:r.key∈a
   ·simpa[ha,hb]using ih
   ·simp only[hb,ha,not_true,not_false_iff,decide_true,decide_false,if_true,List.length_cons];simp only[Bool.false_eq_true,if_false];omega
  ·have ha:r.key∉a:=fun h'=>hb (h _ h');simpa[ha,hb]using ih
theorem qip {l:List Res}{out:List Key}{k:Key}(hk:k∈l.map Res.key)(ho:k∉out):zkk l (out++[k])<zkk l out:=by
 unfold zkk;induction l with
 |nil=>simp at hk
 |cons r l ih=>
  have hle:=zzr (l:=l) (a:=out) (b:=out++[k]) (fun x hx=>by simp[hx]);unfold zkk at hle;simp only[List.map_cons,List.filter_cons];by_cases hr:r.key=k
  ·have h1:r.key∈out++[k]:=by simp[hr]
   have h2:r.key∉out:=by rw[hr];exact ho
   simp only[h1,h2,not_true,not_false_iff,decide_true,decide_false,if_true,List.length_cons];simp only[Bool.false_eq_true,if_false];omega
  ·have hk':k∈l.map Res.key:=by
    simp only[List.map_cons,List.mem_cons]at hk;exact hk.resolve_left (fun e=>hr e.symm)
   have:=ih hk';by_cases h2:r.key∈out
   ·have h1:r.key∈out++[k]:=by simp[h2]
    simpa[h1,h2]using this
   ·have h1:r.key∉out++[k]:=by simp[h2,hr]
    simpa[h1,h2]using this
theorem qbx (l:List Res)(out:List Key):zkk l out≤l.length:=by
 have:=List.length_filter_le (fun k=>decide (k∉out)) (l.map Res.key);simpa[zkk]using this
def zk5 (l:List Res):List Key:=(l.filter fun r=>decide (r.kind=0)).map Res.key
def zeu (l:List Res):List Key:=(zk5 l).foldl (zbc l (l.length+1)) []
def zau (l:List Res):List Res:=l.filter fun r=>decide (r.key∈zeu l)
def zf8 (r:Res):Bool:=decide (r.kind=3)&&decide (r.hosts.length=0)
def zbj (l:List Res):Int:=if(zau l).any fun r=>(zbs r).any (noR l)then 6 else if(zau l).any zf8 then 7 else 0
theorem zpw (a:List Res)(x:Res):zk5 (a++[x])=zk5 a++(if x.kind=0 then [x.key]else []):=by
 by_cases h:x.kind=0<;>simp[zk5,List.filter_append,h]
def zcx (cap:Int)(n:Nat)(now next:List Res):Int:=
 if tabE next=0 then(if cap<next.length then 8 else if¬(zra next).length=0 then 6 else if¬zbj next=0 then 7 else if now=next then 9 else if 100000≤n then 8 else 0)else tabE next
def ziv (s:Store)(adds:List Res)(gone:List Key):List Res:=zch (zbf s) (zak (zbf s) adds gone) s.hist.length
def zif (s:Store)(adds:List Res)(gone:List Key):Int:=zcx s.cap s.hist.length (zbf s) (ziv s adds gone)
def zgz (s:Store)(adds:List Res)(gone:List Key):Store:=if zif s adds gone=0 then⟨s.cap,s.hist++[ziv s adds gone]⟩else s
def zni :Store→List (List Res)→Bool
 |_,[]=>true
 |t,l::r=>decide (zif t (zem (zbf t) l) (zf9 (zbf t) l)=0)&&decide (ziv t (zem (zbf t) l) (zf9 (zbf t) l)=l)&&zni ⟨t.cap,t.hist++[l]⟩ r
def sanS (s:Store):Bool:=decide (s.cap=capN s.cap)&&decide (1≤s.hist.length)&&decide (s.hist.length≤100000)&&decide (s.hist.headD []=[])&&zni (newS s.cap) (s.hist.drop 1)
structure Chain (h:List (List Res)):Prop where
 asc:∀l∈h,AscR l
 ver:∀l∈h,∀r∈l,∃(j:Nat) (m:List Res),r.ver=j∧h[j]? =some m∧getR m r.key=some r
theorem zqs {cap:Int}{n:Nat}{now next:List Res}(h:zcx cap n now next=0):tabE next=0:=by
 unfold zcx at h;split at h
 ·assumption
 ·exact h
theorem qcw {o r:Res}(h:za9 o r=true):{r with ver:=o.ver}=o:=by
 obtain⟨a1,a2,a3,a4,a5,a6,a7⟩:=o;obtain⟨b1,b2,b3,b4,b5,b6,b7⟩:=r;simp[za9]at h;obtain⟨⟨⟨⟨⟨h1,h2⟩,h3⟩,h4⟩,h5⟩,h6⟩:=h;subst h1 h2 h3 h4 h5 h6;rfl
theorem qih {now next:List Res}{v:Int}{r:Res}(h:r∈zch now next v):r.ver=v∨r∈now:=by
 simp only[zch,List.mem_map]at h;obtain⟨q,_,rfl⟩:=h;split
 ·rename_i o ho;split
  ·rename_i ha;right;rw[qcw ha];exact zce ho
  ·exact .inl rfl
 ·exact .inl rfl
theorem qeu {h:List (List Res)}(hc:Chain h){now next:List Res}(hnow:now=[]∨now∈h)(ht:tabE (zch now next h.length)=0):Chain (h++[zch now next h.length]):=by
 have ha:=zcc ht;refine⟨fun l hl=>?_,fun l hl r hr=>?_⟩
 ·rcases List.mem_append.1 hl with h1|h1
  ·exact hc.asc l h1
  ·simp at h1;rw[h1];exact ha
 ·have old:∀l∈h,∀r∈l,∃(j:Nat) (m:List Res),r.ver=j∧(h++[zch now next h.length])[j]? =some m∧getR m r.key=some r:=by
   intro l hl r hr;obtain⟨j,m,h1,h2,h3⟩:=hc.ver l hl r hr;exact⟨j,m,h1,by rw[List.getElem?_append_left (List.getElem?_eq_some_iff.1 h2).1];exact h2,h3⟩
  rcases List.mem_append.1 hl with h1|h1
  ·exact old l h1 r hr
  ·simp at h1;subst h1;rcases qih hr with h2|h2
   ·exact⟨h.length,_,h2,by simp,zbz ha hr⟩
   ·rcases hnow with e|e
    ·rw[e]at h2;simp at h2
    ·exact old now e r h2
theorem qbz {s:Store}:zbf s=[]∨zbf s∈s.hist:=by
 unfold zbf;rw[List.getLastD_eq_getLast?];cases h:s.hist.getLast? with
 |none=>exact .inl rfl
 |some l=>exact .inr (List.mem_of_getLast? h)
theorem znh :∀(r:List (List Res)) (t:Store),Chain t.hist→zni t r=true→Chain (t.hist++r)
 |[],t,hc,_=>by simpa using hc
 |l::r,t,hc,h=>by
  simp only[zni,Bool.and_eq_true,decide_eq_true_eq]at h;obtain⟨⟨h1,h2⟩,h3⟩:=h;have hn:Chain (t.hist++[l]):=by
   have:=qeu hc (next:=zak (zbf t) (zem (zbf t) l) (zf9 (zbf t) l)) qbz (zqs h1)
   rwa[show zch (zbf t) (zak (zbf t) (zem (zbf t) l) (zf9 (zbf t) l)) t.hist.length=l from h2]at this
  have:=znh r ⟨t.cap,t.hist++[l]⟩ hn h3;simpa using this
theorem zrt {s:Store}(h:sanS s=true):Chain s.hist∧¬s.hist=[]:=by
 simp only[sanS,Bool.and_eq_true,decide_eq_true_eq]at h;obtain⟨⟨⟨⟨_,h1⟩,_⟩,h2⟩,h3⟩:=h;cases hh:s.hist with
 |nil=>rw[hh]at h1;simp at h1
 |cons a t=>
  rw[hh]at h2 h3;simp only[List.headD_cons]at h2;subst h2;refine⟨?_,by simp⟩;have h0:Chain (newS s.cap).hist:=⟨fun l hl=>by simp[newS]at hl;subst hl;simp,fun l hl r hr=>by simp[newS]at hl;subst hl;simp at hr⟩;have:=znh _ _ h0 h3;simpa[newS]using this
noncomputable def zjv (S:List Res):List Value→Option (List D):=fun v=>open Classical in if h:∃k,v=zih k then(getR S h.choose).map resC else none
theorem zln (S:List Res)(k:Key):zjv S (zih k)=(getR S k).map resC:=by
 unfold zjv;have h:∃q,zih k=zih q:=⟨k,rfl⟩;rw[dif_pos h,←zqi h.choose_spec]
theorem zt8 {S:List Res}{k:Key}{r:Res}(h:getR S k=some r):zjv S [.int .i64 k.kind,.string k.name]=some (resC r):=by
 have:=zln S k;rw[h]at this;exact this
theorem zw9 {S:List Res}{k:Key}(h:getR S k=none):zjv S [.int .i64 k.kind,.string k.name]=none:=by
 have:=zln S k;rw[h]at this;exact this
theorem zxa :(fun _=>none)=zjv []:=by
 funext v
 unfold zjv;split<;>simp[getR]
theorem zsg (x:Res)(S:List Res)(k:Key):getR (x::S) k=if x.key=k then some x else getR S k:=by
 by_cases h:x.key=k<;>simp[getR,h]
theorem qc4 (S:List Res)(x:Res):updL (zjv S) [.int .i64 x.key.kind,.string x.key.name] (resC x)=zjv (x::S):=by
 funext v
 unfold updL;by_cases hv:v=[.int .i64 x.key.kind,.string x.key.name]
 ·subst hv;rw[if_pos rfl];have:getR (x::S) x.key=some x:=by rw[zsg];simp
  rw[zt8 this]
 ·rw[if_neg hv];by_cases hk:∃k,v=zih k
  ·obtain⟨k,rfl⟩:=hk;have:¬x.key=k:=by rintro rfl;exact hv rfl
   rw[zln,zln,zsg,if_neg this]
  ·unfold zjv;rw[dif_neg hk,dif_neg hk]
noncomputable abbrev idxD (S:List Res):D:=.mp true [.int,.str] true (zjv S)
end Go.G
