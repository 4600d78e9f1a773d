/- LAYERS 10 to 12, walked -/
import Derived.Test.YtobcmagefgdgdaaGreatDoorPq
import Derived.Test.YtobcmagefgdgdaaGreatDoorWh
set_option linter.unusedSimpArgs false
set_option linter.unusedVariables false
set_option maxRecDepth 100000
set_option maxHeartbeats 8000000
namespace Go.G
open Go.AI
abbrev znQ :=List UInt8×Int
def zkf :Nat->Nat->Nat->List UInt8->Nat×Nat×Int
 |0,_,_,_=>(0,0,2)
 |_+1,_,_,[]=>(0,0,1)
 |f+1,k,n,c::l=>if c.toNat<128 then if c.toNat=0/\0<k then(0,0,2)else(n+2^(7*k)*c.toNat,k+1,0)else zkf f (k+1) (n+2^(7*k)*(c.toNat%128)) l
def zbw (lim:Int)(x:znQ):znQ×Int:=
 if x.2=0 then
  if(zkf 5 0 0 x.1).2.2=0 then if kZ lim<(zkf 5 0 0 x.1).1 then((x.1,3),0)else((x.1.drop (zkf 5 0 0 x.1).2.1,0),(zkf 5 0 0 x.1).1)
  else((x.1,(zkf 5 0 0 x.1).2.2),0)
 else(x,0)
structure zlX (b:List UInt8)(k n0:Nat):Prop where
 k5:k<=5
 kl:k<=b.length
 e:zkf 5 0 0 b=zkf (5-k) k n0 (b.drop k)
 n0:n0<2^(7*k)
theorem zlX.start (b:List UInt8):zlX b 0 0:=⟨by omega,by omega,rfl,by simp⟩
theorem zlX.more {b:List UInt8}{k n0:Nat}(h:zlX b k n0)(hk:k<5){c:UInt8}(hc:b[k]? =some c)(hm:¬c.toNat<128):zlX b (k+1) (n0+2^(7*k)*(c.toNat%128)):=by
 obtain⟨hl,e⟩:=cE.1 hc;obtain⟨f,hf⟩:∃f,5-k=f+1:=⟨4-k,by omega⟩;refine⟨by omega,hl,?_,?_⟩
 ·rw[h.e,hf,tP hl,e,zkf,aT hm,show 5-(k+1)=f by omega]
 ·have:=h.n0;have h2:2^(7*k)*(c.toNat%128)<=2^(7*k)*127:=Nat.mul_le_mul_left _ (by omega);rw[show 7*(k+1)=7*k+7 by omega,Nat.pow_add];omega
theorem zlX.last {b:List UInt8}{k n0:Nat}(h:zlX b k n0)(hk:k<5){c:UInt8}(hc:b[k]? =some c)(hm:c.toNat<128):zkf 5 0 0 b=if c.toNat=0/\0<k then(0,0,2)else(n0+2^(7*k)*c.toNat,k+1,0):=by
 obtain⟨hl,e⟩:=cE.1 hc;obtain⟨f,hf⟩:∃f,5-k=f+1:=⟨4-k,by omega⟩;rw[h.e,hf,tP hl,e,zkf,aZ hm]
theorem zlX.stop {b:List UInt8}{k n0:Nat}(h:zlX b k n0)(hk:k=min b.length 5):zkf 5 0 0 b=if b.length<5 then(0,0,1)else(0,0,2):=by
 split
 ·obtain⟨f,hf⟩:∃f,5-k=f+1:=⟨4-k,by omega⟩;rw[h.e,hf,List.drop_of_length_le (by omega),zkf]
 ·rw[h.e,show 5-k=0 by omega,zkf]
theorem zmq :∀(f k n:Nat) (l:List UInt8),(zkf f k n l).2.1<=k+l.length
 |0,k,n,l=>by simp[zkf]
 |f+1,k,n,[]=>by simp[zkf]
 |f+1,k,n,c::l=>by
  unfold zkf;split
  ·split<;>simp<;>omega
  ·have:=zmq f (k+1) (n+2^(7*k)*(c.toNat%128)) l;simp;omega
theorem zlJ (lim:Int)(x:znQ):(zbw lim x).1.1.length<=x.1.length:=by
 unfold zbw;split
 ·split
  ·split<;>simp
  ·simp
 ·simp
theorem znA {lim:Int}{x:znQ}(h:x.2≠0):zbw lim x=(x,0):=aT h
theorem zmj (lim:Int)(x:znQ):0<=(zbw lim x).2:=by
 unfold zbw;split
 ·split
  ·split<;>simp
  ·simp
 ·simp
def zlD (l:List UInt8):Str:=⟨l.toArray⟩
def zbx (lim:Int)(x:znQ):znQ×Str:=
 if(zbw lim x).1.2=0 then if((zbw lim x).1.1.length:Int)<(zbw lim x).2 then(((zbw lim x).1.1,1),zlD [])else(((zbw lim x).1.1.drop (zbw lim x).2.toNat,0),zlD ((zbw lim x).1.1.take (zbw lim x).2.toNat))
 else((zbw lim x).1,zlD [])
theorem zlM (lim:Int)(x:znQ):(zbx lim x).1.1.length<=x.1.length:=by
 have:=zlJ lim x;unfold zbx;split
 ·split<;>simp<;>omega
 ·exact this
def zb8 {α:Type}(take:znQ->znQ×α):Nat->znQ->znQ×List α
 |0,x=>(x,[])
 |n+1,x=>if(take x).1.2=0 then if(zb8 take n (take x).1).1.2=0 then((zb8 take n (take x).1).1,(take x).2::(zb8 take n (take x).1).2)else((zb8 take n (take x).1).1,[])else((take x).1,[])
def zby {α:Type}(lim:Int)(take:znQ->znQ×α)(x:znQ):znQ×List α:=zb8 take (zbw lim x).2.toNat (zbw lim x).1
structure zlO {α:Type}(take:znQ->znQ×α)(N:Nat)(x0:znQ)(k:Nat)(x:znQ)(acc:List α):Prop where
 znR:k<=N
 al:acc.length=k
 len:x.1.length<=x0.1.length
 z:x.2≠0->acc=[]
 e:zb8 take N x0=if(zb8 take (N-k) x).1.2=0 then((zb8 take (N-k) x).1,acc++(zb8 take (N-k) x).2)else((zb8 take (N-k) x).1,[])
theorem zmD {α:Type}(take:znQ->znQ×α)(n:Nat)(x:znQ)(h:(zb8 take n x).1.2≠0):(zb8 take n x).2=[]:=by
 cases n with
 |zero=>rfl
 |succ n=>
  unfold zb8 at h⊢;split
  ·split
   ·rename_i h1 h2;rw[aZ h1,aZ h2]at h;exact absurd h2 h
   ·rfl
  ·rfl
theorem zlO.start {α:Type}(take:znQ->znQ×α)(N:Nat)(x:znQ):zlO take N x 0 x []:=⟨y8 _,rfl,bY _,λ_=>rfl,by
 simp only[MQ,EI];split
 ·rfl
 ·rename_i h;rw[<-zmD take N x h]⟩
theorem zlO.more {α:Type}{take:znQ->znQ×α}{N k:Nat}{x0 x:znQ}{acc:List α}(h:zlO take N x0 k x acc)(hk:k<N)(ht:(take x).1.1.length<=x.1.length)(he:(take x).1.2=0):zlO take N x0 (k+1) (take x).1 (acc++[(take x).2]):=by
 refine⟨hk,by simp[h.al],dH ht h.len,λg=>absurd he g,?_⟩;have e:=h.e;obtain⟨n,hn⟩:∃n,N-k=n+1:=⟨N-k-1,by omega⟩;have hn':N-(k+1)=n:=by omega
 have es:zb8 take (n+1) x=if(zb8 take n (take x).1).1.2=0 then((zb8 take n (take x).1).1,(take x).2::(zb8 take n (take x).1).2)else((zb8 take n (take x).1).1,[]):=by rw[zb8,aZ he]
 rw[e,hn,hn',es];by_cases h1:(zb8 take n (take x).1).1.2=0
 ·simp[h1]
 ·simp[h1]
theorem zlO.fail {α:Type}{take:znQ->znQ×α}{N k:Nat}{x0 x:znQ}{acc:List α}(h:zlO take N x0 k x acc)(hk:k<N)(he:(take x).1.2≠0):zb8 take N x0=((take x).1,[]):=by
 obtain⟨n,hn⟩:∃n,N-k=n+1:=⟨N-k-1,by omega⟩;have e:zb8 take (N-k) x=((take x).1,[]):=by rw[hn,zb8,aT he]
 rw[h.e,e,aT he]
theorem zlO.done {α:Type}{take:znQ->znQ×α}{N:Nat}{x0 x:znQ}{acc:List α}(h:zlO take N x0 N x acc):zb8 take N x0=(x,acc):=by
 have e:=h.e;rw[Nat.sub_self]at e;rw[e];by_cases g:x.2=0
 ·simp[zb8,g]
 ·simp[zb8,g,h.z g]
def zlE (x:znQ):znQ×Weight:=((zbw 100 (zbx 12 x).1).1,⟨(zbx 12 x).2,(zbw 100 (zbx 12 x).1).2⟩)
theorem zmn (x:znQ):(zlE x).1.1.length<=x.1.length:=dH (zlJ 100 _) (zlM 12 x)
theorem zmt (lim:Int)(x:znQ):(zbw lim x).2<=kZ lim:=by
 have:0<=kZ lim:=by unfold kZ;omega
 unfold zbw;split
 ·split
  ·split
   ·simpa
   ·simp;omega
  ·simpa
 ·simpa
theorem zmB {α:Type}{take:znQ->znQ×α}(h:∀x,(take x).1.1.length<=x.1.length):∀(n:Nat) (x:znQ),(zb8 take n x).1.1.length<=x.1.length
 |0,x=>bY _
 |n+1,x=>by
  have a:=h x;have b:=zmB h n (take x).1;unfold zb8;split
  ·split<;>simp only<;>omega
  ·simpa
theorem zl7 {α:Type}{take:znQ->znQ×α}(h:∀x,(take x).1.1.length<=x.1.length)(lim:Int)(x:znQ):(zby lim take x).1.1.length<=x.1.length:=dH (zmB h _ _) (zlJ lim x)
def zlK (x:znQ):znQ×cH:=
 ((zby 4 zlE (zbx 40 (zbx 40 x).1).1).1,⟨(zbx 40 x).2,(zbx 40 (zbx 40 x).1).2,(zby 4 zlE (zbx 40 (zbx 40 x).1).1).2⟩)
theorem zmo (x:znQ):(zlK x).1.1.length<=x.1.length:=
 dH (zl7 zmn 4 _) (dH (zlM 40 _) (zlM 40 x))
abbrev zlN (x:znQ):znQ×Int:=zbw 2147483647 x
theorem zmv (x:znQ):(zlN x).1.1.length<=x.1.length:=zlJ _ x
def zlH (e0 e1:Int):Int:=if e0=0 then e1 else e0
def zlG (x:znQ):Key:=⟨(zbw 3 x).2,(zbx 12 (zbw 3 x).1).2⟩
def zke (x:znQ):znQ×Key:=
 (((zbx 12 (zbw 3 x).1).1.1,zlH (zbx 12 (zbw 3 x).1).1.2 (if eN (zlG x)=true then 0 else 5)),if zlH (zbx 12 (zbw 3 x).1).1.2 (if eN (zlG x)=true then 0 else 5)=0 then zlG x else⟨0,zlD []⟩)
theorem zmu (x:znQ):(zke x).1.1.length<=x.1.length:=dH (zlM 12 _) (zlJ 3 x)
theorem zmE {α:Type}{P:α->Prop}{f:znQ->znQ×α}(h:∀x,(f x).1.2=0->P (f x).2):∀(n:Nat) (x:znQ),∀y∈(zb8 f n x).2,P y
 |0,x=>by simp[zb8]
 |n+1,x=>by
  unfold zb8;split
  ·rename_i h1;split
   ·intro y hy;rcases kD.1 hy with rfl|hy
    ·exact h x h1
    ·exact zmE h n _ y hy
   ·simp
  ·simp
theorem zmC {α:Type}(f:znQ->znQ×α):∀(n:Nat) (x:znQ),(zb8 f n x).2.length<=n
 |0,x=>by simp[zb8]
 |n+1,x=>by
  have:=zmC f n (f x).1;unfold zb8;split
  ·split<;>simp<;>omega
  ·simp
def zlT {α:Type}(f:znQ->znQ×α):Nat->znQ->znQ×List α
 |0,x=>(x,[])
 |n+1,x=>if(f x).1.2=0 then((zlT f n (f x).1).1,(f x).2::(zlT f n (f x).1).2)else((f x).1,[(f x).2])
def zlQ {α:Type}(lim:Int)(f:znQ->znQ×α)(x:znQ):znQ×List α:=zlT f (zbw lim x).2.toNat (zbw lim x).1
def znP {α:Type}(f g:znQ->znQ×α):Prop:=∀x,(f x).1=(g x).1/\((g x).1.2=0->(f x).2=(g x).2)
theorem zmF {α:Type}{f g:znQ->znQ×α}(h:znP f g):∀n,znP (zlT f n) (zb8 g n)
 |0,x=>⟨rfl,λ_=>rfl⟩
 |n+1,x=>by
  obtain⟨a,b⟩:=h x;obtain⟨c,d⟩:=zmF h n (g x).1;unfold zlT zb8;rw[a];split
  ·rename_i h1;rw[c];split
   ·rename_i h2;exact⟨rfl,λ_=>by simp only[b h1,d h2]⟩
   ·rename_i h2;exact⟨rfl,λh3=>absurd h3 h2⟩
  ·rename_i h1;exact⟨rfl,λh2=>absurd h2 h1⟩
theorem zml {α:Type}{f g:znQ->znQ×α}(h:znP f g)(lim:Int):znP (zlQ lim f) (zby lim g):=λx=>zmF h _ _
theorem zmk {α:Type}(f:znQ->znQ×α):znP f f:=λ_=>⟨rfl,λ_=>rfl⟩
structure zlU {α:Type}(f:znQ->znQ×α)(N:Nat)(x0:znQ)(k:Nat)(x:znQ)(acc:List α):Prop where
 znR:k<=N
 al:acc.length=k
 len:x.1.length<=x0.1.length
 e:zlT f N x0=if x.2=0 then((zlT f (N-k) x).1,acc++(zlT f (N-k) x).2)else(x,acc)
theorem zlU.start {α:Type}(f:znQ->znQ×α){N:Nat}{x:znQ}(h:x.2≠0->N=0):zlU f N x 0 x []:=⟨y8 _,rfl,bY _,by
 split
 ·rfl
 ·rename_i h1;rw[h h1,zlT]⟩
theorem zlU.more {α:Type}{f:znQ->znQ×α}{N k:Nat}{x0 x:znQ}{acc:List α}(h:zlU f N x0 k x acc)(hk:k<N)(h0:x.2=0)(ht:(f x).1.1.length<=x.1.length):zlU f N x0 (k+1) (f x).1 (acc++[(f x).2]):=by
 refine⟨hk,by simp[h.al],dH ht h.len,?_⟩;obtain⟨n,hn⟩:∃n,N-k=n+1:=⟨N-k-1,by omega⟩;rw[h.e,aZ h0,hn,show N-(k+1)=n by omega,zlT];split<;>simp
theorem zlU.done {α:Type}{f:znQ->znQ×α}{N k:Nat}{x0 x:znQ}{acc:List α}(h:zlU f N x0 k x acc)(hd:x.2=0->k=N):zlT f N x0=(x,acc):=by
 rw[h.e];split
 ·rename_i h0;rw[hd h0,Nat.sub_self,zlT,MZ]
 ·rfl
def zlV (x:znQ):znQ×cH:=
 ((zlQ 4 zlE (zbx 40 (zbx 40 x).1).1).1,⟨(zbx 40 x).2,(zbx 40 (zbx 40 x).1).2,(zlQ 4 zlE (zbx 40 (zbx 40 x).1).1).2⟩)
theorem znB (lim:Int)(x:znQ)(h:(zbw lim x).1.2≠0):(zbw lim x).2=0:=by
 unfold zbw at h⊢;split
 ·split
  ·split
   ·rfl
   ·rename_i h1 h2 h3;simp[h1,h2,h3]at h
  ·rfl
 ·rfl
theorem zlP (lim:Int)(b:List UInt8)(e:Int):∃l f n,zbw lim (b,e)=((l,f),n)/\l.length<=b.length/\0<=n/\n<=kZ lim:=⟨_,_,_,rfl,zlJ lim _,zmj lim _,zmt lim _⟩
theorem zlY (lim:Int)(b:List UInt8)(e:Int):∃l f s,zbx lim (b,e)=((l,f),s)/\l.length<=b.length:=⟨_,_,_,rfl,zlM lim _⟩
theorem zl0 {lim:Int}(h:kZ lim=lim)(b:List UInt8)(e:Int):∃l f N,zbw lim (b,e)=((l,f),((N:Nat):Int))/\l.length<=b.length/\(N:Int)<=lim/\(f≠0->N=0):=by
 have a:=zmj lim (b,e);have c:=zmt lim (b,e);have d:=znB lim (b,e);rw[h]at c;refine⟨_,_,(zbw lim (b,e)).2.toNat,Prod.ext rfl (by simp only;omega),zlJ lim _,by omega,λg=>by have:=d g;omega⟩
theorem zmG :znP zlV zlK:=λx=>by
 obtain⟨a,b⟩:=zml (zmk zlE) 4 (zbx 40 (zbx 40 x).1).1;exact⟨a,λh=>by simp only[zlV,zlK,b h]⟩
theorem znm (x:znQ):(zlV x).1.1.length<=x.1.length:=by rw[(zmG x).1];exact zmo x
def zlI (rl:znQ->znQ×List cH)(hl:znQ->znQ×List Int)(k:Int)(n:Str)(y:znQ×Int):znQ×aC:=
 if k=0 then((zbx 12 (zbw 65535 y.1).1).1,⟨0,n,y.2,(zbw 65535 y.1).2,(zbx 12 (zbw 65535 y.1).1).2,[],[]⟩)
 else if k=1 then((rl y.1).1,⟨1,n,y.2,0,zlD [],(rl y.1).2,[]⟩)
 else if k=2 then((zbx 12 y.1).1,⟨2,n,y.2,0,(zbx 12 y.1).2,[],[]⟩)
 else((hl y.1).1,⟨3,n,y.2,0,zlD [],[],(hl y.1).2⟩)
def zl9 (rl:znQ->znQ×List cH)(hl:znQ->znQ×List Int)(x:znQ):znQ×aC:=zlI rl hl (zbw 3 x).2 (zbx 12 (zbw 3 x).1).2 (zbw 2147483647 (zbx 12 (zbw 3 x).1).1)
def zlR (y:znQ×aC):znQ×aC:=((y.1.1,zlH y.1.2 (cQ y.2)),if zlH y.1.2 (cQ y.2)=0 then y.2 else fV)
theorem znr {rl:znQ->znQ×List cH}{hl:znQ->znQ×List Int}(hr:∀x,(rl x).1.1.length<=x.1.length)(hh:∀x,(hl x).1.1.length<=x.1.length)(k:Int)(n:Str)(y:znQ×Int):(zlI rl hl k n y).1.1.length<=y.1.1.length:=by
 unfold zlI;split
 ·exact dH (zlM 12 _) (zlJ 65535 _)
 ·split
  ·exact hr _
  ·split
   ·exact zlM 12 _
   ·exact hh _
theorem znu {rl:znQ->znQ×List cH}{hl:znQ->znQ×List Int}(hr:∀x,(rl x).1.1.length<=x.1.length)(hh:∀x,(hl x).1.1.length<=x.1.length)(x:znQ):(zl9 rl hl x).1.1.length<=x.1.length:=
 dH (znr hr hh _ _ _) (dH (zlJ _ _) (dH (zlM 12 _) (zlJ 3 x)))
abbrev zl3 (x:znQ):znQ×aC:=zl9 (zby 8 zlK) (zby 8 zlN) x
abbrev zl8 (x:znQ):znQ×aC:=zl9 (zlQ 8 zlV) (zlQ 8 zlN) x
def zds (x:znQ):znQ×aC:=zlR (zl3 x)
theorem zmd (x:znQ):(zds x).1.1.length<=x.1.length:=znu (zl7 zmo 8) (zl7 zmv 8) x
theorem znq {rl rl':znQ->znQ×List cH}{hl hl':znQ->znQ×List Int}(hr:znP rl rl')(hh:znP hl hl')(k:Int)(n:Str)(y:znQ×Int):(zlI rl hl k n y).1=(zlI rl' hl' k n y).1/\((zlI rl' hl' k n y).1.2=0->(zlI rl hl k n y).2=(zlI rl' hl' k n y).2):=by
 obtain⟨a,b⟩:=hr y.1;obtain⟨c,d⟩:=hh y.1;unfold zlI;split
 ·exact⟨rfl,λ_=>rfl⟩
 ·split
  ·exact⟨a,λh=>by simp only[b h]⟩
  ·split
   ·exact⟨rfl,λ_=>rfl⟩
   ·exact⟨c,λh=>by simp only[d h]⟩
theorem znL {y z:znQ×aC}(h:y.1=z.1)(h2:z.1.2=0->y.2=z.2):zlR y=zlR z:=by
 unfold zlR zlH;rw[h];by_cases g:z.1.2=0
 ·rw[h2 g]
 ·simp[g]
theorem znt (x:znQ):zlR (zl8 x)=zds x:=by
 obtain⟨a,b⟩:=znq (zml zmG 8) (zml (zmk zlN) 8) (zbw 3 x).2 (zbx 12 (zbw 3 x).1).2 (zbw 2147483647 (zbx 12 (zbw 3 x).1).1);exact znL a b
theorem zns (x:znQ)(h:(zds x).1.2=0):cQ (zds x).2=0:=by
 have h1:zlH (zl3 x).1.2 (cQ (zl3 x).2)=0:=h;show cQ (if zlH (zl3 x).1.2 (cQ (zl3 x).2)=0 then(zl3 x).2 else fV)=0;rw[aZ h1];unfold zlH at h1;split at h1
 ·exact h1
 ·rename_i g;exact absurd h1 g
theorem zmK {α:Type}{f g:znQ->znQ×α}(h:znP f g)(lim:Int)(x:znQ):zby lim g x=((zlQ lim f x).1,if(zlQ lim f x).1.2=0 then(zlQ lim f x).2 else []):=by
 obtain⟨a,b⟩:=zml h lim x;refine Prod.ext a.symm ?_;simp only;rw[a];split
 ·rename_i g;exact(b g).symm
 ·rename_i g;exact zmD _ _ _ g
@[simp] theorem lenAll_mst (l:List cB):iY (l.map eD) 11=True:=tZ (f:=eD) (n:=11) (λ_=>rfl) l
def zlC :znQ->znQ×Int
 | ([],e)=>(([],e),0)
 | (c::l,e)=>((l,e),(c.toNat:Int))
theorem zmh (x:znQ):(zlC x).1.1.length<=x.1.length:=by
 obtain⟨l,e⟩:=x;cases l<;>simp[zlC]
theorem zm8 (x:znQ):0<=(zlC x).2/\(zlC x).2<=255:=by
 obtain⟨l,e⟩:=x;cases l with
 |nil=>simp[zlC]
 |cons c l=>have:=c.toNat_lt;simp[zlC];omega
theorem zmb (b:List UInt8)(e:Int):∃l f k,zlC (b,e)=((l,f),k)/\(0<=k/\k<=255)/\l.length<=b.length:=⟨_,_,_,rfl,zm8 _,zmh _⟩
theorem zma {k:Int}(h:0<=k/\k<=255)(m:Int)(hm:0<m/\m<=10):k.tmod m=k%m/\IntKind.wrap .i64 (k%m)=k%m:=by
 have a:=Int.emod_nonneg k (Int.ne_of_gt hm.1);have b:=Int.emod_lt_of_pos k hm.1;exact⟨Int.tmod_eq_emod_of_nonneg h.1,wz _⟩
def zkg (x:znQ):znQ×cB:=((zlC (zlC (zlC x).1).1).1,⟨(zlC x).2%10,(zlC (zlC x).1).2%4,(zlC (zlC (zlC x).1).1).2%2,0,[],[],sP⟩)
theorem znH (x:znQ):(zkg x).1.1.length<=x.1.length:=dH (zmh _) (dH (zmh _) (zmh x))
def zmf (x:znQ):znQ×Ask:=
 let p:=zbw 65535 x;let h:=zbx 40 p.1;let t:=zbx 40 h.1;let f:=zbw 2147483647 t.1;let o:=zbw 2147483647 f.1
 (o.1,⟨p.2,h.2,t.2,f.2,o.2⟩)
theorem znN (x:znQ):(zmf x).1.1.length<=x.1.length:=dH (zlJ _ _) (dH (zlJ _ _) (dH (zlM _ _) (dH (zlM _ _) (zlJ _ x))))
def zl2 (s:cB)(y:znQ×Int):znQ×cB:=
 if s.kind=0 then((zby 64 zke (zby 64 zds y.1).1).1,{s with n:=y.2,aD:=(zby 64 zds y.1).2,gone:=(zby 64 zke (zby 64 zds y.1).1).2})
 else if s.kind=7 then((zmf y.1).1,{s with n:=y.2,a:=(zmf y.1).2})
 else(y.1,{s with n:=y.2})
def zlF (x:znQ)(s:cB):znQ×cB:=zl2 s (zbw 2147483647 x)
theorem znp (x:znQ)(s:cB):(zlF x s).1.1.length<=x.1.length:=by
 refine dH ?_ (zlJ 2147483647 x);unfold zlF zl2;split
 ·exact dH (zl7 zmu 64 _) (zl7 zmd 64 _)
 ·split
  ·exact znN _
  ·exact bY _
def zkh :Nat->znQ->List cB
 |0,_=>[]
 |n+1,x=>if x.1=[]then []else if(zlF (zkg x).1 (zkg x).2).1.2=0 then(zlF (zkg x).1 (zkg x).2).2::zkh n (zlF (zkg x).1 (zkg x).2).1 else [(zkg x).2]
theorem zmP :∀(n:Nat) (x:znQ),(zkh n x).length<=n
 |0,x=>by simp[zkh]
 |n+1,x=>by
  have:=zmP n (zlF (zkg x).1 (zkg x).2).1;unfold zkh;split
  ·simp
  ·split<;>simp;omega
structure zlS (b:List UInt8)(k:Nat)(x:znQ)(acc:List cB):Prop where
 k4:k<=400
 al:acc.length=k
 len:x.1.length<=b.length
 z:x.2=0
 e:zkh 400 (b,0)=acc++zkh (400-k) x
theorem zlS.start (b:List UInt8):zlS b 0 (b,0) []:=⟨by omega,rfl,bY _,rfl,rfl⟩
theorem zlS.one {b:List UInt8}{k:Nat}{x:znQ}{acc:List cB}(h:zlS b k x acc)(hk:k<400)(hx:x.1≠[]):zkh 400 (b,0)=acc++if(zlF (zkg x).1 (zkg x).2).1.2=0 then(zlF (zkg x).1 (zkg x).2).2::zkh (400-(k+1)) (zlF (zkg x).1 (zkg x).2).1 else [(zkg x).2]:=by
 obtain⟨n,hn⟩:∃n,400-k=n+1:=⟨400-k-1,by omega⟩;rw[h.e,hn,zkh,aT hx,show 400-(k+1)=n by omega]
theorem zlS.more {b:List UInt8}{k:Nat}{x:znQ}{acc:List cB}(h:zlS b k x acc)(hk:k<400)(hx:x.1≠[])(h0:(zlF (zkg x).1 (zkg x).2).1.2=0):zlS b (k+1) (zlF (zkg x).1 (zkg x).2).1 (acc++[(zlF (zkg x).1 (zkg x).2).2]):=
 ⟨hk,by simp[h.al],dH (znp _ _) (dH (znH x) h.len),h0,by rw[h.one hk hx,aZ h0];simp⟩
theorem zlS.fail {b:List UInt8}{k:Nat}{x:znQ}{acc:List cB}(h:zlS b k x acc)(hk:k<400)(hx:x.1≠[])(h0:¬(zlF (zkg x).1 (zkg x).2).1.2=0):zkh 400 (b,0)=acc++[(zkg x).2]:=by rw[h.one hk hx,aT h0]
theorem zlS.done {b:List UInt8}{k:Nat}{x:znQ}{acc:List cB}(h:zlS b k x acc)(hx:¬(k<400/\x.1≠[])):zkh 400 (b,0)=acc:=by
 rw[h.e];by_cases hk:k<400
 ·have e:x.1=[]:=Classical.byContradiction λg=>hx ⟨hk,g⟩;obtain⟨n,hn⟩:∃n,400-k=n+1:=⟨400-k-1,by omega⟩;rw[hn,zkh,aZ e,MZ]
 ·rw[show 400-k=0 by omega,zkh,MZ]
theorem zno (x:znQ)(s:cB)(h:s.aD=[]):cL (zlF x s).2.aD:=by
 have h0:cL ([]:List aC):=⟨by simp,λr hr=>by simp at hr⟩;unfold zlF zl2;split
 ·have a:=zmC zds (zbw 64 (zbw 2147483647 x).1).2.toNat (zbw 64 (zbw 2147483647 x).1).1;have b:=zmt 64 (zbw 2147483647 x).1;have c:kZ 64=64:=rfl;refine⟨?_,λr hr=>WN (zmE (P:=λr=>cQ r=0) zns _ _ r hr)⟩;show(zb8 zds _ _).2.length<=_;omega
 ·split
  ·simpa[h]
  ·simpa[h]
theorem zmw :∀(n:Nat) (x:znQ),∀s∈zkh n x,cL s.aD
 |0,x=>by simp[zkh]
 |n+1,x=>by
  unfold zkh;split
  ·simp
  ·split
   ·intro s hs;rcases kD.1 hs with rfl|hs
    ·exact zno _ _ rfl
    ·exact zmw n _ s hs
   ·intro s hs;simp only[yA]at hs;subst hs;exact⟨by simp[zkg],λr hr=>by simp[zkg]at hr⟩
theorem zmJ :∀(f k n0 m:Nat) (t:List UInt8),m<128^(f+1)->(0<k->0<m)->zkf (f+1) k n0 (o5 (f+1) m++t)=(n0+2^(7*k)*m,k+(o5 (f+1) m).length,0)
 |f,k,n0,m,t,h,hp=>by
  by_cases h1:m<128
  ·have e:(UInt8.ofNat m).toNat=m:=by have:=J2 m (by omega);omega
   rw[WY _ _ h1,yD,zkf,e,aZ h1,aT (by omega)];rfl
  ·have e:(UInt8.ofNat (m%128+128)).toNat=m%128+128:=by have:=J2 (m%128+128) (by omega);omega
   obtain⟨g,rfl⟩:∃g,f=g+1:=by
    cases f with
    |zero=>simp at h;omega
    |succ g=>exact⟨g,rfl⟩
   have hm:m/128<128^(g+1):=by rw[Nat.pow_succ]at h;exact TL (by rw[uO];exact h)
   have a:2^(7*(k+1))=2^(7*k)*128:=by rw[show 7*(k+1)=7*k+7 by omega,Nat.pow_add]
   rw[Kf _ _ h1,yD,zkf,e,aT (by omega),zmJ g (k+1) _ (m/128) t hm (λ_=>by omega),a,show(m%128+128)%128=m%128 by omega,jI,Nat.add_assoc,Nat.mul_assoc,<-Nat.mul_add,show m%128+128*(m/128)=m by omega];congr 2;omega
theorem zlZ {n lim:Int}(t:List UInt8)(h0:0<=n)(h1:n<=kZ lim):zbw lim (aL n++t,0)=((t,0),n):=by
 have hb:kZ lim<=2147483647:=by unfold kZ;omega
 have e:=zmJ 4 0 0 (kZ n).toNat t (by rw[SK h0 (by omega)];show _<34359738368;omega) (λh=>absurd h (by omega));have e2:zkf 5 0 0 (aL n++t)=(0+2^(7*0)*(kZ n).toNat,0+(aL n).length,0):=e;rw[SK h0 (by omega)]at e2;unfold zbw;simp only[e2,fK];rw[aT (by simp;omega)];simp;omega
theorem zl4 {s:Str}{lim:Int}(t:List UInt8)(h:((bs s).length:Int)<=kZ lim):zbx lim (cY s++t,0)=((t,0),s):=by
 have e:=zlZ (bs s++t) (n:=(bs s).length) (by omega) h;rw[cY,TU];unfold zbx;simp only[e,fK];rw[aT (by simp;omega)];have e2:zlD (bs s)=s:=DY rfl;simp[e2]
theorem zmA {α:Type}{f:znQ->znQ×α}{lay:α->List UInt8}:∀{l:List α},(∀y∈l,∀t,f (lay y++t,0)=((t,0),y))->∀t,zb8 f l.length (l.flatMap lay++t,0)=((t,0),l)
 |[],_,_=>rfl
 |y::l,h,t=>by
  have e:=h y (by simp) (l.flatMap lay++t);have e2:=zmA (l:=l) (λz hz=>h z (by simp[hz])) t;simp only[jI,TP,TU,zb8,e,e2,fK]
theorem zl6 {α:Type}{f:znQ->znQ×α}{lay:α->List UInt8}{l:List α}{lim:Int}(h:∀y∈l,∀t,f (lay y++t,0)=((t,0),y))(hl:(l.length:Int)<=kZ lim)(t:List UInt8):zby lim f (bK l lay++t,0)=((t,0),l):=by
 rw[bK,TU];unfold zby;rw[zlZ _ (by omega) hl];exact zmA h t
theorem zmX {w:Weight}(h:TA w)(t:List UInt8):zlE (jA w++t,0)=((t,0),w):=by
 have:=h.c;rw[jA,TU,zlE,zl4 _ (by show _<=(12:Int);omega),zlZ _ h.w0 (by show _<=(100:Int);have:=h.w1;omega)]
theorem znl {r:cH}(h:I9 r)(t:List UInt8):zlK (jJ r++t,0)=((t,0),r):=by
 have:=h.host;have:=h.pre;have:=h.split;rw[jJ,TU,TU,zlK,zl4 _ (by show _<=(40:Int);omega),zl4 _ (by show _<=(40:Int);omega),zl6 (λw hw=>zmX (h.each w hw)) (by show _<=(4:Int);omega)]
theorem zmm {k:Key}(h:eN k=true)(t:List UInt8):zke (dK k++t,0)=((t,0),k):=by
 obtain⟨h1,h2,h3⟩:=ID h;have e1:=zlZ (n:=k.kind) (lim:=3) (cY k.name++t) h1 h2;have e2:=zl4 (s:=k.name) (lim:=12) t (by show _<=(12:Int);omega);have e3:zlG (dK k++t,0)=k:=by rw[dK,TU,zlG,e1,e2]
 rw[zke,e3,dK,TU,e1,e2];simp[h,zlH]
theorem zmI {r:aC}(h:cQ r=0)(t:List UInt8):zds (fD r++t,0)=((t,0),r):=by
 have I:=uY h;have i1:=I.name;have i2:=I.to;have i3:=I.rules;have i4:=I.bH;have e1:=zlZ (n:=r.kind) (lim:=3) (cY r.name++(aL r.bR++(jQ r++t))) I.k0 I.k3;have e2:=zl4 (s:=r.name) (lim:=12) (aL r.bR++(jQ r++t)) (by show _<=(12:Int);omega);have e3:=zlZ (n:=r.bR) (lim:=2147483647) (jQ r++t) I.v0 I.v1;have e4:zl3 (fD r++t,0)=((t,0),r):=by
  rw[fD,TU,TU,TU];unfold zl3 zl9;rw[e1,e2,e3];unfold zlI;obtain⟨kd,nm,v,p,to,rs,hs⟩:=r;simp only[jQ]at*;rcases(show kd=0\/kd=1\/kd=2\/kd=3 from by have:=I.k0;have:=I.k3;simp only at*;omega)with g|g|g|g
  ·subst g;obtain rfl:rs=[]:=I.iF (by simp);obtain rfl:hs=[]:=I.HY (by simp);simp only[fK,TU];rw[zlZ (lim:=65535) _ I.p0 I.p1,zl4 _ (by show _<=(12:Int);omega)]
  ·subst g;obtain rfl:p=0:=I.HX (by simp);obtain rfl:to=⟨#[]⟩:=I.PU (by simp) (by simp);obtain rfl:hs=[]:=I.HY (by simp);simp only[show¬(1:Int)=0 by omega,iO,fK];rw[zl6 (lim:=8) (λw hw=>znl (I.rule w hw)) (by show(rs.length:Int)<=(8:Int);omega)];rfl
  ·subst g;obtain rfl:p=0:=I.HX (by simp);obtain rfl:rs=[]:=I.iF (by simp);obtain rfl:hs=[]:=I.HY (by simp);simp only[show¬(2:Int)=0 by omega,show¬(2:Int)=1 by omega,iO,fK];rw[zl4 _ (by show _<=(12:Int);omega)]
  ·subst g;obtain rfl:p=0:=I.HX (by simp);obtain rfl:to=⟨#[]⟩:=I.PU (by simp) (by simp);obtain rfl:rs=[]:=I.iF (by simp);simp only[show¬(3:Int)=0 by omega,show¬(3:Int)=1 by omega,show¬(3:Int)=2 by omega,iO];rw[zl6 (lim:=8) (λw hw t=>zlZ (lim:=2147483647) t (I.host w hw).1 (I.host w hw).2) (by show(hs.length:Int)<=(8:Int);omega)];rfl
 rw[zds,e4];simp[zlR,zlH,h]
end Go.G
namespace Go.Proofs.YtobcmagefgdgdaaGreatDoor
open Go.AI Go.G Tryz
attribute [simp] ntmps182 results182 ntmps237 results237 ntmps393 results393 ntmps488 results488 ntmps313 results313
attribute [simp] aV
abbrev BI :AV:=.d (.v (.slice none 0 0))
theorem ZT (n:Int):C0 182 [int n] (int (kZ n)):=by
 refine Ct.B func182 ?_;simp;have e:=Ro n;exact aA (by simp[e])
theorem zjb :C0 237 [BI] (BI):=by
 refine Ct.B func237 ?_;simp;exact aA
theorem ZK (x:UInt8)(l:List UInt8)(hl:l.length<=1000000):C1 237 [aB ((x::l).map aV)] [] [] (.own 64) [(64,.grow 1 ((x::l).map aV) 5)]:=by
 refine Ct.B func237 ?_;simp;refine⟨by omega,?_⟩;exact⟨[(64,384)],by constructor<;>simp[aI,aJ]⟩
theorem Kb (n:Int):C1 393 [BI,int n] [] [] (.own 64) [(64,.grow 1 ((aL n).map aV) 5)]:=by
 refine Ct.B func393 ?_;simp;refine CI.p zjb ?_;simp;refine CI.p (ZT n) ?_;simp;obtain⟨m,e0,e1,e2⟩:=IX n;simp[e0];refine aH.gH 5 1 5 rfl ?_;refine aH.inv mixed rfl (ι:={z:List UInt8×Nat×Nat//x8 m z.1 z.2.1 z.2.2}) (λk=>[(1,int k.1.2.1),(5,.own 64)]) (λk=>[(64,.grow 1 (k.1.1.map aV) 5)]) 65 (λk=>k.1.2.2) ⟨([],m,5),.start e1⟩ [] (by constructor<;>simp) ?_;rintro⟨⟨q,n,f⟩,hI⟩ B hB;simp only at hI;refine CI.n ?_;simp;have hs:=hI.small;have hql:q.length<=5:=by have:=hI.l;omega
 have hf:=hI.f1;have w1:=Ke n hs;have w2:(n:Int).fdiv (2^min 7 IntKind.i64.bits)=((n/128:Nat):Int):=Kd n;refine aX (λh1 zz=>?_) (λh1 zz=>?_)<;>simp only[zz]<;>simp[w1,w2]
 ·refine⟨by omega,?_⟩;refine hB _ ⟨(q++[UInt8.ofNat (n%128+128)],n/128,f-1),hI.step (by omega)⟩ [] ?_ (by simp;omega);constructor<;>simp[w2]
 ·have h1':n<128:=by omega
  have w3:=WX n h1';have e3:=hI.last h1';simp[w3];refine⟨by omega,?_⟩;exact⟨[(64,449)],by constructor<;>simp[aI,aJ,e2,<-e3]⟩
theorem Kc (x:UInt8)(l:List UInt8)(n:Int)(hl:l.length<=1000000):C1 393 [aB ((x::l).map aV),int n] [] [] (.own 64) [(64,.grow 1 ((x::l++aL n).map aV) 5)]:=by
 refine Ct.B func393 ?_;simp;refine CI.cc [] (ZK x l hl) ?_;simp;refine CI.p (ZT n) ?_;simp;obtain⟨m,e0,e1,e2⟩:=IX n;simp[e0];refine aH.inv mixed rfl (ι:={z:List UInt8×Nat×Nat//x8 m z.1 z.2.1 z.2.2}) (λk=>[(1,int k.1.2.1),(5,.own 64)]) (λk=>[(64,.grow 1 ((x::l++k.1.1).map aV) 5)]) 65 (λk=>k.1.2.2) ⟨([],m,5),.start e1⟩ [] (by constructor<;>simp) ?_;rintro⟨⟨q,n,f⟩,hI⟩ B hB;simp only at hI;refine CI.n ?_;simp;have hs:=hI.small;have hql:q.length<=5:=by have:=hI.l;omega
 have hf:=hI.f1;have w1:=Ke n hs;have w2:(n:Int).fdiv (2^min 7 IntKind.i64.bits)=((n/128:Nat):Int):=Kd n;refine aX (λh1 zz=>?_) (λh1 zz=>?_)<;>simp only[zz]<;>simp[w1,w2]
 ·refine⟨by omega,?_⟩;refine hB _ ⟨(q++[UInt8.ofNat (n%128+128)],n/128,f-1),hI.step (by omega)⟩ [] ?_ (by simp;omega);constructor<;>simp[w2]
 ·have h1':n<128:=by omega
  have w3:=WX n h1';have e3:=hI.last h1';simp[w3];refine⟨by omega,?_⟩;exact⟨[(64,449)],by constructor<;>simp[aI,aJ,e2,<-e3]⟩
theorem Wi (x:UInt8)(l:List UInt8)(s:Str)(hl:l.length<=1000000)(hs:(bs s).length<=1000000):C1 488 [aB ((x::l).map aV),str s] [] [] (.own 64) [(64,.grow 1 ((x::l++cY s).map aV) 5)]:=by
 refine Ct.B func488 ?_;simp;have h5:=cO ((bs s).length:Int);have e:List.map (λc:UInt8=>[D.v (.int .u8 c.toNat)]) (ByteArray.toList s)=(bs s).map aV:=Cw s;have e1:ByteArray.size s=(bs s).length:=iA s;refine CI.cc [] (Kc x l (bs s).length hl) ?_ (ha:=by simp[e,e1]) (hk:=by simp[e,e1]);simp[e,e1];refine⟨by omega,?_⟩;exact⟨[(64,448)],by constructor<;>simp[aI,aJ,cY]⟩
theorem zeG (n:Int):C0 393 [BI,int n] (aB ((aL n).map aV)):=(Kb n).data
theorem o6 (x:UInt8)(l:List UInt8)(n:Int)(hl:l.length<=1000000):C0 393 [aB ((x::l).map aV),int n] (aB ((x::l++aL n).map aV)):=(Kc x l n hl).data
theorem EN (x:UInt8)(l:List UInt8)(s:Str)(hl:l.length<=1000000)(hs:(bs s).length<=1000000):C0 488 [aB ((x::l).map aV),str s] (aB ((x::l++cY s).map aV)):=(Wi x l s hl hs).data
theorem O6 :C1 313 [.ptr 0 0] [] [(0,.cells [aB [],int 0] 190)] (int 0) [(0,.cells [aB [],int 0] 190)]:=by
 refine Ct.B func313 ?_;simp;exact⟨[],by constructor<;>simp[aI,aJ]⟩
attribute [simp] ntmps556 results556 ntmps589 results589 ntmps554 results554 ntmps489 results489 ntmps491 results491 ntmps552 results552 ntmps490 results490 ntmps553 results553 ntmps492 results492 ntmps259 results259 ntmps493 results493 ntmps394 results394 ntmps590 results590 ntmps555 results555 ntmps494 results494 ntmps395 results395 ntmps396 results396
theorem zim (x:UInt8)(b:List UInt8)(l:List Int)(kf:D)(lay:Int->List UInt8)(m B:Nat)(hB:B<=900000)(hf:∀y∈l,∀b':List UInt8,b'.length<=B->bN prog (.d kf) [aB ((x::b').map aV),int y] (aB ((x::b'++lay y).map aV)))(hly:∀y∈l,(lay y).length<=m)(hs:b.length+5+l.length*m<=B)(hl:l.length<=200000):C0 556 [aB ((x::b).map aV),aB (l.map kP),.d kf] (aB ((x::b++bK l lay).map aV)):=by
 refine Ct.B func556 ?_;simp;have hn:=cO l.length;refine CI.p (o6 x b l.length (by omega)) ?_;simp;refine aH.V (l) (λk=>[(0,aB ((x::(b++aL l.length++(l.take k.1).flatMap lay)).map aV)),(2,.d kf),(13,aB (l.map kP)),(14,int l.length),(15,int k.1)]) (λk=>[]) 65 (λk hk1 B hB=>?_);simp;rcases bC hk1 with⟨y,hk,hx,hr,hm,ht,hd,hw,h⟩|rfl
 ·simp[h,hr,hw];have hk2:=FN l k hly;refine CI.ff (hf y hm (b++aL l.length++(l.take k).flatMap lay) (by simp only[bZ];omega)) rfl rfl rfl ?_;simp;exact hB hk (by constructor<;>simp[hw,ht,bK])
 ·simp;exact aA (by simp[bK])
theorem zin (x:UInt8)(b:List UInt8)(l:List Weight)(kf:D)(lay:Weight->List UInt8)(m B:Nat)(hB:B<=900000)(hf:∀y∈l,∀b':List UInt8,b'.length<=B->bN prog (.d kf) [aB ((x::b').map aV),st (wC y)] (aB ((x::b'++lay y).map aV)))(hly:∀y∈l,(lay y).length<=m)(hs:b.length+5+l.length*m<=B)(hl:l.length<=200000):C0 589 [aB ((x::b).map aV),aB (l.map wC),.d kf] (aB ((x::b++bK l lay).map aV)):=by
 refine Ct.B func589 ?_;simp;have hn:=cO l.length;refine CI.p (o6 x b l.length (by omega)) ?_;simp;refine aH.V (l) (λk=>[(0,aB ((x::(b++aL l.length++(l.take k.1).flatMap lay)).map aV)),(2,.d kf),(13,aB (l.map wC)),(14,int l.length),(15,int k.1)]) (λk=>[]) 65 (λk hk1 B hB=>?_);simp;rcases bC hk1 with⟨y,hk,hx,hr,hm,ht,hd,hw,h⟩|rfl
 ·simp[h,hr,hw];have hk2:=FN l k hly;refine CI.ff (hf y hm (b++aL l.length++(l.take k).flatMap lay) (by simp only[bZ];omega)) rfl rfl rfl ?_;simp;exact hB hk (by constructor<;>simp[hw,ht,bK])
 ·simp;exact aA (by simp[bK])
theorem zij (x:UInt8)(b:List UInt8)(l:List cH)(kf:D)(lay:cH->List UInt8)(m B:Nat)(hB:B<=900000)(hf:∀y∈l,∀b':List UInt8,b'.length<=B->bN prog (.d kf) [aB ((x::b').map aV),st (dJ y)] (aB ((x::b'++lay y).map aV)))(hly:∀y∈l,(lay y).length<=m)(hs:b.length+5+l.length*m<=B)(hl:l.length<=200000):C0 554 [aB ((x::b).map aV),aB (l.map dJ),.d kf] (aB ((x::b++bK l lay).map aV)):=by
 refine Ct.B func554 ?_;simp;have hn:=cO l.length;refine CI.p (o6 x b l.length (by omega)) ?_;simp;refine aH.V (l) (λk=>[(0,aB ((x::(b++aL l.length++(l.take k.1).flatMap lay)).map aV)),(2,.d kf),(13,aB (l.map dJ)),(14,int l.length),(15,int k.1)]) (λk=>[]) 65 (λk hk1 B hB=>?_);simp;rcases bC hk1 with⟨y,hk,hx,hr,hm,ht,hd,hw,h⟩|rfl
 ·simp[h,hr,hw];have hk2:=FN l k hly;refine CI.ff (hf y hm (b++aL l.length++(l.take k).flatMap lay) (by simp only[bZ];omega)) rfl rfl rfl ?_;simp;exact hB hk (by constructor<;>simp[hw,ht,bK])
 ·simp;exact aA (by simp[bK])
theorem zil (x:UInt8)(b:List UInt8)(l:List Key)(kf:D)(lay:Key->List UInt8)(m B:Nat)(hB:B<=900000)(hf:∀y∈l,∀b':List UInt8,b'.length<=B->bN prog (.d kf) [aB ((x::b').map aV),st (aQ y)] (aB ((x::b'++lay y).map aV)))(hly:∀y∈l,(lay y).length<=m)(hs:b.length+5+l.length*m<=B)(hl:l.length<=200000):C0 489 [aB ((x::b).map aV),aB (l.map aQ),.d kf] (aB ((x::b++bK l lay).map aV)):=by
 refine Ct.B func489 ?_;simp;have hn:=cO l.length;refine CI.p (o6 x b l.length (by omega)) ?_;simp;refine aH.V (l) (λk=>[(0,aB ((x::(b++aL l.length++(l.take k.1).flatMap lay)).map aV)),(2,.d kf),(13,aB (l.map aQ)),(14,int l.length),(15,int k.1)]) (λk=>[]) 65 (λk hk1 B hB=>?_);simp;rcases bC hk1 with⟨y,hk,hx,hr,hm,ht,hd,hw,h⟩|rfl
 ·simp[h,hr,hw];have hk2:=FN l k hly;refine CI.ff (hf y hm (b++aL l.length++(l.take k).flatMap lay) (by simp only[bZ];omega)) rfl rfl rfl ?_;simp;exact hB hk (by constructor<;>simp[hw,ht,bK])
 ·simp;exact aA (by simp[bK])
theorem zik (x:UInt8)(b:List UInt8)(l:List aC)(kf:D)(lay:aC->List UInt8)(m B:Nat)(hB:B<=900000)(hf:∀y∈l,∀b':List UInt8,b'.length<=B->bN prog (.d kf) [aB ((x::b').map aV),st (aF y)] (aB ((x::b'++lay y).map aV)))(hly:∀y∈l,(lay y).length<=m)(hs:b.length+5+l.length*m<=B)(hl:l.length<=200000):C0 491 [aB ((x::b).map aV),aB (l.map aF),.d kf] (aB ((x::b++bK l lay).map aV)):=by
 refine Ct.B func491 ?_;simp;have hn:=cO l.length;refine CI.p (o6 x b l.length (by omega)) ?_;simp;refine aH.V (l) (λk=>[(0,aB ((x::(b++aL l.length++(l.take k.1).flatMap lay)).map aV)),(2,.d kf),(13,aB (l.map aF)),(14,int l.length),(15,int k.1)]) (λk=>[]) 65 (λk hk1 B hB=>?_);simp;rcases bC hk1 with⟨y,hk,hx,hr,hm,ht,hd,hw,h⟩|rfl
 ·simp[h,hr,hw];have hk2:=FN l k hly;refine CI.ff (hf y hm (b++aL l.length++(l.take k).flatMap lay) (by simp only[bZ];omega)) rfl rfl rfl ?_;simp;exact hB hk (by constructor<;>simp[hw,ht,bK])
 ·simp;exact aA (by simp[bK])
theorem zhN (x:Key)(kf:FuncId)(b:Bool)(hf:bN prog (.d (dE kf)) [st (aQ x)] (bool b)):C0 552 [st (aQ x),.d (.bE [dE kf])] (bool (!b)):=by
 refine Ct.B func552 ?_;simp;refine CI.ff hf rfl rfl rfl ?_;simp;exact aA
theorem zhJ (l:List Key)(kf:FuncId)(may:Key->Bool)(hf:∀x∈l,bN prog (.d (dE kf)) [st (aQ x)] (bool (may x)))(hl:l.length<=1000000):C0 490 [aB (l.map aQ),.d (dE kf)] (aB (((l.filter may).take 64).map aQ)):=by
 refine Ct.BS func490 mixed 1 400 ?_;simp;refine CI.s (tm:=[(0,aB (l.map aQ)),(3,.d (.bE [dE kf]))]) (mm:=[]) (nx:=65) [] [64] (by constructor<;>simp) ?_;refine CI.n ?_;simp;have hg:∀x∈l,bN prog (.d (.fn (.func 552) [] [.bE [dE kf]])) [st (aQ x)] (bool (!may x)):=λx hx=>bN.nZ (zhN x kf (may x) (hf x hx)) call552 rfl rfl;have hfl:(l.filter may).length<=1000000:=dH (gJ _ _) hl;have ht:=Cm aQ (l.filter λx=>may x);cases l with
 |nil=>
  refine CI.p Qw ?_;simp;refine CI.p (ZH (.fn (.func 552) [] [.bE [dE kf]])) ?_;simp;exact aA
 |cons x l=>
  refine CI.cc [] (ZJ x l (by simp at hl;omega)) ?_;simp;refine CI.cc [129] (RU (x::l) (.fn (.func 552) [] [.bE [dE kf]]) (λy=>!may y) hg hl) ?_;simp;refine⟨⟨by split<;>omega,by split<;>omega⟩,?_⟩;exact aA (by simp[ht])
theorem zhM (x:aC)(kf:FuncId)(b:Bool)(hf:bN prog (.d (dE kf)) [st (aF x)] (bool b)):C0 553 [st (aF x),.d (.bE [dE kf])] (bool (!b)):=by
 refine Ct.B func553 ?_;simp;refine CI.ff hf rfl rfl rfl ?_;simp;exact aA
theorem zhG (l:List aC)(kf:FuncId)(may:aC->Bool)(hf:∀x∈l,bN prog (.d (dE kf)) [st (aF x)] (bool (may x)))(hl:l.length<=1000000):C0 492 [aB (l.map aF),.d (dE kf)] (aB (((l.filter may).take 64).map aF)):=by
 refine Ct.BS func492 mixed 1 400 ?_;simp;refine CI.s (tm:=[(0,aB (l.map aF)),(3,.d (.bE [dE kf]))]) (mm:=[]) (nx:=65) [] [64] (by constructor<;>simp) ?_;refine CI.n ?_;simp;have hg:∀x∈l,bN prog (.d (.fn (.func 553) [] [.bE [dE kf]])) [st (aF x)] (bool (!may x)):=λx hx=>bN.nZ (zhM x kf (may x) (hf x hx)) call553 rfl rfl;have hfl:(l.filter may).length<=1000000:=dH (gJ _ _) hl;have ht:=Cm aF (l.filter λx=>may x);cases l with
 |nil=>
  refine CI.p R6 ?_;simp;refine CI.p (RT (.fn (.func 553) [] [.bE [dE kf]])) ?_;simp;exact aA
 |cons x l=>
  refine CI.cc [] (R4 x l (by simp at hl;omega)) ?_;simp;refine CI.cc [129] (RW (x::l) (.fn (.func 553) [] [.bE [dE kf]]) (λy=>!may y) hg hl) ?_;simp;refine⟨⟨by split<;>omega,by split<;>omega⟩,?_⟩;exact aA (by simp[ht])
theorem YQ (k_:Key):C0 259 [st (aQ k_)] (bool (eN k_)):=by
 refine Ct.B func259 ?_;simp;rw[Jp];refine bM (λh1=>?_) (λh1=>?_)<;>simp only[h1]<;>simp
 ·refine bM (λh2=>?_) (λh2=>?_)<;>simp only[h2]<;>simp
  ·refine CI.p (H6 k_.name) ?_;simp;exact aA (by simp[h1,h2])
  ·exact aA (by simp[h1,h2])
 ·exact aA (by simp[h1])
theorem Fs (r:aC):C0 493 [st (aF r)] (bool (decide (cQ r=0))):=by
 refine Ct.B func493 ?_;simp;refine CI.p (CZ r) ?_;simp;exact aA
theorem Gr (x:UInt8)(b:List UInt8)(k_:Key)(hk:eN k_=true)(hb:b.length<=200000):C0 394 [aB ((x::b).map aV),st (aQ k_)] (aB ((x::b++dK k_).map aV)):=by
 refine Ct.B func394 ?_;simp;have hi:=ID hk;have hn:=cO k_.kind;refine CI.p (YQ k_) ?_ (ha:=by simp[hk]);simp[hk];refine CI.p (o6 x b k_.kind (by omega)) ?_;simp;refine CI.p (EN x (b++aL k_.kind) k_.name (by simp;omega) (by omega)) ?_;simp;refine dr ?_;exact aA (by simp[dK])
theorem zcF (x:UInt8)(b:List UInt8)(w:Weight)(hw:TA w)(hb:b.length<=200000):C0 590 [aB ((x::b).map aV),st (wC w)] (aB ((x::b++jA w).map aV)):=by
 refine Ct.B func590 ?_;simp;have h1:=hw.c;have hn:=mG hw.c;refine CI.p (EN x b w.fT (by omega) (by omega)) ?_;simp;refine CI.p (o6 x (b++cY w.fT) w.w (by simp;omega)) ?_;simp;refine dr ?_;exact aA (by simp[jA])
theorem zcG (x:UInt8)(b:List UInt8)(r:cH)(hr:I9 r)(hb:b.length<=189000):C0 555 [aB ((x::b).map aV),st (dJ r)] (aB ((x::b++jJ r).map aV)):=by
 refine Ct.B func555 ?_;simp;have h1:=hr.host;have h2:=hr.pre;have n1:=mG h1;have n2:=mG h2;have h3:=hr.split;refine CI.p (EN x b r.host (by omega) (by omega)) ?_;simp;refine CI.p (EN x (b++cY r.host) r.pre (by simp;omega) (by omega)) ?_;simp;refine CI.p (zin x (b++cY r.host++cY r.pre) r.split (dE 590) jA 22 200000 (by omega) (λy hy b' hb'=>bN.of (zcF x b' y (hr.each y hy) hb') call590 rfl rfl) (λy hy=>GI (hr.each y hy)) (by simp;omega) (by omega)) ?_;simp;refine dr ?_;exact aA (by simp[jJ])
theorem zcE (x:UInt8)(b:List UInt8)(r:aC)(hs:cQ r=0)(hb:b.length<=187000):C0 494 [aB ((x::b).map aV),st (aF r)] (aB ((x::b++fD r).map aV)):=by
 refine Ct.B func494 ?_;simp;have I:=uY hs;have n1:=cO r.kind;have n2:=mG I.name;have n3:=cO r.bR;have n4:=cO r.port;have i1:=I.name;have i2:=I.rules;have i3:=I.bH;have i4:=I.to;refine CI.p (Fs r) ?_ (ha:=by simp[hs]);simp[hs];refine CI.p (o6 x b r.kind (by omega)) ?_;simp;refine CI.p (EN x (b++aL r.kind) r.name (by simp;omega) (by omega)) ?_;simp;refine CI.p (o6 x (b++aL r.kind++cY r.name) r.bR (by simp;omega)) ?_;simp;refine dr ?_;have hc:(b++aL r.kind++cY r.name++aL r.bR).length<=187100:=by simp;omega
 rcases(show r.kind=0\/r.kind=1\/r.kind=2\/r.kind=3 from by have:=I.k0;have:=I.k3;omega)with h|h|h|h
 all_goals rw[h]at hc
 ·simp[h];refine CI.p (o6 x (b++aL 0++cY r.name++aL r.bR) r.port (by omega)) ?_;simp;refine CI.p (EN x (b++aL 0++cY r.name++aL r.bR++aL r.port) r.to (by simp at hc⊢;omega) (by omega)) ?_;simp;refine dr ?_;exact aA (by simp[fD,jQ,h])
 ·simp[h];refine CI.p (zij x (b++aL 1++cY r.name++aL r.bR) r.rules (dE 555) jJ 183 189000 (by omega) (λy hy b' hb'=>bN.of (zcG x b' y (I.rule y hy) hb') call555 rfl rfl) (λy hy=>KM (I.rule y hy)) (by omega) (by omega)) ?_;simp;exact aA (by simp[fD,jQ,h])
 ·simp[h];refine CI.p (EN x (b++aL 2++cY r.name++aL r.bR) r.to (by omega) (by omega)) ?_;simp;exact aA (by simp[fD,jQ,h])
 ·simp[h];refine CI.p (zim x (b++aL 3++cY r.name++aL r.bR) r.bH (dE 393) aL 5 200000 (by omega) (λy hy b' hb'=>bN.of (o6 x b' y (by omega)) call393 rfl rfl) (λy hy=>cO y) (by omega) (by omega)) ?_;simp;exact aA (by simp[fD,jQ,h])
theorem V2 (x:UInt8)(b:List UInt8)(l:List Key)(hk:∀k∈l,eN k=true)(hl:l.length<=64)(hb:b.length<=190000):C0 395 [aB ((x::b).map aV),aB (l.map aQ)] (aB ((x::b++bK l dK).map aV)):=by
 refine Ct.B func395 ?_;simp;have e:(l.filter eN).take 64=l:=by rw[JS.2 hk,JK hl]
 have hc:=zhJ l 259 eN (λy _=>bN.of (YQ y) call259 rfl rfl) (by omega);rw[e]at hc;refine CI.p hc ?_;simp;refine CI.p (zil x b l (dE 394) dK 22 200000 (by omega) (λy hy b' hb'=>bN.of (Gr x b' y (hk y hy) hb') call394 rfl rfl) (λy hy=>uE (hk y hy)) (by omega) (by omega)) ?_;simp;exact aA
theorem zcM (x:UInt8)(b:List UInt8)(l:List aC)(hk:∀r∈l,cQ r=0)(hl:l.length<=64)(hb:b.length<=90000):C0 396 [aB ((x::b).map aV),aB (l.map aF)] (aB ((x::b++bK l fD).map aV)):=by
 refine Ct.B func396 ?_;simp;have e:(l.filter λr=>decide (cQ r=0)).take 64=l:=by rw[JS.2 (λr hr=>oC (hk r hr)),JK hl]
 have hd:=zhG l 493 (λr=>decide (cQ r=0)) (λy _=>bN.of (Fs y) call493 rfl rfl) (by omega);rw[e]at hd;refine CI.p hd ?_;simp;refine CI.p (zik x b l (dE 494) fD 1496 187000 (by omega) (λy hy b' hb'=>bN.of (zcE x b' y (hk y hy) hb') call494 rfl rfl) (λy hy=>A9 (uY (hk y hy))) (by omega) (by omega)) ?_;simp;exact aA
attribute [simp] ntmps181 results181 ntmps183 results183 ntmps117 results117 ntmps120 results120
theorem znw (b:List UInt8)(e:Int)(hb:b.length<=1000000):C1 181 [.ptr 0 0] [(0,.cells [aB (b.map aV),int e] 190)] [] (.aU [int (zkf 5 0 0 b).1,int (zkf 5 0 0 b).2.1,int (zkf 5 0 0 b).2.2]) []:=by
 refine Ct.B func181 ?_;simp;obtain⟨M,e1,m1,m3⟩:∃M:Nat,(if 5<(b.length:Int)then(5:Int)else b.length)=M/\M=min b.length 5/\min M b.length=M:=⟨min b.length 5,by split<;>omega,rfl,by omega⟩;refine⟨⟨by split<;>omega,by split<;>omega⟩,?_⟩;refine dr ?_;simp only[e1,m3];refine aH.inv mixed rfl (ι:={z:Nat×Nat//zlX b z.1 z.2/\z.1<=M}) (λk=>[(0,.ptr 0 0),(5,int k.1.2),(20,int k.1.1),(19,int M),(18,aB ((b.map aV).take M))]) (λk=>[(0,.cells [aB (b.map aV),int e] 190)]) 64 (λk=>5-k.1.1) ⟨(0,0),.start b,by omega⟩ [] (by constructor<;>simp[m3]) ?_;rintro⟨⟨k,n0⟩,hI,hkM⟩ B hB;simp only at hI hkM;by_cases hk:k<M
 ·have hkb:k<b.length:=by omega
  have hk4:k<=4:=by omega
  obtain⟨c,hc⟩:∃c,b[k]? =some c:=⟨_,bO hkb⟩;have ht:((b.map aV).take M)[k]? =some (aV c):=by rw[TM hk];simp[hc]
  have hd:decide (k<M)=true:=oC hk;have c256:c.toNat<256:=c.toNat_lt;have w0:IntKind.wrap .i64 ((k:Int)*7)=((7*k:Nat):Int):=by rw[wz _];omega
  have w1:IntKind.wrap .u64 (7*(k:Int))=7*(k:Int):=by show(7*(k:Int))%2^64=_;omega
  have wk:IntKind.wrap .i64 ((k:Int)+1)=k+1:=wz _;have w3:(7*(k:Int)).toNat=7*k:=by omega
  have w2:min (7*k) IntKind.i64.bits=7*k:=by show min (7*k) 64=_;omega
  have l1:=Mh c.toNat c256;have l2:=wz ((c.toNat:Int)%128);obtain⟨p1,p2⟩:=Ig hk4 hI.n0 (c:=c.toNat%128) (by omega);rw[show((c.toNat%128:Nat):Int)=(c.toNat:Int)%128 by omega]at p1 p2 l1;refine CI.n ?_;simp[m3,hd,ht,w0,w1,w2,w3,l1,l2,p1,p2];refine⟨by omega,?_⟩;refine aX (λg1 zz=>?_) (λg1 zz=>?_)<;>simp only[zz]<;>simp
  ·have hm:¬c.toNat<128:=by omega
   refine hB _ ⟨(k+1,n0+2^(7*k)*(c.toNat%128)),hI.more (by omega) hc hm,by omega⟩ [] ?_ (by simp;omega);constructor<;>simp[wk]
  ·have hm:c.toNat<128:=by omega
   have hp:=hI.last (by omega) hc hm;have cm:(c.toNat:Int)%128=c.toNat:=by omega
   refine bM (λg2=>?_) (λg2=>?_)<;>simp only[g2]<;>simp[Nat.pos_iff_ne_zero]
   ·have g2':c.toNat=0:=lS g2;refine aX (λg3 zz=>?_) (λg3 zz=>?_)<;>simp only[zz]<;>simp[Nat.pos_iff_ne_zero]
    ·rw[aZ ⟨g2',by omega⟩]at hp;exact⟨[],by constructor<;>simp[aI,aJ,hp]⟩
    ·rw[aT (by omega)]at hp;exact⟨[],by constructor<;>simp[aI,aJ,hp,wk,cm]⟩
   ·have g2':¬c.toNat=0:=pG g2;rw[aT (by omega)]at hp;exact⟨[],by constructor<;>simp[aI,aJ,hp,wk,cm]⟩
 ·have hp:=hI.stop (by omega);have hd:decide (k<M)=false:=TJ hk;refine CI.n ?_;simp[m3,hd];refine aX (λg4 zz=>?_) (λg4 zz=>?_)<;>simp only[zz]<;>simp
  ·rw[aZ (by omega)]at hp;exact⟨[],by constructor<;>simp[aI,aJ,hp]⟩
  ·rw[aT (by omega)]at hp;exact⟨[],by constructor<;>simp[aI,aJ,hp]⟩
theorem zmp (b:List UInt8)(e:Int):C1 183 [.ptr 0 0,int e] [] [(0,.cells [aB (b.map aV),int 0] 190)] (.aU []) [(0,.cells [aB (b.map aV),int e] 190)]:=by
 refine Ct.B func183 ?_;simp;exact⟨[],by constructor<;>simp[aI,aJ]⟩
theorem zny (b:List UInt8)(lim:Int)(hb:b.length<=1000000):C1 117 [.ptr 0 0,int lim] [] [(0,.cells [aB (b.map aV),int 0] 190)] (int (zbw lim (b,0)).2) [(0,.cells [aB ((zbw lim (b,0)).1.1.map aV),int (zbw lim (b,0)).1.2] 190)]:=by
 refine Ct.B func117 ?_;simp;refine CI.cc [0] (znw b 0 hb) ?_;simp;have hk:=zmq 5 0 0 b;unfold zbw;generalize zkf 5 0 0 b=p at hk⊢;obtain⟨n,k,f⟩:=p;simp only at hk⊢;refine bM (λh1=>?_) (λh1=>?_)<;>simp only[h1]<;>simp
 ·have f0:f=0:=lS h1;subst f0;refine CI.p (ZT lim) ?_;simp;refine aX (λh2 zz=>?_) (λh2 zz=>?_)<;>simp only[zz]<;>simp
  ·refine CI.cc [0] (zmp b 3) ?_;simp;refine⟨[],?_,?_,?_,?_,?_,?_,?_⟩<;>simp[aI,aJ,h2]
  ·refine⟨by omega,?_⟩;refine⟨[],?_,?_,?_,?_,?_,?_,?_⟩<;>simp[aI,aJ,h2]
 ·have f0:¬f=0:=pG h1;refine aX (λh3 zz=>?_) (λh3 zz=>?_)<;>simp only[zz]<;>simp
  ·refine CI.cc [0] (zmp b f) ?_;simp;exact⟨[],by constructor<;>simp[aI,aJ,f0]⟩
  ·exact absurd h3 f0
theorem znz (b:List UInt8)(e lim:Int)(he:e≠0):C1 117 [.ptr 0 0,int lim] [] [(0,.cells [aB (b.map aV),int e] 190)] (int 0) [(0,.cells [aB (b.map aV),int e] 190)]:=by
 refine Ct.B func117 ?_;simp;refine aX (λh1 zz=>?_) (λh1 zz=>?_)<;>simp only[zz]<;>simp
 ·exact⟨[],by constructor<;>simp[aI,aJ]⟩
 ·exact absurd h1 he
theorem zlL (b:List UInt8)(e lim:Int)(hb:b.length<=1000000):C1 117 [.ptr 0 0,int lim] [] [(0,.cells [aB (b.map aV),int e] 190)] (int (zbw lim (b,e)).2) [(0,.cells [aB ((zbw lim (b,e)).1.1.map aV),int (zbw lim (b,e)).1.2] 190)]:=by
 by_cases he:e=0
 ·subst he;exact zny b lim hb
 ·rw[znA (x:=(b,e)) he];exact znz b e lim he
theorem zl1 (b:List UInt8)(e lim:Int)(hb:b.length<=1000000):C1 120 [.ptr 0 0,int lim] [] [(0,.cells [aB (b.map aV),int e] 190)] (str (zbx lim (b,e)).2) [(0,.cells [aB ((zbx lim (b,e)).1.1.map aV),int (zbx lim (b,e)).1.2] 190)]:=by
 refine Ct.B func120 ?_;simp;refine CI.cc [0] (zlL b e lim hb) ?_;simp;have hl:=zlJ lim (b,e);have hn:=zmj lim (b,e);unfold zbx;generalize zbw lim (b,e)=y at hl hn⊢;obtain⟨⟨l,f⟩,n⟩:=y;simp only at hl hn⊢;obtain⟨m,rfl⟩:∃m:Nat,n=m:=⟨n.toNat,by omega⟩;refine aX (λh1 zz=>?_) (λh1 zz=>?_)<;>simp only[zz]<;>simp
 ·refine⟨[],?_,?_,?_,?_,?_,?_,?_⟩<;>simp[aI,aJ,h1,zlD]
 ·subst h1;refine aX (λh2 zz=>?_) (λh2 zz=>?_)<;>simp only[zz]<;>simp
  ·refine CI.cc [0] (zmp l 1) ?_;simp;exact⟨[],by constructor<;>simp[aI,aJ,h2,zlD]⟩
  ·have e1:CS ((l.map aV).take m)=l.take m:=by rw[<-zB];exact zmy _
   have e2:Rh ((l.map aV).take m)=True:=by rw[<-zB];exact zmU _
   refine⟨by omega,of_eq_true e2,by omega,?_⟩;exact⟨[],by constructor<;>simp[aI,aJ,h2,zlD,e1]⟩
attribute [simp] ntmps346 results346
theorem zmY (b:List UInt8)(e:Int)(hb:b.length<=1000000):C1 346 [.ptr 0 0] [] [(0,.cells [aB (b.map aV),int e] 190)] (st (wC (zlE (b,e)).2)) [(0,.cells [aB ((zlE (b,e)).1.1.map aV),int (zlE (b,e)).1.2] 190)]:=by
 refine Ct.B func346 ?_;simp;refine CI.cc [0] (zl1 b e 12 hb) ?_;simp;have h:=zlM 12 (b,e);refine CI.cc [0] (zlL (zbx 12 (b,e)).1.1 (zbx 12 (b,e)).1.2 100 (by simp at h;omega)) ?_;simp;exact⟨[],by constructor<;>simp[aI,aJ,zlE]⟩
attribute [simp] ntmps345 results345
theorem znb (b:List UInt8)(e:Int)(hb:b.length<=1000000):C1 345 [.ptr 0 0,int 4,.d (dE 346)] [] [(0,.cells [aB (b.map aV),int e] 190)] (aB ((zby 4 zlE (b,e)).2.map wC)) [(0,.cells [aB ((zby 4 zlE (b,e)).1.1.map aV),int (zby 4 zlE (b,e)).1.2] 190)]:=by
 refine Ct.B func345 ?_;simp;obtain⟨l,f,N,q,hl,h4,-⟩:=zl0 (lim:=4) rfl b e;refine CI.cc [0] (zlL b e 4 hb) ?_ (ha:=by simp[q]) (hk:=by simp[q]);simp[q];simp only[zby,q,M1];refine aH.gH 7 2 176 rfl ?_;refine aH.inv mixed rfl (ι:={z:Nat×znQ×List Weight//zlO zlE N (l,f) z.1 z.2.1 z.2.2}) (λk=>[(0,.ptr 0 0),(2,.d (dE 346)),(7,.own 64),(11,int N),(12,int k.1.1)]) (λk=>[(64,.grow 2 (k.1.2.2.map wC) 176),(0,.cells [aB (k.1.2.1.1.map aV),int k.1.2.1.2] 190)]) 65 (λk=>N-k.1.1) ⟨(0,(l,f),[]),.start _ _ _⟩ [] (by constructor<;>simp) ?_;rintro⟨⟨k,⟨x,xe⟩,acc⟩,hI⟩ B hB;simp only at hI;refine CI.n ?_;simp;have lx:=hI.len;have lw:=zmn (x,xe);simp only at lx lw;refine aX (λh1 zz=>?_) (λh1 zz=>?_)<;>simp only[zz]<;>simp
 ·have wk:IntKind.wrap .i64 ((k:Int)+1)=k+1:=wz _;have hal:=hI.al;refine CI.cc [0] (zmY x xe (by omega)) ?_;simp;refine aX (λh2 zz=>?_) (λh2 zz=>?_)<;>simp only[zz]<;>simp
  ·have hd:=hI.fail h1 h2;exact⟨[],by constructor<;>simp[aI,aJ,hd]⟩
  ·have hm:=hI.more h1 lw h2;refine⟨by omega,?_⟩;refine hB _ ⟨(k+1,(zlE (x,xe)).1,acc++[(zlE (x,xe)).2]),hm⟩ [] ?_ (by simp;omega);constructor<;>simp[wk]
 ·obtain rfl:k=N:=by have:=hI.znR;omega
  have hd:=hI.done;exact⟨[],by constructor<;>simp[aI,aJ,hd]⟩
attribute [simp] ntmps254 results254
theorem zmZ (b:List UInt8)(e:Int)(hb:b.length<=1000000):C1 254 [.ptr 0 0] [] [(0,.cells [aB (b.map aV),int e] 190)] (st (dJ (zlK (b,e)).2)) [(0,.cells [aB ((zlK (b,e)).1.1.map aV),int (zlK (b,e)).1.2] 190)]:=by
 refine Ct.B func254 ?_;simp;have h1:=zlM 40 (b,e);have h2:=zlM 40 (zbx 40 (b,e)).1;simp only at h1;refine CI.cc [0] (zl1 b e 40 hb) ?_;simp;refine CI.cc [0] (zl1 (zbx 40 (b,e)).1.1 (zbx 40 (b,e)).1.2 40 (by omega)) ?_;simp;refine CI.cc [0] (znb (zbx 40 (zbx 40 (b,e)).1).1.1 (zbx 40 (zbx 40 (b,e)).1).1.2 (by omega)) ?_;simp;exact⟨[],by constructor<;>simp[aI,aJ,zlK]⟩
attribute [simp] ntmps253 results253 ntmps256 results256 ntmps255 results255
theorem znc (b:List UInt8)(e:Int)(hb:b.length<=1000000):C1 253 [.ptr 0 0,int 8,.d (dE 254)] [] [(0,.cells [aB (b.map aV),int e] 190)] (aB ((zby 8 zlK (b,e)).2.map dJ)) [(0,.cells [aB ((zby 8 zlK (b,e)).1.1.map aV),int (zby 8 zlK (b,e)).1.2] 190)]:=by
 refine Ct.B func253 ?_;simp;obtain⟨l,f,N,q,hl,h4,-⟩:=zl0 (lim:=8) rfl b e;refine CI.cc [0] (zlL b e 8 hb) ?_ (ha:=by simp[q]) (hk:=by simp[q]);simp[q];simp only[zby,q,M1];refine aH.gH 7 3 179 rfl ?_;refine aH.inv mixed rfl (ι:={z:Nat×znQ×List cH//zlO zlK N (l,f) z.1 z.2.1 z.2.2}) (λk=>[(0,.ptr 0 0),(2,.d (dE 254)),(7,.own 64),(11,int N),(12,int k.1.1)]) (λk=>[(64,.grow 3 (k.1.2.2.map dJ) 179),(0,.cells [aB (k.1.2.1.1.map aV),int k.1.2.1.2] 190)]) 65 (λk=>N-k.1.1) ⟨(0,(l,f),[]),.start _ _ _⟩ [] (by constructor<;>simp) ?_;rintro⟨⟨k,⟨x,xe⟩,acc⟩,hI⟩ B hB;simp only at hI;refine CI.n ?_;simp;have lx:=hI.len;have lw:=zmo (x,xe);simp only at lx lw;refine aX (λh1 zz=>?_) (λh1 zz=>?_)<;>simp only[zz]<;>simp
 ·have wk:IntKind.wrap .i64 ((k:Int)+1)=k+1:=wz _;have hal:=hI.al;refine CI.cc [0] (zmZ x xe (by omega)) ?_;simp;refine aX (λh2 zz=>?_) (λh2 zz=>?_)<;>simp only[zz]<;>simp
  ·have hd:=hI.fail h1 h2;exact⟨[],by constructor<;>simp[aI,aJ,hd]⟩
  ·have hm:=hI.more h1 lw h2;refine⟨by omega,?_⟩;refine hB _ ⟨(k+1,(zlK (x,xe)).1,acc++[(zlK (x,xe)).2]),hm⟩ [] ?_ (by simp;omega);constructor<;>simp[wk]
 ·obtain rfl:k=N:=by have:=hI.znR;omega
  have hd:=hI.done;exact⟨[],by constructor<;>simp[aI,aJ,hd]⟩
theorem zm5 (b:List UInt8)(e:Int)(hb:b.length<=1000000):C1 256 [.ptr 0 0] [] [(0,.cells [aB (b.map aV),int e] 190)] (int (zbw 2147483647 (b,e)).2) [(0,.cells [aB ((zbw 2147483647 (b,e)).1.1.map aV),int (zbw 2147483647 (b,e)).1.2] 190)]:=by
 refine Ct.B func256 ?_;simp;refine CI.cc [0] (zlL b e 2147483647 hb) ?_;simp;exact⟨[],by constructor<;>simp[aI,aJ]⟩
theorem zne (b:List UInt8)(e:Int)(hb:b.length<=1000000):C1 255 [.ptr 0 0,int 8,.d (dE 256)] [] [(0,.cells [aB (b.map aV),int e] 190)] (aB ((zby 8 zlN (b,e)).2.map kP)) [(0,.cells [aB ((zby 8 zlN (b,e)).1.1.map aV),int (zby 8 zlN (b,e)).1.2] 190)]:=by
 refine Ct.B func255 ?_;simp;obtain⟨l,f,N,q,hl,h4,-⟩:=zl0 (lim:=8) rfl b e;refine CI.cc [0] (zlL b e 8 hb) ?_ (ha:=by simp[q]) (hk:=by simp[q]);simp[q];simp only[zby,q,M1];refine aH.gH 7 1 3 rfl ?_;refine aH.inv mixed rfl (ι:={z:Nat×znQ×List Int//zlO zlN N (l,f) z.1 z.2.1 z.2.2}) (λk=>[(0,.ptr 0 0),(2,.d (dE 256)),(7,.own 64),(11,int N),(12,int k.1.1)]) (λk=>[(64,.grow 1 (k.1.2.2.map kP) 3),(0,.cells [aB (k.1.2.1.1.map aV),int k.1.2.1.2] 190)]) 65 (λk=>N-k.1.1) ⟨(0,(l,f),[]),.start _ _ _⟩ [] (by constructor<;>simp) ?_;rintro⟨⟨k,⟨x,xe⟩,acc⟩,hI⟩ B hB;simp only at hI;refine CI.n ?_;simp;have lx:=hI.len;have lw:=zmv (x,xe);simp only at lx lw;refine aX (λh1 zz=>?_) (λh1 zz=>?_)<;>simp only[zz]<;>simp
 ·have wk:IntKind.wrap .i64 ((k:Int)+1)=k+1:=wz _;have hal:=hI.al;refine CI.cc [0] (zm5 x xe (by omega)) ?_;simp;refine aX (λh2 zz=>?_) (λh2 zz=>?_)<;>simp only[zz]<;>simp
  ·have hd:=hI.fail h1 h2;exact⟨[],by constructor<;>simp[aI,aJ,hd]⟩
  ·have hm:=hI.more h1 lw h2;refine⟨by omega,?_⟩;refine hB _ ⟨(k+1,(zlN (x,xe)).1,acc++[(zlN (x,xe)).2]),hm⟩ [] ?_ (by simp;omega);constructor<;>simp[wk]
 ·obtain rfl:k=N:=by have:=hI.znR;omega
  have hd:=hI.done;exact⟨[],by constructor<;>simp[aI,aJ,hd]⟩
attribute [simp] ntmps257 results257 ntmps187 results187
theorem zmc (b:List UInt8)(e0 e1:Int):C1 257 [.ptr 0 0,int e1] [] [(0,.cells [aB (b.map aV),int e0] 190)] (bool (!decide (zlH e0 e1=0))) [(0,.cells [aB (b.map aV),int (zlH e0 e1)] 190)]:=by
 refine Ct.B func257 ?_;simp;refine aX (λh1 zz=>?_) (λh1 zz=>?_)<;>simp only[zz]<;>simp
 ·refine⟨[],?_,?_,?_,?_,?_,?_,?_⟩<;>simp[aI,aJ,zlH,h1]
 ·refine⟨[],?_,?_,?_,?_,?_,?_,?_⟩<;>simp[aI,aJ,zlH,h1]
theorem zmO (b:List UInt8)(e:Int)(hb:b.length<=1000000):C1 187 [.ptr 0 0] [] [(0,.cells [aB (b.map aV),int e] 190)] (st (aQ (zke (b,e)).2)) [(0,.cells [aB ((zke (b,e)).1.1.map aV),int (zke (b,e)).1.2] 190)]:=by
 refine Ct.B func187 ?_;simp;have h1:=zlJ 3 (b,e);simp only at h1;refine CI.cc [0] (zlL b e 3 hb) ?_;simp;refine CI.cc [0] (zl1 (zbw 3 (b,e)).1.1 (zbw 3 (b,e)).1.2 12 (by omega)) ?_;simp;refine CI.p (YQ (zlG (b,e))) ?_ (ha:=by simp[zlG]);simp[zlG];cases hg:eN (zlG (b,e))with
 |false=>
  simp only[zlG]at hg;simp[hg];refine CI.cc [0] (zmc (zbx 12 (zbw 3 (b,e)).1).1.1 (zbx 12 (zbw 3 (b,e)).1).1.2 5) ?_;simp;refine aX (λh2 zz=>?_) (λh2 zz=>?_)<;>simp only[zz]<;>simp
  ·refine⟨[],?_,?_,?_,?_,?_,?_,?_⟩<;>simp[aI,aJ,zke,zlG,hg,h2,zlD]
  ·refine⟨[],?_,?_,?_,?_,?_,?_,?_⟩<;>simp[aI,aJ,zke,zlG,hg,h2,zlD]
 |true=>
  simp only[zlG]at hg;simp[hg];refine CI.cc [0] (zmc (zbx 12 (zbw 3 (b,e)).1).1.1 (zbx 12 (zbw 3 (b,e)).1).1.2 0) ?_;simp;refine aX (λh2 zz=>?_) (λh2 zz=>?_)<;>simp only[zz]<;>simp
  ·refine⟨[],?_,?_,?_,?_,?_,?_,?_⟩<;>simp[aI,aJ,zke,zlG,hg,h2,zlD]
  ·refine⟨[],?_,?_,?_,?_,?_,?_,?_⟩<;>simp[aI,aJ,zke,zlG,hg,h2,zlD]
attribute [simp] ntmps186 results186 ntmps119 results119
theorem znd (b:List UInt8)(e:Int)(hb:b.length<=1000000):C1 186 [.ptr 0 0,int 64,.d (dE 187)] [] [(0,.cells [aB (b.map aV),int e] 190)] (aB ((zby 64 zke (b,e)).2.map aQ)) [(0,.cells [aB ((zby 64 zke (b,e)).1.1.map aV),int (zby 64 zke (b,e)).1.2] 190)]:=by
 refine Ct.B func186 ?_;simp;obtain⟨l,f,N,q,hl,h4,-⟩:=zl0 (lim:=64) rfl b e;refine CI.cc [0] (zlL b e 64 hb) ?_ (ha:=by simp[q]) (hk:=by simp[q]);simp[q];simp only[zby,q,M1];refine aH.gH 7 2 184 rfl ?_;refine aH.inv mixed rfl (ι:={z:Nat×znQ×List Key//zlO zke N (l,f) z.1 z.2.1 z.2.2}) (λk=>[(0,.ptr 0 0),(2,.d (dE 187)),(7,.own 64),(11,int N),(12,int k.1.1)]) (λk=>[(64,.grow 2 (k.1.2.2.map aQ) 184),(0,.cells [aB (k.1.2.1.1.map aV),int k.1.2.1.2] 190)]) 65 (λk=>N-k.1.1) ⟨(0,(l,f),[]),.start _ _ _⟩ [] (by constructor<;>simp) ?_;rintro⟨⟨k,⟨x,xe⟩,acc⟩,hI⟩ B hB;simp only at hI;refine CI.n ?_;simp;have lx:=hI.len;have lw:=zmu (x,xe);simp only at lx lw;refine aX (λh1 zz=>?_) (λh1 zz=>?_)<;>simp only[zz]<;>simp
 ·have wk:IntKind.wrap .i64 ((k:Int)+1)=k+1:=wz _;have hal:=hI.al;refine CI.cc [0] (zmO x xe (by omega)) ?_;simp;refine aX (λh2 zz=>?_) (λh2 zz=>?_)<;>simp only[zz]<;>simp
  ·have hd:=hI.fail h1 h2;exact⟨[],by constructor<;>simp[aI,aJ,hd]⟩
  ·have hm:=hI.more h1 lw h2;refine⟨by omega,?_⟩;refine hB _ ⟨(k+1,(zke (x,xe)).1,acc++[(zke (x,xe)).2]),hm⟩ [] ?_ (by simp;omega);constructor<;>simp[wk]
 ·obtain rfl:k=N:=by have:=hI.znR;omega
  have hd:=hI.done;exact⟨[],by constructor<;>simp[aI,aJ,hd]⟩
theorem zmM (b:List UInt8)(e:Int)(hb:b.length<=1000000):C1 119 [.ptr 0 0] [] [(0,.cells [aB (b.map aV),int e] 190)] (aB ((zby 64 zke (b,e)).2.map aQ)) [(0,.cells [aB ((zby 64 zke (b,e)).1.1.map aV),int (zby 64 zke (b,e)).1.2] 190)]:=by
 refine Ct.B func119 ?_;simp;refine CI.cc [0] (znd b e hb) ?_;simp;exact⟨[],by constructor<;>simp[aI,aJ]⟩
attribute [simp] ntmps185 results185 ntmps184 results184 ntmps118 results118
theorem zm7 (b:List UInt8)(e:Int)(hb:b.length<=1000000):C1 185 [.ptr 0 0] [] [(0,.cells [aB (b.map aV),int e] 190)] (st (aF (zds (b,e)).2)) [(0,.cells [aB ((zds (b,e)).1.1.map aV),int (zds (b,e)).1.2] 190)]:=by
 refine Ct.B func185 ?_;simp;obtain⟨l,f,kd,q1,h1,h2,h3⟩:=zlP 3 b e;have h3:kd<=3:=h3;obtain⟨l2,f2,nm,q2,h4⟩:=zlY 12 l f;obtain⟨l3,f3,v,q3,h5,-⟩:=zlP 2147483647 l2 f2;simp only[zds,zl9,q1,q2,q3];refine CI.cc [0] (zlL b e 3 hb) ?_ (ha:=by simp[q1]) (hk:=by simp[q1]);simp[q1];refine CI.cc [0] (zl1 l f 12 (by omega)) ?_ (ha:=by simp[q2]) (hk:=by simp[q2]);simp[q2];refine CI.cc [0] (zlL l2 f2 2147483647 (by omega)) ?_ (ha:=by simp[q3]) (hk:=by simp[q3]);simp[q3];rcases(show kd=0\/kd=1\/kd=2\/kd=3 from by omega)with rfl|rfl|rfl|rfl
 ·obtain⟨l4,f4,p,q4,h6,-⟩:=zlP 65535 l3 f3;obtain⟨znS,f5,t,q5,-⟩:=zlY 12 l4 f4;simp[zlI,q4,q5];refine CI.cc [0] (zlL l3 f3 65535 (by omega)) ?_ (ha:=by simp[q4]) (hk:=by simp[q4]);simp[q4];refine CI.cc [0] (zl1 l4 f4 12 (by omega)) ?_ (ha:=by simp[q5]) (hk:=by simp[q5]);simp[q5];refine CI.p (CZ ⟨0,nm,v,p,t,[],[]⟩) ?_;simp;refine CI.cc [0] (zmc znS f5 (cQ ⟨0,nm,v,p,t,[],[]⟩)) ?_;simp;refine aX (λh7 zz=>?_) (λh7 zz=>?_)<;>simp only[zz]<;>simp;all_goals
   refine⟨[],?_,?_,?_,?_,?_,?_,?_⟩<;>simp[aI,aJ,zlR,h7,fV]
 ·simp[zlI];refine CI.cc [0] (znc l3 f3 (by omega)) ?_;simp;generalize zby 8 zlK (l3,f3)=y;obtain⟨⟨znS,f5⟩,t⟩:=y;refine CI.p (CZ ⟨1,nm,v,0,⟨#[]⟩,t,[]⟩) ?_;simp;refine CI.cc [0] (zmc znS f5 (cQ ⟨1,nm,v,0,⟨#[]⟩,t,[]⟩)) ?_;simp;refine aX (λh7 zz=>?_) (λh7 zz=>?_)<;>simp only[zz]<;>simp;all_goals
   refine⟨[],?_,?_,?_,?_,?_,?_,?_⟩<;>simp[aI,aJ,zlR,h7,fV,zlD]
 ·obtain⟨znS,f5,t,q5,-⟩:=zlY 12 l3 f3;simp[zlI,q5];refine CI.cc [0] (zl1 l3 f3 12 (by omega)) ?_ (ha:=by simp[q5]) (hk:=by simp[q5]);simp[q5];refine CI.p (CZ ⟨2,nm,v,0,t,[],[]⟩) ?_;simp;refine CI.cc [0] (zmc znS f5 (cQ ⟨2,nm,v,0,t,[],[]⟩)) ?_;simp;refine aX (λh7 zz=>?_) (λh7 zz=>?_)<;>simp only[zz]<;>simp;all_goals
   refine⟨[],?_,?_,?_,?_,?_,?_,?_⟩<;>simp[aI,aJ,zlR,h7,fV]
 ·simp[zlI];refine CI.cc [0] (zne l3 f3 (by omega)) ?_;simp;generalize zby 8 zlN (l3,f3)=y;obtain⟨⟨znS,f5⟩,t⟩:=y;refine CI.p (CZ ⟨3,nm,v,0,⟨#[]⟩,[],t⟩) ?_;simp;refine CI.cc [0] (zmc znS f5 (cQ ⟨3,nm,v,0,⟨#[]⟩,[],t⟩)) ?_;simp;refine aX (λh7 zz=>?_) (λh7 zz=>?_)<;>simp only[zz]<;>simp;all_goals
   refine⟨[],?_,?_,?_,?_,?_,?_,?_⟩<;>simp[aI,aJ,zlR,h7,fV,zlD]
theorem znf (b:List UInt8)(e:Int)(hb:b.length<=1000000):C1 184 [.ptr 0 0,int 64,.d (dE 185)] [] [(0,.cells [aB (b.map aV),int e] 190)] (aB ((zby 64 zds (b,e)).2.map aF)) [(0,.cells [aB ((zby 64 zds (b,e)).1.1.map aV),int (zby 64 zds (b,e)).1.2] 190)]:=by
 refine Ct.B func184 ?_;simp;obtain⟨l,f,N,q,hl,h4,-⟩:=zl0 (lim:=64) rfl b e;refine CI.cc [0] (zlL b e 64 hb) ?_ (ha:=by simp[q]) (hk:=by simp[q]);simp[q];simp only[zby,q,M1];refine aH.gH 7 7 174 rfl ?_;refine aH.inv mixed rfl (ι:={z:Nat×znQ×List aC//zlO zds N (l,f) z.1 z.2.1 z.2.2}) (λk=>[(0,.ptr 0 0),(2,.d (dE 185)),(7,.own 64),(11,int N),(12,int k.1.1)]) (λk=>[(64,.grow 7 (k.1.2.2.map aF) 174),(0,.cells [aB (k.1.2.1.1.map aV),int k.1.2.1.2] 190)]) 65 (λk=>N-k.1.1) ⟨(0,(l,f),[]),.start _ _ _⟩ [] (by constructor<;>simp) ?_;rintro⟨⟨k,⟨x,xe⟩,acc⟩,hI⟩ B hB;simp only at hI;refine CI.n ?_;simp;have lx:=hI.len;have lw:=zmd (x,xe);simp only at lx lw;refine aX (λh1 zz=>?_) (λh1 zz=>?_)<;>simp only[zz]<;>simp
 ·have wk:IntKind.wrap .i64 ((k:Int)+1)=k+1:=wz _;have hal:=hI.al;refine CI.cc [0] (zm7 x xe (by omega)) ?_;simp;refine aX (λh2 zz=>?_) (λh2 zz=>?_)<;>simp only[zz]<;>simp
  ·have hd:=hI.fail h1 h2;exact⟨[],by constructor<;>simp[aI,aJ,hd]⟩
  ·have hm:=hI.more h1 lw h2;refine⟨by omega,?_⟩;refine hB _ ⟨(k+1,(zds (x,xe)).1,acc++[(zds (x,xe)).2]),hm⟩ [] ?_ (by simp;omega);constructor<;>simp[wk]
 ·obtain rfl:k=N:=by have:=hI.znR;omega
  have hd:=hI.done;exact⟨[],by constructor<;>simp[aI,aJ,hd]⟩
theorem zmW (b:List UInt8)(e:Int)(hb:b.length<=1000000):C1 118 [.ptr 0 0] [] [(0,.cells [aB (b.map aV),int e] 190)] (aB ((zby 64 zds (b,e)).2.map aF)) [(0,.cells [aB ((zby 64 zds (b,e)).1.1.map aV),int (zby 64 zds (b,e)).1.2] 190)]:=by
 refine Ct.B func118 ?_;simp;refine CI.cc [0] (znf b e hb) ?_;simp;exact⟨[],by constructor<;>simp[aI,aJ]⟩
theorem nE (n lim:Int)(t:List UInt8)(h0:0<=n)(h1:n<=kZ lim)(ht:t.length<=990000):C1 117 [.ptr 0 0,int lim] [] [(0,.cells [aB ((aL n++t).map aV),int 0] 190)] (int n) [(0,.cells [aB ((t).map aV),int 0] 190)]:=by
 have h:=cO n;have:=zlL (aL n++t) 0 lim (by simp;omega)
 rwa[zlZ t h0 h1]at this
theorem Cq (k_:Key)(t:List UInt8)(hk:eN k_=true)(ht:t.length<=900000):C1 187 [.ptr 0 0] [] [(0,.cells [aB ((dK k_++t).map aV),int 0] 190)] (st (aQ k_)) [(0,.cells [aB ((t).map aV),int 0] 190)]:=by
 have h:=uE hk;have:=zmO (dK k_++t) 0 (by simp;omega)
 rwa[zmm hk t]at this
theorem Xb (l:List aC)(t:List UInt8)(hs:∀r∈l,cQ r=0)(hl:l.length<=64)(ht:t.length<=700000):C1 118 [.ptr 0 0] [] [(0,.cells [aB ((bK l fD++t).map aV),int 0] 190)] (aB (l.map aF)) [(0,.cells [aB ((t).map aV),int 0] 190)]:=by
 have h:=pC (l:=l) (lay:=fD) (m:=1496) λy hy=>A9 (uY (hs y hy));have:=zmW (bK l fD++t) 0 (by simp;omega)
 rwa[zl6 (λy hy=>zmI (hs y hy)) (eC (by omega) (by omega) (by omega))]at this
theorem UO (l:List Key)(t:List UInt8)(hs:∀k∈l,eN k=true)(hl:l.length<=64)(ht:t.length<=700000):C1 119 [.ptr 0 0] [] [(0,.cells [aB ((bK l dK++t).map aV),int 0] 190)] (aB (l.map aQ)) [(0,.cells [aB ((t).map aV),int 0] 190)]:=by
 have h:=pC (l:=l) (lay:=dK) (m:=22) λy hy=>uE (hs y hy);have:=zmM (bK l dK++t) 0 (by simp;omega)
 rwa[zl6 (λy hy=>zmm (hs y hy)) (eC (by omega) (by omega) (by omega))]at this
attribute [simp] ntmps309 results309 ntmps312 results312 ntmps227 results227 ntmps310 results310 ntmps226 results226
theorem zcJ (f:G.Frame)(hf:fJ f)(he:¬dD f=0):C0 309 [st (cA f)] (.aU [BI,int (dD f)]):=by
 refine Ct.B func309 ?_;simp;refine CI.p (FM f hf) ?_ (ha:=by simp[he]);simp[he];exact aA
set_option maxHeartbeats 1000000 in
theorem zcD (f:G.Frame)(he:dD f=0):C0 309 [st (cA f)] (.aU [aB ((j3 f).map aV),int 0]):=by
 refine Ct.B func309 ?_;simp;have F:=LJ (j9.1 he);have lk:=pC (l:=f.gone) (lay:=dK) (m:=22) λk hk=>uE (F.gone k hk);have la:=pC (l:=f.aD) (lay:=fD) (m:=1496) λr hr=>A9 (uY (F.aD r hr));have l1:=F.la;have l2:=F.lg;have l3:=F.lh;have l4:=F.ld;have n1:=cO f.aM;have n2:=cO f.kind;have n3:=cO f.cN;have n4:=cO f.err;have n5:=cO f.turn;have n6:=cO f.aP.length;have hy:∀m∈f.aP,(jE m).length<=27:=λm hm=>E9 (F.aP m hm).1;obtain⟨x,e0⟩:∃x,aL f.type=[x]:=⟨_,zeH (by rcases F.ty with h|h|h|h<;>omega) (by rcases F.ty with h|h|h|h<;>omega)⟩;refine CI.p (FM f (xJ he)) ?_ (ha:=by simp[he]);simp[he];refine CI.p (zeG f.type) ?_ (ha:=by simp[e0]);simp[e0];refine CI.p (o6 x [] f.aM (by simp)) ?_;simp;refine dr ?_;rcases F.ty with g0|g0|g0|g0
 all_goals rw[g0]at e0
 ·simp[g0];refine CI.p (o6 x (aL f.aM) f.aP.length (by omega)) ?_;simp;refine aH.V (f.aP) (λk=>[(5,aB ((x::(aL f.aM++aL f.aP.length++(f.aP.take k.1).flatMap jE)).map aV)),(36,aB (f.aP.map jD)),(37,int f.aP.length),(38,int k.1)]) (λk=>[]) 65 (λk hk1 B hB=>?_);simp;rcases bC hk1 with⟨m,hk,hx,hr,hm,ht,hd,hw,h⟩|rfl
  ·simp[h,hr,hw];have hk2:=FN f.aP k hy;have F1:=F.aP m hm;have n7:=uE F1.1;refine CI.p (Gr x (aL f.aM++aL f.aP.length++(f.aP.take k).flatMap jE) m.k F1.1 (by simp only[bZ];omega)) ?_;simp;refine CI.p (o6 x (aL f.aM++aL f.aP.length++(f.aP.take k).flatMap jE++dK m.k) m.bR (by simp only[bZ];omega)) ?_;simp;refine dr ?_;exact hB hk (by constructor<;>simp[hw,ht,jE])
  ·simp;exact aA (by simp[j3,kB,g0,e0,bK])
 ·simp[g0];refine CI.p (o6 x (aL f.aM) f.kind (by omega)) ?_;simp;refine CI.p (o6 x (aL f.aM++aL f.kind) f.cN (by simp;omega)) ?_;simp;refine dr ?_;refine CI.p (zcM x (aL f.aM++aL f.kind++aL f.cN) f.aD F.aD l1 (by simp;omega)) ?_;simp;refine CI.p (V2 x (aL f.aM++aL f.kind++aL f.cN++bK f.aD fD) f.gone F.gone l2 (by simp only[bZ];omega)) ?_;simp;refine dr ?_;exact aA (by simp[j3,kB,g0,e0])
 ·simp[g0];refine CI.p (o6 x (aL f.aM) f.kind (by omega)) ?_;simp;refine CI.p (o6 x (aL f.aM++aL f.kind) f.cN (by simp;omega)) ?_;simp;refine CI.p (o6 x (aL f.aM++aL f.kind++aL f.cN) f.err (by simp;omega)) ?_;simp;refine dr ?_;refine CI.p (o6 x (aL f.aM++aL f.kind++aL f.cN++aL f.err) f.turn (by simp;omega)) ?_;simp;refine CI.p (V2 x (aL f.aM++aL f.kind++aL f.cN++aL f.err++aL f.turn) f.held F.held l4 (by simp only[bZ];omega)) ?_;simp;refine dr ?_;exact aA (by simp[j3,kB,g0,e0])
 ·simp[g0];refine CI.p (o6 x (aL f.aM) f.turn (by omega)) ?_;simp;refine CI.p (V2 x (aL f.aM++aL f.turn) f.held F.held l4 (by simp only[bZ];omega)) ?_;simp;refine dr ?_;exact aA (by simp[j3,kB,g0,e0])
theorem zg1 (l:List G.Mark)(t:List UInt8)(hs:∀m∈l,eN m.k=true/\0<=m.bR/\m.bR<=2147483647)(hl:l.length<=64)(ht:t.length<=700000):C1 312 [.ptr 0 0] [] [(0,.cells [aB ((bK l jE++t).map aV),int 0] 190)] (aB (l.map jD)) [(0,.cells [aB (t.map aV),int 0] 190)]:=by
 refine Ct.B func312 ?_;simp;have hy:∀m∈l,(jE m).length<=27:=λm hm=>E9 (hs m hm).1;have hall:=uG l hy;refine CI.cc [0] (nE l.length 64 (l.flatMap jE++t) (by omega) (eC (by omega) (by omega) (by omega)) (by simp only[bZ];omega)) ?_ (ha:=by simp[bK]) (hk:=by simp[bK]);simp[bK];refine aH.gH 3 3 352 rfl ?_;refine aH.V (l) (λk=>[(0,.ptr 0 0),(3,.own 64),(6,int l.length),(7,int k.1)]) (λk=>[(64,.grow 3 ((l.take k.1).map jD) 352),(0,.cells [aB (((l.drop k.1).flatMap jE++t).map aV),int 0] 190)]) 65 (λk hk1 B hB=>?_);simp;rcases bC hk1 with⟨m,hk,hx,hr,hm,ht,hd,hw,h⟩|rfl
 ·simp[h,hr,hw];have hd2:=xV l (k+1) hy;obtain⟨q1,q2,q3⟩:=hs m hm;have n1:=cO m.bR;refine CI.cc [0] (Cq m.k (aL m.bR++((l.drop (k+1)).flatMap jE++t)) q1 (by simp only[bZ];omega)) ?_ (ha:=by simp[hd,jE]) (hk:=by simp[hd,jE]);simp[hd,jE];refine CI.cc [0] (nE m.bR 2147483647 ((l.drop (k+1)).flatMap jE++t) q2 (eC q3 (by omega) (by omega)) (by simp only[bZ];omega)) ?_;simp;refine⟨by omega,?_⟩;exact hB hk (by constructor<;>simp[hw,ht])
 ·simp;exact⟨[],by constructor<;>simp[aI,aJ]⟩
set_option maxHeartbeats 1000000 in
theorem zhq (f:G.Frame)(he:dD f=0):C0 227 [aB ((j3 f).map aV)] (.aU [st (cA f),int 0]):=by
 refine Ct.B func227 ?_;simp;have F:=LJ (j9.1 he);have lk:=pC (l:=f.gone) (lay:=dK) (m:=22) λk hk=>uE (F.gone k hk);have ld:=pC (l:=f.held) (lay:=dK) (m:=22) λk hk=>uE (F.held k hk);have la:=pC (l:=f.aD) (lay:=fD) (m:=1496) λr hr=>A9 (uY (F.aD r hr));have lh:=pC (l:=f.aP) (lay:=jE) (m:=27) λm hm=>E9 (F.aP m hm).1;have l1:=F.la;have l2:=F.lg;have l3:=F.lh;have l4:=F.ld;have n1:=cO f.aM;have n2:=cO f.kind;have n3:=cO f.cN;have n4:=cO f.err;have n5:=cO f.turn;have hb:=BA (j9.1 he);have hbl:(kB f).length<=99000:=by simp only[j3,bZ]at hb;omega
 refine CI.cc [320] (nE f.type 3 (aL f.aM++kB f) (by rcases F.ty with h|h|h|h<;>omega) (eC (by rcases F.ty with h|h|h|h<;>omega) (by omega) (by omega)) (by simp only[bZ];omega)) ?_ (ha:=by simp[j3]) (hk:=by simp[j3]);simp[j3];refine CI.cc [320] (nE f.aM 2147483647 (kB f) F.e0 (eC F.e1 (by omega) (by omega)) (by omega)) ?_;simp;have hf4:=FM f (xJ he);rw[he]at hf4;rcases F.ty with g0|g0|g0|g0
 ·obtain⟨a1,a2,a3,a4,a5,a6,a7⟩:=F.s0 g0;have e1:kB f=bK f.aP jE++[]:=by simp[kB,g0]
  simp[g0,e1];refine CI.cc [320] (zg1 f.aP [] F.aP l3 (by simp)) ?_;simp;simp only[cA,g0,a1,a2,a3,a4,a5,a6,a7]at hf4;refine CI.cc [320] O6 ?_;simp;refine CI.p hf4 ?_;simp;exact aA (by simp[g0,a1,a2,a3,a4,a5,a6,a7])
 ·obtain⟨a1,a2,a3,a4⟩:=F.s1 g0;have e1:kB f=aL f.kind++(aL f.cN++(bK f.aD fD++(bK f.gone dK++[]))):=by simp[kB,g0]
  simp[g0,e1];refine CI.cc [320] (nE f.kind 3 (aL f.cN++(bK f.aD fD++(bK f.gone dK++[]))) F.k0 (eC F.k3 (by omega) (by omega)) (by simp only[bZ,gZ];omega)) ?_;simp;refine CI.cc [320] (nE f.cN 2147483647 (bK f.aD fD++(bK f.gone dK++[])) F.n0 (eC F.n1 (by omega) (by omega)) (by simp only[bZ,gZ];omega)) ?_;simp;refine CI.cc [320] (Xb f.aD (bK f.gone dK++[]) F.aD l1 (by simp only[bZ,gZ];omega)) ?_;simp;refine CI.cc [320] (UO f.gone [] F.gone l2 (by simp)) ?_;simp;simp only[cA,g0,a1,a2,a3,a4]at hf4;refine CI.cc [320] O6 ?_;simp;refine CI.p hf4 ?_;simp;exact aA (by simp[g0,a1,a2,a3,a4])
 ·obtain⟨a1,a2,a3⟩:=F.s2 g0;have e1:kB f=aL f.kind++(aL f.cN++(aL f.err++(aL f.turn++(bK f.held dK++[])))):=by simp[kB,g0]
  simp[g0,e1];refine CI.cc [320] (nE f.kind 3 (aL f.cN++(aL f.err++(aL f.turn++(bK f.held dK++[])))) F.k0 (eC F.k3 (by omega) (by omega)) (by simp only[bZ,gZ];omega)) ?_;simp;refine CI.cc [320] (nE f.cN 2147483647 (aL f.err++(aL f.turn++(bK f.held dK++[]))) F.n0 (eC F.n1 (by omega) (by omega)) (by simp only[bZ,gZ];omega)) ?_;simp;refine CI.cc [320] (nE f.err 15 (aL f.turn++(bK f.held dK++[])) F.r0 (eC F.r1 (by omega) (by omega)) (by simp only[bZ,gZ];omega)) ?_;simp;refine CI.cc [320] (nE f.turn 2147483647 (bK f.held dK++[]) F.t0 (eC F.t1 (by omega) (by omega)) (by simp only[bZ,gZ];omega)) ?_;simp;refine CI.cc [320] (UO f.held [] F.held l4 (by simp)) ?_;simp;simp only[cA,g0,a1,a2,a3]at hf4;refine CI.cc [320] O6 ?_;simp;refine CI.p hf4 ?_;simp;exact aA (by simp[g0,a1,a2,a3])
 ·obtain⟨a1,a2,a3,a4,a5,a6⟩:=F.s3 g0;have e1:kB f=aL f.turn++(bK f.held dK++[]):=by simp[kB,g0]
  simp[g0,e1];refine CI.cc [320] (nE f.turn 2147483647 (bK f.held dK++[]) F.t0 (eC F.t1 (by omega) (by omega)) (by simp only[bZ,gZ];omega)) ?_;simp;refine CI.cc [320] (UO f.held [] F.held l4 (by simp)) ?_;simp;simp only[cA,g0,a1,a2,a3,a4,a5,a6]at hf4;refine CI.cc [320] O6 ?_;simp;refine CI.p hf4 ?_;simp;exact aA (by simp[g0,a1,a2,a3,a4,a5,a6])
theorem Tw (l:List UInt8)(hl:l.length<=100000):C0 310 [aB (l.map aV)] (.aU [aB ((oF l).map aV),int 0]):=by
 refine Ct.B func310 ?_;simp;have n1:=cO l.length;refine aX (λh1 zz=>?_) (λh1 zz=>?_)<;>simp only[zz]<;>simp
 ·omega
 refine CI.cc [] (Kb l.length) ?_;simp;refine⟨by omega,?_⟩;exact aA (by simp[oF])
theorem zeT (x:UInt8)(p:List UInt8)(hl:(x::p).length<=100000):C0 226 [aB ((oF (x::p)).map aV)] (.aU [aB ((x::p).map aV),int (oF (x::p)).length,int 0]):=by
 refine Ct.B func226 ?_;simp;have n1:=cO ((x::p).length:Int);refine CI.cc [384] (nE (x::p).length 100000 (x::p) (by omega) (eC (by omega) (by omega) (by omega)) (by omega)) ?_ (ha:=by simp[oF]) (hk:=by simp[oF]);simp[oF];refine⟨by omega,?_⟩;refine CI.cc [] (ZK x p (by simp at hl;omega)) ?_;simp;refine dr ?_;rw[show((x::p).length:Int)=p.length+1 by simp]at n1;have hp:p.length+1<=100000:=hl;have w1:IntKind.wrap .i64 ((aL ((p.length:Int)+1)).length:Int)=(aL ((p.length:Int)+1)).length:=wz _;have w2:IntKind.wrap .i64 (((aL ((p.length:Int)+1)).length:Int)+(p.length+1))=(aL ((p.length:Int)+1)).length+(p.length+1):=wz _;exact aA (by simp[w1,w2])
attribute [simp] ntmps236 results236 ntmps166 results166 ntmps168 results168 ntmps167 results167 ntmps311 results311 ntmps225 results225 ntmps161 results161 ntmps104 results104 ntmps105 results105 ntmps106 results106 ntmps238 results238
theorem zjd (x:UInt8)(l:List UInt8)(hl:l.length<=1000000):C0 237 [aB ((x::l).map aV)] (aB ((x::l).map aV)):=(ZK x l hl).data
theorem zbf (l:eS)(hl:l.q.length<=1000000):C0 236 [st (iJ l)] (bool (uX l)):=by
 refine Ct.B func236 ?_;simp;rw[Fb]
 repeat' first
  | (refine bM (λh=>?_) (λh=>?_)<;>simp only[h]<;>simp[h])
  | (refine bQ (λh=>?_) (λh=>?_)<;>simp only[h]<;>simp[h])
  | (refine⟨(show jG _ _ from by decide+kernel),?_⟩)
  |fail
 all_goals exact aA (by simp[*])
theorem OD (l:eS)(hl:l.q.length<=1000000):C0 166 [st (iJ l)] (st (iJ (gD l))):=by
 refine Ct.B func166 ?_;simp;refine CI.p (zbf l hl) ?_;simp;cases hs:uX l with
 |false=>
  have e:=Ez hs;simp[hs];exact aA (by simp[e])
 |true=>
  have e:=VM hs;simp[hs];exact aA (by simp[e])
theorem VC (l:eS)(x:UInt8)(b:List UInt8)(h:tK l)(hb:(x::b).length<=200000):C0 168 [st (iJ l),aB ((x::b).map aV)] (.aU [st (iJ (qB l (x::b)).1),int (qB l (x::b)).2]):=by
 refine Ct.B func168 ?_;simp;refine CI.p (OD l h.len) ?_;simp;simp only[qB];have h32:=ER l;generalize gD l=q at*;refine aX (λh1 zz=>?_) (λh1 zz=>?_)<;>simp only[zz]<;>simp
 ·have e:ET q (x::b)=(q,8):=KK (by omega);exact aA (by simp[e])
 ·have e:ET q (x::b)=(⟨q.aM,q.q++[x::b]⟩,0):=GX (by omega);refine CI.p (zjd x b (by simp at hb;omega)) ?_;simp;refine⟨by omega,?_⟩;refine dr ?_;exact aA (by simp[e])
theorem Ht (l:eS)(i:Int)(hl:l.q.length<=1000000)(hq:l.q≠[]):C0 167 [st (iJ l),int i] (.aU [int (mR l i),bool true]):=by
 refine Ct.B func167 ?_;simp;have e:=Hx i hq;have hz:¬(l.q.length:Int)=0:=by have:=vS.2 hq;omega
 simp[hq];exact aA (by simp[e])
theorem Hw (e i:Int):C0 167 [st [iD e,lD []],int i] (.aU [int 0,bool false]):=by
 refine Ct.B func167 ?_;simp;exact aA
theorem zhf (n:Int)(h0:0<n)(h1:n<=2000000):C1 311 [BI,int n] [] [] (.sl 64 1 0 0) [(64,.grow 1 (List.replicate n.toNat [.v (.slice none 0 0)]) 24)]:=by
 refine Ct.B func311 ?_;simp;have g1:¬n<0:=by omega
 have g2:=wz (n);simp[g1,g2,h0];refine⟨⟨by omega,by omega⟩,by omega,?_⟩;exact⟨[(64,1216)],by constructor<;>simp[aI,aJ]⟩
theorem zhe :C0 311 [BI,int 0] (BI):=by
 refine Ct.B func311 ?_;simp;exact aA
theorem ziX (a b:List (List UInt8))(h1:a.length+b.length<=2000000):C1 225 [.own 0] [(0,.grow 1 [[.ro true (a.map CT)],[lD (b.map CT)]] 113)] [] (aB ((a++b).map CT)) []:=by
 refine Ct.B func225 ?_;simp;have w1:IntKind.wrap .i64 (a.length:Int)=a.length:=wz _;have w2:IntKind.wrap .i64 ((a.length:Int)+b.length)=a.length+b.length:=wz _;have v1:¬((a.length:Int)<0):=by omega
 have v2:¬((a.length:Int)+b.length<0):=by omega
 refine aH.un ?_;simp[w1,v1];refine aH.un ?_;simp[w2,v2];refine aH.un ?_;simp;by_cases h0:a.length+b.length=0
 ·have ha:a=[]:=kH (by omega);have hb:b=[]:=kH (by omega);subst ha;subst hb;refine CI.p zhe ?_;simp;refine aH.un ?_;simp;refine aH.un ?_;simp;refine aH.un ?_;simp;exact⟨[],by constructor<;>simp[aI,aJ]⟩
 ·refine CI.cc [] (zhf ((a.length:Int)+b.length) (by omega) (by omega)) ?_;simp;refine aH.un ?_;simp;refine⟨by omega,?_⟩;refine aH.un ?_;simp;refine⟨by omega,?_⟩;refine aH.un ?_;simp;exact⟨[],by constructor<;>simp[aI,aJ]⟩
theorem UM (l:eS)(i:Int)(h:tK l):C0 161 [st (iJ l),int i] (.aU [st (iJ (rT l i).1),aB ((rT l i).2.1.map aV),int (rT l i).2.2]):=by
 refine Ct.B func161 ?_;simp;refine CI.p (OD l h.len) ?_;simp;simp only[rT];have h32:=ER l;have h':=h.sound;generalize gD l=q at*;by_cases hq:q.q=[]
 ·obtain⟨e,q⟩:=q;simp only at hq;subst hq;refine CI.p (Hw e i) ?_;simp;have e1:= @NQ e i;exact aA (by simp[e1])
 ·have e1:=J5 (i:=i) hq;have e2:=E6 i hq;refine CI.p (Ht q i (by omega) hq) ?_;simp;generalize mR q i=k at*;have w1:IntKind.wrap .i64 ((k:Int)+1)=k+1:=wz _;have w2:((k:Int)+1).toNat=k+1:=by omega
  simp[e2,w1,w2];refine⟨by omega,?_⟩;refine⟨⟨by omega,by omega⟩,?_⟩;have e3:q.q[k]?.getD []=q.q[k]:=by simp[e2]
  refine CI.cc [2176] (ziX (q.q.take k) (q.q.drop (k+1)) (by simp;omega)) ?_;simp;refine dr ?_;exact aA (by simp[e1,e3])
theorem zir (l:eS)(i:Int)(h:tK l):C0 104 [st (iJ l),int i] (.aU [st (iJ (DV l i).1),int (DV l i).2]):=by
 refine Ct.B func104 ?_;simp;refine CI.p (UM l i h) ?_;simp;exact aA (by simp[DV])
theorem zk6 (l:eS)(i:Int)(h:tK l):C0 105 [st (iJ l),int i] (.aU [st (iJ (D5 l i).1),int (D5 l i).2]):=by
 refine Ct.B func105 ?_;simp;refine CI.p (OD l h.len) ?_;simp;have h32:=ER l;have h':=h.sound;unfold D5;generalize gD l=q at*;by_cases hq:q.q=[]
 ·obtain⟨e,q⟩:=q;simp only at hq;subst hq;refine CI.p (Hw e i) ?_;simp;exact aA
 ·have e2:=E6 i hq;refine CI.p (Ht q i (by omega) hq) ?_;simp;generalize mR q i=k at*;obtain⟨g1,g2⟩:=h'.getD e2;have e3:q.q.getD k []=q.q[k]:=by simp[e2]
  rw[e3]at g1 g2;simp only[e3,aT hq];simp[e2];generalize q.q[k]=b at*;cases b with
  |nil=>exact absurd rfl g1
  |cons x b=>
   refine CI.p (VC q x b h' g2) ?_;simp;exact aK
theorem zf3 (l:eS)(i:Int)(h:tK l):C0 106 [st (iJ l),int i] (.aU [st (iJ (DM l i).1),int (DM l i).2]):=by
 refine Ct.B func106 ?_;simp;refine CI.p (UM l i h) ?_;simp;unfold DM rT;have h':=h.sound;generalize gD l=q at*;by_cases hq:q.q=[]
 ·obtain⟨e,q⟩:=q;simp only at hq;subst hq;have e1:= @NQ e i;simp[e1];exact aA
 ·have e2:=E6 i hq;have h2:=h'.take i;have e1:=J5 (i:=i) hq;obtain⟨g1,g2⟩:=h'.getD e2;rw[e1]at h2⊢;simp only[aT hq]at h2⊢;generalize q.q.getD (mR q i) []=b at*;simp;cases b with
  |nil=>exact absurd rfl g1
  |cons x b=>
   refine CI.p (VC ⟨q.aM,q.q.take (mR q i)++q.q.drop (mR q i+1)⟩ x b h2 g2) ?_;simp;exact aA
theorem zcc (l:eS)(hl:l.q.length<=1000000):C0 238 [st (iJ l)] (.aU [st (iJ (C8 l).1),int (C8 l).2]):=by
 refine Ct.B func238 ?_;simp;refine CI.p (OD l hl) ?_;simp;obtain⟨h1,h2⟩:=U4 l;unfold C8;generalize gD l=q at*;refine aX (λh3 zz=>?_) (λh3 zz=>?_)<;>simp only[zz]<;>simp
 ·exact aA (by simp[h3])
 ·have w1:=wz (q.aM+1);exact aA (by simp[h3,w1])
end Go.Proofs.YtobcmagefgdgdaaGreatDoor
