/- LAYERS 9 to 20, plainly -/
import Derived.Test.YtobcmagefgdgdaaGreatDoorPl
set_option linter.unusedSimpArgs false
set_option linter.unusedVariables false
set_option maxRecDepth 100000
set_option maxHeartbeats 8000000
namespace Go.Nonce
structure Ou where
 (l0 l1 l2 l3:Int) (o0 o1 o2 o3:Bool) (m:Int)
 deriving DecidableEq
structure Nn where
 (l0 l1 l2 l3 m:Int)
 deriving DecidableEq
def bnd (n:Int):Int:=max 1 (min n 2147483647)
def A6 (n:Int):Ou:=⟨0,0,0,0,false,false,false,false,bnd n⟩
def uS (n:Int):Nn:=⟨0,0,0,0,bnd n⟩
def kV (i:Nn):Bool:=
 decide (0<=i.l0)&&decide (i.l0<=i.m)&&decide (0<=i.l1)&&decide (i.l1<=i.m)&&decide (0<=i.l2)&&decide (i.l2<=i.m)&&decide (0<=i.l3)&&decide (i.l3<=i.m)&&decide (1<=i.m)&&decide (i.m<=2147483647)
def Ou.rR (o:Ou):Nn:=⟨o.l0,o.l1,o.l2,o.l3,o.m⟩
def kF (o:Ou):Bool:=
 !(o.o0&&decide (o.l0=0))&& !(o.o1&&decide (o.l1=0))&& !(o.o2&&decide (o.l2=0))&& !(o.o3&&decide (o.l3=0))&&kV o.rR
def sZ (o:Ou):Ou:=if kF o then o else A6 o.m
def xR (i:Nn):Nn:=if kV i then i else uS i.m
def iR (k:Int):Bool:=decide (0<=k)&&decide (k<4)
def Ou.last (o:Ou)(k:Int):Int:=if k=0 then o.l0 else if k=1 then o.l1 else if k=2 then o.l2 else o.l3
def Ou.nS (o:Ou)(k:Int):Bool:=if k=0 then o.o0 else if k=1 then o.o1 else if k=2 then o.o2 else o.o3
def Ou.set (o:Ou)(k l:Int)(b:Bool):Ou:=
 if k=0 then{o with l0:=l,o0:=b}else if k=1 then{o with l1:=l,o1:=b}else if k=2 then{o with l2:=l,o2:=b}else{o with l3:=l,o3:=b}
def Nn.last (o:Nn)(k:Int):Int:=if k=0 then o.l0 else if k=1 then o.l1 else if k=2 then o.l2 else o.l3
def Nn.set (o:Nn)(k l:Int):Nn:=
 if k=0 then{o with l0:=l}else if k=1 then{o with l1:=l}else if k=2 then{o with l2:=l}else{o with l3:=l}
def BB (o:Ou)(k:Int):Ou×Int×Int:=
 if iR k=false then(o,0,4)
 else if o.nS k then(o,0,15)
 else if o.last k=o.m then(o,0,14)
 else(o.set k (o.last k+1) true,o.last k+1,0)
def push (o:Ou)(k:Int):Ou×Int×Int:=BB (sZ o) k
def CA (o:Ou)(k n:Int):Ou×Int:=
 if iR k=false then(o,4)
 else if o.nS k=false\/n≠o.last k then(o,11)
 else(o.set k (o.last k) false,0)
def done (o:Ou)(k n:Int):Ou×Int:=CA (sZ o) k n
def lF (i:Nn)(k n:Int):Nn×Int:=
 if iR k=false then(i,4)
 else if n≠0/\n=i.last k then(i,9)
 else if n≠i.last k+1\/i.m<n then(i,11)
 else(i.set k n,0)
def take (i:Nn)(k n:Int):Nn×Int:=lF (xR i) k n
theorem wE (a b c d m:Int):(kV ⟨a,b,c,d,m⟩=true)=(0<=a/\a<=m/\0<=b/\b<=m/\0<=c/\c<=m/\0<=d/\d<=m/\1<=m/\m<=2147483647):=by
 simp[kV,and_assoc]
theorem LZ (n:Int):1<=bnd n/\bnd n<=2147483647:=by simp only[bnd];omega
def Ou.ok (o:Ou):Prop:=(0<=o.l0/\o.l0<=o.m/\0<=o.l1/\o.l1<=o.m/\0<=o.l2/\o.l2<=o.m/\0<=o.l3/\o.l3<=o.m/\1<=o.m/\o.m<=2147483647)
def Nn.ok (o:Nn):Prop:=(0<=o.l0/\o.l0<=o.m/\0<=o.l1/\o.l1<=o.m/\0<=o.l2/\o.l2<=o.m/\0<=o.l3/\o.l3<=o.m/\1<=o.m/\o.m<=2147483647)
theorem Ip (o:Ou):(sZ o).ok:=by
 obtain⟨a,b,c,d,x,y,z,t,m⟩:=o;simp only[sZ];by_cases h:kF ⟨a,b,c,d,x,y,z,t,m⟩=true
 ·rw[aZ h];simp only[kF,Ou.rR,bL,wE]at h;exact h.2
 ·rw[aT h];have:=LZ m;simp only[Ou.ok,A6];omega
theorem Ns (o:Nn):(xR o).ok:=by
 obtain⟨a,b,c,d,m⟩:=o;simp only[xR];by_cases h:kV ⟨a,b,c,d,m⟩=true
 ·rw[aZ h];rw[wE]at h;exact h
 ·rw[aT h];have:=LZ m;simp only[Nn.ok,uS];omega
theorem IC {k:Int}(h:iR k=true):k=0\/k=1\/k=2\/k=3:=by
 simp only[iR,bL,decide_eq_true_iff]at h;omega
end Go.Nonce
namespace Go.G
theorem Ot :∀(g:List Key) (l:List aC) (k:Key),bI (g.foldl nM l) k=if k∈g then none else bI l k
 |[],l,k=>by simp
 |q::g,l,k=>by
  rw[pH,Ot g,zhs];by_cases h:k∈g
  ·simp[h]
  ·by_cases e:q=k
   ·subst e;simp
   ·have:¬k=q:=λe'=>e e'.symm;simp[h,e,this]
def BP (l:List aC)(k:Key):Option aC:=l.reverse.find? λr=>decide (r.key=k)
theorem Ov :∀(a l:List aC) (k:Key),bI (a.foldl nN l) k=match BP a k with|some r=>some r|none=>bI l k
 |[],l,k=>by simp[BP]
 |m::a,l,k=>by
  rw[pH,Ov a];unfold BP;rw[List.reverse_cons,List.find?_append];cases h:a.reverse.find? _ with
  |some x=>rfl
  |none=>
   simp only[Option.none_or];rw[zht];by_cases e:m.key=k<;>simp[e]
theorem zhu (l a:List aC)(g:List Key)(k:Key):bI (iC l a g) k=match BP a k with|some r=>some r|none=>if k∈g then none else bI l k:=by
 unfold iC;rw[Ov,Ot]
theorem SX {l:List aC}(h:fA l)(p:aC->Bool):fA (l.filter p):=by
 exact h.sublist ((List.filter_sublist).map _)
theorem zkG {l:List aC}(h:fA l)(r:aC):fA (nN l r):=by
 have h1:=SX h λx=>decide (cT x.key r.key= -1);have h2:=SX h λx=>decide (cT x.key r.key=1);have a1:∀x∈(qJ l r.key (-1)).map aC.key,cT x r.key= -1:=by
  grind
 have a2:∀x∈(qJ l r.key 1).map aC.key,cT r.key x= -1:=by
  intro x hx;obtain⟨a,ha,rfl⟩:=fU.1 hx;have:cT a.key r.key=1:=by grind
  rw[LX,this]
 unfold nN fA i7;rw[CJ,CJ,MS,MS];refine⟨⟨h1,by simp,?_⟩,h2,?_⟩
 ·grind
 ·intro x hx y hy;rcases gU.1 hx with h|h
  ·exact CB (a1 x h) (a2 y hy)
  ·grind
theorem zkH {l:List aC}(h:fA l)(a:List aC)(g:List Key):fA (iC l a g):=by
 have h1:∀(g:List Key) (l:List aC),fA l->fA (g.foldl nM l):=by
  intro g;induction g with
  |nil=>exact λ_ h=>h
  |cons q g ih=>exact λl h=>ih _ (SX h _)
 have h2:∀(a l:List aC),fA l->fA (a.foldl nN l):=by
  intro a;induction a with
  |nil=>exact λ_ h=>h
  |cons q g ih=>exact λl h=>ih _ (zkG h _)
 exact h2 _ _ (h1 _ _ h)
theorem zkI {a b:List aC}(ha:fA a)(hb:fA b)(h:∀k,bI a k=bI b k):a=b:=by
 have hk:a.map aC.key=b.map aC.key:=SV ha hb λk=>by rw[mem_keys,mem_keys,h]
 refine JT λi=>?_;have hi:=jW (λl=>l[i]?) hk;simp at hi;cases e1:a[i]? with
 |none=>
  cases e2:b[i]? with
  |none=>rfl
  |some y=>simp[e1,e2]at hi
 |some x=>
  cases e2:b[i]? with
  |none=>simp[e1,e2]at hi
  |some y=>
   simp only[e1,e2,tM,pX]at hi;have g1:=D1 ha (gT e1);have g2:=D1 hb (gT e2);rw[<-hi,<-h,g1]at g2;exact g2
theorem Q9 {l:List aC}{k:Key}:bI l k=none↔∀r∈l,¬r.key=k:=by
 unfold bI;simp
theorem zf7 {l:List aC}{k:Key}:BP l k=none↔∀r∈l,¬r.key=k:=by
 unfold BP;simp
theorem zf6 {l:List aC}{k:Key}{r:aC}(h:BP l k=some r):r∈l/\r.key=k:=by
 exact⟨by simpa using List.mem_of_find?_eq_some h,by simpa using List.find?_some h⟩
theorem zf8 {l:List aC}(h:fA l)(k:Key):BP l k=bI l k:=by
 cases e:BP l k with
 |none=>exact(Q9.2 (zf7.1 e)).symm
 |some r=>
  obtain⟨h1,h2⟩:=zf6 e;rw[<-h2,D1 h h1]
theorem Lu {a b:List aC}{k:Key}:k∈kA a b↔(bI a k).isSome=true/\bI b k=none:=by
 unfold kA;rw[mX,mem_keys];cases bI b k<;>simp
theorem zdA {a b:List aC}(ha:fA a)(hb:fA b):iC a (iN a b) (kA a b)=b:=by
 have hd:fA (iN a b):=SX hb _;refine zkI (zkH ha _ _) hb λk=>?_;rw[zhu,zf8 hd];have mem:∀r,r∈iN a b↔r∈b/\¬bI a r.key=some r:=λr=>by simp[iN]
 cases hbk:bI b k with
 |none=>
  have h1:bI (iN a b) k=none:=Q9.2 λr hr=>Q9.1 hbk r ((mem r).1 hr).1;simp only[h1];split
  ·rfl
  ·rename_i h;cases h2:bI a k with
   |none=>rfl
   |some x=>exact absurd (Lu.2 ⟨by rw[h2];rfl,hbk⟩) h
 |some r=>
  have hr:=BU hbk;have hk:=YV hbk;by_cases h:bI a k=some r
  ·have h1:bI (iN a b) k=none:=Q9.2 λx hx e=>by
    obtain⟨q1,q2⟩:=(mem x).1 hx;have:=D1 hb q1;simp_all
   have h2:k∉kA a b:=λhm=>by have:=(Lu.1 hm).2;rw[hbk]at this;cases this
   simp only[h1,aT h2,h]
  ·have:r∈iN a b:=(mem r).2 ⟨hr,by rw[hk];exact h⟩;have:=D1 hd this;rw[hk]at this;simp only[this]
def sU (now:List aC)(v:Int)(r:aC):aC:={r with bR:=match bI now r.key with
 |some o=>if jF o r then o.bR else v
 |none=>v}
theorem N8 (now l:List aC)(v:Int):kI now l v=l.map (sU now v):=rfl
theorem Yx (now:List aC)(v:Int)(r:aC):(sU now v r).key=r.key:=rfl
theorem Sl (o r:aC)(x:Int):jF o {r with bR:=x}=jF o r:=rfl
theorem Yy (now:List aC)(v:Int)(r:aC):sU now v (sU now v r)=sU now v r:=by rfl
theorem Yo (now l:List aC)(v:Int):kI now (kI now l v) v=kI now l v:=by
 rw[N8,N8,List.map_map];exact List.map_congr_left λr _=>Yy now v r
structure uN (cap:Int)(h:List (List aC)):Prop where
 first:h[0]? =some []
 step:∀(i:Nat) now l,h[i]? =some now->h[i+1]? =some l->(∃p,l=kI now p ((i:Int)+1))/\jM cap (i+1) now l=0
theorem uN.ZX {cap:Int}{h:List (List aC)}(hh:uN cap h){i:Nat}{l:List aC}(hl:h[i]? =some l):fA l:=by
 cases i with
 |zero=>rw[hh.first]at hl;cases hl;simp
 |succ i=>
  have hi:i<h.length:=by grind
  exact xA (Qz (hh.step i h[i] l (bO hi) hl).2)
theorem Nd {cap:Int}{h:List (List aC)}{i:Nat}{now:List aC}(hn:h[i]? =some now):dQ ⟨cap,h.take (i+1)⟩=now:=by
 unfold dQ;rw[Ah,X1 hn];rfl
theorem zgX {cap:Int}{h:List (List aC)}(hh:uN cap h):∀(m i:Nat),i+1+m=h.length->G3 ⟨cap,h.take (i+1)⟩ (h.drop (i+1))=true:=by
 intro m;induction m with
 |zero=>intro i hi;rw[TR (by omega)];rfl
 |succ m ih=>
  intro i hi;have h0:i<h.length:=by omega
  have h1:i+1<h.length:=by omega
  have e0:h[i]? =some h[i]:=bO h0;have e1:h[i+1]? =some h[i+1]:=bO h1;have hl:dQ ⟨cap,h.take (i+1)⟩=h[i]:=Nd e0;obtain⟨⟨p,hp⟩,hc⟩:=hh.step i _ _ e0 e1;have hlen:(h.take (i+1)).length=i+1:=by grind
  have hN:u0 ⟨cap,h.take (i+1)⟩ (iN h[i] h[i+1]) (kA h[i] h[i+1])=h[i+1]:=by
   unfold u0;rw[hl,zdA (hh.ZX e0) (hh.ZX e1)];simp only[hlen];have:((i+1:Nat):Int)=(i:Int)+1:=by omega
   rw[this,hp,Yo]
  have hE:oZ ⟨cap,h.take (i+1)⟩ (iN h[i] h[i+1]) (kA h[i] h[i+1])=0:=by
   unfold oZ;rw[hN,hl];simp only[hlen];exact hc
  rw[tP h1];simp only[G3,hl,hE,hN,uP];have:=ih (i+1) (by omega)
  rwa[jH,e1]at this
theorem Om {cap:Int}:∀(r h:List (List aC)),uN cap h->G3 ⟨cap,h⟩ r=true->uN cap (h++r)
 |[],h,hh,_=>by simpa using hh
 |l::r,h,hh,hs=>by
  simp only[G3,bL,dA]at hs;obtain⟨⟨h1,h2⟩,h3⟩:=hs;have h0:0<h.length:=(cE.1 hh.first).1;have hn:uN cap (h++[l]):=by
   refine⟨by rw[qX h0];exact hh.first,λi now l' e1 e2=>?_⟩;have hi:i+1<(h++[l]).length:=(cE.1 e2).1;simp only[bZ,jI,gZ]at hi;rw[qX (by omega)]at e1;by_cases hlt:i+1<h.length
   ·rw[qX hlt]at e2;exact hh.step i now l' e1 e2
   ·have hie:i+1=h.length:=by omega
    rw[tN (by omega),hie]at e2;simp at e2;subst e2;have hl:dQ ⟨cap,h⟩=now:=by
     have:=Nd (cap:=cap) e1
     rwa[hie,bX]at this
    have hE:=h1;unfold oZ at hE;rw[h2,hl]at hE;refine⟨⟨iC now (iN now l) (kA now l),?_⟩,by rw[hie];exact hE⟩;unfold u0 at h2;rw[hl]at h2;have:((h.length:Nat):Int)=(i:Int)+1:=by omega
    simp only[this]at h2;exact h2.symm
  have:=Om r (h++[l]) hn h3;simpa using this
theorem Nw (cap:Int):uN cap [[]]:=⟨rfl,λi now l h1 h2=>by simp at h2⟩
theorem oW (s:aW):gN s=true↔s.cap=n9 s.cap/\s.bA.length<=100000/\uN s.cap s.bA:=by
 constructor
 ·intro h;simp only[gN,bL,dA]at h;obtain⟨⟨⟨⟨h1,h2⟩,h3⟩,h4⟩,h5⟩:=h;refine⟨h1,h3,?_⟩;cases hh:s.bA with
  |nil=>rw[hh]at h2;simp at h2
  |cons a t=>
   rw[hh]at h4 h5;subst h4;have:=Om (cap:=s.cap) t [[]] (Nw _) (by
    have e:fZ s.cap=⟨s.cap,[[]]⟩:=by unfold fZ;rw[<-h1]
    rw[e]at h5;simpa using h5)
   simpa using this
 ·rintro⟨h1,h2,h3⟩;have h0:0<s.bA.length:=(cE.1 h3.first).1;have hg:=zgX h3 (s.bA.length-1) 0 (by omega);have e:s.bA.take (0+1)=[[]]:=by
   rw[jH,h3.first];rfl
  rw[e]at hg;have hd:s.bA.headD []=[]:=by
   have:=h3.first;cases hh:s.bA with
   |nil=>rfl
   |cons a t=>rw[hh]at this;simpa using this
  have e2:fZ s.cap=⟨s.cap,[[]]⟩:=by unfold fZ;rw[<-h1]
  have a1:1<=s.bA.length:=by omega
  simp only[gN,oC h1,oC a1,oC h2,oC hd,e2];simpa using hg
theorem uN.snoc {cap:Int}{h:List (List aC)}(hh:uN cap h){p:List aC}{now:List aC}(hn:h[h.length-1]? =some now)(hc:jM cap h.length now (kI now p h.length)=0):uN cap (h++[kI now p h.length]):=by
 have h0:0<h.length:=(cE.1 hh.first).1;refine⟨by rw[qX h0];exact hh.first,λi now' l' e1 e2=>?_⟩;have hi:i+1<(h++[kI now p h.length]).length:=(cE.1 e2).1;simp at hi;rw[qX (by omega)]at e1;by_cases hlt:i+1<h.length
 ·rw[qX hlt]at e2;exact hh.step i now' l' e1 e2
 ·have hie:i+1=h.length:=by omega
  rw[tN (by omega),hie]at e2;simp at e2;subst e2;have:i=h.length-1:=by omega
  grind
theorem QP {s:aW}(h:0<s.bA.length):s.bA[s.bA.length-1]? =some (dQ s):=by
 unfold dQ;rw[Ah,<-GF];cases e:s.bA.getLast? with
 |none=>rw[List.getLast?_eq_none_iff]at e;rw[e]at h;simp at h
 |some x=>rfl
theorem zjl {cap:Int}{n:Nat}{now next:List aC}(h:jM cap n now next=0):n<100000:=by
 unfold jM at h;omega
theorem EU {s:aW}(h:gN s=true)(aD:List aC)(gone:List Key):gN (oY s aD gone)=true:=by
 unfold oY;split
 ·rename_i he;obtain⟨h1,h2,h3⟩:=(oW s).1 h;have h0:0<s.bA.length:=(cE.1 h3.first).1;have hn:=zjl he;exact(oW _).2 ⟨h1,by simp;omega,h3.snoc (QP h0) he⟩
 ·exact h
theorem zbb {s:aW}(h:gN s=true):s.cap=n9 s.cap:=((oW s).1 h).1
theorem OM {s:aW}(h:gN s=true):0<s.bA.length:=(cE.1 ((oW s).1 h).2.2.first).1
theorem GZ {s:aW}(h:gN s=true):fN s=s:=by
 have h0:=OM h;rw[UH (by intro e;rw[e]at h0;simp at h0),<-zbb h]
theorem zba (n:Int):gN (fZ n)=true:=(oW _).2 ⟨by simp[fZ,ZO],by simp[fZ],Nw _⟩
structure Acc (cap:Int)(l:List aC):Prop where
 GN:eB l=0
 len:(l.length:Int)<=cap
 miss:(xK l).length=0
 served:mO l=0
theorem zjm {cap:Int}{n:Nat}{now next:List aC}(h:jM cap n now next=0):Acc cap next/\¬now=next:=by
 have ht:=Qz h;unfold jM at h;rw[aZ ht]at h;split at h
 ·simp at h
 ·rename_i h1;split at h
  ·simp at h
  ·rename_i h2;split at h
   ·simp at h
   ·rename_i h3;split at h
    ·simp at h
    ·rename_i h4;exact⟨⟨ht,by omega,by omega,by omega⟩,h4⟩
theorem Dy :mO []=0:=by decide+kernel
theorem zlh {cap:Int}(h:0<=cap):Acc cap []:=⟨by decide+kernel,by simpa using h,by decide+kernel,Dy⟩
theorem R9 (n:Int):0<=n9 n/\n9 n<=64:=by unfold n9;omega
theorem uN.acc {cap:Int}(hc:0<=cap){h:List (List aC)}(hh:uN cap h){i:Nat}{l:List aC}(hl:h[i]? =some l):Acc cap l:=by
 cases i with
 |zero=>rw[hh.first]at hl;cases hl;exact zlh hc
 |succ i=>
  have hi:i<h.length:=by grind
  exact(zjm (hh.step i h[i] l (bO hi) hl).2).1
theorem VI {s:aW}(h:gN s=true):Acc s.cap (dQ s):=by
 obtain⟨h1,h2,h3⟩:=(oW s).1 h;have h0:=OM h;exact h3.acc (by have:=R9 s.cap;omega) (QP h0)
def bare (r:aC):aC:={r with bR:=0}
@[simp] theorem bare_key (r:aC):(bare r).key=r.key:=rfl
theorem zcI (l:List Key)(k:Key):(iW l k).length<=l.length+1:=O8 k false l
theorem Pe :∀(m o:List Key),(m.foldl iW o).length<=o.length+m.length
 |[],o=>by simp
 |k::m,o=>by
  have h1:=Pe m (iW o k);have h2:=zcI o k;rw[pH,jI];omega
theorem zcm {r:aC}{k:Key}(h:k∈cD r):nB k.name:=by
 unfold cD at h;split at h
 ·rename_i hs;obtain⟨_,_,h3,_,h5,_⟩:=xC hs;rw[LM]at h;have hasc:i7 (nG r):=by unfold nG;split<;>simp[i7]
  rw[(BW _ hasc).2]at h;simp only[mS,bL,sO,dP]at h5;rcases h with h|h
  ·unfold nG at h;split at h
   ·rename_i hm;simp at h;subst h;have:=DJ (h5.1.resolve_left (by simp[hm]));unfold nB;simp only;omega
   ·simp at h
  ·obtain⟨w,hw,rfl⟩:=fU.1 h;obtain⟨x,hx,hwx⟩:=List.mem_flatMap.1 (mX.1 hw).1;have:=h5.2 x hx;simp only[jS,bL,dP]at this;have:=DJ (this.2 w hwx);unfold nB;simp only;omega
 ·simp at h
def lH (l:List aC)(out:List Key)(q:Key):List Key:=if(bI l q).isSome=true/\q∉out then out++[q]else out
def nD (l:List aC)(out:List Key)(r:aC):List Key:=if r.key∈out then(cD r).foldl (lH l) out else out
def jZ (l:List aC):Nat->List Key
 |0=>tU l
 |n+1=>l.foldl (nD l) (jZ l n)
def VY (l:List aC):List aC:=l.filter λr=>decide (r.key∈jZ l 4)
theorem Yb (l:List aC)(out:List Key)(q:Key):(lH l out q).length<=out.length+1:=by unfold lH;split<;>simp
theorem Xy (l:List aC)(out:List Key)(q:Key):∀x∈out,x∈lH l out q:=by
 intro x hx;unfold lH;split<;>simp[hx]
theorem YZ (l:List aC):∀(m out:List Key),(m.foldl (lH l) out).length<=out.length+m.length
 |[],out=>by simp
 |q::m,out=>by
  have h1:=YZ l m (lH l out q);have h2:=Yb l out q;rw[pH,jI];omega
theorem LN (l:List aC):∀(m out:List Key),∀x∈out,x∈m.foldl (lH l) out
 |[],_,_,h=>h
 |q::m,out,x,h=>LN l m _ x (Xy l out q x h)
theorem zb0 (l:List aC)(out:List Key)(r:aC):(nD l out r).length<=out.length+33:=by
 unfold nD;split
 ·have:=YZ l (cD r) out;have:=zP r;omega
 ·omega
theorem Y1 (l:List aC):∀(m:List aC) (out:List Key),(m.foldl (nD l) out).length<=out.length+33*m.length
 |[],out=>by simp
 |q::m,out=>by
  have h1:=Y1 l m (nD l out q);have h2:=zb0 l out q;rw[pH,jI];omega
theorem Fu (l:List aC):(tU l).length<=l.length:=by
 have:=gJ (λr:aC=>decide (r.kind=0)) l;simpa[tU]using this
theorem VZ (l:List aC):∀n,(jZ l n).length<=l.length+33*l.length*n
 |0=>by have:=Fu l;simpa[jZ]using this
 |n+1=>by
  have h1:=VZ l n;have h2:=Y1 l l (jZ l n);unfold jZ;have:33*l.length*(n+1)=33*l.length*n+33*l.length:=by rw[Nat.mul_succ]
  omega
def MO (l:List aC)(out:List Key)(k:Key):Prop:=∀r,bI l k=some r->∀q∈cD r,(bI l q).isSome=true->q∈out
theorem Bl (l:List aC)(n:Nat)(out:List Key)(k:Key)(h:(bI l k).isSome=true):k∈iI l (n+1) out k:=by
 unfold iI;obtain⟨r,hr⟩:=y7.1 h;rw[hr];simp only;split
 ·assumption
 ·exact IK (EL l n) _ _ _ (by simp)
theorem Bn (l:List aC):∀(n:Nat) (out:List Key) (k:Key),uA l out<n->∀x∈iI l n out k,x∉out->MO l (iI l n out k) x
 |0,_,_,h=>by omega
 |n+1,out,k,h=>by
  intro x hx hno;unfold iI at hx⊢;cases hr:bI l k with
  |none=>rw[hr]at hx;exact absurd hx hno
  |some r=>
   rw[hr]at hx;simp only at hx⊢;by_cases hk:k∈out
   ·rw[aZ hk]at hx;exact absurd hx hno
   ·rw[aT hk]at hx⊢;have hlt:uA l (out++[k])<n:=by
     have:=Mw (l:=l) (out:=out) (k:=k) (mem_keys.2 (by rw[hr];rfl)) hk;omega
    have key:∀(m:List Key) (o:List Key),uA l o<n->(∀q∈m,(bI l q).isSome=true->q∈m.foldl (iI l n) o)/\∀x∈m.foldl (iI l n) o,x∉o->MO l (m.foldl (iI l n) o) x:=by
     intro m;induction m with
     |nil=>exact λo _=>⟨λq hq=>by simp at hq,λx hx hn=>absurd hx hn⟩
     |cons q m ih=>
      intro o ho;rw[pH];have hle:uA l (iI l n o q)<n:=by
       have:=XW (l:=l) (a:=o) (b:=iI l n o q) (λx hx=>EL l n o q x hx);omega
      obtain⟨i1,i2⟩:=ih _ hle;have hsub:∀x,x∈iI l n o q->x∈m.foldl (iI l n) (iI l n o q):=λx hx=>IK (EL l n) m _ x hx;refine⟨λp hp hs=>?_,λx hx hn=>?_⟩
      ·rcases kD.1 hp with e|e
       ·subst e;cases n with
        |zero=>omega
        |succ n=>exact hsub _ (Bl l n o _ hs)
       ·exact i1 p e hs
      ·by_cases hv:x∈iI l n o q
       ·intro r hr p hp hs;exact hsub _ (Bn l n o q ho x hv hn r hr p hp hs)
       ·exact i2 x hx hv
    obtain⟨k1,k2⟩:=key (cD r) (out++[k]) hlt;by_cases hxk:x=k
    ·subst hxk;intro r' hr' q hq hs;rw[hr]at hr';cases hr';exact k1 q hq hs
    ·exact k2 x hx (by simp[hno,hxk])
theorem Gh (l:List aC):∀x∈sY l,MO l (sY l) x:=by
 have key:∀(m o:List Key),(∀x∈o,MO l o x)->∀x∈m.foldl (iI l (l.length+1)) o,MO l (m.foldl (iI l (l.length+1)) o) x:=by
  intro m;induction m with
  |nil=>exact λo h=>h
  |cons q m ih=>
   intro o h;refine ih _ λx hx=>?_;by_cases hn:x∈o
   ·intro r hr p hp hs;exact EL l _ o q p (h x hn r hr p hp hs)
   ·exact Bn l _ o q (by have:=Mx l o;omega) x hx hn
 exact key _ [] (λx hx=>by simp at hx)
theorem Gg {l:List aC}{k:Key}(h:k∈tU l):k∈sY l:=by
 have key:∀(m o:List Key),k∈m->k∈m.foldl (iI l (l.length+1)) o:=by
  have hs:(bI l k).isSome=true:=by
   obtain⟨r,hr,rfl⟩:=fU.1 h;exact mem_keys.1 (fU.2 ⟨r,(mX.1 hr).1,rfl⟩)
  intro m;induction m with
  |nil=>intro o h;simp at h
  |cons q m ih=>
   intro o hm;rcases kD.1 hm with e|e
   ·subst e;exact IK (EL l _) m _ _ (Bl l _ o _ hs)
   ·exact ih _ e
 exact key _ [] h
theorem Gj {l:List aC}(ha:fA l):∀(n:Nat),∀x∈jZ l n,x∈sY l
 |0,x,h=>Gg h
 |n+1,x,h=>by
  have ih:=Gj ha n;have step:∀(m:List aC) (o:List Key),(∀r∈m,r∈l)->(∀x∈o,x∈sY l)->∀x∈m.foldl (nD l) o,x∈sY l:=by
   intro m;induction m with
   |nil=>exact λo _ h=>h
   |cons r m ihm=>
    intro o hm ho;rw[pH];refine ihm _ (λq hq=>hm q (by simp[hq])) ?_;unfold nD;split
    ·rename_i hk;have hr:=D1 ha (hm r (by simp));have hkr:=ho _ hk;have inner:∀(s:List Key) (o:List Key),(∀q∈s,q∈cD r)->(∀x∈o,x∈sY l)->∀x∈s.foldl (lH l) o,x∈sY l:=by
      intro s;induction s with
      |nil=>exact λo _ h=>h
      |cons q s ihs=>
       intro o hs ho;rw[pH];refine ihs _ (λp hp=>hs p (by simp[hp])) ?_;unfold lH;split
       ·rename_i hc;intro x hx;rcases gU.1 hx with e|e
        ·exact ho x e
        ·simp at e;subst e;exact Gh l r.key hkr r hr _ (hs _ (by simp)) hc.1
       ·exact ho
     exact inner _ _ (λ_ h=>h) ho
    ·exact ho
  exact step l _ (λ_ h=>h) ih x h
theorem NT {l:List aC}(h:eB l=0){r:aC}(hr:r∈l):cQ r=0:=by
 have h1:mV l=0:=by
  unfold eB at h;omega
 unfold mV at h1;cases e:l.find? (λr=>!decide (cQ r=0))with
 |none=>
  simp_all
 |some x=>
  grind
theorem Xe {l:List aC}(h:eB l=0):(DB l).Nodup:=by
 unfold eB at h
 grind
theorem zdc {l:List aC}(h:eB l=0){i j:Nat}{a b:aC}(hi:l[i]? =some a)(hj:l[j]? =some b)(hij:j<i)(ha:a.kind=0)(hb:b.kind=0):¬a.port=b.port:=by
 have hn:=Xe h;have e:l=l.take i++a::l.drop (i+1):=by
  have hlt:=(cE.1 hi).1;have:=tP hlt;rw[(cE.1 hi).2]at this;rw[<-this,List.take_append_drop]
 unfold DB at hn
 grind
open Go.AI
def eN (k:Key):Bool:=bG k.kind 3&&fI k.name
def mM (f:Frame):Bool:=
 (decide (f.aD.length<=64)&&decide (f.gone.length<=64)&&decide (f.aP.length<=64)&&decide (f.held.length<=64))
   &&(f.aP.all λm=>bG m.bR 2147483647)&&bG f.aM 2147483647&&bG f.cN 2147483647&&bG f.turn 2147483647&&bG f.err 15
def sH (f:Frame):Frame:=
 if f.type=0 then{f with aM:=0,aP:=[]}
 else if f.type=1 then{f with aM:=0,kind:=0,cN:=0,aD:=[],gone:=[]}
 else if f.type=2 then{f with aM:=0,kind:=0,cN:=0,err:=0,turn:=0,held:=[]}
 else if f.type=3 then{f with aM:=0,turn:=0,held:=[]}
 else{f with aM:=0}
def wF (f:Frame):Bool:=decide (sH f={eV with type:=f.type})
def kN (f:Frame):Bool:=f.gone.all eN&&f.held.all eN&&f.aP.all λm=>eN m.k
def o9 (f:Frame):Bool:=(f.aD.all λr=>decide (r.kind=f.kind))&&f.gone.all λk=>decide (k.kind=f.kind)
def dD (f:Frame):Int:=
 if(bG f.type 3&&bG f.kind 3)=false then 4 else if mM f=false then 3 else if wF f=false then 2 else if kN f=false then 5
 else if¬mV f.aD=0 then mV f.aD else if o9 f=false then 2 else 0
@[simp] def rZ (o:Nonce.Ou):List D:=[iD o.l0,iD o.l1,iD o.l2,iD o.l3,bD o.o0,bD o.o1,bD o.o2,bD o.o3,iD o.m]
structure cW where
 aM:Int
 oL:Bool
 out:Nonce.Ou
 v:View
 stuck:Int
 at_:Int
 deriving DecidableEq
@[simp] def iB (s:cW):List D:=[iD s.aM,bD s.oL]++rZ s.out++q7 s.v++[iD s.stuck,iD s.at_]
structure rP (s:cW):Prop where
 v:Aa s.v
def vV :View:=⟨[],[],0,eV,false⟩
def o7 (aM most:Int):cW:=⟨max 0 (min aM 2147483647),false,Nonce.A6 most,vV,0,0⟩
def nV (v:View):Frame:=⟨0,0,0,0,0,[],[],0,vD v.aP,[]⟩
def pD (v:View):Frame:=⟨3,0,0,0,v.turn,[],[],0,[],v.held⟩
def zM (v:View):Bool:=decide (dD (nV v)=0)&&decide (dD (pD v)=0)
def lC (s:cW):Bool:=
 s.oL&&decide (dD s.v.push=0)&&decide (s.v.push.type=1)&&decide (s.v.push.aM=s.aM)
  &&s.out.nS s.v.push.kind&&decide (s.out.last s.v.push.kind=s.v.push.cN)
def pN (s:cW):Bool:=bG s.aM 2147483647&&decide (0<=s.at_)&&bG s.stuck 15
def gE (s:cW):Bool:=pN s&&Nonce.kF s.out&&zM s.v&&(!s.v.open_||lC s)
def hZ (s:cW):cW:=if gE s then s else o7 s.aM s.out.m
def fE (p:aW):List aC:=dQ (fN p)
def kM (p:aW):Int:=((fN p).bA.length:Int)-1
def wM (p:aW)(v:View)(l:List Mark):View:={v with aP:=pQ p l,held:=if v.turn=0 then(pQ p l).map aC.key else v.held}
def sF (s:cW)(p:aW)(f:Frame):cW×Int:=if s.oL=true then(s,9)else({s with oL:=true,v:=wM p s.v f.aP},0)
def lP (s:cW)(p:aW)(f:Frame):cW×Int:=
 if¬(Nonce.done s.out f.kind f.cN).2=0 then(s,(Nonce.done s.out f.kind f.cN).2)else if s.v.open_=false then(s,15)
 else if(gC s.v f).open_=true then(s,11)else if 64<(gC s.v f).aP.length then(s,3)
 else(⟨s.aM,s.oL,(Nonce.done s.out f.kind f.cN).1,gC s.v f,f.err,kM p⟩,0)
def B6 (s:cW)(f:Frame):cW×Int:=({s with v:=lZ s.v f.turn f.held},0)
def mT (s:cW)(p:aW)(f:Frame):cW×Int:=
 if¬dD f=0 then(s,dD f)else if¬f.aM=s.aM then(s,11)
 else if f.type=0 then sF s p f else if f.type=1 then(s,2)else if f.type=2 then lP s p f else B6 s f
def handle (s:cW)(p:aW)(f:Frame):cW×Int:=mT (hZ s) p f
structure Step where
 kind:Int
 aD:List aC
 gone:List Key
 deriving DecidableEq
@[simp] def CW (s:Step):List D:=[iD s.kind,lD (s.aD.map aF),lD (s.gone.map aQ)]
def uD (l:List aC)(n:Int):List aC:=l.filter λr=>decide (r.kind=n)
def qK (l:List Key)(n:Int):List Key:=l.filter λk=>decide (k.kind=n)
structure dW where
 aD:List aC
 gone:List Key
 reach:List Key
 aP:List aC
 held:List Key
def qV (hv want:List aC)(held:List Key):dW:=⟨iN hv want,kA hv want,(gW want).map aC.key,hv,held⟩
def dW.early (j:dW)(n:Int):Step:=⟨n,(uD j.aD n).filter λr=>decide (r.key∈j.reach),[]⟩
def dW.late (j:dW)(n:Int):Step:=⟨n,uD j.aD n,[]⟩
def dW.off (j:dW)(n:Int):Step:=⟨n,[],qK j.gone n⟩
def dW.zX (j:dW)(k:Key):Bool:=!(decide (k∈j.held)||decide (0<(yK j.aP k).length))
def dW.free (j:dW)(n:Int):Step:=⟨n,[],(qK j.gone n).filter j.zX⟩
def dW.doors (j:dW)(n:Int):Step:=⟨n,uD j.aD n,qK j.gone n⟩
def Step.none (s:Step):Bool:=decide (s.aD.length+s.gone.length=0)
def dW.steps (j:dW):List Step:=[j.early 3,j.early 2,j.early 1,j.doors 0,j.late 3,j.late 2,j.late 1,j.free 1,j.free 2,j.free 3]
def tB (hv want:List aC)(held:List Key):Option Step:=(qV hv want held).steps.find? λs=>!s.none
def jT (s:cW)(x:Step)(n:Int):Frame:=⟨1,s.aM,x.kind,n,0,x.aD,x.gone,0,[],[]⟩
def idle (s:cW)(p:aW):Bool:=!s.oL||s.v.open_|| (!decide (s.stuck=0)&&decide (s.at_=kM p))
def rB (s:cW)(x:Step):cW×List Frame×Int:=
 if(Nonce.push s.out x.kind).2.2=0 then
  ({s with v:=rW s.v (jT s x (Nonce.push s.out x.kind).2.1),out:=(Nonce.push s.out x.kind).1},[jT s x (Nonce.push s.out x.kind).2.1],0)
 else(s,[],(Nonce.push s.out x.kind).2.2)
def kJ (s:cW)(p:aW):cW×List Frame×Int:=
 if idle s p=true then(s,[],0)else
 match tB s.v.aP (fE p) s.v.held with
 |.none=>(s,[],0)
 |.some x=>rB s x
def iL (s:cW)(p:aW):cW×List Frame×Int:=kJ (hZ s) p
def eO (s:cW):List Frame:=if(hZ s).v.open_=true then [(hZ s).v.push]else []
def nC (s:cW)(p:aW):Bool:=(hZ s).oL&& !(hZ s).v.open_&&decide ((hZ s).v.aP=fE p)
theorem Pk {l:List aC}:mV l=0↔∀r∈l,cQ r=0:=by
 unfold mV
 grind
structure Ac (f:Frame):Prop where
 type:bG f.type 3=true
 kind:bG f.kind 3=true
 small:mM f=true
 shaped:wF f=true
 named:kN f=true
 aD:∀r∈f.aD,cQ r=0
 alike:o9 f=true
theorem j9 {f:Frame}:dD f=0↔Ac f:=by
 constructor
 ·intro h;unfold dD at h
  (repeat' split at h)<;>first|omega|skip
  rename_i h1 h2 h3 h4 h5 h6;simp at h1 h2 h3 h4 h5 h6;exact⟨h1.1,h1.2,h2,h3,h4,Pk.1 h5,h6⟩
 ·intro h;unfold dD;have:=Pk.2 h.aD;simp[h.type,h.kind,h.small,h.shaped,h.named,this,h.alike]
theorem sV {f:Frame}(h:mM f=true):f.aD.length<=64/\f.gone.length<=64/\f.aP.length<=64/\f.held.length<=64/\(∀m∈f.aP,bG m.bR 2147483647=true)/\bG f.aM 2147483647=true/\bG f.cN 2147483647=true/\bG f.turn 2147483647=true/\bG f.err 15=true:=by
 simp only[mM,bL,dA,dP]at h;exact⟨h.1.1.1.1.1.1.1.1,h.1.1.1.1.1.1.1.2,h.1.1.1.1.1.1.2,h.1.1.1.1.1.2,h.1.1.1.1.2,h.1.1.1.2,h.1.1.2,h.1.2,h.2⟩
theorem Ny {v:View}:dD (nV v)=0↔v.aP.length<=64/\∀r∈v.aP,bG r.bR 2147483647=true/\eN r.key=true:=by
 rw[j9];constructor
 ·intro h;have h1:=sV h.small;refine⟨by simpa[nV]using h1.2.2.1,λr hr=>⟨?_,?_⟩⟩
  ·exact h1.2.2.2.2.1 ⟨r.key,r.bR⟩ (fU.2 ⟨r,hr,rfl⟩)
  ·have:=h.named;simp only[kN,bL,dP]at this;exact this.2 ⟨r.key,r.bR⟩ (fU.2 ⟨r,hr,rfl⟩)
 ·rintro⟨h1,h2⟩;refine⟨rfl,rfl,?_,rfl,?_,by simp[nV],rfl⟩
  ·simp only[mM,nV,bL,dP];refine⟨⟨⟨⟨⟨⟨⟨⟨by simp,by simp⟩,by simpa using h1⟩,by simp⟩,?_⟩,rfl⟩,rfl⟩,rfl⟩,rfl⟩;intro m hm;obtain⟨r,hr,rfl⟩:=fU.1 hm;exact(h2 r hr).1
  ·simp only[kN,nV,bL,dP];refine⟨⟨by simp,by simp⟩,λm hm=>?_⟩;obtain⟨r,hr,rfl⟩:=fU.1 hm;exact(h2 r hr).2
theorem ZD {v:View}:dD (pD v)=0↔v.held.length<=64/\bG v.turn 2147483647=true/\∀k∈v.held,eN k=true:=by
 rw[j9];constructor
 ·intro h;have h1:=sV h.small;refine⟨h1.2.2.2.1,h1.2.2.2.2.2.2.2.1,λk hk=>?_⟩;have:=h.named;simp only[kN,bL,dP]at this;exact this.1.2 k hk
 ·rintro⟨h1,h2,h3⟩;refine⟨rfl,rfl,?_,rfl,?_,by simp[pD],rfl⟩
  ·simp only[mM,pD,bL,dP];exact⟨⟨⟨⟨⟨⟨⟨⟨by simp,by simp⟩,by simp⟩,by first|exact h1|exact oC h1⟩,by simp⟩,rfl⟩,rfl⟩,h2⟩,rfl⟩
  ·simp only[kN,pD,bL,dP];exact⟨⟨by simp,h3⟩,by simp⟩
structure MK (s:cW):Prop where
 plain:pN s=true
 out:Nonce.kF s.out=true
 hl:s.v.aP.length<=64
 aP:∀r∈s.v.aP,bG r.bR 2147483647=true/\eN r.key=true
 dl:s.v.held.length<=64
 turn:bG s.v.turn 2147483647=true
 held:∀k∈s.v.held,eN k=true
 waits:s.v.open_=true->lC s=true
theorem mQ {s:cW}:gE s=true↔MK s:=by
 constructor
 ·intro h;simp only[gE,zM,bL,dA]at h;obtain⟨⟨⟨h1,h2⟩,h3,h4⟩,h5⟩:=h;rw[Ny]at h3;rw[ZD]at h4;exact⟨h1,h2,h3.1,h3.2,h4.1,h4.2.1,h4.2.2,λh=>by simpa[h]using h5⟩
 ·intro h;simp only[gE,zM,bL,dA];refine⟨⟨⟨h.plain,h.out⟩,Ny.2 ⟨h.hl,h.aP⟩,ZD.2 ⟨h.dl,h.turn,h.held⟩⟩,?_⟩;cases ho:s.v.open_ with
  |false=>rfl
  |true=>simpa using h.waits ho
theorem zhh (n:Int):Nonce.kF (Nonce.A6 n)=true:=by
 have:=Nonce.LZ n;simp only[Nonce.kF,Nonce.A6,Nonce.Ou.rR,bL,Nonce.wE];refine⟨by simp,?_⟩;omega
theorem VH (e m:Int):gE (o7 e m)=true:=by
 rw[mQ];refine⟨?_,zhh m,by simp[o7,vV],by simp[o7,vV],by simp[o7,vV],by simp[o7,vV,bG],by simp[o7,vV],by simp[o7,vV]⟩;simp only[pN,o7,bG,bL];refine⟨⟨⟨?_,?_⟩,by simp⟩,by simp,by simp⟩<;>first|omega| (refine oC ?_;omega)
theorem OA (s:cW):gE (hZ s)=true:=by
 unfold hZ;split
 ·assumption
 ·exact VH _ _
theorem GS {s:cW}(h:gE s=true):hZ s=s:=by simp[hZ,h]
theorem Iq {o:Nonce.Ou}(h:Nonce.kF o=true):Nonce.sZ o=o:=by simp[Nonce.sZ,h]
theorem zbg {r:aC}(h:cQ r=0):bG r.bR 2147483647=true/\eN r.key=true:=by
 cases h1:bG r.kind 3 with
 |false=>simp[cQ,h1]at h
 |true=>
  cases h2:fI r.name with
  |false=>simp[cQ,h1,h2]at h
  |true=>
   cases h3:fO r with
   |false=>simp[cQ,h1,h2,h3]at h
   |true=>
    refine⟨?_,by simp[eN,aC.key,h1,h2]⟩;simp only[fO,bL]at h3;exact h3.1.1.1.1.1
theorem zhj {o:Nonce.Ou}(h:Nonce.kF o=true)(k n:Int):Nonce.kF (Nonce.done o k n).1=true:=by
 simp only[Nonce.done,Iq h];simp only[Nonce.CA];split
 ·exact h
 ·split
  ·exact h
  ·simp only[Nonce.Ou.set,Nonce.Ou.last];simp only[Nonce.kF,Nonce.Ou.rR]at h⊢
   (repeat' split)<;>simp_all
theorem zfA {p:aW}{l:List Mark}{x:aC}(h:x∈pQ p l):∃m∈l,x.key=m.k/\x.bR=m.bR:=by
 rcases XJ h with h|h
 ·cases h
 ·obtain⟨m,hm,rfl⟩:=fU.1 h;exact⟨m,hm,Jy p m,zeE p m⟩
theorem zeJ (p:aW):0<=kM p:=by
 have:0<(fN p).bA.length:=by
  unfold fN;split
  ·simp[fZ]
  ·grind
 unfold kM;omega
theorem lI {n m:Int}:bG n m=true↔0<=n/\n<=m:=by simp[bG]
theorem Si {v:View}{f:Frame}{x:aC}(h:x∈(gC v f).aP):x∈v.aP\/(v.open_=true/\x∈v.push.aD):=by
 unfold gC at h;split at h
 ·exact Or.inl h
 ·rename_i ho;split at h
  ·exact Or.inl h
  ·simp only at h;split at h
   ·rcases Lp h with h|h
    all_goals simp_all
   ·exact Or.inl h
theorem Qb (v:View)(t:Int)(h:List Key):(lZ v t h).held=(if v.turn<t then h else v.held)/\(lZ v t h).turn=(if v.turn<t then t else v.turn):=by
 unfold lZ;split<;>simp
theorem Z3 (v:View)(f:Frame):((gC v f).held=v.held/\(gC v f).turn=v.turn)\/(v.turn<f.turn/\(gC v f).held=f.held/\(gC v f).turn=f.turn):=by
 unfold gC;split
 ·simp_all
 ·split
  ·simp_all
  ·have:=Qb ⟨v.aP,v.held,v.turn,eV,false⟩ f.turn f.held
   grind
theorem LD {s:cW}(p:aW)(f:Frame)(hs:gE s=true):gE (handle s p f).1=true:=by
 unfold handle;rw[GS hs];unfold mT;have S:=mQ.1 hs;split
 ·exact hs
 ·rename_i hf;have F:=j9.1 (M3.1 hf);have L:=sV F.small;split
  ·exact hs
  ·split
   ·unfold sF;split
    ·exact hs
    ·rename_i hg;have hno:s.v.open_=false:=by
      cases ho:s.v.open_ with
      |false=>rfl
      |true=>
       have:=S.waits ho;simp only[lC,bL]at this;exact absurd this.1.1.1.1.1 hg
     have hk:∀r∈pQ p f.aP,bG r.bR 2147483647=true/\eN r.key=true:=by
      intro r hr;obtain⟨m,hm,h1,h2⟩:=zfA hr;have hn:=F.named;simp only[kN,bL,dP]at hn;rw[h1,h2];exact⟨L.2.2.2.2.1 m hm,hn.2 m hm⟩
     have hl:(pQ p f.aP).length<=64:=dH (K9 p _) L.2.2.1;rw[mQ];refine⟨S.plain,S.out,hl,hk,?_,S.turn,?_,?_⟩
     ·simp only[wM];split
      ·simpa using hl
      ·exact S.dl
     ·simp only[wM];split
      ·intro k hk';obtain⟨r,hr,rfl⟩:=fU.1 hk';exact(hk r hr).2
      ·exact S.held
     ·intro ho;rw[show({s with oL:=true,v:=wM p s.v f.aP}:cW).v.open_=s.v.open_ from rfl,hno]at ho;cases ho
   ·split
    ·exact hs
    ·split
     ·unfold lP;split
      ·exact hs
      ·split
       ·exact hs
       ·rename_i hop;split
        ·exact hs
        ·rename_i hcl;split
         ·exact hs
         ·rename_i h64;rw[mQ];have hw:=S.waits (by simpa using hop);simp only[lC,bL,dA]at hw;have P:=j9.1 hw.1.1.1.1.2;have hp:=S.plain;simp only[pN,bL]at hp;refine⟨?_,zhj S.out _ _,by simpa using h64,?_,?_,?_,?_,?_⟩
          ·simp only[pN,bL,dA];exact⟨⟨hp.1.1,zeJ p⟩,L.2.2.2.2.2.2.2.2⟩
          ·intro r hr;rcases Si hr with h|⟨_,h⟩
           ·exact S.aP r h
           ·exact zbg (P.aD r h)
          ·rcases Z3 s.v f with h|h
           ·rw[h.1];exact S.dl
           ·rw[h.2.1];exact L.2.2.2.1
          ·rcases Z3 s.v f with h|h
           ·rw[h.2];exact S.turn
           ·rw[h.2.2];exact L.2.2.2.2.2.2.2.1
          ·rcases Z3 s.v f with h|h
           ·rw[h.1];exact S.held
           ·rw[h.2.1];have hn:=F.named;simp only[kN,bL,dP]at hn;exact hn.1.2
          ·intro ho;exact absurd ho hcl
     ·unfold B6;rw[mQ];have hd:=Qb s.v f.turn f.held;refine⟨S.plain,S.out,by simpa using S.hl,by simpa using S.aP,?_,?_,?_,?_⟩
      ·simp only[hd.1];split
       ·exact L.2.2.2.1
       ·exact S.dl
      ·simp only[hd.2];split
       ·exact L.2.2.2.2.2.2.2.1
       ·exact S.turn
      ·simp only[hd.1];split
       ·have hn:=F.named;simp only[kN,bL,dP]at hn;exact hn.1.2
       ·exact S.held
      ·intro ho;have:=S.waits (by simpa using ho);simpa[lC]using this

theorem zg9 {s:cW}(p:aW)(f:Frame)(hs:gE s=true):(handle s p f).1.v.push=s.v.push\/(handle s p f).1.v.push=eV:=by
 unfold handle;rw[GS hs];unfold mT sF lP B6 wM
 (repeat' split)<;>first|exact Or.inl rfl|skip
 ·rcases zkW s.v f with e|e
  ·exact Or.inl e
  ·exact Or.inr e
 ·exact Or.inl (ziw _ _ _)
theorem Rm (n:Int):(if 1<(if 2147483647<n then 2147483647 else n)then(if 2147483647<n then(2147483647:Int)else n)else 1)=Nonce.bnd n:=by
 unfold Nonce.bnd;omega
theorem zhH {l:List Int}{k:Nat}{x:Int}(h:(l.take k).all (λe=>decide (e=0))=true)(hr:l[k]? =some x)(hx:¬x=0):(l.find? λe=>!decide (e=0))=some x:=
 FO (k:=k) (x:=x) (by simpa using h) hr (by simpa using hx)
theorem zhI {l:List Int}(h:l.all (λe=>decide (e=0))=true):(l.find? λe=>!decide (e=0))=none:=
 IM (by simpa using h)
theorem I1 {α:Type}(l:List α)(p:α->Bool):(l.any λx=>!p x)= !l.all p:=by grind
theorem zj9 {f:Frame}(h:fJ f):fJ (sH f):=by
 have h0:cL []:=⟨by simp,by simp⟩;unfold sH
 (repeat' split)<;>constructor<;>first|exact h.aD|exact h.gone|exact h.aP|exact h.held|exact h0|simp
theorem Zd (i:Nonce.Nn)(h:(decide ((if 0<(if i.m<i.l0 then i.m else i.l0)then(if i.m<i.l0 then i.m else i.l0)else 0)=i.l0)&&(decide ((if 0<(if i.m<i.l1 then i.m else i.l1)then(if i.m<i.l1 then i.m else i.l1)else 0)=i.l1)&&(decide ((if 0<(if i.m<i.l2 then i.m else i.l2)then(if i.m<i.l2 then i.m else i.l2)else 0)=i.l2)&&decide ((if 0<(if i.m<i.l3 then i.m else i.l3)then(if i.m<i.l3 then i.m else i.l3)else 0)=i.l3))))=true):decide (i.m=Nonce.bnd i.m)=Nonce.kV i:=by
 obtain⟨a,b,c,d,m⟩:=i;simp at h;obtain⟨h0,h1,h2,h3⟩:=h;rw[tQ];dsimp only at h0 h1 h2 h3⊢;rw[Nonce.wE];rw[decide_eq_true_iff];constructor
 ·intro hm0;have hm:=Nonce.LZ m;omega
 ·intro hm;unfold Nonce.bnd;omega
theorem Ze (i:Nonce.Nn)(h:(decide ((if 0<(if i.m<i.l0 then i.m else i.l0)then(if i.m<i.l0 then i.m else i.l0)else 0)=i.l0)&&(decide ((if 0<(if i.m<i.l1 then i.m else i.l1)then(if i.m<i.l1 then i.m else i.l1)else 0)=i.l1)&&(decide ((if 0<(if i.m<i.l2 then i.m else i.l2)then(if i.m<i.l2 then i.m else i.l2)else 0)=i.l2)&&decide ((if 0<(if i.m<i.l3 then i.m else i.l3)then(if i.m<i.l3 then i.m else i.l3)else 0)=i.l3))))=false):Nonce.kV i=false:=by
 rw[TX];intro hs;rw[Nonce.wE]at hs
 grind
theorem zhK (f:Frame):(([if(bG f.type 3&&bG f.kind 3)=true then 0 else 4,if mM f=true then 0 else 3,if wF f=true then 0 else 2,if kN f=true then 0 else 5,mV f.aD,if o9 f=true then 0 else 2]:List Int).find? λe=>!decide (e=0)).getD 0=dD f:=by
 unfold dD;cases h1:(bG f.type 3&&bG f.kind 3)<;>cases h2:mM f<;>cases h3:wF f<;>cases h4:kN f<;>cases h6:o9 f<;>by_cases h5:mV f.aD=0<;>simp[h5]
theorem Px (n:Int):(if 0<(if 2147483647<n then 2147483647 else n)then(if 2147483647<n then(2147483647:Int)else n)else 0)=max 0 (min n 2147483647):=by omega
theorem Nx (v:View)(h:v.aP.length<=9223372036854775807):fJ (nV v):=⟨⟨by simp[nV],by simp[nV]⟩,by simp[nV],by simpa[nV]using h,by simp[nV]⟩
theorem VU {n:Int}(h:bG n 3=true):n=0\/n=1\/n=2\/n=3:=by
 simp only[bG,bL,dA]at h;omega
theorem O9 {f:Frame}(h:dD f=0):f.kind=0\/f.kind=1\/f.kind=2\/f.kind=3:=VU (j9.1 h).kind
theorem Gu {f:Frame}(h:dD f=0):f.type=0\/f.type=1\/f.type=2\/f.type=3:=VU (j9.1 h).type
structure I8 (hv want:List aC)(held:List Key)(x:Step):Prop where
 kind:x.kind=0\/x.kind=1\/x.kind=2\/x.kind=3
 aD:∀r∈x.aD,r∈want/\r.kind=x.kind
 gone:∀k∈x.gone,k∈hv.map aC.key/\k.kind=x.kind
 al:x.aD.length<=want.length
 gl:x.gone.length<=hv.length
 some:0<x.aD.length+x.gone.length
 free:¬x.kind=0->∀k∈x.gone,k∉held/\(yK hv k).length=0
theorem Lq {l:List aC}{n:Int}{r:aC}:r∈uD l n↔r∈l/\r.kind=n:=by simp[uD]
theorem Lr {l:List Key}{n:Int}{k:Key}:k∈qK l n↔k∈l/\k.kind=n:=by simp[qK]
theorem RS (a b:List aC):(iN a b).length<=b.length:=gJ _ _
theorem RR (a b:List aC):(kA a b).length<=a.length:=dH (gJ _ _) (by simp)
theorem LA (l:List aC)(n:Int):(uD l n).length<=l.length:=gJ _ _
theorem QT (l:List Key)(n:Int):(qK l n).length<=l.length:=gJ _ _
theorem zeS {hv want:List aC}{held:List Key}{x:Step}(h:tB hv want held=.some x):I8 hv want held x:=by
 have hs:=List.find?_some h;have hm:=List.mem_of_find?_eq_some h;have h0:0<x.aD.length+x.gone.length:=by
  simp only[Step.none,EK,JH]at hs;omega
 have hA:∀r n,r∈uD (iN hv want) n->r∈want/\r.kind=n:=λr n hr=>⟨(mX.1 (Lq.1 hr).1).1,(Lq.1 hr).2⟩;have hG:∀k n,k∈qK (kA hv want) n->k∈hv.map aC.key/\k.kind=n:=λk n hk=>⟨(mX.1 (Lr.1 hk).1).1,(Lr.1 hk).2⟩;have lA:∀n,(uD (iN hv want) n).length<=want.length:=λn=>dH (LA _ _) (RS _ _);have lG:∀n,(qK (kA hv want) n).length<=hv.length:=λn=>dH (QT _ _) (RR _ _);have early:∀n,(n=0\/n=1\/n=2\/n=3)->x=(qV hv want held).early n->I8 hv want held x:=by
  rintro n hn rfl;exact⟨hn,λr hr=>hA r n (mX.1 hr).1,λk hk=>(by cases hk),dH (gJ _ _) (lA n),y8 _,h0,λ_ k hk=>(by cases hk)⟩
 have late:∀n,(n=0\/n=1\/n=2\/n=3)->x=(qV hv want held).late n->I8 hv want held x:=by
  rintro n hn rfl;exact⟨hn,λr hr=>hA r n hr,λk hk=>(by cases hk),lA n,y8 _,h0,λ_ k hk=>(by cases hk)⟩
 have free:∀n,(n=0\/n=1\/n=2\/n=3)->x=(qV hv want held).free n->I8 hv want held x:=by
  rintro n hn rfl;refine⟨hn,λr hr=>(by cases hr),λk hk=>hG k n (mX.1 hk).1,y8 _,dH (gJ _ _) (lG n),h0,λ_ k hk=>?_⟩;have:=(mX.1 hk).2;simp only[dW.zX,EK,M4]at this;have h1:=pG this.1;have h2:=pG this.2;simp only[qV]at h1 h2;exact⟨h1,by omega⟩
 simp only[dW.steps,kD,List.not_mem_nil,or_false]at hm;rcases hm with hm|hm|hm|hm|hm|hm|hm|hm|hm|hm
 ·exact early 3 (by simp) hm
 ·exact early 2 (by simp) hm
 ·exact early 1 (by simp) hm
 ·subst hm;exact⟨Or.inl rfl,λr hr=>hA r 0 hr,λk hk=>hG k 0 hk,lA 0,lG 0,h0,λh=>absurd rfl h⟩
 ·exact late 3 (by simp) hm
 ·exact late 2 (by simp) hm
 ·exact late 1 (by simp) hm
 ·exact free 1 (by simp) hm
 ·exact free 2 (by simp) hm
 ·exact free 3 (by simp) hm
theorem zgf {n:Int}(h:n=0\/n=1\/n=2\/n=3):bG n 3=true:=by
 rcases h with rfl|rfl|rfl|rfl<;>rfl
theorem zgg {n:Int}(h:n=0\/n=1\/n=2\/n=3):Nonce.iR n=true:=by
 rcases h with rfl|rfl|rfl|rfl<;>rfl
theorem Gx {o:Nonce.Ou}(h:Nonce.kF o=true){k:Int}(hk:k=0\/k=1\/k=2\/k=3)(he:(Nonce.push o k).2.2=0):
  Nonce.kF (Nonce.push o k).1=true/\bG (Nonce.push o k).2.1 2147483647=true/\(Nonce.push o k).1.nS k=true/\(Nonce.push o k).1.last k=(Nonce.push o k).2.1:=by
 simp only[Nonce.push,Iq h]at he⊢;obtain⟨a,b,c,d,x,y,z,t,m⟩:=o;simp only[Nonce.kF,Nonce.Ou.rR,bL,Nonce.wE]at h;simp only[Nonce.BB,zgg hk]at he⊢;rcases hk with rfl|rfl|rfl|rfl<;>simp only[Nonce.Ou.nS,Nonce.Ou.last,Nonce.Ou.set]at he⊢<;>
  ((repeat' split at he)<;>first| (exfalso;revert he;decide)|skip)<;>
  simp_all[Nonce.kF,Nonce.Ou.rR,Nonce.wE,bG]<;>omega
theorem Gy {hv want:List aC}{held:List Key}{x:Step}{s:cW}{n:Int}(hx:I8 hv want held x)(hS:MK s)(hv':hv=s.v.aP)(hw:eB want=0)(hn:bG n 2147483647=true):dD (jT s x n)=0:=by
 subst hv';have hwl:want.length<=64:=by
  unfold eB at hw;split at hw
  ·cases hw
  ·omega
 have hp:=hS.plain;simp only[pN,bL]at hp;have hA:∀r∈x.aD,cQ r=0:=λr hr=>NT hw (hx.aD r hr).1;rw[j9];refine⟨rfl,zgf hx.kind,?_,rfl,?_,hA,?_⟩
 ·have h1:=hx.al;have h2:=hx.gl;have h3:=hS.hl;simp only[mM,jT,bL];have a1:x.aD.length<=64:=by omega
  have a2:x.gone.length<=64:=by omega
  exact⟨⟨⟨⟨⟨⟨⟨⟨oC a1,oC a2⟩,by simp⟩,by simp⟩,by simp⟩,hp.1.1⟩,hn⟩,rfl⟩,rfl⟩
 ·simp only[kN,jT,bL,dP];refine⟨⟨λk hk=>?_,by simp⟩,by simp⟩;obtain⟨r,hr,rfl⟩:=fU.1 (hx.gone k hk).1;exact(hS.aP r hr).2
 ·simp only[o9,jT,bL,dP];exact⟨λr hr=>oC (hx.aD r hr).2,λk hk=>oC (hx.gone k hk).2⟩
theorem za0 {s:cW}{x:Step}{want:List aC}(hS:MK s)(hx:I8 s.v.aP want s.v.held x)(hw:eB want=0)(hg:s.oL=true)(he:(Nonce.push s.out x.kind).2.2=0):
  gE {s with v:=rW s.v (jT s x (Nonce.push s.out x.kind).2.1),out:=(Nonce.push s.out x.kind).1}=true:=by
 obtain⟨g1,g2,g3,g4⟩:=Gx hS.out hx.kind he;have hf:=Gy hx hS rfl hw g2;rw[mQ];refine⟨hS.plain,g1,hS.hl,hS.aP,hS.dl,hS.turn,hS.held,λ_=>?_⟩;simp only[lC,rW,bL];exact⟨⟨⟨⟨⟨hg,oC hf⟩,oC rfl⟩,oC rfl⟩,g3⟩,oC g4⟩
theorem KT {p:aW}(hp:gN p=true):eB (fE p)=0:=by
 unfold fE;rw[GZ hp];exact(VI hp).GN
theorem Hd {s:cW}(hs:gE s=true)(p:aW):
  (iL s p).1=s/\(iL s p).2.1=[]\/
  ∃x,tB s.v.aP (fE p) s.v.held=.some x/\s.v.open_=false/\s.oL=true/\(Nonce.push s.out x.kind).2.2=0/\
   iL s p=({s with v:=rW s.v (jT s x (Nonce.push s.out x.kind).2.1),out:=(Nonce.push s.out x.kind).1},[jT s x (Nonce.push s.out x.kind).2.1],0):=by
 unfold iL;rw[GS hs];unfold kJ;by_cases hi:idle s p=true
 ·simp_all
 rw[aT hi];simp only[idle,not_or,Bool.not_eq_true,Bool.not_eq_false']at hi;cases hn:tB s.v.aP (fE p) s.v.held with
 |none=>exact Or.inl ⟨rfl,rfl⟩
 |some x=>
  unfold rB
  grind
theorem Iu {s:cW}(S:MK s)(ho:s.v.open_=true):s.v.aP.length+s.v.push.aD.length<=1000000/\s.v.push.gone.length<=9223372036854775807:=by
 have hw:=S.waits ho;simp only[lC,bL,dA]at hw;have P:=j9.1 hw.1.1.1.1.2;have L:=sV P.small;have:=S.hl;omega
theorem ZC {v:View}(h:v.held.length<=9223372036854775807):fJ (pD v):=⟨⟨by simp[pD],by simp[pD]⟩,by simp[pD],by simp[pD],h⟩
theorem Am :fJ eV:=⟨⟨by simp[eV],by simp[eV]⟩,by simp[eV],by simp[eV],by simp[eV]⟩
theorem Aj :Aa vV:=⟨⟨by simp[vV],by simp[vV]⟩,by simp[vV],Am⟩
theorem OB {s:cW}(h:rP s):rP (hZ s):=by
 unfold hZ;split
 ·exact h
 ·exact⟨Aj⟩
structure zlr (s:cW)(p:aW)(f:Frame)(t:cW):Prop where
 Fe:dD f=0
 type:f.type=1
 aM:f.aM=s.aM
 many:0<f.aD.length+f.gone.length
 al:f.aD.length<=64
 gl:f.gone.length<=64
 aD:∀r∈f.aD,bI (fE p) r.key=some r
 gone:¬f.kind=0->∀k∈f.gone,k∉s.v.held/\(yK s.v.aP k).length=0
 ok:cL (fE p)->fJ f
 Bv:gE t=true
 topen:t.v.open_=true
 Vo:t.v.push=f
 Vk:t.v.aP=s.v.aP/\t.v.held=s.v.held
 marks:f.aP=[]
theorem za1 {s:cW}{p:aW}(hs:gE s=true)(hp:gN p=true){x:Step}(c1:tB s.v.aP (fE p) s.v.held=.some x)(c3:s.oL=true)(c4:(Nonce.push s.out x.kind).2.2=0):
  zlr s p (jT s x (Nonce.push s.out x.kind).2.1) {s with v:=rW s.v (jT s x (Nonce.push s.out x.kind).2.1),out:=(Nonce.push s.out x.kind).1}:=by
 have S:=mQ.1 hs;have hx:=zeS c1;have hw:=KT hp;obtain⟨g1,g2,g3,g4⟩:=Gx S.out hx.kind c4;have hf:=Gy hx S rfl hw g2;have L:=sV (j9.1 hf).small;refine⟨hf,rfl,rfl,hx.some,L.1,L.2.1,λr hr=>D1 (xA hw) (hx.aD r hr).1,hx.free,λho=>⟨⟨by have:=L.1;omega,λr hr=>ho.all r (hx.aD r hr).1⟩,by have:=L.2.1;omega,by simp[jT],by simp[jT]⟩,za0 S hx hw c3 c4,rfl,rfl,⟨rfl,rfl⟩,rfl⟩
inductive uM (l:List aC):Key->Prop
 |root {r:aC} (h:r∈l) (h0:r.kind=0):uM l r.key
 |step {k:Key} {r:aC} {q:Key} (h:uM l k) (hr:bI l k=some r) (hq:q∈cD r) (hs:(bI l q).isSome=true):uM l q
theorem Bk (l:List aC):∀(n:Nat) (out:List Key) (k:Key),(∀x∈out,uM l x)->((bI l k).isSome=true->uM l k)->∀x∈iI l n out k,uM l x
 |0,out,k,h,_,x,hx=>h x hx
 |n+1,out,k,h,hk,x,hx=>by
  unfold iI at hx;split at hx
  ·exact h x hx
  ·rename_i r hr;split at hx
   ·exact h x hx
   ·have hkk:=hk (by rw[hr];rfl);have key:∀(m o:List Key),(∀q∈m,q∈cD r)->(∀x∈o,uM l x)->∀x∈m.foldl (iI l n) o,uM l x:=by
     intro m;induction m with
     |nil=>exact λo _ h=>h
     |cons q m ih=>
      intro o hm ho;rw[pH];exact ih _ (λp hp=>hm p (by simp[hp])) (Bk l n o q ho (λhs=>.step hkk hr (hm q (by simp)) hs))
    refine key _ _ (λ_ h=>h) (λy hy=>?_) x hx;rcases gU.1 hy with e|e
    ·exact h y e
    ·rw[yA.1 e];exact hkk
theorem zcv {l:List aC}{k:Key}:k∈sY l↔uM l k:=by
 constructor
 ·have key:∀(m o:List Key),(∀q∈m,uM l q)->(∀x∈o,uM l x)->∀x∈m.foldl (iI l (l.length+1)) o,uM l x:=by
   intro m;induction m with
   |nil=>exact λo _ h=>h
   |cons q m ih=>intro o hm ho;rw[pH];exact ih _ (λp hp=>hm p (by simp[hp])) (Bk l _ o q ho λ_=>hm q (by simp))
  refine key _ _ (λq hq=>?_) (λx hx=>by simp at hx) k;obtain⟨r,hr,rfl⟩:=fU.1 hq;obtain⟨h1,h2⟩:=mX.1 hr;exact .root h1 (by simpa using h2)
 ·intro h;induction h with
  |root h h0=>exact Gg (fU.2 ⟨_,mX.2 ⟨h,by simpa using h0⟩,rfl⟩)
  |step _ hr hq hs ih=>exact Gh l _ ih _ hr _ hq hs
theorem zco {r:aC}{q:Key}(h:q∈cD r):q.kind=r.kind+1:=by
 unfold cD at h;split at h
 ·rename_i hs;obtain⟨_,_,_,h4,_,_⟩:=xC hs;rw[LM]at h;have hasc:i7 (nG r):=by unfold nG;split<;>simp[i7]
  rw[(BW _ hasc).2]at h;rcases h with h|h
  ·unfold nG at h;simp_all
  ·obtain⟨w,hw,rfl⟩:=fU.1 h;obtain⟨x,hx,_⟩:=List.mem_flatMap.1 (mX.1 hw).1;have hne:¬r.rules.length=0:=by grind
   simp only[gK,jC,sO,dA]at h4;simp_all
 ·simp at h
section
variable {H W : List aC} {held : List Key} {x : Step}
end
theorem vZ {l:List aC}(h:eB l=0):l.length<=64:=by
 unfold eB at h;split at h
 ·simp at h
 ·omega
section
variable {H W : List aC} {held : List Key} {x : Step}
end
structure Cache where
 cap:Int
 l:List aC
 deriving DecidableEq
@[simp] def l6 (c:Cache):List D:=[iD c.cap,lD (c.l.map aF)]
def r9 (n:Int):Cache:=⟨n9 n,[]⟩
def jU (cap:Int)(l:List aC):Int:=if¬eB l=0 then eB l else if cap<l.length then 8 else mO l
def rA (c:Cache):Bool:=decide (c.cap=n9 c.cap)&&decide (jU c.cap c.l=0)
def oU (c:Cache):Cache:=if rA c then c else r9 c.cap
def tI (c:Cache)(aD:List aC)(gone:List Key):Cache×Int:=
 if jU c.cap (iC c.l aD gone)=0 then(⟨c.cap,iC c.l aD gone⟩,0)else(c,jU c.cap (iC c.l aD gone))
def tJ (c:Cache)(aD:List aC)(gone:List Key):Cache×Int:=tI (oU c) aD gone
def rU (c:Cache):List aC:=gW (oU c).l
structure kS where
 c:Cache
 ready:Bool
 shown:List aC
 deriving DecidableEq
@[simp] def sQ (w:kS):List D:=l6 w.c++[bD w.ready,lD (w.shown.map aF)]
def tX (n:Int):kS:=⟨r9 n,false,[]⟩
def oV (w:kS):Bool:=rA w.c&&decide (w.shown=rU w.c)&&(w.ready||decide (w.shown.length=0))
def p8 (w:kS):kS:=if oV w then w else tX w.c.cap
def uR (w:kS)(c:Cache):kS×Bool:=
 if rU c=w.shown then(⟨c,w.ready,w.shown⟩,false)else(⟨c,true,rU c⟩,true)
def sR (w:kS)(aD:List aC)(gone:List Key):kS×Bool×Int:=
 if¬(tJ w.c aD gone).2=0 then(w,false,(tJ w.c aD gone).2)
 else((uR w (tJ w.c aD gone).1).1,(uR w (tJ w.c aD gone).1).2,0)
def lU (w:kS)(aD:List aC)(gone:List Key):kS×Bool×Int:=sR (p8 w) aD gone
structure dB where
 id:Int
 pins:Int
 l:List aC
 deriving DecidableEq
@[simp] def iQ (s:dB):List D:=[iD s.id,iD s.pins,lD (s.l.map aF)]
structure cM where
 next:Int
 aR:List dB
 deriving DecidableEq
@[simp] def fY (p:cM):List D:=[iD p.next,lD (p.aR.map iQ)]
def eM (next:Int):Int->List dB->Bool
 |_,[]=>true
 |a,s::r=>decide (a+1<=s.id)&&decide (s.id<=next)&&decide ((if r=[]then 0 else 1)<=s.pins)&&decide (s.pins<=10000)&&eM next s.id r
def jR (p:cM):Bool:=eM p.next 0 p.aR&&bG p.next 2147483647&&decide (p.aR.length<=1000)
def eY (p:cM):cM:=if jR p then p else⟨0,[]⟩
def uB (p:cM):List dB:=p.aR.filter λs=>!decide (s.pins=0)
def uZ (p:cM)(l:List aC):cM×Int×Int:=
 if p.next=2147483647 then(p,0,14)else if 1000<=(uB p).length then(p,0,8)
 else(⟨p.next+1,uB p++[⟨p.next+1,0,l⟩]⟩,p.next+1,0)
def nR (p:cM)(l:List aC):cM×Int×Int:=uZ (eY p) l
def wR (p:cM):Option dB:=(eY p).aR.getLast?
def LC (p:cM):List Key:=((p.aR.flatMap (·.l)).map aC.key).foldl iW []
def gI (p:cM):List Key:=LC (eY p)
@[simp] def zeP (i:Nonce.Nn):List D:=[iD i.l0,iD i.l1,iD i.l2,iD i.l3,iD i.m]
structure iV where
 (e0 e1 e2 e3:Int)
 deriving DecidableEq
@[simp] def zh2 (e:iV):List D:=[iD e.e0,iD e.e1,iD e.e2,iD e.e3]
def iV.get (e:iV)(k:Int):Int:=if k=0 then e.e0 else if k=1 then e.e1 else if k=2 then e.e2 else e.e3
def iV.set (e:iV)(k v:Int):iV:=if k=0 then{e with e0:=v}else if k=1 then{e with e1:=v}else if k=2 then{e with e2:=v}else{e with e3:=v}
def gL (n:Int):Bool:=!bG n 15
structure bS where
 aM:Int
 turn:Int
 up:Bool
 iT:Nonce.Nn
 fS:iV
 w:kS
 p:cM
 deriving DecidableEq
@[simp] def dU (s:bS):List D:=[iD s.aM,iD s.turn,bD s.up]++zeP s.iT++zh2 s.fS++sQ s.w++fY s.p
def r8 (limit most:Int):bS:=⟨0,0,false,Nonce.uS most,⟨0,0,0,0⟩,tX limit,⟨0,[]⟩⟩
def wG (p:cM):Bool:=decide (dD ⟨3,0,0,0,0,[],[],0,[],gI p⟩=0)
def wU (s:bS):Bool:=match wR s.p with
 |none=>!s.w.ready
 |some c=>s.w.ready&&decide (c.l=s.w.shown)
def dI (s:bS):Bool:=
 (bG s.aM 2147483647&&bG s.turn 2147483647&& !(gL s.fS.e0||gL s.fS.e1||gL s.fS.e2||gL s.fS.e3))
   &&Nonce.kV s.iT&&oV s.w&&jR s.p&&wG s.p&&wU s
def fF (s:bS):bS:=if dI s then s else r8 s.w.c.cap s.iT.m
def nW (s:bS):Bool:=decide (s.turn=2147483647)
def oT (s:bS):bS:={s with turn:=s.turn+1}
def DT (s:bS):Frame:=⟨0,s.aM,0,0,0,[],[],0,vD s.w.c.l,[]⟩
def ZE (s:bS):Frame:=⟨3,s.aM,0,0,s.turn,[],[],0,[],gI s.p⟩
def z8 (s:bS)(aM:Int):bS×List Frame×Int:=
 if aM<=s.aM\/2147483647<aM then(s,[],11)else if nW s then(s,[],14)
 else let t:bS:=oT {s with aM:=aM,up:=true,iT:=Nonce.uS s.iT.m,fS:=⟨0,0,0,0⟩}
  (t,[DT t,ZE t],0)
def l5 (s:bS)(aM:Int):bS×List Frame×Int:=z8 (fF s) aM
def rY (s:bS)(f:Frame):Int:=
 if s.up=false then 12 else if¬dD f=0 then dD f else if¬f.aM=s.aM then 11 else if¬f.type=1 then 15 else 0
def rN (s:bS)(f:Frame):bS×List Frame:=
 (oT s,[⟨2,f.aM,f.kind,f.cN,s.turn+1,[],[],s.fS.get f.kind,[],gI s.p⟩])
def q9 (s:bS)(f:Frame):bS×Int:=
 let w:=lU s.w f.aD f.gone
 let q:=nR s.p w.1.shown
 if w.2.1=true/\¬q.2.2=0 then(s,q.2.2)else
 let p:=if w.2.1=true then q.1 else s.p
 if wG p=false then({s with fS:=s.fS.set f.kind 8},0)
 else({s with w:=w.1,p:=p,fS:=s.fS.set f.kind w.2.2},0)
def tS (s:bS)(f:Frame):bS×List Frame×Int:=
 if¬rY s f=0 then(s,[],rY s f)else
 let i:=Nonce.take s.iT f.kind f.cN
 if i.2=0 then
  if nW s then(s,[],14)else
  if¬(q9 s f).2=0 then(s,[],(q9 s f).2)else
  let t:={(q9 s f).1 with iT:=i.1}
  if nW s then(s,[],14)else((rN t f).1,(rN t f).2,0)
 else if i.2=9 then
  if nW s then(s,[],14)else((rN s f).1,(rN s f).2,9)
 else(s,[],i.2)
def qA (s:bS)(f:Frame):bS×List Frame×Int:=tS (fF s) f
def uW (s:bS):Option dB:=wR (fF s).p
theorem XG {cap:Int}{l:List aC}:jU cap l=0↔eB l=0/\(l.length:Int)<=cap/\mO l=0:=by
 unfold jU;omega
theorem C4 {c:Cache}:rA c=true↔c.cap=n9 c.cap/\eB c.l=0/\(c.l.length:Int)<=c.cap/\mO c.l=0:=by
 simp only[rA,bL,dA,XG]
theorem En (n:Int):rA (r9 n)=true:=by
 rw[C4];have:=R9 n;exact⟨(ZO n).symm,show eB []=0 by decide+kernel,by simp[r9,this.1],Dy⟩
theorem U5 (c:Cache):rA (oU c)=true:=by
 unfold oU;split
 ·assumption
 ·exact En _
theorem KC {c:Cache}(h:rA c=true):oU c=c:=by simp[oU,h]
theorem Sc (c:Cache)(a:List aC)(g:List Key):rA (tJ c a g).1=true:=by
 have h:=U5 c;unfold tJ tI;split
 ·rename_i h1;rw[C4]at h⊢;exact⟨h.1,XG.1 h1⟩
 ·exact h
theorem zcw :gW []=[]:=rfl
theorem El (n:Int):oV (tX n)=true:=by
 have h:=En n;simp only[oV,tX,rU,KC h,h,bL,sO,dA];exact⟨by simp[r9,zcw],.inr rfl⟩
theorem Zf (w:kS):oV (p8 w)=true:=by
 unfold p8;split
 ·assumption
 ·exact El _
theorem Zh {w:kS}(h:oV w=true):p8 w=w:=by simp[p8,h]
theorem G1 {w:kS}:oV w=true↔rA w.c=true/\w.shown=gW w.c.l/\(w.ready=true\/w.shown=[]):=by
 simp only[oV,bL,sO,dA,MV,and_assoc];constructor
 ·rintro⟨h1,h2,h3⟩;exact⟨h1,by simpa[rU,KC h1]using h2,h3⟩
 ·rintro⟨h1,h2,h3⟩;exact⟨h1,by simpa[rU,KC h1]using h2,h3⟩
theorem UT (w:kS)(a:List aC)(g:List Key):oV (lU w a g).1=true:=by
 have h:=Zf w;unfold lU sR;split
 ·exact h
 ·have h1:=Sc (p8 w).c a g;have h2:=G1.1 h;unfold uR;split
  ·rename_i h3;rw[G1];simp only[rU,KC h1]at h3;exact⟨h1,h3.symm,h2.2.2⟩
  ·rw[G1];exact⟨h1,by simp[rU,KC h1],.inl rfl⟩
theorem zhF {l:List aC}:bG (mV l) 15=true:=by
 unfold mV;split
 ·rename_i r _;unfold cQ
  (repeat' split)<;>simp[bG]
 ·simp[bG]
theorem Xd (l:List aC):bG (eB l) 15=true:=by
 unfold eB
 (repeat' split)<;>first|exact zhF|simp[bG]
theorem zaW (l:List aC):bG (mO l) 15=true:=by
 unfold mO
 (repeat' split)<;>simp[bG]
theorem zfn (cap:Int)(l:List aC):bG (jU cap l) 15=true:=by
 unfold jU
 (repeat' split)<;>first|exact Xd _|exact zaW _|simp[bG]
theorem zkN (c:Cache)(a:List aC)(g:List Key):bG (tJ c a g).2 15=true:=by
 unfold tJ tI;split
 ·simp[bG]
 ·exact zfn _ _
theorem Xv (w:kS)(a:List aC)(g:List Key):bG (lU w a g).2.2 15=true:=by
 unfold lU sR;split
 ·exact zkN _ _ _
 ·simp[bG]
theorem Eu {n:Int}:∀{l:List dB} {a b:Int},b<=a->eM n a l=true->eM n b l=true
 |[],_,_,_,_=>rfl
 |s::r,a,b,h,hs=>by
  simp only[eM,bL,dA]at hs⊢;exact⟨⟨⟨⟨by omega,hs.1.1.1.2⟩,hs.1.1.2⟩,hs.1.2⟩,hs.2⟩
theorem VK {n:Int}(L:List aC):∀{l:List dB} {a:Int},a<=n->eM n a l=true->eM (n+1) a ((l.filter λs=>!decide (s.pins=0))++[⟨n+1,0,L⟩])=true
 |[],a,ha,_=>by
  simp only[List.filter_nil,EI,eM,bL,dA,fK,and_true];omega
 |s::r,a,ha,hs=>by
  simp only[eM,bL,dA]at hs;obtain⟨⟨⟨⟨h1,h2⟩,h3⟩,h4⟩,h5⟩:=hs;by_cases hp:s.pins=0
  ·simp only[List.filter_cons,hp,F7,M5,A1,iO];exact VK L ha (Eu (by omega) h5)
  ·simp only[List.filter_cons,hp,F8,Bool.not_false,fK,yD,eM,bL,dA];have h3':1<=s.pins:=by
    split at h3<;>omega
   refine⟨⟨⟨⟨h1,by omega⟩,?_⟩,h4⟩,VK L h2 h5⟩;rw[aT (by simp)];exact h3'
theorem pJ {p:cM}:jR p=true↔eM p.next 0 p.aR=true/\0<=p.next/\p.next<=2147483647/\p.aR.length<=1000:=by
 simp only[jR,bG,bL,dA,and_assoc]
theorem Em :jR ⟨0,[]⟩=true:=rfl
theorem xB (p:cM):jR (eY p)=true:=by
 unfold eY;split
 ·assumption
 ·exact Em
theorem CX {p:cM}(h:jR p=true):eY p=p:=by simp[eY,h]
theorem PB (p:cM)(l:List aC):jR (nR p l).1=true:=by
 have h:=xB p;unfold nR uZ;split
 ·exact h
 ·rename_i h1;split
  ·exact h
  ·rename_i h2;rw[pJ]at h⊢;refine⟨VK l h.2.1 h.1,by simp only;omega,by simp only;omega,?_⟩;simp;omega
theorem zcT {p:cM}{l:List aC}(h:(nR p l).2.2=0):∃s,wR (nR p l).1=some s/\s.l=l:=by
 have h0:=PB p l;unfold wR;rw[CX h0];unfold nR uZ at h⊢;split at h
 ·simp at h
 ·rename_i h1;split at h
  ·simp at h
  ·rename_i h2;rw[aT h1,aT h2];exact⟨⟨(eY p).next+1,0,l⟩,by simp,rfl⟩
theorem KN {p:cM}:wG p=true↔(gI p).length<=64/\∀k∈gI p,eN k=true:=by
 have:=ZD (v:=⟨[],gI p,0,eV,false⟩);simp only[wG,dA];simp only[pD]at this;rw[this];simp[bG]
theorem Wo {i:Nonce.Nn}(h:Nonce.kV i=true)(k n:Int):Nonce.kV (Nonce.take i k n).1=true:=by
 obtain⟨a,b,c,d,m⟩:=i;simp only[Nonce.take,Nonce.xR,fK];unfold Nonce.lF;split
 ·exact h
 ·split
  ·exact h
  ·split
   ·exact h
   ·rename_i h1;simp only[Nonce.Nn.set,Nonce.Nn.last,Nonce.wE]at h h1⊢
    (repeat' split at h1)<;>(repeat' split)<;>simp only[Nonce.wE]<;>omega
theorem Dd (n:Int):Nonce.kV (Nonce.uS n)=true:=by
 have:=Nonce.LZ n;simp only[Nonce.uS,Nonce.wE];omega
structure Z7 (s:bS):Prop where
 aM:bG s.aM 2147483647=true
 turn:bG s.turn 2147483647=true
 fS:gL s.fS.e0=false/\gL s.fS.e1=false/\gL s.fS.e2=false/\gL s.fS.e3=false
 iT:Nonce.kV s.iT=true
 w:oV s.w=true
 p:jR s.p=true
 room:wG s.p=true
 AF:wU s=true
theorem rX {s:bS}:dI s=true↔Z7 s:=by
 simp only[dI,bL,EK,M4];constructor
 ·rintro⟨⟨⟨⟨⟨⟨⟨h1,h2⟩,h3⟩,h4⟩,h5⟩,h6⟩,h7⟩,h8⟩;exact⟨h1,h2,⟨h3.1.1.1,h3.1.1.2,h3.1.2,h3.2⟩,h4,h5,h6,h7,h8⟩
 ·intro h;obtain⟨g1,g2,g3,g4⟩:=h.fS;exact⟨⟨⟨⟨⟨⟨⟨h.aM,h.turn⟩,⟨⟨⟨g1,g2⟩,g3⟩,g4⟩⟩,h.iT⟩,h.w⟩,h.p⟩,h.room⟩,h.AF⟩
theorem Oa :gI ⟨0,[]⟩=[]:=rfl
theorem Ej (l m:Int):dI (r8 l m)=true:=by
 rw[rX];exact⟨rfl,rfl,⟨rfl,rfl,rfl,rfl⟩,Dd m,El l,Em,KN.2 ⟨by rw[show(r8 l m).p=⟨0,[]⟩from rfl,Oa];simp,by rw[show(r8 l m).p=⟨0,[]⟩from rfl,Oa];simp⟩,rfl⟩
theorem KB (s:bS):dI (fF s)=true:=by
 unfold fF;split
 ·assumption
 ·exact Ej _ _
theorem yF {s:bS}(h:dI s=true):fF s=s:=by simp[fF,h]
theorem RN {e:iV}(h:gL e.e0=false/\gL e.e1=false/\gL e.e2=false/\gL e.e3=false){v:Int}(hv:bG v 15=true)(k:Int):
  gL (e.set k v).e0=false/\gL (e.set k v).e1=false/\gL (e.set k v).e2=false/\gL (e.set k v).e3=false:=by
 have hv':gL v=false:=by simp[gL,hv]
 unfold iV.set
 (repeat' split)<;>simp[h,hv']
theorem UD {n:Int}(h:bG n 2147483647=true)(hf:¬n=2147483647):bG (n+1) 2147483647=true:=by
 rw[lI]at h⊢;omega
theorem ziT (s:bS)(aM:Int):dI (l5 s aM).1=true:=by
 have h:=KB s;unfold l5 z8;split
 ·exact h
 ·rename_i h1;split
  ·exact h
  ·rename_i h2;have S:=rX.1 h;rw[rX];have he:=lI.1 S.aM;exact⟨lI.2 ⟨by simp only[oT];omega,by simp only[oT];omega⟩,UD S.turn (by simpa[nW]using h2),⟨rfl,rfl,rfl,rfl⟩,Dd _,S.w,S.p,S.room,S.AF⟩
theorem Xu {s:bS}(S:Z7 s)(f:Frame):Z7 (q9 s f).1:=by
 have hw:=UT s.w f.aD f.gone;have hr:=Xv s.w f.aD f.gone;have h6:(lU s.w f.aD f.gone).2.1=true->(lU s.w f.aD f.gone).1.ready=true:=by
  unfold lU sR uR
  (repeat' split)<;>simp
 have h7:(lU s.w f.aD f.gone).2.1=false->(lU s.w f.aD f.gone).1.ready=s.w.ready/\(lU s.w f.aD f.gone).1.shown=s.w.shown:=by
  have hw:p8 s.w=s.w:=Zh S.w;unfold lU sR uR;rw[hw]
  (repeat' split)<;>simp
 unfold q9;generalize lU s.w f.aD f.gone=W at hw hr h6 h7⊢;obtain⟨w',ch,why⟩:=W;simp only at hw hr h6 h7⊢;cases ch with
 |false=>
  simp;split
  ·exact⟨S.aM,S.turn,RN S.fS rfl _,S.iT,S.w,S.p,S.room,S.AF⟩
  ·refine⟨S.aM,S.turn,RN S.fS hr _,S.iT,hw,S.p,S.room,?_⟩;have hA:=S.AF;obtain⟨g1,g2⟩:=h7 rfl;unfold wU at hA⊢;simp only[g1,g2];exact hA
 |true=>
  simp only[AQ,fK];split
  ·exact S
  ·rename_i h1;split
   ·exact⟨S.aM,S.turn,RN S.fS rfl _,S.iT,S.w,S.p,S.room,S.AF⟩
   ·rename_i h2;refine⟨S.aM,S.turn,RN S.fS hr _,S.iT,hw,PB _ _,by simpa using h2,?_⟩;obtain⟨c,h4,h5⟩:=zcT (M3.1 h1);simp only[wU,h4,h5,h6 rfl,F7,Bool.and_self]
theorem zaq (s:bS)(f:Frame):dI (qA s f).1=true:=by
 have h:=KB s;have S:=rX.1 h;unfold qA tS;generalize fF s=q at h S⊢;dsimp only;split
 ·exact h
 ·split
  ·split
   ·exact h
   ·rename_i hf;split
    ·exact h
    ·rw[rX];have T:=Xu S f;have ht:(q9 q f).1.turn=q.turn:=by
      unfold q9;dsimp only
      (repeat' split)<;>rfl
     exact⟨T.aM,by simp only[oT,ht];exact UD S.turn (by simpa[nW]using hf),T.fS,Wo S.iT _ _,T.w,T.p,T.room,T.AF⟩
  ·split
   ·split
    ·exact h
    ·rename_i hf;rw[rX];exact⟨S.aM,UD S.turn (by simpa[nW]using hf),S.fS,S.iT,S.w,S.p,S.room,S.AF⟩
   ·exact h
@[simp] theorem lenAll_snap (l:List dB):iY (l.map iQ) 3=True:=tZ (f:=iQ) (n:=3) (λ_=>rfl) l
def uK (l:List dB):Int:=match l.getLast? with
 |some s=>s.id
 |none=>0
@[simp] theorem ahP_nil :uK []=0:=rfl
@[simp] theorem I5 (l:List dB)(s:dB):uK (l++[s])=s.id:=by simp[uK]
theorem EV {n:Int}:∀{l:List dB} {a:Int},eM n a l=true->∀s∈l,s.id<=n/\s.pins<=10000/\a+1<=s.id
 |[],_,_,s,hs=>by cases hs
 |q::r,a,h,s,hs=>by
  simp only[eM,bL,dA]at h;rcases kD.1 hs with rfl|hs
  ·exact⟨h.1.1.1.2,h.1.2,h.1.1.1.1⟩
  ·have:=EV h.2 s hs;exact⟨this.1,this.2.1,by omega⟩
structure dL (s:bS):Prop where
 c:cL s.w.c.l
 cl:s.w.c.l.length<=1000
 shown:cL s.w.shown
 aR:∀q∈s.p.aR,cL q.l/\q.l.length<=64
 next:s.p.next<=2147483648
 sl:s.p.aR.length<=1000000
structure mD (p:cM):Prop where
 aR:∀q∈p.aR,cL q.l/\q.l.length<=64
 next:p.next<=2147483648
 sl:p.aR.length<=1000000
theorem mD.sound {p:cM}(h:mD p):mD (eY p):=by
 unfold eY;split
 ·exact h
 ·exact⟨by simp,by decide,by simp⟩
theorem v8 (p:cM):(eY p).aR.length<=1000:=(pJ.1 (xB p)).2.2.2
theorem U6 {l:List dB}(h:∀q∈l,q.l.length<=64):(l.flatMap (·.l)).length<=64*l.length:=by
 induction l with
 |nil=>simp
 |cons s r ih=>
  have:=ih λq hq=>h q (by simp[hq]);have:=h s (by simp);simp only[TP,bZ,jI];omega
theorem Q4 {p:cM}(h:mD p):(gI p).length<=64000:=by
 unfold gI LC;have h1:=U6 λq hq=>(h.sound.aR q hq).2;have h2:=v8 p;obtain⟨a1,a2⟩:=BW ((((eY p).aR.flatMap (·.l)).map aC.key)) (o:=[]) (by simp[i7]);have:=XT (Ry a1) (b:=((eY p).aR.flatMap (·.l)).map aC.key) (λk hk=>by rw[a2]at hk;simpa using hk);rw[zD]at this;omega
theorem QO {α:Type}(l:List α):l=[]\/∃i s,l=i++[s]:=by
 rcases List.eq_nil_or_concat l with h|⟨i,s,h⟩
 ·exact .inl h
 ·exact .inr ⟨i,s,by simpa using h⟩
theorem dL.pins {s:bS}(h:dL s):mD s.p:=⟨h.aR,h.next,h.sl⟩
theorem Tv (n:Int):gL n=(decide (n<0)||decide (15<n)):=by
 rw[gL,bG];by_cases h1:n<0<;>by_cases h2:15<n<;>simp[h1,h2]<;>omega
theorem Ji {l:List aC}(h:cL l)(p:aC->Bool):cL (l.filter p):=⟨dH (gJ _ _) h.len,λr hr=>h.all r (mX.1 hr).1⟩
theorem Jb {c:Cache}(h:cL c.l):cL (oU c).l:=by
 unfold oU;split
 ·exact h
 ·exact⟨by simp[r9],λr hr=>by simp[r9]at hr⟩
theorem Jn {c:Cache}{aD:List aC}{gone:List Key}(h:cL c.l)(ha:cL aD)(hl:aD.length<=1000):cL (tJ c aD gone).1.l:=by
 have h1:=Jb h;have h2:=vZ (C4.1 (U5 c)).2.1;unfold tJ tI;split
 ·exact zd3 h1 ha (by omega)
 ·exact h1
theorem Ja {w:kS}(h:cL w.c.l)(hs:cL w.shown):cL (p8 w).c.l/\cL (p8 w).shown:=by
 unfold p8;split
 ·exact⟨h,hs⟩
 ·exact⟨⟨by simp[tX,r9],λr hr=>by simp[tX,r9]at hr⟩,⟨by simp[tX],λr hr=>by simp[tX]at hr⟩⟩
theorem Jc {c:Cache}(h:cL c.l):cL (rU c):=Ji (Jb h) _
theorem PT :cL []:=⟨by simp,λr hr=>by simp at hr⟩
theorem WM {w:kS}{aD:List aC}{gone:List Key}(h:cL w.c.l)(hs:cL w.shown)(ha:cL aD)(hl:aD.length<=1000):cL (lU w aD gone).1.c.l/\cL (lU w aD gone).1.shown:=by
 obtain⟨h1,h2⟩:=Ja h hs;unfold lU sR;split
 ·exact⟨h1,h2⟩
 ·have h3:=Jn (gone:=gone) h1 ha hl;unfold uR;split
  ·exact⟨h3,h2⟩
  ·exact⟨h3,Jc h3⟩
theorem UU (w:kS)(aD:List aC)(gone:List Key):(lU w aD gone).1.c.l.length<=64/\(lU w aD gone).1.shown.length<=64:=by
 have h:=G1.1 (UT w aD gone);have h1:=vZ (C4.1 h.1).2.1;refine⟨h1,?_⟩;rw[h.2.1];exact dH (gJ _ _) h1
theorem WO {p:cM}(h:mD p){l:List aC}(hl:cL l)(hl2:l.length<=64):mD (nR p l).1:=by
 have hs:=pJ.1 (PB p l);have h1:=h.sound.aR;refine⟨?_,by omega,by omega⟩;unfold nR uZ;split
 ·exact h1
 ·split
  ·exact h1
  ·intro q hq;rcases gU.1 hq with hq|hq
   ·exact h1 q (mX.1 hq).1
   ·rw[yA.1 hq];exact⟨hl,hl2⟩
theorem dL.mk' {s:bS}(h1:cL s.w.c.l)(h2:s.w.c.l.length<=1000)(h3:cL s.w.shown)(hp:mD s.p):dL s:=⟨h1,h2,h3,hp.aR,hp.next,hp.sl⟩
theorem dL.new (l m:Int):dL (r8 l m):=.mk' PT (by simp[r8,tX,r9]) PT ⟨by simp[r8],by simp[r8],by simp[r8]⟩
theorem dL.sound {s:bS}(h:dL s):dL (fF s):=by
 unfold fF;split
 ·exact h
 ·exact .new _ _
theorem dL.step {s:bS}(h:dL s){f:Frame}(ha:cL f.aD)(hl:f.aD.length<=1000):dL (q9 s f).1:=by
 obtain⟨h1,h2⟩:=WM (gone:=f.gone) h.c h.shown ha hl;obtain⟨h3,h4⟩:=UU s.w f.aD f.gone;unfold q9;dsimp only;generalize lU s.w f.aD f.gone=W at h1 h2 h3 h4⊢;obtain⟨w',ch,why⟩:=W;simp only at h1 h2 h3 h4⊢;cases ch with
 |false=>
  simp only[A1,false_and,iO];split
  ·exact .mk' h.c h.cl h.shown h.pins
  ·exact .mk' h1 (by simp only;omega) h2 h.pins
 |true=>
  simp only[AQ,fK];split
  ·exact h
  ·split
   ·exact .mk' h.c h.cl h.shown h.pins
   ·exact .mk' h1 (by simp only;omega) h2 (WO h.pins h2 h4)
theorem Xt (s:bS)(f:Frame):(q9 s f).1.turn=s.turn:=by
 unfold q9;dsimp only
 (repeat' split)<;>rfl
theorem VV {s:bS}{f:Frame}(h:rY s f=0):dD f=0:=by
 unfold rY at h;split at h
 ·cases h
 ·split at h
  ·rename_i h1;exact absurd h h1
  ·rename_i h1;exact M3.1 h1
theorem UB {s:bS}(h:dI s=true):0<=s.turn/\s.turn<=2147483647:=lI.1 (rX.1 h).turn
theorem Lc {s:Str}{n:Nat}(h:(bs s).length<=n)(hn:n<=9223372036854775807):nB s:=dH h hn
theorem WN {r:aC}(h:cQ r=0):y2 r:=by
 obtain⟨h1,h2,h3,h4,h5,h6⟩:=xC h;have n1:=DJ h2;simp only[fO,bL,dA,dP,nA]at h3;refine⟨Lc n1 (by omega),?_,by omega,λx hx=>?_,by omega⟩
 ·by_cases ht:iH r.kind=true
  ·simp only[mS,ht,M5,Bool.false_or,bL]at h5;exact Lc (DJ h5.1) (by omega)
  ·simp only[gK,ht,Bool.or_false,bL,dA]at h4;unfold nB;rw[h4.1.1.2];simp
 ·have:=(h3.2 x hx).1;omega
theorem WL {l:List aC}(h:eB l=0):cL l:=⟨by have:=vZ h;omega,λr hr=>WN (NT h hr)⟩
theorem xJ {f:Frame}(h:dD f=0):fJ f:=by
 have F:=j9.1 h;have L:=sV F.small;exact⟨⟨by omega,λr hr=>WN (F.aD r hr)⟩,by omega,by omega,by omega⟩
theorem zcO {s:cW}(q:aW)(f:Frame)(hs:gE s=true)(hp:fJ s.v.push):fJ (handle s q f).1.v.push:=by
 rcases zg9 q f hs with e|e
 ·rw[e];exact hp
 ·rw[e];exact Am
end Go.G
