/-
  LAYERS 9, 10, 13, 15 to 20: histories, frames that may be, numbers of pushes, plans, sidecars, pins, sessions: plainly.
-/
import Derived.Test.YtegplpagkajolaaGreatDoorPl
set_option linter.unusedSimpArgs false
set_option linter.unusedVariables false
set_option maxRecDepth 100000
set_option maxHeartbeats 8000000
namespace Go.aE
structure Ou where
 (l0 l1 l2 l3:Int) (o0 o1 o2 o3:Bool) (m:Int)
 deriving DecidableEq
structure Nn where
 (l0 l1 l2 l3 m:Int)
 deriving DecidableEq
def j3 (n:Int):Int:=max 1 (min n 2147483647)
def DZ (n:Int):Ou:=⟨0,0,0,0,false,false,false,false,j3 n⟩
def qF (n:Int):Nn:=⟨0,0,0,0,j3 n⟩
def tZ (i:Nn):Bool:=
 decide (0<=i.l0)&&decide (i.l0<=i.m)&&decide (0<=i.l1)&&decide (i.l1<=i.m)&&decide (0<=i.l2)&&decide (i.l2<=i.m)&&decide (0<=i.l3)&&decide (i.l3<=i.m)&&decide (1<=i.m)&&decide (i.m<=2147483647)
def Ou.qC (o:Ou):Nn:=⟨o.l0,o.l1,o.l2,o.l3,o.m⟩
def kQ (o:Ou):Bool:=
 !(o.o0&&decide (o.l0=0))&& !(o.o1&&decide (o.l1=0))&& !(o.o2&&decide (o.l2=0))&& !(o.o3&&decide (o.l3=0))&&tZ o.qC
def zG (o:Ou):Ou:=if kQ o then o else DZ o.m
def A1 (i:Nn):Nn:=if tZ i then i else qF i.m
def gH (k:Int):Bool:=decide (0<=k)&&decide (k<4)
def Ou.last (o:Ou)(k:Int):Int:=if k=0 then o.l0 else if k=1 then o.l1 else if k=2 then o.l2 else o.l3
def Ou.kV (o:Ou)(k:Int):Bool:=if k=0 then o.o0 else if k=1 then o.o1 else if k=2 then o.o2 else o.o3
def Ou.set (o:Ou)(k l:Int)(b:Bool):Ou:=
 if k=0 then{o with l0:=l,o0:=b}else if k=1 then{o with l1:=l,o1:=b}else if k=2 then{o with l2:=l,o2:=b}else{o with l3:=l,o3:=b}
def Nn.last (o:Nn)(k:Int):Int:=if k=0 then o.l0 else if k=1 then o.l1 else if k=2 then o.l2 else o.l3
def Nn.set (o:Nn)(k l:Int):Nn:=
 if k=0 then{o with l0:=l}else if k=1 then{o with l1:=l}else if k=2 then{o with l2:=l}else{o with l3:=l}
def EF (o:Ou)(k:Int):Ou×Int×Int:=
 if gH k=false then(o,0,4)
 else if o.kV k then(o,0,15)
 else if o.last k=o.m then(o,0,14)
 else(o.set k (o.last k+1) true,o.last k+1,0)
def push (o:Ou)(k:Int):Ou×Int×Int:=EF (zG o) k
def G1 (o:Ou)(k n:Int):Ou×Int:=
 if gH k=false then(o,4)
 else if o.kV k=false\/n≠o.last k then(o,11)
 else(o.set k (o.last k) false,0)
def done (o:Ou)(k n:Int):Ou×Int:=G1 (zG o) k n
def DV (i:Nn)(k n:Int):Nn×Int:=
 if gH k=false then(i,4)
 else if n≠0/\n=i.last k then(i,9)
 else if n≠i.last k+1\/i.m<n then(i,11)
 else(i.set k n,0)
def take (i:Nn)(k n:Int):Nn×Int:=DV (A1 i) k n
theorem AL (a b c d m:Int):(tZ ⟨a,b,c,d,m⟩=true)=(0<=a/\a<=m/\0<=b/\b<=m/\0<=c/\c<=m/\0<=d/\d<=m/\1<=m/\m<=2147483647):=by
 simp[tZ,and_assoc]
theorem NC (n:Int):1<=j3 n/\j3 n<=2147483647:=by simp only[j3];omega
def Ou.ok (o:Ou):Prop:=(0<=o.l0/\o.l0<=o.m/\0<=o.l1/\o.l1<=o.m/\0<=o.l2/\o.l2<=o.m/\0<=o.l3/\o.l3<=o.m/\1<=o.m/\o.m<=2147483647)
def Nn.ok (o:Nn):Prop:=(0<=o.l0/\o.l0<=o.m/\0<=o.l1/\o.l1<=o.m/\0<=o.l2/\o.l2<=o.m/\0<=o.l3/\o.l3<=o.m/\1<=o.m/\o.m<=2147483647)
theorem WV (o:Ou):(zG o).ok:=by
 obtain⟨a,b,c,d,x,y,z,t,m⟩:=o;simp only[zG];by_cases h:kQ ⟨a,b,c,d,x,y,z,t,m⟩=true
 ·rw[aU h];simp only[kQ,Ou.qC,bN,AL]at h;exact h.2
 ·rw[aH h];have:=NC m;simp only[Ou.ok,DZ];omega
theorem zf9 (o:Nn):(A1 o).ok:=by
 obtain⟨a,b,c,d,m⟩:=o;simp only[A1];by_cases h:tZ ⟨a,b,c,d,m⟩=true
 ·rw[aU h];rw[AL]at h;exact h
 ·rw[aH h];have:=NC m;simp only[Nn.ok,qF];omega
theorem uF {k:Int}(h:gH k=true):k=0\/k=1\/k=2\/k=3:=by
 simp only[gH,bN,decide_eq_true_iff]at h;omega
end Go.aE
namespace Go.G
theorem Pj :∀(g:List Key) (l:List aA) (k:Key),aS (g.foldl tW l) k=if k∈g then none else aS l k
 |[],l,k=>by simp
 |q::g,l,k=>by
  rw[rR,Pj g,zgU];by_cases h:k∈g
  ·simp[h]
  ·by_cases e:q=k
   ·subst e;simp
   ·have:¬k=q:=fun e'=>e e'.symm;simp[h,e,this]
def zJ (l:List aA)(k:Key):Option aA:=l.reverse.find? fun r=>decide (r.key=k)
theorem Pk :∀(a l:List aA) (k:Key),aS (a.foldl nN l) k=match zJ a k with|some r=>some r|none=>aS l k
 |[],l,k=>by simp[zJ]
 |m::a,l,k=>by
  rw[rR,Pk a];unfold zJ;rw[List.reverse_cons,List.find?_append];cases h:a.reverse.find? _ with
  |some x=>rfl
  |none=>
   simp only[Option.none_or];rw[zgV];by_cases e:m.key=k<;>simp[e]
theorem R4 (l a:List aA)(g:List Key)(k:Key):aS (cD l a g) k=match zJ a k with|some r=>some r|none=>if k∈g then none else aS l k:=by
 unfold cD;rw[Pk,Pj]
theorem BF {l:List aA}(h:cW l)(p:aA->Bool):cW (l.filter p):=by
 unfold cW jC at*;exact h.sublist ((List.filter_sublist).map _)
theorem zj1 {l:List aA}(h:cW l)(r:aA):cW (nN l r):=by
 have h1:=BF h fun x=>decide (dY x.key r.key= -1);have h2:=BF h fun x=>decide (dY x.key r.key=1);have a1:∀x∈(tE l r.key (-1)).map aA.key,dY x r.key= -1:=by
  intro x hx;obtain⟨a,ha,rfl⟩:=eR.1 hx;simpa using(jD.1 ha).2
 have a2:∀x∈(tE l r.key 1).map aA.key,dY r.key x= -1:=by
  intro x hx;obtain⟨a,ha,rfl⟩:=eR.1 hx;have:dY a.key r.key=1:=by simpa using(jD.1 ha).2
  rw[M8,this]
 unfold nN cW jC;rw[BV,BV,KH,KH];refine⟨⟨h1,by simp,?_⟩,h2,?_⟩
 ·intro x hx y hy;have:y=r.key:=by simpa using hy
  rw[this];exact a1 x hx
 ·intro x hx y hy;rcases dN.1 hx with h|h
  ·exact C1 (a1 x h) (a2 y hy)
  ·have:x=r.key:=by simpa using h
   rw[this];exact a2 y hy
theorem uN {l:List aA}(h:cW l)(a:List aA)(g:List Key):cW (cD l a g):=by
 unfold cD;have h1:∀(g:List Key) (l:List aA),cW l->cW (g.foldl tW l):=by
  intro g;induction g with
  |nil=>exact fun _ h=>h
  |cons q g ih=>exact fun l h=>ih _ (BF h _)
 have h2:∀(a l:List aA),cW l->cW (a.foldl nN l):=by
  intro a;induction a with
  |nil=>exact fun _ h=>h
  |cons q g ih=>exact fun l h=>ih _ (zj1 h _)
 exact h2 _ _ (h1 _ _ h)
theorem Ae {a b:List aA}(ha:cW a)(hb:cW b)(h:∀k,aS a k=aS b k):a=b:=by
 have hk:a.map aA.key=b.map aA.key:=NF ha hb fun k=>by rw[mem_keys,mem_keys,h]
 refine KT fun i=>?_;have hi:=dH (fun l=>l[i]?) hk;simp only[iJ]at hi;cases e1:a[i]? with
 |none=>
  cases e2:b[i]? with
  |none=>rfl
  |some y=>simp[e1,e2]at hi
 |some x=>
  cases e2:b[i]? with
  |none=>simp[e1,e2]at hi
  |some y=>
   simp only[e1,e2,oK,lS]at hi;have g1:=jJ ha (eH e1);have g2:=jJ hb (eH e2);rw[<-hi,<-h,g1]at g2;exact g2
theorem R5 {l:List aA}{k:Key}:aS l k=none↔∀r∈l,¬r.key=k:=by
 unfold aS;rw[xJ];simp
theorem zfL {l:List aA}{k:Key}:zJ l k=none↔∀r∈l,¬r.key=k:=by
 unfold zJ;rw[xJ];simp
theorem zfK {l:List aA}{k:Key}{r:aA}(h:zJ l k=some r):r∈l/\r.key=k:=by
 unfold zJ at h;exact⟨by simpa using N6 h,by simpa using KR h⟩
theorem Nk {l:List aA}(h:cW l)(k:Key):zJ l k=aS l k:=by
 cases e:zJ l k with
 |none=>exact(R5.2 (zfL.1 e)).symm
 |some r=>
  obtain⟨h1,h2⟩:=zfK e;rw[<-h2,jJ h h1]
theorem XO {a b:List aA}{k:Key}:k∈oG a b↔(aS a k).isSome=true/\aS b k=none:=by
 unfold oG;rw[jD,mem_keys];cases aS b k<;>simp
theorem zdr {a b:List aA}(ha:cW a)(hb:cW b):cD a (mN a b) (oG a b)=b:=by
 have hd:cW (mN a b):=BF hb _;refine Ae (uN ha _ _) hb fun k=>?_;rw[R4,Nk hd];have mem:∀r,r∈mN a b↔r∈b/\¬aS a r.key=some r:=fun r=>by simp[mN,jD]
 cases hbk:aS b k with
 |none=>
  have h1:aS (mN a b) k=none:=R5.2 fun r hr=>R5.1 hbk r ((mem r).1 hr).1;simp only[h1];split
  ·rfl
  ·rename_i h;cases h2:aS a k with
   |none=>rfl
   |some x=>exact absurd (XO.2 ⟨by rw[h2];rfl,hbk⟩) h
 |some r=>
  have hr:=gV hbk;have hk:=kK hbk;by_cases h:aS a k=some r
  ·have h1:aS (mN a b) k=none:=R5.2 fun x hx e=>by
    obtain⟨q1,q2⟩:=(mem x).1 hx;have:=jJ hb q1;rw[e,hbk]at this;cases this;rw[e]at q2;exact q2 h
   have h2:k∉oG a b:=fun hm=>by have:=(XO.1 hm).2;rw[hbk]at this;cases this
   simp only[h1,aH h2,h]
  ·have:r∈mN a b:=(mem r).2 ⟨hr,by rw[hk];exact h⟩;have:=jJ hd this;rw[hk]at this;simp only[this]
def y5 (now:List aA)(v:Int)(r:aA):aA:={r with cS:=match aS now r.key with
 |some o=>if j5 o r then o.cS else v
 |none=>v}
theorem VB (now l:List aA)(v:Int):l9 now l v=l.map (y5 now v):=rfl
theorem Zn (now:List aA)(v:Int)(r:aA):(y5 now v r).key=r.key:=rfl
theorem Zo (now:List aA)(v:Int)(r:aA):y5 now v (y5 now v r)=y5 now v r:=by
 show({y5 now v r with cS:=match aS now r.key with|some o=>if j5 o r then o.cS else v|none=>v}:aA)=y5 now v r;rfl
theorem Zf (now l:List aA)(v:Int):l9 now (l9 now l v) v=l9 now l v:=by
 rw[VB,VB,List.map_map];exact List.map_congr_left fun r _=>Zo now v r
theorem Zm {now:List aA}{v:Int}{o r:aA}(h:aS now r.key=some o)(ha:j5 o r=true):y5 now v r=o:=by
 unfold y5;rw[h];simp only[ha,eA];exact Tg ha
structure uR (cap:Int)(h:List (List aA)):Prop where
 first:h[0]? =some []
 step:∀(i:Nat) now l,h[i]? =some now->h[i+1]? =some l->(∃p,l=l9 now p ((i:Int)+1))/\nI cap (i+1) now l=0
theorem uR.p8 {cap:Int}{h:List (List aA)}(hh:uR cap h){i:Nat}{l:List aA}(hl:h[i]? =some l):cW l:=by
 cases i with
 |zero=>rw[hh.first]at hl;cases hl;simp
 |succ i=>
  have hi:i<h.length:=by have:=(cC.1 hl).1;omega
  exact iC (ZZ (hh.step i h[i] l (cI hi) hl).2)
theorem Nj {cap:Int}{h:List (List aA)}{i:Nat}{now:List aA}(hn:h[i]? =some now):fW ⟨cap,h.take (i+1)⟩=now:=by
 unfold fW;rw[Ar,Ng hn];rfl
theorem zgs {cap:Int}{h:List (List aA)}(hh:uR cap h):∀(m i:Nat),i+1+m=h.length->D5 ⟨cap,h.take (i+1)⟩ (h.drop (i+1))=true:=by
 intro m;induction m with
 |zero=>intro i hi;rw[Au (by omega)];rfl
 |succ m ih=>
  intro i hi;have h0:i<h.length:=by omega
  have h1:i+1<h.length:=by omega
  have e0:h[i]? =some h[i]:=cI h0;have e1:h[i+1]? =some h[i+1]:=cI h1;have hl:fW ⟨cap,h.take (i+1)⟩=h[i]:=Nj e0;obtain⟨⟨p,hp⟩,hc⟩:=hh.step i _ _ e0 e1;have hlen:(h.take (i+1)).length=i+1:=by simp;omega
  have hN:u6 ⟨cap,h.take (i+1)⟩ (mN h[i] h[i+1]) (oG h[i] h[i+1])=h[i+1]:=by
   unfold u6;rw[hl,zdr (hh.p8 e0) (hh.p8 e1)];simp only[hlen];have:((i+1:Nat):Int)=(i:Int)+1:=by omega
   rw[this,hp,Zf]
  have hE:rF ⟨cap,h.take (i+1)⟩ (mN h[i] h[i+1]) (oG h[i] h[i+1])=0:=by
   unfold rF;rw[hN,hl];simp only[hlen];exact hc
  rw[KV h1];simp only[D5,hl,hE,hN,yT,tU];have:=ih (i+1) (by omega)
  rwa[nZ,e1]at this
theorem Pb {cap:Int}:∀(r h:List (List aA)),uR cap h->D5 ⟨cap,h⟩ r=true->uR cap (h++r)
 |[],h,hh,_=>by simpa using hh
 |l::r,h,hh,hs=>by
  simp only[D5,bN,cP]at hs;obtain⟨⟨h1,h2⟩,h3⟩:=hs;have h0:0<h.length:=(cC.1 hh.first).1;have hn:uR cap (h++[l]):=by
   refine⟨by rw[jY h0];exact hh.first,fun i now l' e1 e2=>?_⟩;have hi:i+1<(h++[l]).length:=(cC.1 e2).1;simp only[dQ,kE,l7]at hi;rw[jY (by omega)]at e1;by_cases hlt:i+1<h.length
   ·rw[jY hlt]at e2;exact hh.step i now l' e1 e2
   ·have hie:i+1=h.length:=by omega
    rw[nL (by omega),hie]at e2;simp at e2;subst e2;have hl:fW ⟨cap,h⟩=now:=by
     have:=Nj (cap:=cap) e1
     rwa[hie,fA]at this
    have hE:=h1;unfold rF at hE;rw[h2,hl]at hE;refine⟨⟨cD now (mN now l) (oG now l),?_⟩,by rw[hie];exact hE⟩;unfold u6 at h2;rw[hl]at h2;have:((h.length:Nat):Int)=(i:Int)+1:=by omega
    simp only[this]at h2;exact h2.symm
  have:=Pb r (h++[l]) hn h3;simpa using this
theorem Of (cap:Int):uR cap [[]]:=⟨rfl,fun i now l h1 h2=>by simp at h2⟩
theorem rB (s:aT):fN s=true↔s.cap=nX s.cap/\s.bV.length<=100000/\uR s.cap s.bV:=by
 constructor
 ·intro h;simp only[fN,bN,cP]at h;obtain⟨⟨⟨⟨h1,h2⟩,h3⟩,h4⟩,h5⟩:=h;refine⟨h1,h3,?_⟩;cases hh:s.bV with
  |nil=>rw[hh]at h2;simp at h2
  |cons a t=>
   rw[hh]at h4 h5;simp only[List.headD_cons]at h4;subst h4;have:=Pb (cap:=s.cap) t [[]] (Of _) (by
    have e:iA s.cap=⟨s.cap,[[]]⟩:=by unfold iA;rw[<-h1]
    rw[e]at h5;simpa using h5)
   simpa using this
 ·rintro⟨h1,h2,h3⟩;have h0:0<s.bV.length:=(cC.1 h3.first).1;have hg:=zgs h3 (s.bV.length-1) 0 (by omega);have e:s.bV.take (0+1)=[[]]:=by
   rw[nZ,h3.first];rfl
  rw[e]at hg;have hd:s.bV.headD []=[]:=by
   have:=h3.first;cases hh:s.bV with
   |nil=>rfl
   |cons a t=>rw[hh]at this;simpa using this
  have e2:iA s.cap=⟨s.cap,[[]]⟩:=by unfold iA;rw[<-h1]
  have a1:1<=s.bV.length:=by omega
  simp only[fN,tS h1,tS a1,tS h2,tS hd,e2,tU];simpa using hg
theorem uR.snoc {cap:Int}{h:List (List aA)}(hh:uR cap h){p:List aA}{now:List aA}(hn:h[h.length-1]? =some now)(hc:nI cap h.length now (l9 now p h.length)=0):uR cap (h++[l9 now p h.length]):=by
 have h0:0<h.length:=(cC.1 hh.first).1;refine⟨by rw[jY h0];exact hh.first,fun i now' l' e1 e2=>?_⟩;have hi:i+1<(h++[l9 now p h.length]).length:=(cC.1 e2).1;simp only[dQ,kE,l7]at hi;rw[jY (by omega)]at e1;by_cases hlt:i+1<h.length
 ·rw[jY hlt]at e2;exact hh.step i now' l' e1 e2
 ·have hie:i+1=h.length:=by omega
  rw[nL (by omega),hie]at e2;simp at e2;subst e2;have:i=h.length-1:=by omega
  rw[this,hn]at e1;cases e1;have e3:((h.length:Nat):Int)=(i:Int)+1:=by omega
  exact⟨⟨p,by rw[<-e3]⟩,by rw[hie];exact hc⟩
theorem X7 {s:aT}(h:0<s.bV.length):s.bV[s.bV.length-1]? =some (fW s):=by
 unfold fW;rw[Ar,<-HJ];cases e:s.bV.getLast? with
 |none=>rw[List.getLast?_eq_none_iff]at e;rw[e]at h;simp at h
 |some x=>rfl
theorem ziD {cap:Int}{n:Nat}{now next:List aA}(h:nI cap n now next=0):n<100000:=by
 unfold nI at h
 repeat' (split at h<;>first| (simp at h;done)|skip)
 all_goals first|omega| (rename_i h1;exact absurd h h1)|skip
theorem H9 {s:aT}(h:fN s=true)(aD:List aA)(gone:List Key):fN (tC s aD gone)=true:=by
 unfold tC;split
 ·rename_i he;obtain⟨h1,h2,h3⟩:=(rB s).1 h;have h0:0<s.bV.length:=(cC.1 h3.first).1;have hn:=ziD he;exact(rB _).2 ⟨h1,by simp;omega,h3.snoc (X7 h0) he⟩
 ·exact h
theorem zbp {s:aT}(h:fN s=true):s.cap=nX s.cap:=((rB s).1 h).1
theorem VX {s:aT}(h:fN s=true):0<s.bV.length:=(cC.1 ((rB s).1 h).2.2.first).1
theorem y9 {s:aT}(h:fN s=true):gZ s=s:=by
 have h0:=VX h;rw[UZ (by intro e;rw[e]at h0;simp at h0),<-zbp h]
theorem zbn (n:Int):fN (iA n)=true:=(rB _).2 ⟨by simp[iA,Z1],by simp[iA],Of _⟩
structure Acc (cap:Int)(l:List aA):Prop where
 rX:fF l=0
 len:(l.length:Int)<=cap
 IX:(wO l).length=0
 served:iX l=0
theorem ziE {cap:Int}{n:Nat}{now next:List aA}(h:nI cap n now next=0):Acc cap next/\¬now=next:=by
 have ht:=ZZ h;unfold nI at h;rw[aU ht]at h;split at h
 ·simp at h
 ·rename_i h1;split at h
  ·simp at h
  ·rename_i h2;split at h
   ·simp at h
   ·rename_i h3;split at h
    ·simp at h
    ·rename_i h4;exact⟨⟨ht,by omega,by omega,by omega⟩,h4⟩
theorem Ep :iX []=0:=by decide+kernel
theorem zkG {cap:Int}(h:0<=cap):Acc cap []:=⟨by decide+kernel,by simpa using h,by decide+kernel,Ep⟩
theorem S0 (n:Int):0<=nX n/\nX n<=64:=by unfold nX;omega
theorem uR.acc {cap:Int}(hc:0<=cap){h:List (List aA)}(hh:uR cap h){i:Nat}{l:List aA}(hl:h[i]? =some l):Acc cap l:=by
 cases i with
 |zero=>rw[hh.first]at hl;cases hl;exact zkG hc
 |succ i=>
  have hi:i<h.length:=by have:=(cC.1 hl).1;omega
  exact(ziE (hh.step i h[i] l (cI hi) hl).2).1
theorem IA {s:aT}(h:fN s=true):Acc s.cap (fW s):=by
 obtain⟨h1,h2,h3⟩:=(rB s).1 h;have h0:=VX h;exact h3.acc (by have:=S0 s.cap;omega) (X7 h0)
structure zkM (h:List (List aA))(i:Nat)(r:aA):Prop where
 is:∃j m y,r.cS=((j+1:Nat):Int)/\j+1<=i/\h[j+1]? =some m/\aS m r.key=some r/\h[j]? =some y/\∀o,aS y r.key=some o->j5 o r=false
theorem uR.cS {cap:Int}{h:List (List aA)}(hh:uR cap h):∀(i:Nat) (l:List aA),h[i]? =some l->∀r∈l,zkM h i r
 |0,l,hl,r,hr=>by rw[hh.first]at hl;cases hl;simp at hr
 |i+1,l,hl,r,hr=>by
  have hi:i<h.length:=by have:=(cC.1 hl).1;omega
  have e0:h[i]? =some h[i]:=cI hi;obtain⟨⟨p,hp⟩,hc⟩:=hh.step i _ _ e0 hl;have hasc:=hh.p8 hl;have hg:=jJ hasc hr;rw[hp,VB]at hr;obtain⟨q,hq,rfl⟩:=eR.1 hr;by_cases hold:∃o,aS h[i] q.key=some o/\j5 o q=true
  ·obtain⟨o,ho,ha⟩:=hold;rw[Zm ho ha];obtain⟨j,m,y,h1,h2,h3⟩:=(hh.cS i _ e0 o (gV ho)).is;exact⟨j,m,y,h1,by omega,h3⟩
  ·have hv:(y5 h[i] ((i:Int)+1) q).cS=(i:Int)+1:=by
    unfold y5;cases ho:aS h[i] q.key with
    |none=>rfl
    |some o=>
     have:¬j5 o q=true:=fun ha=>hold ⟨o,ho,ha⟩;simp[this]
   refine⟨i,l,h[i],by rw[hv];omega,cM _,hl,hg,e0,fun o ho=>?_⟩;rw[Zn]at ho;cases ha:j5 o q with
   |false=>exact ha
   |true=>exact absurd ⟨o,ho,ha⟩ hold
def bare (r:aA):aA:={r with cS:=0}
@[simp] theorem bare_key (r:aA):(bare r).key=r.key:=rfl
def HV (l:List aA)(out:List Key)(q:Key):List Key:=if(aS l q).isSome=true/\q∉out then out++[q]else out
def N0 (l:List aA)(out:List Key)(k:Key):Prop:=∀r,aS l k=some r->∀q∈eT r,(aS l q).isSome=true->q∈out
theorem Bx (l:List aA)(n:Nat)(out:List Key)(k:Key)(h:(aS l k).isSome=true):k∈iV l (n+1) out k:=by
 unfold iV;obtain⟨r,hr⟩:=pA.1 h;rw[hr];simp only;split
 ·assumption
 ·exact JJ (FK l n) _ _ _ (by simp)
theorem By (l:List aA):∀(n:Nat) (out:List Key) (k:Key),uD l out<n->∀x∈iV l n out k,x∉out->N0 l (iV l n out k) x
 |0,_,_,h=>by omega
 |n+1,out,k,h=>by
  intro x hx hno;unfold iV at hx⊢;cases hr:aS l k with
  |none=>rw[hr]at hx;exact absurd hx hno
  |some r=>
   rw[hr]at hx;simp only at hx⊢;by_cases hk:k∈out
   ·rw[aU hk]at hx;exact absurd hx hno
   ·rw[aH hk]at hx⊢;have hlt:uD l (out++[k])<n:=by
     have:=Nc (l:=l) (out:=out) (k:=k) (mem_keys.2 (by rw[hr];rfl)) hk;omega
    have key:∀(m:List Key) (o:List Key),uD l o<n->(∀q∈m,(aS l q).isSome=true->q∈m.foldl (iV l n) o)/\∀x∈m.foldl (iV l n) o,x∉o->N0 l (m.foldl (iV l n) o) x:=by
     intro m;induction m with
     |nil=>exact fun o _=>⟨fun q hq=>by simp at hq,fun x hx hn=>absurd hx hn⟩
     |cons q m ih=>
      intro o ho;rw[rR];have hle:uD l (iV l n o q)<n:=by
       have:=XY (l:=l) (a:=o) (b:=iV l n o q) (fun x hx=>FK l n o q x hx);omega
      obtain⟨i1,i2⟩:=ih _ hle;have hsub:∀x,x∈iV l n o q->x∈m.foldl (iV l n) (iV l n o q):=fun x hx=>JJ (FK l n) m _ x hx;refine⟨fun p hp hs=>?_,fun x hx hn=>?_⟩
      ·rcases kN.1 hp with e|e
       ·subst e;cases n with
        |zero=>omega
        |succ n=>exact hsub _ (Bx l n o _ hs)
       ·exact i1 p e hs
      ·by_cases hv:x∈iV l n o q
       ·intro r hr p hp hs;exact hsub _ (By l n o q ho x hv hn r hr p hp hs)
       ·exact i2 x hx hv
    obtain⟨k1,k2⟩:=key (eT r) (out++[k]) hlt;by_cases hxk:x=k
    ·subst hxk;intro r' hr' q hq hs;rw[hr]at hr';cases hr';exact k1 q hq hs
    ·exact k2 x hx (by simp[hno,hxk])
theorem zcu (l:List aA):∀x∈wK l,N0 l (wK l) x:=by
 have key:∀(m o:List Key),(∀x∈o,N0 l o x)->∀x∈m.foldl (iV l (l.length+1)) o,N0 l (m.foldl (iV l (l.length+1)) o) x:=by
  intro m;induction m with
  |nil=>exact fun o h=>h
  |cons q m ih=>
   intro o h;rw[rR];refine ih _ fun x hx=>?_;by_cases hn:x∈o
   ·intro r hr p hp hs;exact FK l _ o q p (h x hn r hr p hp hs)
   ·exact By l _ o q (by have:=Nd l o;omega) x hx hn
 exact key _ [] (fun x hx=>by simp at hx)
theorem zcs {l:List aA}{k:Key}(h:k∈CG l):k∈wK l:=by
 have key:∀(m o:List Key),k∈m->k∈m.foldl (iV l (l.length+1)) o:=by
  have hs:(aS l k).isSome=true:=by
   obtain⟨r,hr,rfl⟩:=eR.1 h;exact mem_keys.1 (eR.2 ⟨r,(jD.1 hr).1,rfl⟩)
  intro m;induction m with
  |nil=>intro o h;simp at h
  |cons q m ih=>
   intro o hm;rw[rR];rcases kN.1 hm with e|e
   ·subst e;exact JJ (FK l _) m _ _ (Bx l _ o _ hs)
   ·exact ih _ e
 exact key _ [] h
theorem XM {l:List aA}(h:(wO l).length=0){r:aA}(hr:r∈l){q:Key}(hq:q∈eT r):(aS l q).isSome=true:=by
 cases e:(aS l q).isSome with
 |true=>rfl
 |false=>
  have:q∈wO l:=zfj.2 ⟨⟨r,hr,hq⟩,e⟩;rw[jL h]at this;simp at this
theorem pD {l:List aA}(h:fF l=0){r:aA}(hr:r∈l):eL r=0:=by
 have h1:oF l=0:=by
  unfold fF at h;split at h
  ·simp at h
  ·split at h
   ·assumption
   ·exact h
 unfold oF at h1;cases e:l.find? (fun r=>!decide (eL r=0))with
 |none=>
  have:=xJ.1 e r hr;simpa using this
 |some x=>
  rw[e]at h1;have:=KR e;simp at this;exact absurd h1 this
theorem U6 {l:List aA}(h:fF l=0):(u7 l).Nodup:=by
 unfold fF at h;split at h
 ·simp at h
 ·split at h
  ·split at h
   ·simp at h
   ·split at h
    ·assumption
    ·simp at h
  ·rename_i h2;exact absurd h h2
open Go.AI
def iY (k:Key):Bool:=cG k.kind 3&&kH k.name
def oA (f:Frame):Bool:=
 (decide (f.aD.length<=64)&&decide (f.gone.length<=64)&&decide (f.bF.length<=64)&&decide (f.held.length<=64))
   &&(f.bF.all fun m=>cG m.cS 2147483647)&&cG f.aF 2147483647&&cG f.cY 2147483647&&cG f.aL 2147483647&&cG f.err 15
def tP (f:Frame):Frame:=
 if f.type=0 then{f with aF:=0,bF:=[]}
 else if f.type=1 then{f with aF:=0,kind:=0,cY:=0,aD:=[],gone:=[]}
 else if f.type=2 then{f with aF:=0,kind:=0,cY:=0,err:=0,aL:=0,held:=[]}
 else if f.type=3 then{f with aF:=0,aL:=0,held:=[]}
 else{f with aF:=0}
def AM (f:Frame):Bool:=decide (tP f={fQ with type:=f.type})
def mV (f:Frame):Bool:=f.gone.all iY&&f.held.all iY&&f.bF.all fun m=>iY m.k
def uE (f:Frame):Bool:=(f.aD.all fun r=>decide (r.kind=f.kind))&&f.gone.all fun k=>decide (k.kind=f.kind)
def eX (f:Frame):Int:=
 if(cG f.type 3&&cG f.kind 3)=false then 4 else if oA f=false then 3 else if AM f=false then 2 else if mV f=false then 5
 else if¬oF f.aD=0 then oF f.aD else if uE f=false then 2 else 0
@[simp] def CN (o:aE.Ou):List D:=[iD o.l0,iD o.l1,iD o.l2,iD o.l3,bD o.o0,bD o.o1,bD o.o2,bD o.o3,iD o.m]
structure cL where
 aF:Int
 lB:Bool
 out:aE.Ou
 v:View
 stuck:Int
 at_:Int
 deriving DecidableEq
@[simp] def oP (s:cL):List D:=[iD s.aF,bD s.lB]++CN s.out++DT s.v++[iD s.stuck,iD s.at_]
structure xB (s:cL):Prop where
 v:Tx s.v
def xN :View:=⟨[],[],0,fQ,false⟩
def kP (aF most:Int):cL:=⟨max 0 (min aF 2147483647),false,aE.DZ most,xN,0,0⟩
def rK (v:View):Frame:=⟨0,0,0,0,0,[],[],0,qK v.bF,[]⟩
def tM (v:View):Frame:=⟨3,0,0,0,v.aL,[],[],0,[],v.held⟩
def H7 (v:View):Bool:=decide (eX (rK v)=0)&&decide (eX (tM v)=0)
def nO (s:cL):Bool:=
 s.lB&&decide (eX s.v.push=0)&&decide (s.v.push.type=1)&&decide (s.v.push.aF=s.aF)
  &&s.out.kV s.v.push.kind&&decide (s.out.last s.v.push.kind=s.v.push.cY)
def u9 (s:cL):Bool:=cG s.aF 2147483647&&decide (0<=s.at_)&&cG s.stuck 15
def gC (s:cL):Bool:=u9 s&&aE.kQ s.out&&H7 s.v&&(!s.v.open_||nO s)
def kA (s:cL):cL:=if gC s then s else kP s.aF s.out.m
def dR (p:aT):List aA:=fW (gZ p)
def oT (p:aT):Int:=((gZ p).bV.length:Int)-1
def wS (p:aT)(v:View)(l:List Mark):View:={v with bF:=qL p l,held:=if v.aL=0 then(qL p l).map aA.key else v.held}
def uI (s:cL)(p:aT)(f:Frame):cL×Int:=if s.lB=true then(s,9)else({s with lB:=true,v:=wS p s.v f.bF},0)
def qU (s:cL)(p:aT)(f:Frame):cL×Int:=
 if¬(aE.done s.out f.kind f.cY).2=0 then(s,(aE.done s.out f.kind f.cY).2)else if s.v.open_=false then(s,15)
 else if(j4 s.v f).open_=true then(s,11)else if 64<(j4 s.v f).bF.length then(s,3)
 else(⟨s.aF,s.lB,(aE.done s.out f.kind f.cY).1,j4 s.v f,f.err,oT p⟩,0)
def CY (s:cL)(f:Frame):cL×Int:=({s with v:=eE s.v f.aL f.held},0)
def qN (s:cL)(p:aT)(f:Frame):cL×Int:=
 if¬eX f=0 then(s,eX f)else if¬f.aF=s.aF then(s,11)
 else if f.type=0 then uI s p f else if f.type=1 then(s,2)else if f.type=2 then qU s p f else CY s f
def handle (s:cL)(p:aT)(f:Frame):cL×Int:=qN (kA s) p f
structure Step where
 kind:Int
 aD:List aA
 gone:List Key
 deriving DecidableEq
@[simp] def FP (s:Step):List D:=[iD s.kind,lD (s.aD.map aK),lD (s.gone.map bP)]
def pW (l:List aA)(n:Int):List aA:=l.filter fun r=>decide (r.kind=n)
def qM (l:List Key)(n:Int):List Key:=l.filter fun k=>decide (k.kind=n)
structure eZ where
 aD:List aA
 gone:List Key
 reach:List Key
 bF:List aA
 held:List Key
def cX (hv want:List aA)(held:List Key):eZ:=⟨mN hv want,oG hv want,(dO want).map aA.key,hv,held⟩
def eZ.early (j:eZ)(n:Int):Step:=⟨n,(pW j.aD n).filter fun r=>decide (r.key∈j.reach),[]⟩
def eZ.late (j:eZ)(n:Int):Step:=⟨n,pW j.aD n,[]⟩
def eZ.off (j:eZ)(n:Int):Step:=⟨n,[],qM j.gone n⟩
def eZ.zP (j:eZ)(k:Key):Bool:=!(decide (k∈j.held)||decide (0<(uA j.bF k).length))
def eZ.free (j:eZ)(n:Int):Step:=⟨n,[],(qM j.gone n).filter j.zP⟩
def eZ.doors (j:eZ)(n:Int):Step:=⟨n,pW j.aD n,qM j.gone n⟩
def Step.none (s:Step):Bool:=decide (s.aD.length+s.gone.length=0)
def eZ.steps (j:eZ):List Step:=[j.early 3,j.early 2,j.early 1,j.doors 0,j.late 3,j.late 2,j.late 1,j.free 1,j.free 2,j.free 3]
def mU (hv want:List aA)(held:List Key):Option Step:=(cX hv want held).steps.find? fun s=>!s.none
def gE (s:cL)(x:Step)(n:Int):Frame:=⟨1,s.aF,x.kind,n,0,x.aD,x.gone,0,[],[]⟩
def idle (s:cL)(p:aT):Bool:=!s.lB||s.v.open_|| (!decide (s.stuck=0)&&decide (s.at_=oT p))
def tA (s:cL)(x:Step):cL×List Frame×Int:=
 if(aE.push s.out x.kind).2.2=0 then
  ({s with v:=lK s.v (gE s x (aE.push s.out x.kind).2.1),out:=(aE.push s.out x.kind).1},[gE s x (aE.push s.out x.kind).2.1],0)
 else(s,[],(aE.push s.out x.kind).2.2)
def oB (s:cL)(p:aT):cL×List Frame×Int:=
 if idle s p=true then(s,[],0)else
 match mU s.v.bF (dR p) s.v.held with
 |.none=>(s,[],0)
 |.some x=>tA s x
def dD (s:cL)(p:aT):cL×List Frame×Int:=oB (kA s) p
def fJ (s:cL):List Frame:=if(kA s).v.open_=true then [(kA s).v.push]else []
def pF (s:cL)(p:aT):Bool:=(kA s).lB&& !(kA s).v.open_&&decide ((kA s).v.bF=dR p)
theorem ZB {l:List aA}:oF l=0↔∀r∈l,eL r=0:=by
 unfold oF;constructor
 ·intro h r hr;split at h
  ·rename_i x hx;have:=KR hx;simp[h]at this
  ·rename_i hx;have:=xJ.1 hx r hr;simpa using this
 ·intro h;have:l.find? (fun r=>!decide (eL r=0))=none:=by rw[xJ];intro r hr;simp[h r hr]
  rw[this]
structure Ao (f:Frame):Prop where
 type:cG f.type 3=true
 kind:cG f.kind 3=true
 small:oA f=true
 shaped:AM f=true
 named:mV f=true
 aD:∀r∈f.aD,eL r=0
 alike:uE f=true
theorem nW {f:Frame}:eX f=0↔Ao f:=by
 constructor
 ·intro h;unfold eX at h
  (repeat' split at h)<;>first|omega|skip
  rename_i h1 h2 h3 h4 h5 h6;simp at h1 h2 h3 h4 h5 h6;exact⟨h1.1,h1.2,h2,h3,h4,ZB.1 h5,h6⟩
 ·intro h;unfold eX;have:=ZB.2 h.aD;simp[h.type,h.kind,h.small,h.shaped,h.named,this,h.alike]
theorem xR {f:Frame}(h:oA f=true):f.aD.length<=64/\f.gone.length<=64/\f.bF.length<=64/\f.held.length<=64/\(∀m∈f.bF,cG m.cS 2147483647=true)/\cG f.aF 2147483647=true/\cG f.cY 2147483647=true/\cG f.aL 2147483647=true/\cG f.err 15=true:=by
 simp only[oA,bN,cP,eF]at h;exact⟨h.1.1.1.1.1.1.1.1,h.1.1.1.1.1.1.1.2,h.1.1.1.1.1.1.2,h.1.1.1.1.1.2,h.1.1.1.1.2,h.1.1.1.2,h.1.1.2,h.1.2,h.2⟩
theorem Og {v:View}:eX (rK v)=0↔v.bF.length<=64/\∀r∈v.bF,cG r.cS 2147483647=true/\iY r.key=true:=by
 rw[nW];constructor
 ·intro h;have h1:=xR h.small;refine⟨by simpa[rK]using h1.2.2.1,fun r hr=>⟨?_,?_⟩⟩
  ·exact h1.2.2.2.2.1 ⟨r.key,r.cS⟩ (eR.2 ⟨r,hr,rfl⟩)
  ·have:=h.named;simp only[mV,rK,bN,eF]at this;exact this.2 ⟨r.key,r.cS⟩ (eR.2 ⟨r,hr,rfl⟩)
 ·rintro⟨h1,h2⟩;refine⟨rfl,rfl,?_,rfl,?_,by simp[rK],rfl⟩
  ·simp only[oA,rK,bN,cP,eF];refine⟨⟨⟨⟨⟨⟨⟨⟨by simp,by simp⟩,by simpa using h1⟩,by simp⟩,?_⟩,rfl⟩,rfl⟩,rfl⟩,rfl⟩;intro m hm;obtain⟨r,hr,rfl⟩:=eR.1 hm;exact(h2 r hr).1
  ·simp only[mV,rK,bN,eF];refine⟨⟨by simp,by simp⟩,fun m hm=>?_⟩;obtain⟨r,hr,rfl⟩:=eR.1 hm;exact(h2 r hr).2
theorem ZM {v:View}:eX (tM v)=0↔v.held.length<=64/\cG v.aL 2147483647=true/\∀k∈v.held,iY k=true:=by
 rw[nW];constructor
 ·intro h;have h1:=xR h.small;refine⟨h1.2.2.2.1,h1.2.2.2.2.2.2.2.1,fun k hk=>?_⟩;have:=h.named;simp only[mV,tM,bN,eF]at this;exact this.1.2 k hk
 ·rintro⟨h1,h2,h3⟩;refine⟨rfl,rfl,?_,rfl,?_,by simp[tM],rfl⟩
  ·simp only[oA,tM,bN,cP,eF];exact⟨⟨⟨⟨⟨⟨⟨⟨by simp,by simp⟩,by simp⟩,by first|exact h1|exact tS h1⟩,by simp⟩,rfl⟩,rfl⟩,h2⟩,rfl⟩
  ·simp only[mV,tM,bN,eF];exact⟨⟨by simp,h3⟩,by simp⟩
structure TV (s:cL):Prop where
 plain:u9 s=true
 out:aE.kQ s.out=true
 hl:s.v.bF.length<=64
 bF:∀r∈s.v.bF,cG r.cS 2147483647=true/\iY r.key=true
 dl:s.v.held.length<=64
 aL:cG s.v.aL 2147483647=true
 held:∀k∈s.v.held,iY k=true
 waits:s.v.open_=true->nO s=true
theorem lV {s:cL}:gC s=true↔TV s:=by
 constructor
 ·intro h;simp only[gC,H7,bN,cP]at h;obtain⟨⟨⟨h1,h2⟩,h3,h4⟩,h5⟩:=h;rw[Og]at h3;rw[ZM]at h4;exact⟨h1,h2,h3.1,h3.2,h4.1,h4.2.1,h4.2.2,fun h=>by simpa[h]using h5⟩
 ·intro h;simp only[gC,H7,bN,cP];refine⟨⟨⟨h.plain,h.out⟩,Og.2 ⟨h.hl,h.bF⟩,ZM.2 ⟨h.dl,h.aL,h.held⟩⟩,?_⟩;cases ho:s.v.open_ with
  |false=>rfl
  |true=>simpa using h.waits ho
theorem zgL (n:Int):aE.kQ (aE.DZ n)=true:=by
 have:=aE.NC n;simp only[aE.kQ,aE.DZ,aE.Ou.qC,bN,aE.AL];refine⟨by simp,?_⟩;omega
theorem LS (e m:Int):gC (kP e m)=true:=by
 rw[lV];refine⟨?_,zgL m,by simp[kP,xN],by simp[kP,xN],by simp[kP,xN],by simp[kP,xN,cG],by simp[kP,xN],by simp[kP,xN]⟩;simp only[u9,kP,cG,bN,cP];refine⟨⟨⟨?_,?_⟩,by simp⟩,by simp,by simp⟩<;>first|omega| (refine tS ?_;omega)
theorem Dq (s:cL):gC (kA s)=true:=by
 unfold kA;split
 ·assumption
 ·exact LS _ _
theorem nP {s:cL}(h:gC s=true):kA s=s:=by simp[kA,h]
theorem CM {o:aE.Ou}(h:aE.kQ o=true):aE.zG o=o:=by simp[aE.zG,h]
theorem O7 {r:aA}(h:eL r=0):cG r.cS 2147483647=true/\iY r.key=true:=by
 cases h1:cG r.kind 3 with
 |false=>simp[eL,h1]at h
 |true=>
  cases h2:kH r.name with
  |false=>simp[eL,h1,h2]at h
  |true=>
   cases h3:pE r with
   |false=>simp[eL,h1,h2,h3]at h
   |true=>
    refine⟨?_,by simp[iY,aA.key,h1,h2]⟩;simp only[pE,bN]at h3;exact h3.1.1.1.1.1
theorem zgO {o:aE.Ou}(h:aE.kQ o=true)(k n:Int):aE.kQ (aE.done o k n).1=true:=by
 simp only[aE.done,CM h];obtain⟨a,b,c,d,x,y,z,t,m⟩:=o;simp only[aE.G1];split
 ·exact h
 ·split
  ·exact h
  ·simp only[aE.Ou.set,aE.Ou.last];simp only[aE.kQ,aE.Ou.qC,bN]at h⊢
   (repeat' split)<;>simp_all
theorem zfk {p:aT}{l:List Mark}{x:aA}(h:x∈qL p l):∃m∈l,x.key=m.k/\x.cS=m.cS:=by
 rcases XN h with h|h
 ·cases h
 ·obtain⟨m,hm,rfl⟩:=eR.1 h;exact⟨m,hm,zen p m,zel p m⟩
theorem zeu (p:aT):0<=oT p:=by
 have:0<(gZ p).bV.length:=by
  unfold gZ;split
  ·simp[iA]
  ·rename_i h;exact xI.2 h
 unfold oT;omega
theorem mF {n m:Int}:cG n m=true↔0<=n/\n<=m:=by simp[cG]
theorem Ta {v:View}{f:Frame}{x:aA}(h:x∈(j4 v f).bF):x∈v.bF\/(v.open_=true/\x∈v.push.aD):=by
 unfold j4 at h;split at h
 ·exact Or.inl h
 ·rename_i ho;split at h
  ·exact Or.inl h
  ·simp only at h;split at h
   ·rcases QX h with h|h
    ·exact Or.inl h
    ·exact Or.inr ⟨by simpa using ho,h⟩
   ·exact Or.inl h
theorem SK (v:View)(t:Int)(h:List Key):(eE v t h).held=(if v.aL<t then h else v.held)/\(eE v t h).aL=(if v.aL<t then t else v.aL):=by
 unfold eE;split<;>simp
theorem Ai (v:View)(f:Frame):((j4 v f).held=v.held/\(j4 v f).aL=v.aL)\/(v.aL<f.aL/\(j4 v f).held=f.held/\(j4 v f).aL=f.aL):=by
 unfold j4;split
 ·exact Or.inl ⟨rfl,rfl⟩
 ·split
  ·exact Or.inl ⟨rfl,rfl⟩
  ·have:=SK ⟨v.bF,v.held,v.aL,fQ,false⟩ f.aL f.held;simp only at this⊢;rw[this.1,this.2];split
   ·exact Or.inr ⟨by assumption,rfl,rfl⟩
   ·exact Or.inl ⟨rfl,rfl⟩
theorem E0 {s:cL}(p:aT)(f:Frame)(hs:gC s=true):gC (handle s p f).1=true:=by
 unfold handle;rw[nP hs];unfold qN;have S:=lV.1 hs;split
 ·exact hs
 ·rename_i hf;have F:=nW.1 (rS.1 hf);have L:=xR F.small;split
  ·exact hs
  ·split
   ·unfold uI;split
    ·exact hs
    ·rename_i hg;have hno:s.v.open_=false:=by
      cases ho:s.v.open_ with
      |false=>rfl
      |true=>
       have:=S.waits ho;simp only[nO,bN]at this;exact absurd this.1.1.1.1.1 hg
     have hk:∀r∈qL p f.bF,cG r.cS 2147483647=true/\iY r.key=true:=by
      intro r hr;obtain⟨m,hm,h1,h2⟩:=zfk hr;have hn:=F.named;simp only[mV,bN,eF]at hn;rw[h1,h2];exact⟨L.2.2.2.2.1 m hm,hn.2 m hm⟩
     have hl:(qL p f.bF).length<=64:=fV (X8 p _) L.2.2.1;rw[lV];refine⟨S.plain,S.out,hl,hk,?_,S.aL,?_,?_⟩
     ·simp only[wS];split
      ·simpa using hl
      ·exact S.dl
     ·simp only[wS];split
      ·intro k hk';obtain⟨r,hr,rfl⟩:=eR.1 hk';exact(hk r hr).2
      ·exact S.held
     ·intro ho;rw[show({s with lB:=true,v:=wS p s.v f.bF}:cL).v.open_=s.v.open_ from rfl,hno]at ho;cases ho
   ·split
    ·exact hs
    ·split
     ·unfold qU;split
      ·exact hs
      ·split
       ·exact hs
       ·rename_i hop;split
        ·exact hs
        ·rename_i hcl;split
         ·exact hs
         ·rename_i h64;rw[lV];have hw:=S.waits (by simpa using hop);simp only[nO,bN,cP]at hw;have P:=nW.1 hw.1.1.1.1.2;have hp:=S.plain;simp only[u9,bN,cP]at hp;refine⟨?_,zgO S.out _ _,by simpa using h64,?_,?_,?_,?_,?_⟩
          ·simp only[u9,bN,cP];exact⟨⟨hp.1.1,zeu p⟩,L.2.2.2.2.2.2.2.2⟩
          ·intro r hr;rcases Ta hr with h|⟨_,h⟩
           ·exact S.bF r h
           ·exact O7 (P.aD r h)
          ·rcases Ai s.v f with h|h
           ·rw[h.1];exact S.dl
           ·rw[h.2.1];exact L.2.2.2.1
          ·rcases Ai s.v f with h|h
           ·rw[h.2];exact S.aL
           ·rw[h.2.2];exact L.2.2.2.2.2.2.2.1
          ·rcases Ai s.v f with h|h
           ·rw[h.1];exact S.held
           ·rw[h.2.1];have hn:=F.named;simp only[mV,bN,eF]at hn;exact hn.1.2
          ·intro ho;exact absurd ho hcl
     ·unfold CY;rw[lV];have hd:=SK s.v f.aL f.held;refine⟨S.plain,S.out,by simpa using S.hl,by simpa using S.bF,?_,?_,?_,?_⟩
      ·simp only[hd.1];split
       ·exact L.2.2.2.1
       ·exact S.dl
      ·simp only[hd.2];split
       ·exact L.2.2.2.2.2.2.2.1
       ·exact S.aL
      ·simp only[hd.1];split
       ·have hn:=F.named;simp only[mV,bN,eF]at hn;exact hn.1.2
       ·exact S.held
      ·intro ho;have:=S.waits (by simpa using ho);simpa[nO]using this
theorem ES (x m:Int)(hm:1<=m):((if 0<(if m<x then m else x)then(if m<x then m else x)else 0)=x)↔(0<=x/\x<=m):=by
 by_cases h:m<x<;>simp[h]<;>(try omega)
theorem zgB {s:cL}(p:aT)(f:Frame)(hs:gC s=true):(handle s p f).1.v.push=s.v.push\/(handle s p f).1.v.push=fQ:=by
 unfold handle;rw[nP hs];unfold qN uI qU CY wS
 (repeat' split)<;>first|exact Or.inl rfl|skip
 ·rcases zki s.v f with e|e
  ·exact Or.inl e
  ·exact Or.inr e
 ·exact Or.inl (zhS _ _ _)
theorem zi7 (n:Int):(if 1<(if 2147483647<n then 2147483647 else n)then(if 2147483647<n then(2147483647:Int)else n)else 1)=aE.j3 n:=by
 unfold aE.j3;by_cases h:2147483647<n
 ·simp[h];omega
 ·simp[h];omega
theorem zg8 {l:List Int}{k:Nat}{x:Int}(h:(l.take k).all (fun e=>decide (e=0))=true)(hr:l[k]? =some x)(hx:¬x=0):(l.find? fun e=>!decide (e=0))=some x:=
 SC (k:=k) (x:=x) (by simpa using h) hr (by simpa using hx)
theorem zg9 {l:List Int}(h:l.all (fun e=>decide (e=0))=true):(l.find? fun e=>!decide (e=0))=none:=
 ZC (by simpa using h)
theorem JY {α:Type}(l:List α)(p:α->Bool):(l.any fun x=>!p x)= !l.all p:=by
 induction l with
 |nil=>rfl
 |cons a l ih=>simp[ih,Bool.not_and]
theorem zjo {f:Frame}(h:jB f):jB (tP f):=by
 have h0:dK []:=⟨by simp,by simp⟩;unfold tP
 (repeat' split)<;>constructor<;>first|exact h.aD|exact h.gone|exact h.bF|exact h.held|exact h0|simp
theorem Zr (i:aE.Nn)(h:(decide ((if 0<(if i.m<i.l0 then i.m else i.l0)then(if i.m<i.l0 then i.m else i.l0)else 0)=i.l0)&&(decide ((if 0<(if i.m<i.l1 then i.m else i.l1)then(if i.m<i.l1 then i.m else i.l1)else 0)=i.l1)&&(decide ((if 0<(if i.m<i.l2 then i.m else i.l2)then(if i.m<i.l2 then i.m else i.l2)else 0)=i.l2)&&decide ((if 0<(if i.m<i.l3 then i.m else i.l3)then(if i.m<i.l3 then i.m else i.l3)else 0)=i.l3))))=true):decide (i.m=aE.j3 i.m)=aE.tZ i:=by
 obtain⟨a,b,c,d,m⟩:=i;simp only[bN,cP]at h;obtain⟨h0,h1,h2,h3⟩:=h;rw[DP];dsimp only at h0 h1 h2 h3⊢;rw[aE.AL];rw[decide_eq_true_iff];constructor
 ·intro hm0;have hm:=aE.NC m;rw[<-hm0]at hm;have:=(ES _ _ hm.1).1 h0;have:=(ES _ _ hm.1).1 h1;have:=(ES _ _ hm.1).1 h2;have:=(ES _ _ hm.1).1 h3;clear h0 h1 h2 h3 hm0;omega
 ·intro hm;clear h0 h1 h2 h3;unfold aE.j3;omega
theorem Zs (i:aE.Nn)(h:(decide ((if 0<(if i.m<i.l0 then i.m else i.l0)then(if i.m<i.l0 then i.m else i.l0)else 0)=i.l0)&&(decide ((if 0<(if i.m<i.l1 then i.m else i.l1)then(if i.m<i.l1 then i.m else i.l1)else 0)=i.l1)&&(decide ((if 0<(if i.m<i.l2 then i.m else i.l2)then(if i.m<i.l2 then i.m else i.l2)else 0)=i.l2)&&decide ((if 0<(if i.m<i.l3 then i.m else i.l3)then(if i.m<i.l3 then i.m else i.l3)else 0)=i.l3))))=false):aE.tZ i=false:=by
 obtain⟨a,b,c,d,m⟩:=i;rw[Bool.eq_false_iff];intro hs;rw[aE.AL]at hs;obtain⟨a1,a2,a3,a4,a5,a6,a7,a8,a9,a10⟩:=hs;rw[Bool.eq_false_iff]at h;apply h;simp only[bN,cP];exact⟨(ES _ _ a9).2 ⟨a1,a2⟩,(ES _ _ a9).2 ⟨a3,a4⟩,(ES _ _ a9).2 ⟨a5,a6⟩,(ES _ _ a9).2 ⟨a7,a8⟩⟩
theorem zhb (f:Frame):(([if(cG f.type 3&&cG f.kind 3)=true then 0 else 4,if oA f=true then 0 else 3,if AM f=true then 0 else 2,if mV f=true then 0 else 5,oF f.aD,if uE f=true then 0 else 2]:List Int).find? fun e=>!decide (e=0)).getD 0=eX f:=by
 unfold eX;cases h1:(cG f.type 3&&cG f.kind 3)<;>cases h2:oA f<;>cases h3:AM f<;>cases h4:mV f<;>cases h6:uE f<;>by_cases h5:oF f.aD=0<;>simp[oL,h5]
theorem zgv (e m:Int)(p:aT)(g:Frame)(h:eX g=0)(he:g.aF=(kP e m).aF)(h0:g.type=0):
  handle (kP e m) p g=({kP e m with lB:=true,v:=wS p (kP e m).v g.bF},0):=by
 unfold handle;rw[nP (LS e m)];simp[qN,h,he,h0,uI,kP]
theorem zhz (n:Int):(if 0<(if 2147483647<n then 2147483647 else n)then(if 2147483647<n then(2147483647:Int)else n)else 0)=max 0 (min n 2147483647):=by
 by_cases h:2147483647<n
 ·simp[h];omega
 ·simp[h];omega
theorem zgu (v:View)(h:v.bF.length<=9223372036854775807):jB (rK v):=⟨⟨by simp[rK],by simp[rK]⟩,by simp[rK],by simpa[rK]using h,by simp[rK]⟩
theorem PB {n:Int}(h:cG n 3=true):n=0\/n=1\/n=2\/n=3:=by
 simp only[cG,bN,cP]at h;omega
theorem PO {f:Frame}(h:eX f=0):f.kind=0\/f.kind=1\/f.kind=2\/f.kind=3:=PB (nW.1 h).kind
theorem Hf {f:Frame}(h:eX f=0):f.type=0\/f.type=1\/f.type=2\/f.type=3:=PB (nW.1 h).type
structure J4 (hv want:List aA)(held:List Key)(x:Step):Prop where
 kind:x.kind=0\/x.kind=1\/x.kind=2\/x.kind=3
 aD:∀r∈x.aD,r∈want/\r.kind=x.kind
 gone:∀k∈x.gone,k∈hv.map aA.key/\k.kind=x.kind
 al:x.aD.length<=want.length
 gl:x.gone.length<=hv.length
 some:0<x.aD.length+x.gone.length
 free:¬x.kind=0->∀k∈x.gone,k∉held/\(uA hv k).length=0
theorem QY {l:List aA}{n:Int}{r:aA}:r∈pW l n↔r∈l/\r.kind=n:=by simp[pW]
theorem QZ {l:List Key}{n:Int}{k:Key}:k∈qM l n↔k∈l/\k.kind=n:=by simp[qM]
theorem ZR (a b:List aA):(mN a b).length<=b.length:=kS _ _
theorem ZQ (a b:List aA):(oG a b).length<=a.length:=fV (kS _ _) (by simp)
theorem MO (l:List aA)(n:Int):(pW l n).length<=l.length:=kS _ _
theorem RN (l:List Key)(n:Int):(qM l n).length<=l.length:=kS _ _
theorem IP {hv want:List aA}{held:List Key}{x:Step}(h:mU hv want held=.some x):J4 hv want held x:=by
 have hs:=KR h;have hm:=N6 h;have h0:0<x.aD.length+x.gone.length:=by
  simp only[Step.none,pN,uT]at hs;omega
 have hA:∀r n,r∈pW (mN hv want) n->r∈want/\r.kind=n:=fun r n hr=>⟨(jD.1 (QY.1 hr).1).1,(QY.1 hr).2⟩;have hG:∀k n,k∈qM (oG hv want) n->k∈hv.map aA.key/\k.kind=n:=fun k n hk=>⟨(jD.1 (QZ.1 hk).1).1,(QZ.1 hk).2⟩;have lA:∀n,(pW (mN hv want) n).length<=want.length:=fun n=>fV (MO _ _) (ZR _ _);have lG:∀n,(qM (oG hv want) n).length<=hv.length:=fun n=>fV (RN _ _) (ZQ _ _);have early:∀n,(n=0\/n=1\/n=2\/n=3)->x=(cX hv want held).early n->J4 hv want held x:=by
  rintro n hn rfl;exact⟨hn,fun r hr=>hA r n (jD.1 hr).1,fun k hk=>(by cases hk),fV (kS _ _) (lA n),DI _,h0,fun _ k hk=>(by cases hk)⟩
 have late:∀n,(n=0\/n=1\/n=2\/n=3)->x=(cX hv want held).late n->J4 hv want held x:=by
  rintro n hn rfl;exact⟨hn,fun r hr=>hA r n hr,fun k hk=>(by cases hk),lA n,DI _,h0,fun _ k hk=>(by cases hk)⟩
 have free:∀n,(n=0\/n=1\/n=2\/n=3)->x=(cX hv want held).free n->J4 hv want held x:=by
  rintro n hn rfl;refine⟨hn,fun r hr=>(by cases hr),fun k hk=>hG k n (jD.1 hk).1,DI _,fV (kS _ _) (lG n),h0,fun _ k hk=>?_⟩;have:=(jD.1 hk).2;simp only[eZ.zP,pN,AH]at this;have h1:=HF this.1;have h2:=HF this.2;simp only[cX]at h1 h2;exact⟨h1,by omega⟩
 simp only[eZ.steps,kN,DJ,or_false]at hm;rcases hm with hm|hm|hm|hm|hm|hm|hm|hm|hm|hm
 ·exact early 3 (by simp) hm
 ·exact early 2 (by simp) hm
 ·exact early 1 (by simp) hm
 ·subst hm;exact⟨Or.inl rfl,fun r hr=>hA r 0 hr,fun k hk=>hG k 0 hk,lA 0,lG 0,h0,fun h=>absurd rfl h⟩
 ·exact late 3 (by simp) hm
 ·exact late 2 (by simp) hm
 ·exact late 1 (by simp) hm
 ·exact free 1 (by simp) hm
 ·exact free 2 (by simp) hm
 ·exact free 3 (by simp) hm
theorem Nq {n:Int}(h:n=0\/n=1\/n=2\/n=3):cG n 3=true:=by
 rcases h with rfl|rfl|rfl|rfl<;>rfl
theorem I9 {n:Int}(h:n=0\/n=1\/n=2\/n=3):aE.gH n=true:=by
 rcases h with rfl|rfl|rfl|rfl<;>rfl
theorem Hg {o:aE.Ou}(h:aE.kQ o=true){k:Int}(hk:k=0\/k=1\/k=2\/k=3)(he:(aE.push o k).2.2=0):
  aE.kQ (aE.push o k).1=true/\cG (aE.push o k).2.1 2147483647=true/\(aE.push o k).1.kV k=true/\(aE.push o k).1.last k=(aE.push o k).2.1:=by
 simp only[aE.push,CM h]at he⊢;obtain⟨a,b,c,d,x,y,z,t,m⟩:=o;simp only[aE.kQ,aE.Ou.qC,bN,aE.AL]at h;simp only[aE.EF,I9 hk]at he⊢;rcases hk with rfl|rfl|rfl|rfl<;>simp only[aE.Ou.kV,aE.Ou.last,aE.Ou.set]at he⊢<;>
  ((repeat' split at he)<;>first| (exfalso;revert he;decide)|skip)<;>
  simp_all[aE.kQ,aE.Ou.qC,aE.AL,cG]<;>omega
theorem WE {hv want:List aA}{held:List Key}{x:Step}{s:cL}{n:Int}(hx:J4 hv want held x)(hS:TV s)(hv':hv=s.v.bF)(hw:fF want=0)(hn:cG n 2147483647=true):eX (gE s x n)=0:=by
 subst hv';have hwl:want.length<=64:=by
  unfold fF at hw;split at hw
  ·cases hw
  ·omega
 have hp:=hS.plain;simp only[u9,bN,cP]at hp;have hA:∀r∈x.aD,eL r=0:=fun r hr=>pD hw (hx.aD r hr).1;rw[nW];refine⟨rfl,Nq hx.kind,?_,rfl,?_,hA,?_⟩
 ·have h1:=hx.al;have h2:=hx.gl;have h3:=hS.hl;simp only[oA,gE,bN,cP];have a1:x.aD.length<=64:=by omega
  have a2:x.gone.length<=64:=by omega
  exact⟨⟨⟨⟨⟨⟨⟨⟨tS a1,tS a2⟩,by simp⟩,by simp⟩,by simp⟩,hp.1.1⟩,hn⟩,rfl⟩,rfl⟩
 ·simp only[mV,gE,bN,eF];refine⟨⟨fun k hk=>?_,by simp⟩,by simp⟩;obtain⟨r,hr,rfl⟩:=eR.1 (hx.gone k hk).1;exact(hS.bF r hr).2
 ·simp only[uE,gE,bN,eF,cP];exact⟨fun r hr=>tS (hx.aD r hr).2,fun k hk=>tS (hx.gone k hk).2⟩
theorem VR {s:cL}{x:Step}{want:List aA}(hS:TV s)(hx:J4 s.v.bF want s.v.held x)(hw:fF want=0)(hg:s.lB=true)(he:(aE.push s.out x.kind).2.2=0):
  gC {s with v:=lK s.v (gE s x (aE.push s.out x.kind).2.1),out:=(aE.push s.out x.kind).1}=true:=by
 obtain⟨g1,g2,g3,g4⟩:=Hg hS.out hx.kind he;have hf:=WE hx hS rfl hw g2;rw[lV];refine⟨hS.plain,g1,hS.hl,hS.bF,hS.dl,hS.aL,hS.held,fun _=>?_⟩;simp only[nO,lK,bN,cP];exact⟨⟨⟨⟨⟨hg,tS hf⟩,tS rfl⟩,tS rfl⟩,g3⟩,tS g4⟩
theorem CO {p:aT}(hp:fN p=true):fF (dR p)=0:=by
 unfold dR;rw[y9 hp];exact(IA hp).rX
theorem WH {s:cL}(hs:gC s=true)(p:aT):
  (dD s p).1=s/\(dD s p).2.1=[]\/
  ∃x,mU s.v.bF (dR p) s.v.held=.some x/\s.v.open_=false/\s.lB=true/\(aE.push s.out x.kind).2.2=0/\
   dD s p=({s with v:=lK s.v (gE s x (aE.push s.out x.kind).2.1),out:=(aE.push s.out x.kind).1},[gE s x (aE.push s.out x.kind).2.1],0):=by
 unfold dD;rw[nP hs];unfold oB;by_cases hi:idle s p=true
 ·rw[aU hi];exact Or.inl ⟨rfl,rfl⟩
 rw[aH hi];simp only[idle,rT,not_or,Bool.not_eq_true,Bool.not_eq_false']at hi;cases hn:mU s.v.bF (dR p) s.v.held with
 |none=>exact Or.inl ⟨rfl,rfl⟩
 |some x=>
  unfold tA;by_cases he:(aE.push s.out x.kind).2.2=0
  ·refine Or.inr ⟨x,rfl,hi.1.2,hi.1.1,he,?_⟩;simp only[aU he]
  ·refine Or.inl ?_;simp only[aH he];exact⟨trivial,trivial⟩
theorem zcN {s:cL}(hs:gC s=true)(p:aT)(ho:s.v.open_=true):dD s p=(s,[],0):=by
 unfold dD;rw[nP hs];simp[oB,idle,ho]
theorem zdB {s:cL}(S:TV s)(ho:s.v.open_=true):s.v.bF.length+s.v.push.aD.length<=1000000/\s.v.push.gone.length<=9223372036854775807:=by
 have hw:=S.waits ho;simp only[nO,bN,cP]at hw;have P:=nW.1 hw.1.1.1.1.2;have L:=xR P.small;have:=S.hl;omega
theorem Qu {v:View}(h:v.held.length<=9223372036854775807):jB (tM v):=⟨⟨by simp[tM],by simp[tM]⟩,by simp[tM],by simp[tM],h⟩
theorem Bb :jB fQ:=⟨⟨by simp[fQ],by simp[fQ]⟩,by simp[fQ],by simp[fQ],by simp[fQ]⟩
theorem Ay :Tx xN:=⟨⟨by simp[xN],by simp[xN]⟩,by simp[xN],Bb⟩
theorem Dr {s:cL}(h:xB s):xB (kA s):=by
 unfold kA;split
 ·exact h
 ·exact⟨Ay⟩
structure zkR (s:cL)(p:aT)(f:Frame)(t:cL):Prop where
 IC:eX f=0
 type:f.type=1
 aF:f.aF=s.aF
 many:0<f.aD.length+f.gone.length
 al:f.aD.length<=64
 gl:f.gone.length<=64
 aD:∀r∈f.aD,aS (dR p) r.key=some r
 gone:¬f.kind=0->∀k∈f.gone,k∉s.v.held/\(uA s.v.bF k).length=0
 ok:dK (dR p)->jB f
 Ce:gC t=true
 topen:t.v.open_=true
 Vt:t.v.push=f
 Vq:t.v.bF=s.v.bF/\t.v.held=s.v.held
 marks:f.bF=[]
theorem VS {s:cL}{p:aT}(hs:gC s=true)(hp:fN p=true){x:Step}(c1:mU s.v.bF (dR p) s.v.held=.some x)(c3:s.lB=true)(c4:(aE.push s.out x.kind).2.2=0):
  zkR s p (gE s x (aE.push s.out x.kind).2.1) {s with v:=lK s.v (gE s x (aE.push s.out x.kind).2.1),out:=(aE.push s.out x.kind).1}:=by
 have S:=lV.1 hs;have hx:=IP c1;have hw:=CO hp;obtain⟨g1,g2,g3,g4⟩:=Hg S.out hx.kind c4;have hf:=WE hx S rfl hw g2;have L:=xR (nW.1 hf).small;refine⟨hf,rfl,rfl,hx.some,L.1,L.2.1,fun r hr=>jJ (iC hw) (hx.aD r hr).1,hx.free,fun ho=>⟨⟨by have:=L.1;omega,fun r hr=>ho.all r (hx.aD r hr).1⟩,by have:=L.2.1;omega,by simp[gE],by simp[gE]⟩,VR S hx hw c3 c4,rfl,rfl,⟨rfl,rfl⟩,rfl⟩
inductive jS (l:List aA):Key->Prop
 |root {r:aA} (h:r∈l) (h0:r.kind=0):jS l r.key
 |step {k:Key} {r:aA} {q:Key} (h:jS l k) (hr:aS l k=some r) (hq:q∈eT r) (hs:(aS l q).isSome=true):jS l q
theorem jS.some {l:List aA}{k:Key}(h:jS l k):(aS l k).isSome=true:=by
 cases h with
 |root h h0=>exact mem_keys.1 (eR.2 ⟨_,h,rfl⟩)
 |step _ _ _ hs=>exact hs
theorem Bw (l:List aA):∀(n:Nat) (out:List Key) (k:Key),(∀x∈out,jS l x)->((aS l k).isSome=true->jS l k)->∀x∈iV l n out k,jS l x
 |0,out,k,h,_,x,hx=>h x hx
 |n+1,out,k,h,hk,x,hx=>by
  unfold iV at hx;split at hx
  ·exact h x hx
  ·rename_i r hr;split at hx
   ·exact h x hx
   ·have hkk:=hk (by rw[hr];rfl);have key:∀(m o:List Key),(∀q∈m,q∈eT r)->(∀x∈o,jS l x)->∀x∈m.foldl (iV l n) o,jS l x:=by
     intro m;induction m with
     |nil=>exact fun o _ h=>h
     |cons q m ih=>
      intro o hm ho;rw[rR];exact ih _ (fun p hp=>hm p (by simp[hp])) (Bw l n o q ho (fun hs=>.step hkk hr (hm q (by simp)) hs))
    refine key _ _ (fun _ h=>h) (fun y hy=>?_) x hx;rcases dN.1 hy with e|e
    ·exact h y e
    ·rw[fI.1 e];exact hkk
theorem Gz {l:List aA}{k:Key}:k∈wK l↔jS l k:=by
 constructor
 ·have key:∀(m o:List Key),(∀q∈m,jS l q)->(∀x∈o,jS l x)->∀x∈m.foldl (iV l (l.length+1)) o,jS l x:=by
   intro m;induction m with
   |nil=>exact fun o _ h=>h
   |cons q m ih=>intro o hm ho;rw[rR];exact ih _ (fun p hp=>hm p (by simp[hp])) (Bw l _ o q ho fun _=>hm q (by simp))
  refine key _ _ (fun q hq=>?_) (fun x hx=>by simp at hx) k;obtain⟨r,hr,rfl⟩:=eR.1 hq;obtain⟨h1,h2⟩:=jD.1 hr;exact .root h1 (by simpa using h2)
 ·intro h;induction h with
  |root h h0=>exact zcs (eR.2 ⟨_,jD.2 ⟨h,by simpa using h0⟩,rfl⟩)
  |step _ hr hq hs ih=>exact zcu l _ ih _ hr _ hq hs
theorem uC {l:List aA}{r:aA}:r∈dO l↔r∈l/\jS l r.key:=by
 simp[dO,Gz]
theorem H6 {l:List aA}:iX l=0↔∀r∈l,jS l r.key->(∀q∈eT r,(aS l q).isSome=true)/\yJ r=false:=by
 unfold iX;constructor
 ·intro h r hr hk;split at h
  ·simp at h
  ·rename_i h1;split at h
   ·simp at h
   ·rename_i h2;have hm:r∈dO l:=uC.2 ⟨hr,hk⟩;refine⟨fun q hq=>?_,?_⟩
    ·cases e:(aS l q).isSome with
     |true=>rfl
     |false=>exact absurd (xK.2 ⟨r,hm,xK.2 ⟨q,hq,by simp[lY,e]⟩⟩) h1
    ·cases e:yJ r with
     |false=>rfl
     |true=>exact absurd (xK.2 ⟨r,hm,e⟩) h2
 ·intro h;have h1:¬((dO l).any fun r=>(eT r).any (lY l))=true:=by
   intro e;obtain⟨r,hr,e⟩:=xK.1 e;obtain⟨q,hq,e⟩:=xK.1 e;obtain⟨h2,h3⟩:=uC.1 hr;simp[lY,(h r h2 h3).1 q hq]at e
  have h2:¬(dO l).any yJ=true:=by
   intro e;obtain⟨r,hr,e⟩:=xK.1 e;obtain⟨h2,h3⟩:=uC.1 hr;simp[(h r h2 h3).2]at e
  rw[aH h1,aH h2]
theorem V8 {r:aA}{q:Key}(h:q∈eT r):q.kind=r.kind+1:=by
 unfold eT at h;split at h
 ·rename_i hs;obtain⟨_,_,_,h4,_,_⟩:=zA hs;rw[Y7]at h;have hasc:jC (wJ r):=by unfold wJ;split<;>simp[jC]
  rw[(zQ _ hasc).2]at h;rcases h with h|h
  ·unfold wJ at h;split at h
   ·rw[fI.1 h]
   ·simp at h
  ·obtain⟨w,hw,rfl⟩:=eR.1 h;obtain⟨x,hx,_⟩:=KJ.1 (jD.1 hw).1;have hne:¬r.rules.length=0:=by intro e;rw[jL e]at hx;simp at hx
   simp only[y8,ET,bN,rT,cP]at h4;have:=h4.1.2.resolve_left hne;simp[this]
 ·simp at h
theorem Er {l:List aA}(ha:cW l)(S:Key->Prop)(h0:∀r∈l,r.kind=0->S r.key)
  (h1:∀k r,S k->aS l k=some r->(∀q∈eT r,(aS l q).isSome=true/\S q)/\yJ r=false):iX l=0/\∀k,jS l k->S k:=by
 have hS:∀k,jS l k->S k:=by
  intro k h;induction h with
  |root h h0'=>exact h0 _ h h0'
  |step _ hr hq _ ih=>exact((h1 _ _ ih hr).1 _ hq).2
 refine⟨H6.2 fun r hr hk=>?_,hS⟩;obtain⟨h2,h3⟩:=h1 _ r (hS _ hk) (jJ ha hr);exact⟨fun q hq=>(h2 q hq).1,h3⟩
theorem Pg (l:List aA)(n:Int)(k:Key):aS (pW l n) k=if k.kind=n then aS l k else none:=by
 unfold aS pW;rw[List.find?_filter];split
 ·rename_i h;congr 1
  funext r
  by_cases e:r.key=k
  ·have:r.kind=n:=by rw[<-h,<-e];rfl
   simp[e,this]
  ·simp[e]
 ·rename_i h;rw[xJ];intro r _;simp only[cP,bN,not_and];rintro e rfl;exact h e
theorem NH {l:List aA}(h:cW l)(n:Int):cW (pW l n):=BF h _
structure qV (W:List aA)(x:Step):Prop where
 aD:∀r∈x.aD,r∈W
 p8:cW x.aD
 gone:∀k∈x.gone,aS W k=none
theorem IL {H W:List aA}{x:Step}(hx:qV W x)(k:Key):
  aS (cD H x.aD x.gone) k=match aS x.aD k with|some r=>some r|none=>if k∈x.gone then none else aS H k:=by
 rw[R4,Nk hx.p8];first|done|rfl
theorem WS {H W:List aA}{x:Step}(hx:qV W x){r:aA}(hr:r∈x.aD):aS (cD H x.aD x.gone) r.key=some r:=by
 rw[IL hx,jJ hx.p8 hr]
theorem zdq {H W:List aA}{x:Step}(hw:cW W)(hx:qV W x){k:Key}{r:aA}(hk:aS W k=some r):
  (r∈x.aD/\aS (cD H x.aD x.gone) k=some r)\/(aS x.aD k=none/\aS (cD H x.aD x.gone) k=aS H k):=by
 rw[IL hx];cases e:aS x.aD k with
 |some y=>
  have h1:=jJ hw (hx.aD y (gV e));rw[kK e,hk]at h1;cases h1;exact .inl ⟨gV e,rfl⟩
 |none=>
  have:k∉x.gone:=fun h=>by rw[hx.gone k h]at hk;cases hk
  exact .inr ⟨rfl,by simp[this]⟩
theorem F6 {H W:List aA}{x:Step}(hw:cW W)(hx:qV W x){k:Key}{r:aA}(hk:aS W k=some r)(hh:aS H k=some r):aS (cD H x.aD x.gone) k=some r:=by
 rcases zdq (H:=H) hw hx hk with h|h
 ·exact h.2
 ·rw[h.2,hh]
theorem PY {H W:List aA}{x:Step}(hx:qV W x){k:Key}{r:aA}(hk:aS (cD H x.aD x.gone) k=some r):r∈x.aD\/(aS x.aD k=none/\k∉x.gone/\aS H k=some r):=by
 rw[IL hx]at hk;cases e:aS x.aD k with
 |some y=>rw[e]at hk;cases hk;exact .inl (gV e)
 |none=>
  rw[e]at hk;simp only at hk;split at hk
  ·cases hk
  ·exact .inr ⟨rfl,by assumption,hk⟩
theorem Io {H W:List aA}{x:Step}(hx:qV W x){k:Key}(ha:∀r∈x.aD,¬r.kind=k.kind)(hg:∀q∈x.gone,¬q.kind=k.kind):aS (cD H x.aD x.gone) k=aS H k:=by
 rw[IL hx];cases e:aS x.aD k with
 |some y=>exact absurd (by rw[<-kK e];rfl) (ha y (gV e))
 |none=>simp only;rw[aH fun h=>hg k h rfl]
def QE (H W:List aA)(n:Int):Prop:=∀r∈W,r.kind=n->jS W r.key->aS H r.key=some r
def QL (H W:List aA)(n:Int):Prop:=∀r∈W,r.kind=n->aS H r.key=some r
def QN (H W:List aA)(n:Int):Prop:=∀r∈H,r.kind=n->(aS W r.key).isSome=true
def Qp (H W:List aA):Nat->Prop
 |0=>QE H W 3
 |1=>QE H W 2
 |2=>QE H W 1
 |3=>QL H W 0/\QN H W 0
 |4=>QL H W 3
 |5=>QL H W 2
 |6=>QL H W 1
 |7=>QN H W 1
 |8=>QN H W 2
 |9=>QN H W 3
 |_=>True
structure Pl (H W:List aA)(held:List Key):Prop where
 ht:fF H=0
 wt:fF W=0
 hv:iX H=0
 wv:iX W=0
 IX:(wO W).length=0
 held:∀k∈held,jS H k
theorem EP {s:Step}:s.none=true↔s.aD=[]/\s.gone=[]:=by
 simp only[Step.none,cP];constructor
 ·intro h;exact⟨jL (by omega),jL (by omega)⟩
 ·rintro⟨h1,h2⟩;simp[h1,h2]
theorem Md {a b:List aA}{r:aA}:r∈mN a b↔r∈b/\¬aS a r.key=some r:=by simp[mN]
theorem IY {H W:List aA}{held:List Key}{n:Int}{r:aA}:r∈((cX H W held).early n).aD↔r∈W/\¬aS H r.key=some r/\r.kind=n/\jS W r.key:=by
 rw[show((cX H W held).early n).aD=(pW (mN H W) n).filter (fun r=>decide (r.key∈(dO W).map aA.key))from rfl,jD,QY,Md,cP,eR];constructor
 ·rintro⟨⟨⟨h1,h2⟩,h3⟩,y,h4,h5⟩;exact⟨h1,h2,h3,h5▸(uC.1 h4).2⟩
 ·rintro⟨h1,h2,h3,h4⟩;exact⟨⟨⟨h1,h2⟩,h3⟩,r,uC.2 ⟨h1,h4⟩,rfl⟩
theorem GD {H W:List aA}{n:Int}{r:aA}:r∈pW (mN H W) n↔r∈W/\¬aS H r.key=some r/\r.kind=n:=by
 simp only[QY,Md,and_assoc]
theorem MA {H W:List aA}{n:Int}{k:Key}:k∈qM (oG H W) n↔(aS H k).isSome=true/\aS W k=none/\k.kind=n:=by
 simp only[QZ,XO,and_assoc]
theorem CX {H W:List aA}{held:List Key}{n:Int}:((cX H W held).early n).none=true↔QE H W n:=by
 rw[EP];constructor
 ·rintro⟨h,_⟩ r hr hk hR;by_cases e:aS H r.key=some r
  ·exact e
  ·have:=IY (held:=held).2 ⟨hr,e,hk,hR⟩;rw[h]at this;cases this
 ·intro h;refine⟨As.2 fun r hr=>?_,rfl⟩;obtain⟨h1,h2,h3,h4⟩:=IY.1 hr;exact h2 (h r h1 h3 h4)
theorem zI {H W:List aA}{held:List Key}{n:Int}:((cX H W held).late n).none=true↔QL H W n:=by
 rw[EP];constructor
 ·rintro⟨h,_⟩ r hr hk;by_cases e:aS H r.key=some r
  ·exact e
  ·have:=GD.2 ⟨hr,e,hk⟩;simp only[eZ.late,cX]at h;rw[h]at this;cases this
 ·intro h;refine⟨As.2 fun r hr=>?_,rfl⟩;obtain⟨h1,h2,h3⟩:=GD.1 hr;exact h2 (h r h1 h3)
theorem isNone_or {k:Option aA}:k=none\/k.isSome=true:=by cases k<;>simp
theorem ZO {H W:List aA}{held:List Key}{n:Int}(ha:cW H):((cX H W held).doors n).none=true↔QL H W n/\QN H W n:=by
 rw[EP];constructor
 ·rintro⟨h,h'⟩;refine⟨zI (held:=held).1 (EP.2 ⟨h,rfl⟩),fun r hr hk=>?_⟩;rcases isNone_or (k:=aS W r.key)with e|e
  ·have:=MA.2 ⟨by rw[jJ ha hr];rfl,e,hk⟩;simp only[eZ.doors,cX]at h';rw[h']at this;cases this
  ·exact e
 ·rintro⟨h1,h2⟩;refine⟨(EP.1 (zI (held:=held).2 h1)).1,As.2 fun k hk=>?_⟩;obtain⟨h3,h4,h5⟩:=MA.1 hk;obtain⟨r,hr⟩:=pA.1 h3;have:=h2 r (gV hr) (by rw[<-h5,<-kK hr];rfl);rw[kK hr,h4]at this;cases this
theorem MB {H W:List aA}{held:List Key}{n:Int}{k:Key}:k∈((cX H W held).free n).gone↔((aS H k).isSome=true/\aS W k=none/\k.kind=n)/\k∉held/\(uA H k).length=0:=by
 simp only[eZ.free,cX,jD,MA,eZ.zP,pN,AH,uT];constructor
 ·rintro⟨h1,h2,h3⟩;exact⟨h1,h2,by omega⟩
 ·rintro⟨h1,h2,h3⟩;exact⟨h1,h2,by omega⟩
theorem GP {H W:List aA}{held:List Key}{n:Int}(hw:cW W):qV W ((cX H W held).early n):=
 ⟨fun r hr=>(IY.1 hr).1,BF (NH (BF hw _) n) _,fun k hk=>by cases hk⟩
theorem EY {H W:List aA}{held:List Key}{n:Int}(hw:cW W):qV W ((cX H W held).late n):=
 ⟨fun r hr=>(GD.1 hr).1,NH (BF hw _) n,fun k hk=>by cases hk⟩
theorem YI {H W:List aA}{held:List Key}{n:Int}(hw:cW W):qV W ((cX H W held).doors n):=
 ⟨fun r hr=>(GD.1 hr).1,NH (BF hw _) n,fun k hk=>(MA.1 hk).2.1⟩
theorem GO {H W:List aA}{held:List Key}{n:Int}:qV W ((cX H W held).free n):=
 ⟨fun r hr=>absurd (show r∈([]:List aA)from hr) (by simp),by show cW [];simp[cW,jC],fun k hk=>(MB.1 hk).1.2.1⟩
section
variable {H W : List aA} {held : List Key} {x : Step}
theorem WA (hw:cW W)(hx:qV W x){n:Int}(h:QE H W n):QE (cD H x.aD x.gone) W n:=
 fun r hr hk hR=>F6 hw hx (jJ hw hr) (h r hr hk hR)
theorem PM (hw:cW W)(hx:qV W x){n:Int}(h:QL H W n):QL (cD H x.aD x.gone) W n:=
 fun r hr hk=>F6 hw hx (jJ hw hr) (h r hr hk)
theorem PL (hh:cW H)(hw:cW W)(hx:qV W x){n:Int}(h:QN H W n):QN (cD H x.aD x.gone) W n:=by
 intro r hr hk;rcases PY hx (jJ (uN hh _ _) hr)with e|e
 ·rw[jJ hw (hx.aD r e)];rfl
 ·exact h r (gV e.2.2) hk
theorem zcC (hh:cW H)(hw:cW W)(hx:qV W x):∀(j:Nat),Qp H W j->Qp (cD H x.aD x.gone) W j
 |0,h=>WA hw hx h
 |1,h=>WA hw hx h
 |2,h=>WA hw hx h
 |3,h=>⟨PM hw hx h.1,PL hh hw hx h.2⟩
 |4,h=>PM hw hx h
 |5,h=>PM hw hx h
 |6,h=>PM hw hx h
 |7,h=>PL hh hw hx h
 |8,h=>PL hh hw hx h
 |9,h=>PL hh hw hx h
 |_+10,_=>trivial
theorem MP {r:aA}(h:eL r=0):r.kind=0\/r.kind=1\/r.kind=2\/r.kind=3:=PB (zA h).1
theorem UR (hw:cW W)(hv:iX W=0){k:Key}{r:aA}(hk:aS W k=some r)(hR:jS W k):
  (∀q∈eT r,(aS W q).isSome=true/\jS W q)/\yJ r=false:=by
 have e:=kK hk;obtain⟨h1,h2⟩:=H6.1 hv r (gV hk) (e▸hR);exact⟨fun q hq=>⟨h1 q hq,.step hR hk hq (h1 q hq)⟩,h2⟩
theorem zbe (P:Pl H W held){n:Int}(h0:¬n=0)(hn:∀j:Int,n<j->j<=3->QE H W j)(hx:qV W x)(hadd:∀r,r∈x.aD↔r∈W/\¬aS H r.key=some r/\r.kind=n/\jS W r.key)(hg:x.gone=[]):
  iX (cD H x.aD x.gone)=0:=by
 have hw:=iC P.wt;have hh:=iC P.ht;have hk:∀k:Key,¬k.kind=n->aS (cD H x.aD x.gone) k=aS H k:=fun k hk=>
  Io hx (fun r hr e=>hk (by rw[<-e];exact((hadd r).1 hr).2.2.1)) (by simp[hg])
 refine(Er (uN hh _ _) (fun k=>(jS H k/\aS (cD H x.aD x.gone) k=aS H k)\/(n<=k.kind/\jS W k/\aS (cD H x.aD x.gone) k=aS W k)) (fun r hr hr0=>?_) (fun k r hS hr=>?_)).1
 ·have h1:=hk r.key (by rw[show r.key.kind=r.kind from rfl,hr0];exact fun e=>h0 e.symm);have h2:=jJ (uN hh x.aD x.gone) hr;rw[h1]at h2;exact .inl ⟨.root (gV h2) hr0,h1⟩
 ·rcases hS with⟨h1,h2⟩|⟨h1,h2,h3⟩
  ·rw[hr]at h2;have h2':=h2.symm;obtain⟨h3,h4⟩:=UR hh P.hv h2' h1;refine⟨fun q hq=>?_,h4⟩;obtain⟨h5,h6⟩:=h3 q hq;cases e:aS x.aD q with
   |some y=>
    have h7:aS (cD H x.aD x.gone) q=some y:=by rw[IL hx,e]
    obtain⟨g1,g2,g3,g4⟩:=(hadd y).1 (gV e);have ek:=kK e;refine⟨by rw[h7];rfl,.inr ⟨?_,ek▸g4,?_⟩⟩
    ·have:q.kind=y.kind:=by rw[<-ek];rfl
     omega
    ·rw[h7,<-ek,jJ hw g1]
   |none=>
    have h7:aS (cD H x.aD x.gone) q=aS H q:=by rw[IL hx,e,hg];simp
    exact⟨by rw[h7];exact h5,.inl ⟨h6,h7⟩⟩
  ·rw[hr]at h3;have h3':=h3.symm;obtain⟨h4,h5⟩:=UR hw P.wv h3' h2;refine⟨fun q hq=>?_,h5⟩;obtain⟨h6,h7⟩:=h4 q hq;have hkq:=V8 hq;have hkr:k.kind=r.kind:=by rw[<-kK h3'];rfl
   obtain⟨y,hy⟩:=pA.1 h6;have hym:=gV hy;have hyk:y.kind=q.kind:=by rw[<-kK hy];rfl
   have h8:=MP (pD P.wt hym);have h9:=hn y.kind (by omega) (by omega) y hym rfl (by rw[kK hy];exact h7);rw[kK hy]at h9;have h10:=F6 hw hx hy h9;exact⟨by rw[h10];rfl,.inr ⟨by omega,h7,by rw[h10,hy]⟩⟩
theorem O3 (P:Pl H W held)(hx:qV W x)(h1:QE H W 1)(h2:QE H W 2)(h3:QE H W 3)
  (hd:∀r∈cD H x.aD x.gone,r.kind=0->aS W r.key=some r):
  iX (cD H x.aD x.gone)=0/\∀k,jS (cD H x.aD x.gone) k->(aS W k).isSome=true:=by
 have hw:=iC P.wt;have hh:=iC P.ht
 obtain⟨g1,g2⟩:=Er (uN hh x.aD x.gone) (fun k=>jS W k/\aS (cD H x.aD x.gone) k=aS W k) (fun r hr hr0=>by
   have h4:=hd r hr hr0;exact⟨.root (gV h4) hr0,by rw[jJ (uN hh _ _) hr,h4]⟩) (fun k r hS hr=>by
   obtain⟨h4,h5⟩:=hS;rw[hr]at h5;have h5':=h5.symm;obtain⟨h6,h7⟩:=UR hw P.wv h5' h4;refine⟨fun q hq=>?_,h7⟩;obtain⟨h8,h9⟩:=h6 q hq;have hkq:=V8 hq;obtain⟨y,hy⟩:=pA.1 h8;have hym:=gV hy;have hyk:y.kind=q.kind:=by rw[<-kK hy];rfl
   have hkr:=MP (pD P.wt (gV h5'));have hky:=MP (pD P.wt hym);have h10:aS H q=some y:=by
    have hR:jS W y.key:=by rw[kK hy];exact h9
    have:aS H y.key=some y:=by
     rcases hky with e|e|e|e
     ·omega
     ·exact h1 y hym e hR
     ·exact h2 y hym e hR
     ·exact h3 y hym e hR
    rwa[kK hy]at this
   have h11:=F6 hw hx hy h10;exact⟨by rw[h11];rfl,h9,by rw[h11,hy]⟩)
 exact⟨g1,fun k hk=>(g2 k hk).1.some⟩
end
theorem Dd {l:List aA}(h1:l.length<=64)(h2:∀r∈l,eL r=0)(h3:cW l)(h4:(u7 l).Nodup):fF l=0:=by
 rw[U7 (by omega) (ZB.2 h2) h3,aU h4]
theorem rW {l:List aA}(h:fF l=0):l.length<=64:=by
 unfold fF at h;split at h
 ·simp at h
 ·omega
theorem Hv (l:List aA):u7 l=(pW l 0).map aA.port:=rfl
theorem Hw {a b:List aA}(ha:cW a)(hb:cW b)(h:∀k:Key,k.kind=0->aS a k=aS b k):u7 a=u7 b:=by
 rw[Hv,Hv];have:pW a 0=pW b 0:=by
  refine Ae (NH ha 0) (NH hb 0) fun k=>?_;rw[Pg,Pg];split
  ·exact h k ‹_›
  ·rfl
 rw[this]
section
variable {H W : List aA} {held : List Key} {x : Step}
theorem Z9 (hh:cW H){m:Int}(hl:QL H W m)(hn:QN H W m){y:aA}(hy:y∈H)(hk:y.kind=m):aS W y.key=some y:=by
 obtain⟨z,hz⟩:=pA.1 (hn y hy hk);have hzk:=kK hz;have h1:=hl z (gV hz) (by rw[<-hk];exact dH Key.kind hzk);rw[hzk,jJ hh hy]at h1;rw[hz,h1]
theorem JI (P:Pl H W held)(e1:QE H W 1)(e2:QE H W 2)(e3:QE H W 3)(d1:QL H W 0)(d2:QN H W 0){n m:Int}(hm:n=m+1)(hl:QL H W m)(hn:QN H W m){k:Key}
  (hk:(aS W k)=none) (hkn:k.kind=n):k∉held/\(uA H k).length=0:=by
 have hh:=iC P.ht;have hw:=iC P.wt;constructor
 ·intro h;have h0:=P.held k h;have:=(O3 (x:=⟨0,[],[]⟩) P ⟨fun r hr=>by simp at hr,by simp[cW,jC],fun k hk=>by simp at hk⟩ e1 e2 e3 (fun r hr h0=>Z9 hh d1 d2 hr h0)).2 k h0;rw[hk]at this;cases this
 ·cases e:uA H k with
  |nil=>rfl
  |cons q l=>
   have hq:q∈uA H k:=by rw[e];simp
   obtain⟨y,hy,_⟩:=eR.1 hq;obtain⟨h1,h2⟩:=jD.1 hy;have h2:k∈eT y:=by simpa using h2
   have h3:=V8 h2;have h4:=Z9 hh hl hn h1 (by omega);have:=XM P.IX (gV h4) h2;rw[hk]at this;cases this
theorem MW (P:Pl H W held){n:Int}(hd:∀k:Key,aS W k=none->k.kind=n->k∉held/\(uA H k).length=0)(h:((cX H W held).free n).none=true):QN H W n:=by
 intro r hr hk;rcases isNone_or (k:=aS W r.key)with e|e
 ·have h1:r.key∈((cX H W held).free n).gone:=MB.2 ⟨⟨by rw[jJ (iC P.ht) hr];rfl,e,hk⟩,hd r.key e hk⟩;rw[(EP.1 h).2]at h1;cases h1
 ·exact e
theorem Y6 (P:Pl H W held){n:Int}(hd:∀k:Key,aS W k=none->k.kind=n->k∉held/\(uA H k).length=0):QN (cD H ((cX H W held).free n).aD ((cX H W held).free n).gone) W n:=by
 intro r hr hk;have hh:=iC P.ht;rcases isNone_or (k:=aS W r.key)with e|e
 ·rcases PY (GO (held:=held)) (jJ (uN hh _ _) hr)with h|h
  ·cases h
  ·exact absurd (MB.2 ⟨⟨by rw[h.2.2];rfl,e,hk⟩,hd r.key e hk⟩) h.2.1
 ·exact e
theorem V9 (P:Pl H W held){n:Int}(h:QN H W n):((cX H W held).free n).none=true:=by
 rw[EP];refine⟨rfl,As.2 fun k hk=>?_⟩;obtain⟨⟨h1,h2,h3⟩,_⟩:=MB.1 hk;obtain⟨r,hr⟩:=pA.1 h1;have:=h r (gV hr) (by rw[<-h3];exact dH Key.kind (kK hr));rw[kK hr,h2]at this;cases this
theorem ZK (hw:cW W){n:Int}:QE (cD H ((cX H W held).early n).aD ((cX H W held).early n).gone) W n:=by
 intro r hr hk hR;by_cases e:aS H r.key=some r
 ·exact F6 hw (GP hw) (jJ hw hr) e
 ·exact WS (GP hw) (IY.2 ⟨hr,e,hk,hR⟩)
theorem X5 (hw:cW W){n:Int}:QL (cD H ((cX H W held).late n).aD ((cX H W held).late n).gone) W n:=by
 intro r hr hk;by_cases e:aS H r.key=some r
 ·exact F6 hw (EY hw) (jJ hw hr) e
 ·exact WS (EY hw) (GD.2 ⟨hr,e,hk⟩)
theorem SL (hw:cW W){k:Key}(hk:k.kind=0):aS (cD H ((cX H W held).doors 0).aD ((cX H W held).doors 0).gone) k=aS W k:=by
 have hx:=YI (H:=H) (held:=held) (n:=0) hw;cases e:aS W k with
 |some r=>
  have ek:=kK e;by_cases e':aS H k=some r
  ·exact F6 hw hx e e'
  ·have:r∈((cX H W held).doors 0).aD:=GD.2 ⟨gV e,by rw[ek];exact e',by rw[<-hk];exact dH Key.kind ek⟩;rw[<-ek];exact WS hx this
 |none=>
  cases e':aS (cD H ((cX H W held).doors 0).aD ((cX H W held).doors 0).gone) k with
  |none=>rfl
  |some r=>
   rcases PY hx e' with h|h
   ·have:=jJ hw (hx.aD r h);rw[<-kK e',this]at e;cases e
   ·exact absurd (MA.2 ⟨by rw[h.2.2];rfl,e,hk⟩) h.2.1
structure zkP (H W:List aA)(x:Step)(i:Nat):Prop where
 cE:qV W x
 Es:iX (cD H x.aD x.gone)=0
 zc4:(u7 (cD H x.aD x.gone)).Nodup
 now:Qp (cD H x.aD x.gone) W i
 not:¬Qp H W i
theorem WK (P:Pl H W held)(hx:qV W x)(ha:∀r∈x.aD,¬r.kind=0)(hg:∀q∈x.gone,¬q.kind=0):(u7 (cD H x.aD x.gone)).Nodup:=by
 have hh:=iC P.ht;rw[Hw (uN hh _ _) hh fun k hk=>Io hx (by rw[hk];exact ha) (by rw[hk];exact hg)];exact U6 P.ht
theorem YW (P:Pl H W held){n:Int}(h0:¬n=0)(hn:∀j:Int,n<j->j<=3->QE H W j):
  iX (cD H ((cX H W held).early n).aD ((cX H W held).early n).gone)=0/\(u7 (cD H ((cX H W held).early n).aD ((cX H W held).early n).gone)).Nodup:=
 ⟨zbe P h0 hn (GP (iC P.wt)) (fun _=>IY) rfl,WK P (GP (iC P.wt)) (fun r hr e=>h0 (by rw[<-e];exact(IY.1 hr).2.2.1.symm)) (fun q hq=>by cases hq)⟩
theorem Mw (P:Pl H W held)(hx:qV W x)(d1:QL H W 0)(d2:QN H W 0):∀r∈cD H x.aD x.gone,r.kind=0->aS W r.key=some r:=by
 intro r hr h0;have hh:=iC P.ht;rcases PY hx (jJ (uN hh _ _) hr)with h|h
 ·exact jJ (iC P.wt) (hx.aD r h)
 ·exact Z9 hh d1 d2 (gV h.2.2) h0
theorem YU (P:Pl H W held)(e1:QE H W 1)(e2:QE H W 2)(e3:QE H W 3)(d:QL H W 0/\QN H W 0){n:Int}(h0:¬n=0):
  iX (cD H ((cX H W held).late n).aD ((cX H W held).late n).gone)=0/\(u7 (cD H ((cX H W held).late n).aD ((cX H W held).late n).gone)).Nodup:=
 ⟨(O3 P (EY (iC P.wt)) e1 e2 e3 (Mw P (EY (iC P.wt)) d.1 d.2)).1,WK P (EY (iC P.wt)) (fun r hr e=>h0 (by rw[<-e];exact(GD.1 hr).2.2.symm)) (fun q hq=>by cases hq)⟩
theorem YV (P:Pl H W held)(e1:QE H W 1)(e2:QE H W 2)(e3:QE H W 3)(d:QL H W 0/\QN H W 0){n:Int}(h0:¬n=0):
  iX (cD H ((cX H W held).free n).aD ((cX H W held).free n).gone)=0/\(u7 (cD H ((cX H W held).free n).aD ((cX H W held).free n).gone)).Nodup:=
 ⟨(O3 P GO e1 e2 e3 (Mw P GO d.1 d.2)).1,WK P GO (fun r hr=>by cases hr) (fun q hq e=>h0 (by rw[<-e];exact(MB.1 hq).1.2.2.symm))⟩
theorem zgN (P:Pl H W held)(e1:QE H W 1)(e2:QE H W 2)(e3:QE H W 3):
  iX (cD H ((cX H W held).doors 0).aD ((cX H W held).doors 0).gone)=0/\(u7 (cD H ((cX H W held).doors 0).aD ((cX H W held).doors 0).gone)).Nodup:=by
 have hw:=iC P.wt;have hh:=iC P.ht;refine⟨(O3 P (YI hw) e1 e2 e3 fun r hr h0=>?_).1,?_⟩
 ·rw[<-SL (H:=H) (held:=held) hw (k:=r.key) h0];exact jJ (uN hh _ _) hr
 ·rw[Hw (uN hh _ _) hw fun k hk=>SL hw hk];exact U6 P.wt
theorem zhW (hh:cW H)(hw:cW W):Qp (cD H ((cX H W held).doors 0).aD ((cX H W held).doors 0).gone) W 3:=by
 refine⟨fun r hr hk=>?_,fun r hr hk=>?_⟩
 ·rw[SL hw (k:=r.key) hk];exact jJ hw hr
 ·rw[<-SL (H:=H) (held:=held) hw (k:=r.key) hk,jJ (uN hh _ _) hr];rfl
theorem Yg (P:Pl H W held)(h:mU H W held=some x):∃i,i<10/\(∀j,j<i->Qp H W j)/\zkP H W x i:=by
 have hw:=iC P.wt;have hh:=iC P.ht;obtain⟨hx,i,hi,he,hj⟩:=List.find?_eq_some_iff_getElem.1 h;have hx':¬x.none=true:=by simpa using hx
 have hi':i<10:=hi;have hb:∀j (hj':j<i),((cX H W held).steps[j]'(Nat.lt_trans hj' hi)).none=true:=fun j hj'=>by simpa using hj j hj'
 have c:i=0\/i=1\/i=2\/i=3\/i=4\/i=5\/i=6\/i=7\/i=8\/i=9:=by omega
 have q0:0<i->QE H W 3:=fun h=>CX.1 (hb 0 h);have q1:1<i->QE H W 2:=fun h=>CX.1 (hb 1 h);have q2:2<i->QE H W 1:=fun h=>CX.1 (hb 2 h);have q3:3<i->QL H W 0/\QN H W 0:=fun h=>(ZO hh).1 (hb 3 h);have q4:4<i->QL H W 3:=fun h=>zI.1 (hb 4 h);have q5:5<i->QL H W 2:=fun h=>zI.1 (hb 5 h);have q6:6<i->QL H W 1:=fun h=>zI.1 (hb 6 h);have d7:6<i->∀k:Key,aS W k=none->k.kind=1->k∉held/\(uA H k).length=0:=fun h k hk hkn=>
  JI P (q2 (by omega)) (q1 (by omega)) (q0 (by omega)) (q3 (by omega)).1 (q3 (by omega)).2 (m:=0) rfl (q3 (by omega)).1 (q3 (by omega)).2 hk hkn
 have q7:7<i->QN H W 1:=fun h=>MW P (d7 (by omega)) (hb 7 h)
 have d8:7<i->∀k:Key,aS W k=none->k.kind=2->k∉held/\(uA H k).length=0:=fun h k hk hkn=>
  JI P (q2 (by omega)) (q1 (by omega)) (q0 (by omega)) (q3 (by omega)).1 (q3 (by omega)).2 (m:=1) rfl (q6 (by omega)) (q7 (by omega)) hk hkn
 have q8:8<i->QN H W 2:=fun h=>MW P (d8 (by omega)) (hb 8 h)
 have d9:8<i->∀k:Key,aS W k=none->k.kind=3->k∉held/\(uA H k).length=0:=fun h k hk hkn=>
  JI P (q2 (by omega)) (q1 (by omega)) (q0 (by omega)) (q3 (by omega)).1 (q3 (by omega)).2 (m:=2) rfl (q5 (by omega)) (q8 (by omega)) hk hkn
 refine⟨i,hi',fun j hj'=>?_,?_⟩
 ·have:j=0\/j=1\/j=2\/j=3\/j=4\/j=5\/j=6\/j=7\/j=8:=by omega
  rcases this with e|e|e|e|e|e|e|e|e<;>subst e
  ·exact q0 hj'
  ·exact q1 hj'
  ·exact q2 hj'
  ·exact q3 hj'
  ·exact q4 hj'
  ·exact q5 hj'
  ·exact q6 hj'
  ·exact q7 hj'
  ·exact q8 hj'
 ·rcases c with e|e|e|e|e|e|e|e|e|e<;>subst e
  ·have he:(cX H W held).early 3=x:=he;subst he;obtain⟨g1,g2⟩:=YW P (n:=3) (by decide) (fun j h1 h2=>by omega);exact⟨GP hw,g1,g2,ZK hw,fun h=>hx' (CX.2 h)⟩
  ·have he:(cX H W held).early 2=x:=he;subst he
   obtain⟨g1,g2⟩:=YW P (n:=2) (by decide) (fun j h1 h2=>by obtain rfl:j=3:=by omega
                                                           exact q0 (by omega))
   exact⟨GP hw,g1,g2,ZK hw,fun h=>hx' (CX.2 h)⟩
  ·have he:(cX H W held).early 1=x:=he;subst he;obtain⟨g1,g2⟩:=YW P (n:=1) (by decide) (fun j h1 h2=>by
    have:j=2\/j=3:=by omega
    rcases this with e|e<;>subst e
    ·exact q1 (by omega)
    ·exact q0 (by omega))
   exact⟨GP hw,g1,g2,ZK hw,fun h=>hx' (CX.2 h)⟩
  ·have he:(cX H W held).doors 0=x:=he;subst he;obtain⟨g1,g2⟩:=zgN P (q2 (by omega)) (q1 (by omega)) (q0 (by omega));exact⟨YI hw,g1,g2,zhW hh hw,fun h=>hx' ((ZO hh).2 h)⟩
  ·have he:(cX H W held).late 3=x:=he;subst he;obtain⟨g1,g2⟩:=YU P (q2 (by omega)) (q1 (by omega)) (q0 (by omega)) (q3 (by omega)) (n:=3) (by decide);exact⟨EY hw,g1,g2,X5 hw,fun h=>hx' (zI.2 h)⟩
  ·have he:(cX H W held).late 2=x:=he;subst he;obtain⟨g1,g2⟩:=YU P (q2 (by omega)) (q1 (by omega)) (q0 (by omega)) (q3 (by omega)) (n:=2) (by decide);exact⟨EY hw,g1,g2,X5 hw,fun h=>hx' (zI.2 h)⟩
  ·have he:(cX H W held).late 1=x:=he;subst he;obtain⟨g1,g2⟩:=YU P (q2 (by omega)) (q1 (by omega)) (q0 (by omega)) (q3 (by omega)) (n:=1) (by decide);exact⟨EY hw,g1,g2,X5 hw,fun h=>hx' (zI.2 h)⟩
  ·have he:(cX H W held).free 1=x:=he;subst he;obtain⟨g1,g2⟩:=YV P (q2 (by omega)) (q1 (by omega)) (q0 (by omega)) (q3 (by omega)) (n:=1) (by decide);exact⟨GO,g1,g2,Y6 P (d7 (by omega)),fun h=>hx' (V9 P h)⟩
  ·have he:(cX H W held).free 2=x:=he;subst he;obtain⟨g1,g2⟩:=YV P (q2 (by omega)) (q1 (by omega)) (q0 (by omega)) (q3 (by omega)) (n:=2) (by decide);exact⟨GO,g1,g2,Y6 P (d8 (by omega)),fun h=>hx' (V9 P h)⟩
  ·have he:(cX H W held).free 3=x:=he;subst he;obtain⟨g1,g2⟩:=YV P (q2 (by omega)) (q1 (by omega)) (q0 (by omega)) (q3 (by omega)) (n:=3) (by decide);exact⟨GO,g1,g2,Y6 P (d9 (by omega)),fun h=>hx' (V9 P h)⟩
theorem zex (P:Pl H W held)(h:mU H W held=none):H=W:=by
 have hw:=iC P.wt;have hh:=iC P.ht;have hb:∀s∈(cX H W held).steps,s.none=true:=fun s hs=>by simpa using xJ.1 h s hs
 simp only[eZ.steps,kN,DJ,or_false,forall_eq_or_imp,forall_eq]at hb;obtain⟨b0,b1,b2,b3,b4,b5,b6,b7,b8,b9⟩:=hb;have q0:=CX.1 b0;have q1:=CX.1 b1;have q2:=CX.1 b2;have q3:=(ZO hh).1 b3;have q4:=zI.1 b4;have q5:=zI.1 b5;have q6:=zI.1 b6;have q7:QN H W 1:=MW P (fun k hk hkn=>JI P q2 q1 q0 q3.1 q3.2 (m:=0) rfl q3.1 q3.2 hk hkn) b7;have q8:QN H W 2:=MW P (fun k hk hkn=>JI P q2 q1 q0 q3.1 q3.2 (m:=1) rfl q6 q7 hk hkn) b8;have q9:QN H W 3:=MW P (fun k hk hkn=>JI P q2 q1 q0 q3.1 q3.2 (m:=2) rfl q5 q8 hk hkn) b9;refine Ae hh hw fun k=>?_;cases e:aS W k with
 |some r=>
  have ek:=kK e;rcases MP (pD P.wt (gV e))with h|h|h|h
  ·have:=q3.1 r (gV e) h;rwa[ek]at this
  ·have:=q6 r (gV e) h;rwa[ek]at this
  ·have:=q5 r (gV e) h;rwa[ek]at this
  ·have:=q4 r (gV e) h;rwa[ek]at this
 |none=>
  cases e':aS H k with
  |none=>rfl
  |some r=>
   exfalso;have ek:=kK e';have:(aS W r.key).isSome=true:=by
    rcases MP (pD P.ht (gV e'))with h|h|h|h
    ·exact q3.2 r (gV e') h
    ·exact q7 r (gV e') h
    ·exact q8 r (gV e') h
    ·exact q9 r (gV e') h
   rw[ek,e]at this;cases this
theorem Ib (P:Pl H W held){U:List Key}(hU:U.length<=64)(hH:∀r∈H,r.key∈U)(hW:∀r∈W,r.key∈U)(h:mU H W held=some x):
  fF (cD H x.aD x.gone)=0/\iX (cD H x.aD x.gone)=0/\(∀r∈cD H x.aD x.gone,r.key∈U)/\
   ∀n,(∀j,j<n->Qp H W j)->n<10/\∀j,j<n+1->Qp (cD H x.aD x.gone) W j:=by
 have hw:=iC P.wt;have hh:=iC P.ht;obtain⟨i,hi,hb,G⟩:=Yg P h;have ha:=uN hh x.aD x.gone;have hm:∀r∈cD H x.aD x.gone,r∈H\/r∈W:=fun r hr=>(QX hr).imp_right (G.cE.aD r);have hu:∀r∈cD H x.aD x.gone,r.key∈U:=fun r hr=>(hm r hr).elim (hH r) (hW r);have hl:(cD H x.aD x.gone).length<=64:=by
  have:=Q9 (Ad ha) (b:=U) (fun k hk=>by obtain⟨r,hr,rfl⟩:=eR.1 hk;exact hu r hr);rw[vZ]at this;omega
 refine⟨Dd hl (fun r hr=>(hm r hr).elim (pD P.ht) (pD P.wt)) ha G.zc4,G.Es,hu,fun n hn=>?_⟩;have hin:n<=i:=Nat.le_of_not_lt fun h=>G.not (hn i h);refine⟨by omega,fun j hj=>?_⟩;by_cases e:j=i
 ·subst e;exact G.now
 ·exact zcC hh hw G.cE j (hb j (by omega))
end
structure Cache where
 cap:Int
 l:List aA
 deriving DecidableEq
@[simp] def pK (c:Cache):List D:=[iD c.cap,lD (c.l.map aK)]
def vC (n:Int):Cache:=⟨nX n,[]⟩
def kB (cap:Int)(l:List aA):Int:=if¬fF l=0 then fF l else if cap<l.length then 8 else iX l
def s7 (c:Cache):Bool:=decide (c.cap=nX c.cap)&&decide (kB c.cap c.l=0)
def rA (c:Cache):Cache:=if s7 c then c else vC c.cap
def zV (c:Cache)(aD:List aA)(gone:List Key):Cache×Int:=
 if kB c.cap (cD c.l aD gone)=0 then(⟨c.cap,cD c.l aD gone⟩,0)else(c,kB c.cap (cD c.l aD gone))
def sO (c:Cache)(aD:List aA)(gone:List Key):Cache×Int:=zV (rA c) aD gone
def rZ (c:Cache):List aA:=dO (rA c).l
structure mO where
 c:Cache
 ready:Bool
 shown:List aA
 deriving DecidableEq
@[simp] def DS (w:mO):List D:=pK w.c++[bD w.ready,lD (w.shown.map aK)]
def x6 (n:Int):mO:=⟨vC n,false,[]⟩
def sX (w:mO):Bool:=s7 w.c&&decide (w.shown=rZ w.c)&&(w.ready||decide (w.shown.length=0))
def rY (w:mO):mO:=if sX w then w else x6 w.c.cap
def qD (w:mO)(c:Cache):mO×Bool:=
 if rZ c=w.shown then(⟨c,w.ready,w.shown⟩,false)else(⟨c,true,rZ c⟩,true)
def wG (w:mO)(aD:List aA)(gone:List Key):mO×Bool×Int:=
 if¬(sO w.c aD gone).2=0 then(w,false,(sO w.c aD gone).2)
 else((qD w (sO w.c aD gone).1).1,(qD w (sO w.c aD gone).1).2,0)
def iO (w:mO)(aD:List aA)(gone:List Key):mO×Bool×Int:=wG (rY w) aD gone
structure eG where
 id:Int
 pins:Int
 l:List aA
 deriving DecidableEq
@[simp] def jZ (s:eG):List D:=[iD s.id,iD s.pins,lD (s.l.map aK)]
structure dJ where
 next:Int
 aX:List eG
 deriving DecidableEq
@[simp] def sE (p:dJ):List D:=[iD p.next,lD (p.aX.map jZ)]
def gX (next:Int):Int->List eG->Bool
 |_,[]=>true
 |a,s::r=>decide (a+1<=s.id)&&decide (s.id<=next)&&decide ((if r=[]then 0 else 1)<=s.pins)&&decide (s.pins<=10000)&&gX next s.id r
def jU (p:dJ):Bool:=gX p.next 0 p.aX&&cG p.next 2147483647&&decide (p.aX.length<=1000)
def gQ (p:dJ):dJ:=if jU p then p else⟨0,[]⟩
def wQ (p:dJ):List eG:=p.aX.filter fun s=>!decide (s.pins=0)
def u5 (p:dJ)(l:List aA):dJ×Int×Int:=
 if p.next=2147483647 then(p,0,14)else if 1000<=(wQ p).length then(p,0,8)
 else(⟨p.next+1,wQ p++[⟨p.next+1,0,l⟩]⟩,p.next+1,0)
def oS (p:dJ)(l:List aA):dJ×Int×Int:=u5 (gQ p) l
def rL (p:dJ):Option eG:=(gQ p).aX.getLast?
def GS (p:dJ):List Key:=((p.aX.flatMap (·.l)).map aA.key).foldl pQ []
def fH (p:dJ):List Key:=GS (gQ p)
@[simp] def zeA (i:aE.Nn):List D:=[iD i.l0,iD i.l1,iD i.l2,iD i.l3,iD i.m]
structure nA where
 (e0 e1 e2 e3:Int)
 deriving DecidableEq
@[simp] def zhp (e:nA):List D:=[iD e.e0,iD e.e1,iD e.e2,iD e.e3]
def nA.get (e:nA)(k:Int):Int:=if k=0 then e.e0 else if k=1 then e.e1 else if k=2 then e.e2 else e.e3
def nA.set (e:nA)(k v:Int):nA:=if k=0 then{e with e0:=v}else if k=1 then{e with e1:=v}else if k=2 then{e with e2:=v}else{e with e3:=v}
def iK (n:Int):Bool:=!cG n 15
structure bB where
 aF:Int
 aL:Int
 up:Bool
 cE:aE.Nn
 fS:nA
 w:mO
 p:dJ
 deriving DecidableEq
@[simp] def jQ (s:bB):List D:=[iD s.aF,iD s.aL,bD s.up]++zeA s.cE++zhp s.fS++DS s.w++sE s.p
def tG (iG most:Int):bB:=⟨0,0,false,aE.qF most,⟨0,0,0,0⟩,x6 iG,⟨0,[]⟩⟩
def zD (p:dJ):Bool:=decide (eX ⟨3,0,0,0,0,[],[],0,[],fH p⟩=0)
def uQ (s:bB):Bool:=match rL s.p with
 |none=>!s.w.ready
 |some c=>s.w.ready&&decide (c.l=s.w.shown)
def dI (s:bB):Bool:=
 (cG s.aF 2147483647&&cG s.aL 2147483647&& !(iK s.fS.e0||iK s.fS.e1||iK s.fS.e2||iK s.fS.e3))
   &&aE.tZ s.cE&&sX s.w&&jU s.p&&zD s.p&&uQ s
def fG (s:bB):bB:=if dI s then s else tG s.w.c.cap s.cE.m
def qO (s:bB):Bool:=decide (s.aL=2147483647)
def n9 (s:bB):bB:={s with aL:=s.aL+1}
def sG (s:bB):Frame:=⟨0,s.aF,0,0,0,[],[],0,qK s.w.c.l,[]⟩
def wV (s:bB):Frame:=⟨3,s.aF,0,0,s.aL,[],[],0,[],fH s.p⟩
def vP (s:bB)(aF:Int):bB×List Frame×Int:=
 if aF<=s.aF\/2147483647<aF then(s,[],11)else if qO s then(s,[],14)
 else let t:bB:=n9 {s with aF:=aF,up:=true,cE:=aE.qF s.cE.m,fS:=⟨0,0,0,0⟩}
  (t,[sG t,wV t],0)
def jW (s:bB)(aF:Int):bB×List Frame×Int:=vP (fG s) aF
def pG (s:bB)(f:Frame):Int:=
 if s.up=false then 12 else if¬eX f=0 then eX f else if¬f.aF=s.aF then 11 else if¬f.type=1 then 15 else 0
def lC (s:bB)(f:Frame):bB×List Frame:=
 (n9 s,[⟨2,f.aF,f.kind,f.cY,s.aL+1,[],[],s.fS.get f.kind,[],fH s.p⟩])
def jP (s:bB)(f:Frame):bB×Int:=
 let w:=iO s.w f.aD f.gone
 let q:=oS s.p w.1.shown
 if w.2.1=true/\¬q.2.2=0 then(s,q.2.2)else
 let p:=if w.2.1=true then q.1 else s.p
 if zD p=false then({s with fS:=s.fS.set f.kind 8},0)
 else({s with w:=w.1,p:=p,fS:=s.fS.set f.kind w.2.2},0)
def sW (s:bB)(f:Frame):bB×List Frame×Int:=
 if¬pG s f=0 then(s,[],pG s f)else
 let i:=aE.take s.cE f.kind f.cY
 if i.2=0 then
  if qO s then(s,[],14)else
  if¬(jP s f).2=0 then(s,[],(jP s f).2)else
  let t:={(jP s f).1 with cE:=i.1}
  if qO s then(s,[],14)else((lC t f).1,(lC t f).2,0)
 else if i.2=9 then
  if qO s then(s,[],14)else((lC s f).1,(lC s f).2,9)
 else(s,[],i.2)
def jM (s:bB)(f:Frame):bB×List Frame×Int:=sW (fG s) f
def hC (s:bB):Option eG:=rL (fG s).p
theorem IW {cap:Int}{l:List aA}:kB cap l=0↔fF l=0/\(l.length:Int)<=cap/\iX l=0:=by
 unfold kB;constructor
 ·intro h;split at h
  ·rename_i h1;exact absurd h h1
  ·rename_i h1;split at h
   ·simp at h
   ·rename_i h2;exact⟨rS.1 h1,by omega,h⟩
 ·rintro⟨h1,h2,h3⟩;rw[aH (by simp[h1]),aH (by omega),h3]
theorem u0 {c:Cache}:s7 c=true↔c.cap=nX c.cap/\fF c.l=0/\(c.l.length:Int)<=c.cap/\iX c.l=0:=by
 simp only[s7,bN,cP,IW]
theorem Ff (n:Int):s7 (vC n)=true:=by
 rw[u0];have:=S0 n;exact⟨(Z1 n).symm,show fF []=0 by decide+kernel,by simp[vC,this.1],Ep⟩
theorem VI (c:Cache):s7 (rA c)=true:=by
 unfold rA;split
 ·assumption
 ·exact Ff _
theorem B9 {c:Cache}(h:s7 c=true):rA c=c:=by simp[rA,h]
theorem zj6 (c:Cache)(a:List aA)(g:List Key):s7 (sO c a g).1=true:=by
 have h:=VI c;unfold sO zV;split
 ·rename_i h1;rw[u0]at h⊢;exact⟨h.1,IW.1 h1⟩
 ·exact h
theorem zcw :dO []=[]:=rfl
theorem Fc (n:Int):sX (x6 n)=true:=by
 have h:=Ff n;simp only[sX,x6,rZ,B9 h,h,tU,bN,rT,cP];exact⟨by simp[vC,zcw],.inr rfl⟩
theorem Zt (w:mO):sX (rY w)=true:=by
 unfold rY;split
 ·assumption
 ·exact Fc _
theorem VD {w:mO}(h:sX w=true):rY w=w:=by simp[rY,h]
theorem uZ {w:mO}:sX w=true↔s7 w.c=true/\w.shown=dO w.c.l/\(w.ready=true\/w.shown=[]):=by
 simp only[sX,bN,rT,cP,KL,and_assoc];constructor
 ·rintro⟨h1,h2,h3⟩;exact⟨h1,by simpa[rZ,B9 h1]using h2,h3⟩
 ·rintro⟨h1,h2,h3⟩;exact⟨h1,by simpa[rZ,B9 h1]using h2,h3⟩
theorem U8 (w:mO)(a:List aA)(g:List Key):sX (iO w a g).1=true:=by
 have h:=Zt w;unfold iO wG;split
 ·exact h
 ·have h1:=zj6 (rY w).c a g;have h2:=uZ.1 h;unfold qD;split
  ·rename_i h3;rw[uZ];simp only[rZ,B9 h1]at h3;exact⟨h1,h3.symm,h2.2.2⟩
  ·rw[uZ];exact⟨h1,by simp[rZ,B9 h1],.inl rfl⟩
theorem zg6 {l:List aA}:cG (oF l) 15=true:=by
 unfold oF;split
 ·rename_i r _;unfold eL
  (repeat' split)<;>simp[cG]
 ·simp[cG]
theorem Xp (l:List aA):cG (fF l) 15=true:=by
 unfold fF
 (repeat' split)<;>first|exact zg6|simp[cG]
theorem zbb (l:List aA):cG (iX l) 15=true:=by
 unfold iX
 (repeat' split)<;>simp[cG]
theorem zeY (cap:Int)(l:List aA):cG (kB cap l) 15=true:=by
 unfold kB
 (repeat' split)<;>first|exact Xp _|exact zbb _|simp[cG]
theorem zj7 (c:Cache)(a:List aA)(g:List Key):cG (sO c a g).2 15=true:=by
 unfold sO zV;split
 ·simp[cG]
 ·exact zeY _ _
theorem Ym (w:mO)(a:List aA)(g:List Key):cG (iO w a g).2.2 15=true:=by
 unfold iO wG;split
 ·exact zj7 _ _ _
 ·simp[cG]
theorem Fl {n:Int}:∀{l:List eG} {a b:Int},b<=a->gX n a l=true->gX n b l=true
 |[],_,_,_,_=>rfl
 |s::r,a,b,h,hs=>by
  simp only[gX,bN,cP]at hs⊢;exact⟨⟨⟨⟨by omega,hs.1.1.1.2⟩,hs.1.1.2⟩,hs.1.2⟩,hs.2⟩
theorem VZ {n:Int}(L:List aA):∀{l:List eG} {a:Int},a<=n->gX n a l=true->gX (n+1) a ((l.filter fun s=>!decide (s.pins=0))++[⟨n+1,0,L⟩])=true
 |[],a,ha,_=>by
  simp only[List.filter_nil,DK,gX,bN,cP,eA,and_true];omega
 |s::r,a,ha,hs=>by
  simp only[gX,bN,cP]at hs;obtain⟨⟨⟨⟨h1,h2⟩,h3⟩,h4⟩,h5⟩:=hs;by_cases hp:s.pins=0
  ·simp only[yW,hp,yT,DO,oM,gY];exact VZ L ha (Fl (by omega) h5)
  ·simp only[yW,hp,DH,OA,eA,BY,gX,bN,cP];have h3':1<=s.pins:=by
    split at h3<;>omega
   refine⟨⟨⟨⟨h1,by omega⟩,?_⟩,h4⟩,VZ L h2 h5⟩;rw[aH (by simp)];exact h3'
theorem oQ {p:dJ}:jU p=true↔gX p.next 0 p.aX=true/\0<=p.next/\p.next<=2147483647/\p.aX.length<=1000:=by
 simp only[jU,cG,bN,cP,and_assoc]
theorem Fe :jU ⟨0,[]⟩=true:=rfl
theorem D0 (p:dJ):jU (gQ p)=true:=by
 unfold gQ;split
 ·assumption
 ·exact Fe
theorem mC {p:dJ}(h:jU p=true):gQ p=p:=by simp[gQ,h]
theorem PR (p:dJ)(l:List aA):jU (oS p l).1=true:=by
 have h:=D0 p;unfold oS u5;split
 ·exact h
 ·rename_i h1;split
  ·exact h
  ·rename_i h2;rw[oQ]at h⊢;refine⟨VZ l h.2.1 h.1,by simp only;omega,by simp only;omega,?_⟩;simp only[dQ,List.length_singleton];omega
theorem zcR {p:dJ}{l:List aA}(h:(oS p l).2.2=0):∃s,rL (oS p l).1=some s/\s.l=l:=by
 have h0:=PR p l;unfold rL;rw[mC h0];unfold oS u5 at h⊢;split at h
 ·simp at h
 ·rename_i h1;split at h
  ·simp at h
  ·rename_i h2;rw[aH h1,aH h2];exact⟨⟨(gQ p).next+1,0,l⟩,by simp,rfl⟩
theorem IE {p:dJ}:zD p=true↔(fH p).length<=64/\∀k∈fH p,iY k=true:=by
 have:=ZM (v:=⟨[],fH p,0,fQ,false⟩);simp only[zD,cP];simp only[tM]at this;rw[this];simp[cG]
theorem Xf {i:aE.Nn}(h:aE.tZ i=true)(k n:Int):aE.tZ (aE.take i k n).1=true:=by
 obtain⟨a,b,c,d,m⟩:=i;simp only[aE.take,aE.A1,h,eA];unfold aE.DV;split
 ·exact h
 ·split
  ·exact h
  ·split
   ·exact h
   ·rename_i h1;simp only[aE.Nn.set,aE.Nn.last,aE.AL]at h h1⊢
    (repeat' split at h1)<;>(repeat' split)<;>simp only[aE.AL]<;>omega
theorem Dn (n:Int):aE.tZ (aE.qF n)=true:=by
 have:=aE.NC n;simp only[aE.qF,aE.AL];omega
structure J6 (s:bB):Prop where
 aF:cG s.aF 2147483647=true
 aL:cG s.aL 2147483647=true
 fS:iK s.fS.e0=false/\iK s.fS.e1=false/\iK s.fS.e2=false/\iK s.fS.e3=false
 cE:aE.tZ s.cE=true
 w:sX s.w=true
 p:jU s.p=true
 room:zD s.p=true
 yR:uQ s=true
theorem iP {s:bB}:dI s=true↔J6 s:=by
 simp only[dI,bN,pN,AH];constructor
 ·rintro⟨⟨⟨⟨⟨⟨⟨h1,h2⟩,h3⟩,h4⟩,h5⟩,h6⟩,h7⟩,h8⟩;exact⟨h1,h2,⟨h3.1.1.1,h3.1.1.2,h3.1.2,h3.2⟩,h4,h5,h6,h7,h8⟩
 ·intro h;obtain⟨g1,g2,g3,g4⟩:=h.fS;exact⟨⟨⟨⟨⟨⟨⟨h.aF,h.aL⟩,⟨⟨⟨g1,g2⟩,g3⟩,g4⟩⟩,h.cE⟩,h.w⟩,h.p⟩,h.room⟩,h.yR⟩
theorem Om :fH ⟨0,[]⟩=[]:=rfl
theorem Fb (l m:Int):dI (tG l m)=true:=by
 rw[iP];exact⟨rfl,rfl,⟨rfl,rfl,rfl,rfl⟩,Dn m,Fc l,Fe,IE.2 ⟨by rw[show(tG l m).p=⟨0,[]⟩from rfl,Om];simp,by rw[show(tG l m).p=⟨0,[]⟩from rfl,Om];simp⟩,rfl⟩
theorem LG (s:bB):dI (fG s)=true:=by
 unfold fG;split
 ·assumption
 ·exact Fb _ _
theorem j9 {s:bB}(h:dI s=true):fG s=s:=by simp[fG,h]
theorem SH {e:nA}(h:iK e.e0=false/\iK e.e1=false/\iK e.e2=false/\iK e.e3=false){v:Int}(hv:cG v 15=true)(k:Int):
  iK (e.set k v).e0=false/\iK (e.set k v).e1=false/\iK (e.set k v).e2=false/\iK (e.set k v).e3=false:=by
 have hv':iK v=false:=by simp[iK,hv]
 unfold nA.set
 (repeat' split)<;>simp[h,hv']
theorem UW {n:Int}(h:cG n 2147483647=true)(hf:¬n=2147483647):cG (n+1) 2147483647=true:=by
 rw[mF]at h⊢;omega
theorem ZT (s:bB)(aF:Int):dI (jW s aF).1=true:=by
 have h:=LG s;unfold jW vP;split
 ·exact h
 ·rename_i h1;split
  ·exact h
  ·rename_i h2;have S:=iP.1 h;rw[iP];have he:=mF.1 S.aF;exact⟨mF.2 ⟨by simp only[n9];omega,by simp only[n9];omega⟩,UW S.aL (by simpa[qO]using h2),⟨rfl,rfl,rfl,rfl⟩,Dn _,S.w,S.p,S.room,S.yR⟩
theorem Yi {s:bB}(S:J6 s)(f:Frame):J6 (jP s f).1:=by
 have hw:=U8 s.w f.aD f.gone;have hr:=Ym s.w f.aD f.gone;have h6:(iO s.w f.aD f.gone).2.1=true->(iO s.w f.aD f.gone).1.ready=true:=by
  unfold iO wG qD
  (repeat' split)<;>simp
 have h7:(iO s.w f.aD f.gone).2.1=false->(iO s.w f.aD f.gone).1.ready=s.w.ready/\(iO s.w f.aD f.gone).1.shown=s.w.shown:=by
  have hw:rY s.w=s.w:=VD S.w;unfold iO wG qD;rw[hw]
  (repeat' split)<;>simp
 unfold jP;dsimp only;generalize iO s.w f.aD f.gone=W at hw hr h6 h7⊢;obtain⟨w',ch,why⟩:=W;simp only at hw hr h6 h7⊢;cases ch with
 |false=>
  simp only[oM,false_and,gY];split
  ·exact⟨S.aF,S.aL,SH S.fS rfl _,S.cE,S.w,S.p,S.room,S.yR⟩
  ·refine⟨S.aF,S.aL,SH S.fS hr _,S.cE,hw,S.p,S.room,?_⟩;have hA:=S.yR;obtain⟨g1,g2⟩:=h7 rfl;unfold uQ at hA⊢;simp only[g1,g2];exact hA
 |true=>
  simp only[true_and,eA];split
  ·exact S
  ·rename_i h1;split
   ·exact⟨S.aF,S.aL,SH S.fS rfl _,S.cE,S.w,S.p,S.room,S.yR⟩
   ·rename_i h2;refine⟨S.aF,S.aL,SH S.fS hr _,S.cE,hw,PR _ _,by simpa using h2,?_⟩;obtain⟨c,h4,h5⟩:=zcR (rS.1 h1);simp only[uQ,h4,h5,h6 rfl,yT,Bool.and_self]
theorem VK (s:bB)(f:Frame):dI (jM s f).1=true:=by
 have h:=LG s;have S:=iP.1 h;unfold jM sW;generalize fG s=q at h S⊢;dsimp only;split
 ·exact h
 ·split
  ·split
   ·exact h
   ·rename_i hf;split
    ·exact h
    ·rw[iP];have T:=Yi S f;have ht:(jP q f).1.aL=q.aL:=by
      unfold jP;dsimp only
      (repeat' split)<;>rfl
     exact⟨T.aF,by simp only[lC,n9,ht];exact UW S.aL (by simpa[qO]using hf),T.fS,Xf S.cE _ _,T.w,T.p,T.room,T.yR⟩
  ·split
   ·split
    ·exact h
    ·rename_i hf;rw[iP];exact⟨S.aF,UW S.aL (by simpa[qO]using hf),S.fS,S.cE,S.w,S.p,S.room,S.yR⟩
   ·exact h
theorem zg2 {l:List aA}(h:cW l):(l.map aA.key).foldl pQ []=l.map aA.key:=
 NF (zQ _ (by simp[jC])).1 h fun k=>by rw[(zQ _ (by simp[jC])).2];simp
theorem NG {l:List aA}(h:cW l):cW (dO l):=BF h _
theorem Ol (n:Int)(c:eG)(hs:jU ⟨n,[c]⟩=true)(hc:cW c.l):fH ⟨n,[c]⟩=c.l.map aA.key:=by
 unfold fH;rw[mC hs];simp only[GS,UD,List.flatMap_nil,KW];exact zg2 hc
theorem Ax {n a:Int}:∀{l:List eG},gX n a l=true->(∀s∈l,s.pins=0)->l=[]\/∃c,l=[c]
 |[],_,_=>.inl rfl
 |[c],_,_=>.inr ⟨c,rfl⟩
 |c::d::r,hs,hz=>by
  simp only[gX,bN,cP]at hs;have h1:=hz c (by simp);have h2:=hs.1.1.2;rw[aH (by simp)]at h2;omega
theorem Oj {x:bB}(S:J6 x)(hz:∀s∈x.p.aX,s.pins=0)(ha:cW x.w.shown):fH x.p=x.w.shown.map aA.key:=by
 have hp:=oQ.1 S.p;have hA:=S.yR;have hw:=(uZ.1 S.w).2.2;unfold uQ rL at hA;rw[mC S.p]at hA;rcases Ax hp.1 hz with e|⟨c,e⟩
 ·rw[e]at hA;simp only[List.getLast?_nil,pN]at hA;have:x.w.shown=[]:=hw.resolve_left (by simp[hA]);rw[this];unfold fH;rw[mC S.p];simp[GS,e]
 ·rw[e]at hA;simp only[List.getLast?_singleton,bN,cP]at hA;have e2:x.p=⟨x.p.next,[c]⟩:=by rw[<-e]
  have hs:=S.p;rw[e2]at hs⊢;rw[Ol _ _ hs (by rw[hA.2];exact ha),hA.2]
theorem Gm {p:dJ}{H:List aA}(hp:fH p=(dO H).map aA.key)(ht:fF H=0):zD p=true:=by
 rw[IE,hp];have h1:=rW ht;have h2:(dO H).length<=H.length:=kS _ _;refine⟨by rw[vZ];omega,fun k hk=>?_⟩;obtain⟨r,hr,rfl⟩:=eR.1 hk;exact(O7 (pD ht (uC.1 hr).1)).2
theorem Yk {x:bB}{H H':List aA}{f:Frame}(S:J6 x)(hc:x.w.c=⟨64,H⟩)(hz:∀s∈x.p.aX,s.pins=0)(hn:x.p.next<2147483647)
  (hH:cD H f.aD f.gone=H') (ht:fF H'=0) (hv:iX H'=0):
  ∃p' w',jP x f=({x with w:=w',p:=p',fS:=x.fS.set f.kind 0},0)/\w'.c=⟨64,H'⟩/\(∀s∈p'.aX,s.pins=0)/\fH p'=(dO H').map aA.key/\p'.next<=x.p.next+1:=by
 have hW:=uZ.1 S.w;rw[hc]at hW;have hsC:=hW.1;have hl:=rW ht;have hm:kB 64 H'=0:=IW.2 ⟨ht,by omega,hv⟩;have hap:sO x.w.c f.aD f.gone=(⟨64,H'⟩,0):=by
  rw[hc];simp only[sO,B9 hsC,zV,hH,hm,eA]
 have hsN:s7 ⟨64,H'⟩=true:=u0.2 ⟨rfl,ht,by simp only;omega,hv⟩;have hsh:rZ ⟨64,H'⟩=dO H':=by simp only[rZ,B9 hsN]
 have ha:=NG (iC ht);have hst:iO x.w f.aD f.gone=((qD x.w ⟨64,H'⟩).1,(qD x.w ⟨64,H'⟩).2,0):=by
  simp only[iO,VD S.w,wG,hap];simp
 by_cases e:dO H'=x.w.shown
 ·have htk:qD x.w ⟨64,H'⟩=(⟨⟨64,H'⟩,x.w.ready,x.w.shown⟩,false):=by simp[qD,hsh,e]
  rw[htk]at hst;have hh:fH x.p=(dO H').map aA.key:=by rw[e];exact Oj S hz (by rw[<-e];exact ha)
  refine⟨x.p,⟨⟨64,H'⟩,x.w.ready,x.w.shown⟩,?_,rfl,hz,hh,by omega⟩;have hr:=Gm hh ht;simp[jP,hst,hr]
 ·have htk:qD x.w ⟨64,H'⟩=(⟨⟨64,H'⟩,true,dO H'⟩,true):=by simp[qD,hsh,e]
  rw[htk]at hst;have hlf:wQ x.p=[]:=by
   unfold wQ;rw[KS];intro s hs;simp[hz s hs]
  have hpu:oS x.p (dO H')=(⟨x.p.next+1,[⟨x.p.next+1,0,dO H'⟩]⟩,x.p.next+1,0):=by
   have:¬x.p.next=2147483647:=by omega
   simp[oS,mC S.p,u5,this,hlf]
  have hsp:=PR x.p (dO H');rw[hpu]at hsp;have hh:fH ⟨x.p.next+1,[⟨x.p.next+1,0,dO H'⟩]⟩=(dO H').map aA.key:=Ol _ _ hsp ha;refine⟨⟨x.p.next+1,[⟨x.p.next+1,0,dO H'⟩]⟩,⟨⟨64,H'⟩,true,dO H'⟩,?_,rfl,by simp,hh,by simp⟩;have hr:=Gm hh ht;simp[jP,hst,hpu,hr]
theorem zaD {x:bB}(hs:dI x=true)(hu:x.up=true){f:Frame}(hf:eX f=0)(he:f.aF=x.aF)(ht:f.type=1)(htk:(aE.take x.cE f.kind f.cY).2=0)(hfu:qO x=false)
  (hst:(jP x f).2=0):jM x f=((lC {(jP x f).1 with cE:=(aE.take x.cE f.kind f.cY).1} f).1,(lC {(jP x f).1 with cE:=(aE.take x.cE f.kind f.cY).1} f).2,0):=by
 simp[jM,j9 hs,sW,pG,hu,hf,he,ht,htk,hfu,hst]
theorem SG (e:nA){k v:Int}:(e.set k v).get k=v:=by
 unfold nA.set nA.get
 (repeat' split)<;>simp_all
theorem R0 {s:cL}{p:aT}(h1:s.lB=true)(h2:s.v.open_=false)(h3:s.stuck=0):idle s p=false:=by
 simp[idle,h1,h2,h3]
theorem zkF {ep k N T:Int}{hd:List Key}(h1:cG ep 2147483647=true)(h2:cG k 3=true)(h3:cG N 2147483647=true)(h4:cG T 2147483647=true)(h5:hd.length<=64)(h6:∀k∈hd,iY k=true):
  eX ⟨2,ep,k,N,T,[],[],0,[],hd⟩=0:=by
 rw[nW];refine⟨rfl,h2,?_,rfl,?_,by simp,rfl⟩
 ·simp only[oA,h1,h3,h4,h5];simp[h5,cG]
 ·simp only[mV,bN,eF];exact⟨⟨by simp,h6⟩,by simp⟩
theorem zkE {s t:cL}{q:aT}{f:Frame}{o1 o2:aE.Ou}{T:Int}{hd:List Key}(ht:t={s with v:=lK s.v f,out:=o1})(hs:gC t=true)(hep:f.aF=s.aF)
  (hd':aE.done o1 f.kind f.cY=(o2,0)) (hT:s.v.aL<T) (hl:(cD s.v.bF f.aD f.gone).length<=64) (hf:eX ⟨2,f.aF,f.kind,f.cY,T,[],[],0,[],hd⟩=0):
  handle t q ⟨2,f.aF,f.kind,f.cY,T,[],[],0,[],hd⟩=(⟨s.aF,s.lB,o2,⟨cD s.v.bF f.aD f.gone,hd,T,fQ,false⟩,0,oT q⟩,0):=by
 subst ht;have hl':¬64<(cD s.v.bF f.aD f.gone).length:=by omega
 rw[hep]at hf⊢;unfold handle;rw[nP hs];simp[qN,hf,qU,hd',lK,j4,pZ,eE,hT,hl',hep]
theorem zgw {ep:Int}{H:List aA}(he:cG ep 2147483647=true)(ht:fF H=0):eX ⟨0,ep,0,0,0,[],[],0,qK H,[]⟩=0:=by
 have hl:=rW ht;rw[nW];refine⟨rfl,rfl,?_,rfl,?_,by simp,rfl⟩
 ·simp only[oA,bN,eF,cP];refine⟨⟨⟨⟨⟨⟨⟨⟨by simp,by simp⟩,by simpa[qK]using hl⟩,by simp⟩,fun m hm=>?_⟩,he⟩,by decide⟩,by decide⟩,by decide⟩;obtain⟨r,hr,rfl⟩:=eR.1 hm;exact(O7 (pD ht hr)).1
 ·simp only[mV,bN,eF];refine⟨⟨by simp,by simp⟩,fun m hm=>?_⟩;obtain⟨r,hr,rfl⟩:=eR.1 hm;exact(O7 (pD ht hr)).2
theorem zhT {ep T:Int}{hd:List Key}(h1:cG ep 2147483647=true)(h4:cG T 2147483647=true)(h5:hd.length<=64)(h6:∀k∈hd,iY k=true):eX ⟨3,ep,0,0,T,[],[],0,[],hd⟩=0:=by
 rw[nW];refine⟨rfl,rfl,?_,rfl,?_,by simp,rfl⟩
 ·simp only[oA,h1,h4,h5];simp[h5,cG]
 ·simp only[mV,bN,eF];exact⟨⟨by simp,h6⟩,by simp⟩
@[simp] theorem lenAll_snap (l:List eG):jV (l.map jZ) 3=True:=vG (f:=jZ) (n:=3) (fun _=>rfl) l
def uP (l:List eG):Int:=match l.getLast? with
 |some s=>s.id
 |none=>0
@[simp] theorem ahP_nil :uP []=0:=rfl
@[simp] theorem J1 (l:List eG)(s:eG):uP (l++[s])=s.id:=by simp[uP]
theorem D4 {n:Int}:∀{l:List eG} {a:Int},gX n a l=true->∀s∈l,s.id<=n/\s.pins<=10000/\a+1<=s.id
 |[],_,_,s,hs=>by cases hs
 |q::r,a,h,s,hs=>by
  simp only[gX,bN,cP]at h;rcases kN.1 hs with rfl|hs
  ·exact⟨h.1.1.1.2,h.1.2,h.1.1.1.1⟩
  ·have:=D4 h.2 s hs;exact⟨this.1,this.2.1,by omega⟩
structure fT (s:bB):Prop where
 c:dK s.w.c.l
 cl:s.w.c.l.length<=1000
 shown:dK s.w.shown
 aX:∀q∈s.p.aX,dK q.l/\q.l.length<=64
 next:s.p.next<=2147483648
 sl:s.p.aX.length<=1000000
structure oI (p:dJ):Prop where
 aX:∀q∈p.aX,dK q.l/\q.l.length<=64
 next:p.next<=2147483648
 sl:p.aX.length<=1000000
theorem oI.sound {p:dJ}(h:oI p):oI (gQ p):=by
 unfold gQ;split
 ·exact h
 ·exact⟨by simp,by decide,by simp⟩
theorem FQ (p:dJ):(gQ p).aX.length<=1000:=(oQ.1 (D0 p)).2.2.2
theorem VJ {l:List eG}(h:∀q∈l,q.l.length<=64):(l.flatMap (·.l)).length<=64*l.length:=by
 induction l with
 |nil=>simp
 |cons s r ih=>
  have:=ih fun q hq=>h q (by simp[hq])
  have:=h s (by simp);simp only[UD,dQ,kE];omega
theorem MQ {p:dJ}(h:oI p):(fH p).length<=64000:=by
 unfold fH GS;have h1:=VJ fun q hq=>(h.sound.aX q hq).2;have h2:=FQ p;obtain⟨a1,a2⟩:=zQ ((((gQ p).aX.flatMap (·.l)).map aA.key)) (o:=[]) (by simp[jC]);have:=Q9 (Ad a1) (b:=((gQ p).aX.flatMap (·.l)).map aA.key) (fun k hk=>by rw[a2]at hk;simpa using hk);rw[vZ]at this;omega
theorem Ni {α:Type}(l:List α):l=[]\/∃i s,l=i++[s]:=by
 rcases List.eq_nil_or_concat l with h|⟨i,s,h⟩
 ·exact .inl h
 ·exact .inr ⟨i,s,by simpa using h⟩
theorem fT.pins {s:bB}(h:fT s):oI s.p:=⟨h.aX,h.next,h.sl⟩
theorem Ue (n:Int):iK n=(decide (n<0)||decide (15<n)):=by
 rw[iK,cG];by_cases h1:n<0<;>by_cases h2:15<n<;>simp[h1,h2]<;>omega
theorem QC {l:List aA}(h:dK l)(p:aA->Bool):dK (l.filter p):=⟨fV (kS _ _) h.len,fun r hr=>h.all r (jD.1 hr).1⟩
theorem Jf {c:Cache}(h:dK c.l):dK (rA c).l:=by
 unfold rA;split
 ·exact h
 ·exact⟨by simp[vC],fun r hr=>by simp[vC]at hr⟩
theorem Jq {c:Cache}{aD:List aA}{gone:List Key}(h:dK c.l)(ha:dK aD)(hl:aD.length<=1000):dK (sO c aD gone).1.l:=by
 have h1:=Jf h;have h2:=rW (u0.1 (VI c)).2.1;unfold sO zV;split
 ·exact zdJ h1 ha (by omega)
 ·exact h1
theorem Je {w:mO}(h:dK w.c.l)(hs:dK w.shown):dK (rY w).c.l/\dK (rY w).shown:=by
 unfold rY;split
 ·exact⟨h,hs⟩
 ·exact⟨⟨by simp[x6,vC],fun r hr=>by simp[x6,vC]at hr⟩,⟨by simp[x6],fun r hr=>by simp[x6]at hr⟩⟩
theorem Jg {c:Cache}(h:dK c.l):dK (rZ c):=QC (Jf h) _
theorem QB :dK []:=⟨by simp,fun r hr=>by simp at hr⟩
theorem Jd {w:mO}{aD:List aA}{gone:List Key}(h:dK w.c.l)(hs:dK w.shown)(ha:dK aD)(hl:aD.length<=1000):dK (iO w aD gone).1.c.l/\dK (iO w aD gone).1.shown:=by
 obtain⟨h1,h2⟩:=Je h hs;unfold iO wG;split
 ·exact⟨h1,h2⟩
 ·have h3:=Jq (gone:=gone) h1 ha hl;unfold qD;split
  ·exact⟨h3,h2⟩
  ·exact⟨h3,Jg h3⟩
theorem Dj (w:mO)(aD:List aA)(gone:List Key):(iO w aD gone).1.c.l.length<=64/\(iO w aD gone).1.shown.length<=64:=by
 have h:=uZ.1 (U8 w aD gone);have h1:=rW (u0.1 h.1).2.1;refine⟨h1,?_⟩;rw[h.2.1];exact fV (kS _ _) h1
theorem Ji {p:dJ}(h:oI p){l:List aA}(hl:dK l)(hl2:l.length<=64):oI (oS p l).1:=by
 have hs:=oQ.1 (PR p l);have h1:=h.sound.aX;refine⟨?_,by omega,by omega⟩;unfold oS u5;split
 ·exact h1
 ·split
  ·exact h1
  ·intro q hq;rcases dN.1 hq with hq|hq
   ·exact h1 q (jD.1 hq).1
   ·rw[fI.1 hq];exact⟨hl,hl2⟩
theorem fT.mk' {s:bB}(h1:dK s.w.c.l)(h2:s.w.c.l.length<=1000)(h3:dK s.w.shown)(hp:oI s.p):fT s:=⟨h1,h2,h3,hp.aX,hp.next,hp.sl⟩
theorem fT.new (l m:Int):fT (tG l m):=.mk' QB (by simp[tG,x6,vC]) QB ⟨by simp[tG],by simp[tG],by simp[tG]⟩
theorem fT.sound {s:bB}(h:fT s):fT (fG s):=by
 unfold fG;split
 ·exact h
 ·exact .new _ _
theorem fT.step {s:bB}(h:fT s){f:Frame}(ha:dK f.aD)(hl:f.aD.length<=1000):fT (jP s f).1:=by
 obtain⟨h1,h2⟩:=Jd (gone:=f.gone) h.c h.shown ha hl;obtain⟨h3,h4⟩:=Dj s.w f.aD f.gone;unfold jP;dsimp only;generalize iO s.w f.aD f.gone=W at h1 h2 h3 h4⊢;obtain⟨w',ch,why⟩:=W;simp only at h1 h2 h3 h4⊢;cases ch with
 |false=>
  simp only[oM,false_and,gY];split
  ·exact .mk' h.c h.cl h.shown h.pins
  ·exact .mk' h1 (by simp only;omega) h2 h.pins
 |true=>
  simp only[true_and,eA];split
  ·exact h
  ·split
   ·exact .mk' h.c h.cl h.shown h.pins
   ·exact .mk' h1 (by simp only;omega) h2 (Ji h.pins h2 h4)
theorem Yh (s:bB)(f:Frame):(jP s f).1.aL=s.aL:=by
 unfold jP;dsimp only
 (repeat' split)<;>rfl
theorem PH {s:bB}{f:Frame}(h:pG s f=0):eX f=0:=by
 unfold pG at h;split at h
 ·cases h
 ·split at h
  ·rename_i h1;exact absurd h h1
  ·rename_i h1;exact rS.1 h1
theorem UT {s:bB}(h:dI s=true):0<=s.aL/\s.aL<=2147483647:=mF.1 (iP.1 h).aL
theorem Lo {s:cH}{n:Nat}(h:(bs s).length<=n)(hn:n<=9223372036854775807):nB s:=fV h hn
theorem WZ {r:aA}(h:eL r=0):zX r:=by
 obtain⟨h1,h2,h3,h4,h5,h6⟩:=zA h;have n1:=Lm h2;simp only[pE,bN,cP,eF,xQ]at h3;refine⟨Lo n1 (by omega),?_,by omega,fun x hx=>?_,by omega⟩
 ·by_cases ht:tH r.kind=true
  ·simp only[wN,ht,DO,HM,bN]at h5;exact Lo (Lm h5.1) (by omega)
  ·simp only[y8,ht,Bool.or_false,bN,cP]at h4;unfold nB;rw[h4.1.1.2];simp
 ·have:=(h3.2 x hx).1;omega
theorem QA {l:List aA}(h:fF l=0):dK l:=⟨by have:=rW h;omega,fun r hr=>WZ (pD h hr)⟩
theorem F9 {f:Frame}(h:eX f=0):jB f:=by
 have F:=nW.1 h;have L:=xR F.small;exact⟨⟨by omega,fun r hr=>WZ (F.aD r hr)⟩,by omega,by omega,by omega⟩
theorem zcL {s:cL}(q:aT)(f:Frame)(hs:gC s=true)(hp:jB s.v.push):jB (handle s q f).1.v.push:=by
 rcases zgB q f hs with e|e
 ·rw[e];exact hp
 ·rw[e];exact Bb
end Go.G
