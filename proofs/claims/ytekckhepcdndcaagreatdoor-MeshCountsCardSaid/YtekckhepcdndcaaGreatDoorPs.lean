/-
  LAYERS 9, 10, 13, 15 to 20: histories, frames that may be, numbers of pushes, plans, sidecars, pins, sessions: plainly.
-/
import Derived.Test.YtekckhepcdndcaaGreatDoorPl
set_option linter.unusedSimpArgs false
set_option linter.unusedVariables false
namespace Go.Nonce
structure Ou where
 (l0 l1 l2 l3:Int) (o0 o1 o2 o3:Bool) (m:Int)
 deriving DecidableEq
structure Nn where
 (l0 l1 l2 l3 m:Int)
 deriving DecidableEq
def bnd (n:Int):Int:=max 1 (min n 2147483647)
def startO (n:Int):Ou:=⟨0,0,0,0,false,false,false,false,bnd n⟩
def startI (n:Int):Nn:=⟨0,0,0,0,bnd n⟩
def soundB (i:Nn):Bool:=
 decide (0≤i.l0)&&decide (i.l0≤i.m)&&decide (0≤i.l1)&&decide (i.l1≤i.m)&&decide (0≤i.l2)&&decide (i.l2≤i.m)&&decide (0≤i.l3)&&decide (i.l3≤i.m)&&decide (1≤i.m)&&decide (i.m≤2147483647)
def Ou.toI (o:Ou):Nn:=⟨o.l0,o.l1,o.l2,o.l3,o.m⟩
def goodB (o:Ou):Bool:=
 !(o.o0&&decide (o.l0=0))&& !(o.o1&&decide (o.l1=0))&& !(o.o2&&decide (o.l2=0))&& !(o.o3&&decide (o.l3=0))&&soundB o.toI
def outF (o:Ou):Ou:=if goodB o then o else startO o.m
def inF (i:Nn):Nn:=if soundB i then i else startI i.m
def kindB (k:Int):Bool:=decide (0≤k)&&decide (k<4)
def Ou.last (o:Ou)(k:Int):Int:=if k=0 then o.l0 else if k=1 then o.l1 else if k=2 then o.l2 else o.l3
def Ou.open' (o:Ou)(k:Int):Bool:=if k=0 then o.o0 else if k=1 then o.o1 else if k=2 then o.o2 else o.o3
def Ou.set (o:Ou)(k l:Int)(b:Bool):Ou:=
 if k=0 then{o with l0:=l,o0:=b}else if k=1 then{o with l1:=l,o1:=b}else if k=2 then{o with l2:=l,o2:=b}else{o with l3:=l,o3:=b}
def Nn.last (o:Nn)(k:Int):Int:=if k=0 then o.l0 else if k=1 then o.l1 else if k=2 then o.l2 else o.l3
def Nn.set (o:Nn)(k l:Int):Nn:=
 if k=0 then{o with l0:=l}else if k=1 then{o with l1:=l}else if k=2 then{o with l2:=l}else{o with l3:=l}
def pushQ (o:Ou)(k:Int):Ou×Int×Int:=
 if kindB k=false then(o,0,4)
 else if o.open' k then(o,0,15)
 else if o.last k=o.m then(o,0,14)
 else(o.set k (o.last k+1) true,o.last k+1,0)
def push (o:Ou)(k:Int):Ou×Int×Int:=pushQ (outF o) k
def doneQ (o:Ou)(k n:Int):Ou×Int:=
 if kindB k=false then(o,4)
 else if o.open' k=false∨n≠o.last k then(o,11)
 else(o.set k (o.last k) false,0)
def done (o:Ou)(k n:Int):Ou×Int:=doneQ (outF o) k n
def takeQ (i:Nn)(k n:Int):Nn×Int:=
 if kindB k=false then(i,4)
 else if n≠0∧n=i.last k then(i,9)
 else if n≠i.last k+1∨i.m<n then(i,11)
 else(i.set k n,0)
def take (i:Nn)(k n:Int):Nn×Int:=takeQ (inF i) k n
theorem soundB_mk (a b c d m:Int):(soundB ⟨a,b,c,d,m⟩=true)=(0≤a∧a≤m∧0≤b∧b≤m∧0≤c∧c≤m∧0≤d∧d≤m∧1≤m∧m≤2147483647):=by
 simp[soundB,and_assoc]
theorem bnd_ok (n:Int):1≤bnd n∧bnd n≤2147483647:=by simp only[bnd];omega
def Ou.ok (o:Ou):Prop:=(0≤o.l0∧o.l0≤o.m∧0≤o.l1∧o.l1≤o.m∧0≤o.l2∧o.l2≤o.m∧0≤o.l3∧o.l3≤o.m∧1≤o.m∧o.m≤2147483647)
def Nn.ok (o:Nn):Prop:=(0≤o.l0∧o.l0≤o.m∧0≤o.l1∧o.l1≤o.m∧0≤o.l2∧o.l2≤o.m∧0≤o.l3∧o.l3≤o.m∧1≤o.m∧o.m≤2147483647)
theorem outF_ok (o:Ou):(outF o).ok:=by
 obtain⟨a,b,c,d,x,y,z,t,m⟩:=o;simp only[outF];by_cases h:goodB ⟨a,b,c,d,x,y,z,t,m⟩=true
 ·rw[if_pos h];simp only[goodB,Ou.toI,Bool.and_eq_true,soundB_mk]at h;exact h.2
 ·rw[if_neg h];have:=bnd_ok m;simp only[Ou.ok,startO];omega
theorem inF_ok (o:Nn):(inF o).ok:=by
 obtain⟨a,b,c,d,m⟩:=o;simp only[inF];by_cases h:soundB ⟨a,b,c,d,m⟩=true
 ·rw[if_pos h];rw[soundB_mk]at h;exact h
 ·rw[if_neg h];have:=bnd_ok m;simp only[Nn.ok,startI];omega
theorem kindB_is {k:Int}(h:kindB k=true):k=0∨k=1∨k=2∨k=3:=by
 simp only[kindB,Bool.and_eq_true,decide_eq_true_iff]at h;omega
end Go.Nonce
namespace Go.G
theorem zg3 :∀(g:List Key) (l:List Res) (k:Key),getR (g.foldl zcf l) k=if k∈g then none else getR l k
 |[],l,k=>by simp
 |q::g,l,k=>by
  rw[List.foldl_cons,zg3 g,zwb];by_cases h:k∈g
  ·simp[h]
  ·by_cases e:q=k
   ·subst e;simp
   ·have:¬k=q:=fun e'=>e e'.symm;simp[h,e,this]
def zqg (l:List Res)(k:Key):Option Res:=l.reverse.find? fun r=>decide (r.key=k)
theorem zjq :∀(a l:List Res) (k:Key),getR (a.foldl zgh l) k=match zqg a k with|some r=>some r|none=>getR l k
 |[],l,k=>by simp[zqg]
 |m::a,l,k=>by
  rw[List.foldl_cons,zjq a];unfold zqg;rw[List.reverse_cons,List.find?_append];cases h:a.reverse.find? _ with
  |some x=>rfl
  |none=>
   simp only[Option.none_or];rw[qh1];by_cases e:m.key=k<;>simp[e]
theorem ztg (l a:List Res)(g:List Key)(k:Key):getR (zbk l a g) k=match zqg a k with|some r=>some r|none=>if k∈g then none else getR l k:=by
 unfold zbk;rw[zjq,zg3]
theorem zhs {l:List Res}(h:AscR l)(p:Res→Bool):AscR (l.filter p):=by
 unfold AscR Asc at*;exact h.sublist ((List.filter_sublist).map _)
theorem qi1 {l:List Res}(h:AscR l)(r:Res):AscR (zgh l r):=by
 have h1:=zhs h fun x=>decide (cmpK x.key r.key= -1);have h2:=zhs h fun x=>decide (cmpK x.key r.key=1);have a1:∀x∈(zj5 l r.key (-1)).map Res.key,cmpK x r.key= -1:=by
  intro x hx;obtain⟨a,ha,rfl⟩:=List.mem_map.1 hx;simpa using(List.mem_filter.1 ha).2
 have a2:∀x∈(zj5 l r.key 1).map Res.key,cmpK r.key x= -1:=by
  intro x hx;obtain⟨a,ha,rfl⟩:=List.mem_map.1 hx;have:cmpK a.key r.key=1:=by simpa using(List.mem_filter.1 ha).2
  rw[zir,this]
 unfold zgh AscR Asc;rw[List.map_append,List.map_append,List.pairwise_append,List.pairwise_append];refine⟨⟨h1,by simp,?_⟩,h2,?_⟩
 ·intro x hx y hy;have:y=r.key:=by simpa using hy
  rw[this];exact a1 x hx
 ·intro x hx y hy;rcases List.mem_append.1 hx with h|h
  ·exact zc7 (a1 x h) (a2 y hy)
  ·have:x=r.key:=by simpa using h
   rw[this];exact a2 y hy
theorem qdp {l:List Res}(h:AscR l)(a:List Res)(g:List Key):AscR (zbk l a g):=by
 unfold zbk;have h1:∀(g:List Key) (l:List Res),AscR l→AscR (g.foldl zcf l):=by
  intro g;induction g with
  |nil=>exact fun _ h=>h
  |cons q g ih=>exact fun l h=>ih _ (zhs h _)
 have h2:∀(a l:List Res),AscR l→AscR (a.foldl zgh l):=by
  intro a;induction a with
  |nil=>exact fun _ h=>h
  |cons q g ih=>exact fun l h=>ih _ (qi1 h _)
 exact h2 _ _ (h1 _ _ h)
theorem qmx {a b:List Res}(ha:AscR a)(hb:AscR b)(h:∀k,getR a k=getR b k):a=b:=by
 have hk:a.map Res.key=b.map Res.key:=zjd ha hb fun k=>by rw[mem_keys,mem_keys,h]
 refine List.ext_getElem? fun i=>?_;have hi:=congrArg (fun l=>l[i]?) hk;simp only[List.getElem?_map]at hi;cases e1:a[i]? with
 |none=>
  cases e2:b[i]? with
  |none=>rfl
  |some y=>simp[e1,e2]at hi
 |some x=>
  cases e2:b[i]? with
  |none=>simp[e1,e2]at hi
  |some y=>
   simp only[e1,e2,Option.map_some,Option.some.injEq]at hi;have g1:=zhr ha (List.mem_of_getElem? e1);have g2:=zhr hb (List.mem_of_getElem? e2);rw[←hi,←h,g1]at g2;exact g2
theorem getR_none {l:List Res}{k:Key}:getR l k=none↔∀r∈l,¬r.key=k:=by
 unfold getR;rw[List.find?_eq_none];simp
theorem lastR_none {l:List Res}{k:Key}:zqg l k=none↔∀r∈l,¬r.key=k:=by
 unfold zqg;rw[List.find?_eq_none];simp
theorem qcs {l:List Res}{k:Key}{r:Res}(h:zqg l k=some r):r∈l∧r.key=k:=by
 unfold zqg at h;exact⟨by simpa using List.mem_of_find?_eq_some h,by simpa using List.find?_some h⟩
theorem qhi {l:List Res}(h:AscR l)(k:Key):zqg l k=getR l k:=by
 cases e:zqg l k with
 |none=>exact(getR_none.2 (lastR_none.1 e)).symm
 |some r=>
  obtain⟨h1,h2⟩:=qcs e;rw[←h2,zhr h h1]
theorem mem_diffG {a b:List Res}{k:Key}:k∈zho a b↔(getR a k).isSome=true∧getR b k=none:=by
 unfold zho;rw[List.mem_filter,mem_keys];cases getR b k<;>simp
theorem qcg {a b:List Res}(ha:AscR a)(hb:AscR b):zbk a (zgn a b) (zho a b)=b:=by
 have hd:AscR (zgn a b):=zhs hb _;refine qmx (qdp ha _ _) hb fun k=>?_;rw[ztg,qhi hd];have mem:∀r,r∈zgn a b↔r∈b∧¬getR a r.key=some r:=fun r=>by simp[zgn,List.mem_filter]
 cases hbk:getR b k with
 |none=>
  have h1:getR (zgn a b) k=none:=getR_none.2 fun r hr=>getR_none.1 hbk r ((mem r).1 hr).1;simp only[h1];split
  ·rfl
  ·rename_i h;cases h2:getR a k with
   |none=>rfl
   |some x=>exact absurd (mem_diffG.2 ⟨by rw[h2];rfl,hbk⟩) h
 |some r=>
  have hr:=zi9 hbk;have hk:=qay hbk;by_cases h:getR a k=some r
  ·have h1:getR (zgn a b) k=none:=getR_none.2 fun x hx e=>by
    obtain⟨q1,q2⟩:=(mem x).1 hx;have:=zhr hb q1;rw[e,hbk]at this;cases this;rw[e]at q2;exact q2 h
   have h2:k∉zho a b:=fun hm=>by have:=(mem_diffG.1 hm).2;rw[hbk]at this;cases this
   simp only[h1,if_neg h2,h]
  ·have:r∈zgn a b:=(mem r).2 ⟨hr,by rw[hk];exact h⟩;have:=zhr hd this;rw[hk]at this;simp only[this]
def zh8 (now:List Res)(v:Int)(r:Res):Res:={r with ver:=match getR now r.key with
 |some o=>if zcx o r then o.ver else v
 |none=>v}
theorem zl7 (now l:List Res)(v:Int):zdr now l v=l.map (zh8 now v):=rfl
theorem qb6 (now:List Res)(v:Int)(r:Res):(zh8 now v r).key=r.key:=rfl
theorem zxq (now:List Res)(v:Int)(r:Res):zh8 now v (zh8 now v r)=zh8 now v r:=by
 show({zh8 now v r with ver:=match getR now r.key with|some o=>if zcx o r then o.ver else v|none=>v}:Res)=zh8 now v r;rfl
theorem qb4 (now l:List Res)(v:Int):zdr now (zdr now l v) v=zdr now l v:=by
 rw[zl7,zl7,List.map_map];exact List.map_congr_left fun r _=>zxq now v r
theorem qb5 {now:List Res}{v:Int}{o r:Res}(h:getR now r.key=some o)(ha:zcx o r=true):zh8 now v r=o:=by
 unfold zh8;rw[h];simp only[ha,if_true];exact qm0 ha
structure Hist (cap:Int)(h:List (List Res)):Prop where
 first:h[0]? =some []
 step:∀(i:Nat) now l,h[i]? =some now→h[i+1]? =some l→(∃p,l=zdr now p ((i:Int)+1))∧zcn cap (i+1) now l=0
theorem Hist.asc {cap:Int}{h:List (List Res)}(hh:Hist cap h){i:Nat}{l:List Res}(hl:h[i]? =some l):AscR l:=by
 cases i with
 |zero=>rw[hh.first]at hl;cases hl;simp
 |succ i=>
  have hi:i<h.length:=by have:=(List.getElem?_eq_some_iff.1 hl).1;omega
  exact zhb (zww (hh.step i h[i] l (List.getElem?_eq_getElem hi) hl).2)
theorem zrf {cap:Int}{h:List (List Res)}{i:Nat}{now:List Res}(hn:h[i]? =some now):zca ⟨cap,h.take (i+1)⟩=now:=by
 unfold zca;rw[List.getLastD_eq_getLast?,zv5 hn];rfl
theorem qrq {cap:Int}{h:List (List Res)}(hh:Hist cap h):∀(m i:Nat),i+1+m=h.length→zq2 ⟨cap,h.take (i+1)⟩ (h.drop (i+1))=true:=by
 intro m;induction m with
 |zero=>intro i hi;rw[List.drop_eq_nil_of_le (by omega)];rfl
 |succ m ih=>
  intro i hi;have h0:i<h.length:=by omega
  have h1:i+1<h.length:=by omega
  have e0:h[i]? =some h[i]:=List.getElem?_eq_getElem h0;have e1:h[i+1]? =some h[i+1]:=List.getElem?_eq_getElem h1;have hl:zca ⟨cap,h.take (i+1)⟩=h[i]:=zrf e0;obtain⟨⟨p,hp⟩,hc⟩:=hh.step i _ _ e0 e1;have hlen:(h.take (i+1)).length=i+1:=by simp;omega
  have hN:zj2 ⟨cap,h.take (i+1)⟩ (zgn h[i] h[i+1]) (zho h[i] h[i+1])=h[i+1]:=by
   unfold zj2;rw[hl,qcg (hh.asc e0) (hh.asc e1)];simp only[hlen];have:((i+1:Nat):Int)=(i:Int)+1:=by omega
   rw[this,hp,qb4]
  have hE:zh2 ⟨cap,h.take (i+1)⟩ (zgn h[i] h[i+1]) (zho h[i] h[i+1])=0:=by
   unfold zh2;rw[hN,hl];simp only[hlen];exact hc
  rw[List.drop_eq_getElem_cons h1];simp only[zq2,hl,hE,hN,decide_true,Bool.true_and];have:=ih (i+1) (by omega)
  rwa[List.take_add_one,e1]at this
theorem qh0 {cap:Int}:∀(r h:List (List Res)),Hist cap h→zq2 ⟨cap,h⟩ r=true→Hist cap (h++r)
 |[],h,hh,_=>by simpa using hh
 |l::r,h,hh,hs=>by
  simp only[zq2,Bool.and_eq_true,decide_eq_true_eq]at hs;obtain⟨⟨h1,h2⟩,h3⟩:=hs;have h0:0<h.length:=(List.getElem?_eq_some_iff.1 hh.first).1;have hn:Hist cap (h++[l]):=by
   refine⟨by rw[List.getElem?_append_left h0];exact hh.first,fun i now l' e1 e2=>?_⟩;have hi:i+1<(h++[l]).length:=(List.getElem?_eq_some_iff.1 e2).1;simp only[List.length_append,List.length_cons,List.length_nil]at hi;rw[List.getElem?_append_left (by omega)]at e1;by_cases hlt:i+1<h.length
   ·rw[List.getElem?_append_left hlt]at e2;exact hh.step i now l' e1 e2
   ·have hie:i+1=h.length:=by omega
    rw[List.getElem?_append_right (by omega),hie]at e2;simp at e2;subst e2;have hl:zca ⟨cap,h⟩=now:=by
     have:=zrf (cap:=cap) e1
     rwa[hie,List.take_length]at this
    have hE:=h1;unfold zh2 at hE;rw[h2,hl]at hE;refine⟨⟨zbk now (zgn now l) (zho now l),?_⟩,by rw[hie];exact hE⟩;unfold zj2 at h2;rw[hl]at h2;have:((h.length:Nat):Int)=(i:Int)+1:=by omega
    simp only[this]at h2;exact h2.symm
  have:=qh0 r (h++[l]) hn h3;simpa using this
theorem qat (cap:Int):Hist cap [[]]:=⟨rfl,fun i now l h1 h2=>by simp at h2⟩
theorem zcg (s:Store):sanS s=true↔s.cap=capN s.cap∧s.hist.length≤100000∧Hist s.cap s.hist:=by
 constructor
 ·intro h;simp only[sanS,Bool.and_eq_true,decide_eq_true_eq]at h;obtain⟨⟨⟨⟨h1,h2⟩,h3⟩,h4⟩,h5⟩:=h;refine⟨h1,h3,?_⟩;cases hh:s.hist with
  |nil=>rw[hh]at h2;simp at h2
  |cons a t=>
   rw[hh]at h4 h5;simp only[List.headD_cons]at h4;subst h4;have:=qh0 (cap:=s.cap) t [[]] (qat _) (by
    have e:newS s.cap=⟨s.cap,[[]]⟩:=by unfold newS;rw[←h1]
    rw[e]at h5;simpa using h5)
   simpa using this
 ·rintro⟨h1,h2,h3⟩;have h0:0<s.hist.length:=(List.getElem?_eq_some_iff.1 h3.first).1;have hg:=qrq h3 (s.hist.length-1) 0 (by omega);have e:s.hist.take (0+1)=[[]]:=by
   rw[List.take_add_one,h3.first];rfl
  rw[e]at hg;have hd:s.hist.headD []=[]:=by
   have:=h3.first;cases hh:s.hist with
   |nil=>rfl
   |cons a t=>rw[hh]at this;simpa using this
  have e2:newS s.cap=⟨s.cap,[[]]⟩:=by unfold newS;rw[←h1]
  have a1:1≤s.hist.length:=by omega
  simp only[sanS,decide_eq_true h1,decide_eq_true a1,decide_eq_true h2,decide_eq_true hd,e2,Bool.true_and];simpa using hg
theorem Hist.snoc {cap:Int}{h:List (List Res)}(hh:Hist cap h){p:List Res}{now:List Res}(hn:h[h.length-1]? =some now)(hc:zcn cap h.length now (zdr now p h.length)=0):Hist cap (h++[zdr now p h.length]):=by
 have h0:0<h.length:=(List.getElem?_eq_some_iff.1 hh.first).1;refine⟨by rw[List.getElem?_append_left h0];exact hh.first,fun i now' l' e1 e2=>?_⟩;have hi:i+1<(h++[zdr now p h.length]).length:=(List.getElem?_eq_some_iff.1 e2).1;simp only[List.length_append,List.length_cons,List.length_nil]at hi;rw[List.getElem?_append_left (by omega)]at e1;by_cases hlt:i+1<h.length
 ·rw[List.getElem?_append_left hlt]at e2;exact hh.step i now' l' e1 e2
 ·have hie:i+1=h.length:=by omega
  rw[List.getElem?_append_right (by omega),hie]at e2;simp at e2;subst e2;have:i=h.length-1:=by omega
  rw[this,hn]at e1;cases e1;have e3:((h.length:Nat):Int)=(i:Int)+1:=by omega
  exact⟨⟨p,by rw[←e3]⟩,by rw[hie];exact hc⟩
theorem zv6 {s:Store}(h:0<s.hist.length):s.hist[s.hist.length-1]? =some (zca s):=by
 unfold zca;rw[List.getLastD_eq_getLast?,←List.getLast?_eq_getElem?];cases e:s.hist.getLast? with
 |none=>rw[List.getLast?_eq_none_iff]at e;rw[e]at h;simp at h
 |some x=>rfl
theorem qr9 {cap:Int}{n:Nat}{now next:List Res}(h:zcn cap n now next=0):n<100000:=by
 unfold zcn at h
 repeat' (split at h<;>first| (simp at h;done)|skip)
 all_goals first|omega| (rename_i h1;exact absurd h h1)|skip
theorem zfk {s:Store}(h:sanS s=true)(adds:List Res)(gone:List Key):sanS (zk2 s adds gone)=true:=by
 unfold zk2;split
 ·rename_i he;obtain⟨h1,h2,h3⟩:=(zcg s).1 h;have h0:0<s.hist.length:=(List.getElem?_eq_some_iff.1 h3.first).1;have hn:=qr9 he;exact(zcg _).2 ⟨h1,by simp;omega,h3.snoc (zv6 h0) he⟩
 ·exact h
theorem qj3 {s:Store}(h:sanS s=true):s.cap=capN s.cap:=((zcg s).1 h).1
theorem zzy {s:Store}(h:sanS s=true):0<s.hist.length:=(List.getElem?_eq_some_iff.1 ((zcg s).1 h).2.2.first).1
theorem zfb {s:Store}(h:sanS s=true):za3 s=s:=by
 have h0:=zzy h;rw[zqp (by intro e;rw[e]at h0;simp at h0),←qj3 h]
theorem qj2 (n:Int):sanS (newS n)=true:=(zcg _).2 ⟨by simp[newS,zlw],by simp[newS],qat _⟩
structure Acc (cap:Int)(l:List Res):Prop where
 tab:tabE l=0
 len:(l.length:Int)≤cap
 miss:(zyd l).length=0
 served:zbq l=0
theorem qit {cap:Int}{n:Nat}{now next:List Res}(h:zcn cap n now next=0):Acc cap next∧¬now=next:=by
 have ht:=zww h;unfold zcn at h;rw[if_pos ht]at h;split at h
 ·simp at h
 ·rename_i h1;split at h
  ·simp at h
  ·rename_i h2;split at h
   ·simp at h
   ·rename_i h3;split at h
    ·simp at h
    ·rename_i h4;exact⟨⟨ht,by omega,by omega,by omega⟩,h4⟩
theorem zqw :zbq []=0:=by decide+kernel
theorem qsy {cap:Int}(h:0≤cap):Acc cap []:=⟨by decide+kernel,by simpa using h,by decide+kernel,zqw⟩
theorem zn8 (n:Int):0≤capN n∧capN n≤64:=by unfold capN;omega
theorem Hist.acc {cap:Int}(hc:0≤cap){h:List (List Res)}(hh:Hist cap h){i:Nat}{l:List Res}(hl:h[i]? =some l):Acc cap l:=by
 cases i with
 |zero=>rw[hh.first]at hl;cases hl;exact qsy hc
 |succ i=>
  have hi:i<h.length:=by have:=(List.getElem?_eq_some_iff.1 hl).1;omega
  exact(qit (hh.step i h[i] l (List.getElem?_eq_getElem hi) hl).2).1
theorem zzz {s:Store}(h:sanS s=true):Acc s.cap (zca s):=by
 obtain⟨h1,h2,h3⟩:=(zcg s).1 h;have h0:=zzy h;exact h3.acc (by have:=zn8 s.cap;omega) (zv6 h0)
structure VerAt (h:List (List Res))(i:Nat)(r:Res):Prop where
 is:∃j m y,r.ver=((j+1:Nat):Int)∧j+1≤i∧h[j+1]? =some m∧getR m r.key=some r∧h[j]? =some y∧∀o,getR y r.key=some o→zcx o r=false
theorem Hist.ver {cap:Int}{h:List (List Res)}(hh:Hist cap h):∀(i:Nat) (l:List Res),h[i]? =some l→∀r∈l,VerAt h i r
 |0,l,hl,r,hr=>by rw[hh.first]at hl;cases hl;simp at hr
 |i+1,l,hl,r,hr=>by
  have hi:i<h.length:=by have:=(List.getElem?_eq_some_iff.1 hl).1;omega
  have e0:h[i]? =some h[i]:=List.getElem?_eq_getElem hi;obtain⟨⟨p,hp⟩,hc⟩:=hh.step i _ _ e0 hl;have hasc:=hh.asc hl;have hg:=zhr hasc hr;rw[hp,zl7]at hr;obtain⟨q,hq,rfl⟩:=List.mem_map.1 hr;by_cases hold:∃o,getR h[i] q.key=some o∧zcx o q=true
  ·obtain⟨o,ho,ha⟩:=hold;rw[qb5 ho ha];obtain⟨j,m,y,h1,h2,h3⟩:=(hh.ver i _ e0 o (zi9 ho)).is;exact⟨j,m,y,h1,by omega,h3⟩
  ·have hv:(zh8 h[i] ((i:Int)+1) q).ver=(i:Int)+1:=by
    unfold zh8;cases ho:getR h[i] q.key with
    |none=>rfl
    |some o=>
     have:¬zcx o q=true:=fun ha=>hold ⟨o,ho,ha⟩;simp[this]
   refine⟨i,l,h[i],by rw[hv];omega,Nat.le_refl _,hl,hg,e0,fun o ho=>?_⟩;rw[qb6]at ho;cases ha:zcx o q with
   |false=>exact ha
   |true=>exact absurd ⟨o,ho,ha⟩ hold
def stepR (l:List Res)(out:List Key)(q:Key):List Key:=if(getR l q).isSome=true∧q∉out then out++[q]else out
theorem zr7 {l:List Res}(h:tabE l=0){r:Res}(hr:r∈l):za8 r=0:=by
 have h1:zc3 l=0:=by
  unfold tabE at h;split at h
  ·simp at h
  ·split at h
   ·assumption
   ·exact h
 unfold zc3 at h1;cases e:l.find? (fun r=>!decide (za8 r=0))with
 |none=>
  have:=List.find?_eq_none.1 e r hr;simpa using this
 |some x=>
  rw[e]at h1;have:=List.find?_some e;simp at this;exact absurd h1 this
open Go.AI
def okK (k:Key):Bool:=rngB k.kind 3&&zcy k.name
def zcc (f:Frame):Bool:=
 (decide (f.adds.length≤64)&&decide (f.gone.length≤64)&&decide (f.have_.length≤64)&&decide (f.held.length≤64))
   &&(f.have_.all fun m=>rngB m.ver 2147483647)&&rngB f.epoch 2147483647&&rngB f.nonce 2147483647&&rngB f.turn 2147483647&&rngB f.err 15
def zjl (f:Frame):Frame:=
 if f.type=0 then{f with epoch:=0,have_:=[]}
 else if f.type=1 then{f with epoch:=0,kind:=0,nonce:=0,adds:=[],gone:=[]}
 else if f.type=2 then{f with epoch:=0,kind:=0,nonce:=0,err:=0,turn:=0,held:=[]}
 else if f.type=3 then{f with epoch:=0,turn:=0,held:=[]}
 else{f with epoch:=0}
def zfi (f:Frame):Bool:=decide (zjl f={zFrame with type:=f.type})
def zb9 (f:Frame):Bool:=f.gone.all okK&&f.held.all okK&&f.have_.all fun m=>okK m.k
def zli (f:Frame):Bool:=(f.adds.all fun r=>decide (r.kind=f.kind))&&f.gone.all fun k=>decide (k.kind=f.kind)
def za0 (f:Frame):Int:=
 if(rngB f.type 3&&rngB f.kind 3)=false then 4 else if zcc f=false then 3 else if zfi f=false then 2 else if zb9 f=false then 5
 else if¬zc3 f.adds=0 then zc3 f.adds else if zli f=false then 2 else 0
@[simp] def ouC (o:Nonce.Ou):List D:=[iD o.l0,iD o.l1,iD o.l2,iD o.l3,bD o.o0,bD o.o1,bD o.o2,bD o.o3,iD o.m]
structure Sess where
 epoch:Int
 greeted:Bool
 out:Nonce.Ou
 v:View
 stuck:Int
 at_:Int
 deriving DecidableEq
@[simp] def zfj (s:Sess):List D:=[iD s.epoch,bD s.greeted]++ouC s.out++zt8 s.v++[iD s.stuck,iD s.at_]
structure OkSess (s:Sess):Prop where
 v:OkView s.v
def zView :View:=⟨[],[],0,zFrame,false⟩
def zci (epoch most:Int):Sess:=⟨max 0 (min epoch 2147483647),false,Nonce.startO most,zView,0,0⟩
def zdt (v:View):Frame:=⟨0,0,0,0,0,[],[],0,zhx v.have_,[]⟩
def zez (v:View):Frame:=⟨3,0,0,0,v.turn,[],[],0,[],v.held⟩
def zuo (v:View):Bool:=decide (za0 (zdt v)=0)&&decide (za0 (zez v)=0)
def zbj (s:Sess):Bool:=
 s.greeted&&decide (za0 s.v.push=0)&&decide (s.v.push.type=1)&&decide (s.v.push.epoch=s.epoch)
  &&s.out.open' s.v.push.kind&&decide (s.out.last s.v.push.kind=s.v.push.nonce)
def zds (s:Sess):Bool:=rngB s.epoch 2147483647&&decide (0≤s.at_)&&rngB s.stuck 15
def zbt (s:Sess):Bool:=zds s&&Nonce.goodB s.out&&zuo s.v&&(!s.v.open_||zbj s)
def zbg (s:Sess):Sess:=if zbt s then s else zci s.epoch s.out.m
def nowL (p:Store):List Res:=zca (za3 p)
def nowI (p:Store):Int:=((za3 p).hist.length:Int)-1
def zlo (p:Store)(v:View)(l:List Mark):View:={v with have_:=zfs p l,held:=if v.turn=0 then(zfs p l).map Res.key else v.held}
def zgc (s:Sess)(p:Store)(f:Frame):Sess×Int:=if s.greeted=true then(s,9)else({s with greeted:=true,v:=zlo p s.v f.have_},0)
def ackH (s:Sess)(p:Store)(f:Frame):Sess×Int:=
 if¬(Nonce.done s.out f.kind f.nonce).2=0 then(s,(Nonce.done s.out f.kind f.nonce).2)else if s.v.open_=false then(s,15)
 else if(ansV s.v f).open_=true then(s,11)else if 64<(ansV s.v f).have_.length then(s,3)
 else(⟨s.epoch,s.greeted,(Nonce.done s.out f.kind f.nonce).1,ansV s.v f,f.err,nowI p⟩,0)
def zjs (s:Sess)(f:Frame):Sess×Int:=({s with v:=zda s.v f.turn f.held},0)
def zck (s:Sess)(p:Store)(f:Frame):Sess×Int:=
 if¬za0 f=0 then(s,za0 f)else if¬f.epoch=s.epoch then(s,11)
 else if f.type=0 then zgc s p f else if f.type=1 then(s,2)else if f.type=2 then ackH s p f else zjs s f
def handle (s:Sess)(p:Store)(f:Frame):Sess×Int:=zck (zbg s) p f
structure Step where
 kind:Int
 adds:List Res
 gone:List Key
 deriving DecidableEq
@[simp] def zxn (s:Step):List D:=[iD s.kind,lD (s.adds.map resC),lD (s.gone.map keyC)]
def zlg (l:List Res)(n:Int):List Res:=l.filter fun r=>decide (r.kind=n)
def zim (l:List Key)(n:Int):List Key:=l.filter fun k=>decide (k.kind=n)
structure Job where
 adds:List Res
 gone:List Key
 reach:List Key
 have_:List Res
 held:List Key
def zg8 (hv want:List Res)(held:List Key):Job:=⟨zgn hv want,zho hv want,(zbw want).map Res.key,hv,held⟩
def Job.early (j:Job)(n:Int):Step:=⟨n,(zlg j.adds n).filter fun r=>decide (r.key∈j.reach),[]⟩
def Job.late (j:Job)(n:Int):Step:=⟨n,zlg j.adds n,[]⟩
def Job.off (j:Job)(n:Int):Step:=⟨n,[],zim j.gone n⟩
def Job.freeK (j:Job)(k:Key):Bool:=!(decide (k∈j.held)||decide (0<(zmf j.have_ k).length))
def Job.free (j:Job)(n:Int):Step:=⟨n,[],(zim j.gone n).filter j.freeK⟩
def Job.doors (j:Job)(n:Int):Step:=⟨n,zlg j.adds n,zim j.gone n⟩
def Step.none (s:Step):Bool:=decide (s.adds.length+s.gone.length=0)
def seek (g:Int→Step):List Int→Step→Step×Bool
 |[],s=>(s,false)
 |n::l,_=>if(g n).none then seek g l (g n)else(g n,true)
def Job.steps (j:Job):List Step:=[j.early 3,j.early 2,j.early 1,j.doors 0,j.late 3,j.late 2,j.late 1,j.free 1,j.free 2,j.free 3]
def zmg (hv want:List Res)(held:List Key):Option Step:=(zg8 hv want held).steps.find? fun s=>!s.none
def zfl (s:Sess)(x:Step)(n:Int):Frame:=⟨1,s.epoch,x.kind,n,0,x.adds,x.gone,0,[],[]⟩
def idle (s:Sess)(p:Store):Bool:=!s.greeted||s.v.open_|| (!decide (s.stuck=0)&&decide (s.at_=nowI p))
def zk1 (s:Sess)(x:Step):Sess×List Frame×Int:=
 if(Nonce.push s.out x.kind).2.2=0 then
  ({s with v:=zl9 s.v (zfl s x (Nonce.push s.out x.kind).2.1),out:=(Nonce.push s.out x.kind).1},[zfl s x (Nonce.push s.out x.kind).2.1],0)
 else(s,[],(Nonce.push s.out x.kind).2.2)
def ze6 (s:Sess)(p:Store):Sess×List Frame×Int:=
 if idle s p=true then(s,[],0)else
 match zmg s.v.have_ (nowL p) s.v.held with
 |.none=>(s,[],0)
 |.some x=>zk1 s x
def pump (s:Sess)(p:Store):Sess×List Frame×Int:=ze6 (zbg s) p
def zaf (s:Sess):List Frame:=if(zbg s).v.open_=true then [(zbg s).v.push]else []
def ziz (s:Sess)(p:Store):Bool:=(zbg s).greeted&& !(zbg s).v.open_&&decide ((zbg s).v.have_=nowL p)
theorem firstE_zero {l:List Res}:zc3 l=0↔∀r∈l,za8 r=0:=by
 unfold zc3;constructor
 ·intro h r hr;split at h
  ·rename_i x hx;have:=List.find?_some hx;simp[h]at this
  ·rename_i hx;have:=List.find?_eq_none.1 hx r hr;simpa using this
 ·intro h;have:l.find? (fun r=>!decide (za8 r=0))=none:=by rw[List.find?_eq_none];intro r hr;simp[h r hr]
  rw[this]
structure OkF (f:Frame):Prop where
 type:rngB f.type 3=true
 kind:rngB f.kind 3=true
 small:zcc f=true
 shaped:zfi f=true
 named:zb9 f=true
 adds:∀r∈f.adds,za8 r=0
 alike:zli f=true
theorem frameE_zero {f:Frame}:za0 f=0↔OkF f:=by
 constructor
 ·intro h;unfold za0 at h
  (repeat' split at h)<;>first|omega|skip
  rename_i h1 h2 h3 h4 h5 h6;simp at h1 h2 h3 h4 h5 h6;exact⟨h1.1,h1.2,h2,h3,h4,firstE_zero.1 h5,h6⟩
 ·intro h;unfold za0;have:=firstE_zero.2 h.adds;simp[h.type,h.kind,h.small,h.shaped,h.named,this,h.alike]
theorem zcm {f:Frame}(h:zcc f=true):f.adds.length≤64∧f.gone.length≤64∧f.have_.length≤64∧f.held.length≤64∧(∀m∈f.have_,rngB m.ver 2147483647=true)∧rngB f.epoch 2147483647=true∧rngB f.nonce 2147483647=true∧rngB f.turn 2147483647=true∧rngB f.err 15=true:=by
 simp only[zcc,Bool.and_eq_true,decide_eq_true_eq,List.all_eq_true]at h;exact⟨h.1.1.1.1.1.1.1.1,h.1.1.1.1.1.1.1.2,h.1.1.1.1.1.1.2,h.1.1.1.1.1.2,h.1.1.1.1.2,h.1.1.1.2,h.1.1.2,h.1.2,h.2⟩
theorem hello_ok {v:View}:za0 (zdt v)=0↔v.have_.length≤64∧∀r∈v.have_,rngB r.ver 2147483647=true∧okK r.key=true:=by
 rw[frameE_zero];constructor
 ·intro h;have h1:=zcm h.small;refine⟨by simpa[zdt]using h1.2.2.1,fun r hr=>⟨?_,?_⟩⟩
  ·exact h1.2.2.2.2.1 ⟨r.key,r.ver⟩ (List.mem_map.2 ⟨r,hr,rfl⟩)
  ·have:=h.named;simp only[zb9,zdt,Bool.and_eq_true,List.all_eq_true]at this;exact this.2 ⟨r.key,r.ver⟩ (List.mem_map.2 ⟨r,hr,rfl⟩)
 ·rintro⟨h1,h2⟩;refine⟨rfl,rfl,?_,rfl,?_,by simp[zdt],rfl⟩
  ·simp only[zcc,zdt,Bool.and_eq_true,decide_eq_true_eq,List.all_eq_true];refine⟨⟨⟨⟨⟨⟨⟨⟨by simp,by simp⟩,by simpa using h1⟩,by simp⟩,?_⟩,rfl⟩,rfl⟩,rfl⟩,rfl⟩;intro m hm;obtain⟨r,hr,rfl⟩:=List.mem_map.1 hm;exact(h2 r hr).1
  ·simp only[zb9,zdt,Bool.and_eq_true,List.all_eq_true];refine⟨⟨by simp,by simp⟩,fun m hm=>?_⟩;obtain⟨r,hr,rfl⟩:=List.mem_map.1 hm;exact(h2 r hr).2
theorem drain_ok {v:View}:za0 (zez v)=0↔v.held.length≤64∧rngB v.turn 2147483647=true∧∀k∈v.held,okK k=true:=by
 rw[frameE_zero];constructor
 ·intro h;have h1:=zcm h.small;refine⟨h1.2.2.2.1,h1.2.2.2.2.2.2.2.1,fun k hk=>?_⟩;have:=h.named;simp only[zb9,zez,Bool.and_eq_true,List.all_eq_true]at this;exact this.1.2 k hk
 ·rintro⟨h1,h2,h3⟩;refine⟨rfl,rfl,?_,rfl,?_,by simp[zez],rfl⟩
  ·simp only[zcc,zez,Bool.and_eq_true,decide_eq_true_eq,List.all_eq_true];exact⟨⟨⟨⟨⟨⟨⟨⟨by simp,by simp⟩,by simp⟩,by first|exact h1|exact decide_eq_true h1⟩,by simp⟩,rfl⟩,rfl⟩,h2⟩,rfl⟩
  ·simp only[zb9,zez,Bool.and_eq_true,List.all_eq_true];exact⟨⟨by simp,h3⟩,by simp⟩
structure SaneS (s:Sess):Prop where
 plain:zds s=true
 out:Nonce.goodB s.out=true
 hl:s.v.have_.length≤64
 have_:∀r∈s.v.have_,rngB r.ver 2147483647=true∧okK r.key=true
 dl:s.v.held.length≤64
 turn:rngB s.v.turn 2147483647=true
 held:∀k∈s.v.held,okK k=true
 waits:s.v.open_=true→zbj s=true
theorem saneS_iff {s:Sess}:zbt s=true↔SaneS s:=by
 constructor
 ·intro h;simp only[zbt,zuo,Bool.and_eq_true,decide_eq_true_eq]at h;obtain⟨⟨⟨h1,h2⟩,h3,h4⟩,h5⟩:=h;rw[hello_ok]at h3;rw[drain_ok]at h4;exact⟨h1,h2,h3.1,h3.2,h4.1,h4.2.1,h4.2.2,fun h=>by simpa[h]using h5⟩
 ·intro h;simp only[zbt,zuo,Bool.and_eq_true,decide_eq_true_eq];refine⟨⟨⟨h.plain,h.out⟩,hello_ok.2 ⟨h.hl,h.have_⟩,drain_ok.2 ⟨h.dl,h.turn,h.held⟩⟩,?_⟩;cases ho:s.v.open_ with
  |false=>rfl
  |true=>simpa using h.waits ho
theorem qc0 (n:Int):Nonce.goodB (Nonce.startO n)=true:=by
 have:=Nonce.bnd_ok n;simp only[Nonce.goodB,Nonce.startO,Nonce.Ou.toI,Bool.and_eq_true,Nonce.soundB_mk];refine⟨by simp,?_⟩;omega
theorem zia (e m:Int):zbt (zci e m)=true:=by
 rw[saneS_iff];refine⟨?_,qc0 m,by simp[zci,zView],by simp[zci,zView],by simp[zci,zView],by simp[zci,zView,rngB],by simp[zci,zView],by simp[zci,zView]⟩;simp only[zds,zci,rngB,Bool.and_eq_true,decide_eq_true_eq];refine⟨⟨⟨?_,?_⟩,by simp⟩,by simp,by simp⟩<;>first|omega| (refine decide_eq_true ?_;omega)
theorem zoo (s:Sess):zbt (zbg s)=true:=by
 unfold zbg;split
 ·assumption
 ·exact zia _ _
theorem zc1 {s:Sess}(h:zbt s=true):zbg s=s:=by simp[zbg,h]
theorem zo9 {o:Nonce.Ou}(h:Nonce.goodB o=true):Nonce.outF o=o:=by simp[Nonce.outF,h]
theorem qfg {r:Res}(h:za8 r=0):rngB r.ver 2147483647=true∧okK r.key=true:=by
 cases h1:rngB r.kind 3 with
 |false=>simp[za8,h1]at h
 |true=>
  cases h2:zcy r.name with
  |false=>simp[za8,h1,h2]at h
  |true=>
   cases h3:zcd r with
   |false=>simp[za8,h1,h2,h3]at h
   |true=>
    refine⟨?_,by simp[okK,Res.key,h1,h2]⟩;simp only[zcd,Bool.and_eq_true]at h3;exact h3.1.1.1.1.1
theorem qhy {o:Nonce.Ou}(h:Nonce.goodB o=true)(k n:Int):Nonce.goodB (Nonce.done o k n).1=true:=by
 simp only[Nonce.done,zo9 h];obtain⟨a,b,c,d,x,y,z,t,m⟩:=o;simp only[Nonce.doneQ];split
 ·exact h
 ·split
  ·exact h
  ·simp only[Nonce.Ou.set,Nonce.Ou.last];simp only[Nonce.goodB,Nonce.Ou.toI,Bool.and_eq_true]at h⊢
   (repeat' split)<;>simp_all
theorem qg6 {p:Store}{l:List Mark}{x:Res}(h:x∈zfs p l):∃m∈l,x.key=m.k∧x.ver=m.ver:=by
 rcases zhk h with h|h
 ·cases h
 ·obtain⟨m,hm,rfl⟩:=List.mem_map.1 h;exact⟨m,hm,qqp p m,qqo p m⟩
theorem qk3 (p:Store):0≤nowI p:=by
 have:0<(za3 p).hist.length:=by
  unfold za3;split
  ·simp[newS]
  ·rename_i h;exact List.length_pos_iff.2 h
 unfold nowI;omega
theorem rngB_iff {n m:Int}:rngB n m=true↔0≤n∧n≤m:=by simp[rngB]
theorem qbl {v:View}{f:Frame}{x:Res}(h:x∈(ansV v f).have_):x∈v.have_∨(v.open_=true∧x∈v.push.adds):=by
 unfold ansV at h;split at h
 ·exact Or.inl h
 ·rename_i ho;split at h
  ·exact Or.inl h
  ·simp only at h;split at h
   ·rcases zvt h with h|h
    ·exact Or.inl h
    ·exact Or.inr ⟨by simpa using ho,h⟩
   ·exact Or.inl h
theorem zpu (v:View)(t:Int)(h:List Key):(zda v t h).held=(if v.turn<t then h else v.held)∧(zda v t h).turn=(if v.turn<t then t else v.turn):=by
 unfold zda;split<;>simp
theorem zty (v:View)(f:Frame):((ansV v f).held=v.held∧(ansV v f).turn=v.turn)∨(v.turn<f.turn∧(ansV v f).held=f.held∧(ansV v f).turn=f.turn):=by
 unfold ansV;split
 ·exact Or.inl ⟨rfl,rfl⟩
 ·split
  ·exact Or.inl ⟨rfl,rfl⟩
  ·have:=zpu ⟨v.have_,v.held,v.turn,zFrame,false⟩ f.turn f.held;simp only at this⊢;rw[this.1,this.2];split
   ·exact Or.inr ⟨by assumption,rfl,rfl⟩
   ·exact Or.inl ⟨rfl,rfl⟩
theorem zft {s:Sess}(p:Store)(f:Frame)(hs:zbt s=true):zbt (handle s p f).1=true:=by
 unfold handle;rw[zc1 hs];unfold zck;have S:=saneS_iff.1 hs;split
 ·exact hs
 ·rename_i hf;have F:=frameE_zero.1 (Decidable.not_not.1 hf);have L:=zcm F.small;split
  ·exact hs
  ·split
   ·unfold zgc;split
    ·exact hs
    ·rename_i hg;have hno:s.v.open_=false:=by
      cases ho:s.v.open_ with
      |false=>rfl
      |true=>
       have:=S.waits ho;simp only[zbj,Bool.and_eq_true]at this;exact absurd this.1.1.1.1.1 hg
     have hk:∀r∈zfs p f.have_,rngB r.ver 2147483647=true∧okK r.key=true:=by
      intro r hr;obtain⟨m,hm,h1,h2⟩:=qg6 hr;have hn:=F.named;simp only[zb9,Bool.and_eq_true,List.all_eq_true]at hn;rw[h1,h2];exact⟨L.2.2.2.2.1 m hm,hn.2 m hm⟩
     have hl:(zfs p f.have_).length≤64:=Nat.le_trans (zpk p _) L.2.2.1;rw[saneS_iff];refine⟨S.plain,S.out,hl,hk,?_,S.turn,?_,?_⟩
     ·simp only[zlo];split
      ·simpa using hl
      ·exact S.dl
     ·simp only[zlo];split
      ·intro k hk';obtain⟨r,hr,rfl⟩:=List.mem_map.1 hk';exact(hk r hr).2
      ·exact S.held
     ·intro ho;rw[show({s with greeted:=true,v:=zlo p s.v f.have_}:Sess).v.open_=s.v.open_ from rfl,hno]at ho;cases ho
   ·split
    ·exact hs
    ·split
     ·unfold ackH;split
      ·exact hs
      ·split
       ·exact hs
       ·rename_i hop;split
        ·exact hs
        ·rename_i hcl;split
         ·exact hs
         ·rename_i h64;rw[saneS_iff];have hw:=S.waits (by simpa using hop);simp only[zbj,Bool.and_eq_true,decide_eq_true_eq]at hw;have P:=frameE_zero.1 hw.1.1.1.1.2;have hp:=S.plain;simp only[zds,Bool.and_eq_true,decide_eq_true_eq]at hp;refine⟨?_,qhy S.out _ _,by simpa using h64,?_,?_,?_,?_,?_⟩
          ·simp only[zds,Bool.and_eq_true,decide_eq_true_eq];exact⟨⟨hp.1.1,qk3 p⟩,L.2.2.2.2.2.2.2.2⟩
          ·intro r hr;rcases qbl hr with h|⟨_,h⟩
           ·exact S.have_ r h
           ·exact qfg (P.adds r h)
          ·rcases zty s.v f with h|h
           ·rw[h.1];exact S.dl
           ·rw[h.2.1];exact L.2.2.2.1
          ·rcases zty s.v f with h|h
           ·rw[h.2];exact S.turn
           ·rw[h.2.2];exact L.2.2.2.2.2.2.2.1
          ·rcases zty s.v f with h|h
           ·rw[h.1];exact S.held
           ·rw[h.2.1];have hn:=F.named;simp only[zb9,Bool.and_eq_true,List.all_eq_true]at hn;exact hn.1.2
          ·intro ho;exact absurd ho hcl
     ·unfold zjs;rw[saneS_iff];have hd:=zpu s.v f.turn f.held;refine⟨S.plain,S.out,by simpa using S.hl,by simpa using S.have_,?_,?_,?_,?_⟩
      ·simp only[hd.1];split
       ·exact L.2.2.2.1
       ·exact S.dl
      ·simp only[hd.2];split
       ·exact L.2.2.2.2.2.2.2.1
       ·exact S.turn
      ·simp only[hd.1];split
       ·have hn:=F.named;simp only[zb9,Bool.and_eq_true,List.all_eq_true]at hn;exact hn.1.2
       ·exact S.held
      ·intro ho;have:=S.waits (by simpa using ho);simpa[zbj]using this
theorem zig (x m:Int)(hm:1≤m):((if 0<(if m<x then m else x)then(if m<x then m else x)else 0)=x)↔(0≤x∧x≤m):=by
 by_cases h:m<x<;>simp[h]<;>(try omega)
theorem zyt {s:Sess}(p:Store)(f:Frame)(hs:zbt s=true):(handle s p f).1.v.push=s.v.push∨(handle s p f).1.v.push=zFrame:=by
 unfold handle;rw[zc1 hs];unfold zck zgc ackH zjs zlo
 (repeat' split)<;>first|exact Or.inl rfl|skip
 ·rcases qmz s.v f with e|e
  ·exact Or.inl e
  ·exact Or.inr e
 ·exact Or.inl (qc9 _ _ _)
theorem qsd (n:Int):(if 1<(if 2147483647<n then 2147483647 else n)then(if 2147483647<n then(2147483647:Int)else n)else 1)=Nonce.bnd n:=by
 unfold Nonce.bnd;by_cases h:2147483647<n
 ·simp[h];omega
 ·simp[h];omega
theorem ql2 {l:List Int}{k:Nat}{x:Int}(h:(l.take k).all (fun e=>decide (e=0))=true)(hr:l[k]? =some x)(hx:¬x=0):(l.find? fun e=>!decide (e=0))=some x:=
 ztl (k:=k) (x:=x) (by simpa using h) hr (by simpa using hx)
theorem qh7 {l:List Int}(h:l.all (fun e=>decide (e=0))=true):(l.find? fun e=>!decide (e=0))=none:=
 zpq (by simpa using h)
theorem zms {α:Type}(l:List α)(p:α→Bool):(l.any fun x=>!p x)= !l.all p:=by
 induction l with
 |nil=>rfl
 |cons a l ih=>simp[ih,Bool.not_and]
theorem qsp {f:Frame}(h:OkFrame f):OkFrame (zjl f):=by
 have h0:OkRs []:=⟨by simp,by simp⟩;unfold zjl
 (repeat' split)<;>constructor<;>first|exact h.adds|exact h.gone|exact h.have_|exact h.held|exact h0|simp
theorem qeg (i:Nonce.Nn)(h:(decide ((if 0<(if i.m<i.l0 then i.m else i.l0)then(if i.m<i.l0 then i.m else i.l0)else 0)=i.l0)&&(decide ((if 0<(if i.m<i.l1 then i.m else i.l1)then(if i.m<i.l1 then i.m else i.l1)else 0)=i.l1)&&(decide ((if 0<(if i.m<i.l2 then i.m else i.l2)then(if i.m<i.l2 then i.m else i.l2)else 0)=i.l2)&&decide ((if 0<(if i.m<i.l3 then i.m else i.l3)then(if i.m<i.l3 then i.m else i.l3)else 0)=i.l3))))=true):decide (i.m=Nonce.bnd i.m)=Nonce.soundB i:=by
 obtain⟨a,b,c,d,m⟩:=i;simp only[Bool.and_eq_true,decide_eq_true_eq]at h;obtain⟨h0,h1,h2,h3⟩:=h;rw[Bool.eq_iff_iff];dsimp only at h0 h1 h2 h3⊢;rw[Nonce.soundB_mk];rw[decide_eq_true_iff];constructor
 ·intro hm0;have hm:=Nonce.bnd_ok m;rw[←hm0]at hm;have:=(zig _ _ hm.1).1 h0;have:=(zig _ _ hm.1).1 h1;have:=(zig _ _ hm.1).1 h2;have:=(zig _ _ hm.1).1 h3;clear h0 h1 h2 h3 hm0;omega
 ·intro hm;clear h0 h1 h2 h3;unfold Nonce.bnd;omega
theorem qjq (i:Nonce.Nn)(h:(decide ((if 0<(if i.m<i.l0 then i.m else i.l0)then(if i.m<i.l0 then i.m else i.l0)else 0)=i.l0)&&(decide ((if 0<(if i.m<i.l1 then i.m else i.l1)then(if i.m<i.l1 then i.m else i.l1)else 0)=i.l1)&&(decide ((if 0<(if i.m<i.l2 then i.m else i.l2)then(if i.m<i.l2 then i.m else i.l2)else 0)=i.l2)&&decide ((if 0<(if i.m<i.l3 then i.m else i.l3)then(if i.m<i.l3 then i.m else i.l3)else 0)=i.l3))))=false):Nonce.soundB i=false:=by
 obtain⟨a,b,c,d,m⟩:=i;rw[Bool.eq_false_iff];intro hs;rw[Nonce.soundB_mk]at hs;obtain⟨a1,a2,a3,a4,a5,a6,a7,a8,a9,a10⟩:=hs;rw[Bool.eq_false_iff]at h;apply h;simp only[Bool.and_eq_true,decide_eq_true_eq];exact⟨(zig _ _ a9).2 ⟨a1,a2⟩,(zig _ _ a9).2 ⟨a3,a4⟩,(zig _ _ a9).2 ⟨a5,a6⟩,(zig _ _ a9).2 ⟨a7,a8⟩⟩
theorem zyv (f:Frame):(([if(rngB f.type 3&&rngB f.kind 3)=true then 0 else 4,if zcc f=true then 0 else 3,if zfi f=true then 0 else 2,if zb9 f=true then 0 else 5,zc3 f.adds,if zli f=true then 0 else 2]:List Int).find? fun e=>!decide (e=0)).getD 0=za0 f:=by
 unfold za0;cases h1:(rngB f.type 3&&rngB f.kind 3)<;>cases h2:zcc f<;>cases h3:zfi f<;>cases h4:zb9 f<;>cases h6:zli f<;>by_cases h5:zc3 f.adds=0<;>simp[List.find?_cons,h5]
theorem qid (n:Int):(if 0<(if 2147483647<n then 2147483647 else n)then(if 2147483647<n then(2147483647:Int)else n)else 0)=max 0 (min n 2147483647):=by
 by_cases h:2147483647<n
 ·simp[h];omega
 ·simp[h];omega
theorem qht (v:View)(h:v.have_.length≤9223372036854775807):OkFrame (zdt v):=⟨⟨by simp[zdt],by simp[zdt]⟩,by simp[zdt],by simpa[zdt]using h,by simp[zdt]⟩
theorem rng3 {n:Int}(h:rngB n 3=true):n=0∨n=1∨n=2∨n=3:=by
 simp only[rngB,Bool.and_eq_true,decide_eq_true_eq]at h;omega
theorem zu1 {f:Frame}(h:za0 f=0):f.kind=0∨f.kind=1∨f.kind=2∨f.kind=3:=rng3 (frameE_zero.1 h).kind
theorem qf4 {f:Frame}(h:za0 f=0):f.type=0∨f.type=1∨f.type=2∨f.type=3:=rng3 (frameE_zero.1 h).type
structure StepOk (hv want:List Res)(held:List Key)(x:Step):Prop where
 kind:x.kind=0∨x.kind=1∨x.kind=2∨x.kind=3
 adds:∀r∈x.adds,r∈want∧r.kind=x.kind
 gone:∀k∈x.gone,k∈hv.map Res.key∧k.kind=x.kind
 al:x.adds.length≤want.length
 gl:x.gone.length≤hv.length
 some:0<x.adds.length+x.gone.length
 free:¬x.kind=0→∀k∈x.gone,k∉held∧(zmf hv k).length=0
theorem mem_kindL {l:List Res}{n:Int}{r:Res}:r∈zlg l n↔r∈l∧r.kind=n:=by simp[zlg]
theorem mem_kindG {l:List Key}{n:Int}{k:Key}:k∈zim l n↔k∈l∧k.kind=n:=by simp[zim]
theorem diffA_len (a b:List Res):(zgn a b).length≤b.length:=List.length_filter_le _ _
theorem diffG_len (a b:List Res):(zho a b).length≤a.length:=Nat.le_trans (List.length_filter_le _ _) (by simp)
theorem zil (l:List Res)(n:Int):(zlg l n).length≤l.length:=List.length_filter_le _ _
theorem zlh (l:List Key)(n:Int):(zim l n).length≤l.length:=List.length_filter_le _ _
theorem qgw {hv want:List Res}{held:List Key}{x:Step}(h:zmg hv want held=.some x):StepOk hv want held x:=by
 have hs:=List.find?_some h;have hm:=List.mem_of_find?_eq_some h;have h0:0<x.adds.length+x.gone.length:=by
  simp only[Step.none,Bool.not_eq_true',decide_eq_false_iff_not]at hs;omega
 have hA:∀r n,r∈zlg (zgn hv want) n→r∈want∧r.kind=n:=fun r n hr=>⟨(List.mem_filter.1 (mem_kindL.1 hr).1).1,(mem_kindL.1 hr).2⟩;have hG:∀k n,k∈zim (zho hv want) n→k∈hv.map Res.key∧k.kind=n:=fun k n hk=>⟨(List.mem_filter.1 (mem_kindG.1 hk).1).1,(mem_kindG.1 hk).2⟩;have lA:∀n,(zlg (zgn hv want) n).length≤want.length:=fun n=>Nat.le_trans (zil _ _) (diffA_len _ _);have lG:∀n,(zim (zho hv want) n).length≤hv.length:=fun n=>Nat.le_trans (zlh _ _) (diffG_len _ _);have early:∀n,(n=0∨n=1∨n=2∨n=3)→x=(zg8 hv want held).early n→StepOk hv want held x:=by
  rintro n hn rfl;exact⟨hn,fun r hr=>hA r n (List.mem_filter.1 hr).1,fun k hk=>(by cases hk),Nat.le_trans (List.length_filter_le _ _) (lA n),Nat.zero_le _,h0,fun _ k hk=>(by cases hk)⟩
 have late:∀n,(n=0∨n=1∨n=2∨n=3)→x=(zg8 hv want held).late n→StepOk hv want held x:=by
  rintro n hn rfl;exact⟨hn,fun r hr=>hA r n hr,fun k hk=>(by cases hk),lA n,Nat.zero_le _,h0,fun _ k hk=>(by cases hk)⟩
 have free:∀n,(n=0∨n=1∨n=2∨n=3)→x=(zg8 hv want held).free n→StepOk hv want held x:=by
  rintro n hn rfl;refine⟨hn,fun r hr=>(by cases hr),fun k hk=>hG k n (List.mem_filter.1 hk).1,Nat.zero_le _,Nat.le_trans (List.length_filter_le _ _) (lG n),h0,fun _ k hk=>?_⟩;have:=(List.mem_filter.1 hk).2;simp only[Job.freeK,Bool.not_eq_true',Bool.or_eq_false_iff]at this;have h1:=of_decide_eq_false this.1;have h2:=of_decide_eq_false this.2;simp only[zg8]at h1 h2;exact⟨h1,by omega⟩
 simp only[Job.steps,List.mem_cons,List.not_mem_nil,or_false]at hm;rcases hm with hm|hm|hm|hm|hm|hm|hm|hm|hm|hm
 ·exact early 3 (by simp) hm
 ·exact early 2 (by simp) hm
 ·exact early 1 (by simp) hm
 ·subst hm;exact⟨Or.inl rfl,fun r hr=>hA r 0 hr,fun k hk=>hG k 0 hk,lA 0,lG 0,h0,fun h=>absurd rfl h⟩
 ·exact late 3 (by simp) hm
 ·exact late 2 (by simp) hm
 ·exact late 1 (by simp) hm
 ·exact free 1 (by simp) hm
 ·exact free 2 (by simp) hm
 ·exact free 3 (by simp) hm
theorem qrf {n:Int}(h:n=0∨n=1∨n=2∨n=3):rngB n 3=true:=by
 rcases h with rfl|rfl|rfl|rfl<;>rfl
theorem qny {n:Int}(h:n=0∨n=1∨n=2∨n=3):Nonce.kindB n=true:=by
 rcases h with rfl|rfl|rfl|rfl<;>rfl
theorem zu2 {o:Nonce.Ou}(h:Nonce.goodB o=true){k:Int}(hk:k=0∨k=1∨k=2∨k=3)(he:(Nonce.push o k).2.2=0):
  Nonce.goodB (Nonce.push o k).1=true∧rngB (Nonce.push o k).2.1 2147483647=true∧(Nonce.push o k).1.open' k=true∧(Nonce.push o k).1.last k=(Nonce.push o k).2.1:=by
 simp only[Nonce.push,zo9 h]at he⊢;obtain⟨a,b,c,d,x,y,z,t,m⟩:=o;simp only[Nonce.goodB,Nonce.Ou.toI,Bool.and_eq_true,Nonce.soundB_mk]at h;simp only[Nonce.pushQ,qny hk]at he⊢;rcases hk with rfl|rfl|rfl|rfl<;>simp only[Nonce.Ou.open',Nonce.Ou.last,Nonce.Ou.set]at he⊢<;>
  ((repeat' split at he)<;>first| (exfalso;revert he;decide)|skip)<;>
  simp_all[Nonce.goodB,Nonce.Ou.toI,Nonce.soundB_mk,rngB]<;>omega
theorem zz7 {hv want:List Res}{held:List Key}{x:Step}{s:Sess}{n:Int}(hx:StepOk hv want held x)(hS:SaneS s)(hv':hv=s.v.have_)(hw:tabE want=0)(hn:rngB n 2147483647=true):za0 (zfl s x n)=0:=by
 subst hv';have hwl:want.length≤64:=by
  unfold tabE at hw;split at hw
  ·cases hw
  ·omega
 have hp:=hS.plain;simp only[zds,Bool.and_eq_true,decide_eq_true_eq]at hp;have hA:∀r∈x.adds,za8 r=0:=fun r hr=>zr7 hw (hx.adds r hr).1;rw[frameE_zero];refine⟨rfl,qrf hx.kind,?_,rfl,?_,hA,?_⟩
 ·have h1:=hx.al;have h2:=hx.gl;have h3:=hS.hl;simp only[zcc,zfl,Bool.and_eq_true,decide_eq_true_eq];have a1:x.adds.length≤64:=by omega
  have a2:x.gone.length≤64:=by omega
  exact⟨⟨⟨⟨⟨⟨⟨⟨decide_eq_true a1,decide_eq_true a2⟩,by simp⟩,by simp⟩,by simp⟩,hp.1.1⟩,hn⟩,rfl⟩,rfl⟩
 ·simp only[zb9,zfl,Bool.and_eq_true,List.all_eq_true];refine⟨⟨fun k hk=>?_,by simp⟩,by simp⟩;obtain⟨r,hr,rfl⟩:=List.mem_map.1 (hx.gone k hk).1;exact(hS.have_ r hr).2
 ·simp only[zli,zfl,Bool.and_eq_true,List.all_eq_true,decide_eq_true_eq];exact⟨fun r hr=>decide_eq_true (hx.adds r hr).2,fun k hk=>decide_eq_true (hx.gone k hk).2⟩
theorem qe5 {s:Sess}{x:Step}{want:List Res}(hS:SaneS s)(hx:StepOk s.v.have_ want s.v.held x)(hw:tabE want=0)(hg:s.greeted=true)(he:(Nonce.push s.out x.kind).2.2=0):
  zbt {s with v:=zl9 s.v (zfl s x (Nonce.push s.out x.kind).2.1),out:=(Nonce.push s.out x.kind).1}=true:=by
 obtain⟨g1,g2,g3,g4⟩:=zu2 hS.out hx.kind he;have hf:=zz7 hx hS rfl hw g2;rw[saneS_iff];refine⟨hS.plain,g1,hS.hl,hS.have_,hS.dl,hS.turn,hS.held,fun _=>?_⟩;simp only[zbj,zl9,Bool.and_eq_true,decide_eq_true_eq];exact⟨⟨⟨⟨⟨hg,decide_eq_true hf⟩,decide_eq_true rfl⟩,decide_eq_true rfl⟩,g3⟩,decide_eq_true g4⟩
theorem zyb {p:Store}(hp:sanS p=true):tabE (nowL p)=0:=by
 unfold nowL;rw[zfb hp];exact(zzz hp).tab
theorem zq5 {s:Sess}(hs:zbt s=true)(p:Store):
  (pump s p).1=s∧(pump s p).2.1=[]∨
  ∃x,zmg s.v.have_ (nowL p) s.v.held=.some x∧s.v.open_=false∧s.greeted=true∧(Nonce.push s.out x.kind).2.2=0∧
   pump s p=({s with v:=zl9 s.v (zfl s x (Nonce.push s.out x.kind).2.1),out:=(Nonce.push s.out x.kind).1},[zfl s x (Nonce.push s.out x.kind).2.1],0):=by
 unfold pump;rw[zc1 hs];unfold ze6;by_cases hi:idle s p=true
 ·rw[if_pos hi];exact Or.inl ⟨rfl,rfl⟩
 rw[if_neg hi];simp only[idle,Bool.or_eq_true,not_or,Bool.not_eq_true,Bool.not_eq_false']at hi;cases hn:zmg s.v.have_ (nowL p) s.v.held with
 |none=>exact Or.inl ⟨rfl,rfl⟩
 |some x=>
  unfold zk1;by_cases he:(Nonce.push s.out x.kind).2.2=0
  ·refine Or.inr ⟨x,rfl,hi.1.2,hi.1.1,he,?_⟩;simp only[if_pos he]
  ·refine Or.inl ?_;simp only[if_neg he];exact⟨trivial,trivial⟩
theorem qub {s:Sess}(S:SaneS s)(ho:s.v.open_=true):s.v.have_.length+s.v.push.adds.length≤1000000∧s.v.push.gone.length≤9223372036854775807:=by
 have hw:=S.waits ho;simp only[zbj,Bool.and_eq_true,decide_eq_true_eq]at hw;have P:=frameE_zero.1 hw.1.1.1.1.2;have L:=zcm P.small;have:=S.hl;omega
theorem zwm {v:View}(h:v.held.length≤9223372036854775807):OkFrame (zez v):=⟨⟨by simp[zez],by simp[zez]⟩,by simp[zez],by simp[zez],h⟩
theorem zt2 :OkFrame zFrame:=⟨⟨by simp[zFrame],by simp[zFrame]⟩,by simp[zFrame],by simp[zFrame],by simp[zFrame]⟩
theorem zze :OkView zView:=⟨⟨by simp[zView],by simp[zView]⟩,by simp[zView],zt2⟩
theorem zuj {s:Sess}(h:OkSess s):OkSess (zbg s):=by
 unfold zbg;split
 ·exact h
 ·exact⟨zze⟩
def xC :Res:=⟨2,⟨#[99]⟩,0,0,⟨#[101]⟩,[],[]⟩
def xE :Res:=⟨3,⟨#[101]⟩,0,0,⟨#[]⟩,[],[]⟩
def xP :Store:=⟨9,[[],[{xC with ver:=1},{xE with ver:=1}]]⟩
def xF :Frame:=⟨0,4,0,0,0,[],[],0,[],[]⟩
def xS :Sess:=⟨4,true,Nonce.startO 9,zView,0,0⟩
def xG :Frame:=⟨1,4,3,1,0,[{xE with ver:=1}],[],0,[],[]⟩
def xT :Sess:=⟨4,true,⟨0,0,0,1,false,false,false,true,9⟩,⟨[],[],0,xG,true⟩,0,0⟩
theorem w1 :zk2 (newS 9) [xC,xE] []=xP:=by decide+kernel
theorem w2 :zh2 (newS 9) [xC,xE] []=0:=by decide+kernel
theorem w3 :handle (zci 4 9) xP xF=(xS,0):=by decide+kernel
theorem w4a :nowL xP=[{xC with ver:=1},{xE with ver:=1}]:=by decide+kernel
theorem w4b :zbw (nowL xP)=[]:=by
 rw[w4a];simp[zbw,zhi,zkw,xC,xE]
theorem w4c :zmg [] (nowL xP) []=some ⟨3,[{xE with ver:=1}],[]⟩:=by
 unfold zmg zg8;rw[w4b,w4a];decide+kernel
theorem w4 :pump xS xP=(xT,[xG],0):=by
 have h1:zbt xS=true:=by decide+kernel
 have h2:idle xS xP=false:=by decide+kernel
 have h3:zmg xS.v.have_ (nowL xP) xS.v.held=some ⟨3,[{xE with ver:=1}],[]⟩:=w4c;unfold pump;rw[zc1 h1];unfold ze6;rw[if_neg (by rw[h2];decide),h3];decide+kernel
structure SentOk (s:Sess)(p:Store)(f:Frame)(t:Sess):Prop where
 sane:za0 f=0
 type:f.type=1
 epoch:f.epoch=s.epoch
 many:0<f.adds.length+f.gone.length
 al:f.adds.length≤64
 gl:f.gone.length≤64
 adds:∀r∈f.adds,getR (nowL p) r.key=some r
 gone:¬f.kind=0→∀k∈f.gone,k∉s.v.held∧(zmf s.v.have_ k).length=0
 ok:OkRs (nowL p)→OkFrame f
 tsane:zbt t=true
 topen:t.v.open_=true
 tpush:t.v.push=f
 tview:t.v.have_=s.v.have_∧t.v.held=s.v.held
 marks:f.have_=[]
theorem qe6 {s:Sess}{p:Store}(hs:zbt s=true)(hp:sanS p=true){x:Step}(c1:zmg s.v.have_ (nowL p) s.v.held=.some x)(c3:s.greeted=true)(c4:(Nonce.push s.out x.kind).2.2=0):
  SentOk s p (zfl s x (Nonce.push s.out x.kind).2.1) {s with v:=zl9 s.v (zfl s x (Nonce.push s.out x.kind).2.1),out:=(Nonce.push s.out x.kind).1}:=by
 have S:=saneS_iff.1 hs;have hx:=qgw c1;have hw:=zyb hp;obtain⟨g1,g2,g3,g4⟩:=zu2 S.out hx.kind c4;have hf:=zz7 hx S rfl hw g2;have L:=zcm (frameE_zero.1 hf).small;refine⟨hf,rfl,rfl,hx.some,L.1,L.2.1,fun r hr=>zhr (zhb hw) (hx.adds r hr).1,hx.free,fun ho=>⟨⟨by have:=L.1;omega,fun r hr=>ho.all r (hx.adds r hr).1⟩,by have:=L.2.1;omega,by simp[zfl],by simp[zfl]⟩,qe5 S hx hw c3 c4,rfl,rfl,⟨rfl,rfl⟩,rfl⟩
inductive Rch (l:List Res):Key→Prop
 |root {r:Res} (h:r∈l) (h0:r.kind=0):Rch l r.key
 |step {k:Key} {r:Res} {q:Key} (h:Rch l k) (hr:getR l k=some r) (hq:q∈zby r) (hs:(getR l q).isSome=true):Rch l q
theorem Rch.some {l:List Res}{k:Key}(h:Rch l k):(getR l k).isSome=true:=by
 cases h with
 |root h h0=>exact mem_keys.1 (List.mem_map.2 ⟨_,h,rfl⟩)
 |step _ _ _ hs=>exact hs
structure Pl (H W:List Res)(held:List Key):Prop where
 ht:tabE H=0
 wt:tabE W=0
 hv:zbq H=0
 wv:zbq W=0
 miss:(zyd W).length=0
 held:∀k∈held,Rch H k
section
variable {H W : List Res} {held : List Key} {x : Step}
end
theorem tab_len {l:List Res}(h:tabE l=0):l.length≤64:=by
 unfold tabE at h;split at h
 ·simp at h
 ·omega
section
variable {H W : List Res} {held : List Key} {x : Step}
end
structure Cache where
 cap:Int
 l:List Res
 deriving DecidableEq
@[simp] def zdl (c:Cache):List D:=[iD c.cap,lD (c.l.map resC)]
def newC (n:Int):Cache:=⟨capN n,[]⟩
def zea (cap:Int)(l:List Res):Int:=if¬tabE l=0 then tabE l else if cap<l.length then 8 else zbq l
def zku (c:Cache):Bool:=decide (c.cap=capN c.cap)&&decide (zea c.cap c.l=0)
def zd4 (c:Cache):Cache:=if zku c then c else newC c.cap
def zlz (c:Cache)(adds:List Res)(gone:List Key):Cache×Int:=
 if zea c.cap (zbk c.l adds gone)=0 then(⟨c.cap,zbk c.l adds gone⟩,0)else(c,zea c.cap (zbk c.l adds gone))
def zgf (c:Cache)(adds:List Res)(gone:List Key):Cache×Int:=zlz (zd4 c) adds gone
def zf8 (c:Cache):List Res:=zbw (zd4 c).l
structure Warm where
 c:Cache
 ready:Bool
 shown:List Res
 deriving DecidableEq
@[simp] def zt6 (w:Warm):List D:=zdl w.c++[bD w.ready,lD (w.shown.map resC)]
def newW (n:Int):Warm:=⟨newC n,false,[]⟩
def zhe (w:Warm):Bool:=zku w.c&&decide (w.shown=zf8 w.c)&&(w.ready||decide (w.shown.length=0))
def zen (w:Warm):Warm:=if zhe w then w else newW w.c.cap
def znj (w:Warm)(c:Cache):Warm×Bool:=
 if zf8 c=w.shown then(⟨c,w.ready,w.shown⟩,false)else(⟨c,true,zf8 c⟩,true)
def zh7 (w:Warm)(adds:List Res)(gone:List Key):Warm×Bool×Int:=
 if¬(zgf w.c adds gone).2=0 then(w,false,(zgf w.c adds gone).2)
 else((znj w (zgf w.c adds gone).1).1,(znj w (zgf w.c adds gone).1).2,0)
def ze1 (w:Warm)(adds:List Res)(gone:List Key):Warm×Bool×Int:=zh7 (zen w) adds gone
structure Snap where
 id:Int
 pins:Int
 l:List Res
 deriving DecidableEq
@[simp] def zc6 (s:Snap):List D:=[iD s.id,iD s.pins,lD (s.l.map resC)]
structure Pins where
 next:Int
 snaps:List Snap
 deriving DecidableEq
@[simp] def zie (p:Pins):List D:=[iD p.next,lD (p.snaps.map zc6)]
def za6 (next:Int):Int→List Snap→Bool
 |_,[]=>true
 |a,s::r=>decide (a+1≤s.id)&&decide (s.id≤next)&&decide ((if r=[]then 0 else 1)≤s.pins)&&decide (s.pins≤10000)&&za6 next s.id r
def zhf (p:Pins):Bool:=za6 p.next 0 p.snaps&&rngB p.next 2147483647&&decide (p.snaps.length≤1000)
def zax (p:Pins):Pins:=if zhf p then p else⟨0,[]⟩
def qhd (p:Pins):List Snap:=p.snaps.filter fun s=>!decide (s.pins=0)
def zdn (p:Pins)(l:List Res):Pins×Int×Int:=
 if p.next=2147483647 then(p,0,14)else if 1000≤(qhd p).length then(p,0,8)
 else(⟨p.next+1,qhd p++[⟨p.next+1,0,l⟩]⟩,p.next+1,0)
def zch (p:Pins)(l:List Res):Pins×Int×Int:=zdn (zax p) l
def curP (p:Pins):Option Snap:=(zax p).snaps.getLast?
def qrs (p:Pins):List Key:=((p.snaps.flatMap (·.l)).map Res.key).foldl putK []
def zdz (p:Pins):List Key:=qrs (zax p)
@[simp] def nnC' (i:Nonce.Nn):List D:=[iD i.l0,iD i.l1,iD i.l2,iD i.l3,iD i.m]
structure Errs where
 (e0 e1 e2 e3:Int)
 deriving DecidableEq
@[simp] def qxc (e:Errs):List D:=[iD e.e0,iD e.e1,iD e.e2,iD e.e3]
def Errs.get (e:Errs)(k:Int):Int:=if k=0 then e.e0 else if k=1 then e.e1 else if k=2 then e.e2 else e.e3
def Errs.set (e:Errs)(k v:Int):Errs:=if k=0 then{e with e0:=v}else if k=1 then{e with e1:=v}else if k=2 then{e with e2:=v}else{e with e3:=v}
def za2 (n:Int):Bool:=!rngB n 15
structure Side where
 epoch:Int
 turn:Int
 up:Bool
 inn:Nonce.Nn
 errs:Errs
 w:Warm
 p:Pins
 deriving DecidableEq
@[simp] def zdc (s:Side):List D:=[iD s.epoch,iD s.turn,bD s.up]++nnC' s.inn++qxc s.errs++zt6 s.w++zie s.p
def newX (limit most:Int):Side:=⟨0,0,false,Nonce.startI most,⟨0,0,0,0⟩,newW limit,⟨0,[]⟩⟩
def zqa (p:Pins):Bool:=decide (za0 ⟨3,0,0,0,0,[],[],0,[],zdz p⟩=0)
def zd2 (s:Side):Bool:=match curP s.p with
 |none=>!s.w.ready
 |some c=>s.w.ready&&decide (c.l=s.w.shown)
def zb0 (s:Side):Bool:=
 (rngB s.epoch 2147483647&&rngB s.turn 2147483647&& !(za2 s.errs.e0||za2 s.errs.e1||za2 s.errs.e2||za2 s.errs.e3))
   &&Nonce.soundB s.inn&&zhe s.w&&zhf s.p&&zqa s.p&&zd2 s
def soundX (s:Side):Side:=if zb0 s then s else newX s.w.c.cap s.inn.m
def zmo (s:Side):Bool:=decide (s.turn=2147483647)
def zhy (s:Side):Side:={s with turn:=s.turn+1}
def zln (s:Side):Frame:=⟨0,s.epoch,0,0,0,[],[],0,zhx s.w.c.l,[]⟩
def qa8 (s:Side):Frame:=⟨3,s.epoch,0,0,s.turn,[],[],0,[],zdz s.p⟩
def zcw (s:Side)(epoch:Int):Side×List Frame×Int:=
 if epoch≤s.epoch∨2147483647<epoch then(s,[],11)else if zmo s then(s,[],14)
 else let t:Side:=zhy {s with epoch:=epoch,up:=true,inn:=Nonce.startI s.inn.m,errs:=⟨0,0,0,0⟩}
  (t,[zln t,qa8 t],0)
def zay (s:Side)(epoch:Int):Side×List Frame×Int:=zcw (soundX s) epoch
def zbs (s:Side)(f:Frame):Int:=
 if s.up=false then 12 else if¬za0 f=0 then za0 f else if¬f.epoch=s.epoch then 11 else if¬f.type=1 then 15 else 0
def ackX (s:Side)(f:Frame):Side×List Frame:=
 (zhy s,[⟨2,f.epoch,f.kind,f.nonce,s.turn+1,[],[],s.errs.get f.kind,[],zdz s.p⟩])
def zf0 (s:Side)(f:Frame):Side×Int:=
 let w:=ze1 s.w f.adds f.gone
 let q:=zch s.p w.1.shown
 if w.2.1=true∧¬q.2.2=0 then(s,q.2.2)else
 let p:=if w.2.1=true then q.1 else s.p
 if zqa p=false then({s with errs:=s.errs.set f.kind 8},0)
 else({s with w:=w.1,p:=p,errs:=s.errs.set f.kind w.2.2},0)
def zgs (s:Side)(f:Frame):Side×List Frame×Int:=
 if¬zbs s f=0 then(s,[],zbs s f)else
 let i:=Nonce.take s.inn f.kind f.nonce
 if i.2=0 then
  if zmo s then(s,[],14)else
  if¬(zf0 s f).2=0 then(s,[],(zf0 s f).2)else
  let t:={(zf0 s f).1 with inn:=i.1}
  if zmo s then(s,[],14)else((ackX t f).1,(ackX t f).2,0)
 else if i.2=9 then
  if zmo s then(s,[],14)else((ackX s f).1,(ackX s f).2,9)
 else(s,[],i.2)
def zh0 (s:Side)(f:Frame):Side×List Frame×Int:=zgs (soundX s) f
def zkt (s:Side):Option Snap:=curP (soundX s).p
theorem must_iff {cap:Int}{l:List Res}:zea cap l=0↔tabE l=0∧(l.length:Int)≤cap∧zbq l=0:=by
 unfold zea;constructor
 ·intro h;split at h
  ·rename_i h1;exact absurd h h1
  ·rename_i h1;split at h
   ·simp at h
   ·rename_i h2;exact⟨Decidable.not_not.1 h1,by omega,h⟩
 ·rintro⟨h1,h2,h3⟩;rw[if_neg (by simp[h1]),if_neg (by omega),h3]
theorem saneC_iff {c:Cache}:zku c=true↔c.cap=capN c.cap∧tabE c.l=0∧(c.l.length:Int)≤c.cap∧zbq c.l=0:=by
 simp only[zku,Bool.and_eq_true,decide_eq_true_eq,must_iff]
theorem zus (n:Int):zku (newC n)=true:=by
 rw[saneC_iff];have:=zn8 n;exact⟨(zlw n).symm,show tabE []=0 by decide+kernel,by simp[newC,this.1],zqw⟩
theorem zjw (c:Cache):zku (zd4 c)=true:=by
 unfold zd4;split
 ·assumption
 ·exact zus _
theorem zh9 {c:Cache}(h:zku c=true):zd4 c=c:=by simp[zd4,h]
theorem qdq (c:Cache)(a:List Res)(g:List Key):zku (zgf c a g).1=true:=by
 have h:=zjw c;unfold zgf zlz;split
 ·rename_i h1;rw[saneC_iff]at h⊢;exact⟨h.1,must_iff.1 h1⟩
 ·exact h
theorem qf0 :zbw []=[]:=rfl
theorem zuq (n:Int):zhe (newW n)=true:=by
 have h:=zus n;simp only[zhe,newW,zf8,zh9 h,h,Bool.true_and,Bool.and_eq_true,Bool.or_eq_true,decide_eq_true_eq];exact⟨by simp[newC,qf0],.inr rfl⟩
theorem zxs (w:Warm):zhe (zen w)=true:=by
 unfold zen;split
 ·assumption
 ·exact zuq _
theorem qeh {w:Warm}(h:zhe w=true):zen w=w:=by simp[zen,h]
theorem saneW_iff {w:Warm}:zhe w=true↔zku w.c=true∧w.shown=zbw w.c.l∧(w.ready=true∨w.shown=[]):=by
 simp only[zhe,Bool.and_eq_true,Bool.or_eq_true,decide_eq_true_eq,List.length_eq_zero_iff,and_assoc];constructor
 ·rintro⟨h1,h2,h3⟩;exact⟨h1,by simpa[zf8,zh9 h1]using h2,h3⟩
 ·rintro⟨h1,h2,h3⟩;exact⟨h1,by simpa[zf8,zh9 h1]using h2,h3⟩
theorem zok (w:Warm)(a:List Res)(g:List Key):zhe (ze1 w a g).1=true:=by
 have h:=zxs w;unfold ze1 zh7;split
 ·exact h
 ·have h1:=qdq (zen w).c a g;have h2:=saneW_iff.1 h;unfold znj;split
  ·rename_i h3;rw[saneW_iff];simp only[zf8,zh9 h1]at h3;exact⟨h1,h3.symm,h2.2.2⟩
  ·rw[saneW_iff];exact⟨h1,by simp[zf8,zh9 h1],.inl rfl⟩
theorem qh5 {l:List Res}:rngB (zc3 l) 15=true:=by
 unfold zc3;split
 ·rename_i r _;unfold za8
  (repeat' split)<;>simp[rngB]
 ·simp[rngB]
theorem qoy (l:List Res):rngB (tabE l) 15=true:=by
 unfold tabE
 (repeat' split)<;>first|exact qh5|simp[rngB]
theorem qca (l:List Res):rngB (zbq l) 15=true:=by
 unfold zbq
 (repeat' split)<;>simp[rngB]
theorem qlb (cap:Int)(l:List Res):rngB (zea cap l) 15=true:=by
 unfold zea
 (repeat' split)<;>first|exact qoy _|exact qca _|simp[rngB]
theorem qi2 (c:Cache)(a:List Res)(g:List Key):rngB (zgf c a g).2 15=true:=by
 unfold zgf zlz;split
 ·simp[rngB]
 ·exact qlb _ _
theorem qed (w:Warm)(a:List Res)(g:List Key):rngB (ze1 w a g).2.2 15=true:=by
 unfold ze1 zh7;split
 ·exact qi2 _ _ _
 ·simp[rngB]
theorem zot {n:Int}:∀{l:List Snap} {a b:Int},b≤a→za6 n a l=true→za6 n b l=true
 |[],_,_,_,_=>rfl
 |s::r,a,b,h,hs=>by
  simp only[za6,Bool.and_eq_true,decide_eq_true_eq]at hs⊢;exact⟨⟨⟨⟨by omega,hs.1.1.1.2⟩,hs.1.1.2⟩,hs.1.2⟩,hs.2⟩
theorem zjx {n:Int}(L:List Res):∀{l:List Snap} {a:Int},a≤n→za6 n a l=true→za6 (n+1) a ((l.filter fun s=>!decide (s.pins=0))++[⟨n+1,0,L⟩])=true
 |[],a,ha,_=>by
  simp only[List.filter_nil,List.nil_append,za6,Bool.and_eq_true,decide_eq_true_eq,if_true,and_true];omega
 |s::r,a,ha,hs=>by
  simp only[za6,Bool.and_eq_true,decide_eq_true_eq]at hs;obtain⟨⟨⟨⟨h1,h2⟩,h3⟩,h4⟩,h5⟩:=hs;by_cases hp:s.pins=0
  ·simp only[List.filter_cons,hp,decide_true,Bool.not_true,Bool.false_eq_true,if_false];exact zjx L ha (zot (by omega) h5)
  ·simp only[List.filter_cons,hp,decide_false,Bool.not_false,if_true,List.cons_append,za6,Bool.and_eq_true,decide_eq_true_eq];have h3':1≤s.pins:=by
    split at h3<;>omega
   refine⟨⟨⟨⟨h1,by omega⟩,?_⟩,h4⟩,zjx L h2 h5⟩;rw[if_neg (by simp)];exact h3'
theorem saneP_iff {p:Pins}:zhf p=true↔za6 p.next 0 p.snaps=true∧0≤p.next∧p.next≤2147483647∧p.snaps.length≤1000:=by
 simp only[zhf,rngB,Bool.and_eq_true,decide_eq_true_eq,and_assoc]
theorem zur :zhf ⟨0,[]⟩=true:=rfl
theorem zc2 (p:Pins):zhf (zax p)=true:=by
 unfold zax;split
 ·assumption
 ·exact zur
theorem zff {p:Pins}(h:zhf p=true):zax p=p:=by simp[zax,h]
theorem zid (p:Pins)(l:List Res):zhf (zch p l).1=true:=by
 have h:=zc2 p;unfold zch zdn;split
 ·exact h
 ·rename_i h1;split
  ·exact h
  ·rename_i h2;rw[saneP_iff]at h⊢;refine⟨zjx l h.2.1 h.1,by simp only;omega,by simp only;omega,?_⟩;simp only[List.length_append,List.length_singleton];omega
theorem zx1 {p:Pins}{l:List Res}(h:(zch p l).2.2=0):∃s,curP (zch p l).1=some s∧s.l=l:=by
 have h0:=zid p l;unfold curP;rw[zff h0];unfold zch zdn at h⊢;split at h
 ·simp at h
 ·rename_i h1;split at h
  ·simp at h
  ·rename_i h2;rw[if_neg h1,if_neg h2];exact⟨⟨(zax p).next+1,0,l⟩,by simp,rfl⟩
theorem room_iff {p:Pins}:zqa p=true↔(zdz p).length≤64∧∀k∈zdz p,okK k=true:=by
 have:=drain_ok (v:=⟨[],zdz p,0,zFrame,false⟩);simp only[zqa,decide_eq_true_eq];simp only[zez]at this;rw[this];simp[rngB]
theorem qbx {i:Nonce.Nn}(h:Nonce.soundB i=true)(k n:Int):Nonce.soundB (Nonce.take i k n).1=true:=by
 obtain⟨a,b,c,d,m⟩:=i;simp only[Nonce.take,Nonce.inF,h,if_true];unfold Nonce.takeQ;split
 ·exact h
 ·split
  ·exact h
  ·split
   ·exact h
   ·rename_i h1;simp only[Nonce.Nn.set,Nonce.Nn.last,Nonce.soundB_mk]at h h1⊢
    (repeat' split at h1)<;>(repeat' split)<;>simp only[Nonce.soundB_mk]<;>omega
theorem zon (n:Int):Nonce.soundB (Nonce.startI n)=true:=by
 have:=Nonce.bnd_ok n;simp only[Nonce.startI,Nonce.soundB_mk];omega
structure SaneX (s:Side):Prop where
 epoch:rngB s.epoch 2147483647=true
 turn:rngB s.turn 2147483647=true
 errs:za2 s.errs.e0=false∧za2 s.errs.e1=false∧za2 s.errs.e2=false∧za2 s.errs.e3=false
 inn:Nonce.soundB s.inn=true
 w:zhe s.w=true
 p:zhf s.p=true
 room:zqa s.p=true
 agrees:zd2 s=true
theorem saneX_iff {s:Side}:zb0 s=true↔SaneX s:=by
 simp only[zb0,Bool.and_eq_true,Bool.not_eq_true',Bool.or_eq_false_iff];constructor
 ·rintro⟨⟨⟨⟨⟨⟨⟨h1,h2⟩,h3⟩,h4⟩,h5⟩,h6⟩,h7⟩,h8⟩;exact⟨h1,h2,⟨h3.1.1.1,h3.1.1.2,h3.1.2,h3.2⟩,h4,h5,h6,h7,h8⟩
 ·intro h;obtain⟨g1,g2,g3,g4⟩:=h.errs;exact⟨⟨⟨⟨⟨⟨⟨h.epoch,h.turn⟩,⟨⟨⟨g1,g2⟩,g3⟩,g4⟩⟩,h.inn⟩,h.w⟩,h.p⟩,h.room⟩,h.agrees⟩
theorem qav :zdz ⟨0,[]⟩=[]:=rfl
theorem zup (l m:Int):zb0 (newX l m)=true:=by
 rw[saneX_iff];exact⟨rfl,rfl,⟨rfl,rfl,rfl,rfl⟩,zon m,zuq l,zur,room_iff.2 ⟨by rw[show(newX l m).p=⟨0,[]⟩from rfl,qav];simp,by rw[show(newX l m).p=⟨0,[]⟩from rfl,qav];simp⟩,rfl⟩
theorem zfe (s:Side):zb0 (soundX s)=true:=by
 unfold soundX;split
 ·assumption
 ·exact zup _ _
theorem zc0 {s:Side}(h:zb0 s=true):soundX s=s:=by simp[soundX,h]
theorem zn5 {e:Errs}(h:za2 e.e0=false∧za2 e.e1=false∧za2 e.e2=false∧za2 e.e3=false){v:Int}(hv:rngB v 15=true)(k:Int):
  za2 (e.set k v).e0=false∧za2 (e.set k v).e1=false∧za2 (e.set k v).e2=false∧za2 (e.set k v).e3=false:=by
 have hv':za2 v=false:=by simp[za2,hv]
 unfold Errs.set
 (repeat' split)<;>simp[h,hv']
theorem zr5 {n:Int}(h:rngB n 2147483647=true)(hf:¬n=2147483647):rngB (n+1) 2147483647=true:=by
 rw[rngB_iff]at h⊢;omega
theorem zwq (s:Side)(epoch:Int):zb0 (zay s epoch).1=true:=by
 have h:=zfe s;unfold zay zcw;split
 ·exact h
 ·rename_i h1;split
  ·exact h
  ·rename_i h2;have S:=saneX_iff.1 h;rw[saneX_iff];have he:=rngB_iff.1 S.epoch;exact⟨rngB_iff.2 ⟨by simp only[zhy];omega,by simp only[zhy];omega⟩,zr5 S.turn (by simpa[zmo]using h2),⟨rfl,rfl,rfl,rfl⟩,zon _,S.w,S.p,S.room,S.agrees⟩
theorem qb2 {s:Side}(S:SaneX s)(f:Frame):SaneX (zf0 s f).1:=by
 have hw:=zok s.w f.adds f.gone;have hr:=qed s.w f.adds f.gone;have h6:(ze1 s.w f.adds f.gone).2.1=true→(ze1 s.w f.adds f.gone).1.ready=true:=by
  unfold ze1 zh7 znj
  (repeat' split)<;>simp
 have h7:(ze1 s.w f.adds f.gone).2.1=false→(ze1 s.w f.adds f.gone).1.ready=s.w.ready∧(ze1 s.w f.adds f.gone).1.shown=s.w.shown:=by
  have hw:zen s.w=s.w:=qeh S.w;unfold ze1 zh7 znj;rw[hw]
  (repeat' split)<;>simp
 unfold zf0;dsimp only;generalize ze1 s.w f.adds f.gone=W at hw hr h6 h7⊢;obtain⟨w',ch,why⟩:=W;simp only at hw hr h6 h7⊢;cases ch with
 |false=>
  simp only[Bool.false_eq_true,false_and,if_false];split
  ·exact⟨S.epoch,S.turn,zn5 S.errs rfl _,S.inn,S.w,S.p,S.room,S.agrees⟩
  ·refine⟨S.epoch,S.turn,zn5 S.errs hr _,S.inn,hw,S.p,S.room,?_⟩;have hA:=S.agrees;obtain⟨g1,g2⟩:=h7 rfl;unfold zd2 at hA⊢;simp only[g1,g2];exact hA
 |true=>
  simp only[true_and,if_true];split
  ·exact S
  ·rename_i h1;split
   ·exact⟨S.epoch,S.turn,zn5 S.errs rfl _,S.inn,S.w,S.p,S.room,S.agrees⟩
   ·rename_i h2;refine⟨S.epoch,S.turn,zn5 S.errs hr _,S.inn,hw,zid _ _,by simpa using h2,?_⟩;obtain⟨c,h4,h5⟩:=zx1 (Decidable.not_not.1 h1);simp only[zd2,h4,h5,h6 rfl,decide_true,Bool.and_self]
theorem qe2 (s:Side)(f:Frame):zb0 (zh0 s f).1=true:=by
 have h:=zfe s;have S:=saneX_iff.1 h;unfold zh0 zgs;generalize soundX s=q at h S⊢;dsimp only;split
 ·exact h
 ·split
  ·split
   ·exact h
   ·rename_i hf;split
    ·exact h
    ·rw[saneX_iff];have T:=qb2 S f;have ht:(zf0 q f).1.turn=q.turn:=by
      unfold zf0;dsimp only
      (repeat' split)<;>rfl
     exact⟨T.epoch,by simp only[ackX,zhy,ht];exact zr5 S.turn (by simpa[zmo]using hf),T.errs,qbx S.inn _ _,T.w,T.p,T.room,T.agrees⟩
  ·split
   ·split
    ·exact h
    ·rename_i hf;rw[saneX_iff];exact⟨S.epoch,zr5 S.turn (by simpa[zmo]using hf),S.errs,S.inn,S.w,S.p,S.room,S.agrees⟩
   ·exact h
@[simp] theorem lenAll_snap (l:List Snap):zbd (l.map zc6) 3=True:=za4 (f:=zc6) (n:=3) (fun _=>rfl) l
def ahP (l:List Snap):Int:=match l.getLast? with
 |some s=>s.id
 |none=>0
@[simp] theorem ahP_nil :ahP []=0:=rfl
@[simp] theorem zje (l:List Snap)(s:Snap):ahP (l++[s])=s.id:=by simp[ahP]
theorem zi2 {n:Int}:∀{l:List Snap} {a:Int},za6 n a l=true→∀s∈l,s.id≤n∧s.pins≤10000∧a+1≤s.id
 |[],_,_,s,hs=>by cases hs
 |q::r,a,h,s,hs=>by
  simp only[za6,Bool.and_eq_true,decide_eq_true_eq]at h;rcases List.mem_cons.1 hs with rfl|hs
  ·exact⟨h.1.1.1.2,h.1.2,h.1.1.1.1⟩
  ·have:=zi2 h.2 s hs;exact⟨this.1,this.2.1,by omega⟩
structure OkX (s:Side):Prop where
 c:OkRs s.w.c.l
 cl:s.w.c.l.length≤1000
 shown:OkRs s.w.shown
 snaps:∀q∈s.p.snaps,OkRs q.l∧q.l.length≤64
 next:s.p.next≤2147483648
 sl:s.p.snaps.length≤1000000
structure OkPins (p:Pins):Prop where
 snaps:∀q∈p.snaps,OkRs q.l∧q.l.length≤64
 next:p.next≤2147483648
 sl:p.snaps.length≤1000000
theorem OkPins.sound {p:Pins}(h:OkPins p):OkPins (zax p):=by
 unfold zax;split
 ·exact h
 ·exact⟨by simp,by decide,by simp⟩
theorem zhd (p:Pins):(zax p).snaps.length≤1000:=(saneP_iff.1 (zc2 p)).2.2.2
theorem zoq {l:List Snap}(h:∀q∈l,q.l.length≤64):(l.flatMap (·.l)).length≤64*l.length:=by
 induction l with
 |nil=>simp
 |cons s r ih=>
  have:=ih fun q hq=>h q (by simp[hq])
  have:=h s (by simp);simp only[List.flatMap_cons,List.length_append,List.length_cons];omega
theorem ztd {p:Pins}(h:OkPins p):(zdz p).length≤64000:=by
 unfold zdz qrs;have h1:=zoq fun q hq=>(h.sound.snaps q hq).2;have h2:=zhd p;obtain⟨a1,a2⟩:=zio ((((zax p).snaps.flatMap (·.l)).map Res.key)) (o:=[]) (by simp[Asc]);have:=zhm (zw6 a1) (b:=((zax p).snaps.flatMap (·.l)).map Res.key) (fun k hk=>by rw[a2]at hk;simpa using hk);rw[List.length_map]at this;omega
theorem zre {α:Type}(l:List α):l=[]∨∃i s,l=i++[s]:=by
 rcases List.eq_nil_or_concat l with h|⟨i,s,h⟩
 ·exact .inl h
 ·exact .inr ⟨i,s,by simpa using h⟩
theorem OkX.pins {s:Side}(h:OkX s):OkPins s.p:=⟨h.snaps,h.next,h.sl⟩
theorem qd0 (n:Int):za2 n=(decide (n<0)||decide (15<n)):=by
 rw[za2,rngB];by_cases h1:n<0<;>by_cases h2:15<n<;>simp[h1,h2]<;>omega
theorem qgo {l:List Res}(h:OkRs l)(p:Res→Bool):OkRs (l.filter p):=⟨Nat.le_trans (List.length_filter_le _ _) h.len,fun r hr=>h.all r (List.mem_filter.1 hr).1⟩
theorem zvf {c:Cache}(h:OkRs c.l):OkRs (zd4 c).l:=by
 unfold zd4;split
 ·exact h
 ·exact⟨by simp[newC],fun r hr=>by simp[newC]at hr⟩
theorem zvj {c:Cache}{adds:List Res}{gone:List Key}(h:OkRs c.l)(ha:OkRs adds)(hl:adds.length≤1000):OkRs (zgf c adds gone).1.l:=by
 have h1:=zvf h;have h2:=tab_len (saneC_iff.1 (zjw c)).2.1;unfold zgf zlz;split
 ·exact qku h1 ha (by omega)
 ·exact h1
theorem zve {w:Warm}(h:OkRs w.c.l)(hs:OkRs w.shown):OkRs (zen w).c.l∧OkRs (zen w).shown:=by
 unfold zen;split
 ·exact⟨h,hs⟩
 ·exact⟨⟨by simp[newW,newC],fun r hr=>by simp[newW,newC]at hr⟩,⟨by simp[newW],fun r hr=>by simp[newW]at hr⟩⟩
theorem zvg {c:Cache}(h:OkRs c.l):OkRs (zf8 c):=qgo (zvf h) _
theorem ok_nil :OkRs []:=⟨by simp,fun r hr=>by simp at hr⟩
theorem qac {w:Warm}{adds:List Res}{gone:List Key}(h:OkRs w.c.l)(hs:OkRs w.shown)(ha:OkRs adds)(hl:adds.length≤1000):OkRs (ze1 w adds gone).1.c.l∧OkRs (ze1 w adds gone).1.shown:=by
 obtain⟨h1,h2⟩:=zve h hs;unfold ze1 zh7;split
 ·exact⟨h1,h2⟩
 ·have h3:=zvj (gone:=gone) h1 ha hl;unfold znj;split
  ·exact⟨h3,h2⟩
  ·exact⟨h3,zvg h3⟩
theorem zuh (w:Warm)(adds:List Res)(gone:List Key):(ze1 w adds gone).1.c.l.length≤64∧(ze1 w adds gone).1.shown.length≤64:=by
 have h:=saneW_iff.1 (zok w adds gone);have h1:=tab_len (saneC_iff.1 h.1).2.1;refine⟨h1,?_⟩;rw[h.2.1];exact Nat.le_trans (List.length_filter_le _ _) h1
theorem zq7 {p:Pins}(h:OkPins p){l:List Res}(hl:OkRs l)(hl2:l.length≤64):OkPins (zch p l).1:=by
 have hs:=saneP_iff.1 (zid p l);have h1:=h.sound.snaps;refine⟨?_,by omega,by omega⟩;unfold zch zdn;split
 ·exact h1
 ·split
  ·exact h1
  ·intro q hq;rcases List.mem_append.1 hq with hq|hq
   ·exact h1 q (List.mem_filter.1 hq).1
   ·rw[List.mem_singleton.1 hq];exact⟨hl,hl2⟩
theorem OkX.mk' {s:Side}(h1:OkRs s.w.c.l)(h2:s.w.c.l.length≤1000)(h3:OkRs s.w.shown)(hp:OkPins s.p):OkX s:=⟨h1,h2,h3,hp.snaps,hp.next,hp.sl⟩
theorem OkX.new (l m:Int):OkX (newX l m):=.mk' ok_nil (by simp[newX,newW,newC]) ok_nil ⟨by simp[newX],by simp[newX],by simp[newX]⟩
theorem OkX.sound {s:Side}(h:OkX s):OkX (soundX s):=by
 unfold soundX;split
 ·exact h
 ·exact .new _ _
theorem OkX.step {s:Side}(h:OkX s){f:Frame}(ha:OkRs f.adds)(hl:f.adds.length≤1000):OkX (zf0 s f).1:=by
 obtain⟨h1,h2⟩:=qac (gone:=f.gone) h.c h.shown ha hl;obtain⟨h3,h4⟩:=zuh s.w f.adds f.gone;unfold zf0;dsimp only;generalize ze1 s.w f.adds f.gone=W at h1 h2 h3 h4⊢;obtain⟨w',ch,why⟩:=W;simp only at h1 h2 h3 h4⊢;cases ch with
 |false=>
  simp only[Bool.false_eq_true,false_and,if_false];split
  ·exact .mk' h.c h.cl h.shown h.pins
  ·exact .mk' h1 (by simp only;omega) h2 h.pins
 |true=>
  simp only[true_and,if_true];split
  ·exact h
  ·split
   ·exact .mk' h.c h.cl h.shown h.pins
   ·exact .mk' h1 (by simp only;omega) h2 (zq7 h.pins h2 h4)
theorem qb1 (s:Side)(f:Frame):(zf0 s f).1.turn=s.turn:=by
 unfold zf0;dsimp only
 (repeat' split)<;>rfl
theorem zic {s:Side}{f:Frame}(h:zbs s f=0):za0 f=0:=by
 unfold zbs at h;split at h
 ·cases h
 ·split at h
  ·rename_i h1;exact absurd h h1
  ·rename_i h1;exact Decidable.not_not.1 h1
theorem zxi {s:Side}(h:zb0 s=true):0≤s.turn∧s.turn≤2147483647:=rngB_iff.1 (saneX_iff.1 h).turn
theorem qux {s:Str}{n:Nat}(h:(bs s).length≤n)(hn:n≤9223372036854775807):nB s:=Nat.le_trans h hn
theorem zss {r:Res}(h:za8 r=0):OkRes r:=by
 obtain⟨h1,h2,h3,h4,h5,h6⟩:=zgu h;have n1:=qgz h2;simp only[zcd,Bool.and_eq_true,decide_eq_true_eq,List.all_eq_true,zht]at h3;refine⟨qux n1 (by omega),?_,by omega,fun x hx=>?_,by omega⟩
 ·by_cases ht:mayT r.kind=true
  ·simp only[zhv,ht,Bool.not_true,Bool.false_or,Bool.and_eq_true]at h5;exact qux (qgz h5.1) (by omega)
  ·simp only[zgi,ht,Bool.or_false,Bool.and_eq_true,decide_eq_true_eq]at h4;unfold nB;rw[h4.1.1.2];simp
 ·have:=(h3.2 x hx).1;omega
theorem qnk {l:List Res}(h:tabE l=0):OkRs l:=⟨by have:=tab_len h;omega,fun r hr=>zss (zr7 h hr)⟩
theorem zfo {f:Frame}(h:za0 f=0):OkFrame f:=by
 have F:=frameE_zero.1 h;have L:=zcm F.small;exact⟨⟨by omega,fun r hr=>zss (F.adds r hr)⟩,by omega,by omega,by omega⟩
theorem qce {s:Sess}(q:Store)(f:Frame)(hs:zbt s=true)(hp:OkFrame s.v.push):OkFrame (handle s q f).1.v.push:=by
 rcases zyt q f hs with e|e
 ·rw[e];exact hp
 ·rw[e];exact zt2
end Go.G
