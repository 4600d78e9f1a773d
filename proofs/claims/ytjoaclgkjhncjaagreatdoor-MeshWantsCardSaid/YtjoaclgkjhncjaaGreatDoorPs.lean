/-
  LAYERS 9, 10, 13, 15 to 20: histories, frames that may be, numbers of pushes, plans, sidecars, pins, sessions: plainly.
-/
import Derived.Test.YtjoaclgkjhncjaaGreatDoorPl
set_option linter.unusedSimpArgs false
set_option linter.unusedVariables false
namespace Go.Nonce
structure Ou where
 (l0 l1 l2 l3:Int) (o0 o1 o2 o3:Bool) (m:Int)
 deriving DecidableEq
structure Nn where
 (l0 l1 l2 l3 m:Int)
 deriving DecidableEq
def bnd (n:Int):Int:=max 1 (min n 2147483647)
def startO (n:Int):Ou:=⟨0,0,0,0,false,false,false,false,bnd n⟩
def startI (n:Int):Nn:=⟨0,0,0,0,bnd n⟩
def soundB (i:Nn):Bool:=
 decide (0≤i.l0)&&decide (i.l0≤i.m)&&decide (0≤i.l1)&&decide (i.l1≤i.m)&&decide (0≤i.l2)&&decide (i.l2≤i.m)&&decide (0≤i.l3)&&decide (i.l3≤i.m)&&decide (1≤i.m)&&decide (i.m≤2147483647)
def Ou.toI (o:Ou):Nn:=⟨o.l0,o.l1,o.l2,o.l3,o.m⟩
def goodB (o:Ou):Bool:=
 !(o.o0&&decide (o.l0=0))&& !(o.o1&&decide (o.l1=0))&& !(o.o2&&decide (o.l2=0))&& !(o.o3&&decide (o.l3=0))&&soundB o.toI
def outF (o:Ou):Ou:=if goodB o then o else startO o.m
def inF (i:Nn):Nn:=if soundB i then i else startI i.m
def kindB (k:Int):Bool:=decide (0≤k)&&decide (k<4)
def Ou.last (o:Ou)(k:Int):Int:=if k=0 then o.l0 else if k=1 then o.l1 else if k=2 then o.l2 else o.l3
def Ou.open' (o:Ou)(k:Int):Bool:=if k=0 then o.o0 else if k=1 then o.o1 else if k=2 then o.o2 else o.o3
def Ou.set (o:Ou)(k l:Int)(b:Bool):Ou:=
 if k=0 then{o with l0:=l,o0:=b}else if k=1 then{o with l1:=l,o1:=b}else if k=2 then{o with l2:=l,o2:=b}else{o with l3:=l,o3:=b}
def Nn.last (o:Nn)(k:Int):Int:=if k=0 then o.l0 else if k=1 then o.l1 else if k=2 then o.l2 else o.l3
def Nn.set (o:Nn)(k l:Int):Nn:=
 if k=0 then{o with l0:=l}else if k=1 then{o with l1:=l}else if k=2 then{o with l2:=l}else{o with l3:=l}
def pushQ (o:Ou)(k:Int):Ou×Int×Int:=
 if kindB k=false then(o,0,4)
 else if o.open' k then(o,0,15)
 else if o.last k=o.m then(o,0,14)
 else(o.set k (o.last k+1) true,o.last k+1,0)
def push (o:Ou)(k:Int):Ou×Int×Int:=pushQ (outF o) k
def doneQ (o:Ou)(k n:Int):Ou×Int:=
 if kindB k=false then(o,4)
 else if o.open' k=false∨n≠o.last k then(o,11)
 else(o.set k (o.last k) false,0)
def done (o:Ou)(k n:Int):Ou×Int:=doneQ (outF o) k n
def takeQ (i:Nn)(k n:Int):Nn×Int:=
 if kindB k=false then(i,4)
 else if n≠0∧n=i.last k then(i,9)
 else if n≠i.last k+1∨i.m<n then(i,11)
 else(i.set k n,0)
def take (i:Nn)(k n:Int):Nn×Int:=takeQ (inF i) k n
theorem soundB_mk (a b c d m:Int):(soundB ⟨a,b,c,d,m⟩=true)=(0≤a∧a≤m∧0≤b∧b≤m∧0≤c∧c≤m∧0≤d∧d≤m∧1≤m∧m≤2147483647):=by
 simp[soundB,and_assoc]
theorem bnd_ok (n:Int):1≤bnd n∧bnd n≤2147483647:=by simp only[bnd];omega
def Ou.ok (o:Ou):Prop:=(0≤o.l0∧o.l0≤o.m∧0≤o.l1∧o.l1≤o.m∧0≤o.l2∧o.l2≤o.m∧0≤o.l3∧o.l3≤o.m∧1≤o.m∧o.m≤2147483647)
def Nn.ok (o:Nn):Prop:=(0≤o.l0∧o.l0≤o.m∧0≤o.l1∧o.l1≤o.m∧0≤o.l2∧o.l2≤o.m∧0≤o.l3∧o.l3≤o.m∧1≤o.m∧o.m≤2147483647)
theorem outF_ok (o:Ou):(outF o).ok:=by
 obtain⟨a,b,c,d,x,y,z,t,m⟩:=o;simp only[outF];by_cases h:goodB ⟨a,b,c,d,x,y,z,t,m⟩=true
 ·rw[if_pos h];simp only[goodB,Ou.toI,Bool.and_eq_true,soundB_mk]at h;exact h.2
 ·rw[if_neg h];have:=bnd_ok m;simp only[Ou.ok,startO];omega
theorem inF_ok (o:Nn):(inF o).ok:=by
 obtain⟨a,b,c,d,m⟩:=o;simp only[inF];by_cases h:soundB ⟨a,b,c,d,m⟩=true
 ·rw[if_pos h];rw[soundB_mk]at h;exact h
 ·rw[if_neg h];have:=bnd_ok m;simp only[Nn.ok,startI];omega
theorem kindB_is {k:Int}(h:kindB k=true):k=0∨k=1∨k=2∨k=3:=by
 simp only[kindB,Bool.and_eq_true,decide_eq_true_iff]at h;omega
end Go.Nonce
namespace Go.G
theorem zhj :∀(g:List Key) (l:List Res) (k:Key),getR (g.foldl zcq l) k=if k∈g then none else getR l k
 |[],l,k=>by simp
 |q::g,l,k=>by
  rw[List.foldl_cons,zhj g,zxm];by_cases h:k∈g
  ·simp[h]
  ·by_cases e:q=k
   ·subst e;simp
   ·have:¬k=q:=fun e'=>e e'.symm;simp[h,e,this]
def zqg (l:List Res)(k:Key):Option Res:=l.reverse.find? fun r=>decide (r.key=k)
theorem zj4 :∀(a l:List Res) (k:Key),getR (a.foldl zfk l) k=match zqg a k with|some r=>some r|none=>getR l k
 |[],l,k=>by simp[zqg]
 |m::a,l,k=>by
  rw[List.foldl_cons,zj4 a];unfold zqg;rw[List.reverse_cons,List.find?_append];cases h:a.reverse.find? _ with
  |some x=>rfl
  |none=>
   simp only[Option.none_or];rw[qjd];by_cases e:m.key=k<;>simp[e]
theorem zh0 (l a:List Res)(g:List Key)(k:Key):getR (zak l a g) k=match zqg a k with|some r=>some r|none=>if k∈g then none else getR l k:=by
 unfold zak;rw[zj4,zhj]
theorem zgc {l:List Res}(h:AscR l)(p:Res→Bool):AscR (l.filter p):=by
 unfold AscR Asc at*;exact h.sublist ((List.filter_sublist).map _)
theorem qkd {l:List Res}(h:AscR l)(r:Res):AscR (zfk l r):=by
 have h1:=zgc h fun x=>decide (cmpK x.key r.key= -1);have h2:=zgc h fun x=>decide (cmpK x.key r.key=1);have a1:∀x∈(zju l r.key (-1)).map Res.key,cmpK x r.key= -1:=by
  intro x hx;obtain⟨a,ha,rfl⟩:=List.mem_map.1 hx;simpa using(List.mem_filter.1 ha).2
 have a2:∀x∈(zju l r.key 1).map Res.key,cmpK r.key x= -1:=by
  intro x hx;obtain⟨a,ha,rfl⟩:=List.mem_map.1 hx;have:cmpK a.key r.key=1:=by simpa using(List.mem_filter.1 ha).2
  rw[zi5,this]
 unfold zfk AscR Asc;rw[List.map_append,List.map_append,List.pairwise_append,List.pairwise_append];refine⟨⟨h1,by simp,?_⟩,h2,?_⟩
 ·intro x hx y hy;have:y=r.key:=by simpa using hy
  rw[this];exact a1 x hx
 ·intro x hx y hy;rcases List.mem_append.1 hx with h|h
  ·exact zdg (a1 x h) (a2 y hy)
  ·have:x=r.key:=by simpa using h
   rw[this];exact a2 y hy
theorem zm4 {l:List Res}(h:AscR l)(a:List Res)(g:List Key):AscR (zak l a g):=by
 unfold zak;have h1:∀(g:List Key) (l:List Res),AscR l→AscR (g.foldl zcq l):=by
  intro g;induction g with
  |nil=>exact fun _ h=>h
  |cons q g ih=>exact fun l h=>ih _ (zgc h _)
 have h2:∀(a l:List Res),AscR l→AscR (a.foldl zfk l):=by
  intro a;induction a with
  |nil=>exact fun _ h=>h
  |cons q g ih=>exact fun l h=>ih _ (qkd h _)
 exact h2 _ _ (h1 _ _ h)
theorem qn7 {a b:List Res}(ha:AscR a)(hb:AscR b)(h:∀k,getR a k=getR b k):a=b:=by
 have hk:a.map Res.key=b.map Res.key:=zjp ha hb fun k=>by rw[mem_keys,mem_keys,h]
 refine List.ext_getElem? fun i=>?_;have hi:=congrArg (fun l=>l[i]?) hk;simp only[List.getElem?_map]at hi;cases e1:a[i]? with
 |none=>
  cases e2:b[i]? with
  |none=>rfl
  |some y=>simp[e1,e2]at hi
 |some x=>
  cases e2:b[i]? with
  |none=>simp[e1,e2]at hi
  |some y=>
   simp only[e1,e2,Option.map_some,Option.some.injEq]at hi;have g1:=zbz ha (List.mem_of_getElem? e1);have g2:=zbz hb (List.mem_of_getElem? e2);rw[←hi,←h,g1]at g2;exact g2
theorem getR_none {l:List Res}{k:Key}:getR l k=none↔∀r∈l,¬r.key=k:=by
 unfold getR;rw[List.find?_eq_none];simp
theorem lastR_none {l:List Res}{k:Key}:zqg l k=none↔∀r∈l,¬r.key=k:=by
 unfold zqg;rw[List.find?_eq_none];simp
theorem qd6 {l:List Res}{k:Key}{r:Res}(h:zqg l k=some r):r∈l∧r.key=k:=by
 unfold zqg at h;exact⟨by simpa using List.mem_of_find?_eq_some h,by simpa using List.find?_some h⟩
theorem qiu {l:List Res}(h:AscR l)(k:Key):zqg l k=getR l k:=by
 cases e:zqg l k with
 |none=>exact(getR_none.2 (lastR_none.1 e)).symm
 |some r=>
  obtain⟨h1,h2⟩:=qd6 e;rw[←h2,zbz h h1]
theorem mem_diffG {a b:List Res}{k:Key}:k∈zf9 a b↔(getR a k).isSome=true∧getR b k=none:=by
 unfold zf9;rw[List.mem_filter,mem_keys];cases getR b k<;>simp
theorem qdv {a b:List Res}(ha:AscR a)(hb:AscR b):zak a (zem a b) (zf9 a b)=b:=by
 have hd:AscR (zem a b):=zgc hb _;refine qn7 (zm4 ha _ _) hb fun k=>?_;rw[zh0,qiu hd];have mem:∀r,r∈zem a b↔r∈b∧¬getR a r.key=some r:=fun r=>by simp[zem,List.mem_filter]
 cases hbk:getR b k with
 |none=>
  have h1:getR (zem a b) k=none:=getR_none.2 fun r hr=>getR_none.1 hbk r ((mem r).1 hr).1;simp only[h1];split
  ·rfl
  ·rename_i h;cases h2:getR a k with
   |none=>rfl
   |some x=>exact absurd (mem_diffG.2 ⟨by rw[h2];rfl,hbk⟩) h
 |some r=>
  have hr:=zce hbk;have hk:=zfs hbk;by_cases h:getR a k=some r
  ·have h1:getR (zem a b) k=none:=getR_none.2 fun x hx e=>by
    obtain⟨q1,q2⟩:=(mem x).1 hx;have:=zbz hb q1;rw[e,hbk]at this;cases this;rw[e]at q2;exact q2 h
   have h2:k∉zf9 a b:=fun hm=>by have:=(mem_diffG.1 hm).2;rw[hbk]at this;cases this
   simp only[h1,if_neg h2,h]
  ·have:r∈zem a b:=(mem r).2 ⟨hr,by rw[hk];exact h⟩;have:=zbz hd this;rw[hk]at this;simp only[this]
def ziq (now:List Res)(v:Int)(r:Res):Res:={r with ver:=match getR now r.key with
 |some o=>if za9 o r then o.ver else v
 |none=>v}
theorem zmn (now l:List Res)(v:Int):zch now l v=l.map (ziq now v):=rfl
theorem qdh (now:List Res)(v:Int)(r:Res):(ziq now v r).key=r.key:=rfl
theorem zy0 (now:List Res)(v:Int)(r:Res):ziq now v (ziq now v r)=ziq now v r:=by
 show({ziq now v r with ver:=match getR now r.key with|some o=>if za9 o r then o.ver else v|none=>v}:Res)=ziq now v r;rfl
theorem qdf (now l:List Res)(v:Int):zch now (zch now l v) v=zch now l v:=by
 rw[zmn,zmn,List.map_map];exact List.map_congr_left fun r _=>zy0 now v r
theorem qdg {now:List Res}{v:Int}{o r:Res}(h:getR now r.key=some o)(ha:za9 o r=true):ziq now v r=o:=by
 unfold ziq;rw[h];simp only[ha,if_true];exact qcw ha
structure Hist (cap:Int)(h:List (List Res)):Prop where
 first:h[0]? =some []
 step:∀(i:Nat) now l,h[i]? =some now→h[i+1]? =some l→(∃p,l=zch now p ((i:Int)+1))∧zcx cap (i+1) now l=0
theorem Hist.asc {cap:Int}{h:List (List Res)}(hh:Hist cap h){i:Nat}{l:List Res}(hl:h[i]? =some l):AscR l:=by
 cases i with
 |zero=>rw[hh.first]at hl;cases hl;simp
 |succ i=>
  have hi:i<h.length:=by have:=(List.getElem?_eq_some_iff.1 hl).1;omega
  exact zcc (zqs (hh.step i h[i] l (List.getElem?_eq_getElem hi) hl).2)
theorem zr9 {cap:Int}{h:List (List Res)}{i:Nat}{now:List Res}(hn:h[i]? =some now):zbf ⟨cap,h.take (i+1)⟩=now:=by
 unfold zbf;rw[List.getLastD_eq_getLast?,zxf hn];rfl
theorem qsy {cap:Int}{h:List (List Res)}(hh:Hist cap h):∀(m i:Nat),i+1+m=h.length→zni ⟨cap,h.take (i+1)⟩ (h.drop (i+1))=true:=by
 intro m;induction m with
 |zero=>intro i hi;rw[List.drop_eq_nil_of_le (by omega)];rfl
 |succ m ih=>
  intro i hi;have h0:i<h.length:=by omega
  have h1:i+1<h.length:=by omega
  have e0:h[i]? =some h[i]:=List.getElem?_eq_getElem h0;have e1:h[i+1]? =some h[i+1]:=List.getElem?_eq_getElem h1;have hl:zbf ⟨cap,h.take (i+1)⟩=h[i]:=zr9 e0;obtain⟨⟨p,hp⟩,hc⟩:=hh.step i _ _ e0 e1;have hlen:(h.take (i+1)).length=i+1:=by simp;omega
  have hN:ziv ⟨cap,h.take (i+1)⟩ (zem h[i] h[i+1]) (zf9 h[i] h[i+1])=h[i+1]:=by
   unfold ziv;rw[hl,qdv (hh.asc e0) (hh.asc e1)];simp only[hlen];have:((i+1:Nat):Int)=(i:Int)+1:=by omega
   rw[this,hp,qdf]
  have hE:zif ⟨cap,h.take (i+1)⟩ (zem h[i] h[i+1]) (zf9 h[i] h[i+1])=0:=by
   unfold zif;rw[hN,hl];simp only[hlen];exact hc
  rw[List.drop_eq_getElem_cons h1];simp only[zni,hl,hE,hN,decide_true,Bool.true_and];have:=ih (i+1) (by omega)
  rwa[List.take_add_one,e1]at this
theorem qjc {cap:Int}:∀(r h:List (List Res)),Hist cap h→zni ⟨cap,h⟩ r=true→Hist cap (h++r)
 |[],h,hh,_=>by simpa using hh
 |l::r,h,hh,hs=>by
  simp only[zni,Bool.and_eq_true,decide_eq_true_eq]at hs;obtain⟨⟨h1,h2⟩,h3⟩:=hs;have h0:0<h.length:=(List.getElem?_eq_some_iff.1 hh.first).1;have hn:Hist cap (h++[l]):=by
   refine⟨by rw[List.getElem?_append_left h0];exact hh.first,fun i now l' e1 e2=>?_⟩;have hi:i+1<(h++[l]).length:=(List.getElem?_eq_some_iff.1 e2).1;simp only[List.length_append,List.length_cons,List.length_nil]at hi;rw[List.getElem?_append_left (by omega)]at e1;by_cases hlt:i+1<h.length
   ·rw[List.getElem?_append_left hlt]at e2;exact hh.step i now l' e1 e2
   ·have hie:i+1=h.length:=by omega
    rw[List.getElem?_append_right (by omega),hie]at e2;simp at e2;subst e2;have hl:zbf ⟨cap,h⟩=now:=by
     have:=zr9 (cap:=cap) e1
     rwa[hie,List.take_length]at this
    have hE:=h1;unfold zif at hE;rw[h2,hl]at hE;refine⟨⟨zak now (zem now l) (zf9 now l),?_⟩,by rw[hie];exact hE⟩;unfold ziv at h2;rw[hl]at h2;have:((h.length:Nat):Int)=(i:Int)+1:=by omega
    simp only[this]at h2;exact h2.symm
  have:=qjc r (h++[l]) hn h3;simpa using this
theorem qb5 (cap:Int):Hist cap [[]]:=⟨rfl,fun i now l h1 h2=>by simp at h2⟩
theorem zcd (s:Store):sanS s=true↔s.cap=capN s.cap∧s.hist.length≤100000∧Hist s.cap s.hist:=by
 constructor
 ·intro h;simp only[sanS,Bool.and_eq_true,decide_eq_true_eq]at h;obtain⟨⟨⟨⟨h1,h2⟩,h3⟩,h4⟩,h5⟩:=h;refine⟨h1,h3,?_⟩;cases hh:s.hist with
  |nil=>rw[hh]at h2;simp at h2
  |cons a t=>
   rw[hh]at h4 h5;simp only[List.headD_cons]at h4;subst h4;have:=qjc (cap:=s.cap) t [[]] (qb5 _) (by
    have e:newS s.cap=⟨s.cap,[[]]⟩:=by unfold newS;rw[←h1]
    rw[e]at h5;simpa using h5)
   simpa using this
 ·rintro⟨h1,h2,h3⟩;have h0:0<s.hist.length:=(List.getElem?_eq_some_iff.1 h3.first).1;have hg:=qsy h3 (s.hist.length-1) 0 (by omega);have e:s.hist.take (0+1)=[[]]:=by
   rw[List.take_add_one,h3.first];rfl
  rw[e]at hg;have hd:s.hist.headD []=[]:=by
   have:=h3.first;cases hh:s.hist with
   |nil=>rfl
   |cons a t=>rw[hh]at this;simpa using this
  have e2:newS s.cap=⟨s.cap,[[]]⟩:=by unfold newS;rw[←h1]
  have a1:1≤s.hist.length:=by omega
  simp only[sanS,decide_eq_true h1,decide_eq_true a1,decide_eq_true h2,decide_eq_true hd,e2,Bool.true_and];simpa using hg
theorem Hist.snoc {cap:Int}{h:List (List Res)}(hh:Hist cap h){p:List Res}{now:List Res}(hn:h[h.length-1]? =some now)(hc:zcx cap h.length now (zch now p h.length)=0):Hist cap (h++[zch now p h.length]):=by
 have h0:0<h.length:=(List.getElem?_eq_some_iff.1 hh.first).1;refine⟨by rw[List.getElem?_append_left h0];exact hh.first,fun i now' l' e1 e2=>?_⟩;have hi:i+1<(h++[zch now p h.length]).length:=(List.getElem?_eq_some_iff.1 e2).1;simp only[List.length_append,List.length_cons,List.length_nil]at hi;rw[List.getElem?_append_left (by omega)]at e1;by_cases hlt:i+1<h.length
 ·rw[List.getElem?_append_left hlt]at e2;exact hh.step i now' l' e1 e2
 ·have hie:i+1=h.length:=by omega
  rw[List.getElem?_append_right (by omega),hie]at e2;simp at e2;subst e2;have:i=h.length-1:=by omega
  rw[this,hn]at e1;cases e1;have e3:((h.length:Nat):Int)=(i:Int)+1:=by omega
  exact⟨⟨p,by rw[←e3]⟩,by rw[hie];exact hc⟩
theorem zqf {s:Store}(h:0<s.hist.length):s.hist[s.hist.length-1]? =some (zbf s):=by
 unfold zbf;rw[List.getLastD_eq_getLast?,←List.getLast?_eq_getElem?];cases e:s.hist.getLast? with
 |none=>rw[List.getLast?_eq_none_iff]at e;rw[e]at h;simp at h
 |some x=>rfl
theorem qte {cap:Int}{n:Nat}{now next:List Res}(h:zcx cap n now next=0):n<100000:=by
 unfold zcx at h
 repeat' (split at h<;>first| (simp at h;done)|skip)
 all_goals first|omega| (rename_i h1;exact absurd h h1)|skip
theorem zez {s:Store}(h:sanS s=true)(adds:List Res)(gone:List Key):sanS (zgz s adds gone)=true:=by
 unfold zgz;split
 ·rename_i he;obtain⟨h1,h2,h3⟩:=(zcd s).1 h;have h0:0<s.hist.length:=(List.getElem?_eq_some_iff.1 h3.first).1;have hn:=qte he;exact(zcd _).2 ⟨h1,by simp;omega,h3.snoc (zqf h0) he⟩
 ·exact h
theorem qlj {s:Store}(h:sanS s=true):s.cap=capN s.cap:=((zcd s).1 h).1
theorem ztk {s:Store}(h:sanS s=true):0<s.hist.length:=(List.getElem?_eq_some_iff.1 ((zcd s).1 h).2.2.first).1
theorem zde {s:Store}(h:sanS s=true):za5 s=s:=by
 have h0:=ztk h;rw[zmi (by intro e;rw[e]at h0;simp at h0),←qlj h]
theorem qli (n:Int):sanS (newS n)=true:=(zcd _).2 ⟨by simp[newS,zl9],by simp[newS],qb5 _⟩
structure Acc (cap:Int)(l:List Res):Prop where
 tab:tabE l=0
 len:(l.length:Int)≤cap
 miss:(zra l).length=0
 served:zbj l=0
theorem qj5 {cap:Int}{n:Nat}{now next:List Res}(h:zcx cap n now next=0):Acc cap next∧¬now=next:=by
 have ht:=zqs h;unfold zcx at h;rw[if_pos ht]at h;split at h
 ·simp at h
 ·rename_i h1;split at h
  ·simp at h
  ·rename_i h2;split at h
   ·simp at h
   ·rename_i h3;split at h
    ·simp at h
    ·rename_i h4;exact⟨⟨ht,by omega,by omega,by omega⟩,h4⟩
theorem zrs :zbj []=0:=by decide+kernel
theorem qt4 {cap:Int}(h:0≤cap):Acc cap []:=⟨by decide+kernel,by simpa using h,by decide+kernel,zrs⟩
theorem zo2 (n:Int):0≤capN n∧capN n≤64:=by unfold capN;omega
theorem Hist.acc {cap:Int}(hc:0≤cap){h:List (List Res)}(hh:Hist cap h){i:Nat}{l:List Res}(hl:h[i]? =some l):Acc cap l:=by
 cases i with
 |zero=>rw[hh.first]at hl;cases hl;exact qt4 hc
 |succ i=>
  have hi:i<h.length:=by have:=(List.getElem?_eq_some_iff.1 hl).1;omega
  exact(qj5 (hh.step i h[i] l (List.getElem?_eq_getElem hi) hl).2).1
theorem qa4 {s:Store}(h:sanS s=true):Acc s.cap (zbf s):=by
 obtain⟨h1,h2,h3⟩:=(zcd s).1 h;have h0:=ztk h;exact h3.acc (by have:=zo2 s.cap;omega) (zqf h0)
structure VerAt (h:List (List Res))(i:Nat)(r:Res):Prop where
 is:∃j m y,r.ver=((j+1:Nat):Int)∧j+1≤i∧h[j+1]? =some m∧getR m r.key=some r∧h[j]? =some y∧∀o,getR y r.key=some o→za9 o r=false
theorem Hist.ver {cap:Int}{h:List (List Res)}(hh:Hist cap h):∀(i:Nat) (l:List Res),h[i]? =some l→∀r∈l,VerAt h i r
 |0,l,hl,r,hr=>by rw[hh.first]at hl;cases hl;simp at hr
 |i+1,l,hl,r,hr=>by
  have hi:i<h.length:=by have:=(List.getElem?_eq_some_iff.1 hl).1;omega
  have e0:h[i]? =some h[i]:=List.getElem?_eq_getElem hi;obtain⟨⟨p,hp⟩,hc⟩:=hh.step i _ _ e0 hl;have hasc:=hh.asc hl;have hg:=zbz hasc hr;rw[hp,zmn]at hr;obtain⟨q,hq,rfl⟩:=List.mem_map.1 hr;by_cases hold:∃o,getR h[i] q.key=some o∧za9 o q=true
  ·obtain⟨o,ho,ha⟩:=hold;rw[qdg ho ha];obtain⟨j,m,y,h1,h2,h3⟩:=(hh.ver i _ e0 o (zce ho)).is;exact⟨j,m,y,h1,by omega,h3⟩
  ·have hv:(ziq h[i] ((i:Int)+1) q).ver=(i:Int)+1:=by
    unfold ziq;cases ho:getR h[i] q.key with
    |none=>rfl
    |some o=>
     have:¬za9 o q=true:=fun ha=>hold ⟨o,ho,ha⟩;simp[this]
   refine⟨i,l,h[i],by rw[hv];omega,Nat.le_refl _,hl,hg,e0,fun o ho=>?_⟩;rw[qdh]at ho;cases ha:za9 o q with
   |false=>exact ha
   |true=>exact absurd ⟨o,ho,ha⟩ hold
def bare (r:Res):Res:={r with ver:=0}
@[simp] theorem bare_key (r:Res):(bare r).key=r.key:=rfl
def stepR (l:List Res)(out:List Key)(q:Key):List Key:=if(getR l q).isSome=true∧q∉out then out++[q]else out
def zqy (l:List Res)(out:List Key)(k:Key):Prop:=∀r,getR l k=some r→∀q∈zbs r,(getR l q).isSome=true→q∈out
theorem zva (l:List Res)(n:Nat)(out:List Key)(k:Key)(h:(getR l k).isSome=true):k∈zbc l (n+1) out k:=by
 unfold zbc;obtain⟨r,hr⟩:=Option.isSome_iff_exists.1 h;rw[hr];simp only;split
 ·assumption
 ·exact zjl (zfx l n) _ _ _ (by simp)
theorem zna (l:List Res):∀(n:Nat) (out:List Key) (k:Key),zkk l out<n→∀x∈zbc l n out k,x∉out→zqy l (zbc l n out k) x
 |0,_,_,h=>by omega
 |n+1,out,k,h=>by
  intro x hx hno;unfold zbc at hx⊢;cases hr:getR l k with
  |none=>rw[hr]at hx;exact absurd hx hno
  |some r=>
   rw[hr]at hx;simp only at hx⊢;by_cases hk:k∈out
   ·rw[if_pos hk]at hx;exact absurd hx hno
   ·rw[if_neg hk]at hx⊢;have hlt:zkk l (out++[k])<n:=by
     have:=qip (l:=l) (out:=out) (k:=k) (mem_keys.2 (by rw[hr];rfl)) hk;omega
    have key:∀(m:List Key) (o:List Key),zkk l o<n→(∀q∈m,(getR l q).isSome=true→q∈m.foldl (zbc l n) o)∧∀x∈m.foldl (zbc l n) o,x∉o→zqy l (m.foldl (zbc l n) o) x:=by
     intro m;induction m with
     |nil=>exact fun o _=>⟨fun q hq=>by simp at hq,fun x hx hn=>absurd hx hn⟩
     |cons q m ih=>
      intro o ho;rw[List.foldl_cons];have hle:zkk l (zbc l n o q)<n:=by
       have:=zzr (l:=l) (a:=o) (b:=zbc l n o q) (fun x hx=>zfx l n o q x hx);omega
      obtain⟨i1,i2⟩:=ih _ hle;have hsub:∀x,x∈zbc l n o q→x∈m.foldl (zbc l n) (zbc l n o q):=fun x hx=>zjl (zfx l n) m _ x hx;refine⟨fun p hp hs=>?_,fun x hx hn=>?_⟩
      ·rcases List.mem_cons.1 hp with e|e
       ·subst e;cases n with
        |zero=>omega
        |succ n=>exact hsub _ (zva l n o _ hs)
       ·exact i1 p e hs
      ·by_cases hv:x∈zbc l n o q
       ·intro r hr p hp hs;exact hsub _ (zna l n o q ho x hv hn r hr p hp hs)
       ·exact i2 x hx hv
    obtain⟨k1,k2⟩:=key (zbs r) (out++[k]) hlt;by_cases hxk:x=k
    ·subst hxk;intro r' hr' q hq hs;rw[hr]at hr';cases hr';exact k1 q hq hs
    ·exact k2 x hx (by simp[hno,hxk])
theorem zq9 (l:List Res):∀x∈zeu l,zqy l (zeu l) x:=by
 have key:∀(m o:List Key),(∀x∈o,zqy l o x)→∀x∈m.foldl (zbc l (l.length+1)) o,zqy l (m.foldl (zbc l (l.length+1)) o) x:=by
  intro m;induction m with
  |nil=>exact fun o h=>h
  |cons q m ih=>
   intro o h;rw[List.foldl_cons];refine ih _ fun x hx=>?_;by_cases hn:x∈o
   ·intro r hr p hp hs;exact zfx l _ o q p (h x hn r hr p hp hs)
   ·exact zna l _ o q (by have:=qbx l o;omega) x hx hn
 exact key _ [] (fun x hx=>by simp at hx)
theorem zv7 {l:List Res}{k:Key}(h:k∈zk5 l):k∈zeu l:=by
 have key:∀(m o:List Key),k∈m→k∈m.foldl (zbc l (l.length+1)) o:=by
  have hs:(getR l k).isSome=true:=by
   obtain⟨r,hr,rfl⟩:=List.mem_map.1 h;exact mem_keys.1 (List.mem_map.2 ⟨r,(List.mem_filter.1 hr).1,rfl⟩)
  intro m;induction m with
  |nil=>intro o h;simp at h
  |cons q m ih=>
   intro o hm;rw[List.foldl_cons];rcases List.mem_cons.1 hm with e|e
   ·subst e;exact zjl (zfx l _) m _ _ (zva l _ o _ hs)
   ·exact ih _ e
 exact key _ [] h
theorem zpb {l:List Res}(h:tabE l=0){r:Res}(hr:r∈l):zbd r=0:=by
 have h1:zdb l=0:=by
  unfold tabE at h;split at h
  ·simp at h
  ·split at h
   ·assumption
   ·exact h
 unfold zdb at h1;cases e:l.find? (fun r=>!decide (zbd r=0))with
 |none=>
  have:=List.find?_eq_none.1 e r hr;simpa using this
 |some x=>
  rw[e]at h1;have:=List.find?_some e;simp at this;exact absurd h1 this
theorem qfo {l:List Res}(h:tabE l=0):(zwd l).Nodup:=by
 unfold tabE at h;split at h
 ·simp at h
 ·split at h
  ·split at h
   ·simp at h
   ·split at h
    ·assumption
    ·simp at h
  ·rename_i h2;exact absurd h h2
open Go.AI
def okK (k:Key):Bool:=rngB k.kind 3&&zda k.name
def zcn (f:Frame):Bool:=
 (decide (f.adds.length≤64)&&decide (f.gone.length≤64)&&decide (f.have_.length≤64)&&decide (f.held.length≤64))
   &&(f.have_.all fun m=>rngB m.ver 2147483647)&&rngB f.epoch 2147483647&&rngB f.nonce 2147483647&&rngB f.turn 2147483647&&rngB f.err 15
def zjy (f:Frame):Frame:=
 if f.type=0 then{f with epoch:=0,have_:=[]}
 else if f.type=1 then{f with epoch:=0,kind:=0,nonce:=0,adds:=[],gone:=[]}
 else if f.type=2 then{f with epoch:=0,kind:=0,nonce:=0,err:=0,turn:=0,held:=[]}
 else if f.type=3 then{f with epoch:=0,turn:=0,held:=[]}
 else{f with epoch:=0}
def zf1 (f:Frame):Bool:=decide (zjy f={zFrame with type:=f.type})
def zcp (f:Frame):Bool:=f.gone.all okK&&f.held.all okK&&f.have_.all fun m=>okK m.k
def zkm (f:Frame):Bool:=(f.adds.all fun r=>decide (r.kind=f.kind))&&f.gone.all fun k=>decide (k.kind=f.kind)
def za4 (f:Frame):Int:=
 if(rngB f.type 3&&rngB f.kind 3)=false then 4 else if zcn f=false then 3 else if zf1 f=false then 2 else if zcp f=false then 5
 else if¬zdb f.adds=0 then zdb f.adds else if zkm f=false then 2 else 0
@[simp] def ouC (o:Nonce.Ou):List D:=[iD o.l0,iD o.l1,iD o.l2,iD o.l3,bD o.o0,bD o.o1,bD o.o2,bD o.o3,iD o.m]
structure Sess where
 epoch:Int
 greeted:Bool
 out:Nonce.Ou
 v:View
 stuck:Int
 at_:Int
 deriving DecidableEq
@[simp] def zfb (s:Sess):List D:=[iD s.epoch,bD s.greeted]++ouC s.out++zvb s.v++[iD s.stuck,iD s.at_]
structure OkSess (s:Sess):Prop where
 v:OkView s.v
def zView :View:=⟨[],[],0,zFrame,false⟩
def zcs (epoch most:Int):Sess:=⟨max 0 (min epoch 2147483647),false,Nonce.startO most,zView,0,0⟩
def zd2 (v:View):Frame:=⟨0,0,0,0,0,[],[],0,ze0 v.have_,[]⟩
def ze8 (v:View):Frame:=⟨3,0,0,0,v.turn,[],[],0,[],v.held⟩
def zvt (v:View):Bool:=decide (za4 (zd2 v)=0)&&decide (za4 (ze8 v)=0)
def zbl (s:Sess):Bool:=
 s.greeted&&decide (za4 s.v.push=0)&&decide (s.v.push.type=1)&&decide (s.v.push.epoch=s.epoch)
  &&s.out.open' s.v.push.kind&&decide (s.out.last s.v.push.kind=s.v.push.nonce)
def zd1 (s:Sess):Bool:=rngB s.epoch 2147483647&&decide (0≤s.at_)&&rngB s.stuck 15
def zbr (s:Sess):Bool:=zd1 s&&Nonce.goodB s.out&&zvt s.v&&(!s.v.open_||zbl s)
def zbm (s:Sess):Sess:=if zbr s then s else zcs s.epoch s.out.m
def nowL (p:Store):List Res:=zbf (za5 p)
def nowI (p:Store):Int:=((za5 p).hist.length:Int)-1
def zj3 (p:Store)(v:View)(l:List Mark):View:={v with have_:=zd6 p l,held:=if v.turn=0 then(zd6 p l).map Res.key else v.held}
def zf7 (s:Sess)(p:Store)(f:Frame):Sess×Int:=if s.greeted=true then(s,9)else({s with greeted:=true,v:=zj3 p s.v f.have_},0)
def ackH (s:Sess)(p:Store)(f:Frame):Sess×Int:=
 if¬(Nonce.done s.out f.kind f.nonce).2=0 then(s,(Nonce.done s.out f.kind f.nonce).2)else if s.v.open_=false then(s,15)
 else if(ansV s.v f).open_=true then(s,11)else if 64<(ansV s.v f).have_.length then(s,3)
 else(⟨s.epoch,s.greeted,(Nonce.done s.out f.kind f.nonce).1,ansV s.v f,f.err,nowI p⟩,0)
def zj5 (s:Sess)(f:Frame):Sess×Int:=({s with v:=zai s.v f.turn f.held},0)
def zcj (s:Sess)(p:Store)(f:Frame):Sess×Int:=
 if¬za4 f=0 then(s,za4 f)else if¬f.epoch=s.epoch then(s,11)
 else if f.type=0 then zf7 s p f else if f.type=1 then(s,2)else if f.type=2 then ackH s p f else zj5 s f
def handle (s:Sess)(p:Store)(f:Frame):Sess×Int:=zcj (zbm s) p f
structure Step where
 kind:Int
 adds:List Res
 gone:List Key
 deriving DecidableEq
@[simp] def zyx (s:Step):List D:=[iD s.kind,lD (s.adds.map resC),lD (s.gone.map keyC)]
def zkl (l:List Res)(n:Int):List Res:=l.filter fun r=>decide (r.kind=n)
def zig (l:List Key)(n:Int):List Key:=l.filter fun k=>decide (k.kind=n)
structure Job where
 adds:List Res
 gone:List Key
 reach:List Key
 have_:List Res
 held:List Key
def zhp (hv want:List Res)(held:List Key):Job:=⟨zem hv want,zf9 hv want,(zau want).map Res.key,hv,held⟩
def Job.early (j:Job)(n:Int):Step:=⟨n,(zkl j.adds n).filter fun r=>decide (r.key∈j.reach),[]⟩
def Job.late (j:Job)(n:Int):Step:=⟨n,zkl j.adds n,[]⟩
def Job.off (j:Job)(n:Int):Step:=⟨n,[],zig j.gone n⟩
def Job.freeK (j:Job)(k:Key):Bool:=!(decide (k∈j.held)||decide (0<(zmu j.have_ k).length))
def Job.free (j:Job)(n:Int):Step:=⟨n,[],(zig j.gone n).filter j.freeK⟩
def Job.doors (j:Job)(n:Int):Step:=⟨n,zkl j.adds n,zig j.gone n⟩
def Step.none (s:Step):Bool:=decide (s.adds.length+s.gone.length=0)
def Job.steps (j:Job):List Step:=[j.early 3,j.early 2,j.early 1,j.doors 0,j.late 3,j.late 2,j.late 1,j.free 1,j.free 2,j.free 3]
def zlh (hv want:List Res)(held:List Key):Option Step:=(zhp hv want held).steps.find? fun s=>!s.none
def zfn (s:Sess)(x:Step)(n:Int):Frame:=⟨1,s.epoch,x.kind,n,0,x.adds,x.gone,0,[],[]⟩
def idle (s:Sess)(p:Store):Bool:=!s.greeted||s.v.open_|| (!decide (s.stuck=0)&&decide (s.at_=nowI p))
def zk9 (s:Sess)(x:Step):Sess×List Frame×Int:=
 if(Nonce.push s.out x.kind).2.2=0 then
  ({s with v:=zn5 s.v (zfn s x (Nonce.push s.out x.kind).2.1),out:=(Nonce.push s.out x.kind).1},[zfn s x (Nonce.push s.out x.kind).2.1],0)
 else(s,[],(Nonce.push s.out x.kind).2.2)
def zf3 (s:Sess)(p:Store):Sess×List Frame×Int:=
 if idle s p=true then(s,[],0)else
 match zlh s.v.have_ (nowL p) s.v.held with
 |.none=>(s,[],0)
 |.some x=>zk9 s x
def pump (s:Sess)(p:Store):Sess×List Frame×Int:=zf3 (zbm s) p
def zae (s:Sess):List Frame:=if(zbm s).v.open_=true then [(zbm s).v.push]else []
def zfl (s:Sess)(p:Store):Bool:=(zbm s).greeted&& !(zbm s).v.open_&&decide ((zbm s).v.have_=nowL p)
theorem firstE_zero {l:List Res}:zdb l=0↔∀r∈l,zbd r=0:=by
 unfold zdb;constructor
 ·intro h r hr;split at h
  ·rename_i x hx;have:=List.find?_some hx;simp[h]at this
  ·rename_i hx;have:=List.find?_eq_none.1 hx r hr;simpa using this
 ·intro h;have:l.find? (fun r=>!decide (zbd r=0))=none:=by rw[List.find?_eq_none];intro r hr;simp[h r hr]
  rw[this]
structure OkF (f:Frame):Prop where
 type:rngB f.type 3=true
 kind:rngB f.kind 3=true
 small:zcn f=true
 shaped:zf1 f=true
 named:zcp f=true
 adds:∀r∈f.adds,zbd r=0
 alike:zkm f=true
theorem frameE_zero {f:Frame}:za4 f=0↔OkF f:=by
 constructor
 ·intro h;unfold za4 at h
  (repeat' split at h)<;>first|omega|skip
  rename_i h1 h2 h3 h4 h5 h6;simp at h1 h2 h3 h4 h5 h6;exact⟨h1.1,h1.2,h2,h3,h4,firstE_zero.1 h5,h6⟩
 ·intro h;unfold za4;have:=firstE_zero.2 h.adds;simp[h.type,h.kind,h.small,h.shaped,h.named,this,h.alike]
theorem zcv {f:Frame}(h:zcn f=true):f.adds.length≤64∧f.gone.length≤64∧f.have_.length≤64∧f.held.length≤64∧(∀m∈f.have_,rngB m.ver 2147483647=true)∧rngB f.epoch 2147483647=true∧rngB f.nonce 2147483647=true∧rngB f.turn 2147483647=true∧rngB f.err 15=true:=by
 simp only[zcn,Bool.and_eq_true,decide_eq_true_eq,List.all_eq_true]at h;exact⟨h.1.1.1.1.1.1.1.1,h.1.1.1.1.1.1.1.2,h.1.1.1.1.1.1.2,h.1.1.1.1.1.2,h.1.1.1.1.2,h.1.1.1.2,h.1.1.2,h.1.2,h.2⟩
theorem hello_ok {v:View}:za4 (zd2 v)=0↔v.have_.length≤64∧∀r∈v.have_,rngB r.ver 2147483647=true∧okK r.key=true:=by
 rw[frameE_zero];constructor
 ·intro h;have h1:=zcv h.small;refine⟨by simpa[zd2]using h1.2.2.1,fun r hr=>⟨?_,?_⟩⟩
  ·exact h1.2.2.2.2.1 ⟨r.key,r.ver⟩ (List.mem_map.2 ⟨r,hr,rfl⟩)
  ·have:=h.named;simp only[zcp,zd2,Bool.and_eq_true,List.all_eq_true]at this;exact this.2 ⟨r.key,r.ver⟩ (List.mem_map.2 ⟨r,hr,rfl⟩)
 ·rintro⟨h1,h2⟩;refine⟨rfl,rfl,?_,rfl,?_,by simp[zd2],rfl⟩
  ·simp only[zcn,zd2,Bool.and_eq_true,decide_eq_true_eq,List.all_eq_true];refine⟨⟨⟨⟨⟨⟨⟨⟨by simp,by simp⟩,by simpa using h1⟩,by simp⟩,?_⟩,rfl⟩,rfl⟩,rfl⟩,rfl⟩;intro m hm;obtain⟨r,hr,rfl⟩:=List.mem_map.1 hm;exact(h2 r hr).1
  ·simp only[zcp,zd2,Bool.and_eq_true,List.all_eq_true];refine⟨⟨by simp,by simp⟩,fun m hm=>?_⟩;obtain⟨r,hr,rfl⟩:=List.mem_map.1 hm;exact(h2 r hr).2
theorem drain_ok {v:View}:za4 (ze8 v)=0↔v.held.length≤64∧rngB v.turn 2147483647=true∧∀k∈v.held,okK k=true:=by
 rw[frameE_zero];constructor
 ·intro h;have h1:=zcv h.small;refine⟨h1.2.2.2.1,h1.2.2.2.2.2.2.2.1,fun k hk=>?_⟩;have:=h.named;simp only[zcp,ze8,Bool.and_eq_true,List.all_eq_true]at this;exact this.1.2 k hk
 ·rintro⟨h1,h2,h3⟩;refine⟨rfl,rfl,?_,rfl,?_,by simp[ze8],rfl⟩
  ·simp only[zcn,ze8,Bool.and_eq_true,decide_eq_true_eq,List.all_eq_true];exact⟨⟨⟨⟨⟨⟨⟨⟨by simp,by simp⟩,by simp⟩,by first|exact h1|exact decide_eq_true h1⟩,by simp⟩,rfl⟩,rfl⟩,h2⟩,rfl⟩
  ·simp only[zcp,ze8,Bool.and_eq_true,List.all_eq_true];exact⟨⟨by simp,h3⟩,by simp⟩
structure SaneS (s:Sess):Prop where
 plain:zd1 s=true
 out:Nonce.goodB s.out=true
 hl:s.v.have_.length≤64
 have_:∀r∈s.v.have_,rngB r.ver 2147483647=true∧okK r.key=true
 dl:s.v.held.length≤64
 turn:rngB s.v.turn 2147483647=true
 held:∀k∈s.v.held,okK k=true
 waits:s.v.open_=true→zbl s=true
theorem saneS_iff {s:Sess}:zbr s=true↔SaneS s:=by
 constructor
 ·intro h;simp only[zbr,zvt,Bool.and_eq_true,decide_eq_true_eq]at h;obtain⟨⟨⟨h1,h2⟩,h3,h4⟩,h5⟩:=h;rw[hello_ok]at h3;rw[drain_ok]at h4;exact⟨h1,h2,h3.1,h3.2,h4.1,h4.2.1,h4.2.2,fun h=>by simpa[h]using h5⟩
 ·intro h;simp only[zbr,zvt,Bool.and_eq_true,decide_eq_true_eq];refine⟨⟨⟨h.plain,h.out⟩,hello_ok.2 ⟨h.hl,h.have_⟩,drain_ok.2 ⟨h.dl,h.turn,h.held⟩⟩,?_⟩;cases ho:s.v.open_ with
  |false=>rfl
  |true=>simpa using h.waits ho
theorem qed (n:Int):Nonce.goodB (Nonce.startO n)=true:=by
 have:=Nonce.bnd_ok n;simp only[Nonce.goodB,Nonce.startO,Nonce.Ou.toI,Bool.and_eq_true,Nonce.soundB_mk];refine⟨by simp,?_⟩;omega
theorem zis (e m:Int):zbr (zcs e m)=true:=by
 rw[saneS_iff];refine⟨?_,qed m,by simp[zcs,zView],by simp[zcs,zView],by simp[zcs,zView],by simp[zcs,zView,rngB],by simp[zcs,zView],by simp[zcs,zView]⟩;simp only[zd1,zcs,rngB,Bool.and_eq_true,decide_eq_true_eq];refine⟨⟨⟨?_,?_⟩,by simp⟩,by simp,by simp⟩<;>first|omega| (refine decide_eq_true ?_;omega)
theorem zph (s:Sess):zbr (zbm s)=true:=by
 unfold zbm;split
 ·assumption
 ·exact zis _ _
theorem zbx {s:Sess}(h:zbr s=true):zbm s=s:=by simp[zbm,h]
theorem zmv {o:Nonce.Ou}(h:Nonce.goodB o=true):Nonce.outF o=o:=by simp[Nonce.outF,h]
theorem qgs {r:Res}(h:zbd r=0):rngB r.ver 2147483647=true∧okK r.key=true:=by
 cases h1:rngB r.kind 3 with
 |false=>simp[zbd,h1]at h
 |true=>
  cases h2:zda r.name with
  |false=>simp[zbd,h1,h2]at h
  |true=>
   cases h3:zco r with
   |false=>simp[zbd,h1,h2,h3]at h
   |true=>
    refine⟨?_,by simp[okK,Res.key,h1,h2]⟩;simp only[zco,Bool.and_eq_true]at h3;exact h3.1.1.1.1.1
theorem qja {o:Nonce.Ou}(h:Nonce.goodB o=true)(k n:Int):Nonce.goodB (Nonce.done o k n).1=true:=by
 simp only[Nonce.done,zmv h];obtain⟨a,b,c,d,x,y,z,t,m⟩:=o;simp only[Nonce.doneQ];split
 ·exact h
 ·split
  ·exact h
  ·simp only[Nonce.Ou.set,Nonce.Ou.last];simp only[Nonce.goodB,Nonce.Ou.toI,Bool.and_eq_true]at h⊢
   (repeat' split)<;>simp_all
theorem qii {p:Store}{l:List Mark}{x:Res}(h:x∈zd6 p l):∃m∈l,x.key=m.k∧x.ver=m.ver:=by
 rcases zhx h with h|h
 ·cases h
 ·obtain⟨m,hm,rfl⟩:=List.mem_map.1 h;exact⟨m,hm,qrx p m,qrw p m⟩
theorem qmd (p:Store):0≤nowI p:=by
 have:0<(za5 p).hist.length:=by
  unfold za5;split
  ·simp[newS]
  ·rename_i h;exact List.length_pos_iff.2 h
 unfold nowI;omega
theorem rngB_iff {n m:Int}:rngB n m=true↔0≤n∧n≤m:=by simp[rngB]
theorem qcv {v:View}{f:Frame}{x:Res}(h:x∈(ansV v f).have_):x∈v.have_∨(v.open_=true∧x∈v.push.adds):=by
 unfold ansV at h;split at h
 ·exact Or.inl h
 ·rename_i ho;split at h
  ·exact Or.inl h
  ·simp only at h;split at h
   ·rcases ziz h with h|h
    ·exact Or.inl h
    ·exact Or.inr ⟨by simpa using ho,h⟩
   ·exact Or.inl h
theorem zh3 (v:View)(t:Int)(h:List Key):(zai v t h).held=(if v.turn<t then h else v.held)∧(zai v t h).turn=(if v.turn<t then t else v.turn):=by
 unfold zai;split<;>simp
theorem zuz (v:View)(f:Frame):((ansV v f).held=v.held∧(ansV v f).turn=v.turn)∨(v.turn<f.turn∧(ansV v f).held=f.held∧(ansV v f).turn=f.turn):=by
 unfold ansV;split
 ·exact Or.inl ⟨rfl,rfl⟩
 ·split
  ·exact Or.inl ⟨rfl,rfl⟩
  ·have:=zh3 ⟨v.have_,v.held,v.turn,zFrame,false⟩ f.turn f.held;simp only at this⊢;rw[this.1,this.2];split
   ·exact Or.inr ⟨by assumption,rfl,rfl⟩
   ·exact Or.inl ⟨rfl,rfl⟩
theorem zek {s:Sess}(p:Store)(f:Frame)(hs:zbr s=true):zbr (handle s p f).1=true:=by
 unfold handle;rw[zbx hs];unfold zcj;have S:=saneS_iff.1 hs;split
 ·exact hs
 ·rename_i hf;have F:=frameE_zero.1 (Decidable.not_not.1 hf);have L:=zcv F.small;split
  ·exact hs
  ·split
   ·unfold zf7;split
    ·exact hs
    ·rename_i hg;have hno:s.v.open_=false:=by
      cases ho:s.v.open_ with
      |false=>rfl
      |true=>
       have:=S.waits ho;simp only[zbl,Bool.and_eq_true]at this;exact absurd this.1.1.1.1.1 hg
     have hk:∀r∈zd6 p f.have_,rngB r.ver 2147483647=true∧okK r.key=true:=by
      intro r hr;obtain⟨m,hm,h1,h2⟩:=qii hr;have hn:=F.named;simp only[zcp,Bool.and_eq_true,List.all_eq_true]at hn;rw[h1,h2];exact⟨L.2.2.2.2.1 m hm,hn.2 m hm⟩
     have hl:(zd6 p f.have_).length≤64:=Nat.le_trans (zqh p _) L.2.2.1;rw[saneS_iff];refine⟨S.plain,S.out,hl,hk,?_,S.turn,?_,?_⟩
     ·simp only[zj3];split
      ·simpa using hl
      ·exact S.dl
     ·simp only[zj3];split
      ·intro k hk';obtain⟨r,hr,rfl⟩:=List.mem_map.1 hk';exact(hk r hr).2
      ·exact S.held
     ·intro ho;rw[show({s with greeted:=true,v:=zj3 p s.v f.have_}:Sess).v.open_=s.v.open_ from rfl,hno]at ho;cases ho
   ·split
    ·exact hs
    ·split
     ·unfold ackH;split
      ·exact hs
      ·split
       ·exact hs
       ·rename_i hop;split
        ·exact hs
        ·rename_i hcl;split
         ·exact hs
         ·rename_i h64;rw[saneS_iff];have hw:=S.waits (by simpa using hop);simp only[zbl,Bool.and_eq_true,decide_eq_true_eq]at hw;have P:=frameE_zero.1 hw.1.1.1.1.2;have hp:=S.plain;simp only[zd1,Bool.and_eq_true,decide_eq_true_eq]at hp;refine⟨?_,qja S.out _ _,by simpa using h64,?_,?_,?_,?_,?_⟩
          ·simp only[zd1,Bool.and_eq_true,decide_eq_true_eq];exact⟨⟨hp.1.1,qmd p⟩,L.2.2.2.2.2.2.2.2⟩
          ·intro r hr;rcases qcv hr with h|⟨_,h⟩
           ·exact S.have_ r h
           ·exact qgs (P.adds r h)
          ·rcases zuz s.v f with h|h
           ·rw[h.1];exact S.dl
           ·rw[h.2.1];exact L.2.2.2.1
          ·rcases zuz s.v f with h|h
           ·rw[h.2];exact S.turn
           ·rw[h.2.2];exact L.2.2.2.2.2.2.2.1
          ·rcases zuz s.v f with h|h
           ·rw[h.1];exact S.held
           ·rw[h.2.1];have hn:=F.named;simp only[zcp,Bool.and_eq_true,List.all_eq_true]at hn;exact hn.1.2
          ·intro ho;exact absurd ho hcl
     ·unfold zj5;rw[saneS_iff];have hd:=zh3 s.v f.turn f.held;refine⟨S.plain,S.out,by simpa using S.hl,by simpa using S.have_,?_,?_,?_,?_⟩
      ·simp only[hd.1];split
       ·exact L.2.2.2.1
       ·exact S.dl
      ·simp only[hd.2];split
       ·exact L.2.2.2.2.2.2.2.1
       ·exact S.turn
      ·simp only[hd.1];split
       ·have hn:=F.named;simp only[zcp,Bool.and_eq_true,List.all_eq_true]at hn;exact hn.1.2
       ·exact S.held
      ·intro ho;have:=S.waits (by simpa using ho);simpa[zbl]using this
theorem ziy (x m:Int)(hm:1≤m):((if 0<(if m<x then m else x)then(if m<x then m else x)else 0)=x)↔(0≤x∧x≤m):=by
 by_cases h:m<x<;>simp[h]<;>(try omega)
theorem zz0 {s:Sess}(p:Store)(f:Frame)(hs:zbr s=true):(handle s p f).1.v.push=s.v.push∨(handle s p f).1.v.push=zFrame:=by
 unfold handle;rw[zbx hs];unfold zcj zf7 ackH zj5 zj3
 (repeat' split)<;>first|exact Or.inl rfl|skip
 ·rcases qn9 s.v f with e|e
  ·exact Or.inl e
  ·exact Or.inr e
 ·exact Or.inl (qen _ _ _)
theorem qti (n:Int):(if 1<(if 2147483647<n then 2147483647 else n)then(if 2147483647<n then(2147483647:Int)else n)else 1)=Nonce.bnd n:=by
 unfold Nonce.bnd;by_cases h:2147483647<n
 ·simp[h];omega
 ·simp[h];omega
theorem qnd {l:List Int}{k:Nat}{x:Int}(h:(l.take k).all (fun e=>decide (e=0))=true)(hr:l[k]? =some x)(hx:¬x=0):(l.find? fun e=>!decide (e=0))=some x:=
 zum (k:=k) (x:=x) (by simpa using h) hr (by simpa using hx)
theorem qjj {l:List Int}(h:l.all (fun e=>decide (e=0))=true):(l.find? fun e=>!decide (e=0))=none:=
 zqm (by simpa using h)
theorem zm6 {α:Type}(l:List α)(p:α→Bool):(l.any fun x=>!p x)= !l.all p:=by
 induction l with
 |nil=>rfl
 |cons a l ih=>simp[ih,Bool.not_and]
theorem qtu {f:Frame}(h:OkFrame f):OkFrame (zjy f):=by
 have h0:OkRs []:=⟨by simp,by simp⟩;unfold zjy
 (repeat' split)<;>constructor<;>first|exact h.adds|exact h.gone|exact h.have_|exact h.held|exact h0|simp
theorem qfw (i:Nonce.Nn)(h:(decide ((if 0<(if i.m<i.l0 then i.m else i.l0)then(if i.m<i.l0 then i.m else i.l0)else 0)=i.l0)&&(decide ((if 0<(if i.m<i.l1 then i.m else i.l1)then(if i.m<i.l1 then i.m else i.l1)else 0)=i.l1)&&(decide ((if 0<(if i.m<i.l2 then i.m else i.l2)then(if i.m<i.l2 then i.m else i.l2)else 0)=i.l2)&&decide ((if 0<(if i.m<i.l3 then i.m else i.l3)then(if i.m<i.l3 then i.m else i.l3)else 0)=i.l3))))=true):decide (i.m=Nonce.bnd i.m)=Nonce.soundB i:=by
 obtain⟨a,b,c,d,m⟩:=i;simp only[Bool.and_eq_true,decide_eq_true_eq]at h;obtain⟨h0,h1,h2,h3⟩:=h;rw[Bool.eq_iff_iff];dsimp only at h0 h1 h2 h3⊢;rw[Nonce.soundB_mk];rw[decide_eq_true_iff];constructor
 ·intro hm0;have hm:=Nonce.bnd_ok m;rw[←hm0]at hm;have:=(ziy _ _ hm.1).1 h0;have:=(ziy _ _ hm.1).1 h1;have:=(ziy _ _ hm.1).1 h2;have:=(ziy _ _ hm.1).1 h3;clear h0 h1 h2 h3 hm0;omega
 ·intro hm;clear h0 h1 h2 h3;unfold Nonce.bnd;omega
theorem qk5 (i:Nonce.Nn)(h:(decide ((if 0<(if i.m<i.l0 then i.m else i.l0)then(if i.m<i.l0 then i.m else i.l0)else 0)=i.l0)&&(decide ((if 0<(if i.m<i.l1 then i.m else i.l1)then(if i.m<i.l1 then i.m else i.l1)else 0)=i.l1)&&(decide ((if 0<(if i.m<i.l2 then i.m else i.l2)then(if i.m<i.l2 then i.m else i.l2)else 0)=i.l2)&&decide ((if 0<(if i.m<i.l3 then i.m else i.l3)then(if i.m<i.l3 then i.m else i.l3)else 0)=i.l3))))=false):Nonce.soundB i=false:=by
 obtain⟨a,b,c,d,m⟩:=i;rw[Bool.eq_false_iff];intro hs;rw[Nonce.soundB_mk]at hs;obtain⟨a1,a2,a3,a4,a5,a6,a7,a8,a9,a10⟩:=hs;rw[Bool.eq_false_iff]at h;apply h;simp only[Bool.and_eq_true,decide_eq_true_eq];exact⟨(ziy _ _ a9).2 ⟨a1,a2⟩,(ziy _ _ a9).2 ⟨a3,a4⟩,(ziy _ _ a9).2 ⟨a5,a6⟩,(ziy _ _ a9).2 ⟨a7,a8⟩⟩
theorem zz2 (f:Frame):(([if(rngB f.type 3&&rngB f.kind 3)=true then 0 else 4,if zcn f=true then 0 else 3,if zf1 f=true then 0 else 2,if zcp f=true then 0 else 5,zdb f.adds,if zkm f=true then 0 else 2]:List Int).find? fun e=>!decide (e=0)).getD 0=za4 f:=by
 unfold za4;cases h1:(rngB f.type 3&&rngB f.kind 3)<;>cases h2:zcn f<;>cases h3:zf1 f<;>cases h4:zcp f<;>cases h6:zkm f<;>by_cases h5:zdb f.adds=0<;>simp[List.find?_cons,h5]
theorem qjp (n:Int):(if 0<(if 2147483647<n then 2147483647 else n)then(if 2147483647<n then(2147483647:Int)else n)else 0)=max 0 (min n 2147483647):=by
 by_cases h:2147483647<n
 ·simp[h];omega
 ·simp[h];omega
theorem qi5 (v:View)(h:v.have_.length≤9223372036854775807):OkFrame (zd2 v):=⟨⟨by simp[zd2],by simp[zd2]⟩,by simp[zd2],by simpa[zd2]using h,by simp[zd2]⟩
theorem rng3 {n:Int}(h:rngB n 3=true):n=0∨n=1∨n=2∨n=3:=by
 simp only[rngB,Bool.and_eq_true,decide_eq_true_eq]at h;omega
theorem zk8 {f:Frame}(h:za4 f=0):f.kind=0∨f.kind=1∨f.kind=2∨f.kind=3:=rng3 (frameE_zero.1 h).kind
theorem zv9 {f:Frame}(h:za4 f=0):f.type=0∨f.type=1∨f.type=2∨f.type=3:=rng3 (frameE_zero.1 h).type
structure StepOk (hv want:List Res)(held:List Key)(x:Step):Prop where
 kind:x.kind=0∨x.kind=1∨x.kind=2∨x.kind=3
 adds:∀r∈x.adds,r∈want∧r.kind=x.kind
 gone:∀k∈x.gone,k∈hv.map Res.key∧k.kind=x.kind
 al:x.adds.length≤want.length
 gl:x.gone.length≤hv.length
 some:0<x.adds.length+x.gone.length
 free:¬x.kind=0→∀k∈x.gone,k∉held∧(zmu hv k).length=0
theorem mem_kindL {l:List Res}{n:Int}{r:Res}:r∈zkl l n↔r∈l∧r.kind=n:=by simp[zkl]
theorem mem_kindG {l:List Key}{n:Int}{k:Key}:k∈zig l n↔k∈l∧k.kind=n:=by simp[zig]
theorem diffA_len (a b:List Res):(zem a b).length≤b.length:=List.length_filter_le _ _
theorem diffG_len (a b:List Res):(zf9 a b).length≤a.length:=Nat.le_trans (List.length_filter_le _ _) (by simp)
theorem zi1 (l:List Res)(n:Int):(zkl l n).length≤l.length:=List.length_filter_le _ _
theorem zlt (l:List Key)(n:Int):(zig l n).length≤l.length:=List.length_filter_le _ _
theorem zzg {hv want:List Res}{held:List Key}{x:Step}(h:zlh hv want held=.some x):StepOk hv want held x:=by
 have hs:=List.find?_some h;have hm:=List.mem_of_find?_eq_some h;have h0:0<x.adds.length+x.gone.length:=by
  simp only[Step.none,Bool.not_eq_true',decide_eq_false_iff_not]at hs;omega
 have hA:∀r n,r∈zkl (zem hv want) n→r∈want∧r.kind=n:=fun r n hr=>⟨(List.mem_filter.1 (mem_kindL.1 hr).1).1,(mem_kindL.1 hr).2⟩;have hG:∀k n,k∈zig (zf9 hv want) n→k∈hv.map Res.key∧k.kind=n:=fun k n hk=>⟨(List.mem_filter.1 (mem_kindG.1 hk).1).1,(mem_kindG.1 hk).2⟩;have lA:∀n,(zkl (zem hv want) n).length≤want.length:=fun n=>Nat.le_trans (zi1 _ _) (diffA_len _ _);have lG:∀n,(zig (zf9 hv want) n).length≤hv.length:=fun n=>Nat.le_trans (zlt _ _) (diffG_len _ _);have early:∀n,(n=0∨n=1∨n=2∨n=3)→x=(zhp hv want held).early n→StepOk hv want held x:=by
  rintro n hn rfl;exact⟨hn,fun r hr=>hA r n (List.mem_filter.1 hr).1,fun k hk=>(by cases hk),Nat.le_trans (List.length_filter_le _ _) (lA n),Nat.zero_le _,h0,fun _ k hk=>(by cases hk)⟩
 have late:∀n,(n=0∨n=1∨n=2∨n=3)→x=(zhp hv want held).late n→StepOk hv want held x:=by
  rintro n hn rfl;exact⟨hn,fun r hr=>hA r n hr,fun k hk=>(by cases hk),lA n,Nat.zero_le _,h0,fun _ k hk=>(by cases hk)⟩
 have free:∀n,(n=0∨n=1∨n=2∨n=3)→x=(zhp hv want held).free n→StepOk hv want held x:=by
  rintro n hn rfl;refine⟨hn,fun r hr=>(by cases hr),fun k hk=>hG k n (List.mem_filter.1 hk).1,Nat.zero_le _,Nat.le_trans (List.length_filter_le _ _) (lG n),h0,fun _ k hk=>?_⟩;have:=(List.mem_filter.1 hk).2;simp only[Job.freeK,Bool.not_eq_true',Bool.or_eq_false_iff]at this;have h1:=of_decide_eq_false this.1;have h2:=of_decide_eq_false this.2;simp only[zhp]at h1 h2;exact⟨h1,by omega⟩
 simp only[Job.steps,List.mem_cons,List.not_mem_nil,or_false]at hm;rcases hm with hm|hm|hm|hm|hm|hm|hm|hm|hm|hm
 ·exact early 3 (by simp) hm
 ·exact early 2 (by simp) hm
 ·exact early 1 (by simp) hm
 ·subst hm;exact⟨Or.inl rfl,fun r hr=>hA r 0 hr,fun k hk=>hG k 0 hk,lA 0,lG 0,h0,fun h=>absurd rfl h⟩
 ·exact late 3 (by simp) hm
 ·exact late 2 (by simp) hm
 ·exact late 1 (by simp) hm
 ·exact free 1 (by simp) hm
 ·exact free 2 (by simp) hm
 ·exact free 3 (by simp) hm
theorem qsl {n:Int}(h:n=0∨n=1∨n=2∨n=3):rngB n 3=true:=by
 rcases h with rfl|rfl|rfl|rfl<;>rfl
theorem qb1 {n:Int}(h:n=0∨n=1∨n=2∨n=3):Nonce.kindB n=true:=by
 rcases h with rfl|rfl|rfl|rfl<;>rfl
theorem zwa {o:Nonce.Ou}(h:Nonce.goodB o=true){k:Int}(hk:k=0∨k=1∨k=2∨k=3)(he:(Nonce.push o k).2.2=0):
  Nonce.goodB (Nonce.push o k).1=true∧rngB (Nonce.push o k).2.1 2147483647=true∧(Nonce.push o k).1.open' k=true∧(Nonce.push o k).1.last k=(Nonce.push o k).2.1:=by
 simp only[Nonce.push,zmv h]at he⊢;obtain⟨a,b,c,d,x,y,z,t,m⟩:=o;simp only[Nonce.goodB,Nonce.Ou.toI,Bool.and_eq_true,Nonce.soundB_mk]at h;simp only[Nonce.pushQ,qb1 hk]at he⊢;rcases hk with rfl|rfl|rfl|rfl<;>simp only[Nonce.Ou.open',Nonce.Ou.last,Nonce.Ou.set]at he⊢<;>
  ((repeat' split at he)<;>first| (exfalso;revert he;decide)|skip)<;>
  simp_all[Nonce.goodB,Nonce.Ou.toI,Nonce.soundB_mk,rngB]<;>omega
theorem qbf {hv want:List Res}{held:List Key}{x:Step}{s:Sess}{n:Int}(hx:StepOk hv want held x)(hS:SaneS s)(hv':hv=s.v.have_)(hw:tabE want=0)(hn:rngB n 2147483647=true):za4 (zfn s x n)=0:=by
 subst hv';have hwl:want.length≤64:=by
  unfold tabE at hw;split at hw
  ·cases hw
  ·omega
 have hp:=hS.plain;simp only[zd1,Bool.and_eq_true,decide_eq_true_eq]at hp;have hA:∀r∈x.adds,zbd r=0:=fun r hr=>zpb hw (hx.adds r hr).1;rw[frameE_zero];refine⟨rfl,qsl hx.kind,?_,rfl,?_,hA,?_⟩
 ·have h1:=hx.al;have h2:=hx.gl;have h3:=hS.hl;simp only[zcn,zfn,Bool.and_eq_true,decide_eq_true_eq];have a1:x.adds.length≤64:=by omega
  have a2:x.gone.length≤64:=by omega
  exact⟨⟨⟨⟨⟨⟨⟨⟨decide_eq_true a1,decide_eq_true a2⟩,by simp⟩,by simp⟩,by simp⟩,hp.1.1⟩,hn⟩,rfl⟩,rfl⟩
 ·simp only[zcp,zfn,Bool.and_eq_true,List.all_eq_true];refine⟨⟨fun k hk=>?_,by simp⟩,by simp⟩;obtain⟨r,hr,rfl⟩:=List.mem_map.1 (hx.gone k hk).1;exact(hS.have_ r hr).2
 ·simp only[zkm,zfn,Bool.and_eq_true,List.all_eq_true,decide_eq_true_eq];exact⟨fun r hr=>decide_eq_true (hx.adds r hr).2,fun k hk=>decide_eq_true (hx.gone k hk).2⟩
theorem qgi {s:Sess}{x:Step}{want:List Res}(hS:SaneS s)(hx:StepOk s.v.have_ want s.v.held x)(hw:tabE want=0)(hg:s.greeted=true)(he:(Nonce.push s.out x.kind).2.2=0):
  zbr {s with v:=zn5 s.v (zfn s x (Nonce.push s.out x.kind).2.1),out:=(Nonce.push s.out x.kind).1}=true:=by
 obtain⟨g1,g2,g3,g4⟩:=zwa hS.out hx.kind he;have hf:=qbf hx hS rfl hw g2;rw[saneS_iff];refine⟨hS.plain,g1,hS.hl,hS.have_,hS.dl,hS.turn,hS.held,fun _=>?_⟩;simp only[zbl,zn5,Bool.and_eq_true,decide_eq_true_eq];exact⟨⟨⟨⟨⟨hg,decide_eq_true hf⟩,decide_eq_true rfl⟩,decide_eq_true rfl⟩,g3⟩,decide_eq_true g4⟩
theorem zp8 {p:Store}(hp:sanS p=true):tabE (nowL p)=0:=by
 unfold nowL;rw[zde hp];exact(qa4 hp).tab
theorem zjg {s:Sess}(hs:zbr s=true)(p:Store):
  (pump s p).1=s∧(pump s p).2.1=[]∨
  ∃x,zlh s.v.have_ (nowL p) s.v.held=.some x∧s.v.open_=false∧s.greeted=true∧(Nonce.push s.out x.kind).2.2=0∧
   pump s p=({s with v:=zn5 s.v (zfn s x (Nonce.push s.out x.kind).2.1),out:=(Nonce.push s.out x.kind).1},[zfn s x (Nonce.push s.out x.kind).2.1],0):=by
 unfold pump;rw[zbx hs];unfold zf3;by_cases hi:idle s p=true
 ·rw[if_pos hi];exact Or.inl ⟨rfl,rfl⟩
 rw[if_neg hi];simp only[idle,Bool.or_eq_true,not_or,Bool.not_eq_true,Bool.not_eq_false']at hi;cases hn:zlh s.v.have_ (nowL p) s.v.held with
 |none=>exact Or.inl ⟨rfl,rfl⟩
 |some x=>
  unfold zk9;by_cases he:(Nonce.push s.out x.kind).2.2=0
  ·refine Or.inr ⟨x,rfl,hi.1.2,hi.1.1,he,?_⟩;simp only[if_pos he]
  ·refine Or.inl ?_;simp only[if_neg he];exact⟨trivial,trivial⟩
theorem qvk {s:Sess}(S:SaneS s)(ho:s.v.open_=true):s.v.have_.length+s.v.push.adds.length≤1000000∧s.v.push.gone.length≤9223372036854775807:=by
 have hw:=S.waits ho;simp only[zbl,Bool.and_eq_true,decide_eq_true_eq]at hw;have P:=frameE_zero.1 hw.1.1.1.1.2;have L:=zcv P.small;have:=S.hl;omega
theorem zxy {v:View}(h:v.held.length≤9223372036854775807):OkFrame (ze8 v):=⟨⟨by simp[ze8],by simp[ze8]⟩,by simp[ze8],by simp[ze8],h⟩
theorem zu4 :OkFrame zFrame:=⟨⟨by simp[zFrame],by simp[zFrame]⟩,by simp[zFrame],by simp[zFrame],by simp[zFrame]⟩
theorem qak :OkView zView:=⟨⟨by simp[zView],by simp[zView]⟩,by simp[zView],zu4⟩
theorem zvn {s:Sess}(h:OkSess s):OkSess (zbm s):=by
 unfold zbm;split
 ·exact h
 ·exact⟨qak⟩
structure SentOk (s:Sess)(p:Store)(f:Frame)(t:Sess):Prop where
 sane:za4 f=0
 type:f.type=1
 epoch:f.epoch=s.epoch
 many:0<f.adds.length+f.gone.length
 al:f.adds.length≤64
 gl:f.gone.length≤64
 adds:∀r∈f.adds,getR (nowL p) r.key=some r
 gone:¬f.kind=0→∀k∈f.gone,k∉s.v.held∧(zmu s.v.have_ k).length=0
 ok:OkRs (nowL p)→OkFrame f
 tsane:zbr t=true
 topen:t.v.open_=true
 tpush:t.v.push=f
 tview:t.v.have_=s.v.have_∧t.v.held=s.v.held
 marks:f.have_=[]
theorem zti {s:Sess}{p:Store}(hs:zbr s=true)(hp:sanS p=true){x:Step}(c1:zlh s.v.have_ (nowL p) s.v.held=.some x)(c3:s.greeted=true)(c4:(Nonce.push s.out x.kind).2.2=0):
  SentOk s p (zfn s x (Nonce.push s.out x.kind).2.1) {s with v:=zn5 s.v (zfn s x (Nonce.push s.out x.kind).2.1),out:=(Nonce.push s.out x.kind).1}:=by
 have S:=saneS_iff.1 hs;have hx:=zzg c1;have hw:=zp8 hp;obtain⟨g1,g2,g3,g4⟩:=zwa S.out hx.kind c4;have hf:=qbf hx S rfl hw g2;have L:=zcv (frameE_zero.1 hf).small;refine⟨hf,rfl,rfl,hx.some,L.1,L.2.1,fun r hr=>zbz (zcc hw) (hx.adds r hr).1,hx.free,fun ho=>⟨⟨by have:=L.1;omega,fun r hr=>ho.all r (hx.adds r hr).1⟩,by have:=L.2.1;omega,by simp[zfn],by simp[zfn]⟩,qgi S hx hw c3 c4,rfl,rfl,⟨rfl,rfl⟩,rfl⟩
inductive Rch (l:List Res):Key→Prop
 |root {r:Res} (h:r∈l) (h0:r.kind=0):Rch l r.key
 |step {k:Key} {r:Res} {q:Key} (h:Rch l k) (hr:getR l k=some r) (hq:q∈zbs r) (hs:(getR l q).isSome=true):Rch l q
theorem Rch.some {l:List Res}{k:Key}(h:Rch l k):(getR l k).isSome=true:=by
 cases h with
 |root h h0=>exact mem_keys.1 (List.mem_map.2 ⟨_,h,rfl⟩)
 |step _ _ _ hs=>exact hs
theorem zu9 (l:List Res):∀(n:Nat) (out:List Key) (k:Key),(∀x∈out,Rch l x)→((getR l k).isSome=true→Rch l k)→∀x∈zbc l n out k,Rch l x
 |0,out,k,h,_,x,hx=>h x hx
 |n+1,out,k,h,hk,x,hx=>by
  unfold zbc at hx;split at hx
  ·exact h x hx
  ·rename_i r hr;split at hx
   ·exact h x hx
   ·have hkk:=hk (by rw[hr];rfl);have key:∀(m o:List Key),(∀q∈m,q∈zbs r)→(∀x∈o,Rch l x)→∀x∈m.foldl (zbc l n) o,Rch l x:=by
     intro m;induction m with
     |nil=>exact fun o _ h=>h
     |cons q m ih=>
      intro o hm ho;rw[List.foldl_cons];exact ih _ (fun p hp=>hm p (by simp[hp])) (zu9 l n o q ho (fun hs=>.step hkk hr (hm q (by simp)) hs))
    refine key _ _ (fun _ h=>h) (fun y hy=>?_) x hx;rcases List.mem_append.1 hy with e|e
    ·exact h y e
    ·rw[List.mem_singleton.1 e];exact hkk
theorem zy8 {l:List Res}{k:Key}:k∈zeu l↔Rch l k:=by
 constructor
 ·have key:∀(m o:List Key),(∀q∈m,Rch l q)→(∀x∈o,Rch l x)→∀x∈m.foldl (zbc l (l.length+1)) o,Rch l x:=by
   intro m;induction m with
   |nil=>exact fun o _ h=>h
   |cons q m ih=>intro o hm ho;rw[List.foldl_cons];exact ih _ (fun p hp=>hm p (by simp[hp])) (zu9 l _ o q ho fun _=>hm q (by simp))
  refine key _ _ (fun q hq=>?_) (fun x hx=>by simp at hx) k;obtain⟨r,hr,rfl⟩:=List.mem_map.1 hq;obtain⟨h1,h2⟩:=List.mem_filter.1 hr;exact .root h1 (by simpa using h2)
 ·intro h;induction h with
  |root h h0=>exact zv7 (List.mem_map.2 ⟨_,List.mem_filter.2 ⟨h,by simpa using h0⟩,rfl⟩)
  |step _ hr hq hs ih=>exact zq9 l _ ih _ hr _ hq hs
theorem mem_reachR {l:List Res}{r:Res}:r∈zau l↔r∈l∧Rch l r.key:=by
 simp[zau,zy8]
theorem served_iff {l:List Res}:zbj l=0↔∀r∈l,Rch l r.key→(∀q∈zbs r,(getR l q).isSome=true)∧zf8 r=false:=by
 unfold zbj;constructor
 ·intro h r hr hk;split at h
  ·simp at h
  ·rename_i h1;split at h
   ·simp at h
   ·rename_i h2;have hm:r∈zau l:=mem_reachR.2 ⟨hr,hk⟩;refine⟨fun q hq=>?_,?_⟩
    ·cases e:(getR l q).isSome with
     |true=>rfl
     |false=>exact absurd (List.any_eq_true.2 ⟨r,hm,List.any_eq_true.2 ⟨q,hq,by simp[noR,e]⟩⟩) h1
    ·cases e:zf8 r with
     |false=>rfl
     |true=>exact absurd (List.any_eq_true.2 ⟨r,hm,e⟩) h2
 ·intro h;have h1:¬((zau l).any fun r=>(zbs r).any (noR l))=true:=by
   intro e;obtain⟨r,hr,e⟩:=List.any_eq_true.1 e;obtain⟨q,hq,e⟩:=List.any_eq_true.1 e;obtain⟨h2,h3⟩:=mem_reachR.1 hr;simp[noR,(h r h2 h3).1 q hq]at e
  have h2:¬(zau l).any zf8=true:=by
   intro e;obtain⟨r,hr,e⟩:=List.any_eq_true.1 e;obtain⟨h2,h3⟩:=mem_reachR.1 hr;simp[(h r h2 h3).2]at e
  rw[if_neg h1,if_neg h2]
theorem none_iff {s:Step}:s.none=true↔s.adds=[]∧s.gone=[]:=by
 simp only[Step.none,decide_eq_true_eq];constructor
 ·intro h;exact⟨List.eq_nil_of_length_eq_zero (by omega),List.eq_nil_of_length_eq_zero (by omega)⟩
 ·rintro⟨h1,h2⟩;simp[h1,h2]
theorem mem_diffA {a b:List Res}{r:Res}:r∈zem a b↔r∈b∧¬getR a r.key=some r:=by simp[zem]
section
variable {H W : List Res} {held : List Key} {x : Step}
end
theorem qun {l:List Res}(h1:l.length≤64)(h2:∀r∈l,zbd r=0)(h3:AscR l)(h4:(zwd l).Nodup):tabE l=0:=by
 rw[zml (by omega) (firstE_zero.2 h2) h3,if_pos h4]
theorem tab_len {l:List Res}(h:tabE l=0):l.length≤64:=by
 unfold tabE at h;split at h
 ·simp at h
 ·omega
section
variable {H W : List Res} {held : List Key} {x : Step}
end
structure Cache where
 cap:Int
 l:List Res
 deriving DecidableEq
@[simp] def zdv (c:Cache):List D:=[iD c.cap,lD (c.l.map resC)]
def newC (n:Int):Cache:=⟨capN n,[]⟩
def zdq (cap:Int)(l:List Res):Int:=if¬tabE l=0 then tabE l else if cap<l.length then 8 else zbj l
def zkc (c:Cache):Bool:=decide (c.cap=capN c.cap)&&decide (zdq c.cap c.l=0)
def zed (c:Cache):Cache:=if zkc c then c else newC c.cap
def zj6 (c:Cache)(adds:List Res)(gone:List Key):Cache×Int:=
 if zdq c.cap (zak c.l adds gone)=0 then(⟨c.cap,zak c.l adds gone⟩,0)else(c,zdq c.cap (zak c.l adds gone))
def zgd (c:Cache)(adds:List Res)(gone:List Key):Cache×Int:=zj6 (zed c) adds gone
def zfi (c:Cache):List Res:=zau (zed c).l
structure Warm where
 c:Cache
 ready:Bool
 shown:List Res
 deriving DecidableEq
@[simp] def zu8 (w:Warm):List D:=zdv w.c++[bD w.ready,lD (w.shown.map resC)]
def newW (n:Int):Warm:=⟨newC n,false,[]⟩
def zg9 (w:Warm):Bool:=zkc w.c&&decide (w.shown=zfi w.c)&&(w.ready||decide (w.shown.length=0))
def zew (w:Warm):Warm:=if zg9 w then w else newW w.c.cap
def zmj (w:Warm)(c:Cache):Warm×Bool:=
 if zfi c=w.shown then(⟨c,w.ready,w.shown⟩,false)else(⟨c,true,zfi c⟩,true)
def zh7 (w:Warm)(adds:List Res)(gone:List Key):Warm×Bool×Int:=
 if¬(zgd w.c adds gone).2=0 then(w,false,(zgd w.c adds gone).2)
 else((zmj w (zgd w.c adds gone).1).1,(zmj w (zgd w.c adds gone).1).2,0)
def zcr (w:Warm)(adds:List Res)(gone:List Key):Warm×Bool×Int:=zh7 (zew w) adds gone
structure Snap where
 id:Int
 pins:Int
 l:List Res
 deriving DecidableEq
@[simp] def zdd (s:Snap):List D:=[iD s.id,iD s.pins,lD (s.l.map resC)]
structure Pins where
 next:Int
 snaps:List Snap
 deriving DecidableEq
@[simp] def ziw (p:Pins):List D:=[iD p.next,lD (p.snaps.map zdd)]
def zbb (next:Int):Int→List Snap→Bool
 |_,[]=>true
 |a,s::r=>decide (a+1≤s.id)&&decide (s.id≤next)&&decide ((if r=[]then 0 else 1)≤s.pins)&&decide (s.pins≤10000)&&zbb next s.id r
def zfc (p:Pins):Bool:=zbb p.next 0 p.snaps&&rngB p.next 2147483647&&decide (p.snaps.length≤1000)
def za3 (p:Pins):Pins:=if zfc p then p else⟨0,[]⟩
def zzs (p:Pins):List Snap:=p.snaps.filter fun s=>!decide (s.pins=0)
def zdf (p:Pins)(l:List Res):Pins×Int×Int:=
 if p.next=2147483647 then(p,0,14)else if 1000≤(zzs p).length then(p,0,8)
 else(⟨p.next+1,zzs p++[⟨p.next+1,0,l⟩]⟩,p.next+1,0)
def zbp (p:Pins)(l:List Res):Pins×Int×Int:=zdf (za3 p) l
def curP (p:Pins):Option Snap:=(za3 p).snaps.getLast?
def qm6 (p:Pins):List Key:=((p.snaps.flatMap (·.l)).map Res.key).foldl putK []
def zcw (p:Pins):List Key:=qm6 (za3 p)
@[simp] def nnC' (i:Nonce.Nn):List D:=[iD i.l0,iD i.l1,iD i.l2,iD i.l3,iD i.m]
structure Errs where
 (e0 e1 e2 e3:Int)
 deriving DecidableEq
@[simp] def qyj (e:Errs):List D:=[iD e.e0,iD e.e1,iD e.e2,iD e.e3]
def Errs.get (e:Errs)(k:Int):Int:=if k=0 then e.e0 else if k=1 then e.e1 else if k=2 then e.e2 else e.e3
def Errs.set (e:Errs)(k v:Int):Errs:=if k=0 then{e with e0:=v}else if k=1 then{e with e1:=v}else if k=2 then{e with e2:=v}else{e with e3:=v}
def za8 (n:Int):Bool:=!rngB n 15
structure Side where
 epoch:Int
 turn:Int
 up:Bool
 inn:Nonce.Nn
 errs:Errs
 w:Warm
 p:Pins
 deriving DecidableEq
@[simp] def zc1 (s:Side):List D:=[iD s.epoch,iD s.turn,bD s.up]++nnC' s.inn++qyj s.errs++zu8 s.w++ziw s.p
def newX (limit most:Int):Side:=⟨0,0,false,Nonce.startI most,⟨0,0,0,0⟩,newW limit,⟨0,[]⟩⟩
def zpx (p:Pins):Bool:=decide (za4 ⟨3,0,0,0,0,[],[],0,[],zcw p⟩=0)
def zdz (s:Side):Bool:=match curP s.p with
 |none=>!s.w.ready
 |some c=>s.w.ready&&decide (c.l=s.w.shown)
def za0 (s:Side):Bool:=
 (rngB s.epoch 2147483647&&rngB s.turn 2147483647&& !(za8 s.errs.e0||za8 s.errs.e1||za8 s.errs.e2||za8 s.errs.e3))
   &&Nonce.soundB s.inn&&zg9 s.w&&zfc s.p&&zpx s.p&&zdz s
def soundX (s:Side):Side:=if za0 s then s else newX s.w.c.cap s.inn.m
def zks (s:Side):Bool:=decide (s.turn=2147483647)
def zhs (s:Side):Side:={s with turn:=s.turn+1}
def zlz (s:Side):Frame:=⟨0,s.epoch,0,0,0,[],[],0,ze0 s.w.c.l,[]⟩
def qci (s:Side):Frame:=⟨3,s.epoch,0,0,s.turn,[],[],0,[],zcw s.p⟩
def zcf (s:Side)(epoch:Int):Side×List Frame×Int:=
 if epoch≤s.epoch∨2147483647<epoch then(s,[],11)else if zks s then(s,[],14)
 else let t:Side:=zhs {s with epoch:=epoch,up:=true,inn:=Nonce.startI s.inn.m,errs:=⟨0,0,0,0⟩}
  (t,[zlz t,qci t],0)
def zao (s:Side)(epoch:Int):Side×List Frame×Int:=zcf (soundX s) epoch
def zbo (s:Side)(f:Frame):Int:=
 if s.up=false then 12 else if¬za4 f=0 then za4 f else if¬f.epoch=s.epoch then 11 else if¬f.type=1 then 15 else 0
def ackX (s:Side)(f:Frame):Side×List Frame:=
 (zhs s,[⟨2,f.epoch,f.kind,f.nonce,s.turn+1,[],[],s.errs.get f.kind,[],zcw s.p⟩])
def zd4 (s:Side)(f:Frame):Side×Int:=
 let w:=zcr s.w f.adds f.gone
 let q:=zbp s.p w.1.shown
 if w.2.1=true∧¬q.2.2=0 then(s,q.2.2)else
 let p:=if w.2.1=true then q.1 else s.p
 if zpx p=false then({s with errs:=s.errs.set f.kind 8},0)
 else({s with w:=w.1,p:=p,errs:=s.errs.set f.kind w.2.2},0)
def zgw (s:Side)(f:Frame):Side×List Frame×Int:=
 if¬zbo s f=0 then(s,[],zbo s f)else
 let i:=Nonce.take s.inn f.kind f.nonce
 if i.2=0 then
  if zks s then(s,[],14)else
  if¬(zd4 s f).2=0 then(s,[],(zd4 s f).2)else
  let t:={(zd4 s f).1 with inn:=i.1}
  if zks s then(s,[],14)else((ackX t f).1,(ackX t f).2,0)
 else if i.2=9 then
  if zks s then(s,[],14)else((ackX s f).1,(ackX s f).2,9)
 else(s,[],i.2)
def zea (s:Side)(f:Frame):Side×List Frame×Int:=zgw (soundX s) f
def zh9 (s:Side):Option Snap:=curP (soundX s).p
theorem must_iff {cap:Int}{l:List Res}:zdq cap l=0↔tabE l=0∧(l.length:Int)≤cap∧zbj l=0:=by
 unfold zdq;constructor
 ·intro h;split at h
  ·rename_i h1;exact absurd h h1
  ·rename_i h1;split at h
   ·simp at h
   ·rename_i h2;exact⟨Decidable.not_not.1 h1,by omega,h⟩
 ·rintro⟨h1,h2,h3⟩;rw[if_neg (by simp[h1]),if_neg (by omega),h3]
theorem saneC_iff {c:Cache}:zkc c=true↔c.cap=capN c.cap∧tabE c.l=0∧(c.l.length:Int)≤c.cap∧zbj c.l=0:=by
 simp only[zkc,Bool.and_eq_true,decide_eq_true_eq,must_iff]
theorem zvx (n:Int):zkc (newC n)=true:=by
 rw[saneC_iff];have:=zo2 n;exact⟨(zl9 n).symm,show tabE []=0 by decide+kernel,by simp[newC,this.1],zrs⟩
theorem zka (c:Cache):zkc (zed c)=true:=by
 unfold zed;split
 ·assumption
 ·exact zvx _
theorem zfz {c:Cache}(h:zkc c=true):zed c=c:=by simp[zed,h]
theorem qe4 (c:Cache)(a:List Res)(g:List Key):zkc (zgd c a g).1=true:=by
 have h:=zka c;unfold zgd zj6;split
 ·rename_i h1;rw[saneC_iff]at h⊢;exact⟨h.1,must_iff.1 h1⟩
 ·exact h
theorem qha :zau []=[]:=rfl
theorem zvv (n:Int):zg9 (newW n)=true:=by
 have h:=zvx n;simp only[zg9,newW,zfi,zfz h,h,Bool.true_and,Bool.and_eq_true,Bool.or_eq_true,decide_eq_true_eq];exact⟨by simp[newC,qha],.inr rfl⟩
theorem zy2 (w:Warm):zg9 (zew w)=true:=by
 unfold zew;split
 ·assumption
 ·exact zvv _
theorem zvm {w:Warm}(h:zg9 w=true):zew w=w:=by simp[zew,h]
theorem saneW_iff {w:Warm}:zg9 w=true↔zkc w.c=true∧w.shown=zau w.c.l∧(w.ready=true∨w.shown=[]):=by
 simp only[zg9,Bool.and_eq_true,Bool.or_eq_true,decide_eq_true_eq,List.length_eq_zero_iff,and_assoc];constructor
 ·rintro⟨h1,h2,h3⟩;exact⟨h1,by simpa[zfi,zfz h1]using h2,h3⟩
 ·rintro⟨h1,h2,h3⟩;exact⟨h1,by simpa[zfi,zfz h1]using h2,h3⟩
theorem zpd (w:Warm)(a:List Res)(g:List Key):zg9 (zcr w a g).1=true:=by
 have h:=zy2 w;unfold zcr zh7;split
 ·exact h
 ·have h1:=qe4 (zew w).c a g;have h2:=saneW_iff.1 h;unfold zmj;split
  ·rename_i h3;rw[saneW_iff];simp only[zfi,zfz h1]at h3;exact⟨h1,h3.symm,h2.2.2⟩
  ·rw[saneW_iff];exact⟨h1,by simp[zfi,zfz h1],.inl rfl⟩
theorem qjh {l:List Res}:rngB (zdb l) 15=true:=by
 unfold zdb;split
 ·rename_i r _;unfold zbd
  (repeat' split)<;>simp[rngB]
 ·simp[rngB]
theorem qp6 (l:List Res):rngB (tabE l) 15=true:=by
 unfold tabE
 (repeat' split)<;>first|exact qjh|simp[rngB]
theorem qdl (l:List Res):rngB (zbj l) 15=true:=by
 unfold zbj
 (repeat' split)<;>simp[rngB]
theorem qmn (cap:Int)(l:List Res):rngB (zdq cap l) 15=true:=by
 unfold zdq
 (repeat' split)<;>first|exact qp6 _|exact qdl _|simp[rngB]
theorem qke (c:Cache)(a:List Res)(g:List Key):rngB (zgd c a g).2 15=true:=by
 unfold zgd zj6;split
 ·simp[rngB]
 ·exact qmn _ _
theorem qft (w:Warm)(a:List Res)(g:List Key):rngB (zcr w a g).2.2 15=true:=by
 unfold zcr zh7;split
 ·exact qke _ _ _
 ·simp[rngB]
theorem zpp {n:Int}:∀{l:List Snap} {a b:Int},b≤a→zbb n a l=true→zbb n b l=true
 |[],_,_,_,_=>rfl
 |s::r,a,b,h,hs=>by
  simp only[zbb,Bool.and_eq_true,decide_eq_true_eq]at hs⊢;exact⟨⟨⟨⟨by omega,hs.1.1.1.2⟩,hs.1.1.2⟩,hs.1.2⟩,hs.2⟩
theorem zkb {n:Int}(L:List Res):∀{l:List Snap} {a:Int},a≤n→zbb n a l=true→zbb (n+1) a ((l.filter fun s=>!decide (s.pins=0))++[⟨n+1,0,L⟩])=true
 |[],a,ha,_=>by
  simp only[List.filter_nil,List.nil_append,zbb,Bool.and_eq_true,decide_eq_true_eq,if_true,and_true];omega
 |s::r,a,ha,hs=>by
  simp only[zbb,Bool.and_eq_true,decide_eq_true_eq]at hs;obtain⟨⟨⟨⟨h1,h2⟩,h3⟩,h4⟩,h5⟩:=hs;by_cases hp:s.pins=0
  ·simp only[List.filter_cons,hp,decide_true,Bool.not_true,Bool.false_eq_true,if_false];exact zkb L ha (zpp (by omega) h5)
  ·simp only[List.filter_cons,hp,decide_false,Bool.not_false,if_true,List.cons_append,zbb,Bool.and_eq_true,decide_eq_true_eq];have h3':1≤s.pins:=by
    split at h3<;>omega
   refine⟨⟨⟨⟨h1,by omega⟩,?_⟩,h4⟩,zkb L h2 h5⟩;rw[if_neg (by simp)];exact h3'
theorem saneP_iff {p:Pins}:zfc p=true↔zbb p.next 0 p.snaps=true∧0≤p.next∧p.next≤2147483647∧p.snaps.length≤1000:=by
 simp only[zfc,rngB,Bool.and_eq_true,decide_eq_true_eq,and_assoc]
theorem zvw :zfc ⟨0,[]⟩=true:=rfl
theorem zc7 (p:Pins):zfc (za3 p)=true:=by
 unfold za3;split
 ·assumption
 ·exact zvw
theorem zc8 {p:Pins}(h:zfc p=true):za3 p=p:=by simp[za3,h]
theorem ziu (p:Pins)(l:List Res):zfc (zbp p l).1=true:=by
 have h:=zc7 p;unfold zbp zdf;split
 ·exact h
 ·rename_i h1;split
  ·exact h
  ·rename_i h2;rw[saneP_iff]at h⊢;refine⟨zkb l h.2.1 h.1,by simp only;omega,by simp only;omega,?_⟩;simp only[List.length_append,List.length_singleton];omega
theorem zza {p:Pins}{l:List Res}(h:(zbp p l).2.2=0):∃s,curP (zbp p l).1=some s∧s.l=l:=by
 have h0:=ziu p l;unfold curP;rw[zc8 h0];unfold zbp zdf at h⊢;split at h
 ·simp at h
 ·rename_i h1;split at h
  ·simp at h
  ·rename_i h2;rw[if_neg h1,if_neg h2];exact⟨⟨(za3 p).next+1,0,l⟩,by simp,rfl⟩
theorem room_iff {p:Pins}:zpx p=true↔(zcw p).length≤64∧∀k∈zcw p,okK k=true:=by
 have:=drain_ok (v:=⟨[],zcw p,0,zFrame,false⟩);simp only[zpx,decide_eq_true_eq];simp only[ze8]at this;rw[this];simp[rngB]
theorem qc8 {i:Nonce.Nn}(h:Nonce.soundB i=true)(k n:Int):Nonce.soundB (Nonce.take i k n).1=true:=by
 obtain⟨a,b,c,d,m⟩:=i;simp only[Nonce.take,Nonce.inF,h,if_true];unfold Nonce.takeQ;split
 ·exact h
 ·split
  ·exact h
  ·split
   ·exact h
   ·rename_i h1;simp only[Nonce.Nn.set,Nonce.Nn.last,Nonce.soundB_mk]at h h1⊢
    (repeat' split at h1)<;>(repeat' split)<;>simp only[Nonce.soundB_mk]<;>omega
theorem zpg (n:Int):Nonce.soundB (Nonce.startI n)=true:=by
 have:=Nonce.bnd_ok n;simp only[Nonce.startI,Nonce.soundB_mk];omega
structure SaneX (s:Side):Prop where
 epoch:rngB s.epoch 2147483647=true
 turn:rngB s.turn 2147483647=true
 errs:za8 s.errs.e0=false∧za8 s.errs.e1=false∧za8 s.errs.e2=false∧za8 s.errs.e3=false
 inn:Nonce.soundB s.inn=true
 w:zg9 s.w=true
 p:zfc s.p=true
 room:zpx s.p=true
 agrees:zdz s=true
theorem saneX_iff {s:Side}:za0 s=true↔SaneX s:=by
 simp only[za0,Bool.and_eq_true,Bool.not_eq_true',Bool.or_eq_false_iff];constructor
 ·rintro⟨⟨⟨⟨⟨⟨⟨h1,h2⟩,h3⟩,h4⟩,h5⟩,h6⟩,h7⟩,h8⟩;exact⟨h1,h2,⟨h3.1.1.1,h3.1.1.2,h3.1.2,h3.2⟩,h4,h5,h6,h7,h8⟩
 ·intro h;obtain⟨g1,g2,g3,g4⟩:=h.errs;exact⟨⟨⟨⟨⟨⟨⟨h.epoch,h.turn⟩,⟨⟨⟨g1,g2⟩,g3⟩,g4⟩⟩,h.inn⟩,h.w⟩,h.p⟩,h.room⟩,h.agrees⟩
theorem qb6 :zcw ⟨0,[]⟩=[]:=rfl
theorem zvu (l m:Int):za0 (newX l m)=true:=by
 rw[saneX_iff];exact⟨rfl,rfl,⟨rfl,rfl,rfl,rfl⟩,zpg m,zvv l,zvw,room_iff.2 ⟨by rw[show(newX l m).p=⟨0,[]⟩from rfl,qb6];simp,by rw[show(newX l m).p=⟨0,[]⟩from rfl,qb6];simp⟩,rfl⟩
theorem zfy (s:Side):za0 (soundX s)=true:=by
 unfold soundX;split
 ·assumption
 ·exact zvu _ _
theorem zbh {s:Side}(h:za0 s=true):soundX s=s:=by simp[soundX,h]
theorem zoy {e:Errs}(h:za8 e.e0=false∧za8 e.e1=false∧za8 e.e2=false∧za8 e.e3=false){v:Int}(hv:rngB v 15=true)(k:Int):
  za8 (e.set k v).e0=false∧za8 (e.set k v).e1=false∧za8 (e.set k v).e2=false∧za8 (e.set k v).e3=false:=by
 have hv':za8 v=false:=by simp[za8,hv]
 unfold Errs.set
 (repeat' split)<;>simp[h,hv']
theorem zs4 {n:Int}(h:rngB n 2147483647=true)(hf:¬n=2147483647):rngB (n+1) 2147483647=true:=by
 rw[rngB_iff]at h⊢;omega
theorem znw (s:Side)(epoch:Int):za0 (zao s epoch).1=true:=by
 have h:=zfy s;unfold zao zcf;split
 ·exact h
 ·rename_i h1;split
  ·exact h
  ·rename_i h2;have S:=saneX_iff.1 h;rw[saneX_iff];have he:=rngB_iff.1 S.epoch;exact⟨rngB_iff.2 ⟨by simp only[zhs];omega,by simp only[zhs];omega⟩,zs4 S.turn (by simpa[zks]using h2),⟨rfl,rfl,rfl,rfl⟩,zpg _,S.w,S.p,S.room,S.agrees⟩
theorem qdd {s:Side}(S:SaneX s)(f:Frame):SaneX (zd4 s f).1:=by
 have hw:=zpd s.w f.adds f.gone;have hr:=qft s.w f.adds f.gone;have h6:(zcr s.w f.adds f.gone).2.1=true→(zcr s.w f.adds f.gone).1.ready=true:=by
  unfold zcr zh7 zmj
  (repeat' split)<;>simp
 have h7:(zcr s.w f.adds f.gone).2.1=false→(zcr s.w f.adds f.gone).1.ready=s.w.ready∧(zcr s.w f.adds f.gone).1.shown=s.w.shown:=by
  have hw:zew s.w=s.w:=zvm S.w;unfold zcr zh7 zmj;rw[hw]
  (repeat' split)<;>simp
 unfold zd4;dsimp only;generalize zcr s.w f.adds f.gone=W at hw hr h6 h7⊢;obtain⟨w',ch,why⟩:=W;simp only at hw hr h6 h7⊢;cases ch with
 |false=>
  simp only[Bool.false_eq_true,false_and,if_false];split
  ·exact⟨S.epoch,S.turn,zoy S.errs rfl _,S.inn,S.w,S.p,S.room,S.agrees⟩
  ·refine⟨S.epoch,S.turn,zoy S.errs hr _,S.inn,hw,S.p,S.room,?_⟩;have hA:=S.agrees;obtain⟨g1,g2⟩:=h7 rfl;unfold zdz at hA⊢;simp only[g1,g2];exact hA
 |true=>
  simp only[true_and,if_true];split
  ·exact S
  ·rename_i h1;split
   ·exact⟨S.epoch,S.turn,zoy S.errs rfl _,S.inn,S.w,S.p,S.room,S.agrees⟩
   ·rename_i h2;refine⟨S.epoch,S.turn,zoy S.errs hr _,S.inn,hw,ziu _ _,by simpa using h2,?_⟩;obtain⟨c,h4,h5⟩:=zza (Decidable.not_not.1 h1);simp only[zdz,h4,h5,h6 rfl,decide_true,Bool.and_self]
theorem zvp (s:Side)(f:Frame):za0 (zea s f).1=true:=by
 have h:=zfy s;have S:=saneX_iff.1 h;unfold zea zgw;generalize soundX s=q at h S⊢;dsimp only;split
 ·exact h
 ·split
  ·split
   ·exact h
   ·rename_i hf;split
    ·exact h
    ·rw[saneX_iff];have T:=qdd S f;have ht:(zd4 q f).1.turn=q.turn:=by
      unfold zd4;dsimp only
      (repeat' split)<;>rfl
     exact⟨T.epoch,by simp only[ackX,zhs,ht];exact zs4 S.turn (by simpa[zks]using hf),T.errs,qc8 S.inn _ _,T.w,T.p,T.room,T.agrees⟩
  ·split
   ·split
    ·exact h
    ·rename_i hf;rw[saneX_iff];exact⟨S.epoch,zs4 S.turn (by simpa[zks]using hf),S.errs,S.inn,S.w,S.p,S.room,S.agrees⟩
   ·exact h
theorem zss {l:List Res}(h:AscR l):AscR (zau l):=zgc h _
theorem zi4 (e:Errs){k v:Int}:(e.set k v).get k=v:=by
 unfold Errs.set Errs.get
 (repeat' split)<;>simp_all
@[simp] theorem lenAll_snap (l:List Snap):zb2 (l.map zdd) 3=True:=zbv (f:=zdd) (n:=3) (fun _=>rfl) l
def ahP (l:List Snap):Int:=match l.getLast? with
 |some s=>s.id
 |none=>0
@[simp] theorem ahP_nil :ahP []=0:=rfl
@[simp] theorem zjq (l:List Snap)(s:Snap):ahP (l++[s])=s.id:=by simp[ahP]
theorem zjd {n:Int}:∀{l:List Snap} {a:Int},zbb n a l=true→∀s∈l,s.id≤n∧s.pins≤10000∧a+1≤s.id
 |[],_,_,s,hs=>by cases hs
 |q::r,a,h,s,hs=>by
  simp only[zbb,Bool.and_eq_true,decide_eq_true_eq]at h;rcases List.mem_cons.1 hs with rfl|hs
  ·exact⟨h.1.1.1.2,h.1.2,h.1.1.1.1⟩
  ·have:=zjd h.2 s hs;exact⟨this.1,this.2.1,by omega⟩
structure OkX (s:Side):Prop where
 c:OkRs s.w.c.l
 cl:s.w.c.l.length≤1000
 shown:OkRs s.w.shown
 snaps:∀q∈s.p.snaps,OkRs q.l∧q.l.length≤64
 next:s.p.next≤2147483648
 sl:s.p.snaps.length≤1000000
structure OkPins (p:Pins):Prop where
 snaps:∀q∈p.snaps,OkRs q.l∧q.l.length≤64
 next:p.next≤2147483648
 sl:p.snaps.length≤1000000
theorem OkPins.sound {p:Pins}(h:OkPins p):OkPins (za3 p):=by
 unfold za3;split
 ·exact h
 ·exact⟨by simp,by decide,by simp⟩
theorem zht (p:Pins):(za3 p).snaps.length≤1000:=(saneP_iff.1 (zc7 p)).2.2.2
theorem zpj {l:List Snap}(h:∀q∈l,q.l.length≤64):(l.flatMap (·.l)).length≤64*l.length:=by
 induction l with
 |nil=>simp
 |cons s r ih=>
  have:=ih fun q hq=>h q (by simp[hq])
  have:=h s (by simp);simp only[List.flatMap_cons,List.length_append,List.length_cons];omega
theorem zow {p:Pins}(h:OkPins p):(zcw p).length≤64000:=by
 unfold zcw qm6;have h1:=zpj fun q hq=>(h.sound.snaps q hq).2;have h2:=zht p;obtain⟨a1,a2⟩:=zhl ((((za3 p).snaps.flatMap (·.l)).map Res.key)) (o:=[]) (by simp[Asc]);have:=zhz (zyg a1) (b:=((za3 p).snaps.flatMap (·.l)).map Res.key) (fun k hk=>by rw[a2]at hk;simpa using hk);rw[List.length_map]at this;omega
theorem zr8 {α:Type}(l:List α):l=[]∨∃i s,l=i++[s]:=by
 rcases List.eq_nil_or_concat l with h|⟨i,s,h⟩
 ·exact .inl h
 ·exact .inr ⟨i,s,by simpa using h⟩
theorem OkX.pins {s:Side}(h:OkX s):OkPins s.p:=⟨h.snaps,h.next,h.sl⟩
theorem qfe (n:Int):za8 n=(decide (n<0)||decide (15<n)):=by
 rw[za8,rngB];by_cases h1:n<0<;>by_cases h2:15<n<;>simp[h1,h2]<;>omega
theorem zwq {l:List Res}(h:OkRs l)(p:Res→Bool):OkRs (l.filter p):=⟨Nat.le_trans (List.length_filter_le _ _) h.len,fun r hr=>h.all r (List.mem_filter.1 hr).1⟩
theorem zwn {c:Cache}(h:OkRs c.l):OkRs (zed c).l:=by
 unfold zed;split
 ·exact h
 ·exact⟨by simp[newC],fun r hr=>by simp[newC]at hr⟩
theorem zws {c:Cache}{adds:List Res}{gone:List Key}(h:OkRs c.l)(ha:OkRs adds)(hl:adds.length≤1000):OkRs (zgd c adds gone).1.l:=by
 have h1:=zwn h;have h2:=tab_len (saneC_iff.1 (zka c)).2.1;unfold zgd zj6;split
 ·exact ql5 h1 ha (by omega)
 ·exact h1
theorem zwm {w:Warm}(h:OkRs w.c.l)(hs:OkRs w.shown):OkRs (zew w).c.l∧OkRs (zew w).shown:=by
 unfold zew;split
 ·exact⟨h,hs⟩
 ·exact⟨⟨by simp[newW,newC],fun r hr=>by simp[newW,newC]at hr⟩,⟨by simp[newW],fun r hr=>by simp[newW]at hr⟩⟩
theorem zwo {c:Cache}(h:OkRs c.l):OkRs (zfi c):=zwq (zwn h) _
theorem ok_nil :OkRs []:=⟨by simp,fun r hr=>by simp at hr⟩
theorem qbk {w:Warm}{adds:List Res}{gone:List Key}(h:OkRs w.c.l)(hs:OkRs w.shown)(ha:OkRs adds)(hl:adds.length≤1000):OkRs (zcr w adds gone).1.c.l∧OkRs (zcr w adds gone).1.shown:=by
 obtain⟨h1,h2⟩:=zwm h hs;unfold zcr zh7;split
 ·exact⟨h1,h2⟩
 ·have h3:=zws (gone:=gone) h1 ha hl;unfold zmj;split
  ·exact⟨h3,h2⟩
  ·exact⟨h3,zwo h3⟩
theorem zvk (w:Warm)(adds:List Res)(gone:List Key):(zcr w adds gone).1.c.l.length≤64∧(zcr w adds gone).1.shown.length≤64:=by
 have h:=saneW_iff.1 (zpd w adds gone);have h1:=tab_len (saneC_iff.1 h.1).2.1;refine⟨h1,?_⟩;rw[h.2.1];exact Nat.le_trans (List.length_filter_le _ _) h1
theorem zr0 {p:Pins}(h:OkPins p){l:List Res}(hl:OkRs l)(hl2:l.length≤64):OkPins (zbp p l).1:=by
 have hs:=saneP_iff.1 (ziu p l);have h1:=h.sound.snaps;refine⟨?_,by omega,by omega⟩;unfold zbp zdf;split
 ·exact h1
 ·split
  ·exact h1
  ·intro q hq;rcases List.mem_append.1 hq with hq|hq
   ·exact h1 q (List.mem_filter.1 hq).1
   ·rw[List.mem_singleton.1 hq];exact⟨hl,hl2⟩
theorem OkX.mk' {s:Side}(h1:OkRs s.w.c.l)(h2:s.w.c.l.length≤1000)(h3:OkRs s.w.shown)(hp:OkPins s.p):OkX s:=⟨h1,h2,h3,hp.snaps,hp.next,hp.sl⟩
theorem OkX.new (l m:Int):OkX (newX l m):=.mk' ok_nil (by simp[newX,newW,newC]) ok_nil ⟨by simp[newX],by simp[newX],by simp[newX]⟩
theorem OkX.sound {s:Side}(h:OkX s):OkX (soundX s):=by
 unfold soundX;split
 ·exact h
 ·exact .new _ _
theorem OkX.step {s:Side}(h:OkX s){f:Frame}(ha:OkRs f.adds)(hl:f.adds.length≤1000):OkX (zd4 s f).1:=by
 obtain⟨h1,h2⟩:=qbk (gone:=f.gone) h.c h.shown ha hl;obtain⟨h3,h4⟩:=zvk s.w f.adds f.gone;unfold zd4;dsimp only;generalize zcr s.w f.adds f.gone=W at h1 h2 h3 h4⊢;obtain⟨w',ch,why⟩:=W;simp only at h1 h2 h3 h4⊢;cases ch with
 |false=>
  simp only[Bool.false_eq_true,false_and,if_false];split
  ·exact .mk' h.c h.cl h.shown h.pins
  ·exact .mk' h1 (by simp only;omega) h2 h.pins
 |true=>
  simp only[true_and,if_true];split
  ·exact h
  ·split
   ·exact .mk' h.c h.cl h.shown h.pins
   ·exact .mk' h1 (by simp only;omega) h2 (zr0 h.pins h2 h4)
theorem qdc (s:Side)(f:Frame):(zd4 s f).1.turn=s.turn:=by
 unfold zd4;dsimp only
 (repeat' split)<;>rfl
theorem zgk {s:Side}{f:Frame}(h:zbo s f=0):za4 f=0:=by
 unfold zbo at h;split at h
 ·cases h
 ·split at h
  ·rename_i h1;exact absurd h h1
  ·rename_i h1;exact Decidable.not_not.1 h1
theorem zyr {s:Side}(h:za0 s=true):0≤s.turn∧s.turn≤2147483647:=rngB_iff.1 (saneX_iff.1 h).turn
theorem qv6 {s:Str}{n:Nat}(h:(bs s).length≤n)(hn:n≤9223372036854775807):nB s:=Nat.le_trans h hn
theorem ztv {r:Res}(h:zbd r=0):OkRes r:=by
 obtain⟨h1,h2,h3,h4,h5,h6⟩:=zg8 h;have n1:=qib h2;simp only[zco,Bool.and_eq_true,decide_eq_true_eq,List.all_eq_true,zh8]at h3;refine⟨qv6 n1 (by omega),?_,by omega,fun x hx=>?_,by omega⟩
 ·by_cases ht:mayT r.kind=true
  ·simp only[zib,ht,Bool.not_true,Bool.false_or,Bool.and_eq_true]at h5;exact qv6 (qib h5.1) (by omega)
  ·simp only[zgx,ht,Bool.or_false,Bool.and_eq_true,decide_eq_true_eq]at h4;unfold nB;rw[h4.1.1.2];simp
 ·have:=(h3.2 x hx).1;omega
theorem qhr {l:List Res}(h:tabE l=0):OkRs l:=⟨by have:=tab_len h;omega,fun r hr=>ztv (zpb h hr)⟩
theorem zf5 {f:Frame}(h:za4 f=0):OkFrame f:=by
 have F:=frameE_zero.1 h;have L:=zcv F.small;exact⟨⟨by omega,fun r hr=>ztv (F.adds r hr)⟩,by omega,by omega,by omega⟩
theorem qdr {s:Sess}(q:Store)(f:Frame)(hs:zbr s=true)(hp:OkFrame s.v.push):OkFrame (handle s q f).1.v.push:=by
 rcases zz0 q f hs with e|e
 ·rw[e];exact hp
 ·rw[e];exact zu4
end Go.G
