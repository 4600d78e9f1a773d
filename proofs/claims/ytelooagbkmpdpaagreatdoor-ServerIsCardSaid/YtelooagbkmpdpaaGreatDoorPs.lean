/-
  LAYERS 9 to 20, plainly
-/
import Derived.Test.YtelooagbkmpdpaaGreatDoorPl
set_option linter.unusedSimpArgs false
set_option linter.unusedVariables false
set_option maxRecDepth 100000
set_option maxHeartbeats 8000000
namespace Go.G
theorem MK :∀(g:List Key) (l:List aC) (k:Key),aQ (g.foldl gZ l) k=if k∈g then none else aQ l k
 |[],l,k=>by simp
 |q::g,l,k=>by
  rw[iG,MK g,Z0];by_cases h:k∈g
  ·simp[h]
  ·by_cases e:q=k
   ·subst e;simp
   ·have:¬k=q:=λe'=>e e'.symm;simp[h,e,this]
def qZ (l:List aC)(k:Key):Option aC:=l.reverse.find? λr=>decide (r.key=k)
theorem ML :∀(a l:List aC) (k:Key),aQ (a.foldl hC l) k=match qZ a k with|some r=>some r|none=>aQ l k
 |[],l,k=>by simp[qZ]
 |m::a,l,k=>by
  rw[iG,ML a];unfold qZ;rw[List.reverse_cons,List.find?_append];cases h:a.reverse.find? _ with
  |some x=>rfl
  |none=>
   simp only[Option.none_or];rw[Z3];by_cases e:m.key=k<;>simp[e]
theorem Z4 (l a:List aC)(g:List Key)(k:Key):aQ (jQ l a g) k=match qZ a k with|some r=>some r|none=>if k∈g then none else aQ l k:=by
 unfold jQ;rw[ML,MK]
theorem B1 {l:List aC}(h:cZ l)(p:aC->Bool):cZ (l.filter p):=by
 exact h.sublist ((List.filter_sublist).map _)
theorem Fp {l:List aC}(h:cZ l)(r:aC):cZ (hC l r):=by
 have h1:=B1 h λx=>decide (bR x.key r.key= -1);have h2:=B1 h λx=>decide (bR x.key r.key=1);have a1:∀x∈(kC l r.key (-1)).map aC.key,bR x r.key= -1:=by
  grind
 have a2:∀x∈(kC l r.key 1).map aC.key,bR r.key x= -1:=by
  intro x hx;obtain⟨a,ha,rfl⟩:=dV.1 hx;have:bR a.key r.key=1:=by grind
  rw[xU,this]
 unfold hC cZ fL;rw[sM,sM,List.pairwise_append,List.pairwise_append];refine⟨⟨h1,by simp,?_⟩,h2,?_⟩
 ·grind
 ·intro x hx y hy;rcases fZ.1 hx with h|h
  ·exact rE (a1 x h) (a2 y hy)
  ·grind
theorem Fq {l:List aC}(h:cZ l)(a:List aC)(g:List Key):cZ (jQ l a g):=by
 have h1:∀(g:List Key) (l:List aC),cZ l->cZ (g.foldl gZ l):=by
  intro g;induction g with
  |nil=>exact λ_ h=>h
  |cons q g ih=>exact λl h=>ih _ (B1 h _)
 have h2:∀(a l:List aC),cZ l->cZ (a.foldl hC l):=by
  intro a;induction a with
  |nil=>exact λ_ h=>h
  |cons q g ih=>exact λl h=>ih _ (Fp h _)
 exact h2 _ _ (h1 _ _ h)
theorem Fs {a b:List aC}(ha:cZ a)(hb:cZ b)(h:∀k,aQ a k=aQ b k):a=b:=by
 have hk:a.map aC.key=b.map aC.key:=B0 ha hb λk=>by rw[mem_keys,mem_keys,h]
 refine yJ λi=>?_;have hi:=cI (λl=>l[i]?) hk;simp at hi;cases e1:a[i]? with
 |none=>
  cases e2:b[i]? with
  |none=>rfl
  |some y=>simp[e1,e2]at hi
 |some x=>
  cases e2:b[i]? with
  |none=>simp[e1,e2]at hi
  |some y=>
   simp only[e1,e2,lF,mV]at hi;have g1:=tU ha (gI e1);have g2:=tU hb (gI e2);rw[<-hi,<-h,g1]at g2;exact g2
theorem A3 {l:List aC}{k:Key}:aQ l k=none↔∀r∈l,¬r.key=k:=by
 unfold aQ;simp
theorem YE {l:List aC}{k:Key}:qZ l k=none↔∀r∈l,¬r.key=k:=by
 unfold qZ;simp
theorem YD {l:List aC}{k:Key}{r:aC}(h:qZ l k=some r):r∈l/\r.key=k:=by
 exact⟨by simpa using List.mem_of_find?_eq_some h,by simpa using List.find?_some h⟩
theorem YF {l:List aC}(h:cZ l)(k:Key):qZ l k=aQ l k:=by
 cases e:qZ l k with
 |none=>exact(A3.2 (YE.1 e)).symm
 |some r=>
  obtain⟨h1,h2⟩:=YD e;rw[<-h2,tU h h1]
theorem KV {a b:List aC}{k:Key}:k∈eQ a b↔(aQ a k).isSome=true/\aQ b k=none:=by
 unfold eQ;rw[jK,mem_keys];cases aQ b k<;>simp
theorem U6 {a b:List aC}(ha:cZ a)(hb:cZ b):jQ a (dR a b) (eQ a b)=b:=by
 have hd:cZ (dR a b):=B1 hb _;refine Fs (Fq ha _ _) hb λk=>?_;rw[Z4,YF hd];have mem:∀r,r∈dR a b↔r∈b/\¬aQ a r.key=some r:=λr=>by simp[dR]
 cases hbk:aQ b k with
 |none=>
  have h1:aQ (dR a b) k=none:=A3.2 λr hr=>A3.1 hbk r ((mem r).1 hr).1;simp only[h1];split
  ·rfl
  ·rename_i h;cases h2:aQ a k with
   |none=>rfl
   |some x=>exact absurd (KV.2 ⟨by rw[h2];rfl,hbk⟩) h
 |some r=>
  have hr:=tK hbk;have hk:=E9 hbk;by_cases h:aQ a k=some r
  ·have h1:aQ (dR a b) k=none:=A3.2 λx hx e=>by
    obtain⟨q1,q2⟩:=(mem x).1 hx;have:=tU hb q1;simp_all
   have h2:k∉eQ a b:=λhm=>by have:=(KV.1 hm).2;rw[hbk]at this;cases this
   simp only[h1,aR h2,h]
  ·have:r∈dR a b:=(mem r).2 ⟨hr,by rw[hk];exact h⟩;have:=tU hd this;rw[hk]at this;simp only[this]
def qJ (now:List aC)(v:Int)(r:aC):aC:={r with bZ:=match aQ now r.key with
 |some o=>if dX o r then o.bZ else v
 |none=>v}
theorem C5 (now l:List aC)(v:Int):kN now l v=l.map (qJ now v):=rfl
theorem Q3 (now:List aC)(v:Int)(r:aC):(qJ now v r).key=r.key:=rfl
theorem Q4 (now:List aC)(v:Int)(r:aC):qJ now v (qJ now v r)=qJ now v r:=by rfl
theorem QW (now l:List aC)(v:Int):kN now (kN now l v) v=kN now l v:=by
 rw[C5,C5,List.map_map];exact List.map_congr_left λr _=>Q4 now v r
theorem Q2 {now:List aC}{v:Int}{o r:aC}(h:aQ now r.key=some o)(ha:dX o r=true):qJ now v r=o:=by
 unfold qJ;rw[h];simp only[ha];exact Ge ha
structure oG (cap:Int)(h:List (List aC)):Prop where
 first:h[0]? =some []
 step:∀(i:Nat) now l,h[i]? =some now->h[i+1]? =some l->(∃p,l=kN now p ((i:Int)+1))/\iP cap (i+1) now l=0
theorem oG.F5 {cap:Int}{h:List (List aC)}(hh:oG cap h){i:Nat}{l:List aC}(hl:h[i]? =some l):cZ l:=by
 cases i with
 |zero=>rw[hh.first]at hl;cases hl;simp
 |succ i=>
  have hi:i<h.length:=by grind
  exact C0 (N3 (hh.step i h[i] l (bL hi) hl).2)
theorem LJ {cap:Int}{h:List (List aC)}{i:Nat}{now:List aC}(hn:h[i]? =some now):cM ⟨cap,h.take (i+1)⟩=now:=by
 unfold cM;rw[yH,LI hn];rfl
theorem ZH {cap:Int}{h:List (List aC)}(hh:oG cap h):∀(m i:Nat),i+1+m=h.length->uV ⟨cap,h.take (i+1)⟩ (h.drop (i+1))=true:=by
 intro m;induction m with
 |zero=>intro i hi;rw[GJ (by omega)];rfl
 |succ m ih=>
  intro i hi;have h0:i<h.length:=by omega
  have h1:i+1<h.length:=by omega
  have e0:h[i]? =some h[i]:=bL h0;have e1:h[i+1]? =some h[i+1]:=bL h1;have hl:cM ⟨cap,h.take (i+1)⟩=h[i]:=LJ e0;obtain⟨⟨p,hp⟩,hc⟩:=hh.step i _ _ e0 e1;have hlen:(h.take (i+1)).length=i+1:=by grind
  have hN:lW ⟨cap,h.take (i+1)⟩ (dR h[i] h[i+1]) (eQ h[i] h[i+1])=h[i+1]:=by
   unfold lW;rw[hl,U6 (hh.F5 e0) (hh.F5 e1)];simp only[hlen];have:((i+1:Nat):Int)=(i:Int)+1:=by omega
   rw[this,hp,QW]
  have hE:mL ⟨cap,h.take (i+1)⟩ (dR h[i] h[i+1]) (eQ h[i] h[i+1])=0:=by
   unfold mL;rw[hN,hl];simp only[hlen];exact hc
  rw[qF h1];simp only[uV,hl,hE,hN,pF];have:=ih (i+1) (by omega)
  rwa[eW,e1]at this
theorem MF {cap:Int}:∀(r h:List (List aC)),oG cap h->uV ⟨cap,h⟩ r=true->oG cap (h++r)
 |[],h,hh,_=>by simpa using hh
 |l::r,h,hh,hs=>by
  simp only[uV,bN,dO]at hs;obtain⟨⟨h1,h2⟩,h3⟩:=hs;have h0:0<h.length:=(cJ.1 hh.first).1;have hn:oG cap (h++[l]):=by
   refine⟨by rw[lS h0];exact hh.first,λi now l' e1 e2=>?_⟩;have hi:i+1<(h++[l]).length:=(cJ.1 e2).1;simp only[oK,jL,j6]at hi;rw[lS (by omega)]at e1;by_cases hlt:i+1<h.length
   ·rw[lS hlt]at e2;exact hh.step i now l' e1 e2
   ·have hie:i+1=h.length:=by omega
    rw[mF (by omega),hie]at e2;simp at e2;subst e2;have hl:cM ⟨cap,h⟩=now:=by
     have:=LJ (cap:=cap) e1
     rwa[hie,bK]at this
    have hE:=h1;unfold mL at hE;rw[h2,hl]at hE;refine⟨⟨jQ now (dR now l) (eQ now l),?_⟩,by rw[hie];exact hE⟩;unfold lW at h2;rw[hl]at h2;have:((h.length:Nat):Int)=(i:Int)+1:=by omega
    simp only[this]at h2;exact h2.symm
  have:=MF r (h++[l]) hn h3;simpa using this
theorem L4 (cap:Int):oG cap [[]]:=⟨rfl,λi now l h1 h2=>by simp at h2⟩
theorem y8 (s:aZ):pL s=true↔s.cap=k9 s.cap/\s.aU.length<=100000/\oG s.cap s.aU:=by
 constructor
 ·intro h;simp only[pL,bN,dO]at h;obtain⟨⟨⟨⟨h1,h2⟩,h3⟩,h4⟩,h5⟩:=h;refine⟨h1,h3,?_⟩;cases hh:s.aU with
  |nil=>rw[hh]at h2;simp at h2
  |cons a t=>
   rw[hh]at h4 h5;subst h4;have:=MF (cap:=s.cap) t [[]] (L4 _) (by
    have e:dU s.cap=⟨s.cap,[[]]⟩:=by unfold dU;rw[<-h1]
    rw[e]at h5;simpa using h5)
   simpa using this
 ·rintro⟨h1,h2,h3⟩;have h0:0<s.aU.length:=(cJ.1 h3.first).1;have hg:=ZH h3 (s.aU.length-1) 0 (by omega);have e:s.aU.take (0+1)=[[]]:=by
   rw[eW,h3.first];rfl
  rw[e]at hg;have hd:s.aU.headD []=[]:=by
   have:=h3.first;cases hh:s.aU with
   |nil=>rfl
   |cons a t=>rw[hh]at this;simpa using this
  have e2:dU s.cap=⟨s.cap,[[]]⟩:=by unfold dU;rw[<-h1]
  have a1:1<=s.aU.length:=by omega
  simp only[pL,uD h1,uD a1,uD h2,uD hd,e2];simpa using hg
theorem YC {s:aZ}(h:0<s.aU.length):s.aU[s.aU.length-1]? =some (cM s):=by
 unfold cM;rw[yH,<-List.getLast?_eq_getElem?];cases e:s.aU.getLast? with
 |none=>rw[List.getLast?_eq_none_iff]at e;rw[e]at h;simp at h
 |some x=>rfl
theorem SQ {s:aZ}(h:pL s=true):s.cap=k9 s.cap:=((y8 s).1 h).1
theorem HW {s:aZ}(h:pL s=true):0<s.aU.length:=(cJ.1 ((y8 s).1 h).2.2.first).1
theorem HT {s:aZ}(h:pL s=true):cO s=s:=by
 have h0:=HW h;rw[CW (by intro e;rw[e]at h0;simp at h0),<-SQ h]
theorem SP (n:Int):pL (dU n)=true:=(y8 _).2 ⟨by simp[dU,FZ],by simp[dU],L4 _⟩
structure Acc (cap:Int)(l:List aC):Prop where
 QN:gQ l=0
 len:(l.length:Int)<=cap
 miss:(u3 l).length=0
 served:nS l=0
theorem Dd {cap:Int}{n:Nat}{now next:List aC}(h:iP cap n now next=0):Acc cap next/\¬now=next:=by
 have ht:=N3 h;unfold iP at h;rw[bA ht]at h;split at h
 ·simp at h
 ·rename_i h1;split at h
  ·simp at h
  ·rename_i h2;split at h
   ·simp at h
   ·rename_i h3;split at h
    ·simp at h
    ·rename_i h4;exact⟨⟨ht,by omega,by omega,by omega⟩,h4⟩
theorem SI :nS []=0:=by decide+kernel
theorem Gr {cap:Int}(h:0<=cap):Acc cap []:=⟨by decide+kernel,by simpa using h,by decide+kernel,SI⟩
theorem Dj (n:Int):0<=k9 n/\k9 n<=64:=by unfold k9;omega
theorem oG.acc {cap:Int}(hc:0<=cap){h:List (List aC)}(hh:oG cap h){i:Nat}{l:List aC}(hl:h[i]? =some l):Acc cap l:=by
 cases i with
 |zero=>rw[hh.first]at hl;cases hl;exact Gr hc
 |succ i=>
  have hi:i<h.length:=by grind
  exact(Dd (hh.step i h[i] l (bL hi) hl).2).1
theorem SR {s:aZ}(h:pL s=true):Acc s.cap (cM s):=by
 obtain⟨h1,h2,h3⟩:=(y8 s).1 h;have h0:=HW h;exact h3.acc (by have:=Dj s.cap;omega) (YC h0)
structure Gx (h:List (List aC))(i:Nat)(r:aC):Prop where
 is:∃j m y,r.bZ=((j+1:Nat):Int)/\j+1<=i/\h[j+1]? =some m/\aQ m r.key=some r/\h[j]? =some y/\∀o,aQ y r.key=some o->dX o r=false
theorem oG.bZ {cap:Int}{h:List (List aC)}(hh:oG cap h):∀(i:Nat) (l:List aC),h[i]? =some l->∀r∈l,Gx h i r
 |0,l,hl,r,hr=>by rw[hh.first]at hl;cases hl;simp at hr
 |i+1,l,hl,r,hr=>by
  have hi:i<h.length:=by have:=(cJ.1 hl).1;omega
  have e0:h[i]? =some h[i]:=bL hi;obtain⟨⟨p,hp⟩,hc⟩:=hh.step i _ _ e0 hl;have hasc:=hh.F5 hl;have hg:=tU hasc hr;rw[hp,C5]at hr;obtain⟨q,hq,rfl⟩:=dV.1 hr;by_cases hold:∃o,aQ h[i] q.key=some o/\dX o q=true
  ·obtain⟨o,ho,ha⟩:=hold;rw[Q2 ho ha];obtain⟨j,m,y,h1,h2,h3⟩:=(hh.bZ i _ e0 o (tK ho)).is;exact⟨j,m,y,h1,by omega,h3⟩
  ·have hv:(qJ h[i] ((i:Int)+1) q).bZ=(i:Int)+1:=by
    unfold qJ;cases ho:aQ h[i] q.key with
    |none=>rfl
    |some o=>
     have:¬dX o q=true:=λha=>hold ⟨o,ho,ha⟩;simp[this]
   refine⟨i,l,h[i],by rw[hv];omega,aY _,hl,hg,e0,λo ho=>?_⟩;rw[Q3]at ho;cases ha:dX o q with
   |false=>exact ha
   |true=>exact absurd ⟨o,ho,ha⟩ hold
def bare (r:aC):aC:={r with bZ:=0}
@[simp] theorem bare_key (r:aC):(bare r).key=r.key:=rfl
def fV (l:List aC)(out:List Key)(q:Key):List Key:=if(aQ l q).isSome=true/\q∉out then out++[q]else out
def gA (l:List aC)(out:List Key)(r:aC):List Key:=if r.key∈out then(bJ r).foldl (fV l) out else out
def eF (l:List aC):Nat->List Key
 |0=>iJ l
 |n+1=>l.foldl (gA l) (eF l n)
def zH (l:List aC):List aC:=l.filter λr=>decide (r.key∈eF l 4)
theorem QS (l:List aC)(out:List Key)(q:Key):(fV l out q).length<=out.length+1:=by unfold fV;split<;>simp
theorem QR (l:List aC)(out:List Key)(q:Key):∀x∈out,x∈fV l out q:=by
 intro x hx;unfold fV;split<;>simp[hx]
theorem FD (l:List aC):∀(m out:List Key),(m.foldl (fV l) out).length<=out.length+m.length
 |[],out=>by simp
 |q::m,out=>by
  have h1:=FD l m (fV l out q);have h2:=QS l out q;rw[iG,jL];omega
theorem xK (l:List aC):∀(m out:List Key),∀x∈out,x∈m.foldl (fV l) out
 |[],_,_,h=>h
 |q::m,out,x,h=>xK l m _ x (QR l out q x h)
theorem TF (l:List aC)(out:List Key)(r:aC):(gA l out r).length<=out.length+33:=by
 unfold gA;split
 ·have:=FD l (bJ r) out;have:=nV r;omega
 ·omega
theorem FF (l:List aC):∀(m:List aC) (out:List Key),(m.foldl (gA l) out).length<=out.length+33*m.length
 |[],out=>by simp
 |q::m,out=>by
  have h1:=FF l m (gA l out q);have h2:=TF l out q;rw[iG,jL];omega
theorem ID (l:List aC):(iJ l).length<=l.length:=by
 have:=eE (λr:aC=>decide (r.kind=0)) l;simpa[iJ]using this
theorem DL (l:List aC):∀n,(eF l n).length<=l.length+33*l.length*n
 |0=>by have:=ID l;simpa[eF]using this
 |n+1=>by
  have h1:=DL l n;have h2:=FF l l (eF l n);unfold eF;have:33*l.length*(n+1)=33*l.length*n+33*l.length:=by rw[Nat.mul_succ]
  omega
def yE (l:List aC)(out:List Key)(k:Key):Prop:=∀r,aQ l k=some r->∀q∈bJ r,(aQ l q).isSome=true->q∈out
theorem GU (l:List aC)(n:Nat)(out:List Key)(k:Key)(h:(aQ l k).isSome=true):k∈dW l (n+1) out k:=by
 unfold dW;obtain⟨r,hr⟩:=oJ.1 h;rw[hr];simp only;split
 ·assumption
 ·exact oX (sS l n) _ _ _ (by simp)
theorem GV (l:List aC):∀(n:Nat) (out:List Key) (k:Key),jS l out<n->∀x∈dW l n out k,x∉out->yE l (dW l n out k) x
 |0,_,_,h=>by omega
 |n+1,out,k,h=>by
  intro x hx hno;unfold dW at hx⊢;cases hr:aQ l k with
  |none=>rw[hr]at hx;exact absurd hx hno
  |some r=>
   rw[hr]at hx;simp only at hx⊢;by_cases hk:k∈out
   ·rw[bA hk]at hx;exact absurd hx hno
   ·rw[aR hk]at hx⊢;have hlt:jS l (out++[k])<n:=by
     have:=AJ (l:=l) (out:=out) (k:=k) (mem_keys.2 (by rw[hr];rfl)) hk;omega
    have key:∀(m:List Key) (o:List Key),jS l o<n->(∀q∈m,(aQ l q).isSome=true->q∈m.foldl (dW l n) o)/\∀x∈m.foldl (dW l n) o,x∉o->yE l (m.foldl (dW l n) o) x:=by
     intro m;induction m with
     |nil=>exact λo _=>⟨λq hq=>by simp at hq,λx hx hn=>absurd hx hn⟩
     |cons q m ih=>
      intro o ho;rw[iG];have hle:jS l (dW l n o q)<n:=by
       have:=wY (l:=l) (a:=o) (b:=dW l n o q) (λx hx=>sS l n o q x hx);omega
      obtain⟨i1,i2⟩:=ih _ hle;have hsub:∀x,x∈dW l n o q->x∈m.foldl (dW l n) (dW l n o q):=λx hx=>oX (sS l n) m _ x hx;refine⟨λp hp hs=>?_,λx hx hn=>?_⟩
      ·rcases iF.1 hp with e|e
       ·subst e;cases n with
        |zero=>omega
        |succ n=>exact hsub _ (GU l n o _ hs)
       ·exact i1 p e hs
      ·by_cases hv:x∈dW l n o q
       ·intro r hr p hp hs;exact hsub _ (GV l n o q ho x hv hn r hr p hp hs)
       ·exact i2 x hx hv
    obtain⟨k1,k2⟩:=key (bJ r) (out++[k]) hlt;by_cases hxk:x=k
    ·subst hxk;intro r' hr' q hq hs;rw[hr]at hr';cases hr';exact k1 q hq hs
    ·exact k2 x hx (by simp[hno,hxk])
theorem IV (l:List aC):∀x∈k6 l,yE l (k6 l) x:=by
 have key:∀(m o:List Key),(∀x∈o,yE l o x)->∀x∈m.foldl (dW l (l.length+1)) o,yE l (m.foldl (dW l (l.length+1)) o) x:=by
  intro m;induction m with
  |nil=>exact λo h=>h
  |cons q m ih=>
   intro o h;refine ih _ λx hx=>?_;by_cases hn:x∈o
   ·intro r hr p hp hs;exact sS l _ o q p (h x hn r hr p hp hs)
   ·exact GV l _ o q (by have:=AK l o;omega) x hx hn
 exact key _ [] (λx hx=>by simp at hx)
theorem IU {l:List aC}{k:Key}(h:k∈iJ l):k∈k6 l:=by
 have key:∀(m o:List Key),k∈m->k∈m.foldl (dW l (l.length+1)) o:=by
  have hs:(aQ l k).isSome=true:=by
   obtain⟨r,hr,rfl⟩:=dV.1 h;exact mem_keys.1 (dV.2 ⟨r,(jK.1 hr).1,rfl⟩)
  intro m;induction m with
  |nil=>intro o h;simp at h
  |cons q m ih=>
   intro o hm;rcases iF.1 hm with e|e
   ·subst e;exact oX (sS l _) m _ _ (GU l _ o _ hs)
   ·exact ih _ e
 exact key _ [] h
theorem I1 {l:List aC}(ha:cZ l):∀(n:Nat),∀x∈eF l n,x∈k6 l
 |0,x,h=>IU h
 |n+1,x,h=>by
  have ih:=I1 ha n;have step:∀(m:List aC) (o:List Key),(∀r∈m,r∈l)->(∀x∈o,x∈k6 l)->∀x∈m.foldl (gA l) o,x∈k6 l:=by
   intro m;induction m with
   |nil=>exact λo _ h=>h
   |cons r m ihm=>
    intro o hm ho;rw[iG];refine ihm _ (λq hq=>hm q (by simp[hq])) ?_;unfold gA;split
    ·rename_i hk;have hr:=tU ha (hm r (by simp));have hkr:=ho _ hk;have inner:∀(s:List Key) (o:List Key),(∀q∈s,q∈bJ r)->(∀x∈o,x∈k6 l)->∀x∈s.foldl (fV l) o,x∈k6 l:=by
      intro s;induction s with
      |nil=>exact λo _ h=>h
      |cons q s ihs=>
       intro o hs ho;rw[iG];refine ihs _ (λp hp=>hs p (by simp[hp])) ?_;unfold fV;split
       ·rename_i hc;intro x hx;rcases fZ.1 hx with e|e
        ·exact ho x e
        ·simp at e;subst e;exact IV l r.key hkr r hr _ (hs _ (by simp)) hc.1
       ·exact ho
     exact inner _ _ (λ_ h=>h) ho
    ·exact ho
  exact step l _ (λ_ h=>h) ih x h
end Go.G
namespace Go.Nonce
structure Ou where
 (l0 l1 l2 l3:Int) (o0 o1 o2 o3:Bool) (m:Int)
 deriving DecidableEq
structure Nn where
 (l0 l1 l2 l3 m:Int)
 deriving DecidableEq
def jG (n:Int):Int:=max 1 (min n 2147483647)
def nR (n:Int):Ou:=⟨0,0,0,0,false,false,false,false,jG n⟩
def sU (n:Int):Nn:=⟨0,0,0,0,jG n⟩
def eX (i:Nn):Bool:=
 decide (0<=i.l0)&&decide (i.l0<=i.m)&&decide (0<=i.l1)&&decide (i.l1<=i.m)&&decide (0<=i.l2)&&decide (i.l2<=i.m)&&decide (0<=i.l3)&&decide (i.l3<=i.m)&&decide (1<=i.m)&&decide (i.m<=2147483647)
def Ou.kL (o:Ou):Nn:=⟨o.l0,o.l1,o.l2,o.l3,o.m⟩
def fX (o:Ou):Bool:=
 !(o.o0&&decide (o.l0=0))&& !(o.o1&&decide (o.l1=0))&& !(o.o2&&decide (o.l2=0))&& !(o.o3&&decide (o.l3=0))&&eX o.kL
def jR (o:Ou):Ou:=if fX o then o else nR o.m
def Y5 (i:Nn):Nn:=if eX i then i else sU i.m
def lO (k:Int):Bool:=decide (0<=k)&&decide (k<4)
def Ou.last (o:Ou)(k:Int):Int:=if k=0 then o.l0 else if k=1 then o.l1 else if k=2 then o.l2 else o.l3
def Ou.fJ (o:Ou)(k:Int):Bool:=if k=0 then o.o0 else if k=1 then o.o1 else if k=2 then o.o2 else o.o3
def Ou.set (o:Ou)(k l:Int)(b:Bool):Ou:=
 if k=0 then{o with l0:=l,o0:=b}else if k=1 then{o with l1:=l,o1:=b}else if k=2 then{o with l2:=l,o2:=b}else{o with l3:=l,o3:=b}
def Nn.last (o:Nn)(k:Int):Int:=if k=0 then o.l0 else if k=1 then o.l1 else if k=2 then o.l2 else o.l3
def Nn.set (o:Nn)(k l:Int):Nn:=
 if k=0 then{o with l0:=l}else if k=1 then{o with l1:=l}else if k=2 then{o with l2:=l}else{o with l3:=l}
def oQ (o:Ou)(k:Int):Ou×Int×Int:=
 if lO k=false then(o,0,4)
 else if o.fJ k then(o,0,15)
 else if o.last k=o.m then(o,0,14)
 else(o.set k (o.last k+1) true,o.last k+1,0)
def push (o:Ou)(k:Int):Ou×Int×Int:=oQ (jR o) k
def oC (o:Ou)(k n:Int):Ou×Int:=
 if lO k=false then(o,4)
 else if o.fJ k=false\/n≠o.last k then(o,11)
 else(o.set k (o.last k) false,0)
def done (o:Ou)(k n:Int):Ou×Int:=oC (jR o) k n
def QJ (i:Nn)(k n:Int):Nn×Int:=
 if lO k=false then(i,4)
 else if n≠0/\n=i.last k then(i,9)
 else if n≠i.last k+1\/i.m<n then(i,11)
 else(i.set k n,0)
def take (i:Nn)(k n:Int):Nn×Int:=QJ (Y5 i) k n
theorem uR (a b c d m:Int):(eX ⟨a,b,c,d,m⟩=true)=(0<=a/\a<=m/\0<=b/\b<=m/\0<=c/\c<=m/\0<=d/\d<=m/\1<=m/\m<=2147483647):=by
 simp[eX,and_assoc]
theorem F2 (n:Int):1<=jG n/\jG n<=2147483647:=by simp only[jG];omega
def Ou.ok (o:Ou):Prop:=(0<=o.l0/\o.l0<=o.m/\0<=o.l1/\o.l1<=o.m/\0<=o.l2/\o.l2<=o.m/\0<=o.l3/\o.l3<=o.m/\1<=o.m/\o.m<=2147483647)
def Nn.ok (o:Nn):Prop:=(0<=o.l0/\o.l0<=o.m/\0<=o.l1/\o.l1<=o.m/\0<=o.l2/\o.l2<=o.m/\0<=o.l3/\o.l3<=o.m/\1<=o.m/\o.m<=2147483647)
theorem JT (o:Ou):(jR o).ok:=by
 obtain⟨a,b,c,d,x,y,z,t,m⟩:=o;simp only[jR];by_cases h:fX ⟨a,b,c,d,x,y,z,t,m⟩=true
 ·rw[bA h];simp only[fX,Ou.kL,bN,uR]at h;exact h.2
 ·rw[aR h];have:=F2 m;simp only[Ou.ok,nR];omega
theorem AQ {k:Int}(h:lO k=true):k=0\/k=1\/k=2\/k=3:=by
 simp only[lO,bN,decide_eq_true_iff]at h;omega
end Go.Nonce
namespace Go.G
open Go.AI
def eA (k:Key):Bool:=aV k.kind 3&&cP k.name
def fH (f:Frame):Bool:=
 (decide (f.aL.length<=64)&&decide (f.gone.length<=64)&&decide (f.aI.length<=64)&&decide (f.held.length<=64))
   &&(f.aI.all λm=>aV m.bZ 2147483647)&&aV f.cA 2147483647&&aV f.eY 2147483647&&aV f.cK 2147483647&&aV f.err 15
def lQ (f:Frame):Frame:=
 if f.type=0 then{f with cA:=0,aI:=[]}
 else if f.type=1 then{f with cA:=0,kind:=0,eY:=0,aL:=[],gone:=[]}
 else if f.type=2 then{f with cA:=0,kind:=0,eY:=0,err:=0,cK:=0,held:=[]}
 else if f.type=3 then{f with cA:=0,cK:=0,held:=[]}
 else{f with cA:=0}
def mJ (f:Frame):Bool:=decide (lQ f={cV with type:=f.type})
def fD (f:Frame):Bool:=f.gone.all eA&&f.held.all eA&&f.aI.all λm=>eA m.k
def jV (f:Frame):Bool:=(f.aL.all λr=>decide (r.kind=f.kind))&&f.gone.all λk=>decide (k.kind=f.kind)
def dE (f:Frame):Int:=
 if(aV f.type 3&&aV f.kind 3)=false then 4 else if fH f=false then 3 else if mJ f=false then 2 else if fD f=false then 5
 else if¬jD f.aL=0 then jD f.aL else if jV f=false then 2 else 0
@[simp] def kQ (o:Nonce.Ou):List D:=[iD o.l0,iD o.l1,iD o.l2,iD o.l3,bD o.o0,bD o.o1,bD o.o2,bD o.o3,iD o.m]
structure bM where
 cA:Int
 jX:Bool
 out:Nonce.Ou
 v:View
 stuck:Int
 at_:Int
 deriving DecidableEq
@[simp] def dB (s:bM):List D:=[iD s.cA,bD s.jX]++kQ s.out++iH s.v++[iD s.stuck,iD s.at_]
structure gO (s:bM):Prop where
 v:yD s.v
def j7 :View:=⟨[],[],0,cV,false⟩
def hX (cA most:Int):bM:=⟨max 0 (min cA 2147483647),false,Nonce.nR most,j7,0,0⟩
def gM (v:View):Frame:=⟨0,0,0,0,0,[],[],0,nE v.aI,[]⟩
def jE (v:View):Frame:=⟨3,0,0,0,v.cK,[],[],0,[],v.held⟩
def lJ (v:View):Bool:=decide (dE (gM v)=0)&&decide (dE (jE v)=0)
def dH (s:bM):Bool:=
 s.jX&&decide (dE s.v.push=0)&&decide (s.v.push.type=1)&&decide (s.v.push.cA=s.cA)
  &&s.out.fJ s.v.push.kind&&decide (s.out.last s.v.push.kind=s.v.push.eY)
def eL (s:bM):Bool:=aV s.cA 2147483647&&decide (0<=s.at_)&&aV s.stuck 15
def cF (s:bM):Bool:=eL s&&Nonce.fX s.out&&lJ s.v&&(!s.v.open_||dH s)
def cW (s:bM):bM:=if cF s then s else hX s.cA s.out.m
def bX (p:aZ):List aC:=cM (cO p)
def lY (p:aZ):Int:=((cO p).aU.length:Int)-1
def nH (p:aZ)(v:View)(l:List Mark):View:={v with aI:=jU p l,held:=if v.cK=0 then(jU p l).map aC.key else v.held}
def kS (s:bM)(p:aZ)(f:Frame):bM×Int:=if s.jX=true then(s,9)else({s with jX:=true,v:=nH p s.v f.aI},0)
def fT (s:bM)(p:aZ)(f:Frame):bM×Int:=
 if¬(Nonce.done s.out f.kind f.eY).2=0 then(s,(Nonce.done s.out f.kind f.eY).2)else if s.v.open_=false then(s,15)
 else if(dG s.v f).open_=true then(s,11)else if 64<(dG s.v f).aI.length then(s,3)
 else(⟨s.cA,s.jX,(Nonce.done s.out f.kind f.eY).1,dG s.v f,f.err,lY p⟩,0)
def pZ (s:bM)(f:Frame):bM×Int:=({s with v:=gT s.v f.cK f.held},0)
def eK (s:bM)(p:aZ)(f:Frame):bM×Int:=
 if¬dE f=0 then(s,dE f)else if¬f.cA=s.cA then(s,11)
 else if f.type=0 then kS s p f else if f.type=1 then(s,2)else if f.type=2 then fT s p f else pZ s f
def handle (s:bM)(p:aZ)(f:Frame):bM×Int:=eK (cW s) p f
structure Step where
 kind:Int
 aL:List aC
 gone:List Key
 deriving DecidableEq
@[simp] def rT (s:Step):List D:=[iD s.kind,lD (s.aL.map aF),lD (s.gone.map aK)]
def k8 (l:List aC)(n:Int):List aC:=l.filter λr=>decide (r.kind=n)
def lN (l:List Key)(n:Int):List Key:=l.filter λk=>decide (k.kind=n)
structure bW where
 aL:List aC
 gone:List Key
 reach:List Key
 aI:List aC
 held:List Key
def F3 (hv want:List aC)(held:List Key):bW:=⟨dR hv want,eQ hv want,(iK want).map aC.key,hv,held⟩
def bW.early (j:bW)(n:Int):Step:=⟨n,(k8 j.aL n).filter λr=>decide (r.key∈j.reach),[]⟩
def bW.late (j:bW)(n:Int):Step:=⟨n,k8 j.aL n,[]⟩
def bW.off (j:bW)(n:Int):Step:=⟨n,[],lN j.gone n⟩
def bW.rA (j:bW)(k:Key):Bool:=!(decide (k∈j.held)||decide (0<(qO j.aI k).length))
def bW.free (j:bW)(n:Int):Step:=⟨n,[],(lN j.gone n).filter j.rA⟩
def bW.doors (j:bW)(n:Int):Step:=⟨n,k8 j.aL n,lN j.gone n⟩
def Step.none (s:Step):Bool:=decide (s.aL.length+s.gone.length=0)
def bW.steps (j:bW):List Step:=[j.early 3,j.early 2,j.early 1,j.doors 0,j.late 3,j.late 2,j.late 1,j.free 1,j.free 2,j.free 3]
def s7 (hv want:List aC)(held:List Key):Option Step:=(F3 hv want held).steps.find? λs=>!s.none
def gJ (s:bM)(x:Step)(n:Int):Frame:=⟨1,s.cA,x.kind,n,0,x.aL,x.gone,0,[],[]⟩
def idle (s:bM)(p:aZ):Bool:=!s.jX||s.v.open_|| (!decide (s.stuck=0)&&decide (s.at_=lY p))
def kB (s:bM)(x:Step):bM×List Frame×Int:=
 if(Nonce.push s.out x.kind).2.2=0 then
  ({s with v:=lU s.v (gJ s x (Nonce.push s.out x.kind).2.1),out:=(Nonce.push s.out x.kind).1},[gJ s x (Nonce.push s.out x.kind).2.1],0)
 else(s,[],(Nonce.push s.out x.kind).2.2)
def DO (s:bM)(p:aZ):bM×List Frame×Int:=
 if idle s p=true then(s,[],0)else
 match s7 s.v.aI (bX p) s.v.held with
 |.none=>(s,[],0)
 |.some x=>kB s x
def zI (s:bM)(p:aZ):bM×List Frame×Int:=DO (cW s) p
def kZ (s:bM):List Frame:=if(cW s).v.open_=true then [(cW s).v.push]else []
def qM (s:bM)(p:aZ):Bool:=(cW s).jX&& !(cW s).v.open_&&decide ((cW s).v.aI=bX p)
theorem M0 {l:List aC}:jD l=0↔∀r∈l,cU r=0:=by
 unfold jD
 grind
structure Hd (f:Frame):Prop where
 type:aV f.type 3=true
 kind:aV f.kind 3=true
 small:fH f=true
 shaped:mJ f=true
 named:fD f=true
 aL:∀r∈f.aL,cU r=0
 alike:jV f=true
theorem n4 {f:Frame}:dE f=0↔Hd f:=by
 constructor
 ·intro h;unfold dE at h
  (repeat' split at h)<;>first|omega|skip
  rename_i h1 h2 h3 h4 h5 h6;simp at h1 h2 h3 h4 h5 h6;exact⟨h1.1,h1.2,h2,h3,h4,M0.1 h5,h6⟩
 ·intro h;unfold dE;have:=M0.2 h.aL;simp[h.type,h.kind,h.small,h.shaped,h.named,this,h.alike]
theorem qK {f:Frame}(h:fH f=true):f.aL.length<=64/\f.gone.length<=64/\f.aI.length<=64/\f.held.length<=64/\(∀m∈f.aI,aV m.bZ 2147483647=true)/\aV f.cA 2147483647=true/\aV f.eY 2147483647=true/\aV f.cK 2147483647=true/\aV f.err 15=true:=by
 simp only[fH,bN,dO,cS]at h;exact⟨h.1.1.1.1.1.1.1.1,h.1.1.1.1.1.1.1.2,h.1.1.1.1.1.1.2,h.1.1.1.1.1.2,h.1.1.1.1.2,h.1.1.1.2,h.1.1.2,h.1.2,h.2⟩
theorem L6 {v:View}:dE (gM v)=0↔v.aI.length<=64/\∀r∈v.aI,aV r.bZ 2147483647=true/\eA r.key=true:=by
 rw[n4];constructor
 ·intro h;have h1:=qK h.small;refine⟨by simpa[gM]using h1.2.2.1,λr hr=>⟨?_,?_⟩⟩
  ·exact h1.2.2.2.2.1 ⟨r.key,r.bZ⟩ (dV.2 ⟨r,hr,rfl⟩)
  ·have:=h.named;simp only[fD,bN,cS]at this;exact this.2 ⟨r.key,r.bZ⟩ (dV.2 ⟨r,hr,rfl⟩)
 ·rintro⟨h1,h2⟩;refine⟨rfl,rfl,?_,rfl,?_,by simp[gM],rfl⟩
  ·simp only[fH,gM,bN,cS];refine⟨⟨⟨⟨⟨⟨⟨⟨by simp,by simp⟩,by simpa using h1⟩,by simp⟩,?_⟩,rfl⟩,rfl⟩,rfl⟩,rfl⟩;intro m hm;obtain⟨r,hr,rfl⟩:=dV.1 hm;exact(h2 r hr).1
  ·simp only[fD,gM,bN,cS];refine⟨⟨by simp,by simp⟩,λm hm=>?_⟩;obtain⟨r,hr,rfl⟩:=dV.1 hm;exact(h2 r hr).2
theorem NM {v:View}:dE (jE v)=0↔v.held.length<=64/\aV v.cK 2147483647=true/\∀k∈v.held,eA k=true:=by
 rw[n4];constructor
 ·intro h;have h1:=qK h.small;refine⟨h1.2.2.2.1,h1.2.2.2.2.2.2.2.1,λk hk=>?_⟩;have:=h.named;simp only[fD,bN,cS]at this;exact this.1.2 k hk
 ·rintro⟨h1,h2,h3⟩;refine⟨rfl,rfl,?_,rfl,?_,by simp[jE],rfl⟩
  ·simp only[fH,jE,bN,cS];exact⟨⟨⟨⟨⟨⟨⟨⟨by simp,by simp⟩,by simp⟩,by first|exact h1|exact uD h1⟩,by simp⟩,rfl⟩,rfl⟩,h2⟩,rfl⟩
  ·simp only[fD,jE,bN,cS];exact⟨⟨by simp,h3⟩,by simp⟩
structure GB (s:bM):Prop where
 plain:eL s=true
 out:Nonce.fX s.out=true
 hl:s.v.aI.length<=64
 aI:∀r∈s.v.aI,aV r.bZ 2147483647=true/\eA r.key=true
 dl:s.v.held.length<=64
 cK:aV s.v.cK 2147483647=true
 held:∀k∈s.v.held,eA k=true
 waits:s.v.open_=true->dH s=true
theorem pK {s:bM}:cF s=true↔GB s:=by
 constructor
 ·intro h;simp only[cF,lJ,bN,dO]at h;obtain⟨⟨⟨h1,h2⟩,h3,h4⟩,h5⟩:=h;rw[L6]at h3;rw[NM]at h4;exact⟨h1,h2,h3.1,h3.2,h4.1,h4.2.1,h4.2.2,λh=>by simpa[h]using h5⟩
 ·intro h;simp only[cF,lJ,bN,dO];refine⟨⟨⟨h.plain,h.out⟩,L6.2 ⟨h.hl,h.aI⟩,NM.2 ⟨h.dl,h.cK,h.held⟩⟩,?_⟩;cases ho:s.v.open_ with
  |false=>rfl
  |true=>simpa using h.waits ho
theorem ZV (n:Int):Nonce.fX (Nonce.nR n)=true:=by
 have:=Nonce.F2 n;simp only[Nonce.fX,Nonce.nR,Nonce.Ou.kL,bN,Nonce.uR];refine⟨by simp,?_⟩;omega
theorem SO (e m:Int):cF (hX e m)=true:=by
 rw[pK];refine⟨?_,ZV m,by simp[hX,j7],by simp[hX,j7],by simp[hX,j7],by simp[hX,j7,aV],by simp[hX,j7],by simp[hX,j7]⟩;simp only[eL,hX,aV,bN];refine⟨⟨⟨?_,?_⟩,by simp⟩,by simp,by simp⟩<;>first|omega| (refine uD ?_;omega)
theorem sV (s:bM):cF (cW s)=true:=by
 unfold cW;split
 ·assumption
 ·exact SO _ _
theorem wH {s:bM}(h:cF s=true):cW s=s:=by simp[cW,h]
theorem U9 {o:Nonce.Ou}(h:Nonce.fX o=true):Nonce.jR o=o:=by simp[Nonce.jR,h]
theorem SS {r:aC}(h:cU r=0):aV r.bZ 2147483647=true/\eA r.key=true:=by
 cases h1:aV r.kind 3 with
 |false=>simp[cU,h1]at h
 |true=>
  cases h2:cP r.name with
  |false=>simp[cU,h1,h2]at h
  |true=>
   cases h3:cT r with
   |false=>simp[cU,h1,h2,h3]at h
   |true=>
    refine⟨?_,by simp[eA,aC.key,h1,h2]⟩;simp only[cT,bN]at h3;exact h3.1.1.1.1.1
theorem ZX {o:Nonce.Ou}(h:Nonce.fX o=true)(k n:Int):Nonce.fX (Nonce.done o k n).1=true:=by
 simp only[Nonce.done,U9 h];simp only[Nonce.oC];split
 ·exact h
 ·split
  ·exact h
  ·simp only[Nonce.Ou.set,Nonce.Ou.last];simp only[Nonce.fX,Nonce.Ou.kL]at h⊢
   (repeat' split)<;>simp_all
theorem XR {p:aZ}{l:List Mark}{x:aC}(h:x∈jU p l):∃m∈l,x.key=m.k/\x.bZ=m.bZ:=by
 rcases D7 h with h|h
 ·cases h
 ·obtain⟨m,hm,rfl⟩:=dV.1 h;exact⟨m,hm,KB p m,WR p m⟩
theorem WW (p:aZ):0<=lY p:=by
 have:0<(cO p).aU.length:=by
  unfold cO;split
  ·simp[dU]
  ·grind
 unfold lY;omega
theorem IE {n m:Int}:aV n m=true↔0<=n/\n<=m:=by simp[aV]
theorem ON {v:View}{f:Frame}{x:aC}(h:x∈(dG v f).aI):x∈v.aI\/(v.open_=true/\x∈v.push.aL):=by
 unfold dG at h;split at h
 ·exact Or.inl h
 ·rename_i ho;split at h
  ·exact Or.inl h
  ·simp only at h;split at h
   ·rcases XP h with h|h
    all_goals simp_all
   ·exact Or.inl h
theorem NN (v:View)(t:Int)(h:List Key):(gT v t h).held=(if v.cK<t then h else v.held)/\(gT v t h).cK=(if v.cK<t then t else v.cK):=by
 unfold gT;split<;>simp
theorem F8 (v:View)(f:Frame):((dG v f).held=v.held/\(dG v f).cK=v.cK)\/(v.cK<f.cK/\(dG v f).held=f.held/\(dG v f).cK=f.cK):=by
 unfold dG;split
 ·simp_all
 ·split
  ·simp_all
  ·have:=NN ⟨v.aI,v.held,v.cK,cV,false⟩ f.cK f.held
   grind
theorem ZN {s:bM}(p:aZ)(f:Frame)(hs:cF s=true):cF (handle s p f).1=true:=by
 unfold handle;rw[wH hs];unfold eK;have S:=pK.1 hs;split
 ·exact hs
 ·rename_i hf;have F:=n4.1 (Decidable.not_not.1 hf);have L:=qK F.small;split
  ·exact hs
  ·split
   ·unfold kS;split
    ·exact hs
    ·rename_i hg;have hno:s.v.open_=false:=by
      cases ho:s.v.open_ with
      |false=>rfl
      |true=>
       have:=S.waits ho;simp only[dH,bN]at this;exact absurd this.1.1.1.1.1 hg
     have hk:∀r∈jU p f.aI,aV r.bZ 2147483647=true/\eA r.key=true:=by
      intro r hr;obtain⟨m,hm,h1,h2⟩:=XR hr;have hn:=F.named;simp only[fD,bN,cS]at hn;rw[h1,h2];exact⟨L.2.2.2.2.1 m hm,hn.2 m hm⟩
     have hl:(jU p f.aI).length<=64:=cD (w8 p _) L.2.2.1;rw[pK];refine⟨S.plain,S.out,hl,hk,?_,S.cK,?_,?_⟩
     ·simp only[nH];split
      ·simpa using hl
      ·exact S.dl
     ·simp only[nH];split
      ·intro k hk';obtain⟨r,hr,rfl⟩:=dV.1 hk';exact(hk r hr).2
      ·exact S.held
     ·intro ho;rw[show({s with jX:=true,v:=nH p s.v f.aI}:bM).v.open_=s.v.open_ from rfl,hno]at ho;cases ho
   ·split
    ·exact hs
    ·split
     ·unfold fT;split
      ·exact hs
      ·split
       ·exact hs
       ·rename_i hop;split
        ·exact hs
        ·rename_i hcl;split
         ·exact hs
         ·rename_i h64;rw[pK];have hw:=S.waits (by simpa using hop);simp only[dH,bN,dO]at hw;have P:=n4.1 hw.1.1.1.1.2;have hp:=S.plain;simp only[eL,bN]at hp;refine⟨?_,ZX S.out _ _,by simpa using h64,?_,?_,?_,?_,?_⟩
          ·simp only[eL,bN,dO];exact⟨⟨hp.1.1,WW p⟩,L.2.2.2.2.2.2.2.2⟩
          ·intro r hr;rcases ON hr with h|⟨_,h⟩
           ·exact S.aI r h
           ·exact SS (P.aL r h)
          ·rcases F8 s.v f with h|h
           ·rw[h.1];exact S.dl
           ·rw[h.2.1];exact L.2.2.2.1
          ·rcases F8 s.v f with h|h
           ·rw[h.2];exact S.cK
           ·rw[h.2.2];exact L.2.2.2.2.2.2.2.1
          ·rcases F8 s.v f with h|h
           ·rw[h.1];exact S.held
           ·rw[h.2.1];have hn:=F.named;simp only[fD,bN,cS]at hn;exact hn.1.2
          ·intro ho;exact absurd ho hcl
     ·unfold pZ;rw[pK];have hd:=NN s.v f.cK f.held;refine⟨S.plain,S.out,by simpa using S.hl,by simpa using S.aI,?_,?_,?_,?_⟩
      ·simp only[hd.1];split
       ·exact L.2.2.2.1
       ·exact S.dl
      ·simp only[hd.2];split
       ·exact L.2.2.2.2.2.2.2.1
       ·exact S.cK
      ·simp only[hd.1];split
       ·have hn:=F.named;simp only[fD,bN,cS]at hn;exact hn.1.2
       ·exact S.held
      ·intro ho;have:=S.waits (by simpa using ho);simpa[dH]using this

theorem MA {s:bM}(p:aZ)(f:Frame)(hs:cF s=true):(handle s p f).1.v.push=s.v.push\/(handle s p f).1.v.push=cV:=by
 unfold handle;rw[wH hs];unfold eK kS fT pZ nH
 (repeat' split)<;>first|exact Or.inl rfl|skip
 ·rcases Fz s.v f with e|e
  ·exact Or.inl e
  ·exact Or.inr e
 ·exact Or.inl (By _ _ _)
theorem OA (n:Int):(if 1<(if 2147483647<n then 2147483647 else n)then(if 2147483647<n then(2147483647:Int)else n)else 1)=Nonce.jG n:=by
 unfold Nonce.jG;omega
theorem Af {l:List Int}{k:Nat}{x:Int}(h:(l.take k).all (λe=>decide (e=0))=true)(hr:l[k]? =some x)(hx:¬x=0):(l.find? λe=>!decide (e=0))=some x:=
 xL (k:=k) (x:=x) (by simpa using h) hr (by simpa using hx)
theorem Ag {l:List Int}(h:l.all (λe=>decide (e=0))=true):(l.find? λe=>!decide (e=0))=none:=
 BA (by simpa using h)
theorem vK {α:Type}(l:List α)(p:α->Bool):(l.any λx=>!p x)= !l.all p:=by grind
theorem Ef {f:Frame}(h:eD f):eD (lQ f):=by
 have h0:gG []:=⟨by simp,by simp⟩;unfold lQ
 (repeat' split)<;>constructor<;>first|exact h.aL|exact h.gone|exact h.aI|exact h.held|exact h0|simp
theorem Q8 (i:Nonce.Nn)(h:(decide ((if 0<(if i.m<i.l0 then i.m else i.l0)then(if i.m<i.l0 then i.m else i.l0)else 0)=i.l0)&&(decide ((if 0<(if i.m<i.l1 then i.m else i.l1)then(if i.m<i.l1 then i.m else i.l1)else 0)=i.l1)&&(decide ((if 0<(if i.m<i.l2 then i.m else i.l2)then(if i.m<i.l2 then i.m else i.l2)else 0)=i.l2)&&decide ((if 0<(if i.m<i.l3 then i.m else i.l3)then(if i.m<i.l3 then i.m else i.l3)else 0)=i.l3))))=true):decide (i.m=Nonce.jG i.m)=Nonce.eX i:=by
 obtain⟨a,b,c,d,m⟩:=i;simp at h;obtain⟨h0,h1,h2,h3⟩:=h;rw[pH];dsimp only at h0 h1 h2 h3⊢;rw[Nonce.uR];rw[decide_eq_true_iff];constructor
 ·intro hm0;have hm:=Nonce.F2 m;omega
 ·intro hm;unfold Nonce.jG;omega
theorem RA (i:Nonce.Nn)(h:(decide ((if 0<(if i.m<i.l0 then i.m else i.l0)then(if i.m<i.l0 then i.m else i.l0)else 0)=i.l0)&&(decide ((if 0<(if i.m<i.l1 then i.m else i.l1)then(if i.m<i.l1 then i.m else i.l1)else 0)=i.l1)&&(decide ((if 0<(if i.m<i.l2 then i.m else i.l2)then(if i.m<i.l2 then i.m else i.l2)else 0)=i.l2)&&decide ((if 0<(if i.m<i.l3 then i.m else i.l3)then(if i.m<i.l3 then i.m else i.l3)else 0)=i.l3))))=false):Nonce.eX i=false:=by
 rw[Bool.eq_false_iff];intro hs;rw[Nonce.uR]at hs
 grind
theorem Ah (f:Frame):(([if(aV f.type 3&&aV f.kind 3)=true then 0 else 4,if fH f=true then 0 else 3,if mJ f=true then 0 else 2,if fD f=true then 0 else 5,jD f.aL,if jV f=true then 0 else 2]:List Int).find? λe=>!decide (e=0)).getD 0=dE f:=by
 unfold dE;cases h1:(aV f.type 3&&aV f.kind 3)<;>cases h2:fH f<;>cases h3:mJ f<;>cases h4:fD f<;>cases h6:jV f<;>by_cases h5:jD f.aL=0<;>simp[h5]
theorem NH (n:Int):(if 0<(if 2147483647<n then 2147483647 else n)then(if 2147483647<n then(2147483647:Int)else n)else 0)=max 0 (min n 2147483647):=by omega
theorem L5 (v:View)(h:v.aI.length<=9223372036854775807):eD (gM v):=⟨⟨by simp[gM],by simp[gM]⟩,by simp[gM],by simpa[gM]using h,by simp[gM]⟩
theorem IF {n:Int}(h:aV n 3=true):n=0\/n=1\/n=2\/n=3:=by
 simp only[aV,bN,dO]at h;omega
theorem I9 {f:Frame}(h:dE f=0):f.kind=0\/f.kind=1\/f.kind=2\/f.kind=3:=IF (n4.1 h).kind
theorem I7 {f:Frame}(h:dE f=0):f.type=0\/f.type=1\/f.type=2\/f.type=3:=IF (n4.1 h).type
theorem XS {l:List aC}{n:Int}{r:aC}:r∈k8 l n↔r∈l/\r.kind=n:=by simp[k8]
theorem BH (a b:List aC):(dR a b).length<=b.length:=eE _ _
theorem BG (a b:List aC):(eQ a b).length<=a.length:=cD (eE _ _) (by simp)
theorem w9 (l:List aC)(n:Int):(k8 l n).length<=l.length:=eE _ _
theorem AP (l:List Key)(n:Int):(lN l n).length<=l.length:=eE _ _
theorem WU {p:aZ}(hp:pL p=true):gQ (bX p)=0:=by
 unfold bX;rw[HT hp];exact(SR hp).QN
theorem JV {s:bM}(S:GB s)(ho:s.v.open_=true):s.v.aI.length+s.v.push.aL.length<=1000000/\s.v.push.gone.length<=9223372036854775807:=by
 have hw:=S.waits ho;simp only[dH,bN,dO]at hw;have P:=n4.1 hw.1.1.1.1.2;have L:=qK P.small;have:=S.hl;omega
theorem NL {v:View}(h:v.held.length<=9223372036854775807):eD (jE v):=⟨⟨by simp[jE],by simp[jE]⟩,by simp[jE],by simp[jE],h⟩
theorem GK :eD cV:=⟨⟨by simp[cV],by simp[cV]⟩,by simp[cV],by simp[cV],by simp[cV]⟩
theorem yP :yD j7:=⟨⟨by simp[j7],by simp[j7]⟩,by simp[j7],GK⟩
theorem sW {s:bM}(h:gO s):gO (cW s):=by
 unfold cW;split
 ·exact h
 ·exact⟨yP⟩
def xC :aC:=⟨2,⟨#[99]⟩,0,0,⟨#[101]⟩,[],[]⟩
def xE :aC:=⟨3,⟨#[101]⟩,0,0,⟨#[]⟩,[],[]⟩
def xP :aZ:=⟨9,[[],[{xC with bZ:=1},{xE with bZ:=1}]]⟩
def xF :Frame:=⟨0,4,0,0,0,[],[],0,[],[]⟩
def xS :bM:=⟨4,true,Nonce.nR 9,j7,0,0⟩
def xG :Frame:=⟨1,4,3,1,0,[{xE with bZ:=1}],[],0,[],[]⟩
def xT :bM:=⟨4,true,⟨0,0,0,1,false,false,false,true,9⟩,⟨[],[],0,xG,true⟩,0,0⟩
theorem Bf :wM (dU 9) [xC,xE] []=xP:=by decide+kernel
theorem Be :mL (dU 9) [xC,xE] []=0:=by decide+kernel
theorem Bd :handle (hX 4 9) xP xF=(xS,0):=by decide+kernel
theorem GR :bX xP=[{xC with bZ:=1},{xE with bZ:=1}]:=by decide+kernel
theorem PT :iK (bX xP)=[]:=by
 rw[GR];simp[iK,k6,iJ,xC,xE]
theorem PS :s7 [] (bX xP) []=some ⟨3,[{xE with bZ:=1}],[]⟩:=by
 unfold s7 F3;rw[PT,GR];decide+kernel
theorem Bc :zI xS xP=(xT,[xG],0):=by
 have h1:cF xS=true:=by decide+kernel
 have h2:idle xS xP=false:=by decide+kernel
 have h3:s7 xS.v.aI (bX xP) xS.v.held=some ⟨3,[{xE with bZ:=1}],[]⟩:=PS;unfold zI;rw[wH h1];unfold DO;rw[aR (by rw[h2];decide),h3];decide+kernel
theorem Bb :kZ xT=[xG]:=by decide+kernel
theorem Ba :cF xT=true:=by decide+kernel
theorem Az :pL xP=true:=by decide+kernel
theorem M9 :cZ (bX xP)/\(bX xP).length<=100000:=⟨C0 (WU Az),by decide+kernel⟩
theorem WM {p:aZ}(h:iS p):gG (bX p):=by
 unfold bX cO;split
 ·exact⟨by simp[dU,cM],by simp[dU,cM]⟩
 ·rename_i hne;unfold cM;rw[yH,List.getLast?_eq_some_getLast hne];exact h.all _ (List.getLast_mem hne)
inductive l9 (l:List aC):Key->Prop
 |root {r:aC} (h:r∈l) (h0:r.kind=0):l9 l r.key
 |step {k:Key} {r:aC} {q:Key} (h:l9 l k) (hr:aQ l k=some r) (hq:q∈bJ r) (hs:(aQ l q).isSome=true):l9 l q
theorem l9.some {l:List aC}{k:Key}(h:l9 l k):(aQ l k).isSome=true:=by
 cases h with
 |root h h0=>exact mem_keys.1 (dV.2 ⟨_,h,rfl⟩)
 |step _ _ _ hs=>exact hs
theorem GS (l:List aC):∀(n:Nat) (out:List Key) (k:Key),(∀x∈out,l9 l x)->((aQ l k).isSome=true->l9 l k)->∀x∈dW l n out k,l9 l x
 |0,out,k,h,_,x,hx=>h x hx
 |n+1,out,k,h,hk,x,hx=>by
  unfold dW at hx;split at hx
  ·exact h x hx
  ·rename_i r hr;split at hx
   ·exact h x hx
   ·have hkk:=hk (by rw[hr];rfl);have key:∀(m o:List Key),(∀q∈m,q∈bJ r)->(∀x∈o,l9 l x)->∀x∈m.foldl (dW l n) o,l9 l x:=by
     intro m;induction m with
     |nil=>exact λo _ h=>h
     |cons q m ih=>
      intro o hm ho;rw[iG];exact ih _ (λp hp=>hm p (by simp[hp])) (GS l n o q ho (λhs=>.step hkk hr (hm q (by simp)) hs))
    refine key _ _ (λ_ h=>h) (λy hy=>?_) x hx;rcases fZ.1 hy with e|e
    ·exact h y e
    ·rw[uJ.1 e];exact hkk
theorem T1 {l:List aC}{k:Key}:k∈k6 l↔l9 l k:=by
 constructor
 ·have key:∀(m o:List Key),(∀q∈m,l9 l q)->(∀x∈o,l9 l x)->∀x∈m.foldl (dW l (l.length+1)) o,l9 l x:=by
   intro m;induction m with
   |nil=>exact λo _ h=>h
   |cons q m ih=>intro o hm ho;rw[iG];exact ih _ (λp hp=>hm p (by simp[hp])) (GS l _ o q ho λ_=>hm q (by simp))
  refine key _ _ (λq hq=>?_) (λx hx=>by simp at hx) k;obtain⟨r,hr,rfl⟩:=dV.1 hq;obtain⟨h1,h2⟩:=jK.1 hr;exact .root h1 (by simpa using h2)
 ·intro h;induction h with
  |root h h0=>exact IU (dV.2 ⟨_,jK.2 ⟨h,by simpa using h0⟩,rfl⟩)
  |step _ hr hq hs ih=>exact IV l _ ih _ hr _ hq hs
theorem IS {r:aC}{q:Key}(h:q∈bJ r):q.kind=r.kind+1:=by
 unfold bJ at h;split at h
 ·rename_i hs;obtain⟨_,_,_,h4,_,_⟩:=sX hs;rw[A5]at h;have hasc:fL (iZ r):=by unfold iZ;split<;>simp[fL]
  rw[(xJ _ hasc).2]at h;rcases h with h|h
  ·unfold iZ at h;simp_all
  ·obtain⟨w,hw,rfl⟩:=dV.1 h;obtain⟨x,hx,_⟩:=List.mem_flatMap.1 (jK.1 hw).1;have hne:¬r.rules.length=0:=by grind
   simp only[dK,eJ,pG,dO]at h4;simp_all
 ·simp at h
section
variable {H W : List aC} {held : List Key} {x : Step}
end
theorem IP {r:aC}{q:Key}(h:q∈bJ r):0<=r.kind/\r.kind<=2:=by
 unfold bJ at h;split at h
 ·rename_i hs;obtain⟨h1,_,_,h4,_,_⟩:=sX hs;have hb:=IE.1 h1;rw[A5]at h;have hasc:fL (iZ r):=by unfold iZ;split<;>simp[fL]
  rw[(xJ _ hasc).2]at h;rcases h with h|h
  ·unfold iZ at h;split at h
   ·rename_i hm;simp only[eB,pG,dO]at hm;omega
   ·simp at h
  ·obtain⟨w,hw,rfl⟩:=dV.1 h;obtain⟨x,hx,_⟩:=List.mem_flatMap.1 (jK.1 hw).1;have hne:¬r.rules.length=0:=by grind
   simp only[dK,eJ,bN,pG,dO]at h4;omega
 ·simp at h
theorem FE (l:List aC):∀(m:List aC) (out:List Key),∀x∈out,x∈m.foldl (gA l) out
 |[],_,_,h=>h
 |r::m,out,x,h=>by
  refine FE l m _ x ?_;unfold gA;split
  ·exact xK l _ _ x h
  ·exact h
theorem MU (l:List aC):∀(m out:List Key) (q:Key),q∈m->(aQ l q).isSome=true->q∈m.foldl (fV l) out
 |[],_,_,h,_=>by simp at h
 |p::m,out,q,h,hs=>by
  rw[iG];rcases iF.1 h with e|e
  ·subst e;refine xK l m _ q ?_;unfold fV;by_cases hq:q∈out
   ·rw[aR (λe=>e.2 hq)];exact hq
   ·rw[bA ⟨hs,hq⟩];simp
  ·exact MU l m _ q e hs
theorem DI (l:List aC){r:aC}{q:Key}(hq:q∈bJ r)(hs:(aQ l q).isSome=true):∀(m:List aC) (out:List Key),r∈m->r.key∈out->q∈m.foldl (gA l) out
 |[],_,h,_=>by simp at h
 |x::m,out,h,hk=>by
  rw[iG];rcases iF.1 h with e|e
  ·subst e;refine FE l m _ q ?_;unfold gA;rw[bA hk];exact MU l _ _ q hq hs
  ·exact DI l hq hs m _ e (by
    unfold gA;split
    ·exact xK l _ _ _ hk
    ·exact hk)
theorem DK {l:List aC}{k:Key}:∀(n d:Nat),k∈eF l n->k∈eF l (n+d)
 |n,0,h=>h
 |n,d+1,h=>FE l l _ k (DK n d h)
theorem UE {l:List aC}{k:Key}(h:l9 l k):0<=k.kind/\k.kind<=3/\k∈eF l k.kind.toNat:=by
 induction h with
 |root h h0=>
  rename_i r;have e:r.key.kind=0:=h0;rw[e];exact⟨by omega,by omega,dV.2 ⟨r,jK.2 ⟨h,by simpa using h0⟩,rfl⟩⟩
 |step h hr hq hs ih=>
  rename_i k r q;obtain⟨i1,i2,i3⟩:=ih;have hk:=E9 hr;have rk:r.kind=k.kind:=cI Key.kind hk;have a:=IS hq;have b:=IP hq;refine⟨by omega,by omega,?_⟩;have e:q.kind.toNat=k.kind.toNat+1:=by omega
  rw[e];exact DI l hq hs l _ (tK hr) (by rw[hk];exact i3)
theorem T7 {l:List aC}(ha:cZ l):zH l=iK l:=by
 have key:∀k,k∈eF l 4↔k∈k6 l:=λk=>⟨I1 ha 4 k,λh=>by
  obtain⟨h1,h2,h3⟩:=UE (T1.1 h);have:=DK _ (4-k.kind.toNat) h3
  rwa[show k.kind.toNat+(4-k.kind.toNat)=4 by omega]at this⟩
 refine List.filter_congr λr _=>?_;exact CA.2 (key r.key)
def fS (l:List aC)(n:Int)(keys:List Key)(all:Bool):List aC:=l.filter λr=>decide (r.kind=n)&&(all||decide (r.key∈keys))
def nK (hv:List aC)(n:Int)(held:List Key)(k:Key):Bool:=decide (n=0)|| (!decide (k∈held)&&decide ((qO hv k).length=0))
def kG (hv:List aC)(l:List Key)(n:Int)(held:List Key):List Key:=l.filter λk=>decide (k.kind=n)&&nK hv n held k
theorem OZ (n:Int)(keys:List Key)(all:Bool):fS [] n keys all=[]:=rfl
theorem Gm (l:List aC)(x:aC)(n:Int)(keys:List Key)(all:Bool):fS (l++[x]) n keys all=fS l n keys all++if(decide (x.kind=n)&&(all||decide (x.key∈keys)))=true then [x]else []:=by
 unfold fS
 grind
theorem ME (hv:List aC)(n:Int)(held:List Key):kG hv [] n held=[]:=rfl
theorem ZY (hv:List aC)(l:List Key)(x:Key)(n:Int)(held:List Key):kG hv (l++[x]) n held=kG hv l n held++if(decide (x.kind=n)&&nK hv n held x)=true then [x]else []:=by
 unfold kG
 grind
def mM (s:Step)(r:Option Step):Option Step:=if s.aL.length+s.gone.length=0 then r else some s
theorem pN {s:Step}{r:Option Step}(h:0<s.aL.length+s.gone.length):mM s r=some s:=aR (by omega)
theorem pO {s:Step}{r:Option Step}(h:s.aL.length+s.gone.length=0):mM s r=r:=bA h
end Go.G
