/- LAYER 24, plainly -/
import Derived.Test.YtobcmagefgdgdaaGreatDoorPq
set_option linter.unusedSimpArgs false
set_option linter.unusedVariables false
set_option maxRecDepth 100000
set_option maxHeartbeats 8000000
namespace Go.G
open Go.AI
def MH (e:Int)(l:List Frame):Prop:=∀g∈l,g.type≠1/\g.aM=e
theorem MH.nil (e:Int):MH e []:=by intro g hg;cases hg
theorem zie (s:bS)(id:Int):MH (fF s).aM (nX s id).2.1/\(nX s id).1.aM=(fF s).aM:=by
 unfold nX;generalize fF s=s;unfold zZ;dsimp only;split
 ·exact⟨.nil _,rfl⟩
 ·refine⟨?_,rfl⟩;intro g hg;simp only[yA]at hg;subst hg;exact⟨by simp,rfl⟩
structure D8 (e:Int)(w:jN):Prop where
 hs:dI w.s=true
 he:w.s.aM=e
 up:MH e w.told
theorem Et {n:Int}:∀{l:List dB} {a:Int} {s:dB},eM n a (l++[s])=true->s.pins<10000->eM n a (l++[{s with pins:=s.pins+1}])=true
 |[],a,s,h,hp=>by
  simp[eM]at h⊢;omega
 |x::l,a,s,h,hp=>by
  simp only[yD,eM,bL,dA]at h⊢;refine⟨⟨⟨h.1.1.1,?_⟩,h.1.2⟩,Et h.2 hp⟩;have:=h.1.1.2;simpa using this
theorem Es {n:Int}:∀{l:List dB} {a:Int} {k:Nat} {s:dB},eM n a l=true->l[k]? =some s->1<=s.pins->(k+1=l.length\/2<=s.pins)->eM n a (l.set k {s with pins:=s.pins-1})=true
 |[],_,_,_,_,h,_,_=>by simp at h
 |x::l,a,0,s,h,hk,h1,h2=>by
  simp only[GG,pX]at hk;subst hk;simp only[List.set_cons_zero,eM,bL,dA]at h⊢;have h5:=h.1.2;refine⟨⟨⟨h.1.1.1,?_⟩,(by omega:x.pins-1<=10000)⟩,h.2⟩;split
  ·exact(by omega:(0:Int)<=x.pins-1)
  ·rename_i hl;rcases h2 with h2|h2
   ·have:0<l.length:=vS.2 hl;simp only[jI]at h2;omega
   ·exact(by omega:(1:Int)<=x.pins-1)
 |x::l,a,k+1,s,h,hk,h1,h2=>by
  simp only[JQ]at hk;simp only[List.set_cons_succ,eM,bL,dA]at h⊢;refine⟨⟨⟨h.1.1.1,?_⟩,h.1.2⟩,Es h.2 hk h1 (by simpa using h2)⟩;have:=h.1.1.2;have hl:l≠[]:=by intro e;rw[e]at hk;simp at hk
  rw[aT hl]at this;split<;>omega
theorem Ev {n:Int}:∀{l:List dB} {a:Int} {k:Nat},eM n a l=true->k+1≠l.length->eM n a (l.eraseIdx k)=true
 |[],_,_,_,_=>by simp[eM]
 |x::l,a,0,h,_=>by
  simp only[eM,bL,dA]at h;simp only[List.eraseIdx_cons_zero];exact Eu (by omega) h.2
 |x::l,a,k+1,h,hk=>by
  simp only[List.eraseIdx_cons_succ,eM,bL,dA]at h⊢;refine⟨⟨⟨h.1.1.1,?_⟩,h.1.2⟩,Ev h.2 (by simpa using hk)⟩;have:=h.1.1.2;by_cases hl:l=[]
  ·rw[aZ hl]at this;subst hl;simpa using this
  ·rw[aT hl]at this;split<;>omega
theorem Nz (p:cM):i7 (gI p)/\∀x,x∈gI p↔∃s∈(eY p).aR,∃r∈s.l,r.key=x:=by
 have h:=BW (((eY p).aR.flatMap (·.l)).map aC.key) (o:=[]) (by simp[i7]);refine⟨h.1,λx=>?_⟩;unfold gI LC
 grind
theorem zb4 {p q:cM}(h:∀k∈gI q,k∈gI p)(hr:wG p=true):wG q=true:=by
 have r:=KN.1 hr;exact KN.2 ⟨dH (XT (Ry (Nz q).1) h) r.1,λk hk=>r.2 k (h k hk)⟩
theorem VJ {x:bS}(hx:dI x=true){q:cM}(h1:jR q=true)(h2:∀s∈q.aR,∃t∈x.p.aR,s.l=t.l)(h3:(q.aR.getLast?).map dB.l=(x.p.aR.getLast?).map dB.l):dI {x with p:=q}=true:=by
 have X:=rX.1 hx;refine rX.2 ⟨X.aM,X.turn,X.fS,X.iT,X.w,h1,zb4 (p:=x.p) (λk hk=>?_) X.room,?_⟩
 ·rw[(Nz _).2]at hk⊢;rw[CX h1]at hk;rw[CX X.p]
  grind
 ·have a:=X.AF;unfold wU wR at a⊢;rw[CX X.p]at a;rw[CX h1];cases h4:q.aR.getLast? with
  |none=>
   rw[h4]at h3;cases h5:x.p.aR.getLast? with
   |none=>rw[h5]at a;exact a
   |some t=>rw[h5]at h3;simp at h3
  |some s=>
   rw[h4]at h3;cases h5:x.p.aR.getLast? with
   |none=>rw[h5]at h3;simp at h3
   |some t=>
    simp_all
theorem Er {n:Int}:∀{l:List dB} {a:Int},eM n a l=true->∀s∈l,s.pins<=10000
 |[],_,_,s,hs=>by cases hs
 |x::l,a,h,s,hs=>by
  simp only[eM,bL,dA]at h;rcases kD.1 hs with e|e
  ·subst e;exact h.1.2
  ·exact Er h.2 s e
theorem zdr {x:bS}(hx:dI x=true):dI {x with p:=(rD x.p).1}=true:=by
 have X:=rX.1 hx;have hp:=pJ.1 X.p;unfold rD;rw[CX X.p];unfold u6;split
 ·exact hx
 ·rename_i s hs;split
  ·exact hx
  ·rename_i h0;have hm:s∈x.p.aR:=MT hs;have hl:x.p.aR=x.p.aR.dropLast++[s]:=by
    have hne:x.p.aR≠[]:=by grind
    have:=List.dropLast_concat_getLast hne
    grind
   have ht:=Er hp.1 s hm;have h1:=hp.1;rw[hl]at h1;refine VJ hx (pJ.2 ⟨Et h1 (by omega),hp.2.1,?_⟩) ?_ ?_;all_goals grind
theorem zci {x:bS}(hx:dI x=true)(id:Int):dI {x with p:=(tV x.p id).1}=true:=by
 have X:=rX.1 hx;have hp:=pJ.1 X.p;unfold tV;rw[CX X.p];unfold qD;split
 ·exact hx
 split
 ·exact hx
 rename_i s hs;have hm:s∈x.p.aR:=gT hs;have hk:(kX x.p id).toNat<x.p.aR.length:=(cE.1 hs).1;have h0:=OO hp.1 s hm;split
 ·exact hx
 split
 ·rename_i h;refine VJ hx (pJ.2 ⟨Ev hp.1 (by omega),hp.2.1,?_⟩) ?_ ?_
  ·grind
  ·intro t ht;exact⟨t,Ag ht,rfl⟩
  ·simp only;rw[GF,GF,List.length_eraseIdx_of_lt hk,List.getElem?_eraseIdx_of_ge (by omega)];congr 2
   omega
 ·rename_i h;refine VJ hx (pJ.2 ⟨Es hp.1 hs (by omega) (by omega),hp.2.1,by simpa using hp.2.2⟩) ?_ ?_
  ·intro t ht;rcases GC ht with g|g
   ·exact⟨t,g,rfl⟩
   ·subst g;exact⟨s,hm,rfl⟩
  ·simp only;rw[GF,GF,List.length_set];by_cases e:(kX x.p id).toNat=x.p.aR.length-1
   ·rw[<-e,List.getElem?_set_self hk,hs];rfl
   ·rw[List.getElem?_set_ne e]
theorem zig {x:bS}(hx:dI x=true)(id:Int):dI (nX x id).1=true:=by
 unfold nX;rw[yF hx];unfold zZ;dsimp only;have h:=zci hx id;split
 ·exact h
 ·rename_i hc;simp only[sO,nW,dA]at hc;have H:=rX.1 h;have t:=lI.1 H.turn;exact rX.2 ⟨H.aM,lI.2 ⟨by simp only[oT]at*;omega,by simp only[oT]at*;omega⟩,H.fS,H.iT,H.w,H.p,H.room,H.AF⟩
theorem D8.done {e:Int}{w:jN}(h:D8 e w)(ht:w.told=[])(a:y6):D8 e (nY w a):=by
 unfold nY;split
 ·exact⟨h.hs,h.he,h.up⟩
 ·have q:=zie w.s w.r.id;rw[yF h.hs,h.he]at q;exact⟨zig h.hs _,q.2,q.1⟩
theorem D8.step {e:Int}{w:jN}(h:D8 e w)(ht:w.told=[]):D8 e (sS w):=by
 unfold sS vP zV yG yY;dsimp only
 repeat' split
 all_goals first
  |exact h.done ht _
  |exact⟨h.hs,h.he,h.up⟩
  | (refine⟨?_,?_,h.up⟩
     ·have:=zdr h.hs;simp only[pT];rw[yF h.hs];exact this
     ·simp only[pT];rw[yF h.hs];exact h.he)
theorem Xx (r:lQ){s:bS}(hs:dI s=true):D8 s.aM (mH r s):=by
 unfold mH;rw[yF hs];exact D8.step (w:=⟨mL r,s,[]⟩) ⟨hs,rfl,.nil _⟩ rfl
theorem zdt (p:nK){s:bS}(hs:dI s=true)(draw:Int):dI (kK p s draw).2.1=true/\(kK p s draw).2.1.aM=s.aM/\MH s.aM (kK p s draw).2.2.1:=by
 unfold kK;split
 ·exact⟨hs,rfl,.nil _⟩
 ·rename_i t ht;have w:=Xx t.r hs;dsimp only;split
  ·exact⟨w.hs,w.he,w.up⟩
  ·exact⟨w.hs,w.he,w.up⟩
def Tl (p:cM)(k:Key):Prop:=∃s∈p.aR,∃r∈s.l,r.key=k
theorem zfB {p:cM}(h:jR p=true){k:Key}:k∈gI p↔Tl p k:=by
 unfold gI LC;rw[CX h,(BW _ (o:=[]) List.Pairwise.nil).2 k];simp only[List.not_mem_nil,false_or,fU,List.mem_flatMap,Tl];constructor
 ·rintro⟨r,⟨s,h1,h2⟩,h3⟩;exact⟨s,h1,r,h2,h3⟩
 ·rintro⟨s,h1,r,h2,h3⟩;exact⟨r,⟨s,h1,h2⟩,h3⟩
theorem Dp {n:Int}:∀{l:List dB} {a:Int},eM n a l=true->l.Pairwise λx y=>x.id<y.id
 |[],_,_=>.nil
 |s::r,a,h=>by
  simp only[eM,bL,dA]at h;refine .cons (λx hx=>?_) (Dp h.2);have:=(EV h.2 x hx).2.2;omega
theorem Zq {l:List dB}(h:l.Pairwise λx y=>x.id<y.id){i j:Nat}{x y:dB}(hi:l[i]? =some x)(hj:l[j]? =some y)(e:x.id=y.id):i=j:=by
 obtain⟨a,rfl⟩:=cE.1 hi;obtain⟨b,rfl⟩:=cE.1 hj;rcases Nat.lt_trichotomy i j with q|q|q
 ·have:=MR.1 h i j a b q;omega
 ·exact q
 ·have:=MR.1 h j i b a q;omega
theorem Hu {l:List dB}(h:l.Pairwise λx y=>x.id<y.id){j:Nat}{q:dB}(hj:l[j]? =some q):∀k,j<k->k<=l.length->qG l q.id k=j
 |0,h,_=>by omega
 |k+1,h1,h2=>by
  unfold qG;have e:l[k]? =some l[k]:=bO (by omega);rw[e];simp only;split
  ·rename_i he;rw[Zq h e hj he]
  ·rename_i he;refine Hu h hj k ?_ (by omega);by_cases hjk:j=k
   ·subst hjk;rw[e]at hj;cases hj;exact absurd rfl he
   ·omega
theorem Hv {p:cM}(h:jR p=true){j:Nat}{q:dB}(hj:p.aR[j]? =some q):kX p q.id=j:=by
 have:=(cE.1 hj).1;exact Hu (Dp (pJ.1 h).1) hj _ this (bY _)
end Go.G
