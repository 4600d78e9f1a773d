/-
  LAYER 24: what holds of each side of a mesh behind whatever steps, plainly.
-/
import Derived.Test.YtegplpagkajolaaGreatDoorPq
set_option linter.unusedSimpArgs false
set_option linter.unusedVariables false
set_option maxRecDepth 100000
set_option maxHeartbeats 8000000
namespace Go.G
open Go.AI
def C7 (e:Int)(l:List Frame):Prop:=∀g∈l,g.type≠1/\g.aF=e
def DE (e:Int)(l:List Frame):Prop:=∀g∈l,g.type=1/\g.aF=e
theorem C7.nil (e:Int):C7 e []:=by intro g hg;cases hg
theorem DE.nil (e:Int):DE e []:=by intro g hg;cases hg
theorem zif (s:bB)(e:Int):C7 e (jW s e).2.1:=by
 unfold jW vP;split
 ·exact .nil _
 split
 ·exact .nil _
 ·intro g hg;simp only[kN,DJ,or_false]at hg;rcases hg with rfl|rfl
  ·exact⟨by simp[sG],rfl⟩
  ·exact⟨by simp[wV],rfl⟩
theorem Tn {s:bB}{f:Frame}(h:pG s f=0)(t:bB):C7 s.aF (lC t f).2:=by
 intro g hg;simp only[lC,fI]at hg;subst hg;refine⟨by simp,?_⟩;unfold pG at h;split at h
 ·cases h
 split at h
 ·exact absurd h ‹_›
 split at h
 ·cases h
 rename_i he;simpa using he
theorem Yl (s:bB)(f:Frame):(jP s f).1.aF=s.aF:=by
 unfold jP;dsimp only
 repeat' split
 all_goals rfl
theorem zaA (s:bB)(f:Frame):C7 (fG s).aF (jM s f).2.1/\(jM s f).1.aF=(fG s).aF:=by
 unfold jM;generalize fG s=s;unfold sW;split
 ·exact⟨.nil _,rfl⟩
 rename_i hr;have hr:=rS.1 hr;dsimp only;split
 ·split
  ·exact⟨.nil _,rfl⟩
  split
  ·exact⟨.nil _,rfl⟩
  ·exact⟨Tn hr _,by show(jP s f).1.aF=_;exact Yl s f⟩
 ·split
  ·split
   ·exact⟨.nil _,rfl⟩
   ·exact⟨Tn hr _,rfl⟩
  ·exact⟨.nil _,rfl⟩
theorem zhB (s:bB)(id:Int):C7 (fG s).aF (kC s id).2.1/\(kC s id).1.aF=(fG s).aF:=by
 unfold kC;generalize fG s=s;unfold yK;dsimp only;split
 ·exact⟨.nil _,rfl⟩
 ·refine⟨?_,rfl⟩;intro g hg;simp only[fI]at hg;subst hg;exact⟨by simp,rfl⟩
theorem zcO (s:cL)(x:Step):DE s.aF (tA s x).2.1/\(tA s x).1.aF=s.aF:=by
 unfold tA;split
 ·refine⟨?_,rfl⟩;intro g hg;simp only[fI]at hg;subst hg;exact⟨rfl,rfl⟩
 ·exact⟨.nil _,rfl⟩
theorem Hm (s:cL)(p:aT):DE (kA s).aF (dD s p).2.1/\(dD s p).1.aF=(kA s).aF:=by
 unfold dD;generalize kA s=s;unfold oB;split
 ·exact⟨.nil _,rfl⟩
 split
 ·exact⟨.nil _,rfl⟩
 ·exact zcO _ _
theorem zcc {s:cL}(h:gC s=true):DE s.aF (fJ s):=by
 unfold fJ;rw[nP h];split
 ·rename_i ho;have w:=(lV.1 h).waits ho;simp only[nO,bN,cP]at w;intro g hg;simp only[fI]at hg;subst hg;exact⟨w.1.1.1.2,w.1.1.2⟩
 ·exact .nil _
theorem Ow (s:cL)(p:aT)(f:Frame):(handle s p f).1.aF=(kA s).aF:=by
 unfold handle;generalize kA s=s;unfold qN uI qU CY
 repeat' split
 all_goals rfl
structure FA (e:Int)(w:jK):Prop where
 hs:dI w.s=true
 he:w.s.aF=e
 up:C7 e w.told
theorem Fk {n:Int}:∀{l:List eG} {a:Int} {s:eG},gX n a (l++[s])=true->s.pins<10000->gX n a (l++[{s with pins:=s.pins+1}])=true
 |[],a,s,h,hp=>by
  simp[gX]at h⊢;omega
 |x::l,a,s,h,hp=>by
  simp only[BY,gX,bN,cP]at h⊢;refine⟨⟨⟨h.1.1.1,?_⟩,h.1.2⟩,Fk h.2 hp⟩;have:=h.1.1.2;simpa using this
theorem Fj {n:Int}:∀{l:List eG} {a:Int} {k:Nat} {s:eG},gX n a l=true->l[k]? =some s->1<=s.pins->(k+1=l.length\/2<=s.pins)->gX n a (l.set k {s with pins:=s.pins-1})=true
 |[],_,_,_,_,h,_,_=>by simp at h
 |x::l,a,0,s,h,hk,h1,h2=>by
  simp only[BX,lS]at hk;subst hk;simp only[T8,gX,bN,cP]at h⊢;have h5:=h.1.2;refine⟨⟨⟨h.1.1.1,?_⟩,(by omega:x.pins-1<=10000)⟩,h.2⟩;split
  ·exact(by omega:(0:Int)<=x.pins-1)
  ·rename_i hl;rcases h2 with h2|h2
   ·have:0<l.length:=xI.2 hl;simp only[kE]at h2;omega
   ·exact(by omega:(1:Int)<=x.pins-1)
 |x::l,a,k+1,s,h,hk,h1,h2=>by
  simp only[UC]at hk;simp only[List.set_cons_succ,gX,bN,cP]at h⊢;refine⟨⟨⟨h.1.1.1,?_⟩,h.1.2⟩,Fj h.2 hk h1 (by simpa using h2)⟩;have:=h.1.1.2;have hl:l≠[]:=by intro e;rw[e]at hk;simp at hk
  rw[aH hl]at this;split<;>omega
theorem Fm {n:Int}:∀{l:List eG} {a:Int} {k:Nat},gX n a l=true->k+1≠l.length->gX n a (l.eraseIdx k)=true
 |[],_,_,_,_=>by simp[gX]
 |x::l,a,0,h,_=>by
  simp only[gX,bN,cP]at h;simp only[List.eraseIdx_cons_zero];exact Fl (by omega) h.2
 |x::l,a,k+1,h,hk=>by
  simp only[List.eraseIdx_cons_succ,gX,bN,cP]at h⊢;refine⟨⟨⟨h.1.1.1,?_⟩,h.1.2⟩,Fm h.2 (by simpa using hk)⟩;have:=h.1.1.2;by_cases hl:l=[]
  ·rw[aU hl]at this;subst hl;simpa using this
  ·rw[aH hl]at this;split<;>omega
theorem Oi (p:dJ):jC (fH p)/\∀x,x∈fH p↔∃s∈(gQ p).aX,∃r∈s.l,r.key=x:=by
 have h:=zQ (((gQ p).aX.flatMap (·.l)).map aA.key) (o:=[]) (by simp[jC]);refine⟨h.1,fun x=>?_⟩;unfold fH GS;rw[h.2];simp only[DJ,false_or,eR,KJ];constructor
 ·rintro⟨r,⟨s,hs,hr⟩,rfl⟩;exact⟨s,hs,r,hr,rfl⟩
 ·rintro⟨s,hs,r,hr,rfl⟩;exact⟨r,⟨s,hs,hr⟩,rfl⟩
theorem zb4 {p q:dJ}(h:∀k∈fH q,k∈fH p)(hr:zD p=true):zD q=true:=by
 have r:=IE.1 hr;exact IE.2 ⟨fV (Q9 (Ad (Oi q).1) h) r.1,fun k hk=>r.2 k (h k hk)⟩
theorem VY {x:bB}(hx:dI x=true){q:dJ}(h1:jU q=true)(h2:∀s∈q.aX,∃t∈x.p.aX,s.l=t.l)(h3:(q.aX.getLast?).map eG.l=(x.p.aX.getLast?).map eG.l):dI {x with p:=q}=true:=by
 have X:=iP.1 hx;refine iP.2 ⟨X.aF,X.aL,X.fS,X.cE,X.w,h1,zb4 (p:=x.p) (fun k hk=>?_) X.room,?_⟩
 ·rw[(Oi _).2]at hk⊢;rw[mC h1]at hk;rw[mC X.p];obtain⟨s,hs,r,hr,rfl⟩:=hk;obtain⟨t,ht,e⟩:=h2 s hs;exact⟨t,ht,r,e▸hr,rfl⟩
 ·have a:=X.yR;unfold uQ rL at a⊢;rw[mC X.p]at a;simp only;rw[mC h1];cases h4:q.aX.getLast? with
  |none=>
   rw[h4]at h3;cases h5:x.p.aX.getLast? with
   |none=>rw[h5]at a;exact a
   |some t=>rw[h5]at h3;simp at h3
  |some s=>
   rw[h4]at h3;cases h5:x.p.aX.getLast? with
   |none=>rw[h5]at h3;simp at h3
   |some t=>
    rw[h5]at h3 a;simp only[oK,lS]at h3;simp only at a⊢;rw[h3];exact a
theorem Fi {n:Int}:∀{l:List eG} {a:Int},gX n a l=true->∀s∈l,s.pins<=10000
 |[],_,_,s,hs=>by cases hs
 |x::l,a,h,s,hs=>by
  simp only[gX,bN,cP]at h;rcases kN.1 hs with e|e
  ·subst e;exact h.1.2
  ·exact Fi h.2 s e
theorem Ij {x:bB}(hx:dI x=true):dI {x with p:=(qJ x.p).1}=true:=by
 have X:=iP.1 hx;have hp:=oQ.1 X.p;unfold qJ;rw[mC X.p];unfold zF;split
 ·exact hx
 ·rename_i s hs;split
  ·exact hx
  ·rename_i h0;have hm:s∈x.p.aX:=BU hs;have hl:x.p.aX=x.p.aX.dropLast++[s]:=by
    have hne:x.p.aX≠[]:=by intro e;rw[e]at hs;simp at hs
    have:=List.dropLast_concat_getLast hne;rw[List.getLast?_eq_some_getLast hne]at hs;simp only[lS]at hs;rw[hs]at this;exact this.symm
   have ht:=Fi hp.1 s hm;have h1:=hp.1;rw[hl]at h1;refine VY hx (oQ.2 ⟨Fk h1 (by omega),hp.2.1,?_⟩) ?_ ?_
   ·have:=dH List.length hl;simp at this⊢;have:=hp.2.2;omega
   ·intro t ht;simp only[dN,fI]at ht;rcases ht with ht|rfl
    ·exact⟨t,List.dropLast_subset _ ht,rfl⟩
    ·exact⟨s,hm,rfl⟩
   ·simp[hs]
theorem zci {x:bB}(hx:dI x=true)(id:Int):dI {x with p:=(oR x.p id).1}=true:=by
 have X:=iP.1 hx;have hp:=oQ.1 X.p;unfold oR;rw[mC X.p];unfold s9;split
 ·exact hx
 rename_i hn;split
 ·exact hx
 rename_i s hs;have hm:s∈x.p.aX:=eH hs;have hk:(lM x.p id).toNat<x.p.aX.length:=(cC.1 hs).1;have h0:=O6 hp.1 s hm;split
 ·exact hx
 rename_i hz;split
 ·rename_i h;refine VY hx (oQ.2 ⟨Fm hp.1 (by omega),hp.2.1,?_⟩) ?_ ?_
  ·have:=List.length_eraseIdx_le x.p.aX (lM x.p id).toNat;have:=hp.2.2;simp only;omega
  ·intro t ht;exact⟨t,DL ht,rfl⟩
  ·simp only;rw[HJ,HJ,List.length_eraseIdx_of_lt hk,List.getElem?_eraseIdx_of_ge (by omega)];congr 2
   omega
 ·rename_i h;refine VY hx (oQ.2 ⟨Fj hp.1 hs (by omega) (by omega),hp.2.1,by simpa using hp.2.2⟩) ?_ ?_
  ·intro t ht;rcases BR ht with g|g
   ·exact⟨t,g,rfl⟩
   ·subst g;exact⟨s,hm,rfl⟩
  ·simp only;rw[HJ,HJ,List.length_set];by_cases e:(lM x.p id).toNat=x.p.aX.length-1
   ·rw[<-e,FI hk,hs];rfl
   ·rw[N7 e]
theorem Qs {x:bB}(hx:dI x=true)(id:Int):dI (kC x id).1=true:=by
 unfold kC;rw[j9 hx];unfold yK;dsimp only;have h:=zci hx id;split
 ·exact h
 ·rename_i hc;simp only[rT,not_or,qO,cP]at hc;have H:=iP.1 h;have t:=mF.1 H.aL;have hf:=hc.2;exact iP.2 ⟨H.aF,mF.2 ⟨by simp only[n9]at*;omega,by simp only[n9]at*;omega⟩,H.fS,H.cE,H.w,H.p,H.room,H.yR⟩
theorem FA.done {e:Int}{w:jK}(h:FA e w)(ht:w.told=[])(a:nC):FA e (lR w a):=by
 unfold lR;split
 ·exact⟨h.hs,h.he,h.up⟩
 ·have q:=zhB w.s w.r.id;rw[j9 h.hs,h.he]at q;exact⟨Qs h.hs _,q.2,q.1⟩
theorem FA.step {e:Int}{w:jK}(h:FA e w)(ht:w.told=[]):FA e (qE w):=by
 unfold qE vR x9 zC zT;dsimp only
 repeat' split
 all_goals first
  |exact h.done ht _
  |exact⟨h.hs,h.he,h.up⟩
  | (refine⟨?_,?_,h.up⟩
     ·have:=Ij h.hs;simp only[qR];rw[j9 h.hs];exact this
     ·simp only[qR];rw[j9 h.hs];exact h.he)
theorem Yp (r:kD){s:bB}(hs:dI s=true):FA s.aF (mQ r s):=by
 unfold mQ;rw[j9 hs];exact FA.step (w:=⟨mS r,s,[]⟩) ⟨hs,rfl,.nil _⟩ rfl
theorem Ik (p:jO){s:bB}(hs:dI s=true)(draw:Int):dI (eI p s draw).2.1=true/\(eI p s draw).2.1.aF=s.aF/\C7 s.aF (eI p s draw).2.2.1:=by
 unfold eI;split
 ·exact⟨hs,rfl,.nil _⟩
 ·rename_i t ht;have w:=Yp t.r hs;dsimp only;split
  ·exact⟨w.hs,w.he,w.up⟩
  ·exact⟨w.hs,w.he,w.up⟩
theorem zaB {s:bB}(hs:dI s=true)(f:Frame):(jM s f).1.aL<=s.aL+1:=by
 have h:(jP s f).1.aL=s.aL:=by
  unfold jP;dsimp only
  repeat' split
  all_goals rfl
 unfold jM;rw[j9 hs];unfold sW;dsimp only
 repeat' split
 all_goals first
  | (simp only[lC,n9];omega)
  | (show s.aL<=s.aL+1;omega)
theorem zhC {s:bB}(hs:dI s=true)(id:Int):(kC s id).1.aL<=s.aL+1:=by
 unfold kC;rw[j9 hs];unfold yK;dsimp only;split
 ·show s.aL<=s.aL+1;omega
 ·show s.aL+1<=s.aL+1;omega
theorem zhX {w:jK}(hs:dI w.s=true)(a:nC):(lR w a).s.aL<=w.s.aL+1:=by
 unfold lR;split
 ·show w.s.aL<=w.s.aL+1;omega
 ·exact zhC hs _
theorem zdh (p:jO){s:bB}(hs:dI s=true)(draw:Int):(eI p s draw).2.1.aL<=s.aL+1:=by
 have key:∀r:kD,(mQ r s).s.aL<=s.aL+1:=by
  intro r;unfold mQ;rw[j9 hs];generalize hw:(⟨mS r,s,[]⟩:jK)=w;have e:w.s=s:=by rw[<-hw]
  have h1:dI w.s=true:=by rw[e];exact hs
  rw[<-e];unfold qE vR x9 zC zT;dsimp only
  repeat' split
  all_goals first
   |exact zhX h1 _
   | (show w.s.aL<=w.s.aL+1;omega)
   | (simp only[qR];rw[j9 h1];show w.s.aL<=w.s.aL+1;omega)
 unfold eI;split
 ·show s.aL<=s.aL+1;omega
 ·dsimp only;split
  ·exact key _
  ·exact key _
theorem Ew {P:Frame->Prop}:∀(fs:List Frame) (z:dS×Int),(∀g∈z.1.q,P g)->(∀g∈fs,P g)->(∀g∈(fs.foldl kG z).1.q,P g)/\(fs.foldl kG z).1.aF=z.1.aF
 |[],z,h,_=>⟨h,rfl⟩
 |f::fs,z,h,hf=>by
  have key:(∀g∈(kG z f).1.q,P g)/\(kG z f).1.aF=z.1.aF:=by
   unfold kG;split
   ·unfold qI;split
    ·exact⟨h,rfl⟩
    split
    ·exact⟨h,rfl⟩
    ·refine⟨?_,rfl⟩;intro g hg;rcases dN.1 hg with q|q
     ·exact h g q
     ·simp only[fI]at q;subst q;exact hf _ xF
   ·exact⟨h,rfl⟩
  have r:=Ew fs (kG z f) key.1 (fun g hg=>hf g (xG _ hg));exact⟨r.1,r.2.trans key.2⟩
theorem FV {P:Frame->Prop}{l:dS}(lost:Int){fs:List Frame}(h:∀g∈l.q,P g)(hf:∀g∈fs,P g):(∀g∈(dP l lost fs).1.q,P g)/\(dP l lost fs).1.aF=l.aF:=Ew fs (l,lost) h hf
theorem U2 (l:dS)(i:Int):(∀g∈(takeN l i).1.q,g∈l.q)/\(takeN l i).1.aF=l.aF/\(¬l.q=[]->(takeN l i).2.1∈l.q):=by
 unfold takeN;split
 ·exact⟨fun g hg=>hg,rfl,fun h=>absurd ‹_› h⟩
 ·rename_i hq;refine⟨?_,rfl,fun _=>?_⟩
  ·intro g hg;rcases dN.1 hg with q|q
   ·exact rP q
   ·exact BT q
  ·have hlt:=F5 i hq;simp only[List.getD_eq_getElem?_getD,cI hlt,sS];exact lU hlt
theorem Ov {l:dS}{i:Int}{f:dS->Int->dS×Int}(hf:f=yM\/f=vS\/f=vH):(∀g∈(f l i).1.q,g∈l.q)/\(f l i).1.aF=l.aF:=by
 have t:=U2 l i;rcases hf with rfl|rfl|rfl
 ·exact⟨t.1,t.2.1⟩
 ·unfold vS;split
  ·exact⟨fun g hg=>hg,rfl⟩
  split
  ·exact⟨fun g hg=>hg,rfl⟩
  ·rename_i hq _;refine⟨?_,rfl⟩;intro g hg;rcases dN.1 hg with q|q
   ·exact q
   ·simp only[fI]at q;subst q;have hlt:=F5 i hq;simp only[List.getD_eq_getElem?_getD,cI hlt,sS];exact lU hlt
 ·unfold vH;split
  ·exact⟨fun g hg=>hg,rfl⟩
  ·rename_i hq;refine⟨?_,rfl⟩;intro g hg;rcases dN.1 hg with q|q
   ·exact t.1 g q
   ·simp only[fI]at q;subst q;exact t.2.2 hq
structure iI (n:Node)(B:Int):Prop where
 up:C7 n.up.aF n.up.q
 dn:DE n.up.aF n.dn.q
 ud:n.dn.aF=n.up.aF
 se:n.bA.aF=n.up.aF
 xs:dI n.side=true
 xe:n.side.aF=n.up.aF
 eB:n.up.aF<=B
 tB:n.side.aL<=B
theorem iI.mono {n:Node}{B C:Int}(h:iI n B)(hc:B<=C):iI n C:=⟨h.up,h.dn,h.ud,h.se,h.xs,h.xe,by have:=h.eB;omega,by have:=h.tB;omega⟩
theorem iI.new (c:bS):iI (fZ c) 0:=⟨.nil _,.nil _,rfl,by show max 0 (min (0:Int) 2147483647)=0;decide,Fb _ _,rfl,by simp[fZ],by simp[fZ,tG]⟩
theorem iI.renew {n:Node}{B:Int}(h:iI n B)(ho:dG n)(hB:B<=1000000)(mx lost:Int):iI (gD mx lost n).1 (B+1):=by
 have e0:=ho.up.e0;have eB:=h.eB;have tB:=h.tB;have ud:=h.ud;unfold gD;rw[aH (by omega)];dsimp only;have hx:=h.xe;have c1:(jW n.side (n.up.aF+1)).1.aF=n.up.aF+1/\(jW n.side (n.up.aF+1)).1.aL<=B+1:=by
  unfold jW;rw[j9 h.xs];unfold vP;rw[aH (by omega),aH (by simp only[qO,cP];omega)];exact⟨rfl,by simp only[n9];omega⟩
 have u:=FV (P:=fun g=>g.type≠1/\g.aF=n.up.aF+1) (l:=⟨n.up.aF+1,[]⟩) lost (fs:=(jW n.side (n.up.aF+1)).2.1) (by intro g hg;cases hg) (zif n.side (n.up.aF+1));refine⟨?_,?_,?_,?_,ZT _ _,?_,?_,c1.2⟩
 ·rw[show(dP ⟨n.up.aF+1,[]⟩ lost (jW n.side (n.up.aF+1)).2.1).1.aF=n.up.aF+1 from u.2];exact u.1
 ·exact .nil _
 ·show n.dn.aF+1=_;rw[u.2,ud]
 ·show max 0 (min (n.up.aF+1) 2147483647)=_;rw[u.2];simp only;omega
 ·show(jW n.side (n.up.aF+1)).1.aF=_;rw[u.2,c1.1]
 ·show(dP ⟨n.up.aF+1,[]⟩ lost (jW n.side (n.up.aF+1)).2.1).1.aF<=_;rw[u.2];simp only;omega
theorem iI.dD {n:Node}{B:Int}(h:iI n B)(ho:dG n)(hB:B<=1000000)(mx:Int){p:aT}(hp:fN p=true)(lost:Int):iI (gM mx p lost n).1 (B+1):=by
 have q:=Hm n.bA p;rw[nP ho.ss,h.se]at q;have d:=FV (P:=fun g=>g.type=1/\g.aF=n.up.aF) (l:=n.dn) lost (fs:=(Go.G.dD n.bA p).2.1) h.dn q.1;have m:iI {n with bA:=(Go.G.dD n.bA p).1,dn:=(dP n.dn lost (Go.G.dD n.bA p).2.1).1} B:=⟨h.up,d.1,by show(dP _ _ _).1.aF=_;rw[d.2];exact h.ud,q.2,h.xs,h.xe,h.eB,h.tB⟩;have o:=(PQ ho.ss ho.so hp);unfold gM;dsimp only;split
 ·exact m.mono (by omega)
 ·exact m.renew ⟨ho.d,o.1,o.2.1,ho.up,ho.dn.send _ _,ho.pl⟩ hB mx _
theorem iI.set {n:Node}{B:Int}(h:iI n B){w:Int}{l:dS}(hs:∀g∈l.q,g∈(dA n w).q)(he:l.aF=(dA n w).aF):iI (fB n w l) B:=by
 unfold dA at hs he;unfold fB;by_cases hw:w=0
 ·rw[aU hw]at hs he⊢;refine⟨?_,?_,?_,?_,h.xs,?_,?_,h.tB⟩
  ·intro g hg;show _/\g.aF=l.aF;rw[he];exact h.up g (hs g hg)
  ·show DE l.aF _;rw[he];exact h.dn
  ·show n.dn.aF=l.aF;rw[he];exact h.ud
  ·show n.bA.aF=l.aF;rw[he];exact h.se
  ·show n.side.aF=l.aF;rw[he];exact h.xe
  ·show l.aF<=B;rw[he];exact h.eB
 ·rw[aH hw]at hs he⊢;exact⟨h.up,fun g hg=>h.dn g (hs g hg),he.trans h.ud,h.se,h.xs,h.xe,h.eB,h.tB⟩
theorem iI.Z8 {n:Node}{B:Int}(h:iI n B)(ho:dG n)(hB:B<=1000000)(mx:Int){p:aT}(hp:fN p=true)(lost:Int)(s:bJ):iI (jI mx p lost n s).1 (B+1):=by
 have t:=U2 (dA n s.bG) s.n;have m:=h.set t.1 t.2.1;have om:=ho.set s.bG ((ho.bG s.bG).take s.n).1;unfold jI;dsimp only;split
 ·exact m.mono (by omega)
 split
 ·have q:=zaA (fB n s.bG (takeN (dA n s.bG) s.n).1).side (takeN (dA n s.bG) s.n).2.1;rw[j9 m.xs,m.xe]at q;have u:=FV (P:=fun g=>g.type≠1/\g.aF=(fB n s.bG (takeN (dA n s.bG) s.n).1).up.aF) lost m.up q.1;have tt:=zaB m.xs (takeN (dA n s.bG) s.n).2.1;have tB:=m.tB;have eB:=m.eB;refine⟨?_,?_,?_,?_,VK _ _,?_,?_,by simp only;omega⟩
  ·intro g hg;show _/\g.aF=(dP _ _ _).1.aF;rw[u.2];exact u.1 g hg
  ·show DE (dP _ _ _).1.aF _;rw[u.2];exact m.dn
  ·show _=(dP _ _ _).1.aF;rw[u.2];exact m.ud
  ·show _=(dP _ _ _).1.aF;rw[u.2];exact m.se
  ·show _=(dP _ _ _).1.aF;rw[u.2];exact q.2
  ·show(dP _ _ _).1.aF<=_;rw[u.2];omega
 ·have he:=Ow (fB n s.bG (takeN (dA n s.bG) s.n).1).bA p (takeN (dA n s.bG) s.n).2.1;rw[nP om.ss]at he;have k:iI {(fB n s.bG (takeN (dA n s.bG) s.n).1)with bA:=(handle (fB n s.bG (takeN (dA n s.bG) s.n).1).bA p (takeN (dA n s.bG) s.n).2.1).1} B:=⟨m.up,m.dn,m.ud,he.trans m.se,m.xs,m.xe,m.eB,m.tB⟩;have ok:dG {(fB n s.bG (takeN (dA n s.bG) s.n).1)with bA:=(handle (fB n s.bG (takeN (dA n s.bG) s.n).1).bA p (takeN (dA n s.bG) s.n).2.1).1}:=⟨om.d,E0 p _ om.ss,R2 _ om.ss om.so hp,om.up,om.dn,om.pl⟩;split
  ·exact k.mono (by omega)
  ·exact k.dD ok hB mx hp lost
theorem iI.goes {n:Node}{B:Int}(h:iI n B)(lost:Int)(s:bJ):iI (oE lost n s).1 (B+1):=by
 have q:=Ik n.bR h.xs s.n;rw[h.xe]at q;have u:=FV (P:=fun g=>g.type≠1/\g.aF=n.up.aF) lost h.up q.2.2;have tt:=zdh n.bR h.xs s.n;have tB:=h.tB;have eB:=h.eB;unfold oE;refine⟨?_,?_,?_,?_,q.1,?_,?_,by simp only;omega⟩
 ·intro g hg;show _/\g.aF=(dP _ _ _).1.aF;rw[u.2];exact u.1 g hg
 ·show DE (dP _ _ _).1.aF _;rw[u.2];exact h.dn
 ·show _=(dP _ _ _).1.aF;rw[u.2];exact h.ud
 ·show _=(dP _ _ _).1.aF;rw[u.2];exact h.se
 ·show _=(dP _ _ _).1.aF;rw[u.2];exact q.2.1
 ·show(dP _ _ _).1.aF<=_;rw[u.2];omega
theorem iI.single {n:Node}{B:Int}(h:iI n B)(ho:dG n)(hB:B<=1000000)(mx:Int){p:aT}(hp:fN p=true)(lost:Int)(s:bJ):iI (fC mx p lost n s).1 (B+1):=by
 have hm:∀f,(f=yM\/f=vS\/f=vH)->iI (mW f lost n s).1 (B+1):=fun f hf=>by
  have t:=Ov (l:=dA n s.bG) (i:=s.n) hf;exact(h.set t.1 t.2).mono (by omega)
 unfold fC;split
 ·exact h.Z8 ho hB mx hp lost s
 split
 ·exact hm _ (.inl rfl)
 split
 ·exact hm _ (.inr (.inl rfl))
 split
 ·exact hm _ (.inr (.inr rfl))
 split
 ·exact h.renew ho hB mx lost
 split
 ·exact⟨h.up,h.dn,h.ud,h.se,h.xs,h.xe,by have:=h.eB;simp only[rM];omega,by have:=h.tB;simp only[rM];omega⟩
 split
 ·exact h.goes lost s
 ·exact h.mono (by omega)
theorem iI.tick {n:Node}{B:Int}(h:iI n B)(ho:dG n)(lost:Int):iI {n with dn:=(dP n.dn lost (fJ n.bA)).1} B:=by
 have q:=zcc ho.ss;rw[h.se]at q;have d:=FV (P:=fun g=>g.type=1/\g.aF=n.up.aF) (l:=n.dn) lost h.dn q;exact⟨h.up,d.1,by show(dP _ _ _).1.aF=_;rw[d.2];exact h.ud,h.se,h.xs,h.xe,h.eB,h.tB⟩
inductive HC (M:bL)(s:bJ)(i:Nat)(n:Node):Node->Prop
 |same (h:5<=s.kind->s.kind<=9->s.kind≠6->s.side≠i):HC M s i n n
 |dD (h0:s.kind=0) (he:rF M.p s.aD s.gone=0) (lost:Int):HC M s i n (gM M.c.max (tC M.p s.aD s.gone) lost n).1
 |tick (h0:s.kind=6) (lost:Int):HC M s i n {n with dn:=(dP n.dn lost (fJ n.bA)).1}
 |one (h1:s.side=i) (h0:1<=s.kind/\s.kind<=9/\s.kind≠6) (hw:s.kind<=4->s.bG=0\/s.bG=1) (lost:Int):HC M s i n (fC M.c.max M.p lost n s).1
theorem Ho (mx:Int)(p:aT):∀(l:List Node) (lost e:Int) (i:Nat) (m:Node),(mT mx p l lost e).1[i]? =some m->∃n lo,l[i]? =some n/\m=(gM mx p lo n).1
 |[],lost,e,i,m,h=>by simp[mT]at h
 |n::l,lost,e,0,m,h=>⟨n,lost,rfl,by simpa[mT]using h.symm⟩
 |n::l,lost,e,i+1,m,h=>by
  obtain⟨x,lo,h1,h2⟩:=Ho mx p l _ _ i m (by simpa[mT]using h);exact⟨x,lo,by simpa using h1,h2⟩
theorem Co :∀(l:List Node) (lost k:Int) (i:Nat) (m:Node),(nG l lost k).1[i]? =some m->∃n lo,l[i]? =some n/\m={n with dn:=(dP n.dn lo (fJ n.bA)).1}
 |[],lost,k,i,m,h=>by simp[nG]at h
 |n::l,lost,k,0,m,h=>⟨n,lost,rfl,by simpa[nG]using h.symm⟩
 |n::l,lost,k,i+1,m,h=>by
  obtain⟨x,lo,h1,h2⟩:=Co l _ _ i m (by simpa[nG]using h);exact⟨x,lo,by simpa using h1,h2⟩
theorem HU (M:bL)(s:bJ){i:Nat}{m:Node}(h:(bH M s).1.ns[i]? =some m):∃n,M.ns[i]? =some n/\HC M s i n m:=by
 unfold bH at h;split at h
 ·rename_i hn;exact⟨m,h,.same fun _ _ _ _=>by simp only at h;rw[hn]at h;cases h⟩
 split at h
 ·exact⟨m,h,.same fun _ _ _ _=>by omega⟩
 split at h
 ·rename_i h0;unfold sU at h;dsimp only at h;split at h
  ·exact⟨m,h,.same fun _ _ _ _=>by omega⟩
  ·rename_i he;obtain⟨n,lo,h1,rfl⟩:=Ho _ _ _ _ _ i m h;exact⟨n,h1,.dD h0 (rS.1 he) lo⟩
 split at h
 ·rename_i h0;obtain⟨n,lo,h1,rfl⟩:=Co _ _ _ i m h;exact⟨n,h1,.tick h0 lo⟩
 split at h
 ·rename_i ha;refine⟨m,h,.same fun _ _ _ q=>?_⟩;unfold nodeAt at ha;rw[aU (by omega),q,AG]at ha;simp only at h;rw[h]at ha;cases ha
 ·rename_i h1 h2 h3 h4 n ha;have hm:=L5 ha;split at h
  ·exact⟨m,h,.same fun _ _ _ _=>by omega⟩
  ·rename_i hw;simp only[List.getElem?_set]at h;split at h
   ·rename_i e;split at h
    ·cases h;subst e;exact⟨n,hm.2.2.2,.one (by omega) ⟨by omega,by omega,by omega⟩ (fun _=>by omega) M.lost⟩
    ·cases h
   ·rename_i e;exact⟨m,h,.same fun _ _ _ q=>e (by omega)⟩
theorem LC (M:bL)(s:bJ):(bH M s).1.c=M.c/\((bH M s).1.p=M.p\/(s.kind=0/\rF M.p s.aD s.gone=0/\(bH M s).1.p=tC M.p s.aD s.gone)):=by
 unfold bH;split
 ·exact⟨rfl,.inl rfl⟩
 split
 ·exact⟨rfl,.inl rfl⟩
 split
 ·rename_i h0;unfold sU;dsimp only;split
  ·rename_i he;refine⟨rfl,.inl ?_⟩;show tC _ _ _=_;rw[tC,aH he]
  ·rename_i he;exact⟨rfl,.inr ⟨h0,rS.1 he,rfl⟩⟩
 split
 ·exact⟨rfl,.inl rfl⟩
 split
 ·exact⟨rfl,.inl rfl⟩
 ·split
  ·exact⟨rfl,.inl rfl⟩
  ·exact⟨rfl,.inl rfl⟩
theorem Hz {c:bS}(I:Nat->Nat->aT->List bJ->Node->Prop)(h0:∀i,I 0 i (iA c.cap) [] (fZ c))
  (hs:∀(M:bL) (l:List bJ) (s:bJ) (C:Int) (i:Nat) (n m:Node),cN M C->M.c=c->eK s->l.length<100000->dG n->I l.length i M.p l n->HC M s i n m->I (l.length+1) i (bH M s).1.p (l++[s]) m):
  ∀(l:List bJ),l.length<=100000->(∀s∈l,eK s)->∀i n,(aY (aR c) l).1.ns[i]? =some n->I l.length i (aY (aR c) l).1.p l n:=by
 have key:∀(k:Nat) (l:List bJ),l.length=k->k<=100000->(∀s∈l,eK s)->(aY (aR c) l).1.c=c/\∀i n,(aY (aR c) l).1.ns[i]? =some n->I k i (aY (aR c) l).1.p l n:=by
  intro k;induction k with
  |zero=>
   intro l hl _ _;rw[jL hl];refine⟨rfl,fun i n hn=>?_⟩;have:=eH hn;rw[KU this];exact h0 i
  |succ k ih=>
   intro l hl hk hok;obtain⟨l',s,rfl⟩:∃l' s,l=l'++[s]:=⟨l.dropLast,l.getLast (by intro e;subst e;simp at hl),(List.dropLast_concat_getLast _).symm⟩;have hl':l'.length=k:=by simpa using hl
   obtain⟨hc,hi⟩:=ih l' hl' (by omega) (fun x hx=>hok x (uU _ hx));have ok:=(mG l' (cN.new c) (fun x hx=>hok x (uU _ hx))).1;rw[rG];refine⟨(LC _ s).1.trans hc,fun i n hn=>?_⟩;obtain⟨x,hx,st⟩:=HU _ s hn;have:=hs _ l' s _ i x n ok hc (hok s (by simp)) (by omega) (ok.ok x (eH hx)) (hl'▸hi i x hx) st;rw[hl']at this;exact this
 intro l hl hok i n hn;exact(key l.length l rfl hl hok).2 i n hn
theorem aE.xT (o:aE.Ou){k j:Int}(l:Int)(b:Bool)(hk:aE.gH k=true)(hj:aE.gH j=true):(o.set k l b).kV j=(if j=k then b else o.kV j)/\(o.set k l b).last j=(if j=k then l else o.last j)/\(o.set k l b).m=o.m:=by
 rcases aE.uF hk with rfl|rfl|rfl|rfl<;>rcases aE.uF hj with rfl|rfl|rfl|rfl<;>exact⟨rfl,rfl,rfl⟩
structure C9 (s:cL):Prop where
 only:∀k,aE.gH k=true->s.out.kV k=true->s.v.open_=true/\k=s.v.push.kind
 push:s.v.push=fQ\/eX s.v.push=0
theorem C9.new (e m:Int):C9 (kP e m):=by
 refine⟨fun k hk h=>?_,.inl rfl⟩;rcases aE.uF hk with rfl|rfl|rfl|rfl<;>cases h
theorem Qw {o:aE.Ou}(ho:aE.kQ o=true){k n:Int}(h:(aE.done o k n).2=0):aE.gH k=true/\o.kV k=true/\n=o.last k/\(aE.done o k n).1=o.set k (o.last k) false:=by
 unfold aE.done at h⊢;rw[CM ho]at h⊢;unfold aE.G1 at h⊢;split at h
 ·cases h
 split at h
 ·cases h
 ·rename_i h1 h2;rw[aH h1,aH h2];simp only[not_or,Bool.not_eq_false,rS]at h1 h2;exact⟨h1,h2.1,h2.2,rfl⟩
theorem LW {o:aE.Ou}(ho:aE.kQ o=true){k:Int}(h:(aE.push o k).2.2=0):aE.gH k=true/\o.kV k=false/\¬o.last k=o.m/\aE.push o k=(o.set k (o.last k+1) true,o.last k+1,0):=by
 unfold aE.push at h⊢;rw[CM ho]at h⊢;unfold aE.EF at h⊢;split at h
 ·cases h
 split at h
 ·cases h
 split at h
 ·cases h
 ·rename_i h1 h2 h3;rw[aH h1,aH h2,aH h3];exact⟨by simpa using h1,by simpa using h2,h3,rfl⟩
theorem zgC {s:cL}(p:aT)(f:Frame)(hs:gC s=true):((handle s p f).1.out=s.out/\(handle s p f).1.v.open_=s.v.open_/\(handle s p f).1.v.push=s.v.push)\/
  ((aE.done s.out f.kind f.cY).2=0/\s.v.open_=true/\f.kind=s.v.push.kind/\(handle s p f).1.out=(aE.done s.out f.kind f.cY).1/\(handle s p f).1.v=j4 s.v f/\(j4 s.v f).open_=false/\(j4 s.v f).push=fQ):=by
 unfold handle;rw[nP hs];unfold qN;split
 ·exact .inl ⟨rfl,rfl,rfl⟩
 split
 ·exact .inl ⟨rfl,rfl,rfl⟩
 split
 ·left;unfold uI;split<;>exact⟨rfl,rfl,rfl⟩
 split
 ·exact .inl ⟨rfl,rfl,rfl⟩
 split
 ·unfold qU;split
  ·exact .inl ⟨rfl,rfl,rfl⟩
  split
  ·exact .inl ⟨rfl,rfl,rfl⟩
  split
  ·exact .inl ⟨rfl,rfl,rfl⟩
  split
  ·exact .inl ⟨rfl,rfl,rfl⟩
  ·rename_i h1 h2 h3 _;right;have ho:s.v.open_=true:=by simpa using h2
   have hc:(j4 s.v f).open_=false:=by simpa using h3
   have hk:pZ s.v f=true:=by
    cases hf:pZ s.v f
    ·rw[j4,aH (by simp[ho]),aU hf,ho]at hc;cases hc
    ·rfl
   have e:j4 s.v f={eE ⟨s.v.bF,s.v.held,s.v.aL,fQ,false⟩ f.aL f.held with bF:=if f.err=0 then cD s.v.bF s.v.push.aD s.v.push.gone else s.v.bF}:=by
    rw[j4,aH (by simp[ho]),aH (by simp[hk])]
   refine⟨rS.1 h1,ho,?_,rfl,rfl,hc,?_⟩
   ·simp only[pZ,bN,cP]at hk;exact hk.1.2
   ·rw[e];unfold eE;split<;>rfl
 ·left;unfold CY eE;refine⟨rfl,?_,?_⟩<;>(dsimp only;split<;>rfl)
theorem C9.handle {s:cL}(h:C9 s)(p:aT)(f:Frame)(hs:gC s=true):C9 (Go.G.handle s p f).1/\(Go.G.handle s p f).1.out.m=s.out.m/\∀k,aE.gH k=true->(Go.G.handle s p f).1.out.last k=s.out.last k:=by
 rcases zgC p f hs with⟨e1,e2,e3⟩|⟨h1,h2,h3,e1,e2,e3,e4⟩
 ·rw[e1];exact⟨⟨fun k hk ho=>by rw[e2,e3];rw[e1]at ho;exact h.only k hk ho,by rw[e3];exact h.push⟩,rfl,fun _ _=>rfl⟩
 ·obtain⟨q1,q2,q3,q4⟩:=Qw (lV.1 hs).out h1;rw[q4]at e1;rw[e1];refine⟨⟨fun k hk ho=>?_,.inl (by rw[e2];exact e4)⟩,(aE.xT s.out _ _ q1 q1).2.2,fun k hk=>?_⟩
  ·rw[e1,(aE.xT s.out _ _ q1 hk).1]at ho;split at ho
   ·cases ho
   ·rename_i hne;exact absurd ((h.only k hk ho).2.trans h3.symm) hne
  ·rw[(aE.xT s.out _ _ q1 hk).2.1];split
   ·rename_i e;rw[e]
   ·rfl
theorem C9.dD {s:cL}(h:C9 s){p:aT}(hs:gC s=true)(hp:fN p=true){B:Int}(hl:∀k,aE.gH k=true->s.out.last k<=B):
  C9 (Go.G.dD s p).1/\(Go.G.dD s p).1.out.m=s.out.m/\(∀k,aE.gH k=true->(Go.G.dD s p).1.out.last k<=B+1)/\(B<s.out.m->(Go.G.dD s p).2.2=0):=by
 have hg:=(lV.1 hs).out;have no:∀x:Step,s.v.open_=false->aE.gH x.kind=true->s.out.kV x.kind=false:=fun x ho hk=>by
  cases e:s.out.kV x.kind
  ·rfl
  ·have:=(h.only _ hk e).1;rw[ho]at this;cases this
 have z:B<s.out.m->(Go.G.dD s p).2.2=0:=fun hB=>by
  unfold Go.G.dD;rw[nP hs];unfold oB;split
  ·rfl
  rename_i hi;split
  ·rfl
  ·rename_i x hx;have hk:=I9 (IP hx).kind;have ho:s.v.open_=false:=by
    simp only[idle,Bool.not_eq_true,AH]at hi;exact hi.1.2
   have e:(aE.push s.out x.kind).2.2=0:=by
    unfold aE.push;rw[CM hg];unfold aE.EF;have:=hl _ hk;rw[aH (by simp[hk]),aH (by simp[no x ho hk]),aH (by omega)]
   unfold tA;rw[aU e]
 refine⟨?_,?_,?_,z⟩;all_goals
  rcases WH hs p with⟨e,_⟩|⟨x,c1,c2,c3,c4,c5⟩
 ·rw[e];exact h
 ·obtain⟨q1,q2,q3,q4⟩:=LW hg c4;have fo:=VS hs hp c1 c3 c4;rw[c5];refine⟨fun k hk ho=>⟨rfl,?_⟩,.inr fo.IC⟩;simp only at ho;rw[q4,(aE.xT s.out _ _ q1 hk).1]at ho;split at ho
  ·assumption
  ·have:=(h.only k hk ho).1;rw[c2]at this;cases this
 ·rw[e]
 ·obtain⟨q1,q2,q3,q4⟩:=LW hg c4;rw[c5];simp only[q4];exact(aE.xT s.out _ _ q1 q1).2.2
 ·rw[e];intro k hk;have:=hl k hk;omega
 ·obtain⟨q1,q2,q3,q4⟩:=LW hg c4;rw[c5];intro k hk;simp only[q4];rw[(aE.xT s.out _ _ q1 hk).2.1];have:=hl k hk;split
  ·rename_i e;subst e;omega
  ·omega
def z7 (p:dJ)(k:Key):Prop:=∃s∈p.aX,∃r∈s.l,r.key=k
theorem zfl {p:dJ}(h:jU p=true){k:Key}:k∈fH p↔z7 p k:=by
 unfold fH GS;rw[mC h,(zQ _ (o:=[]) List.Pairwise.nil).2 k];simp only[DJ,false_or,eR,KJ,z7];constructor
 ·rintro⟨r,⟨s,h1,h2⟩,h3⟩;exact⟨s,h1,r,h2,h3⟩
 ·rintro⟨s,h1,r,h2,h3⟩;exact⟨r,⟨s,h1,h2⟩,h3⟩
inductive N2 (s:bB)(f:Frame)(t:bB):Prop
 |bad (e:Int) (h0:e≠0) (he:t.fS.get f.kind=e) (hw:t.w=s.w) (hp:t.p=s.p)
 |JH (he:t.fS.get f.kind=0) (hm:kB s.w.c.cap (cD s.w.c.l f.aD f.gone)=0) (hc:t.w.c=⟨s.w.c.cap,cD s.w.c.l f.aD f.gone⟩) (hs:t.w.shown=dO (cD s.w.c.l f.aD f.gone))
   (hp:t.p=s.p\/t.p=⟨s.p.next+1,wQ s.p++[⟨s.p.next+1,0,t.w.shown⟩]⟩)
theorem zcQ {p:dJ}(h:jU p=true){l:List aA}(h0:(oS p l).2.2=0):(oS p l).1=⟨p.next+1,wQ p++[⟨p.next+1,0,l⟩]⟩:=by
 unfold oS at h0⊢;rw[mC h]at h0⊢;unfold u5 at h0⊢;split at h0
 ·cases h0
 split at h0
 ·cases h0
 ·rename_i h1 h2;rw[aH h1,aH h2]
theorem Yo {w:mO}(h:sX w=true)(a:List aA)(g:List Key):
  ((iO w a g).2.2≠0/\(iO w a g).1=w/\(iO w a g).2.1=false)\/
  ((iO w a g).2.2=0/\kB w.c.cap (cD w.c.l a g)=0/\(iO w a g).1.c=⟨w.c.cap,cD w.c.l a g⟩/\(iO w a g).1.shown=dO (cD w.c.l a g)/\((iO w a g).2.1=false->(iO w a g).1.ready=w.ready/\(iO w a g).1.shown=w.shown)):=by
 have hc:=(uZ.1 h).1;unfold iO;rw[VD h];unfold wG sO;rw[B9 hc];unfold zV;by_cases hm:kB w.c.cap (cD w.c.l a g)=0
 ·right;have sc:s7 ⟨w.c.cap,cD w.c.l a g⟩=true:=by
   rw[u0];have:=IW.1 hm;exact⟨(u0.1 hc).1,this.1,this.2.1,this.2.2⟩
  have e:rZ ⟨w.c.cap,cD w.c.l a g⟩=dO (cD w.c.l a g):=by unfold rZ;rw[B9 sc]
  simp only[hm,eA,ne_eq,T5,gY];unfold qD;rw[e];split
  ·rename_i hq;exact⟨trivial,trivial,rfl,hq.symm,fun _=>⟨rfl,rfl⟩⟩
  ·exact⟨trivial,trivial,rfl,rfl,fun q=>by cases q⟩
 ·left;simp only[hm,gY,ne_eq,not_false_eq_true,eA];exact⟨trivial,trivial,trivial⟩
theorem Yj {s:bB}(h:J6 s)(f:Frame)(h0:(jP s f).2=0):
  N2 s f (jP s f).1/\(jP s f).1.cE=s.cE/\(jP s f).1.aF=s.aF/\(jP s f).1.aL=s.aL/\(jP s f).1.up=s.up:=by
 have w:=Yo h.w f.aD f.gone;unfold jP at h0⊢;dsimp only at h0⊢;by_cases hq:(iO s.w f.aD f.gone).2.1=true/\¬(oS s.p (iO s.w f.aD f.gone).1.shown).2.2=0
 ·rw[aU hq]at h0;exact absurd h0 hq.2
 rw[aH hq];generalize hp:(if(iO s.w f.aD f.gone).2.1=true then(oS s.p (iO s.w f.aD f.gone).1.shown).1 else s.p)=p;by_cases hr:zD p=false
 ·rw[aU hr];exact⟨.bad 8 (by decide) (SG _) rfl rfl,rfl,rfl,rfl,rfl⟩
 ·rw[aH hr];refine⟨?_,rfl,rfl,rfl,rfl⟩;rcases w with⟨w1,w2,w3⟩|⟨w1,w2,w3,w4,w5⟩
  ·exact .bad _ w1 (SG _) w2 (by rw[<-hp,w3];rfl)
  ·refine .JH (by rw[<-w1];exact SG _) w2 w3 w4 ?_;show p=_\/_;rw[<-hp];split
   ·rename_i ht;right;rw[not_and,rS]at hq;exact zcQ h.p (hq ht)
   ·exact .inl rfl
inductive TR (s:bB)(f:Frame):bB×List Frame×Int->Prop
 |none (e:Int) (h0:e≠0):TR s f (s,[],e)
 |again (hr:pG s f=0) (hk:aE.gH f.kind=true) (hn:f.cY=s.cE.last f.kind):TR s f ((lC s f).1,(lC s f).2,9)
 |take (t:bB) (hr:pG s f=0) (hk:aE.gH f.kind=true) (hn:f.cY=s.cE.last f.kind+1) (ha:N2 s f t) (hi:t.cE=s.cE.set f.kind f.cY) (h1:t.aF=s.aF) (h2:t.aL=s.aL) (h3:t.up=s.up):TR s f ((lC t f).1,(lC t f).2,0)
theorem Xh {i:aE.Nn}(h:aE.tZ i=true)(k n:Int):((aE.take i k n).2=0/\aE.gH k=true/\n=i.last k+1/\(aE.take i k n).1=i.set k n)\/((aE.take i k n).2=9/\aE.gH k=true/\n=i.last k)\/((aE.take i k n).2≠0/\(aE.take i k n).2≠9):=by
 unfold aE.take aE.A1;rw[aU h];unfold aE.DV;split
 ·exact .inr (.inr ⟨by simp,by simp⟩)
 rename_i hk;split
 ·rename_i hq;exact .inr (.inl ⟨rfl,by simpa using hk,hq.2⟩)
 split
 ·exact .inr (.inr ⟨by simp,by simp⟩)
 ·rename_i hq;exact .inl ⟨rfl,by simpa using hk,by omega,rfl⟩
theorem VL {s:bB}(h:dI s=true)(f:Frame):TR s f (jM s f):=by
 have S:=iP.1 h;unfold jM;rw[j9 h];unfold sW;split
 ·exact .none _ ‹_›
 rename_i hr;have hr:=rS.1 hr;dsimp only;have t:=Xh S.cE f.kind f.cY;split
 ·rename_i h0;obtain⟨hk,hn,hi⟩:aE.gH f.kind=true/\f.cY=s.cE.last f.kind+1/\(aE.take s.cE f.kind f.cY).1=s.cE.set f.kind f.cY:=by
   rcases t with⟨_,a,b,c⟩|⟨a,_⟩|⟨a,_⟩
   ·exact⟨a,b,c⟩
   ·rw[h0]at a;cases a
   ·exact absurd h0 a
  split
  ·exact .none _ (by decide)
  split
  ·exact .none _ ‹_›
  rename_i h2;have q:=Yj S f (rS.1 h2);refine .take {(jP s f).1 with cE:=(aE.take s.cE f.kind f.cY).1} hr hk hn ?_ hi q.2.2.1 q.2.2.2.1 q.2.2.2.2;rcases q.1 with⟨e,a,b,c,d⟩|⟨a,b,c,d,e⟩
  ·exact .bad e a b c d
  ·exact .JH a b c d e
 split
 ·rename_i h0 h9;obtain⟨hk,hn⟩:aE.gH f.kind=true/\f.cY=s.cE.last f.kind:=by
   rcases t with⟨a,_⟩|⟨_,a,b⟩|⟨_,a⟩
   ·rw[h9]at a;cases a
   ·exact⟨a,b⟩
   ·exact absurd h9 a
  split
  ·exact .none _ (by decide)
  ·exact .again hr hk hn
 ·exact .none _ ‹_›
theorem St {s:bB}{f:Frame}{t:bB}(h:N2 s f t){k:Key}(hk:z7 t.p k):z7 s.p k\/∃r∈dO (cD s.w.c.l f.aD f.gone),r.key=k/\t.w.c.l=cD s.w.c.l f.aD f.gone:=by
 rcases h with⟨e,h0,he,hw,hp⟩|⟨he,hm,hc,hs,hp|hp⟩
 ·rw[hp]at hk;exact .inl hk
 ·rw[hp]at hk;exact .inl hk
 ·rw[hp]at hk;obtain⟨q,h1,r,h2,h3⟩:=hk;rcases dN.1 h1 with h1|h1
  ·exact .inl ⟨q,(jD.1 h1).1,r,h2,h3⟩
  ·rw[fI.1 h1]at h2;exact .inr ⟨r,hs▸h2,h3,by rw[hc]⟩
theorem Ss {s:bB}{f:Frame}{t:bB}(h:N2 s f t){q:eG}(hq:q∈t.p.aX):q∈s.p.aX\/(q.l=dO (cD s.w.c.l f.aD f.gone)/\t.w.c.l=cD s.w.c.l f.aD f.gone/\kB s.w.c.cap (cD s.w.c.l f.aD f.gone)=0):=by
 rcases h with⟨e,h0,he,hw,hp⟩|⟨he,hm,hc,hs,hp|hp⟩
 ·rw[hp]at hq;exact .inl hq
 ·rw[hp]at hq;exact .inl hq
 ·rw[hp]at hq;rcases dN.1 hq with h1|h1
  ·exact .inl (jD.1 h1).1
  ·rw[fI.1 h1];exact .inr ⟨hs,by rw[hc],hm⟩
def vV (p:aT)(r:aA):Prop:=∃l∈p.bV,r∈l
theorem vV.find {p:aT}(hp:fN p=true){r:aA}(h:vV p r):wU p r.key r.cS=some r:=by
 obtain⟨l,hl,hr⟩:=h;obtain⟨hch,hne⟩:=zbo hp;obtain⟨j,m,h1,h2,h3⟩:=hch.cS l hl r hr;unfold wU;rw[h1];have:qS p (j:Int)=some m:=by
  unfold qS;rw[aU (by omega),UZ hne];simpa using h2
 rw[this];simp only[sS,h3,h1,eA]
theorem No {p:aT}(hp:fN p=true){c:List aA}(ha:cW c)(h:∀r∈c,vV p r):qL p (qK c)=c:=by
 have hm:(qK c).map (ofM p)=c:=by
  unfold qK;rw[List.map_map]
  conv=>rhs;rw[<-List.map_id c]
  exact List.map_congr_left fun r hr=>by
   show ofM p ⟨r.key,r.cS⟩=r;simp[ofM,(h r hr).find hp]
 unfold qL;rw[hm,Px c [] (by simpa using ha)];rfl
structure Whole (l:List aA):Prop where
 rX:fF l=0
 Es:iX l=0
 IX:wO l=[]
 full:∀r∈l,yJ r=false
theorem zcv {cap:Int}{l:List aA}(h:kB cap l=0):Whole (dO l):=by
 obtain⟨ht,hc,hs⟩:=IW.1 h;have ha:cW l:=iC ht;have key:∀r∈dO l,∀q∈eT r,(aS (dO l) q).isSome=true:=by
  intro r hr q hq;obtain⟨h1,h2⟩:=uC.1 hr;have h3:=((H6.1 hs) r h1 h2).1 q hq;obtain⟨x,hx⟩:=pA.1 h3;have hR:jS l q:=.step h2 (jJ ha h1) hq h3;have:x∈dO l:=uC.2 ⟨gV hx,by rw[kK hx];exact hR⟩;rw[<-kK hx,jJ (NG ha) this];rfl
 have hl:=rW ht;refine⟨Dd ?_ ?_ (NG ha) ?_,H6.2 fun r hr hR=>⟨key r hr,?_⟩,?_,fun r hr=>((H6.1 hs) r (uC.1 hr).1 (uC.1 hr).2).2⟩
 ·exact fV (kS _ _) hl
 ·intro r hr;exact pD ht (uC.1 hr).1
 ·exact(U6 ht).sublist (((List.filter_sublist (l:=l)).filter _).map _)
 ·exact((H6.1 hs) r (uC.1 hr).1 (uC.1 hr).2).2
 ·have:uB (dO l) (dO l)=[]:=by
   unfold uB;rw[KS];intro q hq;obtain⟨r,hr,hq⟩:=KJ.1 hq;simp[lY,key r hr q hq]
  unfold wO;rw[this];rfl
structure NV (p:aT)(s:bB):Prop where
 cE:∀r∈s.w.c.l,vV p r
 sn:∀q∈s.p.aX,∀r∈q.l,vV p r
 whole:∀q∈s.p.aX,Whole q.l
 keep:∀k,k.kind≠0->z7 s.p k->(aS s.w.c.l k).isSome=true
def lH (p:dJ)(l:List Key):Prop:=∀k,k.kind≠0->z7 p k->k∈l
def wR (f:Frame):Prop:=f.type=2\/f.type=3
structure T3 (p:aT)(s:bB)(v:cL)(U D:List Frame):Prop where
 si:NV p s
 os:C9 v
 ut:∀f∈U,wR f->f.aL<=s.aL
 vt:v.v.aL<=s.aL
 ak:∀f∈U,f.type=2->aE.gH f.kind=true/\f.cY<=s.cE.last f.kind
 dk:∀f∈D,aE.gH f.kind=true
 ad:v.v.open_=true->∀r∈v.v.push.aD,vV p r
 rs:v.v.open_=true->∀r,r∈v.v.bF\/r∈v.v.push.aD->∀x∈v.v.push.aD,x.key=r.key->r.cS<=x.cS
structure Seen (s:bB)(v:cL)(U:List Frame):Prop where
 hc:lH s.p v.v.held
 hu:∀f∈U,wR f->v.v.aL<f.aL->lH s.p f.held
inductive Ph (s:bB)(v:cL)(U D:List Frame):Prop
 |fresh (hg:v.lB=false) (ho:v.v.open_=false) (hd:∀f∈D,False) (hh:∀f∈U,f.type=0->f.bF=qK s.w.c.l) (hn:∀k,aE.gH k=true->s.cE.last k=v.out.last k)
   (hc:v.v.aL=0\/lH s.p v.v.held) (hu:∀f∈U,wR f->v.v.aL<f.aL->lH s.p f.held)
 |closed (hg:v.lB=true) (ho:v.v.open_=false) (hv:v.v.bF=s.w.c.l) (hn:∀k,aE.gH k=true->s.cE.last k=v.out.last k) (hd:∀f∈D,f.cY<=s.cE.last f.kind) (hs:Seen s v U)
 |r7 (hg:v.lB=true) (ho:v.v.open_=true) (hv:v.v.bF=s.w.c.l) (hn:∀k,aE.gH k=true->s.cE.last k=if k=v.v.push.kind then v.out.last k-1 else v.out.last k)
   (hd:∀f∈D,f=v.v.push\/f.cY<=s.cE.last f.kind) (hs:Seen s v U) (hx:v.v.push.kind≠0->∀k∈v.v.push.gone,k.kind=v.v.push.kind/\¬z7 s.p k/\v.v.push.aD=[])
 |taken (hg:v.lB=true) (ho:v.v.open_=true) (hv:s.w.c.l=if s.fS.get v.v.push.kind=0 then cD v.v.bF v.v.push.aD v.v.push.gone else v.v.bF) (hn:∀k,aE.gH k=true->s.cE.last k=v.out.last k)
   (hd:∀f∈D,f.cY<=s.cE.last f.kind) (T:Int) (hTs:T<=s.aL) (hT:∀f∈U,wR f->T<=f.aL->lH s.p f.held) (hm:∀f∈U,f.type=2->f.kind=v.v.push.kind->f.cY=v.v.push.cY->f.err=s.fS.get f.kind/\T<=f.aL) (hc:T<=v.v.aL->lH s.p v.v.held)
   (hx:v.v.push.kind≠0->∀k∈v.v.push.gone,¬z7 s.p k)
structure NI (p:aT)(s:bB)(v:cL)(U D:List Frame):Prop where
 M7:T3 p s v U D
 ph:Ph s v U D
theorem NI.mono {p:aT}{s:bB}{v:cL}{U D U' D':List Frame}(h:NI p s v U D)(hU:∀f∈U',f∈U)(hD:∀f∈D',f∈D):NI p s v U' D':=by
 obtain⟨c,h⟩:=h;refine⟨⟨c.si,c.os,fun f hf=>c.ut f (hU f hf),c.vt,fun f hf=>c.ak f (hU f hf),fun f hf=>c.dk f (hD f hf),c.ad,c.rs⟩,?_⟩;cases h with
 |fresh hg ho hd hh hn hc hu=>exact .fresh hg ho (fun f hf=>hd f (hD f hf)) (fun f hf=>hh f (hU f hf)) hn hc (fun f hf=>hu f (hU f hf))
 |closed hg ho hv hn hd hs=>exact .closed hg ho hv hn (fun f hf=>hd f (hD f hf)) ⟨hs.hc,fun f hf=>hs.hu f (hU f hf)⟩
 |r7 hg ho hv hn hd hs hx=>exact .r7 hg ho hv hn (fun f hf=>hd f (hD f hf)) ⟨hs.hc,fun f hf=>hs.hu f (hU f hf)⟩ hx
 |taken hg ho hv hn hd T hTs hT hm hc hx=>exact .taken hg ho hv hn (fun f hf=>hd f (hD f hf)) T hTs (fun f hf=>hT f (hU f hf)) (fun f hf=>hm f (hU f hf)) hc hx
theorem NI.store {p p':aT}{s:bB}{v:cL}{U D:List Frame}(h:NI p s v U D)(hp:∀r,vV p r->vV p' r):NI p' s v U D:=by
 obtain⟨c,h⟩:=h;exact⟨⟨⟨fun r hr=>hp r (c.si.cE r hr),fun q hq r hr=>hp r (c.si.sn q hq r hr),c.si.whole,c.si.keep⟩,c.os,c.ut,c.vt,c.ak,c.dk,fun ho r hr=>hp r (c.ad ho r hr),c.rs⟩,h⟩
theorem NI.tick {p:aT}{s:bB}{v:cL}{U D D':List Frame}(hs:gC v=true)(h:NI p s v U D)(hD:∀f∈D',f∈D\/f∈fJ v):NI p s v U D':=by
 obtain⟨c,h⟩:=h;have hr:∀f∈fJ v,v.v.open_=true/\f=v.v.push:=by
  intro f hf;unfold fJ at hf;rw[nP hs]at hf;split at hf
  ·exact⟨‹_›,fI.1 hf⟩
  ·cases hf
 have hw:=(lV.1 hs).waits;have kb:v.v.open_=true->aE.gH v.v.push.kind=true:=fun ho=>by
  have w:=hw ho;simp only[nO,bN,cP]at w;exact I9 (PO w.1.1.1.1.2)
 refine⟨⟨c.si,c.os,c.ut,c.vt,c.ak,fun f hf=>(hD f hf).elim (c.dk f) fun q=>by rw[(hr f q).2];exact kb (hr f q).1,c.ad,c.rs⟩,?_⟩;cases h with
 |fresh hg ho hd hh hn hc hu=>exact .fresh hg ho (fun f hf=>(hD f hf).elim (hd f) fun q=>by have:=(hr f q).1;rw[ho]at this;cases this) hh hn hc hu
 |closed hg ho hv hn hd hs=>exact .closed hg ho hv hn (fun f hf=>(hD f hf).elim (hd f) fun q=>by have:=(hr f q).1;rw[ho]at this;cases this) hs
 |r7 hg ho hv hn hd hs hx=>exact .r7 hg ho hv hn (fun f hf=>(hD f hf).elim (hd f) fun q=>.inl (hr f q).2) hs hx
 |taken hg ho hv hn hd T hTs hT hm hc hx=>
  refine .taken hg ho hv hn (fun f hf=>(hD f hf).elim (hd f) fun q=>?_) T hTs hT hm hc hx;rw[(hr f q).2];have w:=hw ho;simp only[nO,bN,cP]at w;rw[hn _ (kb ho),w.2];exact xL _
theorem Ku (i:aE.Nn){k j:Int}(n:Int)(hk:aE.gH k=true)(hj:aE.gH j=true):(i.set k n).last j=if j=k then n else i.last j:=by
 rcases aE.uF hk with rfl|rfl|rfl|rfl<;>rcases aE.uF hj with rfl|rfl|rfl|rfl<;>rfl
theorem Ux {v:cL}(hv:gC v=true)(ho:v.v.open_=true):v.lB=true/\eX v.v.push=0/\v.v.push.type=1/\v.v.push.aF=v.aF/\v.out.kV v.v.push.kind=true/\v.out.last v.v.push.kind=v.v.push.cY/\aE.gH v.v.push.kind=true:=by
 have w:=(lV.1 hv).waits ho;simp only[nO,bN,cP]at w;exact⟨w.1.1.1.1.1,w.1.1.1.1.2,w.1.1.1.2,w.1.1.2,w.1.2,w.2,I9 (PO w.1.1.1.1.2)⟩
theorem lH.of {p:dJ}(h:jU p=true):lH p (fH p):=fun k _ hk=>(zfl h).2 hk
theorem zdp {l a:List aA}{g:List Key}{k:Key}(h:(aS l k).isSome=true)(hg:k∉g):(aS (cD l a g) k).isSome=true:=by
 rw[R4];split
 ·rfl
 ·rw[aH hg];exact h
theorem NV.apply {p:aT}{s t:bB}{f:Frame}(h:NV p s)(hs:dI s=true)(ha:N2 s f t)(hf:eX f=0)(had:∀r∈f.aD,vV p r)(hx:f.kind≠0->∀k∈f.gone,¬z7 s.p k):NV p t:=by
 have hc:=(uZ.1 (iP.1 hs).w).1;have p8:cW s.w.c.l:=iC (u0.1 hc).2.1;have xX:∀r∈cD s.w.c.l f.aD f.gone,vV p r:=fun r hr=>(QX hr).elim (h.cE r) (had r);have cl:(t.w.c.l=s.w.c.l/\t.p=s.p)\/t.w.c.l=cD s.w.c.l f.aD f.gone:=by
  rcases ha with⟨e,h0,he,hw,hp⟩|⟨he,hm,hc,hs,hp⟩
  ·exact .inl ⟨by rw[hw],hp⟩
  ·exact .inr (by rw[hc])
 have gk:∀k∈f.gone,k.kind=f.kind:=by
  have:=(nW.1 hf).alike;simp only[uE,bN,eF,cP]at this;exact this.2
 refine⟨?_,?_,?_,?_⟩
 ·rcases cl with e|e
  ·rw[e.1];exact h.cE
  ·rw[e];exact xX
 ·intro q hq r hr;rcases Ss ha hq with e|⟨e,_⟩
  ·exact h.sn q e r hr
  ·rw[e]at hr;exact xX r (jD.1 hr).1
 ·intro q hq;rcases Ss ha hq with e|⟨e,_,hm⟩
  ·exact h.whole q e
  ·rw[e];exact zcv hm
 ·intro k hk hh;rcases St ha hh with e|⟨r,hr,e,e2⟩
  ·rcases cl with q|q
   ·rw[q.1];exact h.keep k hk e
   ·rw[q];refine zdp (h.keep k hk e) fun hg=>?_;have:=gk k hg;exact hx (by omega) k hg e
  ·rw[e2,<-e,jJ (uN p8 _ _) (jD.1 hr).1];rfl
theorem NI.side {p:aT}{s:bB}{v:cL}{U D U':List Frame}(h:NI p s v U D)(hs:dI s=true)(hv:gC v=true){f:Frame}(hf:f∈D)(hU:∀g∈U',g∈U\/g∈(jM s f).2.1):NI p (jM s f).1 v U' D:=by
 have S:=iP.1 hs;have o:=VL hs f;have ss:=VK s f;generalize jM s f=R at o hU ss;obtain⟨c,h⟩:=h;cases o with
 |none e h0=>exact NI.mono ⟨c,h⟩ (fun g hg=>(hU g hg).elim id fun q=>by cases q) (fun g hg=>hg)
 |again hr hk hn=>
  have w9:∀g∈U',g∈U\/(g.type=2/\g.kind=f.kind/\g.cY=f.cY/\g.aL=s.aL+1/\g.err=s.fS.get f.kind/\g.held=fH s.p):=fun g hg=>(hU g hg).elim .inl fun q=>.inr (by
   rw[fI.1 q];exact⟨rfl,rfl,rfl,rfl,rfl,rfl⟩)
  have hk0:=lH.of S.p;have cm:T3 p (lC s f).1 v U' D:=by
   refine⟨⟨c.si.cE,c.si.sn,c.si.whole,c.si.keep⟩,c.os,fun g hg ht=>?_,?_,fun g hg ht=>?_,c.dk,c.ad,c.rs⟩
   ·show g.aL<=s.aL+1;rcases w9 g hg with q|q
    ·have:=c.ut g q ht;omega
    ·omega
   ·show v.v.aL<=s.aL+1;have:=c.vt;omega
   ·rcases w9 g hg with q|q
    ·exact c.ak g q ht
    ·rw[q.2.1,q.2.2.1];exact⟨hk,by show f.cY<=s.cE.last _;omega⟩
  have hu':(∀g∈U,wR g->v.v.aL<g.aL->lH s.p g.held)->∀g∈U',wR g->v.v.aL<g.aL->lH s.p g.held:=fun hu g hg ht hl=>by
   rcases w9 g hg with q|q
   ·exact hu g q ht hl
   ·rw[q.2.2.2.2.2];exact hk0
  refine⟨cm,?_⟩;cases h with
  |fresh hg ho hd hh hn' hc hu=>exact(hd f hf).elim
  |closed hg ho hv' hn' hd hs=>exact .closed hg ho hv' hn' hd ⟨hs.hc,hu' hs.hu⟩
  |r7 hg ho hv' hn' hd hs hx=>exact .r7 hg ho hv' hn' hd ⟨hs.hc,hu' hs.hu⟩ hx
  |taken hg ho hv' hn' hd T hTs hT hm hc hx=>
   refine .taken hg ho hv' hn' hd T (by show T<=s.aL+1;omega) (fun g hg ht hl=>?_) (fun g hg ht h1 h2=>?_) hc hx
   ·rcases w9 g hg with q|q
    ·exact hT g q ht hl
    ·rw[q.2.2.2.2.2];exact hk0
   ·rcases w9 g hg with q|q
    ·exact hm g q ht h1 h2
    ·exact⟨by rw[q.2.2.2.2.1,q.2.1];rfl,by omega⟩
 |take t hr hk hn ha hi h1 h2 h3=>
  cases h with
  |fresh hg ho hd hh hn' hc hu=>exact(hd f hf).elim
  |closed hg ho hv' hn' hd hs=>have:=hd f hf;omega
  |taken hg ho hv' hn' hd T hTs hT hm hc hx=>have:=hd f hf;omega
  |r7 hg ho hv' hn' hd hs' hx=>
   have e:f=v.v.push:=(hd f hf).elim id fun q=>by omega
   obtain⟨w1,w2,w3,w4,w5,w6,w7⟩:=Ux hv ho;have vt:=c.vt;have cE:∀j,aE.gH j=true->t.cE.last j=v.out.last j/\s.cE.last j<=t.cE.last j:=fun j hj=>by
    rw[hi,Ku _ _ hk hj];have:=hn' j hj;split
    ·rename_i q;subst q;rw[e,w6];exact⟨rfl,by rw[e]at hn;omega⟩
    ·rename_i q;rw[e]at q;rw[aH q]at this;exact⟨this,xL _⟩
   have si:NV p t:=c.si.apply hs ha (PH hr) (by rw[e];exact c.ad ho) (by rw[e];exact fun q k hk=>(hx q k hk).2.1);have ts:jU t.p=true:=(iP.1 ss).p;have hk0:=lH.of ts;have w9:∀g∈U',g∈U\/(g.type=2/\g.kind=f.kind/\g.cY=f.cY/\g.aL=s.aL+1/\g.err=t.fS.get f.kind/\g.held=fH t.p):=fun g hg=>(hU g hg).elim .inl fun q=>.inr (by
    rw[fI.1 q,<-h2];exact⟨rfl,rfl,rfl,rfl,rfl,rfl⟩)
   refine⟨⟨⟨si.cE,si.sn,si.whole,si.keep⟩,c.os,fun g hg ht=>?_,?_,fun g hg ht=>?_,c.dk,c.ad,c.rs⟩,.taken hg ho ?_ (fun j hj=>(cE j hj).1) (fun g hg=>?_) (s.aL+1) ?_ (fun g hg ht hl=>?_) (fun g hg ht k1 k2=>?_) (fun q=>?_) (fun q k hk hh=>?_)⟩
   ·show g.aL<=t.aL+1;rcases w9 g hg with q|q
    ·have:=c.ut g q ht;omega
    ·omega
   ·show v.v.aL<=t.aL+1;omega
   ·show _/\g.cY<=t.cE.last _;rcases w9 g hg with q|q
    ·have a:=c.ak g q ht;have:=(cE _ a.1).2;exact⟨a.1,by omega⟩
    ·rw[q.2.1,q.2.2.1];refine⟨hk,?_⟩;rw[hi,Ku _ _ hk hk,aU rfl];exact xL _
   ·show t.w.c.l=if t.fS.get _=0 then _ else _
    rw[<-e,hv'];rcases ha with⟨q,h0,he,hw,hp⟩|⟨he,hm,hc,hs,hp⟩
    ·rw[he,aH h0,hw]
    ·rw[he,aU rfl,hc]
   ·show g.cY<=t.cE.last _;rcases hd g hg with q|q
    ·rw[q,(cE _ w7).1,w6];exact xL _
    ·have:=(cE _ (c.dk g hg)).2;omega
   ·show s.aL+1<=t.aL+1;omega
   ·rcases w9 g hg with q|q
    ·have:=c.ut g q ht;omega
    ·rw[q.2.2.2.2.2];exact hk0
   ·rcases w9 g hg with q|q
    ·have a:=c.ak g q ht;rw[k1,hn' _ w7,aU rfl,k2,w6]at a;have:=a.2;omega
    ·exact⟨by rw[q.2.2.2.2.1,q.2.1];rfl,by omega⟩
   ·omega
   ·obtain⟨x1,x2,x3⟩:=hx q k hk;rcases St ha hh with r|⟨r,hr,r2,_⟩
    ·exact x2 r
    ·have hc:=(uZ.1 S.w).1;have p8:cW s.w.c.l:=iC (u0.1 hc).2.1;have:=jJ (uN p8 f.aD f.gone) (jD.1 hr).1;rw[r2,e,x3,R4]at this;simp only[zJ,List.reverse_nil,List.find?_nil,hk,eA]at this;cases this
theorem zeD {hv want:List aA}{held:List Key}{x:Step}(h:mU hv want held=.some x):x.kind=0\/x.gone=[]\/x.aD=[]:=by
 have hm:=N6 h;simp only[eZ.steps,kN,DJ,or_false]at hm;rcases hm with hm|hm|hm|hm|hm|hm|hm|hm|hm|hm<;>subst hm
 ·exact .inr (.inl rfl)
 ·exact .inr (.inl rfl)
 ·exact .inr (.inl rfl)
 ·exact .inl rfl
 ·exact .inr (.inl rfl)
 ·exact .inr (.inl rfl)
 ·exact .inr (.inl rfl)
 ·exact .inr (.inr rfl)
 ·exact .inr (.inr rfl)
 ·exact .inr (.inr rfl)
theorem Qv (v:View)(t:Int)(h:List Key):(eE v t h).bF=v.bF/\(eE v t h).push=v.push/\(eE v t h).open_=v.open_:=by
 unfold eE;split<;>exact⟨rfl,rfl,rfl⟩
inductive NY (v:cL)(p:aT)(f:Frame):cL->Prop
 |none:NY v p f v
 |Oh (ht:f.type=0) (hg:v.lB=false):NY v p f {v with lB:=true,v:=wS p v.v f.bF}
 |w9 (ht:f.type=2) (hd:(aE.done v.out f.kind f.cY).2=0) (ho:v.v.open_=true) (hf:pZ v.v f=true):NY v p f ⟨v.aF,v.lB,(aE.done v.out f.kind f.cY).1,eE ⟨if f.err=0 then cD v.v.bF v.v.push.aD v.v.push.gone else v.v.bF,v.v.held,v.v.aL,fQ,false⟩ f.aL f.held,f.err,oT p⟩
 |drain (ht:f.type=3):NY v p f {v with v:=eE v.v f.aL f.held}
theorem zgD {v:cL}(hv:gC v=true)(p:aT)(f:Frame):NY v p f (handle v p f).1:=by
 unfold handle;rw[nP hv];unfold qN;split
 ·exact .none
 rename_i hf;have hf:=rS.1 hf;split
 ·exact .none
 split
 ·rename_i ht;unfold uI;split
  ·exact .none
  ·rename_i hq;exact .Oh ht (by simpa using hq)
 split
 ·exact .none
 split
 ·rename_i ht;unfold qU;split
  ·exact .none
  split
  ·exact .none
  split
  ·exact .none
  split
  ·exact .none
  ·rename_i h1 h2 h3 _;have ho:v.v.open_=true:=by simpa using h2
   have hk:pZ v.v f=true:=by
    cases hq:pZ v.v f
    ·rw[j4,aH (by simp[ho]),aU hq,ho]at h3;exact absurd rfl h3
    ·rfl
   rw[Aj ho hk];exact .w9 ht (rS.1 h1) ho hk
 ·rename_i h0 h1 h2;have:=Hf hf;exact .drain (by omega)
theorem NI.bA {p:aT}{s:bB}{v:cL}{U D:List Frame}(h:NI p s v U D)(hp:fN p=true)(hs:dI s=true)(hv:gC v=true){f:Frame}(hf:f∈U):NI p s (handle v p f).1 U D:=by
 have os:=(h.M7.os.handle p f hv).1;have o:=zgD hv p f;generalize(handle v p f).1=R at o os;obtain⟨c,h⟩:=h;have hc':=(uZ.1 (iP.1 hs).w).1;have p8:cW s.w.c.l:=iC (u0.1 hc').2.1;cases o with
 |none=>exact⟨c,h⟩
 |Oh ht hg=>
  cases h with
  |closed hg'=>rw[hg]at hg';cases hg'
  |r7 hg'=>rw[hg]at hg';cases hg'
  |taken hg'=>rw[hg]at hg';cases hg'
  |fresh hg' ho hd hh hn hc hu=>
   have e:qL p f.bF=s.w.c.l:=by rw[hh f hf ht];exact No hp p8 c.si.cE
   refine⟨⟨c.si,os,c.ut,c.vt,c.ak,c.dk,fun q=>?_,fun q=>?_⟩,.closed rfl ho e hn (fun g hg=>(hd g hg).elim) ⟨?_,hu⟩⟩
   ·exact absurd (ho.symm.trans q) (by decide)
   ·exact absurd (ho.symm.trans q) (by decide)
   ·show lH s.p (if v.v.aL=0 then(qL p f.bF).map aA.key else v.v.held);split
    ·rw[e];intro k hk hh;obtain⟨r,hr⟩:=pA.1 (c.si.keep k hk hh);exact eR.2 ⟨r,gV hr,kK hr⟩
    ·rename_i h0;exact hc.resolve_left h0
 |drain ht=>
  have dc:=SK v.v f.aL f.held;have dk:=Qv v.v f.aL f.held;have tf:wR f:=.inr ht;have cm:T3 p s {v with v:=eE v.v f.aL f.held} U D:=by
   refine⟨c.si,os,c.ut,?_,c.ak,c.dk,?_,?_⟩
   ·show(eE v.v f.aL f.held).aL<=_;rw[dc.2];have:=c.vt;have:=c.ut f hf tf;split<;>omega
   ·show(eE v.v f.aL f.held).open_=true->∀r∈(eE v.v f.aL f.held).push.aD,_;rw[dk.2.1,dk.2.2];exact c.ad
   ·show(eE v.v f.aL f.held).open_=true->∀r,r∈(eE v.v f.aL f.held).bF\/r∈(eE v.v f.aL f.held).push.aD->∀x∈(eE v.v f.aL f.held).push.aD,_;rw[dk.1,dk.2.1,dk.2.2];exact c.rs
  have hu':(∀g∈U,wR g->v.v.aL<g.aL->lH s.p g.held)->∀g∈U,wR g->(eE v.v f.aL f.held).aL<g.aL->lH s.p g.held:=fun hu g hg ht hl=>by
   rw[dc.2]at hl;exact hu g hg ht (by split at hl<;>omega)
  have hc'':(∀g∈U,wR g->v.v.aL<g.aL->lH s.p g.held)->lH s.p v.v.held->lH s.p (eE v.v f.aL f.held).held:=fun hu hc=>by
   rw[dc.1];split
   ·exact hu f hf tf ‹_›
   ·exact hc
  refine⟨cm,?_⟩;cases h with
  |fresh hg ho hd hh hn hc hu=>
   refine .fresh hg (dk.2.2.trans ho) hd hh hn ?_ (hu' hu);show(eE v.v f.aL f.held).aL=0\/lH s.p (eE v.v f.aL f.held).held;by_cases hl:v.v.aL<f.aL
   ·right;rw[dc.1,aU hl];exact hu f hf tf hl
   ·rw[dc.1,dc.2,aH hl,aH hl];exact hc
  |closed hg ho hv hn hd hs=>exact .closed hg (dk.2.2.trans ho) (dk.1.trans hv) hn hd ⟨hc'' hs.hu hs.hc,hu' hs.hu⟩
  |r7 hg ho hv hn hd hs hx=>
   refine .r7 hg (dk.2.2.trans ho) (dk.1.trans hv) ?_ ?_ ⟨hc'' hs.hu hs.hc,hu' hs.hu⟩ ?_
   ·show∀k,aE.gH k=true->s.cE.last k=if k=(eE v.v f.aL f.held).push.kind then _ else _
    rw[dk.2.1];exact hn
   ·show∀g∈D,g=(eE v.v f.aL f.held).push\/_;rw[dk.2.1];exact hd
   ·show(eE v.v f.aL f.held).push.kind≠0->∀k∈(eE v.v f.aL f.held).push.gone,k.kind=(eE v.v f.aL f.held).push.kind/\_/\(eE v.v f.aL f.held).push.aD=[];rw[dk.2.1];exact hx
  |taken hg ho hv hn hd T hTs hT hm hc hx=>
   refine .taken hg (dk.2.2.trans ho) ?_ hn hd T hTs hT ?_ ?_ ?_
   ·show s.w.c.l=if s.fS.get (eE v.v f.aL f.held).push.kind=0 then cD (eE v.v f.aL f.held).bF (eE v.v f.aL f.held).push.aD (eE v.v f.aL f.held).push.gone else(eE v.v f.aL f.held).bF
    rw[dk.1,dk.2.1];exact hv
   ·show∀g∈U,g.type=2->g.kind=(eE v.v f.aL f.held).push.kind->g.cY=(eE v.v f.aL f.held).push.cY->_;rw[dk.2.1];exact hm
   ·show T<=(eE v.v f.aL f.held).aL->lH s.p (eE v.v f.aL f.held).held;rw[dc.1,dc.2];split
    ·exact hT f hf tf
    ·exact hc
   ·show(eE v.v f.aL f.held).push.kind≠0->∀k∈(eE v.v f.aL f.held).push.gone,_;rw[dk.2.1];exact hx
 |w9 ht hd' ho' hfit=>
  obtain⟨q1,q2,q3,q4⟩:=Qw (lV.1 hv).out hd';simp only[pZ,bN,cP]at hfit;obtain⟨⟨⟨_,_⟩,k1⟩,k2⟩:=hfit;have tf:wR f:=.inl ht;cases h with
  |fresh hg ho=>rw[ho']at ho;cases ho
  |closed hg ho=>rw[ho']at ho;cases ho
  |r7 hg ho hv' hn hd hs hx=>
   have a:=c.ak f hf ht;have b:=hn _ a.1;rw[aU k1]at b;omega
  |taken hg ho hv' hn hd T hTs hT hm hc hx=>
   obtain⟨m1,m2⟩:=hm f hf ht k1 k2;generalize hw:(⟨if f.err=0 then cD v.v.bF v.v.push.aD v.v.push.gone else v.v.bF,v.v.held,v.v.aL,fQ,false⟩:View)=w at os⊢;have dc:=SK w f.aL f.held;have dk:=Qv w f.aL f.held;have w1:w.aL=v.v.aL:=by rw[<-hw]
   have w2:w.held=v.v.held:=by rw[<-hw]
   have w3:w.open_=false:=by rw[<-hw]
   have w4:w.bF=s.w.c.l:=by rw[<-hw];show(if _ then _ else _)=_;rw[m1,k1,<-hv']
   have no:(eE w f.aL f.held).open_=false:=dk.2.2.trans w3;refine⟨⟨c.si,os,c.ut,?_,c.ak,c.dk,fun q=>absurd (no.symm.trans q) (by decide),fun q=>absurd (no.symm.trans q) (by decide)⟩,.closed hg no (dk.1.trans w4) (fun k hk=>?_) hd ⟨?_,fun g hg ht hl=>?_⟩⟩
   ·show(eE w f.aL f.held).aL<=_;rw[dc.2,w1];have:=c.vt;have:=c.ut f hf tf;split<;>omega
   ·show _=aE.Ou.last (aE.done v.out f.kind f.cY).1 k;rw[q4,(aE.xT _ _ _ q1 hk).2.1,hn k hk];split
    ·rename_i e;rw[e]
    ·rfl
   ·show lH s.p (eE w f.aL f.held).held;rw[dc.1,w1,w2];split
    ·exact hT f hf tf m2
    ·exact hc (by omega)
   ·have hl:(eE w f.aL f.held).aL<g.aL:=hl;rw[dc.2,w1]at hl;exact hT g hg ht (by split at hl<;>omega)
theorem zet {p:aT}(hp:fN p=true){r x:aA}(hr:vV p r)(hx:x∈dR p)(hk:x.key=r.key):r.cS<=x.cS:=by
 obtain⟨hc,hlen,hh⟩:=(rB p).1 hp;obtain⟨l,hl,hr⟩:=hr;obtain⟨j,hj⟩:=vY.1 hl;have h0:0<p.bV.length:=VX hp;have key:∀(i:Nat) (m:List aA),p.bV[i]? =some m->∀(j:Nat) (l:List aA),j<=i->p.bV[j]? =some l->∀r∈l,∀x∈m,x.key=r.key->r.cS<=x.cS:=by
  intro i;induction i with
  |zero=>
   intro m hm j l hji hl r hr x hx _;rw[hh.first]at hm;cases hm;cases hx
  |succ i ih=>
   intro m hm j l hji hl r hr x hx hk;by_cases e:j=i+1
   ·subst e;rw[hm]at hl;cases hl;have a:=hh.p8 hm;have q1:=jJ a hr;rw[<-hk,jJ a hx]at q1;cases q1;exact xL _
   ·have hi:i<p.bV.length:=by have:=(cC.1 hm).1;omega
    have e0:p.bV[i]? =some p.bV[i]:=cI hi;obtain⟨⟨P,rfl⟩,_⟩:=hh.step i _ m e0 hm;obtain⟨y,hy,rfl⟩:=eR.1 hx;obtain⟨a,b,d,v1,v2,_⟩:=(hh.cS j l hl r hr).is;show r.cS<=(match aS p.bV[i] y.key with|some o=>if j5 o y then o.cS else(i:Int)+1|none=>(i:Int)+1);split
    ·rename_i o ho;split
     ·exact ih _ e0 j l (by omega) hl r hr o (gV ho) ((kK ho).trans hk)
     ·exact(show r.cS<=(i:Int)+1 by omega)
    ·exact(show r.cS<=(i:Int)+1 by omega)
 have hn:p.bV[p.bV.length-1]? =some (dR p):=by
  unfold dR;rw[y9 hp];exact X7 h0
 have hjl:=(cC.1 hj).1;exact key _ _ hn j l (by omega) hj r hr x hx hk
theorem Ko {p:aT}(hp:fN p=true){k:Key}{r:aA}(h:aS (dR p) k=some r):vV p r:=by
 unfold dR at h;rw[y9 hp]at h;rcases Nh (s:=p)with e|e
 ·rw[e]at h;cases h
 ·exact⟨_,e,gV h⟩
theorem NI.dD {p:aT}{s:bB}{v:cL}{U D D':List Frame}(h:NI p s v U D)(hp:fN p=true)(hs:dI s=true)(hv:gC v=true)(hD:∀g∈D',g∈D\/g∈(Go.G.dD v p).2.1):NI p s (Go.G.dD v p).1 U D':=by
 have hg:=(lV.1 hv).out;have ok:=aE.WV v.out;rw[CM hg]at ok;have os:=(h.M7.os.dD hv hp (B:=2147483647) (fun k hk=>by
  obtain⟨a0,a1,b0,b1,c0,c1,d0,d1,m0,m1⟩:=ok;rcases aE.uF hk with rfl|rfl|rfl|rfl<;>simp only[aE.Ou.last]<;>simp<;>omega)).1
 rcases WH hv p with⟨e1,e2⟩|⟨x,c1,c2,c3,c4,c5⟩
 ·rw[e1];exact h.mono (fun g hg=>hg) (fun g hg=>(hD g hg).elim id fun q=>by rw[e2]at q;cases q)
 ·obtain⟨q1,q2,q3,q4⟩:=LW hg c4;have so:=VS hv hp c1 c3 c4;have sk:=IP c1;have n1:=zeD c1;rw[c5]at hD os⊢;simp only at hD os⊢;generalize hF:gE v x (aE.push v.out x.kind).2.1=F at so hD os⊢;have fk:F.kind=x.kind:=by rw[<-hF];rfl
  have fa:F.aD=x.aD:=by rw[<-hF];rfl
  have fg:F.gone=x.gone:=by rw[<-hF];rfl
  have fn:F.cY=v.out.last x.kind+1:=by rw[<-hF,q4];rfl
  obtain⟨c,h⟩:=h;cases h with
  |fresh hg=>rw[c3]at hg;cases hg
  |r7 hg ho=>rw[c2]at ho;cases ho
  |taken hg ho=>rw[c2]at ho;cases ho
  |closed hg ho hv' hn hd hs=>
   have fr:=so.aD;refine⟨⟨c.si,os,c.ut,c.vt,c.ak,fun g hg=>?_,fun _ r hr=>Ko hp (fr r hr),fun _ r hr y hy hk=>?_⟩,.r7 c3 rfl hv' (fun k hk=>?_) (fun g hg=>?_) ⟨hs.hc,hs.hu⟩ (fun hk k hk2=>?_)⟩
   ·rcases hD g hg with q|q
    ·exact c.dk g q
    ·rw[fI.1 q,fk];exact q1
   ·have hr':r∈v.v.bF\/r∈F.aD:=hr;rw[hv']at hr';exact zet hp (hr'.elim (c.si.cE r) fun q=>Ko hp (fr r q)) (gV (fr y hy)) hk
   ·show s.cE.last k=if k=F.kind then aE.Ou.last (aE.push v.out x.kind).1 k-1 else aE.Ou.last (aE.push v.out x.kind).1 k
    rw[q4,(aE.xT _ _ _ q1 hk).2.1,hn k hk,fk];split
    ·rename_i e;subst e;omega
    ·rfl
   ·rcases hD g hg with q|q
    ·exact .inr (hd g q)
    ·exact .inl (fI.1 q)
   ·have hk2:k∈F.gone:=hk2;have hk:F.kind≠0:=hk;rw[fg]at hk2;rw[fk]at hk;have a:=sk.gone k hk2;refine⟨a.2.trans fk.symm,fun hh=>?_,?_⟩
    ·exact(sk.free hk k hk2).1 (hs.hc k (by rw[a.2];exact hk) hh)
    ·show F.aD=[];rw[fa];rcases n1 with n1|n1|n1
     ·exact absurd n1 hk
     ·rw[n1]at hk2;cases hk2
     ·exact n1
structure uS (s t:bB)(told:List Frame):Prop where
 IC:dI t=true
 w:t.w=s.w
 i:t.cE=s.cE
 e:t.fS=s.fS
 ep:t.aF=s.aF
 le:s.aL<=t.aL
 p:∀q∈t.p.aX,∃r∈s.p.aX,q.l=r.l
 told:∀g∈told,g.type=3/\g.aL<=t.aL/\s.aL<g.aL/\g.held=fH t.p
theorem uS.refl {s:bB}(hs:dI s=true):uS s s []:=⟨hs,rfl,rfl,rfl,rfl,xL _,fun q hq=>⟨q,hq,rfl⟩,fun g hg=>(by cases hg)⟩
theorem zde {p:dJ}(h:jU p=true):∀q∈(qJ p).1.aX,∃r∈p.aX,q.l=r.l:=by
 unfold qJ;rw[mC h];unfold zF;split
 ·exact fun q hq=>⟨q,hq,rfl⟩
 ·rename_i s hl;split
  ·exact fun q hq=>⟨q,hq,rfl⟩
  ·intro q hq;rcases dN.1 hq with g|g
   ·exact⟨q,List.dropLast_subset _ g,rfl⟩
   ·rw[fI.1 g];exact⟨s,BU hl,rfl⟩
theorem zcf {p:dJ}(h:jU p=true)(id:Int):∀q∈(oR p id).1.aX,∃r∈p.aX,q.l=r.l:=by
 unfold oR;rw[mC h];unfold s9;split
 ·exact fun q hq=>⟨q,hq,rfl⟩
 split
 ·exact fun q hq=>⟨q,hq,rfl⟩
 ·rename_i s hs;have hm:=eH hs;split
  ·exact fun q hq=>⟨q,hq,rfl⟩
  split
  ·exact fun q hq=>⟨q,DL hq,rfl⟩
  ·intro q hq;rcases BR hq with g|g
   ·exact⟨q,g,rfl⟩
   ·rw[g];exact⟨s,hm,rfl⟩
theorem uS.begin {s:bB}(hs:dI s=true):uS s (qR s).1 []:=by
 unfold qR;rw[j9 hs];exact⟨Ij hs,rfl,rfl,rfl,rfl,xL _,zde (iP.1 hs).p,fun g hg=>(by cases hg)⟩
theorem uS.end {s:bB}(hs:dI s=true)(id:Int):uS s (kC s id).1 (kC s id).2.1:=by
 have k:=Qs hs id;unfold kC at k⊢;rw[j9 hs]at k⊢;have sub:=zcf (iP.1 hs).p id;unfold yK at k⊢;dsimp only at k⊢;split at k
 ·rename_i h;rw[aU h];exact⟨k,rfl,rfl,rfl,rfl,xL _,sub,fun g hg=>(by cases hg)⟩
 ·rename_i h;rw[aH h];refine⟨k,rfl,rfl,rfl,rfl,by show s.aL<=s.aL+1;omega,sub,fun g hg=>?_⟩;rw[fI.1 hg];exact⟨rfl,xL _,by show s.aL<s.aL+1;omega,rfl⟩
theorem uS.HV {s:bB}(hs:dI s=true)(r:kD):uS s (mQ r s).s (mQ r s).told:=by
 have done:∀(r:kD) (a:nC),uS s (lR ⟨r,s,[]⟩ a).s (lR ⟨r,s,[]⟩ a).told:=fun r a=>by
  unfold lR;split
  ·exact .refl hs
  ·exact .end hs _
 unfold mQ;rw[j9 hs];generalize mS r=r;unfold qE vR x9 zC zT;dsimp only
 repeat' split
 all_goals first
  |exact done _ _
  |exact .refl hs
  |exact .begin hs
theorem uS.pick {s:bB}(hs:dI s=true)(p:jO)(draw:Int):uS s (eI p s draw).2.1 (eI p s draw).2.2.1:=by
 unfold eI;split
 ·exact .refl hs
 ·dsimp only;split
  ·exact .HV hs _
  ·exact .HV hs _
theorem R1 {p q:dJ}(h:∀x∈q.aX,∃r∈p.aX,x.l=r.l){k:Key}(hk:z7 q k):z7 p k:=by
 obtain⟨x,h1,r,h2,h3⟩:=hk;obtain⟨y,h4,h5⟩:=h x h1;exact⟨y,h4,r,h5▸h2,h3⟩
theorem lH.sub {p q:dJ}(h:∀x∈q.aX,∃r∈p.aX,x.l=r.l){l:List Key}(hk:lH p l):lH q l:=fun k h0 hh=>hk k h0 (R1 h hh)
theorem NI.goes {p:aT}{s t:bB}{v:cL}{U D U' told:List Frame}(h:NI p s v U D)(g:uS s t told)(hU:∀x∈U',x∈U\/x∈told):NI p t v U' D:=by
 obtain⟨c,h⟩:=h;have hk0:=lH.of (iP.1 g.IC).p;have gl:=g.le;have up:∀x∈U',x∈U\/(x.type=3/\x.aL<=t.aL/\s.aL<x.aL/\lH t.p x.held):=fun x hx=>(hU x hx).imp id fun q=>by
  obtain⟨a,b,d,e⟩:=g.told x q;exact⟨a,b,d,by rw[e];exact hk0⟩
 have hu':(∀x∈U,wR x->v.v.aL<x.aL->lH s.p x.held)->∀x∈U',wR x->v.v.aL<x.aL->lH t.p x.held:=fun hu x hx ht hl=>by
  rcases up x hx with q|q
  ·exact(hu x q ht hl).sub g.p
  ·exact q.2.2.2
 have cm:T3 p t v U' D:=by
  refine⟨⟨by rw[g.w];exact c.si.cE,fun q hq r hr=>?_,fun q hq=>?_,fun k hk hh=>?_⟩,c.os,fun x hx ht=>?_,by have:=c.vt;omega,fun x hx ht=>?_,c.dk,c.ad,c.rs⟩
  ·obtain⟨y,h1,h2⟩:=g.p q hq;rw[h2]at hr;exact c.si.sn y h1 r hr
  ·obtain⟨y,h1,h2⟩:=g.p q hq;rw[h2];exact c.si.whole y h1
  ·rw[g.w];exact c.si.keep k hk (R1 g.p hh)
  ·rcases up x hx with q|q
   ·have:=c.ut x q ht;omega
   ·exact q.2.1
  ·rcases up x hx with q|q
   ·rw[g.i];exact c.ak x q ht
   ·have:=q.1;omega
 refine⟨cm,?_⟩;cases h with
 |fresh hg ho hd hh hn hc hu=>
  refine .fresh hg ho hd (fun x hx ht=>?_) (by rw[g.i];exact hn) (hc.imp id (lH.sub g.p)) (hu' hu);rcases up x hx with q|q
  ·rw[g.w];exact hh x q ht
  ·have:=q.1;omega
 |closed hg ho hv hn hd hs=>exact .closed hg ho (by rw[g.w];exact hv) (by rw[g.i];exact hn) (by rw[g.i];exact hd) ⟨hs.hc.sub g.p,hu' hs.hu⟩
 |r7 hg ho hv hn hd hs hx=>exact .r7 hg ho (by rw[g.w];exact hv) (by rw[g.i];exact hn) (by rw[g.i];exact hd) ⟨hs.hc.sub g.p,hu' hs.hu⟩ (fun q k hk=>⟨(hx q k hk).1,fun hh=>(hx q k hk).2.1 (R1 g.p hh),(hx q k hk).2.2⟩)
 |taken hg ho hv hn hd T hTs hT hm hc hx=>
  refine .taken hg ho (by rw[g.w,g.e];exact hv) (by rw[g.i];exact hn) (by rw[g.i];exact hd) T (by omega) (fun x hx ht hl=>?_) (fun x hx ht h1 h2=>?_) (fun q=>(hc q).sub g.p) (fun q k hk hh=>hx q k hk (R1 g.p hh))
  ·rcases up x hx with q|q
   ·exact(hT x q ht hl).sub g.p
   ·exact q.2.2.2
  ·rcases up x hx with q|q
   ·rw[g.e];exact hm x q ht h1 h2
   ·have:=q.1;omega
theorem NI.renew {p:aT}{s:bB}{v:cL}{U D U':List Frame}(h:NI p s v U D)(hs:dI s=true){ep:Int}(he:s.aF<ep)(he2:ep<=2147483647)(hf:qO s=false)(mx:Int)(hU:∀x∈U',x∈(jW s ep).2.1):NI p (jW s ep).1 (kP ep mx) U' []:=by
 have ks:=ZT s ep;unfold jW at hU ks⊢;rw[j9 hs]at hU ks⊢;unfold vP at hU ks⊢;rw[aH (by omega),aH (by simp[hf])]at hU ks⊢;dsimp only at hU ks⊢;have c:=h.M7;have S:=iP.1 hs;have t0:=mF.1 S.aL;generalize ht:n9 {s with aF:=ep,up:=true,cE:=aE.qF s.cE.m,fS:=⟨0,0,0,0⟩}=t at hU ks⊢;have tw:t.w=s.w:=by rw[<-ht];rfl
 have tp:t.p=s.p:=by rw[<-ht];rfl
 have tt:t.aL=s.aL+1:=by rw[<-ht];rfl
 have ti:t.cE=aE.qF s.cE.m:=by rw[<-ht];rfl
 have up:∀x∈U',(x.type=0/\x.bF=qK t.w.c.l)\/(x.type=3/\x.aL=t.aL/\x.held=fH t.p):=fun x hx=>by
  have:=hU x hx;simp only[kN,DJ,or_false]at this;rcases this with rfl|rfl
  ·exact .inl ⟨rfl,rfl⟩
  ·exact .inr ⟨rfl,rfl,rfl⟩
 have hk0:=lH.of (iP.1 ks).p;refine⟨⟨⟨by rw[tw];exact c.si.cE,by rw[tp];exact c.si.sn,by rw[tp];exact c.si.whole,by rw[tp,tw];exact c.si.keep⟩,.new _ _,fun x hx hT=>?_,?_,fun x hx hT=>?_,fun x hx=>(by cases hx),fun q=>(by cases q),fun q=>(by cases q)⟩,.fresh rfl rfl (fun x hx=>(by cases hx)) (fun x hx h0=>?_) (fun k hk=>?_) (.inl rfl) (fun x hx hT _=>?_)⟩
 ·rcases up x hx with q|q
  ·rcases hT with g|g<;>omega
  ·omega
 ·show(0:Int)<=t.aL;omega
 ·rcases up x hx with q|q<;>omega
 ·rcases up x hx with q|q
  ·exact q.2
  ·omega
 ·rw[ti];rcases aE.uF hk with rfl|rfl|rfl|rfl<;>rfl
 ·rcases up x hx with q|q
  ·rcases hT with g|g<;>omega
  ·rw[q.2.2];exact hk0
def lE (p:aT)(n:Node):Prop:=NI p n.side n.bA n.up.q n.dn.q
theorem LR (l:dS)(lost:Int)(fs:List Frame):∀g∈(dP l lost fs).1.q,g∈l.q\/g∈fs:=(FV (P:=fun g=>g∈l.q\/g∈fs) lost (fun g hg=>.inl hg) (fun g hg=>.inr hg)).1
theorem lE.new (c:bS)(p:aT):lE p (fZ c):=by
 refine⟨⟨⟨fun r hr=>(by cases hr),fun q hq=>(by cases hq),fun q hq=>(by cases hq),fun k _ hh=>?_⟩,.new _ _,fun f hf=>(by cases hf),xL 0,fun f hf=>(by cases hf),fun f hf=>(by cases hf),fun q=>(by cases q),fun q=>(by cases q)⟩,.fresh rfl rfl (fun f hf=>(by cases hf)) (fun f hf=>(by cases hf)) (fun k hk=>?_) (.inl rfl) (fun f hf=>(by cases hf))⟩
 ·obtain⟨q,hq,_⟩:=hh;cases hq
 ·rcases aE.uF hk with rfl|rfl|rfl|rfl<;>rfl
theorem lE.renew {p:aT}{n:Node}(h:lE p n){B:Int}(sd:iI n B)(ho:dG n)(hB:B<=1000000)(mx lost:Int):lE p (gD mx lost n).1:=by
 have e0:=ho.up.e0;have eB:=sd.eB;have tB:=sd.tB;have ud:=sd.ud;have xe:=sd.xe;unfold gD;rw[aH (by omega)];exact NI.renew h sd.xs (by omega) (by omega) (by simp only[qO,uT];omega) mx (fun x hx=>(LR _ _ _ x hx).elim (fun q=>(by cases q)) id)
theorem lE.dD {p:aT}{n:Node}(h:lE p n){B:Int}(sd:iI n B)(ho:dG n)(hB:B<=1000000)(hp:fN p=true)(mx lost:Int):lE p (gM mx p lost n).1:=by
 have q:=NI.dD h hp sd.xs ho.ss (D':=(dP n.dn lost (Go.G.dD n.bA p).2.1).1.q) (LR _ _ _);have o:=PQ ho.ss ho.so hp;have dn:=Hm n.bA p;rw[nP ho.ss,sd.se]at dn;have d:=FV (P:=fun g=>g.type=1/\g.aF=n.up.aF) (l:=n.dn) lost (fs:=(Go.G.dD n.bA p).2.1) sd.dn dn.1;have m:iI {n with bA:=(Go.G.dD n.bA p).1,dn:=(dP n.dn lost (Go.G.dD n.bA p).2.1).1} B:=⟨sd.up,d.1,by show(dP _ _ _).1.aF=_;rw[d.2];exact sd.ud,dn.2,sd.xs,sd.xe,sd.eB,sd.tB⟩;have ok:dG {n with bA:=(Go.G.dD n.bA p).1,dn:=(dP n.dn lost (Go.G.dD n.bA p).2.1).1}:=⟨ho.d,o.1,o.2.1,ho.up,ho.dn.send _ _,ho.pl⟩;unfold gM;dsimp only;split
 ·exact q
 ·exact lE.renew (n:={n with bA:=(Go.G.dD n.bA p).1,dn:=(dP n.dn lost (Go.G.dD n.bA p).2.1).1}) q m ok hB mx _
theorem lE.set {p:aT}{n:Node}(h:lE p n)(w:Int){l:dS}(hl:∀g∈l.q,g∈(dA n w).q):lE p (fB n w l):=by
 unfold dA at hl;unfold fB;by_cases hw:w=0
 ·rw[aU hw]at hl⊢;exact NI.mono h hl (fun g hg=>hg)
 ·rw[aH hw]at hl⊢;exact NI.mono h (fun g hg=>hg) hl
theorem LO (n:Node)(w:Int)(l:dS):(fB n w l).side=n.side/\(fB n w l).bA=n.bA/\(fB n w l).bR=n.bR/\(w=0->(fB n w l).dn=n.dn)/\(w≠0->(fB n w l).up=n.up/\(fB n w l).dn=l):=by
 unfold fB;split
 ·exact⟨rfl,rfl,rfl,fun _=>rfl,fun q=>absurd ‹_› q⟩
 ·exact⟨rfl,rfl,rfl,fun q=>absurd q ‹_›,fun _=>⟨rfl,rfl⟩⟩
theorem lE.single {p:aT}{n:Node}(h:lE p n){B:Int}(sd:iI n B)(ho:dG n)(hB:B<=1000000)(hp:fN p=true)(mx lost:Int)(s:bJ)(hw:s.kind<=4->s.bG=0\/s.bG=1):lE p (fC mx p lost n s).1:=by
 have hx:∀f,(f=yM\/f=vS\/f=vH)->lE p (mW f lost n s).1:=fun f hf=>h.set _ (Ov (l:=dA n s.bG) (i:=s.n) hf).1;unfold fC;split
 ·rename_i h1;have t:=U2 (dA n s.bG) s.n;have om:=ho.set s.bG ((ho.bG s.bG).take s.n).1;have m:=sd.set t.1 t.2.1;have k:=h.set s.bG t.1;have so:=LO n s.bG (takeN (dA n s.bG) s.n).1;unfold jI;dsimp only;split
  ·exact k
  rename_i h2;have hq:(dA n s.bG).q≠[]:=U3 (rS.1 h2);have hm:=t.2.2 hq;split
  ·rename_i hway;have q:=NI.side (U':=(dP n.up lost (jM n.side (takeN (dA n s.bG) s.n).2.1).2.1).1.q) h sd.xs ho.ss (f:=(takeN (dA n s.bG) s.n).2.1) (by unfold dA at hm⊢;rw[aH (by omega)]at hm⊢;exact hm) (LR _ _ _);have hn0:s.bG≠0:=by omega
   show NI p (jM (fB n s.bG _).side _).1 (fB n s.bG _).bA (dP (fB n s.bG _).up lost (jM (fB n s.bG _).side _).2.1).1.q (fB n s.bG _).dn.q;rw[so.1,so.2.1,(so.2.2.2.2 hn0).1,(so.2.2.2.2 hn0).2];refine NI.mono q (fun g hg=>hg) ?_;have:=t.1;unfold dA at this;rw[aH hn0]at this;unfold dA;rw[aH hn0];exact this
  ·rename_i hway;have w0:s.bG=0:=(hw (by omega)).resolve_right hway;have q:=NI.bA h hp sd.xs ho.ss (f:=(takeN (dA n s.bG) s.n).2.1) (by unfold dA at hm⊢;rw[aU w0]at hm⊢;exact hm);have he:=Ow (fB n s.bG (takeN (dA n s.bG) s.n).1).bA p (takeN (dA n s.bG) s.n).2.1;rw[nP om.ss]at he;have kd:iI {(fB n s.bG (takeN (dA n s.bG) s.n).1)with bA:=(handle (fB n s.bG (takeN (dA n s.bG) s.n).1).bA p (takeN (dA n s.bG) s.n).2.1).1} B:=⟨m.up,m.dn,m.ud,he.trans m.se,m.xs,m.xe,m.eB,m.tB⟩;have ok:dG {(fB n s.bG (takeN (dA n s.bG) s.n).1)with bA:=(handle (fB n s.bG (takeN (dA n s.bG) s.n).1).bA p (takeN (dA n s.bG) s.n).2.1).1}:=⟨om.d,E0 p _ om.ss,R2 _ om.ss om.so hp,om.up,om.dn,om.pl⟩;have kq:lE p {(fB n s.bG (takeN (dA n s.bG) s.n).1)with bA:=(handle (fB n s.bG (takeN (dA n s.bG) s.n).1).bA p (takeN (dA n s.bG) s.n).2.1).1}:=by
    show NI p (fB n s.bG _).side (handle (fB n s.bG _).bA p _).1 (fB n s.bG _).up.q (fB n s.bG _).dn.q;rw[so.1,so.2.1,so.2.2.2.1 w0];refine NI.mono q ?_ (fun g hg=>hg);have:=t.1;unfold fB;rw[aU w0];intro g hg;have:=this g hg;unfold dA at this;rw[aU w0]at this;exact this
   split
   ·exact kq
   ·exact kq.dD kd ok hB hp mx lost
 split
 ·exact hx _ (.inl rfl)
 split
 ·exact hx _ (.inr (.inl rfl))
 split
 ·exact hx _ (.inr (.inr rfl))
 split
 ·exact h.renew sd ho hB mx lost
 split
 ·exact h
 split
 ·exact NI.goes h (.pick sd.xs n.bR s.n) (LR _ _ _)
 ·exact h
theorem zf6 {p:aT}{r:aA}(h:vV p r)(aD:List aA)(gone:List Key):vV (tC p aD gone) r:=by
 obtain⟨l,h1,h2⟩:=h;unfold tC;split
 ·exact⟨l,uU _ h1,h2⟩
 ·exact⟨l,h1,h2⟩
theorem Ye {M:bL}{C:Int}(hM:cN M C){s:bJ}(h0:s.kind=0)(he:rF M.p s.aD s.gone=0):(bH M s).1.p=tC M.p s.aD s.gone:=by
 have hn:¬M.ns=[]:=fun e=>by have:=hM.n1;rw[e]at this;simp at this
 unfold bH;rw[aH hn,aH (by omega),aU h0];unfold sU;dsimp only;rw[aH (by omega)]
theorem lE.step {M:bL}{C B:Int}(hM:cN M C){s:bJ}{i:Nat}{n m:Node}(ho:dG n)(sd:iI n B)(hB:B<=1000000)(h:lE M.p n)(st:HC M s i n m):iI m (B+1)/\lE (bH M s).1.p m:=by
 have hp:=hM.p;have hst:lE (bH M s).1.p n:=by
  rcases(LC M s).2 with e|⟨_,_,e⟩
  ·rw[e];exact h
  ·rw[e];exact NI.store h (fun r hr=>zf6 hr _ _)
 cases st with
 |same h=>exact⟨sd.mono (by omega),hst⟩
 |dD h0 he lost=>
  have hq:=H9 hp s.aD s.gone;have e:=Ye hM h0 he;rw[e]at hst⊢;exact⟨sd.dD ho hB _ hq _,hst.dD sd ho hB hq _ _⟩
 |tick h0 lost=>exact⟨(sd.tick ho lost).mono (by omega),NI.tick ho.ss hst (LR _ _ _)⟩
 |one h1 h0 hw lost=>
  have e:(bH M s).1.p=M.p:=by
   rcases(LC M s).2 with e|⟨q,_⟩
   ·exact e
   ·omega
  rw[e];exact⟨sd.single ho hB _ hp _ _,h.single sd ho hB hp _ _ _ hw⟩
theorem EI (c:bS){l:List bJ}(hl:l.length<=100000)(hs:∀s∈l,eK s){i:Nat}{n:Node}(hn:(aY (aR c) l).1.ns[i]? =some n):iI n l.length/\lE (aY (aR c) l).1.p n:=
 Hz (c:=c) (fun k _ p _ n=>iI n (k:Int)/\lE p n) (fun _=>⟨iI.new c,lE.new c _⟩) (fun M l s C i n m hM _ _ hl ho ih st=>by
  have:=lE.step hM ho ih.1 (by omega) ih.2 st;exact⟨this.1.mono (by omega),this.2⟩) l hl hs i n hn
def lJ (s:bB):List aA:=((hC s).map (·.l)).getD []
theorem VM {s:bB}(h:dI s=true):lJ s=s.w.shown/\s.w.shown=dO s.w.c.l:=by
 have S:=iP.1 h;obtain⟨w1,w2,w3⟩:=uZ.1 S.w;refine⟨?_,w2⟩;have a:=S.yR;unfold uQ at a;unfold lJ hC;rw[j9 h];cases hc:rL s.p with
 |none=>
  rw[hc]at a;simp only[pN]at a;rcases w3 with q|q
  ·rw[a]at q;cases q
  ·rw[q];rfl
 |some c=>
  rw[hc]at a;simp only[bN,cP]at a;exact a.2
theorem O1 {n:Int}:∀{l:List eG} {a:Int},gX n a l=true->l.Pairwise fun x y=>x.id<y.id
 |[],_,_=>.nil
 |s::r,a,h=>by
  simp only[gX,bN,cP]at h;refine .cons (fun x hx=>?_) (O1 h.2);have:=(D4 h.2 x hx).2.2;omega
theorem Dz {l:List eG}(h:l.Pairwise fun x y=>x.id<y.id){i j:Nat}{x y:eG}(hi:l[i]? =some x)(hj:l[j]? =some y)(e:x.id=y.id):i=j:=by
 obtain⟨a,rfl⟩:=cC.1 hi;obtain⟨b,rfl⟩:=cC.1 hj;rcases Nat.lt_trichotomy i j with q|q|q
 ·have:=UA.1 h i j a b q;omega
 ·exact q
 ·have:=UA.1 h j i b a q;omega
theorem Ih {l:List eG}(h:l.Pairwise fun x y=>x.id<y.id){j:Nat}{q:eG}(hj:l[j]? =some q):∀k,j<k->k<=l.length->sC l q.id k=j
 |0,h,_=>by omega
 |k+1,h1,h2=>by
  unfold sC;have e:l[k]? =some l[k]:=cI (by omega);rw[e];simp only;split
  ·rename_i he;rw[Dz h e hj he]
  ·rename_i he;refine Ih h hj k ?_ (by omega);by_cases hjk:j=k
   ·subst hjk;rw[e]at hj;cases hj;exact absurd rfl he
   ·omega
theorem WL {p:dJ}(h:jU p=true){j:Nat}{q:eG}(hj:p.aX[j]? =some q):lM p q.id=j:=by
 have:=(cC.1 hj).1;exact Ih (O1 (oQ.1 h).1) hj _ this (cM _)
theorem Y4 {p:dJ}(h:jU p=true){q:eG}(hq:q∈p.aX):sI p q.id=some q.l:=by
 obtain⟨j,hj⟩:=vY.1 hq;unfold sI MU;rw[mC h,WL h hj,aH (by omega),AG,hj];rfl
def hold (t:Task)(id:Int):Bool:=decide (1<=t.r.cV)&&decide (t.r.id=id)
def oY (l:List Task)(id:Int):Nat:=(l.filter fun t=>hold t id).length
theorem GR (t:Task)(l:List Task)(id:Int):oY (t::l) id=(if hold t id then 1 else 0)+oY l id:=by
 unfold oY;rw[yW];split<;>simp<;>omega
theorem YO (id:Int)(t':Task):∀(l:List Task) (k:Nat) (t:Task),l[k]? =some t->oY (l.set k t') id+(if hold t id then 1 else 0)=oY l id+(if hold t' id then 1 else 0)
 |[],k,t,h=>by simp at h
 |x::l,0,t,h=>by
  simp only[BX,lS]at h;subst h;rw[T8,GR,GR];omega
 |x::l,k+1,t,h=>by
  have:=YO id t' l k t (by simpa using h);rw[List.set_cons_succ,GR,GR];omega
theorem YQ (id:Int):∀(l:List Task) (k:Nat) (t:Task),l[k]? =some t->oY (l.eraseIdx k) id+(if hold t id then 1 else 0)=oY l id
 |[],k,t,h=>by simp at h
 |x::l,0,t,h=>by
  simp only[BX,lS]at h;subst h;rw[List.eraseIdx_cons_zero,GR];omega
 |x::l,k+1,t,h=>by
  have:=YQ id l k t (by simpa using h);rw[List.eraseIdx_cons_succ,GR,GR];omega
theorem YP {l:List Task}{t:Task}(h:t∈l)(hs:1<=t.r.cV):1<=oY l t.r.id:=by
 unfold oY;exact List.length_pos_of_mem (jD.2 ⟨h,by simp[hold,hs]⟩)
structure rN (p:dJ)(l:List Task):Prop where
 yP:∀q∈p.aX,q.pins=(oY l q.id:Int)
 ex:∀t∈l,1<=t.r.cV->∃q∈p.aX,q.id=t.r.id
theorem rN.WI {p:dJ}{l:List Task}(h:rN p l)(hp:jU p=true)(L:List aA):rN ⟨p.next+1,wQ p++[⟨p.next+1,0,L⟩]⟩ l/\∀t∈l,1<=t.r.cV->∀q∈p.aX,q.id=t.r.id->q∈wQ p:=by
 have lf:∀t∈l,1<=t.r.cV->∀q∈p.aX,q.id=t.r.id->q∈wQ p:=fun t ht hs q hq e=>by
  refine jD.2 ⟨hq,?_⟩;have a:=h.yP q hq;have b:=YP ht hs;rw[<-e]at b;simp only[pN,uT];omega
 refine⟨⟨fun q hq=>?_,fun t ht hs=>?_⟩,lf⟩
 ·rcases dN.1 hq with g|g
  ·exact h.yP q (jD.1 g).1
  ·rw[fI.1 g];show(0:Int)=(oY l (p.next+1):Int);have:oY l (p.next+1)=0:=by
    unfold oY;rw[KL,KS];intro t ht hh;simp only[hold,bN,cP]at hh;obtain⟨q,hq,e⟩:=h.ex t ht hh.1;have:=(D4 (oQ.1 hp).1 q hq).1;omega
   omega
 ·obtain⟨q,hq,e⟩:=h.ex t ht hs;exact⟨q,uU _ (lf t ht hs q hq e),e⟩
theorem rN.xX {p:dJ}{l:List Task}(h:rN p l)(hp:jU p=true){k:Nat}{t:Task}(ht:l[k]? =some t)(h0:t.r.cV=0){i:List eG}{q:eG}(hq:p.aX=i++[q]){r:kD}(h1:r.cV=1)(h2:r.id=q.id):
  rN ⟨p.next,i++[{q with pins:=q.pins+1}]⟩ (l.set k ⟨t.n,r⟩):=by
 have pw:=O1 (oQ.1 hp).1;rw[hq]at pw;have ne:∀x∈i,¬x.id=q.id:=fun x hx e=>by
  have:=(KH.1 pw).2.2 x hx q (by simp);omega
 have ht0:∀id,hold t id=false:=fun id=>by simp[hold,h0]
 have hs:=fun id=>YO id ⟨t.n,r⟩ l k t ht;simp only[ht0]at hs;refine⟨fun x hx=>?_,fun y hy hys=>?_⟩
 ·rcases dN.1 hx with g|g
  ·have a:=h.yP x (by rw[hq];exact uU _ g);have b:=hs x.id;have:hold ⟨t.n,r⟩ x.id=false:=by simp[hold,h2];intro _ e;exact ne x g e.symm
   rw[this]at b;simp only[oM,gY]at b;omega
  ·rw[fI.1 g];have a:=h.yP q (by rw[hq];simp);have b:=hs q.id;have:hold ⟨t.n,r⟩ q.id=true:=by simp[hold,h2,h1]
   rw[this]at b;simp only[oM,gY,eA]at b;show q.pins+1=(oY (l.set k ⟨t.n,r⟩) q.id:Int);omega
 ·rcases BR hy with g|g
  ·obtain⟨x,hx,e⟩:=h.ex y g hys;rw[hq]at hx;rcases dN.1 hx with w|w
   ·exact⟨x,uU _ w,e⟩
   ·rw[fI.1 w]at e;exact⟨{q with pins:=q.pins+1},by simp,e⟩
  ·rw[g];exact⟨{q with pins:=q.pins+1},by simp,h2.symm⟩
theorem rN.go {p:dJ}{l:List Task}(h:rN p l){k:Nat}{t:Task}(ht:l[k]? =some t){r:kD}(h0:1<=t.r.cV)(h1:1<=r.cV)(h2:r.id=t.r.id):rN p (l.set k ⟨t.n,r⟩):=by
 refine⟨fun q hq=>?_,fun y hy hys=>?_⟩
 ·have a:=h.yP q hq;have b:=YO q.id ⟨t.n,r⟩ l k t ht;have:hold ⟨t.n,r⟩ q.id=hold t q.id:=by simp[hold,h0,h1,h2]
  rw[this]at b;omega
 ·rcases BR hy with g|g
  ·exact h.ex y g hys
  ·rw[g];show∃q∈p.aX,q.id=r.id;rw[h2];exact h.ex t (eH ht) h0
theorem rN.out {p:dJ}{l:List Task}(h:rN p l){k:Nat}{t:Task}(ht:l[k]? =some t)(h0:t.r.cV=0):rN p (l.eraseIdx k):=by
 refine⟨fun q hq=>?_,fun y hy hys=>h.ex y (DL hy) hys⟩;have a:=h.yP q hq;have b:=YQ q.id l k t ht;have:hold t q.id=false:=by simp[hold,h0]
 rw[this]at b;simp only[oM,gY]at b;omega
theorem rN.rel {p:dJ}{l:List Task}(h:rN p l)(hp:jU p=true){k:Nat}{t:Task}(ht:l[k]? =some t)(h0:1<=t.r.cV):
  rN (oR p t.r.id).1 (l.eraseIdx k)/\∀y∈l.eraseIdx k,1<=y.r.cV->∀q∈p.aX,q.id=y.r.id->∃x∈(oR p t.r.id).1.aX,x.id=q.id/\x.l=q.l:=by
 have pw:=O1 (oQ.1 hp).1;obtain⟨q,hq,eq⟩:=h.ex t (eH ht) h0;obtain⟨j,hj⟩:=vY.1 hq;have hjl:=(cC.1 hj).1;have pl:lM p t.r.id=j:=by rw[<-eq];exact WL hp hj
 have cq:=h.yP q hq;have hm:=YP (eH ht) h0;rw[<-eq]at hm;have er:=fun id=>YQ id l k t ht;have hq1:hold t q.id=true:=by simp[hold,h0,eq]
 have other:∀(i:Nat) (x:eG),p.aX[i]? =some x->i≠j->x.pins=(oY (l.eraseIdx k) x.id:Int):=fun i x hx hij=>by
  have a:=h.yP x (eH hx);have b:=er x.id;have:hold t x.id=false:=by
   simp only[hold,h0,yT,tU,uT];intro e;exact hij (Dz pw hx hj (by rw[<-e,eq]))
  rw[this]at b;simp only[oM,gY]at b;omega
 have eb:=er q.id;rw[hq1]at eb;simp only[eA]at eb;unfold oR;rw[mC hp];unfold s9;rw[pl,aH (by omega),AG,hj];dsimp only;rw[aH (by omega)];split
 ·rename_i hc;have z:oY (l.eraseIdx k) q.id=0:=by omega
  have mem:∀x:eG,x∈p.aX->x.id≠q.id->x∈p.aX.eraseIdx j:=fun x hx hne=>by
   obtain⟨i,hi⟩:=vY.1 hx;rw[List.mem_eraseIdx_iff_getElem?];exact⟨i,fun e=>hne (by subst e;rw[hj]at hi;cases hi;rfl),hi⟩
  have nz:∀y∈l.eraseIdx k,1<=y.r.cV->y.r.id≠q.id:=fun y hy hys e=>by
   have:=YP hy hys;rw[e]at this;omega
  refine⟨⟨fun x hx=>?_,fun y hy hys=>?_⟩,fun y hy hys x hx e=>⟨x,mem x hx (by rw[e];exact nz y hy hys),rfl,rfl⟩⟩
  ·obtain⟨i,hne,hi⟩:=List.mem_eraseIdx_iff_getElem?.1 hx;exact other i x hi hne
  ·obtain⟨x,hx,e⟩:=h.ex y (DL hy) hys;exact⟨x,mem x hx (by rw[e];exact nz y hy hys),e⟩
 ·have mem:∀x:eG,x∈p.aX->∃z∈p.aX.set j {q with pins:=q.pins-1},z.id=x.id/\z.l=x.l:=fun x hx=>by
   obtain⟨i,hi⟩:=vY.1 hx;by_cases e:i=j
   ·subst e;rw[hj]at hi;cases hi;exact⟨_,List.mem_set hjl _,rfl,rfl⟩
   ·exact⟨x,vY.2 ⟨i,by rw[N7 (fun q=>e q.symm)];exact hi⟩,rfl,rfl⟩
  refine⟨⟨fun x hx=>?_,fun y hy hys=>?_⟩,fun y hy hys x hx e=>mem x hx⟩
  ·obtain⟨i,hi⟩:=vY.1 hx;by_cases e:i=j
   ·subst e;rw[FI hjl]at hi;cases hi;show q.pins-1=(oY (l.eraseIdx k) q.id:Int);omega
   ·rw[N7 (fun q=>e q.symm)]at hi;exact other i x hi e
  ·obtain⟨x,hx,e⟩:=h.ex y (DL hy) hys;obtain⟨z,hz,e1,_⟩:=mem x hx;exact⟨z,hz,e1.trans e⟩
def wZ (L:List aA)(a:Ask)(cl:cH):nC:=
 let c:=aS L ⟨2,cl⟩
 let e:=aS L ⟨3,(c.getD jE).to⟩
 let h:=tK (e.getD jE).cT a.other
 if(!c.isSome|| !e.isSome|| !h.2)=true then⟨0,⟨#[]⟩,0⟩else⟨3,cl,h.1⟩
def tQ (L:List aA)(a:Ask)(CF:cH):nC:=
 let x:=aS L ⟨1,CF⟩
 let u:=nQ (x.getD jE).rules a.host a.path
 if(!x.isSome|| !u.2)=true then⟨2,⟨#[]⟩,0⟩else
 let c:=tN u.1.split a.first
 if c.2=false then⟨0,⟨#[]⟩,0⟩else wZ L a c.1
def iZ (L:List aA)(ok:Bool)(a:Ask):nC:=
 if ok=false then⟨0,⟨#[]⟩,0⟩else match wP L a.port with
 |none=>⟨1,⟨#[]⟩,0⟩
 |some x=>tQ L a x.to
structure HA (L:List aA)(r:kD):Prop where
 s2:r.cV=2->iZ L true r.a=tQ L r.a r.CF
 s3:r.cV=3->iZ L true r.a=wZ L r.a r.gI
 s4:r.cV=4->iZ L true r.a=r.out
inductive G9 (r:kD)(s:bB):jK->Prop
 |none (h0:r.cV=0) (hc:s.p.aX=[]):G9 r s ⟨{r with cV:=5,out:=⟨0,⟨#[]⟩,0⟩},s,[]⟩
 |full (h0:r.cV=0) (q:eG) (hq:q∈s.p.aX) (hp:q.pins=10000) (w:jK):G9 r s w
 |xX (h0:r.cV=0) (i:List eG) (q:eG) (hq:s.p.aX=i++[q]):G9 r s ⟨{r with id:=q.id,cV:=1},{s with p:=⟨s.p.next,i++[{q with pins:=q.pins+1}]⟩},[]⟩
 |go (h1:1<=r.cV) (t:kD) (h2:t.cV=r.cV+1/\t.cV<=4) (hi:t.id=r.id) (ha:t.a=r.a) (hL:∀L,sI s.p r.id=some L->HA L r->HA L t):G9 r s ⟨t,s,[]⟩
 |fin (h1:1<=r.cV) (o:nC) (hL:∀L,sI s.p r.id=some L->HA L r->o=iZ L true r.a):G9 r s ⟨{r with cV:=5,out:=o},(kC s r.id).1,(kC s r.id).2.1⟩
theorem VF {r:kD}(h:lL r=true):mS r=r:=by unfold mS;rw[aU h]
theorem OU {r:kD}{s:bB}(hr:lL r=true)(hrun:kU r=true)(hs:dI s=true):G9 r s (mQ r s):=by
 have hb:0<=r.cV/\r.cV<=4:=by
  unfold kU at hrun;rw[VF hr]at hrun;simp only[lL,bN,pN,AH,uT]at hr hrun;omega
 unfold mQ;rw[j9 hs,VF hr];unfold qE;dsimp only;split
 ·rename_i h0;unfold vR qR;dsimp only;rw[j9 hs];have S:=iP.1 hs;unfold qJ;rw[mC S.p];unfold zF;cases hl:s.p.aX.getLast? with
  |none=>
   have e:=List.getLast?_eq_none_iff.1 hl;simp only;unfold lR;rw[aU h0];exact .none h0 e
  |some q=>
   obtain⟨i,hi⟩:=List.getLast?_eq_some_iff.1 hl;simp only;split
   ·rename_i hp;exact .full h0 q (by rw[hi];simp) hp _
   ·simp only[T5,gY];rw[show s.p.aX.dropLast=i by rw[hi];simp];exact .xX h0 i q hi
 have snap:∀L,sI s.p r.id=some L->y6 ⟨r,s,[]⟩=L:=fun L e=>by simp[y6,e]
 have h1:1<=r.cV:=by omega
 have done:∀o,(∀L,sI s.p r.id=some L->HA L r->o=iZ L true r.a)->G9 r s (lR ⟨r,s,[]⟩ o):=fun o h=>by
  unfold lR;rw[aH (by show¬r.cV=0;omega)];exact .fin h1 o h
 split
 ·rename_i e1;unfold x9;dsimp only;split
  ·rename_i hl;refine done _ fun L hL _=>?_;rw[snap L hL]at hl;simp[iZ,hl]
  ·rename_i x hl;refine .go h1 _ ⟨by simp[e1],by simp⟩ rfl rfl fun L hL _=>⟨fun _=>?_,fun q=>absurd q (by simp),fun q=>absurd q (by simp)⟩
   rw[snap L hL]at hl;simp[iZ,hl]
 split
 ·rename_i e2;unfold zC wT;dsimp only;split
  ·rename_i hc;refine done _ fun L hL ra=>?_;rw[snap L hL]at hc;rw[ra.s2 e2,tQ];dsimp only;rw[aU hc]
  ·rename_i hc;split
   ·rename_i hd;refine done _ fun L hL ra=>?_;rw[snap L hL]at hc hd;rw[ra.s2 e2,tQ];dsimp only;rw[aH hc,aU hd]
   ·rename_i hd;refine .go h1 _ ⟨by simp[e2],by simp⟩ rfl rfl fun L hL ra=>⟨fun q=>absurd q (by simp),fun _=>?_,fun q=>absurd q (by simp)⟩
    rw[snap L hL]at hc hd⊢;show iZ L true r.a=wZ L r.a _;rw[ra.s2 e2,tQ];dsimp only;rw[aH hc,aH hd]
 split
 ·rename_i e3;unfold zT wT;dsimp only;split
  ·rename_i hc;refine done _ fun L hL ra=>?_;rw[snap L hL]at hc;rw[ra.s3 e3,wZ];exact(aU hc).symm
  ·rename_i hc;refine .go h1 _ ⟨by simp[e3],by simp⟩ rfl rfl fun L hL ra=>⟨fun q=>absurd q (by simp),fun q=>absurd q (by simp),fun _=>?_⟩
   rw[snap L hL]at hc⊢;show iZ L true r.a=_;rw[ra.s3 e3,wZ];exact aH hc
 split
 ·rename_i e4;exact done _ fun L hL ra=>(ra.s4 e4).symm
 ·omega
structure qW (s:bB)(P:jO)(asks:List (Ask×Nat))(H:List (List aA×Bool)):Prop where
 pi:rN s.p P.tasks
 nx:P.next=asks.length
 ti:∀t∈P.tasks,∃f,asks[(t.n-1).toNat]? =some (t.r.a,f)/\f<=H.length/\(1<=t.r.cV->∃(τ:Nat) (L:List aA) (q:eG),f<=τ/\H[τ]? =some (L,true)/\q∈s.p.aX/\q.id=t.r.id/\q.l=L/\HA L t.r)
theorem qW.more {s t:bB}{P:jO}{asks:List (Ask×Nat)}{H:List (List aA×Bool)}(h:qW s P asks H)(hp:t.p=s.p)(x:List aA×Bool):qW t P asks (H++[x]):=by
 refine⟨hp▸h.pi,h.nx,fun t' ht=>?_⟩;obtain⟨f,a,b,c⟩:=h.ti t' ht;refine⟨f,a,by simp;omega,fun hs=>?_⟩;obtain⟨τ,L,q,c1,c2,c3,c4,c5,c6⟩:=c hs;exact⟨τ,L,q,c1,by rw[jY (cC.1 c2).1];exact c2,hp▸c3,c4,c5,c6⟩
theorem qW.WI {s t:bB}{P:jO}{asks:List (Ask×Nat)}{H:List (List aA×Bool)}(h:qW s P asks H)(hp:jU s.p=true){L:List aA}(ht:t.p=⟨s.p.next+1,wQ s.p++[⟨s.p.next+1,0,L⟩]⟩):qW t P asks H:=by
 obtain⟨a,b⟩:=h.pi.WI hp L;refine⟨ht▸a,h.nx,fun t' ht'=>?_⟩;obtain⟨f,a,a2,c⟩:=h.ti t' ht';refine⟨f,a,a2,fun hs=>?_⟩;obtain⟨τ,L,q,c1,c2,c3,c4,c5,c6⟩:=c hs;exact⟨τ,L,q,c1,c2,by rw[ht];exact uU _ (b t' ht' hs q c3 c4),c4,c5,c6⟩
theorem qW.begin {s:bB}{P:jO}{asks:List (Ask×Nat)}{H:List (List aA×Bool)}(h:qW s P asks H)(hP:zY P)(a:Ask)(he:(mR P a).2.2=0)(x:List aA×Bool):
  (mR P a).2.1=(asks.length+1:Nat)/\qW s (mR P a).1 (asks++[(a,H.length)]) (H++[x]):=by
 unfold mR at he⊢;split at he
 ·cases he
 rename_i hc;rw[aH hc];have nx:=h.nx;refine⟨by show P.next+1=_;omega,⟨fun q hq=>?_,fun t ht hs=>?_⟩,?_,fun t ht=>?_⟩
 ·have a':=h.pi.yP q hq;show q.pins=(oY (P.tasks++[⟨P.next+1,oU a⟩]) q.id:Int);unfold oY at a'⊢;rw[v7,dQ];simp[hold,oU,a']
 ·rcases dN.1 ht with g|g
  ·exact h.pi.ex t g hs
  ·rw[fI.1 g]at hs;simp[oU]at hs
 ·show P.next+1=_;simp;omega
 ·rcases dN.1 ht with g|g
  ·obtain⟨f,b1,b2,b3⟩:=h.ti t g;refine⟨f,by rw[jY (cC.1 b1).1];exact b1,by simp;omega,fun hs=>?_⟩;obtain⟨τ,L,q,c1,c2,c3,c4,c5,c6⟩:=b3 hs;exact⟨τ,L,q,c1,by rw[jY (cC.1 c2).1];exact c2,c3,c4,c5,c6⟩
  ·rw[fI.1 g];have e:(P.next+1-1).toNat=asks.length:=by omega
   refine⟨H.length,?_,by simp,fun hs=>by simp[oU]at hs⟩;show(asks++[(a,H.length)])[(P.next+1-1).toNat]? =some ((oU a).a,H.length);rw[e];simp[oU]
theorem qW.pick {s:bB}{P:jO}{asks:List (Ask×Nat)}{H:List (List aA×Bool)}(h:qW s P asks H)(hs:dI s=true)(hP:zY P)(draw:Int){L:List aA}{ok:Bool}(hL:(L,ok)=(lJ s,(hC s).isSome)):
  qW (eI P s draw).2.1 (eI P s draw).1 asks (H++[(L,ok)])/\
  ((eI P s draw).2.2.2=0->(eI P s draw).1.tasks.length≠P.tasks.length->∃x a f,(eI P s draw).1.done.getLast? =some x/\1<=x.n/\asks[(x.n-1).toNat]? =some (a,f)/\∃(τ:Nat) (M:List aA×Bool),f<=τ/\(H++[(L,ok)])[τ]? =some M/\iZ M.1 M.2 a=x.r.out):=by
 have S:=iP.1 hs;have last:∀(q:Nat) (M:List aA×Bool),H[q]? =some M->(H++[(L,ok)])[q]? =some M:=fun q M e=>by rw[jY (cC.1 e).1];exact e
 unfold eI;cases ht:P.tasks[oC P draw]? with
 |none=>exact⟨h.more rfl _,fun q=>by cases q⟩
 |some t=>
  have tm:=eH ht;have run:=hP.run t tm;have t1:=(hP.rt t tm).1;obtain⟨f,a1,a2,a3⟩:=h.ti t tm;have o:=OU run.1 run.2 hs;dsimp only
  have rest:∀(sn:List eG) (l:List Task),(∀y∈l,y∈P.tasks)->(∀y∈l,1<=y.r.cV->∀q∈s.p.aX,q.id=y.r.id->∃x∈sn,x.id=q.id/\x.l=q.l)->
    ∀y∈l,∃f,asks[(y.n-1).toNat]? =some (y.r.a,f)/\f<=(H++[(L,ok)]).length/\(1<=y.r.cV->∃(τ:Nat) (L':List aA) (q:eG),f<=τ/\(H++[(L,ok)])[τ]? =some (L',true)/\q∈sn/\q.id=y.r.id/\q.l=L'/\HA L' y.r):=fun sn l h1 h2 y hy=>by
   obtain⟨f,b1,b2,b3⟩:=h.ti y (h1 y hy);refine⟨f,b1,by simp;omega,fun hs=>?_⟩;obtain⟨τ,L',q,c1,c2,c3,c4,c5,c6⟩:=b3 hs;obtain⟨x,x1,x2,x3⟩:=h2 y hy hs q c3 c4;exact⟨τ,L',x,c1,last _ _ c2,x1,x2.trans c4,x3.trans c5,c6⟩
  have t0:¬t.r.id<0:=by
   have:=run.1;simp only[lL,bN,pN,AH,uT]at this;exact this.1.2
  have r5:∀o:nC,kU {t.r with cV:=5,out:=o}=false:=fun o=>by
   unfold kU mS lL;simp[t0]
  generalize mQ t.r s=w at o;cases o with
  |full h0 q hq hp=>
   have b:=h.pi.yP q hq;have c:oY P.tasks q.id<=P.tasks.length:=kS _ _;have:=hP.lt;omega
  |none h0 hc=>
   rw[aH (by rw[r5];decide)];refine⟨⟨h.pi.out ht h0,h.nx,rest _ _ (fun y hy=>DL hy) (fun y _ _ q hq _=>⟨q,hq,rfl,rfl⟩)⟩,fun _ _=>?_⟩;have e:hC s=Option.none:=by unfold hC rL;rw[j9 hs,mC S.p,hc];rfl
   rw[e]at hL;cases hL;refine⟨⟨t.n,{t.r with cV:=5,out:=⟨0,⟨#[]⟩,0⟩}⟩,t.r.a,f,by simp[x5],t1,a1,H.length,(lJ s,false),a2,by simp,?_⟩;simp[iZ]
  |xX h0 i q hq=>
   have rn:kU {t.r with id:=q.id,cV:=1}=true:=by
    have:=(D4 (oQ.1 S.p).1 q (by rw[hq];simp)).2.2;unfold kU mS lL;simp[show¬q.id<0 by omega,show 0<q.id by omega]
   rw[aU rn];refine⟨⟨h.pi.xX S.p ht h0 hq rfl rfl,h.nx,fun y hy=>?_⟩,fun _ e=>?_⟩
   ·rcases BR hy with g|g
    ·refine rest (i++[{q with pins:=q.pins+1}]) P.tasks (fun y hy=>hy) (fun y _ _ x hx _=>?_) y g;rw[hq]at hx;rcases dN.1 hx with w|w
     ·exact⟨x,uU _ w,rfl,rfl⟩
     ·rw[fI.1 w];exact⟨{q with pins:=q.pins+1},by simp,rfl,rfl⟩
    ·rw[g];have e:hC s=some q:=by unfold hC rL;rw[j9 hs,mC S.p,hq];simp
     have e2:lJ s=q.l:=by unfold lJ;rw[e];rfl
     rw[e,e2]at hL;cases hL;exact⟨f,a1,by simp;omega,fun _=>⟨H.length,q.l,{q with pins:=q.pins+1},a2,by simp,by simp,rfl,rfl,⟨fun z=>absurd z (by simp),fun z=>absurd z (by simp),fun z=>absurd z (by simp)⟩⟩⟩
   ·exact absurd (by simp) e
  |go h1 r h2 hi ha hR=>
   obtain⟨τ,L',q,c1,c2,c3,c4,c5,c6⟩:=a3 h1;have gp:sI s.p t.r.id=some L':=by rw[<-c4,<-c5];exact Y4 S.p c3
   have rn:kU r=true:=by
    have:=(D4 (oQ.1 S.p).1 q c3).2.2;unfold kU mS lL;rw[hi,<-c4];simp[show¬r.cV<0 by omega,show¬5<r.cV by omega,show¬q.id<0 by omega,show 0<q.id by omega,show¬r.cV=5 by omega]
   rw[aU rn];refine⟨⟨h.pi.go ht h1 (show 1<=r.cV by omega) hi,h.nx,fun y hy=>?_⟩,fun _ e=>?_⟩
   ·rcases BR hy with g|g
    ·exact rest s.p.aX P.tasks (fun y hy=>hy) (fun y _ _ x hx _=>⟨x,hx,rfl,rfl⟩) y g
    ·rw[g];exact⟨f,by rw[ha];exact a1,by simp;omega,fun _=>⟨τ,L',q,c1,last _ _ c2,c3,c4.trans hi.symm,c5,hR L' gp c6⟩⟩
   ·exact absurd (by simp) e
  |fin h1 o hR=>
   obtain⟨τ,L',q,c1,c2,c3,c4,c5,c6⟩:=a3 h1;have gp:sI s.p t.r.id=some L':=by rw[<-c4,<-c5];exact Y4 S.p c3
   rw[aH (by rw[r5];decide)];have pr:=h.pi.rel S.p ht h1;have ep:(kC s t.r.id).1.p=(oR s.p t.r.id).1:=by
    unfold kC;rw[j9 hs];unfold yK;dsimp only;split<;>rfl
   refine⟨⟨by rw[ep];exact pr.1,h.nx,by rw[ep];exact rest _ _ (fun y hy=>DL hy) pr.2⟩,fun _ _=>?_⟩;exact⟨⟨t.n,{t.r with cV:=5,out:=o}⟩,t.r.a,f,by simp[x5],t1,a1,τ,(L',true),c1,last _ _ c2,(hR L' gp c6).symm⟩
theorem Ee {s:bB}(h:dI s=true):(hC s).isSome=s.w.ready:=by
 have a:=(iP.1 h).yR;unfold uQ at a;unfold hC;rw[j9 h];cases hc:rL s.p with
 |none=>rw[hc]at a;simpa using a.symm
 |some c=>
  rw[hc]at a;simp only[bN]at a;exact a.1.symm
theorem zaH {s t:bB}(hs:dI s=true)(ht:dI t=true)(e:t.w=s.w):(lJ t,(hC t).isSome)=(lJ s,(hC s).isSome):=by
 rw[Ee hs,Ee ht,(VM hs).1,(VM ht).1,e]
theorem DX {M:bL}{s:bJ}{i:Nat}{n:Node}(hn:M.ns[i]? =some n)(h1:s.side=i)(h2:5<=s.kind/\s.kind<=9/\s.kind≠6):bH M s=(⟨M.c,M.p,M.ns.set i (fC M.c.max M.p M.lost n s).1,(fC M.c.max M.p M.lost n s).2.1⟩,(fC M.c.max M.p M.lost n s).2.2):=by
 have h0:¬M.ns=[]:=fun e=>by rw[e]at hn;simp at hn
 have ha:nodeAt M.ns s.side=some n:=by unfold nodeAt;rw[aU (by omega),h1,AG];exact hn
 unfold bH;rw[aH h0,aH (by omega),aH (by omega),aH (by omega),ha];simp only;rw[aH (by omega),h1,AG]
theorem OV {M:bL}{s:bJ}{i:Nat}(hM:M.ns≠[])(hn:M.ns[i]? =none)(h1:s.side=i)(h2:5<=s.kind/\s.kind<=9/\s.kind≠6):(bH M s).2=fP 10:=by
 have ha:nodeAt M.ns s.side=none:=by unfold nodeAt;rw[aU (by omega),h1,AG];exact hn
 unfold bH;rw[aH hM,aH (by omega),aH (by omega),aH (by omega),ha]
structure AS where
 M:bL
 H:List (List aA×Bool)
 A:List (Ask×Nat)
def lX (M:bL)(k:Nat):List aA×Bool:=match M.ns[k]? with
 |some n=>(lJ n.side,(hC n.side).isSome)
 |none=>([],false)
def uO (k:Nat)(z:AS)(s:bJ):AS:=⟨(bH z.M s).1,z.H++[lX (bH z.M s).1 k],if s.kind=7/\s.side=(k:Int)/\(bH z.M s).2.e=0 then z.A++[(s.a,z.H.length)]else z.A⟩
def jA (c:bS)(k:Nat)(l:List bJ):AS:=l.foldl (uO k) ⟨aR c,[],[]⟩
theorem G5 (c:bS)(k:Nat)(l:List bJ)(s:bJ):jA c k (l++[s])=uO k (jA c k l) s:=by simp[jA]
structure Told (k:Nat)(z:AS)(s:bJ):Prop where
 beg:s.kind=7->s.side=(k:Int)->(bH z.M s).2.e=0->(bH z.M s).2.n=(z.A.length+1:Nat)
 go:s.kind=8->s.side=(k:Int)->0<(bH z.M s).2.n->∃a f,z.A[((bH z.M s).2.n-1).toNat]? =some (a,f)/\∃(τ:Nat) (o:List aA×Bool),f<=τ/\(uO k z s).H[τ]? =some o/\iZ o.1 o.2 a=(bH z.M s).2.iT
theorem zig (s:bB)(hs:dI s=true)(e:Int):(jW s e).1.p=s.p:=by
 unfold jW;rw[j9 hs];unfold vP;split
 ·rfl
 split<;>rfl
theorem Gw (mx lost:Int){n:Node}(hs:dI n.side=true):(gD mx lost n).1.side.p=n.side.p/\(gD mx lost n).1.bR=n.bR:=by
 unfold gD;split
 ·exact⟨rfl,rfl⟩
 ·exact⟨zig _ hs _,rfl⟩
theorem Hl (mx:Int)(p:aT)(lost:Int){n:Node}(hs:dI n.side=true):(gM mx p lost n).1.side.p=n.side.p/\(gM mx p lost n).1.bR=n.bR:=by
 unfold gM;dsimp only;split
 ·exact⟨rfl,rfl⟩
 ·exact Gw mx _ (n:={n with bA:=(Go.G.dD n.bA p).1,dn:=(dP n.dn lost (Go.G.dD n.bA p).2.1).1}) hs
theorem qW.single {n:Node}{A:List (Ask×Nat)}{H:List (List aA×Bool)}(h:qW n.side n.bR A H)(hs:dI n.side=true)(ho:dG n)(mx lost:Int)(p:aT)(s:bJ)(hw:s.kind<=4->s.bG=0\/s.bG=1)(hk:s.kind≠0/\s.kind≠6)(hs':dI (fC mx p lost n s).1.side=true)(a:Ask)(ha:s.kind=7->a=s.a):
  qW (fC mx p lost n s).1.side (fC mx p lost n s).1.bR (if s.kind=7/\(fC mx p lost n s).2.2.e=0 then A++[(a,H.length)]else A) (H++[(lJ (fC mx p lost n s).1.side,(hC (fC mx p lost n s).1.side).isSome)])/\
  (s.kind=7->(fC mx p lost n s).2.2.e=0->(fC mx p lost n s).2.2.n=(A.length+1:Nat))/\
  (s.kind=8->0<(fC mx p lost n s).2.2.n->∃a f,A[((fC mx p lost n s).2.2.n-1).toNat]? =some (a,f)/\∃(τ:Nat) (o:List aA×Bool),f<=τ/\(H++[(lJ (fC mx p lost n s).1.side,(hC (fC mx p lost n s).1.side).isSome)])[τ]? =some o/\iZ o.1 o.2 a=(fC mx p lost n s).2.2.iT):=by
 have S:=iP.1 hs;have keep:∀(t:bB) (P:jO),t.p=n.side.p->P=n.bR->∀x,qW t P A (H++[x]):=fun t P e1 e2 x=>by rw[e2];exact h.more e1 x
 have hx:∀f:dS->Int->dS×Int,∀x,qW (mW f lost n s).1.side (mW f lost n s).1.bR A (H++[x]):=fun f x=>by
  have so:=LO n s.bG (f (dA n s.bG) s.n).1;exact keep _ _ (by show(fB _ _ _).side.p=_;rw[so.1]) so.2.2.1 x
 unfold fC at hs'⊢;by_cases h1:s.kind=1
 ·rw[aU h1]at hs'⊢;refine⟨?_,fun q=>absurd q (by omega),fun q=>absurd q (by omega)⟩;rw[aH (by omega)];generalize(lJ (jI mx p lost n s).1.side,(hC (jI mx p lost n s).1.side).isSome)=x;have so:=LO n s.bG (takeN (dA n s.bG) s.n).1;unfold jI;dsimp only;split
  ·exact keep _ _ (by rw[so.1]) so.2.2.1 x
  split
  ·show qW (jM (fB n s.bG _).side _).1 (fB n s.bG _).bR A _;rw[so.1,so.2.2.1];have o:=VL hs (takeN (dA n s.bG) s.n).2.1;generalize jM n.side (takeN (dA n s.bG) s.n).2.1=R at o;cases o with
   |none e h0=>exact h.more rfl x
   |again=>exact h.more (t:=(lC n.side (takeN (dA n s.bG) s.n).2.1).1) rfl x
   |take u hr hk hn hap hi' h1 h2 h3=>
    rcases hap with⟨_,_,_,_,hp⟩|⟨_,_,_,_,hp|hp⟩
    ·exact h.more (t:=(lC u (takeN (dA n s.bG) s.n).2.1).1) hp x
    ·exact h.more (t:=(lC u (takeN (dA n s.bG) s.n).2.1).1) hp x
    ·exact(h.WI (t:=u) S.p hp).more (t:=(lC u (takeN (dA n s.bG) s.n).2.1).1) rfl x
  ·split
   ·exact keep _ _ (by show(fB n s.bG _).side.p=_;rw[so.1]) so.2.2.1 x
   ·have pk:=Hl mx p lost (n:={(fB n s.bG (takeN (dA n s.bG) s.n).1)with bA:=(handle (fB n s.bG (takeN (dA n s.bG) s.n).1).bA p (takeN (dA n s.bG) s.n).2.1).1}) (by show dI (fB n s.bG _).side=true;rw[so.1];exact hs);exact keep _ _ (pk.1.trans (by show(fB n s.bG _).side.p=_;rw[so.1])) (pk.2.trans so.2.2.1) x
 rw[aH h1]at hs'⊢;by_cases h2:s.kind=2
 ·rw[aU h2]at hs'⊢;exact⟨by rw[aH (by omega)];exact hx _ _,fun q=>absurd q (by omega),fun q=>absurd q (by omega)⟩
 rw[aH h2]at hs'⊢;by_cases h3:s.kind=3
 ·rw[aU h3]at hs'⊢;exact⟨by rw[aH (by omega)];exact hx _ _,fun q=>absurd q (by omega),fun q=>absurd q (by omega)⟩
 rw[aH h3]at hs'⊢;by_cases h4:s.kind=4
 ·rw[aU h4]at hs'⊢;exact⟨by rw[aH (by omega)];exact hx _ _,fun q=>absurd q (by omega),fun q=>absurd q (by omega)⟩
 rw[aH h4]at hs'⊢;by_cases h5:s.kind=5
 ·rw[aU h5]at hs'⊢;have rk:=Gw mx lost hs;exact⟨by rw[aH (by omega)];exact keep _ _ rk.1 rk.2 _,fun q=>absurd q (by omega),fun q=>absurd q (by omega)⟩
 rw[aH h5]at hs'⊢;by_cases h7:s.kind=7
 ·rw[aU h7]at hs'⊢;refine⟨?_,fun _ q=>?_,fun q=>absurd q (by omega)⟩
  ·by_cases he:(rM lost n s).2.2.e=0
   ·rw[aU ⟨h7,he⟩,ha h7];exact(h.begin ho.pl.p s.a he _).2
   ·rw[aH (fun q=>he q.2)];have e:(mR n.bR s.a).1=n.bR:=by
     have he:¬(mR n.bR s.a).2.2=0:=he;unfold mR at he⊢;split
     ·rfl
     ·rename_i hq;rw[aH hq]at he;exact absurd rfl he
    exact keep n.side (mR n.bR s.a).1 rfl e _
  ·exact(h.begin ho.pl.p s.a q ([],false)).1
 rw[aH h7]at hs'⊢;by_cases h8:s.kind=8
 ·rw[aU h8]at hs'⊢;have e:=zaH hs (t:=(oE lost n s).1.side) hs' (uS.pick hs n.bR s.n).w;have pk:=h.pick hs ho.pl.p s.n e;refine⟨by rw[aH (by omega)];exact pk.1,fun q=>absurd q (by omega),fun _ hn=>?_⟩;have g:(oE lost n s).2.2=(if¬(eI n.bR n.side s.n).2.2.2=0\/(eI n.bR n.side s.n).1.tasks.length=n.bR.tasks.length then fP (eI n.bR n.side s.n).2.2.2 else match(eI n.bR n.side s.n).1.done.getLast? with|some x=>⟨0,x.n,x.r.out,[],[]⟩|none=>fP 0):=rfl;rw[g]at hn⊢;split at hn
  ·exact absurd hn (by simp[fP])
  ·rename_i hc;rw[aH hc];rw[not_or,rS]at hc;obtain⟨x,a,f,x1,x2,x3,x4⟩:=pk.2 hc.1 hc.2;rw[x1];exact⟨a,f,x3,x4⟩
 ·rw[aH h8]at hs'⊢;exact⟨by rw[aH (by omega)];exact keep _ _ rfl rfl _,fun q=>absurd q (by omega),fun q=>absurd q (by omega)⟩
theorem BH (c:bS)(k:Nat):∀(m:Nat) (l:List bJ),l.length=m->m<=100000->(∀s∈l,eK s)->(jA c k l).M=(aY (aR c) l).1/\(jA c k l).H.length=m/\((aY (aR c) l).1.ns[k]? =none->(jA c k l).A=[])/\∀n,(aY (aR c) l).1.ns[k]? =some n->qW n.side n.bR (jA c k l).A (jA c k l).H:=by
 intro m;induction m with
 |zero=>
  intro l hl _ hok;rw[jL hl];refine⟨rfl,rfl,fun _=>rfl,fun n hn=>?_⟩;have:=eH hn;rw[KU this];exact⟨⟨fun q hq=>(by cases hq),fun t ht=>(by cases ht)⟩,rfl,fun t ht=>(by cases ht)⟩
 |succ m ih=>
  intro l hl hm hok;obtain⟨l',s,rfl⟩:∃l' s,l=l'++[s]:=⟨l.dropLast,l.getLast (by intro e;subst e;simp at hl),(List.dropLast_concat_getLast _).symm⟩;have hok':∀x∈l',eK x:=fun x hx=>hok x (uU _ hx);have hl':l'.length=m:=by simpa using hl
  obtain⟨e,hH,h0,hi⟩:=ih l' hl' (by omega) hok';have ok:=(mG l' (cN.new c) hok').1;have pi:∀n,(aY (aR c) l').1.ns[k]? =some n->_:=fun n hn=>EI c (l:=l') (by omega) hok' (i:=k) (n:=n) hn
  have pj:∀n,(aY (aR c) (l'++[s])).1.ns[k]? =some n->_:=fun n hn=>EI c (l:=l'++[s]) (by omega) hok (i:=k) (n:=n) hn
  rw[G5];have q:=dH Prod.fst (rG s l' (aR c));simp only at q;rw[q]at pj⊢;generalize(aY (aR c) l').1=M at ok pi pj e hi h0⊢;generalize jA c k l'=z at e hi h0 hH⊢;obtain⟨z1,z2,z3⟩:=z;simp only at e hi h0 hH;subst e;have no:z1.ns≠[]:=fun e=>by have:=ok.n1;rw[e]at this;simp at this
  refine⟨rfl,by simp[uO,hH],fun hn=>?_,fun n hn=>?_⟩
  ·have hn':z1.ns[k]? =none:=by
    rw[List.getElem?_eq_none_iff,uW ok]at hn;exact List.getElem?_eq_none_iff.2 hn
   simp only[uO,h0 hn'];rw[aH];rintro⟨a,b,d⟩;rw[OV no hn' b (by omega)]at d;cases d
  ·obtain⟨x,hx,st⟩:=HU _ s hn;have xs:=(pi x hx).1.xs;have ns:=(pj n hn).1.xs;have hA:=hi x hx;have ob:lX (bH z1 s).1 k=(lJ n.side,(hC n.side).isSome):=by unfold lX;rw[hn]
   simp only[uO,ob];cases st with
   |same h=>rw[aH (fun q=>h (by omega) (by omega) (by omega) q.2.1)];exact hA.more rfl _
   |dD h0 he lost=>
    have pk:=Hl z1.c.max (tC z1.p s.aD s.gone) lost xs;rw[aH (by omega),pk.2];exact hA.more pk.1 _
   |tick h0 lost=>rw[aH (by omega)];exact hA.more rfl _
   |one h1 h0' hw lost=>
    have r:=hA.single xs (ok.ok x (eH hx)) z1.c.max lost z1.p s hw ⟨by omega,h0'.2.2⟩ ns s.a (fun _=>rfl);by_cases h7:s.kind=7
    ·rw[DX hx h1 (by omega)];have e:(fC z1.c.max z1.p z1.lost x s).2.2=(fC z1.c.max z1.p lost x s).2.2:=by
      simp[fC,h7,rM]
     simp only[e,h1,true_and];exact r.1
    ·rw[aH (fun q=>h7 q.1)];have:=r.1;rw[aH (fun q=>h7 q.1)]at this;exact this
theorem answers (c:bS)(k:Nat){l:List bJ}{s:bJ}(hl:l.length<100000)(hs:∀s∈l,eK s)(hs':eK s):Told k (jA c k l) s:=by
 obtain⟨e,hH,h0,hi⟩:=BH c k l.length l rfl (by omega) hs;have ok:=(mG l (cN.new c) hs).1;have pi:∀n,(aY (aR c) l).1.ns[k]? =some n->_:=fun n hn=>EI c (l:=l) (by omega) hs (i:=k) (n:=n) hn
 have pj:∀n,(aY (aR c) (l++[s])).1.ns[k]? =some n->_:=fun n hn=>EI c (l:=l++[s]) (by simp;omega) (fun y hy=>(dN.1 hy).elim (hs y) fun q=>by rw[fI.1 q];exact hs') (i:=k) (n:=n) hn
 have q:=dH Prod.fst (rG s l (aR c));simp only at q;rw[q]at pj;generalize(aY (aR c) l).1=M at ok pi pj e hi h0;generalize jA c k l=z at e hi h0 hH⊢;obtain⟨z1,z2,z3⟩:=z;simp only at e hi h0 hH;subst e;have no:z1.ns≠[]:=fun e=>by have:=ok.n1;rw[e]at this;simp at this
 cases hx:z1.ns[k]? with
 |none=>
  constructor
  ·intro a b d;simp only at d;rw[OV no hx b (by omega)]at d;cases d
  ·intro a b d;simp only at d;rw[OV no hx b (by omega)]at d;exact absurd d (by simp[fP])
 |some x=>
  have xs:=(pi x hx).1.xs;have key:(5<=s.kind/\s.kind<=9/\s.kind≠6)->s.side=(k:Int)->_:=fun h2 h1=>by
   have st:=DX hx h1 h2;have hn:(bH z1 s).1.ns[k]? =some (fC z1.c.max z1.p z1.lost x s).1:=by
    rw[st];exact FI (cC.1 hx).1
   have ns:=(pj _ hn).1.xs;have r:=(hi x hx).single xs (ok.ok x (eH hx)) z1.c.max z1.lost z1.p s (fun q=>by omega) ⟨by omega,h2.2.2⟩ ns s.a (fun _=>rfl);exact(⟨st,hn,r.2⟩:_/\_/\_)
  constructor
  ·intro a b d;obtain⟨st,_,r1,_⟩:=key (by omega) b;simp only at d⊢;rw[st]at d⊢;exact r1 a d
  ·intro a b d;obtain⟨st,hn,_,r2⟩:=key (by omega) b;have ob:lX (bH z1 s).1 k=(lJ (fC z1.c.max z1.p z1.lost x s).1.side,(hC (fC z1.c.max z1.p z1.lost x s).1.side).isSome):=by unfold lX;rw[hn]
   simp only[uO,ob]at d⊢;rw[st]at d⊢;exact r2 a d
def AP (l:List aA)(to:cH)(a:Ask):gB×Bool:=if(aS l ⟨1,to⟩).isSome=true then nQ ((aS l ⟨1,to⟩).getD jE).rules a.host a.path else(rU,false)
def vN (l:List aA)(cl:cH):List Int×Bool:=if(aS l ⟨2,cl⟩).isSome=true then(((aS l ⟨3,((aS l ⟨2,cl⟩).getD jE).to⟩).getD jE).cT,(aS l ⟨3,((aS l ⟨2,cl⟩).getD jE).to⟩).isSome)else([],false)
theorem zkm (L:List aA)(a:Ask)(cl:cH):wZ L a cl=if(tK (vN L cl).1 a.other).2=true then⟨3,cl,(tK (vN L cl).1 a.other).1⟩else⟨0,⟨#[]⟩,0⟩:=by
 unfold wZ vN;dsimp only;cases aS L ⟨2,cl⟩with
 |none=>simp[tK]
 |some c=>
  simp only[Option.isSome_some,sS,eA,DO,HM];cases aS L ⟨3,c.to⟩with
  |none=>simp[tK,jE]
  |some e=>
   simp only[Option.isSome_some,sS,DO,HM];cases(tK e.cT a.other).2<;>rfl
theorem zkn (L:List aA)(a:Ask)(to:cH):tQ L a to=if(AP L to a).2=true then(if(tN (AP L to a).1.split a.first).2=true then wZ L a (tN (AP L to a).1.split a.first).1 else⟨0,⟨#[]⟩,0⟩)else⟨2,⟨#[]⟩,0⟩:=by
 unfold tQ AP;dsimp only;cases aS L ⟨1,to⟩with
 |none=>simp
 |some c=>
  simp only[Option.isSome_some,sS,eA,DO,HM];cases(nQ c.rules a.host a.path).2 with
  |false=>rfl
  |true=>
   simp only[DO,oM,gY,eA];cases(tN (nQ c.rules a.host a.path).1.split a.first).2<;>simp
theorem zbY {l:List aA}(h:∀r∈l,eL r=0)(to:cH)(a:Ask):(AP l to a).1.split.length<=1000000:=by
 unfold AP;split
 ·exact Gh (MT h _) _ _
 ·simp[rU]
theorem Qr {l:List aA}(h:∀r∈l,eL r=0)(cl:cH):(vN l cl).1.length<=1000000:=by
 unfold vN;split
 ·exact(MT h _).cT
 ·simp
theorem zaI {s:bB}(h:oJ s):(lJ s).length<=1000000/\∀r∈lJ s,eL r=0:=by
 have hl:=Ef h.x;refine⟨by unfold lJ;omega,?_⟩;have hs:=h.sound.n.sound;unfold lJ hC rL;generalize gQ (fG s).p=q at hs⊢;cases e:q.aX.getLast? with
 |none=>simp
 |some x=>simpa using hs x (BU e)
structure TU (z:AS)(m:Nat):Prop where
 h:z.H.length=m
 hf:∀o∈z.H,o.1.length<=1000000/\∀r∈o.1,eL r=0
 a:z.A.length<=m
 af:∀x∈z.A,(bs x.1.host).length<=1000000/\(bs x.1.path).length<=1000000/\x.2<=m
theorem L3 {M:bL}{B:Int}(h:cN M B)(k:Nat):(lX M k).1.length<=1000000/\∀r∈(lX M k).1,eL r=0:=by
 unfold lX;split
 ·rename_i n hn;exact zaI (h.ok n (eH hn)).d
 ·simp
theorem TU.step {z:AS}{m:Nat}(h:TU z m)(k:Nat){s:bJ}(hs:eK s){B:Int}(hM:cN (bH z.M s).1 B):TU (uO k z s) (m+1):=by
 have ha:=h.a;refine⟨by simp[uO,h.h],fun o ho=>?_,?_,fun x hx=>?_⟩
 ·rcases dN.1 ho with q|q
  ·exact h.hf o q
  ·rw[fI.1 q];exact L3 hM k
 ·unfold uO;dsimp only;split
  ·simp;omega
  ·omega
 ·unfold uO at hx;dsimp only at hx;split at hx
  ·rcases dN.1 hx with q|q
   ·obtain⟨a,b,c⟩:=h.af x q;exact⟨a,b,by omega⟩
   ·rw[fI.1 q];exact⟨hs.a.1,hs.a.2,by simp[h.h]⟩
  ·obtain⟨a,b,c⟩:=h.af x hx;exact⟨a,b,by omega⟩
theorem Ez (c:bS)(k:Nat):∀(m:Nat) (l:List bJ),l.length=m->m<=100000->(∀s∈l,eK s)->TU (jA c k l) m:=by
 intro m;induction m with
 |zero=>
  intro l hl _ _;rw[jL hl];exact⟨rfl,fun o ho=>(by cases ho),by simp[jA],fun x hx=>(by cases hx)⟩
 |succ m ih=>
  intro l hl hm hok;obtain⟨l',s,rfl⟩:∃l' s,l=l'++[s]:=⟨l.dropLast,l.getLast (by intro e;subst e;simp at hl),(List.dropLast_concat_getLast _).symm⟩;have hl':l'.length=m:=by simpa using hl
  have ok':∀s∈l',eK s:=fun y hy=>hok y (by simp[hy])
  have e:=(BH c k m l' hl' (by omega) ok').1;have q:=(mG l' (cN.new c) ok').1.step (hok s (by simp));rw[<-e]at q;rw[G5];exact(ih l' hl' (by omega) ok').step k (hok s (by simp)) q
def uJ (H:List (List aA×Bool))(q:List aA×Bool->Bool)(f t:Nat):Bool:=((H.take t).drop f).any q
theorem Pt (H:List (List aA×Bool))(q:List aA×Bool->Bool)(f:Nat):uJ H q f f=false:=by
 unfold uJ;rw[List.drop_of_length_le (by simp;omega)];rfl
theorem Pu {H:List (List aA×Bool)}(q:List aA×Bool->Bool){f t:Nat}{o:List aA×Bool}(h:H[t]? =some o)(hf:f<=t):uJ H q f (t+1)=(uJ H q f t||q o):=by
 unfold uJ;have ht:=(cC.1 h).1;rw[nZ,h,List.drop_append_of_le_length (by simp;omega)];simp
theorem Pv {H:List (List aA×Bool)}{q:List aA×Bool->Bool}{f τ:Nat}{o:List aA×Bool}(h:H[τ]? =some o)(hf:f<=τ)(hq:q o=true):uJ H q f H.length=true:=by
 unfold uJ;rw[fA,xK];refine⟨o,?_,hq⟩;obtain⟨h1,h2⟩:=cC.1 h;rw[<-h2];exact List.mem_drop_iff_getElem.2 ⟨τ-f,by omega,by simp[show f+(τ-f)=τ by omega]⟩
end Go.G
