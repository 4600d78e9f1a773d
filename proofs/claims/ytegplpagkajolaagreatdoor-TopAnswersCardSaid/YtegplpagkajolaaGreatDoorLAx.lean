/-
  THROUGH THE LAYERS: each request is answered by one snapshot.
-/
import Derived.Test.YtegplpagkajolaaGreatDoorWr
import Derived.Test.YtegplpagkajolaaGreatDoorPt
import Derived.Test.YtegplpagkajolaaGreatDoorWo
import Derived.Test.YtegplpagkajolaaGreatDoorWq
set_option linter.unusedSimpArgs false
set_option linter.unusedVariables false
set_option maxRecDepth 100000
set_option maxHeartbeats 8000000
namespace Go.G
open Go.AI
theorem zeo {p:aT}{n:Node}(h:lE p n)(hx:dI n.side=true):((hC n.side).isSome=true->Whole (lJ n.side))/\((hC n.side).isSome=false->lJ n.side=[]):=by
 have S:=iP.1 hx;unfold lJ hC rL;rw[j9 hx,mC S.p];cases hl:n.side.p.aX.getLast? with
 |none=>exact⟨fun q=>(by cases q),fun _=>rfl⟩
 |some q=>exact⟨fun _=>h.M7.si.whole q (BU hl),fun e=>(by cases e)⟩
theorem zkj (c:bS)(k:Nat):∀(m:Nat) (l:List bJ),l.length=m->m<=100000->(∀s∈l,eK s)->∀o∈(jA c k l).H,(o.2=true->Whole o.1)/\(o.2=false->o.1=[]):=by
 intro m;induction m with
 |zero=>
  intro l hl _ _ o ho;rw[jL hl]at ho;cases ho
 |succ m ih=>
  intro l hl hm hok;obtain⟨l',s,rfl⟩:∃l' s,l=l'++[s]:=⟨l.dropLast,l.getLast (by intro e;subst e;simp at hl),(List.dropLast_concat_getLast _).symm⟩;have hok':∀x∈l',eK x:=fun x hx=>hok x (uU _ hx);have hl':l'.length=m:=by simpa using hl
  have e:=(BH c k m l' hl' (by omega) hok').1;have pj:∀n,(aY (aR c) (l'++[s])).1.ns[k]? =some n->_:=fun n hn=>EI c (l:=l'++[s]) (by omega) hok (i:=k) (n:=n) hn
  have q:=dH Prod.fst (rG s l' (aR c));simp only at q;rw[q,<-e]at pj;rw[G5];intro o ho;rcases dN.1 ho with g|g
  ·exact ih l' hl' (by omega) hok' o g
  ·rw[fI.1 g];unfold lX;cases hn:(bH (jA c k l').M s).1.ns[k]? with
   |none=>exact⟨fun q=>(by cases q),fun _=>rfl⟩
   |some n=>
    have:=pj n hn;exact zeo this.2 this.1.xs
structure G8 where
 M:bL
 n:Nat
 H:List (List aA×Bool)
 W:List (Int×Int×Nat×Ask)
def xP (z:G8)(s:bJ):G8:=⟨(bH z.M s).1,z.n+1,z.H++[lX (bH z.M s).1 0,lX (bH z.M s).1 1,lX (bH z.M s).1 2,lX (bH z.M s).1 3],if s.kind=7/\(bH z.M s).2.e=0 then z.W++[(s.side,(bH z.M s).2.n,z.n,s.a)]else z.W⟩
def gW (c:bS)(l:List bJ):G8:=l.foldl xP ⟨aR c,0,[],[]⟩
theorem K8 (c:bS)(l:List bJ)(s:bJ):gW c (l++[s])=xP (gW c l) s:=by simp[gW]
structure zkN (c:bS)(l:List bJ)(z:G8):Prop where
 M:z.M=(aY (aR c) l).1
 n:z.n=l.length
 len:z.H.length=4*l.length
 h:∀i,i<4->∀t,t<l.length->z.H[4*t+i]? =(jA c i l).H[t]?
 w:∀i:Nat,i<4->∀(m:Nat) (a:Ask) (f:Nat),(jA c i l).A[m]? =some (a,f)->((i:Int),((m+1:Nat):Int),f,a)∈z.W
theorem K9 (c:bS):∀(m:Nat) (l:List bJ),l.length=m->m<=1000->(∀s∈l,eK s)->zkN c l (gW c l):=by
 intro m;induction m with
 |zero=>
  intro l hl _ _;rw[jL hl];exact⟨rfl,rfl,rfl,fun i _ t ht=>by simp at ht,fun i _ m a f h=>by simp[jA]at h⟩
 |succ m ih=>
  intro l hl hm hok;obtain⟨l',s,rfl⟩:∃l' s,l=l'++[s]:=⟨l.dropLast,l.getLast (by intro e;subst e;simp at hl),(List.dropLast_concat_getLast _).symm⟩;have hok':∀x∈l',eK x:=fun x hx=>hok x (uU _ hx);have hl':l'.length=m:=by simpa using hl
  have I:=ih l' hl' (by omega) hok';have an:=fun k=>BH c k m l' hl' (by omega) hok'
  have tl:=fun k=>answers c k (l:=l') (s:=s) (by omega) hok' (hok s (by simp))
  have ok:=(mG l' (cN.new c) hok').1;have q:=dH Prod.fst (rG s l' (aR c));simp only at q;rw[K8];generalize gW c l'=z at I⊢;obtain⟨z1,z2,z3,z4⟩:=z;have iM:=I.M;have iN:=I.n;have iL:=I.len;have iH:=I.h;have iW:=I.w;simp only at iM iN iL iH iW;have eM:∀k,(jA c k l').M=z1:=fun k=>(an k).1.trans iM.symm;have sH:∀k,(jA c k (l'++[s])).H=(jA c k l').H++[lX (bH z1 s).1 k]:=fun k=>by rw[G5];simp only[uO,eM]
  have sA:∀k,(jA c k (l'++[s])).A=if s.kind=7/\s.side=(k:Int)/\(bH z1 s).2.e=0 then(jA c k l').A++[(s.a,l'.length)]else(jA c k l').A:=fun k=>by
   rw[G5];simp only[uO,eM,(an k).2.1,hl']
  refine⟨by rw[q,<-iM];rfl,by simp[xP,iN],by simp[xP,iL];omega,fun i hi t ht=>?_,fun i hi m' a f hA=>?_⟩
  ·rw[sH];have hlA:=(an i).2.1;simp only[xP];by_cases e:t<l'.length
   ·rw[jY (by omega),jY (by omega)];exact iH i hi t e
   ·have e:t=l'.length:=by simp at ht;omega
    rw[nL (by omega),nL (by omega),iL,hlA,e,hl'];have a1:4*m+i-4*m=i:=by omega
    have a2:m-m=0:=by omega
    rw[a1,a2];have:i=0\/i=1\/i=2\/i=3:=by omega
    rcases this with rfl|rfl|rfl|rfl<;>rfl
  ·rw[sA]at hA;simp only[xP];by_cases h7:s.kind=7/\(bH z1 s).2.e=0
   ·rw[aU h7];by_cases hs:s.side=(i:Int)
    ·rw[aU ⟨h7.1,hs,h7.2⟩]at hA;by_cases hm':m'<(jA c i l').A.length
     ·rw[jY hm']at hA;exact uU _ (iW i hi m' a f hA)
     ·have e:m'=(jA c i l').A.length:=by
       have:=(cC.1 hA).1;simp at this;omega
      rw[nL (by omega),e,Nat.sub_self]at hA;cases hA;have b:=(tl i).beg h7.1 hs (by rw[eM];exact h7.2);rw[eM]at b;refine List.mem_append_right _ (fI.2 ?_);rw[hs,b,e,iN]
    ·rw[aH (fun q=>hs q.2.1)]at hA;exact uU _ (iW i hi m' a f hA)
   ·rw[aH h7];rw[aH (fun q=>h7 ⟨q.1,q.2.2⟩)]at hA;exact iW i hi m' a f hA
theorem Wm (c:bS){l:List bJ}{s:bJ}(hl:l.length<1000)(hs:∀s∈l,eK s)(hs':eK s)(hk:s.kind=8)(hn:(bH (gW c l).M s).2.n≠0):
  ∃(i:Nat) (f:Nat) (a:Ask) (τ:Nat) (o:List aA×Bool),i<4/\s.side=(i:Int)/\((i:Int),(bH (gW c l).M s).2.n,f,a)∈(gW c l).W/\f<=τ/\τ<=l.length/\(xP (gW c l) s).H[4*τ+i]? =some o/\iZ o.1 o.2 a=(bH (gW c l).M s).2.iT/\
   wE o.1 (iZ o.1 o.2 a)=true/\((iZ o.1 o.2 a).nD=0->o.2=false):=by
 have I:=K9 c l.length l rfl (by omega) hs;have ok:=(mG l (cN.new c) hs).1;have hok:∀y∈l++[s],eK y:=fun y hy=>(dN.1 hy).elim (hs y) fun q=>by rw[fI.1 q];exact hs'
 have I2:=K9 c _ (l++[s]) rfl (by simp;omega) hok;rw[K8]at I2;have no:(gW c l).M.ns≠[]:=fun e=>by have:=ok.n1;rw[<-I.M,e]at this;simp at this
 have n4:(gW c l).M.ns.length<=4:=by rw[I.M];exact ok.n4
 have hside:∃i:Nat,s.side=(i:Int)/\i<(gW c l).M.ns.length:=by
  by_cases h0:0<=s.side
  ·by_cases h1:s.side.toNat<(gW c l).M.ns.length
   ·exact⟨s.side.toNat,by omega,h1⟩
   ·have:=OV (s:=s) no (List.getElem?_eq_none_iff.2 (by omega:(gW c l).M.ns.length<=s.side.toNat)) (by omega) (by omega);rw[this]at hn;exact absurd rfl hn
  ·have:(bH (gW c l).M s).2=fP 10:=by
    unfold bH;rw[aH no,aH (by omega),aH (by omega),aH (by omega)];have:nodeAt (gW c l).M.ns s.side=none:=by unfold nodeAt;rw[aH h0]
    rw[this]
   rw[this]at hn;exact absurd rfl hn
 obtain⟨i,hi,hil⟩:=hside;have an:=BH c i l.length l rfl (by omega) hs;have eM:(jA c i l).M=(gW c l).M:=an.1.trans I.M.symm;have tl:=answers c i (l:=l) (s:=s) (by omega) hs hs';have pos:0<(bH (jA c i l).M s).2.n:=by
  rw[eM];have hx:(gW c l).M.ns[i]? =some (gW c l).M.ns[i]:=cI hil;have st:=DX hx hi (by omega);rw[st]at hn⊢;have okn:=ok.ok (gW c l).M.ns[i] (by rw[<-I.M];exact lU hil);simp only[fC,hk]at hn⊢;simp only[show(8:Int)≠1 by decide,show(8:Int)≠2 by decide,show(8:Int)≠3 by decide,show(8:Int)≠4 by decide,show(8:Int)≠5 by decide,show(8:Int)≠7 by decide,gY,eA]at hn⊢;have opp:=okn.pl.pick okn.d s.n;unfold oE at hn⊢;simp only at hn⊢;by_cases hc:¬(eI (gW c l).M.ns[i].bR (gW c l).M.ns[i].side s.n).2.2.2=0\/(eI (gW c l).M.ns[i].bR (gW c l).M.ns[i].side s.n).1.tasks.length=(gW c l).M.ns[i].bR.tasks.length
  ·rw[aU hc]at hn;exact absurd rfl hn
  ·rw[aH hc]at hn⊢;cases hx:(eI (gW c l).M.ns[i].bR (gW c l).M.ns[i].side s.n).1.done.getLast? with
   |some x=>
    have:=(opp.1.p.rd x (BU hx)).1;simp only;omega
   |none=>rw[hx]at hn;exact absurd rfl hn
 obtain⟨a,f,h1,τ,o,h2,h3,h4⟩:=tl.go hk hi pos;rw[eM]at pos h1 h4;have sH:(uO i (jA c i l) s)=jA c i (l++[s]):=(G5 c i l s).symm;rw[sH]at h3;have hτ:τ<(l++[s]).length:=by
  have a1:=(cC.1 h3).1;have a2:=(BH c i _ (l++[s]) rfl (by simp;omega) hok).2.1;omega
 have hw:=zkj c i _ (l++[s]) rfl (by simp;omega) hok o (eH h3);have i4:i<4:=by omega
 refine⟨i,f,a,τ,o,i4,hi,?_,h2,by simp at hτ;omega,by rw[I2.h i i4 τ hτ];exact h3,h4,?_,?_⟩
 ·have:=I.w i i4 _ a f h1;have e:(((((bH (gW c l).M s).2.n-1).toNat+1:Nat)):Int)=(bH (gW c l).M s).2.n:=by omega
  rw[e]at this;exact this
 ·cases ho:o.2 with
  |true=>exact(Bq (hw.1 ho) a).2
  |false=>simp[iZ,wE]
 ·intro h0;cases ho:o.2 with
  |true=>rw[ho]at h0;exact absurd h0 (Bq (hw.1 ho) a).1
  |false=>rfl
structure TT (z:G8)(m:Nat):Prop where
 h:z.H.length=4*m
 hf:∀o∈z.H,o.1.length<=1000000/\∀r∈o.1,eL r=0
 a:z.W.length<=m
 af:∀x∈z.W,(bs x.2.2.2.host).length<=1000000/\(bs x.2.2.2.path).length<=1000000/\x.2.2.1<=m
theorem TT.step {z:G8}{m:Nat}(h:TT z m)(hn:z.n=m){s:bJ}(hs:eK s){B:Int}(hM:cN (bH z.M s).1 B):TT (xP z s) (m+1):=by
 have ha:=h.a;refine⟨by simp[xP,h.h];omega,fun o ho=>?_,?_,fun x hx=>?_⟩
 ·rcases dN.1 ho with q|q
  ·exact h.hf o q
  ·simp only[kN,DJ,or_false]at q;rcases q with rfl|rfl|rfl|rfl
   ·exact L3 hM 0
   ·exact L3 hM 1
   ·exact L3 hM 2
   ·exact L3 hM 3
 ·unfold xP;dsimp only;split
  ·simp;omega
  ·omega
 ·unfold xP at hx;dsimp only at hx;split at hx
  ·rcases dN.1 hx with q|q
   ·obtain⟨a,b,c⟩:=h.af x q;exact⟨a,b,by omega⟩
   ·rw[fI.1 q];exact⟨hs.a.1,hs.a.2,by simp only;omega⟩
  ·obtain⟨a,b,c⟩:=h.af x hx;exact⟨a,b,by omega⟩
theorem Ey (c:bS):∀(m:Nat) (l:List bJ),l.length=m->m<=1000->(∀s∈l,eK s)->TT (gW c l) m:=by
 intro m;induction m with
 |zero=>
  intro l hl _ _;rw[jL hl];exact⟨rfl,fun o ho=>(by cases ho),by simp[gW],fun x hx=>(by cases hx)⟩
 |succ m ih=>
  intro l hl hm hok;obtain⟨l',s,rfl⟩:∃l' s,l=l'++[s]:=⟨l.dropLast,l.getLast (by intro e;subst e;simp at hl),(List.dropLast_concat_getLast _).symm⟩;have hl':l'.length=m:=by simpa using hl
  have ok':∀s∈l',eK s:=fun y hy=>hok y (by simp[hy])
  have I:=K9 c m l' hl' (by omega) ok';have q:=(mG l' (cN.new c) ok').1.step (hok s (by simp));rw[<-I.M]at q;rw[K8];exact(ih l' hl' (by omega) ok').step (I.n.trans hl') (hok s (by simp)) q
def qT (iT:nC)(a:Ask)(o:List aA×Bool):Bool:=decide (iZ o.1 o.2 a=iT)&&wE o.1 iT&&(!decide (iT.nD=0)|| !o.2)
def gT (H:List (List aA×Bool))(side n:Int)(iT:nC)(w:Int×Int×Nat×Ask):Bool:=decide (w.1=side)&&decide (w.2.1=n)&&uJ H (qT iT w.2.2.2) w.2.2.1 H.length
def AW (M:bL):List (List aA×Bool):=[lX M 0,lX M 1,lX M 2,lX M 3]
theorem zep (M:bL){i:Nat}(h:i<4):(AW M).take (i+1)=(AW M).take i++[lX M i]:=by
 have:i=0\/i=1\/i=2\/i=3:=by omega
 rcases this with rfl|rfl|rfl|rfl<;>rfl
def xU (H:List (List aA×Bool))(M:bL)(i:Nat):List (List aA×Bool):=H++(AW M).take i
theorem zbj (H:List (List aA×Bool))(M:bL):xU H M 0=H:=by simp[xU]
theorem zbk (H:List (List aA×Bool))(M:bL){i:Nat}(h:i<4):xU H M (i+1)=xU H M i++[lX M i]:=by unfold xU;rw[zep M h,AE]
theorem zbm (H:List (List aA×Bool))(M:bL):xU H M 4=H++AW M:=rfl
theorem zbl (H:List (List aA×Bool))(M:bL)(i:Nat):(xU H M i).length<=H.length+4:=by simp[xU,AW];omega
structure zkO (z:G8)(s:bJ)(m:Nat)(i:Nat)(Hi:List (List aA×Bool)):Prop where
 i4:i<4
 side:s.side=i
 len:Hi.length=m+1
 at_:∀t,t<m+1->(z.H++AW (bH z.M s).1)[4*t+i]? =Hi[t]?
 any:z.W.any (gT Hi s.side (bH z.M s).2.n (bH z.M s).2.iT)=true
theorem Vx (c:bS){m:Nat}{l:List bJ}{s:bJ}(hl:l.length=m)(hm:m<1000)(hs:∀s∈l,eK s)(hs':eK s)(hk:s.kind=8)(hn:(bH (gW c l).M s).2.n≠0):∃i Hi,zkO (gW c l) s m i Hi:=by
 obtain⟨i,f,a,τ,o,h1,h2,h3,h4,h5,h6,h7,h8,h9⟩:=Wm c (l:=l) (s:=s) (by omega) hs hs' hk hn;have hok:∀y∈l++[s],eK y:=fun y hy=>(dN.1 hy).elim (hs y) fun q=>by rw[fI.1 q];exact hs'
 have I2:=K9 c _ (l++[s]) rfl (by simp;omega) hok;have hlen:=(BH c i _ (l++[s]) rfl (by simp;omega) hok).2.1;have e:(gW c (l++[s])).H=(gW c l).H++AW (bH (gW c l).M s).1:=by rw[K8];rfl
 have at_:∀t,t<m+1->((gW c l).H++AW (bH (gW c l).M s).1)[4*t+i]? =(jA c i (l++[s])).H[t]? :=fun t ht=>by
  rw[<-e];exact I2.h i h1 t (by simp;omega)
 refine⟨i,(jA c i (l++[s])).H,h1,h2,by rw[hlen];simp[hl],at_,?_⟩;rw[xK];refine⟨_,h3,?_⟩;have h6':(jA c i (l++[s])).H[τ]? =some o:=by rw[<-at_ τ (by omega)];exact h6
 simp only[gT,h2,yT,tU];refine Pv h6' h4 ?_;simp only[qT,<-h7,yT,tU,h8,rT,pN,uT];by_cases h0:(iZ o.1 o.2 a).nD=0
 ·exact .inr (h9 h0)
 ·exact .inl h0
end Go.G
namespace Go.Proofs.YtegplpagkajolaaGreatDoor
open Go.AI Go.G Tryz
attribute [simp] ntmps96 results96 ntmps50 results50 ntmps16 results16
theorem zgk (l:List Int)(n:Int)(hl:l.length<=9223372036854775807):Ct prog 96 [aC (l.map lP),int n] [] [] (int (jH (fun x=>decide (n=x)) l)) []:=by
 refine Ct.B func96 ?_;simp;refine aQ.inv mixed rfl (ι:={k:Nat//k<=(l).length/\(l.take k).all (fun x=>!decide (n=x))=true}) (fun k=>[(0,aC (l.map lP)),(1,int n),(6,aC (l.map lP)),(7,int l.length),(8,int k.1)]) (fun k=>[]) 64 (fun k=>(l).length-k.1) ⟨0,by omega,by simp⟩ [] (by constructor<;>simp) ?_;rintro⟨k,hk1,hi⟩ B hB;refine CI.n ?_;simp;refine aJ (fun h=>?_) (fun h=>?_)
 ·have hk:k<(l).length:=by simpa using h
  obtain⟨r,hx,hr,hm,ht,hd,hw⟩:=dL hk;simp only[h];simp[hr,hw];refine aJ (fun h1=>?_) (fun h1=>?_)<;>simp only[h1]<;>simp[hr]
  ·have e:=yE hi hr (by simpa using h1);exact aB (by simp[e]) rfl
  ·refine hB _ ⟨k+1,by omega,by simp[ht,hi,h1]⟩ [] ?_ (by simp;omega);constructor<;>simp[hw,ht,h1]
 ·obtain rfl:k=(l).length:=by simp at h;omega
  simp only[h];simp;rw[fA]at hi;have e:jH (fun x=>decide (n=x)) l= -1:=yD (fun x hx=>by have:=eF.1 hi x hx;simpa using this);exact aB (by simp[e]) rfl
theorem zgz (l:List Int)(n:Int)(hl:l.length<=9223372036854775807):Ct prog 50 [aC (l.map lP),int n] [] [] (bool (decide (n∈l))) []:=by
 refine Ct.B func50 ?_;simp;refine CI.p (zgk l n hl) ?_;simp;rw[CU];have e:(l.any fun x=>decide (n=x))=decide (n∈l):=by rw[DP];simp
 exact aB (by simp[e]) rfl
theorem Uj (L:List aA)(a:nC):wE L a=if a.nD=3 then(vN L a.gI).2&&decide (a.host∈(vN L a.gI).1)else decide (a.nD=0\/a.nD=1\/a.nD=2)&&(decide (a.gI=⟨#[]⟩)&&decide (a.host=0)):=by
 obtain⟨w,c,h⟩:=a;unfold wE vN;dsimp only;split
 ·cases aS L ⟨2,c⟩with
  |none=>rfl
  |some x=>simp
 ·congr 1
  simp[Bool.decide_and]
theorem Uk (l:List aA)(a:nC)(hl:l.length<=1000000)(hs:∀r∈l,eL r=0):Ct prog 16 [aC (l.map aK),st (TK a)] [] [] (bool (wE l a)) []:=by
 refine Ct.B func16 ?_;simp;rw[Uj];obtain⟨w,c,h⟩:=a;by_cases h0:w=0
 ·simp[h0];exact aB (by simp[h0]) rfl
 by_cases h1:w=1
 ·simp[h1];exact aB (by simp[h1]) rfl
 by_cases h2:w=2
 ·simp[h2];exact aB (by simp[h2]) rfl
 by_cases h3:w=3
 ·simp[h3];refine CI.p (Qq l c hl) ?_ (ha:=by simp[h3]);simp[h3];have he:=Qr hs c;generalize vN l c=u at he⊢;obtain⟨u1,u2⟩:=u;simp only at he;cases u2 with
  |false=>
   simp[h3];exact aB (by simp[h3]) rfl
  |true=>
   simp[h3];refine CI.p (zgz u1 h (by omega)) ?_ (ha:=by simp[h3]);simp[h3];exact aB (by simp[h3]) rfl
 ·simp[h0,h1,h2,h3];exact aB (by simp[h0,h1,h2,h3]) rfl
attribute [simp] ntmps3 results3
abbrev K3 (w:Int×Int×Nat×G.Ask):List D:=[iD w.1,iD w.2.1,iD (w.2.2.1:Int)]++sM w.2.2.2
theorem Cj (c:bS):gW c []=⟨aR c,0,[],[]⟩:=rfl
theorem We (c:bS)(l:List bJ)(ha:∀s∈l,dK s.aD)(hl:l.length<=9223372036854775807)(hf:mJ l=true):cO eY prog 3 [st (jR c),aC (l.map cZ)] [] [] (bool true) []:=by
 obtain⟨h60,hs⟩:=QD hf;rcases HZ c with hk|hk|hk|hk
 all_goals
  refine cO.B lZ func3 ?_;simp;refine CI.j [] ND ?_;simp;refine CI.p (MX l ha hl) ?_ (ha:=by simp[hf]);simp[hf];refine CI.p (Rh c) ?_;simp;refine CI.cc [] (Kz c) ?_ (ha:=by simp[hk,aI]) (hn:=by constructor<;>simp[fD,hk,aI]) (hk:=by simp[hk,aI]);simp[hk,aI];refine CI.p (Dh l (by omega)) ?_;simp;refine aQ.j1 8 1 44 rfl ?_;refine aQ.j1 9 1 4 rfl ?_;refine aQ.j1 10 8 67 rfl ?_;refine aQ.V (l) (fun km=>[(5,bool true),(6,.ptr 640 0),(7,aC (l.map cZ)),(8,.own 1216),(9,.own 1217),(10,.own 1218),(11,int km.1)]) (fun km=>BD 640 (aY (aR c) (l.take km.1)).1 (aI (aY (aR c) (l.take km.1)).1 0 (cR c))++[(1216,.grow 1 ((gW c (l.take km.1)).H.map fun o=>[lD (o.1.map aK)]) 44),(1217,.grow 1 ((gW c (l.take km.1)).H.map fun o=>[bD o.2]) 4),(1218,.grow 8 ((gW c (l.take km.1)).W.map K3) 67)]) 1219 (fun km hk1m Bm hBm=>?_) (h0:=by constructor<;>simp[hk,aI,Cj,PU]);simp[hk,aI,Cj,PU];refine aJ (fun hm=>?_) (fun hm=>?_)
  ·have hkm:km<(l).length:=by simpa using hm
   obtain⟨s,hxm,hrm,hmm,htm,hdm,hwm⟩:=dL hkm;simp only[hm];simp[hrm,hwm];have okl:∀s∈l.take km,eK s:=fun s hm=>hs s (rP hm);have q:=mG (M:=aR c) (l.take km) (cN.new c) okl;have lk:(l.take km).length=km:=by simp;omega
   have hl4:cR c<=4:=by omega
   have hn:(aR c).ns.length=cR c:=by simp[aR]
   have okm:∀y∈l.take km++[s],eK y:=fun y hy=>(dN.1 hy).elim (okl y) fun g=>by rw[fI.1 g];exact hs s hmm
   have ps:=dH Prod.fst (rG s (l.take km) (aR c));have ok:=q.1.step (hs s hmm);have sl:=(uW q.1 s).trans (q.2.trans hn);have tg:=Vx c lk (by omega) okl (hs s hmm);have sn:=K8 c (l.take km) s;have so:=Ey c km (l.take km) lk (by omega) okl;have so':=Ey c (km+1) (l.take km++[s]) (by simp;omega) (by omega) okm;have aa:=K9 c km (l.take km) lk (by omega) okl;have aM:=aa.M;have aN:=lk.symm.trans aa.n.symm;simp only at ps;rw[sn]at so';generalize gW c (l.take km)=z at tg sn so so' aM aN⊢;obtain⟨z1,zn,H,W⟩:=z;simp only at aM aN;subst aM;subst aN;simp only[xP]at sn so';refine CI.j [640,641,642,643,644,645] (wH (aY (aR c) (l.take km)).1 s _ (q.2.trans hn) q.1 (by omega) (hs s hmm)) ?_ (ha:=by simp[hk,aI]) (hn:=by constructor<;>simp[fD,hk,aI]) (hk:=by simp[hk,aI]);simp[hk,aI];have tg':s.kind=8->(bH (aY (aR c) (l.take km)).1 s).2.n≠0->∃(i:Nat) (Hi:List (List aA×Bool)),i<4/\s.side=(i:Int)/\Hi.length=km+1/\(∀t,t<km+1->(H++AW (bH (aY (aR c) (l.take km)).1 s).1)[4*t+i]? =Hi[t]?)/\W.any (gT Hi s.side (bH (aY (aR c) (l.take km)).1 s).2.n (bH (aY (aR c) (l.take km)).1 s).2.iT)=true:=fun a b=>by
    obtain⟨i,Hi,g⟩:=tg a b;exact⟨i,Hi,g.i4,g.side,g.len,g.at_,g.any⟩
   clear tg;generalize(aY (aR c) (l.take km)).1=M at tg' sn so' ps ok sl⊢;generalize(bH M s).1=N at tg' sn so' ps ok sl⊢;generalize(bH M s).2=O at tg' sn so'⊢;have hH:=so.h;have hA:=so.a;simp only at hA hH;refine aQ.inv mixed rfl (ι:={k:Nat//k<=4}) (fun k=>[(5,bool true),(6,.ptr 640 0),(7,aC (l.map cZ)),(8,.own 1216),(9,.own 1217),(10,.own 1218),(11,int km),(12,.ptr 1859 0),(13,int k.1)]) (fun k=>BD 640 N (aI N 0 (cR c))++[(1859,.cells ((eV O).map .d) 42),(1216,.grow 1 ((xU H N k.1).map fun o=>[lD (o.1.map aK)]) 44),(1217,.grow 1 ((xU H N k.1).map fun o=>[bD o.2]) 4),(1218,.grow 8 (W.map K3) 67)]) 2051 (fun k=>4-k.1) ⟨0,by omega⟩ [] (by constructor<;>simp[hk,aI,zbj]) ?_;rintro⟨i,hi⟩ B hB;refine CI.n ?_;simp[hk,aI];refine aJ (fun h1=>?_) (fun h1=>?_)<;>simp only[h1]<;>simp<;>(try simp only[nT,nF,dT,dF]at h1)
   ·obtain⟨e1,e2,okx⟩:=Kb i ok.ok;have os:=zbk H N (i:=i) (by omega);have ol:=zbl H N i;have wi:IntKind.wrap .i64 ((i:Int)+1)=i+1:=wrap_i64 (by omega) (by omega);refine CI.cc [640,641,642,643,644,645] (Ec N i i sl (by omega) (by omega) rfl) ?_ (ha:=by simp[hk,aI]) (hn:=by constructor<;>simp[fD,hk,aI]) (hk:=by simp[hk,aI]);simp[hk,aI];refine CI.p (LL (D1 N i) okx) ?_ (ha:=by simp[e1,e2]);simp[e1,e2];generalize xU H N i=Hc at os ol⊢;refine⟨⟨fun e he=>by obtain⟨x,_,rfl⟩:=eR.1 he;rfl,by omega⟩,?_⟩;refine⟨⟨fun e he=>by obtain⟨x,_,rfl⟩:=eR.1 he;rfl,by omega⟩,?_⟩;refine hB _ ⟨i+1,by omega⟩ [] ?_ (by simp;omega);constructor<;>simp[wi,hk,aI,os]
   ·have e4:i=4:=by omega
    subst e4;have s4:=zbm H N;generalize xU H N 4=H' at s4⊢;rw[show [lX N 0,lX N 1,lX N 2,lX N 3]=AW N from rfl,<-s4]at sn so';rw[<-s4]at tg';have hL:=so'.h;simp only at hL;by_cases h7:s.kind=7
    ·by_cases h3:O.e=0
     ·rw[aU ⟨h7,h3⟩]at sn;simp[h7,h3,hrm];refine⟨⟨fun e he=>by obtain⟨x,_,rfl⟩:=eR.1 he;rfl,by omega⟩,?_⟩;refine⟨by decide+kernel,?_⟩;exact hBm hkm (by constructor<;>simp[hwm,htm,sn,ps,hk,aI])
     ·rw[aH (fun q=>h3 q.2)]at sn;simp[h7,h3,hrm];exact hBm hkm (by constructor<;>simp[hwm,htm,sn,ps,hk,aI])
    rw[aH (fun q=>h7 q.1)]at sn so';by_cases h8:s.kind=8
    ·by_cases hn0:O.n=0
     ·simp[h7,h8,hn0,hrm];exact hBm hkm (by constructor<;>simp[hwm,htm,sn,ps,hk,aI,hn0])
     ·obtain⟨i,Hi,i4,hsd,hil,hat,hany⟩:=tg' h8 hn0;simp[h7,h8,hn0,hrm];generalize hG:gT Hi s.side O.n O.iT=G at hany;refine aQ.inv mixed rfl (ι:={k:Nat//k<=W.length}) (fun k=>[(5,bool true),(6,.ptr 640 0),(7,aC (l.map cZ)),(8,.own 1216),(9,.own 1217),(10,.own 1218),(11,int km),(12,.ptr 1859 0),(18,bool ((W.take k.1).any G)),(19,int k.1)]) (fun k=>BD 640 N (aI N 0 (cR c))++[(1859,.cells ((eV O).map .d) 42),(1216,.grow 1 ((H').map fun o=>[lD (o.1.map aK)]) 44),(1217,.grow 1 ((H').map fun o=>[bD o.2]) 4),(1218,.grow 8 (W.map K3) 67)]) 3715 (fun k=>W.length-k.1) ⟨0,by omega⟩ [] (by constructor<;>simp[hk,aI]) ?_;rintro⟨u,hu5⟩ B2 hB2;refine CI.n ?_;simp[hk,aI];refine aJ (fun h5=>?_) (fun h5=>?_)<;>simp only[h5]<;>simp<;>(try simp only[nT,nF,dT,dF]at h5)
      ·have hu6:u<W.length:=by omega
       obtain⟨w,hw⟩:∃w,W[u]? =some w:=⟨_,cI hu6⟩;have hg:W[u]=w:=(cC.1 hw).2;have tu:W.take (u+1)=W.take u++[w]:=by rw[nZ,hw];rfl
       have wu:IntKind.wrap .i64 ((u:Int)+1)=u+1:=wrap_i64 (by omega) (by omega);obtain⟨f1,f2,f3⟩:=so.af w (eH hw);have gw:G w=(decide (w.1=s.side)&&decide (w.2.1=O.n)&&uJ Hi (qT O.iT w.2.2.2) w.2.2.1 Hi.length):=by rw[<-hG];rfl
       simp[hw,hg,hu6];by_cases hmt:w.1=s.side/\w.2.1=O.n
       ·obtain⟨m1,m2⟩:=hmt;rw[m1,m2]at gw;simp only[yT,tU]at gw;refine aQ.inv mixed rfl (ι:={k:Nat//w.2.2.1<=k/\k<=km+1}) (fun k=>[(5,bool true),(6,.ptr 640 0),(7,aC (l.map cZ)),(8,.own 1216),(9,.own 1217),(10,.own 1218),(11,int km),(12,.ptr 1859 0),(18,bool ((W.take u).any G||uJ Hi (qT O.iT w.2.2.2) w.2.2.1 k.1)),(19,int u),(20,.ptr 4227 0),(21,int k.1)]) (fun k=>BD 640 N (aI N 0 (cR c))++[(1859,.cells ((eV O).map .d) 42),(1216,.grow 1 ((H').map fun o=>[lD (o.1.map aK)]) 44),(1217,.grow 1 ((H').map fun o=>[bD o.2]) 4),(1218,.grow 8 (W.map K3) 67),(4227,.cells ((K3 w).map .d) 67)]) 4547 (fun k=>km+1-k.1) ⟨w.2.2.1,by omega,by omega⟩ [] (by constructor<;>simp[hk,aI,Pt]) ?_;rintro⟨t,ht5,ht6⟩ B3 hB3;refine CI.n ?_;simp[hk,aI];refine bX (fun h6=>?_) (fun h6=>?_)<;>simp only[h6]<;>simp[m1,m2,hrm]<;>(try simp only[nT,nF,dT,dF]at h6)
        ·have ht7:t<Hi.length:=by omega
         obtain⟨o,ho⟩:∃o,Hi[t]? =some o:=⟨_,cI ht7⟩;obtain⟨p,hp⟩:∃p:Nat,4*t+i=p:=⟨_,rfl⟩;have hp1:=hat t (by omega);rw[ho,hp]at hp1;have hp2:p<H'.length:=(cC.1 hp1).1;have hp3:H'[p]=o:=(cC.1 hp1).2;obtain⟨g1,g2⟩:=so'.hf o (eH hp1);have fs:=Pu (qT O.iT w.2.2.2) ho ht5;have wt:IntKind.wrap .i64 ((t:Int)+1)=t+1:=wrap_i64 (by omega) (by omega);have w4:IntKind.wrap .i64 (4*(t:Int))=4*t:=wrap_i64 (by omega) (by omega);have wp:IntKind.wrap .i64 (4*(t:Int)+i)=p:=by rw[wrap_i64 (by omega) (by omega)];omega
         have fs2:((W.take u).any G||uJ Hi (qT O.iT w.2.2.2) w.2.2.1 (t+1))=(((W.take u).any G||uJ Hi (qT O.iT w.2.2.2) w.2.2.1 t)||qT O.iT w.2.2.2 o):=by rw[fs,Bool.or_assoc]
         refine⟨by decide+kernel,?_⟩;simp[m1,m2,hsd,w4,wp,hp1,hp2,hp3,hrm];generalize hb:((W.take u).any G||uJ Hi (qT O.iT w.2.2.2) w.2.2.1 t)=b at fs2⊢;cases b with
         |true=>
          simp;refine⟨by decide+kernel,?_⟩;refine hB3 _ ⟨t+1,by omega,by omega⟩ [] ?_ (by simp;omega);constructor<;>simp[wt,fs2,hk,aI,m1,m2,hsd]
         |false=>
          simp[hp1,hp2,hp3];refine CI.p (TJ o.1 o.2 w.2.2.2 g1 g2 f1 f2) ?_ (ha:=by simp[hp1,hp2,hp3]);simp[hp1,hp2,hp3];have qx:qT O.iT w.2.2.2 o=((decide ((iZ o.1 o.2 w.2.2.2).nD=O.iT.nD)&&(decide ((iZ o.1 o.2 w.2.2.2).gI=O.iT.gI)&&decide ((iZ o.1 o.2 w.2.2.2).host=O.iT.host)))&&wE o.1 O.iT&&(!decide (O.iT.nD=0)|| !o.2)):=by rw[<-Tb];rfl
          refine bX (fun hq=>?_) (fun hq=>?_)<;>simp only[hq]<;>simp[hp1,hp2,hp3]
          ·rw[hq]at qx;refine CI.p (Uk o.1 O.iT g1 g2) ?_ (ha:=by simp[hp1,hp2,hp3]);simp[hp1,hp2,hp3];cases hwi:wE o.1 O.iT with
           |false=>
            rw[hwi]at qx;simp;refine⟨by decide+kernel,?_⟩;refine hB3 _ ⟨t+1,by omega,by omega⟩ [] ?_ (by simp;omega);constructor<;>simp[wt,fs2,qx,hk,aI,m1,m2,hsd]
           |true=>
            rw[hwi]at qx;simp;by_cases h0:O.iT.nD=0
            ·simp[h0,hp1,hp2,hp3];refine⟨by decide+kernel,?_⟩;refine hB3 _ ⟨t+1,by omega,by omega⟩ [] ?_ (by simp;omega);constructor<;>simp[wt,fs2,qx,h0,hk,aI,m1,m2,hsd]
            ·simp[h0];refine⟨by decide+kernel,?_⟩;refine hB3 _ ⟨t+1,by omega,by omega⟩ [] ?_ (by simp;omega);constructor<;>simp[wt,fs2,qx,h0,hk,aI,m1,m2,hsd]
          ·rw[hq]at qx;refine⟨by decide+kernel,?_⟩;refine hB3 _ ⟨t+1,by omega,by omega⟩ [] ?_ (by simp;omega);constructor<;>simp[wt,fs2,qx,hk,aI,m1,m2,hsd]
        ·have et:t=Hi.length:=by omega
         subst et;refine⟨by decide+kernel,?_⟩;refine hB2 _ ⟨u+1,by omega⟩ [] ?_ (by simp;omega);constructor<;>simp[wu,tu,gw,hk,aI]
       ·have gz:G w=false:=by rw[gw];by_cases e1:w.1=s.side<;>by_cases e2:w.2.1=O.n<;>simp[e1,e2]<;>exact absurd ⟨e1,e2⟩ hmt
        by_cases e1:w.1=s.side
        ·have e2:¬w.2.1=O.n:=fun e=>hmt ⟨e1,e⟩;refine aQ.rounds 1 ?_;refine dE.s ?_;simp[f3,e1,e2,hrm];refine⟨by decide+kernel,?_⟩;refine hB2 _ ⟨u+1,by omega⟩ [] ?_ (by simp;omega);constructor<;>simp[wu,tu,gz,hk,aI]
        ·refine aQ.rounds 1 ?_;refine dE.s ?_;simp[f3,e1,hrm];refine⟨by decide+kernel,?_⟩;refine hB2 _ ⟨u+1,by omega⟩ [] ?_ (by simp;omega);constructor<;>simp[wu,tu,gz,hk,aI]
      ·have e5:u=W.length:=by omega
       subst e5;simp[fA,hany];exact hBm hkm (by constructor<;>simp[hwm,htm,sn,ps,hk,aI])
    ·simp[h7,h8,hrm];exact hBm hkm (by constructor<;>simp[hwm,htm,sn,ps,hk,aI])
  ·obtain rfl:km=(l).length:=by simp at hm;omega
   simp only[hm];simp;exact⟨[],by constructor<;>simp[aV,aW]⟩
theorem Wl (c:bS)(l:List bJ)(ha:∀s∈l,dK s.aD)(hl:l.length<=9223372036854775807)(hf:mJ l=false):cO eY prog 3 [st (jR c),aC (l.map cZ)] [] [] (bool true) []:=by
 refine cO.B lZ func3 ?_;simp;refine CI.j [] ND ?_;simp;refine CI.p (MX l ha hl) ?_ (ha:=by simp[hf]);simp[hf];exact aB (by simp[hf]) rfl
theorem Wg (c:bS)(l:List bJ)(h:l.length<=9223372036854775807/\∀s∈l,J9 s):cO eY prog 3 [st (jR c),aC (l.map cZ)] [] [] (bool true) []:=by
 have hl:=h.1;have ha:∀s∈l,dK s.aD:=fun s hs=>(h.2 s hs).aD;by_cases hf:mJ l=true
 ·exact We c l ha hl hf
 ·exact Wl c l ha hl (by simpa using hf)
end Go.Proofs.YtegplpagkajolaaGreatDoor
